/- Plain texts of this claim, part 2. By an AI agent. -/
import Derived.Test.YtmaclbnodbcniaaFsTlP1
/-
  TlFlo6: a task's pipes filled.
  By an AI agent.
-/
set_option linter.all false
namespace TL
variable{n2 s t v u w x y d B M k n most ak fl:Int}{W W' W0 W1:List bS}{O:List (List Int)}{P P' lv nx nx' far:List Int}{m f i:Nat}
abbrev gK:=List bS×List Int×List Int×List Int×Int
def lU(n2 s t ak:Int)(O:List (List Int)):Nat->Nat->List bS->List Int->List Int->List Int->Int->gK
  |0,_,W,P,far,nx,fl=>(W,P,far,nx,fl)
  |f+1,ph,W,P,far,nx,fl=>
    if ph=0 then
      if gI (c9 n2 s W O P) t=dg then(W,P,c9 n2 s W O P,nx,fl) else lU n2 s t ak O f 1 W (cV P (c9 n2 s W O P) (gI (c9 n2 s W O P) t)) (c9 n2 s W O P) nx fl
    else if ph=1 then lU n2 s t ak O f (if 0<=gI (bz n2 s W O P).1 t then 2 else 0) W P (bz n2 s W O P).1 (fy n2) fl
    else if 0<(pu n2 O P far t s ak W nx).1 then lU n2 s t ak O f 2 (pu n2 O P far t s ak W nx).2.1 P far (pu n2 O P far t s ak W nx).2.2 (fl+(pu n2 O P far t s ak W nx).1)
    else lU n2 s t ak O f 1 (pu n2 O P far t s ak W nx).2.1 P far (pu n2 O P far t s ak W nx).2.2 fl
structure qD(n2 s t ak B M:Int)(W0:List bS)(O:List (List Int)):Prop where
  sh:j8 n2 W0 O
  s0:0<=s
  s1:s<n2
  t0:0<=t
  t1:t<n2
  st:s≠t
  n2b:n2<=5000
  hB:B=n2*1048576
  hM:M=1048576+B
  sum:du W0 (gI O s)=ak
  rb:∀w,dG W0 w->bL W0 w+bL W0 (c8 w)<=1048576
  rm:∀w,dG W0 w->0<=bL W0 w
  rd:∀w,dG W0 w->0<bL W0 w->0<=fh W0 w
  ab:ak<=1099511627776
structure sC(n2 s t:Int)(W0 W:List bS)(O:List (List Int))(fl:Int):Prop where
  sm:kp W0 W
  rm:∀w,dG W0 w->0<=bL W w
  sum:∀u,0<=u->u<n2->du W (gI O u)=du W0 (gI O u)-(if u=s then fl else 0)+(if u=t then fl else 0)
  f0:0<=fl
structure j3(n2 s t ak B M:Int)(W0:List bS)(O:List (List Int))(W:List bS)(P:List Int)(fl:Int):Prop where
  b:qD n2 s t ak B M W0 O
  d:fE n2 s B M W O P
  p:s9 n2 s t P
  l:sC n2 s t W0 W O fl
structure mO(n2 s t ak B M:Int)(W0:List bS)(O:List (List Int))(R:gK)(f:Nat)(W:List bS)(P far nx:List Int)(fl:Int):Prop where
 i:j3 n2 s t ak B M W0 O W P fl
 g:lU n2 s t ak O f 0 W P far nx fl=R
 m:5*(ak-fl).toNat+3<=f
structure oQ(n2 s t ak B M:Int)(W0:List bS)(O:List (List Int))(R:gK)(f:Nat)(W:List bS)(P far nx:List Int)(fl:Int):Prop where
 i:j3 n2 s t ak B M W0 O W P fl
 g:lU n2 s t ak O f 1 W P far nx fl=R
 m:(ZpW W P s t/\5*(ak-fl).toNat+2<=f)\/5*(ak-fl).toNat+4<=f
 ap:0<ak
structure mR(n2 s t ak B M:Int)(W0:List bS)(O:List (List Int))(R:gK)(f:Nat)(W:List bS)(P lv nx:List Int)(fl:Int):Prop where
 i:j3 n2 s t ak B M W0 O W P fl
 u:nS n2 W O lv nx
 ll:(lv.length:Int)=n2
 g:lU n2 s t ak O f 2 W P lv nx fl=R
 m:((qw n2 s W P lv/\0<=gI lv t/\nx=fy n2)/\5*(ak-fl).toNat+1<=f)\/5*(ak-fl).toNat+5<=f
 ap:0<ak
theorem jB:∀(l:List Int),(∀w∈l,0<=bL W w)->0<=du W l
 |[],_=>Int.le_refl _
 |a::l,h=>by
   have:=h a (List.mem_cons_self ..)
   have:=jB l λw hw=>h w (List.mem_cons_of_mem _ hw)
   show 0<=bL W a+du W l
   omega
theorem kE:∀(l:List Int),(∀w∈l,0<=bL W w)->w∈l->0<bL W w->0<du W l
 |[],_,hw,_=>by cases hw
 |a::l,h,hw,hr=>by
   have h1:=h a (List.mem_cons_self ..)
   have h2:∀w∈l,0<=bL W w:=λw hw=>h w (List.mem_cons_of_mem _ hw)
   have h3:=jB l h2
   show 0<bL W a+du W l
   rcases List.mem_cons.1 hw with q|q
   · rw[q] at hr;omega
   · have:=kE l h2 q hr
     omega
theorem j3.le(h:j3 n2 s t ak B M W0 O W P fl):fl<=ak/\du W (gI O s)=ak-fl:=by
 have h1:=h.l.sum s h.b.s0 h.b.s1
 rw[if_pos rfl,if_neg h.b.st,h.b.sum] at h1
 have h2:=jB (W:=W) (gI O s) λw hw=>h.l.rm w (h.b.sh.row s h.b.s0 h.b.s1 w hw).1
 omega
theorem j3.zp(h:j3 n2 s t ak B M W0 O W P fl)(hz:ZpW W P s t):fl<ak:=by
 obtain⟨w,a1,a2,a3,_⟩:=kS (qC hz) h.b.st
 have hm:w∈gI O s:=by rw[<-a2];exact h.d.sh.all w a1
 have:=kE (W:=W) (gI O s) (λw hw=>h.l.rm w (h.b.sh.row s h.b.s0 h.b.s1 w hw).1) hm a3
 have:=h.le.2
 omega
theorem j3.pui(h:j3 n2 s t ak B M W0 O W P fl)(hl:qw n2 s W P lv)(hn:qE n2 O nx):nS n2 W O lv nx:=by
 obtain⟨qu,hq⟩:=hl.l
 have:=h.b.s0
 have:=h.b.s1
 refine⟨h.d.sh,λw hw=>h.l.rm w (h.l.sm.inn.1 hw),hn,λv a b=>hq.top (by omega) a b,λw hw=>?_⟩
 have:=h.l.sm.rm w (h.l.sm.inn.1 hw)
 have:=h.b.rb w (h.l.sm.inn.1 hw)
 omega
theorem j3.room(h:j3 n2 s t ak B M W0 O W P fl)(hw:dG W w):0<=bL W w/\bL W w<=1048576:=by
  have hw0:=h.l.sm.inn.1 hw
  have:=h.l.sm.rm w hw0
  have:=h.b.rb w hw0
  have:=h.l.rm w hw0
  have:=h.l.rm _ (h.b.sh.tw hw0)
  omega
theorem j3.push(h:j3 n2 s t ak B M W0 O W P fl){r:Int×List bS×List Int}(e:ry n2 t s most W O P lv nx r):j3 n2 s t ak B M W0 O r.2.1 P (fl+r.1):=by
 have hsh:=e.sm.sh h.d.sh
 refine⟨h.b,⟨hsh,⟨h.d.pt.pl,h.d.pt.pb,λw hw=>e.rm w (e.sm.inn.1 hw),λw hw hr=>?_⟩,h.d.s0,h.d.s1,h.d.b0,h.d.hM,h.d.hb⟩,h.p,⟨h.l.sm.trans e.sm,λw hw=>e.rm w (h.l.sm.inn.2 hw),λu a b=>?_,by have:=h.l.f0;have:=e.k0;omega⟩⟩
 · rw[e.sm.rd hw.1,e.sm.fr hw.1]
   rcases e.pos w (e.sm.inn.1 hw) hr with q|q
   · exact h.d.pt.rd w (e.sm.inn.1 hw) q
   · omega
 · rw[e.sum u a b,h.l.sum u a b]
   have hst:=h.b.st
   split<;>split<;>omega
theorem mO.pos{R:gK}(h:mO n2 s t ak B M W0 O R f W P far nx fl):∃g,f=g+1:=⟨f-1,by have:=h.m;omega⟩
theorem mO.stop{R:gK}(h:mO n2 s t ak B M W0 O R f W P far nx fl)(hs:gI (c9 n2 s W O P) t=dg):R=(W,P,c9 n2 s W O P,nx,fl):=by
 obtain⟨g,rfl⟩:=h.pos
 have hg:=h.g
 unfold lU at hg
 rw[if_pos rfl,if_pos hs] at hg
 exact hg.symm
theorem mO.go{R:gK}(h:mO n2 s t ak B M W0 O R f W P far nx fl)(hs:¬gI (c9 n2 s W O P) t=dg):oQ n2 s t ak B M W0 O R (f-1) W (cV P (c9 n2 s W O P) (gI (c9 n2 s W O P) t)) (c9 n2 s W O P) nx fl:=by
 have hm:=h.m
 obtain⟨g,rfl⟩:=h.pos
 have hg:=h.g
 unfold lU at hg
 rw[if_pos rfl,if_neg hs] at hg
 obtain⟨r1,r2,r3⟩:=kU h.i.d h.i.b.hB (eE h.i.d) h.i.p ⟨h.i.b.t0,h.i.b.t1⟩ hs
 have hi:j3 n2 s t ak B M W0 O W (cV P (c9 n2 s W O P) (gI (c9 n2 s W O P) t)) fl:=⟨h.i.b,r1,r2,h.i.l⟩
 have:=hi.zp r3
 have:=h.i.l.f0
 exact⟨hi,hg,.inl ⟨r3,by omega⟩,by omega⟩
theorem fY(hb:fE n2 s B M W O P):qw n2 s W P (bz n2 s W O P).1:=by
 have hs:=hb.sh
 have n0:0<=n2:=by have:=hb.s0;have:=hb.s1;omega
 have row:∀(n i k:Nat) (v:Int) (lv qu:List Int),(gI O v).length=k+n->iZ n2 s W O P (bz n2 s W O P) lv qu i k v->jO n2 s W O P (bz n2 s W O P) (((gI O v).drop k).foldl (fO W P v) (lv,qu)).1 (((gI O v).drop k).foldl (fO W P v) (lv,qu)).2 (i+1):=by
   intro n
   induction n with
   |zero=>
     intro i k v lv qu hn h
     rw[List.drop_eq_nil_of_le (by omega)]
     exact h.done (by omega)
   |succ n ih=>
     intro i k v lv qu hn h
     rw[fe (by omega),List.foldl_cons]
     unfold fO
     by_cases c:0<bL W (gI (gI O v) (k:Int))/\gI lv (bE W (gI (gI O v) (k:Int)))<0/\dA W P v (gI (gI O v) (k:Int))=0
     · rw[if_pos c]
       exact ih i (k+1) v _ _ (by omega) (h.yes hs (by omega) c.1 c.2.1 c.2.2 rfl rfl)
     · rw[if_neg c]
       exact ih i (k+1) v _ _ (by omega) (h.no (by omega) c)
 have go:∀(n i:Nat) (lv qu:List Int),n2.toNat=i+n->jO n2 s W O P (bz n2 s W O P) lv qu i->qw n2 s W P (bz n2 s W O P).1:=by
   intro n
   induction n with
   |zero=>
     intro i lv qu hn h
     have:=h.l.ql n0
     have hi:¬(i:Int)<qu.length:=by omega
     rw[<-h.fin hi]
     exact h.end_ hs hi
   |succ n ih=>
     intro i lv qu hn h
     by_cases c:(i:Int)<qu.length
     · have:=row (gI O (gI qu (i:Int))).length i 0 _ lv qu (by omega) (h.row c n0)
       rw[List.drop_zero] at this
       exact ih (i+1) _ _ (by omega) this
     · rw[<-h.fin c]
       exact h.end_ hs c
 exact go n2.toNat 0 _ _ (by omega) (kt hb.s0 hb.s1)
theorem oQ.pos{R:gK}(h:oQ n2 s t ak B M W0 O R f W P far nx fl):∃g,f=g+1:=⟨f-1,by rcases h.m with⟨_,q⟩|q<;>omega⟩
theorem oQ.yes{R:gK}(h:oQ n2 s t ak B M W0 O R f W P far nx fl)(hl:0<=gI (bz n2 s W O P).1 t):mR n2 s t ak B M W0 O R (f-1) W P (bz n2 s W O P).1 (fy n2) fl:=by
 have hm:5*(ak-fl).toNat+2<=f:=by rcases h.m with⟨_,q⟩|q<;>omega
 obtain⟨g,rfl⟩:=h.pos
 have hg:=h.g
 unfold lU at hg
 rw[if_neg (by decide),if_pos rfl,if_pos hl] at hg
 have hf:=fY h.i.d
 have n0:0<=n2:=by have:=h.i.b.s0;have:=h.i.b.s1;omega
 exact⟨h.i,h.i.pui hf (rO n0),by obtain⟨qu,hq⟩:=hf.l;exact hq.ll,hg,.inl ⟨⟨hf,hl,rfl⟩,by omega⟩,h.ap⟩
theorem oQ.no{R:gK}(h:oQ n2 s t ak B M W0 O R f W P far nx fl)(hl:¬0<=gI (bz n2 s W O P).1 t):mO n2 s t ak B M W0 O R (f-1) W P (bz n2 s W O P).1 (fy n2) fl:=by
 have hm:=h.m
 obtain⟨g,rfl⟩:=h.pos
 have hg:=h.g
 unfold lU at hg
 rw[if_neg (by decide),if_pos rfl,if_neg hl] at hg
 refine⟨h.i,hg,?_⟩
 rcases hm with⟨q,_⟩|q
 · exact absurd (qj (fY h.i.d) q) hl
 · omega
theorem mR.pos{R:gK}(h:mR n2 s t ak B M W0 O R f W P lv nx fl):∃g,f=g+1:=⟨f-1,by rcases h.m with⟨_,q⟩|q<;>omega⟩
theorem mR.ok{R:gK}(h:mR n2 s t ak B M W0 O R f W P lv nx fl):ry n2 t s ak W O P lv nx (pu n2 O P lv t s ak W nx):=iy _ s ak W nx (by have:=h.ap;omega) h.u h.i.b.s0 h.i.b.s1
theorem mR.yes{R:gK}(h:mR n2 s t ak B M W0 O R f W P lv nx fl){r:Int×List bS×List Int}(hr:r=pu n2 O P lv t s ak W nx)(hp:0<r.1):mR n2 s t ak B M W0 O R (f-1) r.2.1 P lv r.2.2 (fl+r.1)/\f-1<f:=by
 have e:=h.ok
 have hm:=h.m
 obtain⟨g,rfl⟩:=h.pos
 have hg:=h.g
 unfold lU at hg
 rw[if_neg (by decide),if_neg (by decide)] at hg
 rw[<-hr] at e hg
 rw[if_pos hp] at hg
 have hi:=h.i.push e
 have h2:=hi.le.1
 refine⟨⟨hi,e.pui h.u,h.ll,hg,.inr ?_,h.ap⟩,by omega⟩
 rcases hm with⟨_,q⟩|q<;>omega
theorem mR.no{R:gK}(h:mR n2 s t ak B M W0 O R f W P lv nx fl){r:Int×List bS×List Int}(hr:r=pu n2 O P lv t s ak W nx)(hp:¬0<r.1):oQ n2 s t ak B M W0 O R (f-1) r.2.1 P lv r.2.2 fl:=by
 have e:=h.ok
 have hm:=h.m
 obtain⟨g,rfl⟩:=h.pos
 have hg:=h.g
 unfold lU at hg
 rw[if_neg (by decide),if_neg (by decide)] at hg
 rw[<-hr] at e hg
 rw[if_neg hp] at hg
 have hi:=h.i.push e
 have hz:r.1=0:=by have:=e.k0;omega
 rw[hz,Int.add_zero] at hi
 refine⟨hi,hg,.inr ?_,h.ap⟩
 rcases hm with⟨⟨q1,q2,q3⟩,_⟩|q
 · subst q3
   have hu:=h.u
   have:=mW (P:=P) (most:=ak) hu q1 h.i.b.s0 h.i.b.s1 h.i.b.st h.i.b.t0 h.i.b.t1 q2 h.ap
   rw[<-hr] at this
   exact absurd this hp
 · omega
structure qT(n2 s t ak B M:Int)(W0:List bS)(O:List (List Int))(R:gK):Prop where
  i:j3 n2 s t ak B M W0 O R.1 R.2.1 R.2.2.2.2
  far:R.2.2.1=c9 n2 s R.1 O R.2.1
  un:gI R.2.2.1 t=dg
theorem mO.stopE{R:gK}(h:mO n2 s t ak B M W0 O R f W P far nx fl)(hs:gI (c9 n2 s W O P) t=dg):qT n2 s t ak B M W0 O R:=by
 have:=h.stop hs
 subst this
 exact⟨h.i,rfl,hs⟩
def fK(n2 s t ak:Int)(W:List bS)(O:List (List Int)):gK:=lU n2 s t ak O (5*ak.toNat+3) 0 W (List.replicate n2.toNat 0) (List.replicate n2.toNat 0) (List.replicate n2.toNat 0) 0
theorem qD.bd(h:qD n2 s t ak B M W0 O):fE n2 s B M W0 O (List.replicate n2.toNat 0):=by
 have h1:=h.n2b
 have h2:=h.hB
 have h3:=h.hM
 have h4:=h.s0
 have h5:=h.s1
 have z:∀v,0<=v->v<n2->gI (List.replicate n2.toNat (0:Int)) v=0:=λv a b=>dD a (by omega)
 refine⟨h.sh,⟨by simp;omega,λv a b=>by rw[z v a b];omega,h.rm,λw hw hr=>?_⟩,h4,h5,by omega,h3,?_⟩
 · have hf:=h.sh.fr hw
   have ht:=h.sh.to w hw
   unfold dA
   rw[z _ hf.1 hf.2,z _ ht.1 ht.2]
   have:=h.rd w hw hr
   omega
 · have hM:M<=5243928576:=by omega
   have hM0:0<=M:=by omega
   have e1:n2*M<=5000*5243928576:=Int.le_trans (Int.mul_le_mul_of_nonneg_right h1 hM0) (Int.mul_le_mul_of_nonneg_left hM (by decide))
   have e2:(5000:Int)*5243928576+5243928576<dg:=by decide
   omega
theorem qD.start(h:qD n2 s t ak B M W0 O):mO n2 s t ak B M W0 O (fK n2 s t ak W0 O) (5*ak.toNat+3) W0 (List.replicate n2.toNat 0) (List.replicate n2.toNat 0) (List.replicate n2.toNat 0) 0:=by
 have h4:=h.s0
 have h5:=h.s1
 have z:∀v,0<=v->v<n2->gI (List.replicate n2.toNat (0:Int)) v=0:=λv a b=>dD a (by omega)
 refine⟨⟨h,h.bd,⟨z s h4 h5,λv a b=>by rw[z v a b,z t h.t0 h.t1];omega⟩,⟨.refl _,h.rm,λu _ _=>by simp,Int.le_refl _⟩⟩,rfl,by omega⟩
theorem p8(h:qD n2 s t ak B M W0 O):qT n2 s t ak B M W0 O (fK n2 s t ak W0 O):=by
 have na:∀(f:Nat),(∀W P far nx fl,mO n2 s t ak B M W0 O (fK n2 s t ak W0 O) f W P far nx fl->qT n2 s t ak B M W0 O (fK n2 s t ak W0 O))/\(∀W P far nx fl,oQ n2 s t ak B M W0 O (fK n2 s t ak W0 O) f W P far nx fl->qT n2 s t ak B M W0 O (fK n2 s t ak W0 O))/\(∀W P far nx fl,mR n2 s t ak B M W0 O (fK n2 s t ak W0 O) f W P far nx fl->qT n2 s t ak B M W0 O (fK n2 s t ak W0 O)):=by
   intro f
   induction f with
   |zero=>exact⟨λ_ _ _ _ _ q=>by have:=q.pos;simp at this,λ_ _ _ _ _ q=>by have:=q.pos;simp at this,λ_ _ _ _ _ q=>by have:=q.pos;simp at this⟩
   |succ f ih=>
     obtain⟨i1,i2,i3⟩:=ih
     refine⟨λW P far nx fl q=>?_,λW P far nx fl q=>?_,λW P far nx fl q=>?_⟩
     · by_cases c:gI (c9 n2 s W O P) t=dg
       · exact q.stopE c
       · exact i2 _ _ _ _ _ (q.go c)
     · by_cases c:0<=gI (bz n2 s W O P).1 t
       · exact i3 _ _ _ _ _ (q.yes c)
       · exact i1 _ _ _ _ _ (q.no c)
     · by_cases c:0<(pu n2 O P far t s ak W nx).1
       · exact i3 _ _ _ _ _ (q.yes rfl c).1
       · exact i2 _ _ _ _ _ (q.no rfl c)
 exact(na _).1 _ _ _ _ _ h.start
end TL
/-
  TlFlo7: a task's pipes laid.
  By an AI agent.
-/
set_option linter.all false
namespace TL
abbrev dp:=Int×Int×Int×Int
variable{n2 N s t v u w x y d B M k:Int}{W W' W0 W1:List bS}{O:List (List Int)}{A E:List dp}{D:List Int}{m f i j:Nat}{a:dp}
def SP:Nat->(Nat->Int)->Int
  |0,_=>0
  |m+1,g=>SP m g+g m
theorem bk{g h:Nat->Int}:∀(m:Nat),(∀i,i<m->g i=h i)->SP m g=SP m h
 |0,_=>rfl
 |m+1,e=>by
   show SP m g+g m=SP m h+h m
   rw[bk m λi hi=>e i (by omega),e m (by omega)]
theorem iR{g h:Nat->Int}:∀(m:Nat),SP m (λi=>g i+h i)=SP m g+SP m h
 |0=>rfl
 |m+1=>by
   show SP m (λi=>g i+h i)+(g m+h m)=SP m g+g m+(SP m h+h m)
   rw[iR m];omega
theorem gr{g h:Nat->Int}:∀(m:Nat),SP m (λi=>g i-h i)=SP m g-SP m h
 |0=>rfl
 |m+1=>by
   show SP m (λi=>g i-h i)+(g m-h m)=SP m g+g m-(SP m h+h m)
   rw[gr m];omega
theorem li{g:Nat->Int}(c:Int):∀(m:Nat),SP m (λi=>c*g i)=c*SP m g
 |0=>by show(0:Int)=c*0;omega
 |m+1=>by
   show SP m (λi=>c*g i)+c*g m=c*(SP m g+g m)
   rw[li c m,Int.mul_add]
theorem eg:∀(m:Nat),SP m (λ_=>0)=0
 |0=>rfl
 |m+1=>by
   show SP m (λ_=>0)+0=0
   rw[eg m];rfl
theorem lW{g h:Nat->Int}:∀(m:Nat),(∀i,i<m->g i<=h i)->SP m g<=SP m h
 |0,_=>Int.le_refl _
 |m+1,e=>by
   show SP m g+g m<=SP m h+h m
   have:=lW m λi hi=>e i (by omega)
   have:=e m (by omega)
   omega
theorem lg{g:Nat->Int}:∀(m:Nat),(∀i,i<m->0<=g i)->SP m g=0->∀i,i<m->g i=0
 |0,_,_,i,hi=>by omega
 |m+1,e,h,i,hi=>by
   have h:SP m g+g m=0:=h
   have h1:=lW (g:=λ_=>0) (h:=g) m λi hi=>e i (by omega)
   rw[eg] at h1
   have h2:=e m (by omega)
   by_cases c:i=m
   · rw[c];omega
   · exact lg m (λi hi=>e i (by omega)) (by omega) i (by omega)
theorem mg{F:Nat->Nat->Int}:∀(n m:Nat),SP n (λu=>SP m (λi=>F u i))=SP m (λi=>SP n (λu=>F u i))
 |0,m=>(eg m).symm
 |n+1,m=>by
   show SP n (λu=>SP m (λi=>F u i))+SP m (λi=>F n i)=_
   rw[mg n m,<-iR]
   rfl
theorem kd{c:Int}{k:Nat}:∀(m:Nat),k<m->SP m (λi=>if i=k then c else 0)=c
 |0,h=>by omega
 |m+1,h=>by
   show SP m (λi=>if i=k then c else 0)+(if m=k then c else 0)=c
   by_cases q:m=k
   · rw[if_pos q,bk (h:=λ_=>0) m λi hi=>if_neg (by omega),eg];omega
   · rw[if_neg q,kd m (by omega)];omega
theorem jV{g:Nat->Int}(a:Nat):∀(b:Nat),SP (a+b) g=SP a g+SP b (λi=>g (a+i))
 |0=>by show SP a g=SP a g+0;omega
 |b+1=>by
   show SP (a+b) g+g (a+b)=SP a g+(SP b (λi=>g (a+i))+g (a+b))
   rw[jV a b];omega
def cT(c:List bS×List (List Int))(fr to room cost:Int):List bS×List (List Int):=
 ((c.1++[(to,room,cost)])++[(fr,0,-cost)],(c.2.set fr.toNat (gI c.2 fr++[(c.1.length:Int)])).set to.toNat (gI (c.2.set fr.toNat (gI c.2 fr++[(c.1.length:Int)])) to++[(c.1.length:Int)+1]))
def jd(c:List bS×List (List Int))(a:dp):List bS×List (List Int):=cT c a.1 a.2.1 a.2.2.1 a.2.2.2
def sd(n2:Int):List bS×List (List Int):=([],List.replicate n2.toNat [])
def ig(n2:Int)(E:List dp):List bS×List (List Int):=E.foldl jd (sd n2)
theorem iu:ig n2 (E++[a])=jd (ig n2 E) a:=by unfold ig;rw[List.foldl_append];rfl
def m4(E:List dp):Nat->Int->List Int
 |0,_=>[]
 |m+1,u=>(m4 E m u++(if(gI E (m:Int)).1=u then[2*(m:Int)] else[]))++(if(gI E (m:Int)).2.1=u then[2*(m:Int)+1] else[])
def s7(n2:Int)(E:List dp):Prop:=∀a∈E,(0<=a.1/\a.1<n2)/\(0<=a.2.1/\a.2.1<n2)/\(0<=a.2.2.1/\a.2.2.1<=1048576)/\0<=a.2.2.2/\a.2.2.2<=1048576
structure kn(n2:Int)(E:List dp)(m:Nat)(c:List bS×List (List Int)):Prop where
 lw:c.1.length=2*m
 ol:(c.2.length:Int)=n2
 fw:∀i:Nat,i<m->gI c.1 (2*(i:Int))=((gI E (i:Int)).2.1,(gI E (i:Int)).2.2.1,(gI E (i:Int)).2.2.2)
 bw:∀i:Nat,i<m->gI c.1 (2*(i:Int)+1)=((gI E (i:Int)).1,0,-(gI E (i:Int)).2.2.2)
 row:∀u,0<=u->u<n2->gI c.2 u=m4 E m u
theorem o9(n0:0<=n2):kn n2 E 0 (sd n2):=by
 refine⟨rfl,by unfold sd;simp;omega,λi hi=>by omega,λi hi=>by omega,λu a b=>?_⟩
 unfold sd
 exact dD a (by omega)
theorem kn.add{c:List bS×List (List Int)}(h:kn n2 E m c)(hr:s7 n2 E)(hm:(m:Int)<E.length):kn n2 E (m+1) (jd c (gI E (m:Int))):=by
 obtain⟨⟨f0,f1⟩,⟨t0,t1⟩,_,_⟩:=hr _ (bp (xs:=E) (i:=(m:Int)) (by omega) hm)
 have hl:=h.lw
 have hol:=h.ol
 have e1:∀i:Int,0<=i->i<2*(m:Int)->gI (jd c (gI E (m:Int))).1 i=gI c.1 i:=λi a b=>by
   show gI ((c.1++[_])++[_]) i=_
   rw[jN (by rw[List.length_append,List.length_singleton];omega) a,jN (by omega) a]
 have e2:gI (jd c (gI E (m:Int))).1 (2*(m:Int))=((gI E (m:Int)).2.1,(gI E (m:Int)).2.2.1,(gI E (m:Int)).2.2.2):=by
   show gI ((c.1++[_])++[_]) _=_
   rw[jN (by rw[List.length_append,List.length_singleton];omega) (by omega),show 2*(m:Int)=(c.1.length:Int) by omega,lq]
 have e3:gI (jd c (gI E (m:Int))).1 (2*(m:Int)+1)=((gI E (m:Int)).1,0,-(gI E (m:Int)).2.2.2):=by
   show gI ((c.1++[((gI E (m:Int)).2.1,(gI E (m:Int)).2.2.1,(gI E (m:Int)).2.2.2)])++[_]) _=_
   rw[show 2*(m:Int)+1=((c.1++[((gI E (m:Int)).2.1,(gI E (m:Int)).2.2.1,(gI E (m:Int)).2.2.2)]).length:Int) by rw[List.length_append,List.length_singleton];omega,lq]
 refine⟨by show((c.1++[_])++[_]).length=_;simp;omega,by show((List.set _ _ _).length:Int)=_;simp;omega,λi hi=>?_,λi hi=>?_,λu a b=>?_⟩
 · by_cases q:i=m
   · rw[q];exact e2
   · rw[e1 _ (by omega) (by omega)];exact h.fw i (by omega)
 · by_cases q:i=m
   · rw[q];exact e3
   · rw[e1 _ (by omega) (by omega)];exact h.bw i (by omega)
 · show gI ((c.2.set (gI E (m:Int)).1.toNat (gI c.2 (gI E (m:Int)).1++[(c.1.length:Int)])).set (gI E (m:Int)).2.1.toNat (gI (c.2.set (gI E (m:Int)).1.toNat (gI c.2 (gI E (m:Int)).1++[(c.1.length:Int)])) (gI E (m:Int)).2.1++[(c.1.length:Int)+1])) u=(m4 E m u++(if(gI E (m:Int)).1=u then[2*(m:Int)] else[]))++(if(gI E (m:Int)).2.1=u then[2*(m:Int)+1] else[])
   have es:∀z,0<=z->z<n2->gI (c.2.set (gI E (m:Int)).1.toNat (gI c.2 (gI E (m:Int)).1++[(c.1.length:Int)])) z=m4 E m z++(if(gI E (m:Int)).1=z then[2*(m:Int)] else[]):=λz z0 z1=>by
     rw[cA f0 (by omega) z0]
     by_cases q:z=(gI E (m:Int)).1
     · rw[if_pos q,if_pos q.symm,h.row _ f0 f1,q,show(c.1.length:Int)=2*(m:Int) by omega]
     · rw[if_neg q,if_neg (λe=>q e.symm),List.append_nil];exact h.row z z0 z1
   rw[cA t0 (by rw[List.length_set];omega) a]
   by_cases q:u=(gI E (m:Int)).2.1
   · rw[if_pos q,if_pos q.symm,es _ t0 t1,q,show(c.1.length:Int)+1=2*(m:Int)+1 by omega]
   · rw[if_neg q,es u a b]
     have:(if(gI E (m:Int)).2.1=u then[2*(m:Int)+1] else[])=[]:=if_neg λe=>q e.symm
     rw[this,List.append_nil]
theorem kj(n0:0<=n2)(hr:s7 n2 E):∀(m:Nat),m<=E.length->kn n2 E m (ig n2 (E.take m))
 |0,_=>by
   rw[List.take_zero]
   exact o9 n0
 |m+1,h=>by
   rw[cG (by omega),iu]
   exact(kj n0 hr m (by omega)).add hr (by omega)
theorem qZ(n0:0<=n2)(hr:s7 n2 E):kn n2 E E.length (ig n2 E):=by
 have:=kj n0 hr E.length (Nat.le_refl _)
 rwa[List.take_length] at this
theorem fL:∀(m:Nat),w∈m4 E m u↔∃i:Nat,i<m/\((w=2*(i:Int)/\(gI E (i:Int)).1=u)\/(w=2*(i:Int)+1/\(gI E (i:Int)).2.1=u))
 |0=>by
   constructor
   · intro h;cases h
   · rintro⟨i,h,_⟩;omega
 |m+1=>by
   unfold m4
   rw[List.mem_append,List.mem_append,fL m]
   constructor
   · rintro((⟨i,h1,h2⟩|h)|h)
     · exact⟨i,by omega,h2⟩
     · split at h
       · rename_i c;exact⟨m,by omega,.inl ⟨List.mem_singleton.1 h,c⟩⟩
       · cases h
     · split at h
       · rename_i c;exact⟨m,by omega,.inr ⟨List.mem_singleton.1 h,c⟩⟩
       · cases h
   · rintro⟨i,h1,h2⟩
     by_cases q:i=m
     · subst q
       rcases h2 with⟨a,b⟩|⟨a,b⟩
       · left;right;rw[if_pos b,a];simp
       · right;rw[if_pos b,a];simp
     · left;left;exact⟨i,by omega,h2⟩
theorem mX:∀(m:Nat),(m4 E m u).Nodup
 |0=>List.nodup_nil
 |m+1=>by
   unfold m4
   have hb:∀w∈m4 E m u,w<2*(m:Int):=λw hw=>by
     obtain⟨i,h1,h2⟩:=(fL m).1 hw
     omega
   rw[List.nodup_append,List.nodup_append]
   refine⟨⟨mX m,by split<;>simp,λa ha b hb2 e=>?_⟩,by split<;>simp,λa ha b hb2 e=>?_⟩
   · have:=hb a ha
     split at hb2
     · have:=List.mem_singleton.1 hb2;omega
     · cases hb2
   · split at hb2
     · have h1:=List.mem_singleton.1 hb2
       rcases List.mem_append.1 ha with q|q
       · have:=hb a q;omega
       · split at q
         · have:=List.mem_singleton.1 q;omega
         · cases q
     · cases hb2
theorem me{g:Int->Int}:∀(m:Nat),((m4 E m u).map g).sum=SP m λi=>(if(gI E (i:Int)).1=u then g (2*(i:Int)) else 0)+(if(gI E (i:Int)).2.1=u then g (2*(i:Int)+1) else 0)
 |0=>rfl
 |m+1=>by
   show(((m4 E m u++_)++_).map g).sum=_+_
   rw[List.map_append,List.map_append,List.sum_append,List.sum_append,me m]
   have e1:∀(c:Prop) [Decidable c] (z:Int),((if c then[z] else[]).map g).sum=if c then g z else 0:=λc _ z=>by
     by_cases q:c
     · rw[if_pos q,if_pos q];simp
     · rw[if_neg q,if_neg q];rfl
   rw[e1,e1];exact Int.add_assoc _ _ _
theorem fa(hw:0<=w)(hl:w<2*(m:Int)):∃i:Nat,i<m/\(w=2*(i:Int)\/w=2*(i:Int)+1):=⟨(w/2).toNat,by omega,by omega⟩
theorem er:c8 (2*(i:Int))=2*(i:Int)+1:=by unfold c8;rw[if_pos (by omega)]
theorem gm:c8 (2*(i:Int)+1)=2*(i:Int):=by unfold c8;rw[if_neg (by omega)];omega
theorem kn.sh{c:List bS×List (List Int)}(h:kn n2 E E.length c)(hr:s7 n2 E)(hl:E.length<=25000):j8 n2 c.1 c.2:=by
 have hlw:=h.lw
 have rg:∀i:Nat,i<E.length->_:=λi hi=>hr _ (bp (xs:=E) (i:=(i:Int)) (by omega) (by omega))
 have f1:∀i:Nat,i<E.length->bE c.1 (2*(i:Int))=(gI E (i:Int)).2.1:=λi hi=>congrArg Prod.fst (h.fw i hi)
 have f2:∀i:Nat,i<E.length->fh c.1 (2*(i:Int))=(gI E (i:Int)).2.2.2:=λi hi=>congrArg (λz=>z.2.2) (h.fw i hi)
 have b1:∀i:Nat,i<E.length->bE c.1 (2*(i:Int)+1)=(gI E (i:Int)).1:=λi hi=>congrArg Prod.fst (h.bw i hi)
 have b2:∀i:Nat,i<E.length->fh c.1 (2*(i:Int)+1)= -(gI E (i:Int)).2.2.2:=λi hi=>congrArg (λz=>z.2.2) (h.bw i hi)
 refine⟨by omega,h.ol,λw hw=>?_,λv v0 v1 w hw=>?_,λw hw=>?_,λv v0 v1=>?_,λw hw=>?_,by omega⟩
 · obtain⟨i,hi,q|q⟩:=fa (m:=E.length) hw.1 (by have:=hw.2;omega)
   · rw[q,f1 i hi];exact(rg i hi).2.1
   · rw[q,b1 i hi];exact(rg i hi).1
 · rw[h.row v v0 v1,fL] at hw
   obtain⟨i,hi,⟨q,e⟩|⟨q,e⟩⟩:=hw
   · refine⟨⟨by omega,by omega⟩,?_⟩
     unfold dm;rw[q,er,b1 i hi];exact e
   · refine⟨⟨by omega,by omega⟩,?_⟩
     unfold dm;rw[q,gm,f1 i hi];exact e
 · obtain⟨i,hi,q|q⟩:=fa (m:=E.length) hw.1 (by have:=hw.2;omega)
   · have e:dm c.1 w=(gI E (i:Int)).1:=by unfold dm;rw[q,er,b1 i hi]
     have:=(rg i hi).1
     rw[e,h.row _ this.1 this.2,fL]
     exact⟨i,hi,.inl ⟨q,rfl⟩⟩
   · have e:dm c.1 w=(gI E (i:Int)).2.1:=by unfold dm;rw[q,gm,f1 i hi]
     have:=(rg i hi).2.1
     rw[e,h.row _ this.1 this.2,fL]
     exact⟨i,hi,.inr ⟨q,rfl⟩⟩
 · rw[h.row v v0 v1];exact mX _
 · obtain⟨i,hi,q|q⟩:=fa (m:=E.length) hw.1 (by have:=hw.2;omega)
   · have:=(rg i hi).2.2.2
     rw[q,er,b2 i hi,f2 i hi];omega
   · have:=(rg i hi).2.2.2
     rw[q,gm,b2 i hi,f2 i hi];omega
end TL
/-
  TlFlo8: a task: what flows over its arcs; cuts.
  By an AI agent.
-/
set_option linter.all false
namespace TL
variable{n2 N s t v u w x y d B M k ak fl:Int}{W W' W0 W1:List bS}{O:List (List Int)}{A E:List dp}{D:List Int}{m f i j:Nat}{a:dp}{c:List bS×List (List Int)}
structure fA(N:Int)(A:List dp)(D:List Int):Prop where
  n0:0<=N
  n1:N<=4096
  al:A.length<=16384
  dl:(D.length:Int)=N
  ar:∀a∈A,(0<=a.1/\a.1<N)/\(0<=a.2.1/\a.2.1<N)/\(0<=a.2.2.1/\a.2.2.1<=1048576)/\0<=a.2.2.2/\a.2.2.2<=1048576
  nd:∀x∈D,-1048576<=x/\x<=1048576
def lz(N v k:Int):List dp:=if 0<k then[(N,v,k,0)] else if k<0 then[(v,N+1,-k,0)] else[]
def fg(N:Int)(D:List Int):Nat->List dp
 |0=>[]
 |j+1=>fg N D j++lz N (j:Int) (gI D (j:Int))
def ck(N:Int)(A:List dp)(D:List Int):List dp:=A++fg N D N.toNat
def de(D:List Int)(j:Nat):Int:=SP j λv=>if 0<gI D (v:Int) then gI D (v:Int) else 0
theorem m9:∀(j:Nat),(fg N D j).length<=j
 |0=>Nat.le_refl _
 |j+1=>by
   unfold fg lz
   have:=m9 j
   rw[List.length_append]
   split
   · simp;omega
   · split
     · simp;omega
     · simp;omega
theorem nV{F:dp->Int}:∀(n:Nat),n<=E.length->SP n (λi=>F (gI E (i:Int)))=((E.take n).map F).sum
 |0,_=>rfl
 |n+1,h=>by
   show SP n (λi=>F (gI E (i:Int)))+F (gI E (n:Int))=_
   rw[nV n (by omega),cG (by omega),List.map_append,List.sum_append]
   simp
theorem jA{F:dp->Int}:SP E.length (λi=>F (gI E (i:Int)))=(E.map F).sum:=by
 have:=nV (F:=F) (E:=E) E.length (Nat.le_refl _)
 rwa[List.take_length] at this
theorem lk{F:dp->Int}:∀(j:Nat),((fg N D j).map F).sum=SP j λv=>if 0<gI D (v:Int) then F (N,(v:Int),gI D (v:Int),0) else if gI D (v:Int)<0 then F ((v:Int),N+1,-gI D (v:Int),0) else 0
 |0=>rfl
 |j+1=>by
   show((fg N D j++lz N (j:Int) (gI D (j:Int))).map F).sum=_+_
   rw[List.map_append,List.sum_append,lk j]
   congr 1
   unfold lz
   show _=if 0<gI D (j:Int) then F (N,(j:Int),gI D (j:Int),0) else if gI D (j:Int)<0 then F ((j:Int),N+1,-gI D (j:Int),0) else 0
   by_cases q:0<gI D (j:Int)
   · rw[if_pos q,if_pos q];simp
   · rw[if_neg q,if_neg q]
     by_cases q2:gI D (j:Int)<0
     · rw[if_pos q2,if_pos q2];simp
     · rw[if_neg q2,if_neg q2];rfl
theorem lj{F:dp->Int}:SP (ck N A D).length (λi=>F (gI (ck N A D) (i:Int)))=SP A.length (λi=>F (gI A (i:Int)))+SP N.toNat λv=>if 0<gI D (v:Int) then F (N,(v:Int),gI D (v:Int),0) else if gI D (v:Int)<0 then F ((v:Int),N+1,-gI D (v:Int),0) else 0:=by
 rw[jA,jA]
 unfold ck
 rw[List.map_append,List.sum_append,lk]
theorem fA.dat(h:fA N A D)(v0:0<=v)(v1:v<N): -1048576<=gI D v/\gI D v<=1048576:=h.nd _ (bp v0 (by have:=h.dl;omega))
theorem hX:∀(j:Nat),a∈fg N D j->∃v:Nat,v<j/\((0<gI D (v:Int)/\a=(N,(v:Int),gI D (v:Int),0))\/(gI D (v:Int)<0/\a=((v:Int),N+1,-gI D (v:Int),0)))
 |0,h=>by cases h
 |j+1,h=>by
   unfold fg at h
   rcases List.mem_append.1 h with q|q
   · obtain⟨v,hv,r⟩:=hX j q
     exact⟨v,by omega,r⟩
   · unfold lz at q
     split at q
     · rename_i c;exact⟨j,by omega,.inl ⟨c,List.mem_singleton.1 q⟩⟩
     · split at q
       · rename_i c;exact⟨j,by omega,.inr ⟨c,List.mem_singleton.1 q⟩⟩
       · cases q
theorem fA.rg(h:fA N A D):s7 (N+2) (ck N A D):=by
 have hn:=h.n0
 intro a ha
 rcases List.mem_append.1 ha with q|q
 · obtain⟨a1,a2,a3,a4⟩:=h.ar a q
   exact⟨by omega,by omega,a3,a4⟩
 · obtain⟨v,hv,⟨c,rfl⟩|⟨c,rfl⟩⟩:=hX _ q
   · have:=h.dat (v:=(v:Int)) (by omega) (by omega)
     exact⟨⟨hn,by show N<N+2;omega⟩,⟨by show(0:Int)<=v;omega,by show(v:Int)<N+2;omega⟩,⟨by show 0<=gI D (v:Int);omega,by show gI D (v:Int)<=_;omega⟩,Int.le_refl _,by show(0:Int)<=1048576;decide⟩
   · have:=h.dat (v:=(v:Int)) (by omega) (by omega)
     exact⟨⟨by show(0:Int)<=v;omega,by show(v:Int)<N+2;omega⟩,⟨by show 0<=N+1;omega,by show N+1<N+2;omega⟩,⟨by show 0<= -gI D (v:Int);omega,by show-gI D (v:Int)<=_;omega⟩,Int.le_refl _,by show(0:Int)<=1048576;decide⟩
theorem fA.el(h:fA N A D):(ck N A D).length<=20480:=by
 have:=m9 (N:=N) (D:=D) N.toNat
 have:=h.al
 have:=h.n1
 unfold ck
 rw[List.length_append];omega
theorem fA.ends(h:fA N A D)(hi:i<(ck N A D).length):((gI (ck N A D) (i:Int)).2.1≠N/\(gI (ck N A D) (i:Int)).1≠N+1)/\(A.length<=i->(gI (ck N A D) (i:Int)).1=N\/(gI (ck N A D) (i:Int)).2.1=N+1):=by
  have hm:=bp (xs:=ck N A D) (i:=(i:Int)) (by omega) (by omega)
  have hn:=h.n0
  refine⟨?_,λhl=>?_⟩
  · rcases List.mem_append.1 hm with q|q
    · obtain⟨a1,a2,_⟩:=h.ar _ q
      exact⟨by omega,by omega⟩
    · obtain⟨v,hv,⟨_,e⟩|⟨_,e⟩⟩:=hX _ q
      · rw[e];exact⟨by show(v:Int)≠N;omega,by show N≠N+1;omega⟩
      · rw[e];exact⟨by show N+1≠N;omega,by show(v:Int)≠N+1;omega⟩
  · have:gI (ck N A D) (i:Int)∈fg N D N.toNat:=by
      have e:gI (ck N A D) (i:Int)=gI (fg N D N.toNat) ((i-A.length:Nat):Int):=by
        unfold ck gI
        rw[List.getD_eq_getElem?_getD,List.getD_eq_getElem?_getD,List.getElem?_append_right (by omega)]
        congr 2
      rw[e]
      unfold ck at hi
      rw[List.length_append] at hi
      exact bp (by omega) (by omega)
    obtain⟨v,hv,⟨_,e⟩|⟨_,e⟩⟩:=hX _ this
    · rw[e];exact .inl rfl
    · rw[e];exact .inr rfl
theorem g7(hi:i<A.length):gI (ck N A D) (i:Int)=gI A (i:Int):=by
 unfold ck gI
 rw[List.getD_eq_getElem?_getD,List.getD_eq_getElem?_getD,List.getElem?_append_left (by omega)]
theorem kn.rm{c:List bS×List (List Int)}(h:kn n2 E E.length c)(hi:i<E.length):bL c.1 (2*(i:Int))=(gI E (i:Int)).2.2.1/\bL c.1 (2*(i:Int)+1)=0:=⟨congrArg (λz=>z.2.1) (h.fw i hi),congrArg (λz=>z.2.1) (h.bw i hi)⟩
theorem kn.sum{c:List bS×List (List Int)}(h:kn n2 E E.length c)(u0:0<=u)(u1:u<n2)(W:List bS):du W (gI c.2 u)=SP E.length λi=>(if(gI E (i:Int)).1=u then bL W (2*(i:Int)) else 0)+(if(gI E (i:Int)).2.1=u then bL W (2*(i:Int)+1) else 0):=by
 unfold du
 rw[h.row u u0 u1,me]
theorem jE(h:fA N A D):∀(j:Nat),(j:Int)<=N->0<=de D j/\de D j<=(j:Int)*1048576
 |0,_=>⟨Int.le_refl _,Int.le_refl _⟩
 |j+1,hj=>by
   have:=jE h j (by omega)
   have:=h.dat (v:=(j:Int)) (by omega) (by omega)
   show 0<=de D j+(if 0<gI D (j:Int) then gI D (j:Int) else 0)/\de D j+(if 0<gI D (j:Int) then gI D (j:Int) else 0)<=_
   split<;>omega
theorem fA.fib(h:fA N A D){c:List bS×List (List Int)}(hc:kn (N+2) (ck N A D) (ck N A D).length c):qD (N+2) N (N+1) (de D N.toNat) ((N+2)*1048576) (1048576+(N+2)*1048576) c.1 c.2:=by
 have hr:=h.rg
 have hn:=h.n0
 have hn1:=h.n1
 have hlw:=hc.lw
 have hel:=h.el
 have rg:∀i:Nat,i<(ck N A D).length->_:=λi hi=>hr _ (bp (xs:=ck N A D) (i:=(i:Int)) (by omega) (by omega))
 refine⟨hc.sh hr (by omega),hn,by omega,by omega,by omega,by omega,by omega,rfl,rfl,?_,λw hw=>?_,λw hw=>?_,λw hw hp=>?_,?_⟩
 · rw[hc.sum hn (by omega)]
   rw[bk (h:=λi=>(λa:dp=>if a.1=N then a.2.2.1 else 0) (gI (ck N A D) (i:Int))) _ λi hi=>?_]
   · rw[lj (F:=λa:dp=>if a.1=N then a.2.2.1 else 0),bk (h:=λ_=>0) A.length λi hi=>?_,eg]
     · unfold de
       rw[Int.zero_add]
       refine bk _ λv hv=>?_
       by_cases q:0<gI D (v:Int)
       · rw[if_pos q,if_pos q];exact if_pos rfl
       · rw[if_neg q,if_neg q]
         by_cases q2:gI D (v:Int)<0
         · rw[if_pos q2];exact if_neg (by show¬(v:Int)=N;omega)
         · rw[if_neg q2]
     · have:=(h.ar _ (bp (xs:=A) (i:=(i:Int)) (by omega) (by omega))).1
       exact if_neg (by omega)
   · obtain⟨e1,e2⟩:=hc.rm hi
     have:=(h.ends hi).1.1
     rw[e1,e2]
     show _=if(gI (ck N A D) (i:Int)).1=N then(gI (ck N A D) (i:Int)).2.2.1 else 0
     simp
 · obtain⟨i,hi,q|q⟩:=fa (m:=(ck N A D).length) hw.1 (by have:=hw.2;omega)
   · obtain⟨e1,e2⟩:=hc.rm hi
     have:=(rg i hi).2.2.1
     rw[q,er,e1,e2];omega
   · obtain⟨e1,e2⟩:=hc.rm hi
     have:=(rg i hi).2.2.1
     rw[q,gm,e1,e2];omega
 · obtain⟨i,hi,q|q⟩:=fa (m:=(ck N A D).length) hw.1 (by have:=hw.2;omega)
   · obtain⟨e1,e2⟩:=hc.rm hi
     have:=(rg i hi).2.2.1
     rw[q,e1];omega
   · obtain⟨e1,e2⟩:=hc.rm hi
     rw[q,e2];omega
 · obtain⟨i,hi,q|q⟩:=fa (m:=(ck N A D).length) hw.1 (by have:=hw.2;omega)
   · have:=(rg i hi).2.2.2
     have e:fh c.1 w=(gI (ck N A D) (i:Int)).2.2.2:=by rw[q];exact congrArg (λz=>z.2.2) (hc.fw i hi)
     omega
   · obtain⟨e1,e2⟩:=hc.rm hi
     rw[q,e2] at hp;omega
 · have:=jE h N.toNat (by omega)
   omega
def eI(E:List dp)(x:Nat->Int)(u:Int):Int:=SP E.length λi=>(if(gI E (i:Int)).1=u then x i else 0)-(if(gI E (i:Int)).2.1=u then x i else 0)
def xW(W:List bS)(i:Nat):Int:=bL W (2*(i:Int)+1)
theorem mD{c:List bS×List (List Int)}(hc:kn n2 E E.length c)(hl:sC n2 s t c.1 W c.2 fl)(hi:i<E.length):bL W (2*(i:Int))=(gI E (i:Int)).2.2.1-xW W i/\0<=xW W i/\xW W i<=(gI E (i:Int)).2.2.1:=by
 have hlw:=hc.lw
 have hw:dG c.1 (2*(i:Int)):=⟨by omega,by omega⟩
 have hw2:dG c.1 (2*(i:Int)+1):=⟨by omega,by omega⟩
 obtain⟨e1,e2⟩:=hc.rm hi
 have h1:=hl.sm.rm _ hw
 rw[er,e1,e2] at h1
 have h2:=hl.rm _ hw
 have h3:=hl.rm _ hw2
 unfold xW
 omega
theorem jz{c:List bS×List (List Int)}(hc:kn n2 E E.length c)(hl:sC n2 s t c.1 W c.2 fl)(u0:0<=u)(u1:u<n2):eI E (xW W) u=(if u=s then fl else 0)-(if u=t then fl else 0):=by
 have h:=hl.sum u u0 u1
 rw[hc.sum u0 u1,hc.sum u0 u1] at h
 have:eI E (xW W) u=SP E.length (λi=>(if(gI E (i:Int)).1=u then bL c.1 (2*(i:Int)) else 0)+(if(gI E (i:Int)).2.1=u then bL c.1 (2*(i:Int)+1) else 0))-SP E.length (λi=>(if(gI E (i:Int)).1=u then bL W (2*(i:Int)) else 0)+(if(gI E (i:Int)).2.1=u then bL W (2*(i:Int)+1) else 0)):=by
   rw[<-gr]
   refine bk _ λi hi=>?_
   obtain⟨a1,a2,a3⟩:=mD hc hl hi
   obtain⟨e1,e2⟩:=hc.rm hi
   have e3:bL W (2*(i:Int)+1)=xW W i:=rfl
   rw[e1,e2,a1,e3]
   split<;>split<;>omega
 omega
theorem mm{φ:Int->Int}{k:Int}{n:Nat}(v0:0<=v)(v1:v<n):SP n (λu=>φ (u:Int)*(if v=(u:Int) then k else 0))=φ v*k:=by
 rw[bk (h:=λu=>if u=v.toNat then φ v*k else 0) n λu hu=>?_,kd n (by omega)]
 by_cases q:v=(u:Int)
 · rw[if_pos q,if_pos (by omega),q]
 · rw[if_neg q,if_neg (by omega),Int.mul_zero]
theorem lK(φ:Int->Int){x:Nat->Int}{n:Nat}(hr:∀a∈E,(0<=a.1/\a.1<n)/\(0<=a.2.1/\a.2.1<n)):SP n (λu=>φ (u:Int)*eI E x (u:Int))=SP E.length λi=>x i*(φ (gI E (i:Int)).1-φ (gI E (i:Int)).2.1):=by
  have h1:SP n (λu=>φ (u:Int)*eI E x (u:Int))=SP n (λu=>SP E.length λi=>φ (u:Int)*((if(gI E (i:Int)).1=(u:Int) then x i else 0)-(if(gI E (i:Int)).2.1=(u:Int) then x i else 0))):=by
    refine bk _ λu hu=>?_
    unfold eI
    rw[<-li]
  rw[h1,mg]
  refine bk _ λi hi=>?_
  obtain⟨⟨a0,a1⟩,b0,b1⟩:=hr _ (bp (xs:=E) (i:=(i:Int)) (by omega) (by omega))
  have h2:SP n (λu=>φ (u:Int)*((if(gI E (i:Int)).1=(u:Int) then x i else 0)-(if(gI E (i:Int)).2.1=(u:Int) then x i else 0)))=SP n (λu=>φ (u:Int)*(if(gI E (i:Int)).1=(u:Int) then x i else 0)-φ (u:Int)*(if(gI E (i:Int)).2.1=(u:Int) then x i else 0)):=bk _ λu hu=>Int.mul_sub _ _ _
  rw[h2,gr,mm a0 a1,mm b0 b1,Int.mul_sub,Int.mul_comm (x i),Int.mul_comm (x i)]
def jM(χ:Int->Int)(a:dp):Int:=if χ a.1=1/\χ a.2.1=0 then a.2.2.1 else 0
theorem pY(h:fA N A D){c:List bS×List (List Int)}(hc:kn (N+2) (ck N A D) (ck N A D).length c){R:gK}(he:qT (N+2) N (N+1) ak B M c.1 c.2 R)(ha:ak=de D N.toNat)(χ:Int->Int)(hχ:χ=λv=>if gI R.2.2.1 v=dg then 0 else 1):ak-R.2.2.2.2=SP N.toNat (λv=>if χ (v:Int)=1 then gI D (v:Int) else 0)-SP A.length λi=>jM χ (gI A (i:Int)):=by
 have hn:=h.n0
 have hra:=eE he.i.d
 rw[<-he.far] at hra
 have hs:χ N=1:=by rw[hχ];show(if gI R.2.2.1 N=dg then 0 else 1)=(1:Int);rw[hra.i.fs];rfl
 have ht:χ (N+1)=0:=by rw[hχ];exact if_pos he.un
 have h01:∀v,χ v=0\/χ v=1:=λv=>by rw[hχ];show(if _ then _ else _)=_\/(if _ then _ else _)=_;split<;>simp
 have hst:=he.i.l.sm
 have hlw:=hc.lw
 have htri:∀w,dG R.1 w->0<bL R.1 w->χ (dm R.1 w)=1->χ (bE R.1 w)=1:=λw hw hr hf=>by
   have:gI R.2.2.1 (dm R.1 w)≠dg:=λe=>by rw[hχ] at hf;simp only[e,if_true] at hf;exact absurd hf (by decide)
   rw[hχ]
   exact if_neg (hra.tri he.i.d hw hr this).2
 have hin:∀w,dG R.1 w↔dG c.1 w:=λw=>hst.inn
 have hkey:∀i:Nat,i<(ck N A D).length->xW R.1 i*(χ (gI (ck N A D) (i:Int)).1-χ (gI (ck N A D) (i:Int)).2.1)=jM χ (gI (ck N A D) (i:Int)):=λi hi=>by
   obtain⟨b1,b2,b3⟩:=mD hc he.i.l hi
   have t1:bE R.1 (2*(i:Int))=(gI (ck N A D) (i:Int)).2.1:=by rw[hst.to _ (by omega)];exact congrArg Prod.fst (hc.fw i hi)
   have t2:bE R.1 (2*(i:Int)+1)=(gI (ck N A D) (i:Int)).1:=by rw[hst.to _ (by omega)];exact congrArg Prod.fst (hc.bw i hi)
   have f1:dm R.1 (2*(i:Int))=(gI (ck N A D) (i:Int)).1:=by unfold dm;rw[er];exact t2
   have f2:dm R.1 (2*(i:Int)+1)=(gI (ck N A D) (i:Int)).2.1:=by unfold dm;rw[gm];exact t1
   have w1:dG R.1 (2*(i:Int)):=(hin _).2 ⟨by omega,by omega⟩
   have w2:dG R.1 (2*(i:Int)+1):=(hin _).2 ⟨by omega,by omega⟩
   have g1:=htri _ w1
   have g2:=htri _ w2
   rw[t1,f1,b1] at g1
   rw[t2,f2] at g2
   unfold jM
   rcases h01 (gI (ck N A D) (i:Int)).1 with p|p<;>rcases h01 (gI (ck N A D) (i:Int)).2.1 with q|q<;>rw[p,q]<;>rw[p,q] at g1 g2
   · simp
   · have:¬0<xW R.1 i:=λhp=>absurd (g2 hp rfl) (by decide)
     have:xW R.1 i=0:=by omega
     rw[this];simp
   · have:¬0<(gI (ck N A D) (i:Int)).2.2.1-xW R.1 i:=λhp=>absurd (g1 hp rfl) (by decide)
     simp;omega
   · simp
 have hr:=h.rg
 have hphi:=lK (E:=ck N A D) χ (x:=xW R.1) (n:=(N+2).toNat) λa ha=>by
   obtain⟨a1,a2,_⟩:=hr a ha
   exact⟨by omega,by omega⟩
 rw[bk _ hkey,lj] at hphi
 have hL:SP (N+2).toNat (λu=>χ (u:Int)*eI (ck N A D) (xW R.1) (u:Int))=R.2.2.2.2:=by
   rw[bk (h:=λu=>if u=N.toNat then R.2.2.2.2 else 0) _ λu hu=>?_,kd _ (by omega)]
   rw[jz hc he.i.l (by omega) (by omega)]
   by_cases q:u=N.toNat
   · rw[if_pos (by omega),if_neg (by omega),if_pos q,show(u:Int)=N by omega,hs];omega
   · rw[if_neg (show¬(u:Int)=N by omega),if_neg q]
     by_cases q2:(u:Int)=N+1
     · rw[if_pos q2,q2,ht];omega
     · rw[if_neg q2];omega
 rw[hL] at hphi
 have hD:de D N.toNat-SP N.toNat (λv=>if 0<gI D (v:Int) then jM χ (N,(v:Int),gI D (v:Int),0) else if gI D (v:Int)<0 then jM χ ((v:Int),N+1,-gI D (v:Int),0) else 0)=SP N.toNat (λv=>if χ (v:Int)=1 then gI D (v:Int) else 0):=by
   unfold de
   rw[<-gr]
   refine bk _ λv hv=>?_
   unfold jM
   simp only[hs,ht]
   rcases h01 (v:Int) with p|p<;>rw[p]<;>simp <;>split<;>(try split)<;>omega
 rw[ha]
 omega
end TL
/-
  TlFlo9: a flow of the least cost, or nodes whose needs are too great.
  By an AI agent.
-/
set_option linter.all false
namespace TL
variable{n2 N s t v u w y d B M k ak fl:Int}{W W' W0 W1:List bS}{O:List (List Int)}{A E:List dp}{D x z p:List Int}{m f i j:Nat}{a:dp}{c:List bS×List (List Int)}
def km(N:Int)(A:List dp)(D:List Int):List bS×List (List Int):=ig (N+2) (ck N A D)
def dj(N:Int)(A:List dp)(D:List Int):gK:=fK (N+2) N (N+1) (de D N.toNat) (km N A D).1 (km N A D).2
def dL(D:List Int):Int:=SP D.length λv=>gI D (v:Int)
def kk(N:Int)(A:List dp)(D:List Int):Prop:=dL D=0/\(dj N A D).2.2.2.2=de D N.toNat
def mK(N:Int)(A:List dp)(D:List Int):List Int:=(dc A.length).map λi=>bL (dj N A D).1 (2*i+1)
def q6(N:Int)(A:List dp)(D:List Int):List Int:=(dj N A D).2.1.take N.toNat
def jL(A:List dp)(x:List Int):Int:=SP A.length λi=>gI x (i:Int)*(gI A (i:Int)).2.2.2
def sH(N:Int)(A:List dp)(D:List Int):List Int:=(dc N.toNat).filter λv=>decide (gI (dj N A D).2.2.1 v<dg)
structure jk(N:Int)(A:List dp)(D x:List Int):Prop where
  ln:x.length=A.length
  cap:∀i:Nat,i<A.length->0<=gI x (i:Int)/\gI x (i:Int)<=(gI A (i:Int)).2.2.1
  net:∀v,0<=v->v<N->eI A (λi=>gI x (i:Int)) v=gI D v
def sE(A:List dp)(x p:List Int):Prop:=∀i:Nat,i<A.length->(gI x (i:Int)<(gI A (i:Int)).2.2.1->0<=(gI A (i:Int)).2.2.2+gI p (gI A (i:Int)).1-gI p (gI A (i:Int)).2.1)/\(0<gI x (i:Int)->(gI A (i:Int)).2.2.2+gI p (gI A (i:Int)).1-gI p (gI A (i:Int)).2.1<=0)
theorem fA.rgA(h:fA N A D):∀a∈A,(0<=a.1/\a.1<(N.toNat:Int))/\(0<=a.2.1/\a.2.1<(N.toNat:Int)):=λa ha=>by
 have:=h.n0
 obtain⟨a1,a2,_⟩:=h.ar a ha
 exact⟨by omega,by omega⟩
theorem jk.phi(h:fA N A D)(hx:jk N A D x)(φ:Int->Int):SP N.toNat (λv=>φ (v:Int)*gI D (v:Int))=SP A.length λi=>gI x (i:Int)*(φ (gI A (i:Int)).1-φ (gI A (i:Int)).2.1):=by
 rw[<-lK φ (x:=λi=>gI x (i:Int)) h.rgA]
 refine bk _ λv hv=>?_
 rw[hx.net _ (by omega) (by omega)]
theorem jk.bal(h:fA N A D)(hx:jk N A D x):dL D=0:=by
 have:=hx.phi h λ_=>1
 rw[bk (h:=λv=>gI D (v:Int)) _ (λv _=>Int.one_mul _),bk (h:=λ_=>0) A.length (λi _=>by rw[Int.sub_self,Int.mul_zero]),eg] at this
 unfold dL
 have e:D.length=N.toNat:=by have:=h.dl;omega
 rw[e];exact this
theorem jk.cut(h:fA N A D)(hx:jk N A D x)(χ:Int->Int)(h01:∀v,χ v=0\/χ v=1):SP N.toNat (λv=>if χ (v:Int)=1 then gI D (v:Int) else 0)<=SP A.length λi=>jM χ (gI A (i:Int)):=by
 have h1:=hx.phi h χ
 rw[bk (h:=λv=>χ (v:Int)*gI D (v:Int)) _ λv hv=>?_,h1]
 · refine lW _ λi hi=>?_
   have:=hx.cap i hi
   unfold jM
   rcases h01 (gI A (i:Int)).1 with p|p<;>rcases h01 (gI A (i:Int)).2.1 with q|q<;>rw[p,q]<;>simp <;>omega
 · rcases h01 (v:Int) with p|p<;>rw[p]<;>simp
theorem qH(h:fA N A D)(hx:jk N A D x)(hz:jk N A D z)(hp:sE A x p):jL A x<=jL A z:=by
  have h1:=hx.phi h λv=>gI p v
  have h2:=hz.phi h λv=>gI p v
  rw[h1] at h2
  have h3:SP A.length (λi=>(gI A (i:Int)).2.2.2*gI x (i:Int)+gI x (i:Int)*(gI p (gI A (i:Int)).1-gI p (gI A (i:Int)).2.1))<=SP A.length (λi=>(gI A (i:Int)).2.2.2*gI z (i:Int)+gI z (i:Int)*(gI p (gI A (i:Int)).1-gI p (gI A (i:Int)).2.1)):=by
    refine lW _ λi hi=>?_
    obtain⟨a1,a2⟩:=hp i hi
    have b1:=hx.cap i hi
    have b2:=hz.cap i hi
    generalize gI x (i:Int)=X at*
    generalize gI z (i:Int)=Z at*
    generalize gI A (i:Int)=a at*
    have e:∀Y:Int,a.2.2.2*Y+Y*(gI p a.1-gI p a.2.1)=Y*(a.2.2.2+gI p a.1-gI p a.2.1):=λY=>by rw[Int.mul_comm a.2.2.2,<-Int.mul_add,Int.add_sub_assoc]
    rw[e,e]
    rcases Int.lt_trichotomy X Z with q|q|q
    · exact Int.mul_le_mul_of_nonneg_right (by omega) (a1 (by omega))
    · rw[q];exact Int.le_refl _
    · exact Int.mul_le_mul_of_nonpos_right (by omega) (a2 (by omega))
  rw[iR,iR] at h3
  unfold jL
  rw[bk (h:=λi=>(gI A (i:Int)).2.2.2*gI x (i:Int)) _ (λi _=>Int.mul_comm _ _),bk (g:=λi=>gI z (i:Int)*(gI A (i:Int)).2.2.2) (h:=λi=>(gI A (i:Int)).2.2.2*gI z (i:Int)) _ (λi _=>Int.mul_comm _ _)]
  omega
theorem fA.ld(h:fA N A D):kn (N+2) (ck N A D) (ck N A D).length (km N A D):=qZ (by have:=h.n0;omega) h.rg
theorem fA.fi(h:fA N A D):qT (N+2) N (N+1) (de D N.toNat) ((N+2)*1048576) (1048576+(N+2)*1048576) (km N A D).1 (km N A D).2 (dj N A D):=p8 (h.fib h.ld)
theorem lE(hi:i<A.length):gI (mK N A D) (i:Int)=xW (dj N A D).1 i:=by
 unfold mK
 rw[pc (by omega) (by simp[dc];omega),m8 (by omega) (by omega)]
 rfl
theorem lh:(mK N A D).length=A.length:=by unfold mK;simp[dc]
theorem nj(hj:j<(fg N D N.toNat).length):gI (ck N A D) ((A.length+j:Nat):Int)=gI (fg N D N.toNat) (j:Int):=by
 unfold ck gI
 rw[List.getD_eq_getElem?_getD,List.getD_eq_getElem?_getD,List.getElem?_append_right (by omega)]
 congr 2
 omega
theorem sA(h:fA N A D)(hok:kk N A D)(hi:i<(ck N A D).length)(hl:A.length<=i):xW (dj N A D).1 i=(gI (ck N A D) (i:Int)).2.2.1:=by
  obtain⟨o1,o2⟩:=hok
  have hc:=h.ld
  have he:=h.fi
  have hn:=h.n0
  have hs:=jz hc he.i.l (u:=N) hn (by omega)
  have ht:=jz hc he.i.l (u:=N+1) (by omega) (by omega)
  rw[if_pos rfl,if_neg (by omega),o2] at hs
  rw[if_neg (by omega),if_pos rfl,o2] at ht
  have hsum:=(h.fib hc).sum
  rw[hc.sum hn (by omega)] at hsum
  have bd:∀i,i<(ck N A D).length->_:=λi hi=>mD hc he.i.l hi
  rcases(h.ends hi).2 hl with q|q
  · have e1:SP (ck N A D).length (λi=>if(gI (ck N A D) (i:Int)).1=N then(gI (ck N A D) (i:Int)).2.2.1-xW (dj N A D).1 i else 0)=0:=by
      rw[bk (h:=λi=>((if(gI (ck N A D) (i:Int)).1=N then bL (km N A D).1 (2*(i:Int)) else 0)+(if(gI (ck N A D) (i:Int)).2.1=N then bL (km N A D).1 (2*(i:Int)+1) else 0))-((if(gI (ck N A D) (i:Int)).1=N then xW (dj N A D).1 i else 0)-(if(gI (ck N A D) (i:Int)).2.1=N then xW (dj N A D).1 i else 0))) _ λi hi=>?_]
      · rw[gr,hsum]
        unfold eI at hs
        rw[hs];omega
      · obtain⟨r1,r2⟩:=hc.rm hi
        have:=(h.ends hi).1.1
        rw[r1,if_neg this,if_neg this]
        split<;>omega
    have:=lg _ (λi hi=>by
      have:=bd i hi
      split<;>omega) e1 i hi
    rw[if_pos q] at this
    omega
  · have e2:SP (ck N A D).length (λi=>(λa:dp=>if a.2.1=N+1 then a.2.2.1 else 0) (gI (ck N A D) (i:Int)))=de D N.toNat:=by
      rw[lj (F:=λa:dp=>if a.2.1=N+1 then a.2.2.1 else 0),bk (h:=λ_=>0) A.length λi hi=>?_,eg]
      · have e3:de D N.toNat-SP N.toNat (λv=>if 0<gI D (v:Int) then(if(v:Int)=N+1 then gI D (v:Int) else 0) else if gI D (v:Int)<0 then(if N+1=N+1 then-gI D (v:Int) else 0) else 0)=dL D:=by
          unfold de dL
          rw[<-gr,show D.length=N.toNat by have:=h.dl;omega]
          refine bk _ λv hv=>?_
          rw[if_neg (show¬(v:Int)=N+1 by omega),if_pos rfl]
          split
          · omega
          · split<;>omega
        show 0+SP N.toNat (λv=>if 0<gI D (v:Int) then(if(v:Int)=N+1 then gI D (v:Int) else 0) else if gI D (v:Int)<0 then(if N+1=N+1 then-gI D (v:Int) else 0) else 0)=_
        omega
      · have:=(h.ar _ (bp (xs:=A) (i:=(i:Int)) (by omega) (by omega))).2.1
        exact if_neg (by omega)
    have e1:SP (ck N A D).length (λi=>if(gI (ck N A D) (i:Int)).2.1=N+1 then(gI (ck N A D) (i:Int)).2.2.1-xW (dj N A D).1 i else 0)=0:=by
      rw[bk (h:=λi=>(if(gI (ck N A D) (i:Int)).2.1=N+1 then(gI (ck N A D) (i:Int)).2.2.1 else 0)+((if(gI (ck N A D) (i:Int)).1=N+1 then xW (dj N A D).1 i else 0)-(if(gI (ck N A D) (i:Int)).2.1=N+1 then xW (dj N A D).1 i else 0))) _ λi hi=>?_]
      · unfold eI at ht
        rw[iR,e2,ht];omega
      · have:=(h.ends hi).1.2
        rw[if_neg this]
        split<;>omega
    have:=lg _ (λi hi=>by
      have:=bd i hi
      split<;>omega) e1 i hi
    rw[if_pos q] at this
    omega
theorem lN(h:fA N A D)(hok:kk N A D):jk N A D (mK N A D):=by
 have hc:=h.ld
 have he:=h.fi
 have hn:=h.n0
 refine⟨lh,λi hi=>?_,λv v0 v1=>?_⟩
 · rw[lE hi]
   have:=mD hc he.i.l (i:=i) (by unfold ck;rw[List.length_append];omega)
   rw[g7 hi] at this
   exact this.2
 · have hv:=jz hc he.i.l (u:=v) v0 (by omega)
   rw[if_neg (by omega),if_neg (by omega)] at hv
   unfold eI at hv ⊢
   have hlen:(ck N A D).length=A.length+(fg N D N.toNat).length:=by unfold ck;rw[List.length_append]
   rw[hlen,jV] at hv
   have e1:SP A.length (λi=>(if(gI (ck N A D) (i:Int)).1=v then xW (dj N A D).1 i else 0)-(if(gI (ck N A D) (i:Int)).2.1=v then xW (dj N A D).1 i else 0))=SP A.length (λi=>(if(gI A (i:Int)).1=v then gI (mK N A D) (i:Int) else 0)-(if(gI A (i:Int)).2.1=v then gI (mK N A D) (i:Int) else 0)):=by
     refine bk _ λi hi=>?_
     rw[g7 hi,lE hi]
   rw[e1] at hv
   have e2:SP (fg N D N.toNat).length (λj=>(if(gI (ck N A D) ((A.length+j:Nat):Int)).1=v then xW (dj N A D).1 (A.length+j) else 0)-(if(gI (ck N A D) ((A.length+j:Nat):Int)).2.1=v then xW (dj N A D).1 (A.length+j) else 0))=SP (fg N D N.toNat).length (λj=>(λa:dp=>(if a.1=v then a.2.2.1 else 0)-(if a.2.1=v then a.2.2.1 else 0)) (gI (fg N D N.toNat) (j:Int))):=by
     refine bk _ λj hj=>?_
     rw[sA h hok (by omega) (by omega),nj hj]
   rw[e2,jA (F:=λa:dp=>(if a.1=v then a.2.2.1 else 0)-(if a.2.1=v then a.2.2.1 else 0)),lk] at hv
   have e3:SP N.toNat (λu=>if 0<gI D (u:Int) then(if N=v then gI D (u:Int) else 0)-(if(u:Int)=v then gI D (u:Int) else 0) else if gI D (u:Int)<0 then(if(u:Int)=v then-gI D (u:Int) else 0)-(if N+1=v then-gI D (u:Int) else 0) else 0)= -gI D v:=by
     rw[bk (h:=λu=>if u=v.toNat then-gI D v else 0) _ λu hu=>?_,kd _ (by omega)]
     rw[if_neg (show¬N=v by omega),if_neg (show¬N+1=v by omega)]
     by_cases q:(u:Int)=v
     · rw[if_pos q,if_pos q,if_pos (show u=v.toNat by omega),q]
       split
       · omega
       · split<;>omega
     · rw[if_neg q,if_neg q,if_neg (show¬u=v.toNat by omega)]
       split
       · omega
       · split<;>omega
   have fin:∀X Y:Int,X+Y=0-0->Y= -gI D v->X=gI D v:=λX Y a b=>by omega
   exact fin _ _ hv e3
theorem qM{xs:List Int}{n k:Nat}(h:k<n):gI (xs.take n) (k:Int)=gI xs (k:Int):=by
 unfold gI
 rw[List.getD_eq_getElem?_getD,List.getD_eq_getElem?_getD,List.getElem?_take,if_pos (by simpa using h)]
theorem nR(h:fA N A D)(v0:0<=v)(v1:v<N):gI (q6 N A D) v=gI (dj N A D).2.1 v:=by
 have:=qM (xs:=(dj N A D).2.1) (n:=N.toNat) (k:=v.toNat) (by omega)
 rw[show((v.toNat:Nat):Int)=v by omega] at this
 exact this
theorem oq(h:fA N A D):((q6 N A D).length:Int)=N:=by
 have:=h.fi.i.d.pt.pl
 have:=h.n0
 unfold q6
 rw[List.length_take];omega
theorem rG(h:fA N A D):∀p∈q6 N A D,0<=p/\p<=1099511627776:=λp hp=>by
 obtain⟨i,hi,e⟩:=List.mem_iff_getElem.1 hp
 have hl:=oq h
 have:=h.fi.i.d.pt.pb (i:Int) (by omega) (by omega)
 have h2:=nR h (v:=(i:Int)) (by omega) (by omega)
 have e4:∀(L:List Int) (j:Nat) (hj:j<L.length),gI L (j:Int)=L[j]:=λL j hj=>by simp[gI,hj]
 rw[e4 _ i hi,e] at h2
 have:=h.n1
 rw[h2];omega
theorem qy(h:fA N A D):sE A (mK N A D) (q6 N A D):=λi hi=>by
 have hc:=h.ld
 have he:=h.fi
 have hlw:=hc.lw
 have hlen:(ck N A D).length=A.length+(fg N D N.toNat).length:=by unfold ck;rw[List.length_append]
 have hie:i<(ck N A D).length:=by omega
 obtain⟨b1,b2,b3⟩:=mD hc he.i.l hie
 obtain⟨a1,a2,_⟩:=h.ar _ (bp (xs:=A) (i:=(i:Int)) (by omega) (by omega))
 have hst:=he.i.l.sm
 have t1:bE (dj N A D).1 (2*(i:Int))=(gI A (i:Int)).2.1:=by rw[hst.to _ (by omega),<-g7 hi];exact congrArg Prod.fst (hc.fw i hie)
 have t2:bE (dj N A D).1 (2*(i:Int)+1)=(gI A (i:Int)).1:=by rw[hst.to _ (by omega),<-g7 hi];exact congrArg Prod.fst (hc.bw i hie)
 have c1:fh (dj N A D).1 (2*(i:Int))=(gI A (i:Int)).2.2.2:=by rw[hst.cs _ (by omega),<-g7 hi];exact congrArg (λz=>z.2.2) (hc.fw i hie)
 have c2:fh (dj N A D).1 (2*(i:Int)+1)= -(gI A (i:Int)).2.2.2:=by rw[hst.cs _ (by omega),<-g7 hi];exact congrArg (λz=>z.2.2) (hc.bw i hie)
 have f1:dm (dj N A D).1 (2*(i:Int))=(gI A (i:Int)).1:=by unfold dm;rw[er];exact t2
 have f2:dm (dj N A D).1 (2*(i:Int)+1)=(gI A (i:Int)).2.1:=by unfold dm;rw[gm];exact t1
 have w1:dG (dj N A D).1 (2*(i:Int)):=hst.inn.2 ⟨by omega,by omega⟩
 have w2:dG (dj N A D).1 (2*(i:Int)+1):=hst.inn.2 ⟨by omega,by omega⟩
 have r1:=he.i.d.pt.rd _ w1
 have r2:=he.i.d.pt.rd _ w2
 unfold dA at r1 r2
 rw[t1,f1,c1,b1,g7 hi] at r1
 rw[t2,f2,c2] at r2
 rw[lE hi,nR h a1.1 a1.2,nR h a2.1 a2.2]
 refine⟨λq=>r1 (by omega),λq=>?_⟩
 have:=r2 q
 omega
def s8(N:Int)(A:List dp)(D:List Int)(v:Int):Int:=if gI (dj N A D).2.2.1 v=dg then 0 else 1
theorem r5(h:fA N A D)(hb:dL D=0)(hno:¬kk N A D):SP A.length (λi=>jM (s8 N A D) (gI A (i:Int)))<SP N.toNat λv=>if s8 N A D (v:Int)=1 then gI D (v:Int) else 0:=by
 have he:=h.fi
 have h1:=pY h h.ld he rfl (s8 N A D) rfl
 have h2:=he.i.le.1
 have h3:¬(dj N A D).2.2.2.2=de D N.toNat:=λe=>hno ⟨hb,e⟩
 omega
theorem kg(h:fA N A D):kk N A D↔∃x,jk N A D x:=by
  refine⟨λq=>⟨_,lN h q⟩,λ⟨x,hx⟩=>?_⟩
  refine Classical.byContradiction λhno=>?_
  have h1:=r5 h (hx.bal h) hno
  have h2:=hx.cut h (s8 N A D) (λv=>by unfold s8;split<;>simp)
  omega
end TL
/-
  TlFlr: what layer 25 answers.
  By an AI agent.
-/
set_option linter.all false
namespace TL
abbrev gj:=Int×List dp×List Int
abbrev jD:=List Int×List Int×Int
variable{T:gj}{k j:Nat}
def gG(N:Int)(a:dp):Prop:=(0<=a.1/\a.1<N)/\(0<=a.2.1/\a.2.1<N)/\(0<=a.2.2.1/\a.2.2.1<=1048576)/\0<=a.2.2.2/\a.2.2.2<=1048576
instance {N:Int}{a:dp}:Decidable (gG N a):=by unfold gG;infer_instance
def cu(T:gj):Prop:=(0<=T.1/\T.1<=4096)/\T.2.1.length<=16384/\(T.2.2.length:Int)=T.1/\(∀a∈T.2.1,gG T.1 a)/\∀x∈T.2.2,-1048576<=x/\x<=1048576
instance:Decidable (cu T):=by unfold cu;infer_instance
def bK(T:gj):Bool:=decide (cu T)
theorem cu.my(h:cu T):fA T.1 T.2.1 T.2.2:=⟨h.1.1,h.1.2,h.2.1,h.2.2.1,h.2.2.2.1,h.2.2.2.2⟩
theorem dJ(h:¬cu T):bK T=false:=decide_eq_false h
theorem dx(h:cu T):bK T=true:=decide_eq_true h
theorem cI(h1:(k:Int)<(T.2.1.length:Int))(h:¬gG T.1 (gI T.2.1 (k:Int))):bK T=false:=dJ λq=>h (q.2.2.2.1 _ (bp (by omega) h1))
theorem gx(h1:(k:Int)<(T.2.2.length:Int))(h:¬(-1048576<=gI T.2.2 (k:Int)/\gI T.2.2 (k:Int)<=1048576)):bK T=false:=dJ λq=>h (q.2.2.2.2 _ (bp (by omega) h1))
theorem ky{N:Int}{A:List dp}(h:∀a∈A.take k,gG N a)(h1:(k:Int)<(A.length:Int))(hk:gG N (gI A (k:Int))):∀a∈A.take (k+1),gG N a:=by
 rw[cG h1]
 intro a ha
 rcases List.mem_append.1 ha with q|q
 · exact h a q
 · rw[List.mem_singleton.1 q];exact hk
def j5(x:Int):Prop:= -1048576<=x/\x<=1048576
theorem kN{D:List Int}(h:∀x∈D.take k,j5 x)(h1:(k:Int)<(D.length:Int))(hk:j5 (gI D (k:Int))):∀x∈D.take (k+1),j5 x:=by
 rw[cG h1]
 intro a ha
 rcases List.mem_append.1 ha with q|q
 · exact h a q
 · rw[List.mem_singleton.1 q];exact hk
theorem kY(h0:(0<=T.1/\T.1<=4096)/\T.2.1.length<=16384/\(T.2.2.length:Int)=T.1)(h:∀a∈T.2.1.take k,gG T.1 a)(hk:¬(k:Int)<(T.2.1.length:Int))(h2:∀x∈T.2.2.take j,j5 x)(hj:¬(j:Int)<(T.2.2.length:Int)):bK T=true:=by
 rw[List.take_of_length_le (by omega)] at h h2
 exact dx ⟨h0.1,h0.2.1,h0.2.2,h,h2⟩
instance {N:Int}{A:List dp}{D:List Int}:Decidable (kk N A D):=by unfold kk;infer_instance
def aG(T:gj):jD×Int:=if cu T then if kk T.1 T.2.1 T.2.2 then((mK T.1 T.2.1 T.2.2,q6 T.1 T.2.1 T.2.2,jL T.2.1 (mK T.1 T.2.1 T.2.2)),0) else(([],[],0),20) else(([],[],0),1)
def cH(T:gj):List Int×Int:=if cu T then if dL T.2.2=0 then if(dj T.1 T.2.1 T.2.2).2.2.2.2=de T.2.2 T.1.toNat then([],14) else(sH T.1 T.2.1 T.2.2,0) else([],0) else([],1)
theorem mw{D:List Int}{n:Int}(h:n=SP k λv=>gI D (v:Int)):n+gI D (k:Int)=SP (k+1) λv=>gI D (v:Int):=by subst h;rfl
theorem mH{D:List Int}{n:Int}(h:n=SP k λv=>gI D (v:Int))(h1:(k:Int)<=(D.length:Int))(hk:¬(k:Int)<(D.length:Int)):n=dL D:=by
 have:k=D.length:=by omega
 subst this;exact h
theorem mo{D:List Int}(h:∀x∈D,-1048576<=x/\x<=1048576):∀(k:Nat),(k:Int)<=(D.length:Int)-> -(k:Int)*1048576<=SP k (λv=>gI D (v:Int))/\SP k (λv=>gI D (v:Int))<=(k:Int)*1048576
 |0,_=>⟨Int.le_refl _,Int.le_refl _⟩
 |k+1,hk=>by
   have:=mo h k (by omega)
   have:=h _ (bp (xs:=D) (i:=(k:Int)) (by omega) (by omega))
   show _<=SP k (λv=>gI D (v:Int))+gI D (k:Int)/\SP k (λv=>gI D (v:Int))+gI D (k:Int)<=_
   omega
def cd:gj:=(3,[(0,1,2,1),(1,2,2,1),(0,2,1,5)],[3,0,-3])
def sg:gj:=(3,[(0,1,2,1),(1,2,2,1),(0,2,1,5)],[4,0,-4])
theorem jZ:∃p,aG cd=(([2,2,1],p,9),0):=⟨(aG cd).1.2.1,by decide+kernel⟩
theorem mc:cH sg=([0],0)\/cH sg=([0,1],0):=by decide+kernel
end TL
/-
  TlFlw: a task's pipes laid and filled, step by step.
  By an AI agent.
-/
set_option linter.all false
namespace TL
variable{T:gj}{k j m:Nat}{W W2:List bS}{O O2:List (List Int)}{n2 u v ak:Int}{E:List dp}
structure iX(T:gj)(m:Nat)(W:List bS)(O:List (List Int)):Prop where
  e:(W,O)=ig (T.1+2) ((ck T.1 T.2.1 T.2.2).take m)
  le:m<=(ck T.1 T.2.1 T.2.2).length
theorem iX.ld(h:iX T m W O)(hm:cu T):kn (T.1+2) (ck T.1 T.2.1 T.2.2) m (W,O):=by
 rw[h.e]
 exact kj (by have:=hm.1.1;omega) hm.my.rg m h.le
theorem lR:∀(m:Nat),(m4 E m u).length<=2*m
 |0=>Nat.le_refl _
 |m+1=>by
   unfold m4
   have:=lR m
   rw[List.length_append,List.length_append]
   have h1:∀(c:Prop) [Decidable c] (z:Int),(if c then[z] else[]).length<=1:=λc _ z=>by split<;>simp
   have:=h1 ((gI E (m:Int)).1=u) (2*(m:Int))
   have:=h1 ((gI E (m:Int)).2.1=u) (2*(m:Int)+1)
   omega
theorem iX.lw(h:iX T m W O)(hm:cu T):W.length=2*m/\(O.length:Int)=T.1+2/\m<=20480:=by
 have h1:=h.ld hm
 have:=hm.my.el
 have:=h.le
 exact⟨h1.lw,h1.ol,by omega⟩
theorem iX.rl(h:iX T m W O)(hm:cu T)(u0:0<=u)(u1:u<T.1+2):(gI O u).length<=2*m:=by
 have:=(h.ld hm).row u u0 u1
 rw[show gI O u=m4 (ck T.1 T.2.1 T.2.2) m u from this]
 exact lR m
theorem iX.start(hm:cu T):iX T 0 [] (List.replicate (T.1+2).toNat []):=⟨rfl,Nat.zero_le _⟩
theorem iX.next(h:iX T m W O){a:dp}(hl:m<(ck T.1 T.2.1 T.2.2).length)(ha:gI (ck T.1 T.2.1 T.2.2) (m:Int)=a)(e2:(W2,O2)=jd (W,O) a):iX T (m+1) W2 O2:=by
 refine⟨?_,hl⟩
 rw[cG (by omega),iu,<-h.e,ha,e2]
theorem hG(T:gj):(ck T.1 T.2.1 T.2.2).length=T.2.1.length+(fg T.1 T.2.2 T.1.toNat).length:=by unfold ck;rw[List.length_append]
theorem iX.arc(h:iX T k W O)(hk:(k:Int)<(T.2.1.length:Int))(e2:(W2,O2)=jd (W,O) (gI T.2.1 (k:Int))):iX T (k+1) W2 O2:=by
 have:=hG T
 exact h.next (by omega) (g7 (by omega)) e2
theorem lD(N:Int)(D:List Int)(j:Nat):∀(n:Nat),∃l,fg N D (j+n)=fg N D j++l
 |0=>⟨[],(List.append_nil _).symm⟩
 |n+1=>by
   obtain⟨l,hl⟩:=lD N D j n
   exact⟨l++lz N ((j+n:Nat):Int) (gI D ((j+n:Nat):Int)),by
     show fg N D (j+n)++lz N ((j+n:Nat):Int) (gI D ((j+n:Nat):Int))=_
     rw[hl,List.append_assoc]⟩
def fJ(T:gj)(j:Nat)(W:List bS)(O:List (List Int))(ak:Int):Prop:=iX T (T.2.1.length+(fg T.1 T.2.2 j).length) W O/\ak=de T.2.2 j
theorem fJ.start(h:iX T k W O)(h0:(k:Int)<=(T.2.1.length:Int))(hk:¬(k:Int)<(T.2.1.length:Int)):fJ T 0 W O 0:=by
 have e:k=T.2.1.length:=by omega
 subst e
 exact⟨h,rfl⟩
theorem fJ.at_(hm:cu T)(hj:(j:Int)<(T.2.2.length:Int)){a:dp}(ha:lz T.1 (j:Int) (gI T.2.2 (j:Int))=[a]):(fg T.1 T.2.2 (j+1)).length=(fg T.1 T.2.2 j).length+1/\T.2.1.length+(fg T.1 T.2.2 j).length<(ck T.1 T.2.1 T.2.2).length/\gI (ck T.1 T.2.1 T.2.2) ((T.2.1.length+(fg T.1 T.2.2 j).length:Nat):Int)=a:=by
 have h1:fg T.1 T.2.2 (j+1)=fg T.1 T.2.2 j++[a]:=by show _++_=_;rw[ha]
 obtain⟨l,hl⟩:=lD T.1 T.2.2 (j+1) (T.1.toNat-(j+1))
 have hdl:=hm.2.2.1
 rw[show j+1+(T.1.toNat-(j+1))=T.1.toNat by omega,h1] at hl
 have h2:=hG T
 have h3:(fg T.1 T.2.2 j).length<(fg T.1 T.2.2 T.1.toNat).length:=by rw[hl];simp
 refine⟨by rw[h1];simp,by omega,?_⟩
 rw[nj h3,hl]
 simp[gI]
theorem fJ.plus(hm:cu T)(h:fJ T j W O ak)(hj:(j:Int)<(T.2.2.length:Int))(hp:0<gI T.2.2 (j:Int))(e2:(W2,O2)=jd (W,O) (T.1,(j:Int),gI T.2.2 (j:Int),0)):fJ T (j+1) W2 O2 (ak+gI T.2.2 (j:Int)):=by
 have ha:lz T.1 (j:Int) (gI T.2.2 (j:Int))=[(T.1,(j:Int),gI T.2.2 (j:Int),0)]:=by unfold lz;rw[if_pos hp]
 obtain⟨a1,a2,a3⟩:=fJ.at_ hm hj ha
 refine⟨by rw[a1];exact h.1.next a2 a3 e2,?_⟩
 rw[h.2]
 show _=de T.2.2 j+(if 0<gI T.2.2 (j:Int) then gI T.2.2 (j:Int) else 0)
 rw[if_pos hp]
theorem fJ.minus(hm:cu T)(h:fJ T j W O ak)(hj:(j:Int)<(T.2.2.length:Int))(hp:¬0<gI T.2.2 (j:Int))(hn:gI T.2.2 (j:Int)<0)(e2:(W2,O2)=jd (W,O) ((j:Int),T.1+1,-gI T.2.2 (j:Int),0)):fJ T (j+1) W2 O2 ak:=by
 have ha:lz T.1 (j:Int) (gI T.2.2 (j:Int))=[((j:Int),T.1+1,-gI T.2.2 (j:Int),0)]:=by unfold lz;rw[if_neg hp,if_pos hn]
 obtain⟨a1,a2,a3⟩:=fJ.at_ hm hj ha
 refine⟨by rw[a1];exact h.1.next a2 a3 e2,?_⟩
 rw[h.2]
 show _=de T.2.2 j+(if 0<gI T.2.2 (j:Int) then gI T.2.2 (j:Int) else 0)
 rw[if_neg hp,Int.add_zero]
theorem fJ.none(hm:cu T)(h:fJ T j W O ak)(hj:(j:Int)<(T.2.2.length:Int))(hp:¬0<gI T.2.2 (j:Int))(hn:¬gI T.2.2 (j:Int)<0):fJ T (j+1) W O ak:=by
 have ha:fg T.1 T.2.2 (j+1)=fg T.1 T.2.2 j:=by
   show _++lz T.1 (j:Int) (gI T.2.2 (j:Int))=_
   unfold lz;rw[if_neg hp,if_neg hn,List.append_nil]
 refine⟨by rw[ha];exact h.1,?_⟩
 rw[h.2]
 show _=de T.2.2 j+(if 0<gI T.2.2 (j:Int) then gI T.2.2 (j:Int) else 0)
 rw[if_neg hp,Int.add_zero]
theorem fJ.bd(hm:cu T)(h:fJ T j W O ak)(hj:(j:Int)<=(T.2.2.length:Int)):0<=ak/\ak<=(j:Int)*1048576:=by
 rw[h.2]
 exact jE hm.my j (by have:=hm.2.2.1;omega)
theorem fJ.done(hm:cu T)(h:fJ T j W O ak)(h0:(j:Int)<=(T.2.2.length:Int))(hj:¬(j:Int)<(T.2.2.length:Int)):(W,O)=km T.1 T.2.1 T.2.2/\ak=de T.2.2 T.1.toNat:=by
  have e:j=T.1.toNat:=by have:=hm.2.2.1;omega
  subst e
  refine⟨?_,h.2⟩
  have:=h.1.e
  rw[<-hG T,List.take_length] at this
  exact this
open Go Go.Proofs in
theorem jp{γ:aE}{J:ci->Prop}{w:World}{b:Nat}{cs:List Value}(h:Bx γ J w b cs):Bx c0 (is 0) w b cs:=⟨rfl,h.2⟩
end TL
/-
  TlFlx: filling, as the walk goes through it.
  By an AI agent.
-/
set_option linter.all false
namespace TL
variable{n2 s t v u w x y d B M n most ak fl f0 f1:Int}{W W' W0:List bS}{O:List (List Int)}{P P' lv nx nx' far xs:List Int}{m f i k fu:Nat}{R:gK}
theorem fS{a b:List Int}(hl:a.length=b.length)(h:∀i:Nat,i<a.length->gI a (i:Int)=gI b (i:Int)):a=b:=by
 refine List.ext_getElem hl λi h1 h2=>?_
 have:=h i h1
 simpa[gI,h1,h2] using this
structure lJ(n2:Int)(k:Nat)(xs:List Int):Prop where
  ln:(xs.length:Int)=n2
  at_:∀i:Nat,i<k->gI xs (i:Int)=dg
theorem lJ.start(h:(xs.length:Int)=n2):lJ n2 0 xs:=⟨h,λi hi=>by omega⟩
theorem lJ.next(h:lJ n2 k xs)(hk:(k:Int)<(xs.length:Int)):lJ n2 (k+1) (xs.set (k:Int).toNat dg):=by
 refine⟨by rw[List.length_set];exact h.ln,λi hi=>?_⟩
 rw[cA (by omega) hk (by omega)]
 by_cases c:(i:Int)=(k:Int)
 · rw[if_pos c]
 · rw[if_neg c];exact h.at_ i (by omega)
theorem lJ.done(h:lJ n2 k xs)(hk:¬(k:Int)<(xs.length:Int))(hle:(k:Int)<=(xs.length:Int)):xs=List.replicate n2.toNat dg:=by
 have:=h.ln
 refine fS (by simp;omega) λi hi=>?_
 rw[h.at_ i (by omega),dD (by omega) (by omega)]
def cS(n2 s:Int)(W:List bS)(O:List (List Int))(P:List Int):List Int×List cB:=jP W O P (dP (dS n2 s,[(0,s)])) (dS n2 s,[(0,s)])
theorem qo(hb:fE n2 s B M W O P)(h:lJ n2 k xs)(hk:¬(k:Int)<(xs.length:Int))(hle:(k:Int)<=(xs.length:Int)):ik n2 s M W O P (cS n2 s W O P) (xs.set s.toNat 0) [(0,s)]:=by
 rw[h.done hk hle]
 exact ik.start hb
theorem ik.end_{q:List cB}(h:ik n2 s M W O P (cS n2 s W O P) far q)(h0:¬0<(q.length:Int)):far=c9 n2 s W O P:=(h.fin (by omega)).1
structure l6(P far:List Int)(ft:Int)(k:Nat)(xs:List Int):Prop where
  ln:xs.length=P.length
  at_:∀i:Nat,i<P.length->gI xs (i:Int)=if i<k then gI P (i:Int)+min (gI far (i:Int)) ft else gI P (i:Int)
theorem l6.start{ft:Int}:l6 P far ft 0 P:=⟨rfl,λi _=>by rw[if_neg (by omega)]⟩
theorem l6.now{ft:Int}(h:l6 P far ft k xs)(hk:(k:Int)<(xs.length:Int)):gI xs (k:Int)=gI P (k:Int):=by
 have:=h.ln
 rw[h.at_ k (by omega),if_neg (by omega)]
theorem l6.next{ft z:Int}(h:l6 P far ft k xs)(hk:(k:Int)<(xs.length:Int))(hz:z=gI xs (k:Int)+min (gI far (k:Int)) ft):l6 P far ft (k+1) (xs.set (k:Int).toNat z):=by
 have hl:=h.ln
 refine⟨by rw[List.length_set];exact hl,λi hi=>?_⟩
 rw[cA (by omega) hk (by omega)]
 by_cases c:(i:Int)=(k:Int)
 · have:i=k:=by omega
   subst this
   rw[if_pos rfl,if_pos (by omega),hz,h.now hk]
 · rw[if_neg c,h.at_ i hi]
   by_cases c2:i<k
   · rw[if_pos c2,if_pos (by omega)]
   · rw[if_neg c2,if_neg (by omega)]
theorem l6.done{ft:Int}(h:l6 P far ft k xs)(hk:¬(k:Int)<(xs.length:Int)):xs=cV P far ft:=by
 have hl:=h.ln
 refine fS (by rw[hl,iM]) λi hi=>?_
 rw[h.at_ i (by omega),if_pos (by omega),gV (by omega) (by omega)]
def jg(n2 s t ak B M:Int)(W0:List bS)(O:List (List Int))(R:gK)(W:List bS)(P far nx:List Int)(fl:Int):Prop:=∃f,mO n2 s t ak B M W0 O R f W P far nx fl
def j6(n2 s t ak B M:Int)(W0:List bS)(O:List (List Int))(R:gK)(f0:Int)(W:List bS)(P far nx:List Int)(fl:Int):Prop:=(∃f,oQ n2 s t ak B M W0 O R f W P far nx fl)/\(f0<fl\/f0=fl/\ZpW W P s t)
def ku(n2 s t ak B M:Int)(W0:List bS)(O:List (List Int))(R:gK)(f1:Int)(W:List bS)(P lv nx:List Int)(fl:Int):Prop:=(∃f,mR n2 s t ak B M W0 O R f W P lv nx fl)/\(f1<fl\/f1=fl/\qw n2 s W P lv/\0<=gI lv t/\nx=fy n2)
theorem jg.stop(h:jg n2 s t ak B M W0 O R W P far nx fl)(hs:gI (c9 n2 s W O P) t=dg):R=(W,P,c9 n2 s W O P,nx,fl):=by
 obtain⟨f,hf⟩:=h
 exact hf.stop hs
theorem jg.go(h:jg n2 s t ak B M W0 O R W P far nx fl)(hs:¬gI (c9 n2 s W O P) t=dg):j6 n2 s t ak B M W0 O R fl W (cV P (c9 n2 s W O P) (gI (c9 n2 s W O P) t)) (c9 n2 s W O P) nx fl:=by
 obtain⟨f,hf⟩:=h
 obtain⟨r1,r2,r3⟩:=kU hf.i.d hf.i.b.hB (eE hf.i.d) hf.i.p ⟨hf.i.b.t0,hf.i.b.t1⟩ hs
 exact⟨⟨_,hf.go hs⟩,.inr ⟨rfl,r3⟩⟩
theorem jg.ii(h:jg n2 s t ak B M W0 O R W P far nx fl):j3 n2 s t ak B M W0 O W P fl:=by
 obtain⟨f,hf⟩:=h
 exact hf.i
theorem j6.ii(h:j6 n2 s t ak B M W0 O R f0 W P far nx fl):j3 n2 s t ak B M W0 O W P fl:=by
 obtain⟨⟨f,hf⟩,_⟩:=h
 exact hf.i
theorem ku.ii(h:ku n2 s t ak B M W0 O R f1 W P lv nx fl):j3 n2 s t ak B M W0 O W P fl:=by
 obtain⟨⟨f,hf⟩,_⟩:=h
 exact hf.i
theorem j6.yes(h:j6 n2 s t ak B M W0 O R f0 W P far nx fl)(hl:0<=gI (bz n2 s W O P).1 t):ku n2 s t ak B M W0 O R fl W P (bz n2 s W O P).1 (fy n2) fl:=by
 obtain⟨⟨f,hf⟩,_⟩:=h
 exact⟨⟨_,hf.yes hl⟩,.inr ⟨rfl,fY hf.i.d,hl,rfl⟩⟩
theorem j6.no(h:j6 n2 s t ak B M W0 O R f0 W P far nx fl)(hl:¬0<=gI (bz n2 s W O P).1 t):jg n2 s t ak B M W0 O R W P (bz n2 s W O P).1 (fy n2) fl/\f0<fl:=by
 obtain⟨⟨f,hf⟩,h2⟩:=h
 refine⟨⟨_,hf.no hl⟩,?_⟩
 rcases h2 with q|⟨_,q⟩
 · exact q
 · exact absurd (qj (fY hf.i.d) q) hl
theorem ku.yes(h:ku n2 s t ak B M W0 O R f1 W P lv nx fl){r:Int×List bS×List Int}(hr:r=pu n2 O P lv t s ak W nx)(hp:0<r.1):ku n2 s t ak B M W0 O R f1 r.2.1 P lv r.2.2 (fl+r.1):=by
 obtain⟨⟨f,hf⟩,h2⟩:=h
 exact⟨⟨_,(hf.yes hr hp).1⟩,.inl (by rcases h2 with q|⟨q,_⟩<;>omega)⟩
theorem ku.no(h:ku n2 s t ak B M W0 O R f1 W P lv nx fl){r:Int×List bS×List Int}(hr:r=pu n2 O P lv t s ak W nx)(hp:¬0<r.1)(h0:f0<=f1):j6 n2 s t ak B M W0 O R f0 r.2.1 P lv r.2.2 fl/\f1<fl:=by
 obtain⟨⟨f,hf⟩,h2⟩:=h
 have h3:f1<fl:=by
   rcases h2 with q|⟨q,q1,q2,q3⟩
   · exact q
   · subst q3
     have:=mW (P:=P) (most:=ak) hf.u q1 hf.i.b.s0 hf.i.b.s1 hf.i.b.st hf.i.b.t0 hf.i.b.t1 q2 hf.ap
     rw[<-hr] at this
     exact absurd this hp
 exact⟨⟨⟨_,hf.no hr hp⟩,.inl (by omega)⟩,h3⟩
structure pD(n2 t:Int)(O:List (List Int))(P lv:List Int)(fu:Nat)(v most:Int)(W:List bS)(nx:List Int):Prop where
  i:nS n2 W O lv nx
  mu:eA n2 O nx lv v<=fu
  v0:0<=v
  v1:v<n2
  m0:0<=most
  m1:most<=1099511627776
  t0:0<=t
  t1:t<n2
  pl:(P.length:Int)=n2
  ll:(lv.length:Int)=n2
  pb:∀v,0<=v->v<n2->0<=gI P v/\gI P v<=1099511627776
  n2b:n2<=5000
theorem ku.pun(h:ku n2 s t ak B M W0 O R f1 W P lv nx fl):pD n2 t O P lv (eA n2 O nx lv s) s ak W nx:=by
 obtain⟨⟨f,hf⟩,_⟩:=h
 have hn:=hf.i.b.n2b
 have hB:=hf.i.b.hB
 refine⟨hf.u,Nat.le_refl _,hf.i.b.s0,hf.i.b.s1,by have:=hf.ap;omega,hf.i.b.ab,hf.i.b.t0,hf.i.b.t1,hf.i.d.pt.pl,hf.ll,λv a b=>?_,hn⟩
 have:=hf.i.d.pt.pb v a b
 omega
def gT(n2 t v most:Int)(O:List (List Int))(P lv:List Int)(fu:Nat)(R:Int×List bS×List Int)(W:List bS)(nx:List Int):Prop:=∃f,f<=fu/\jK n2 t v most O P lv R f W nx
theorem gT.start(h:pD n2 t O P lv fu v most W nx)(hv:¬v=t):gT n2 t v most O P lv fu (cy O P lv t fu v most W nx) W nx:=⟨fu,Nat.le_refl _,⟨h.i,h.mu,h.v0,h.v1,h.m0,hv,rfl⟩⟩
theorem oy(h:pD n2 t O P lv fu v most W nx)(hv:v=t):cy O P lv t fu v most W nx=(most,W,nx):=by
 have h1:=h.mu
 have h2:=(h.i.lv v h.v0 h.v1).2
 obtain⟨g,rfl⟩:∃g,fu=g+1:=⟨fu-1,by unfold eA at h1;omega⟩
 unfold cy
 rw[if_pos hv]
end TL
/-
  TlFly: levels and pushes, as the walk goes through them.
  By an AI agent.
-/
set_option linter.all false
namespace TL
variable{n2 s t v u w x y d B M n most ak fl f0 f1 rr pn:Int}{W W' W0 xW:List bS}{O:List (List Int)}{P P' lv nx nx' far xs ys xn Nn:List Int}{m f i k fu:Nat}{R:gK}{Q:Int×List bS×List Int}
structure lC(n2:Int)(k:Nat)(xs ys:List Int):Prop where
  l1:(xs.length:Int)=n2
  l2:(ys.length:Int)=n2
  at_:∀i:Nat,i<k->gI xs (i:Int)= -1/\gI ys (i:Int)=0
theorem lC.start(h:(xs.length:Int)=n2)(h2:(ys.length:Int)=n2):lC n2 0 xs ys:=⟨h,h2,λi hi=>by omega⟩
theorem lC.next(h:lC n2 k xs ys)(hk:(k:Int)<(xs.length:Int)):lC n2 (k+1) (xs.set (k:Int).toNat (-1)) (ys.set (k:Int).toNat 0):=by
 have h1:=h.l1
 have h2:=h.l2
 refine⟨by rw[List.length_set];exact h.l1,by rw[List.length_set];exact h.l2,λi hi=>?_⟩
 rw[cA (by omega) hk (by omega),cA (by omega) (by omega) (by omega)]
 by_cases c:(i:Int)=(k:Int)
 · rw[if_pos c,if_pos c];exact⟨rfl,rfl⟩
 · rw[if_neg c,if_neg c];exact h.at_ i (by omega)
theorem lC.done(h:lC n2 k xs ys)(hk:¬(k:Int)<(xs.length:Int)):xs=List.replicate n2.toNat (-1)/\ys=fy n2:=by
 have h1:=h.l1
 have h2:=h.l2
 refine⟨fS (by simp;omega) λi hi=>?_,fS (by unfold fy;simp;omega) λi hi=>?_⟩
 · rw[(h.at_ i (by omega)).1,dD (by omega) (by omega)]
 · unfold fy
   rw[(h.at_ i (by omega)).2,dD (by omega) (by omega)]
theorem qd(s0:0<=s)(s1:s<n2)(h:lC n2 k xs ys)(hk:¬(k:Int)<(xs.length:Int)):jO n2 s W O P (bz n2 s W O P) (xs.set s.toNat 0) [s] 0:=by
 rw[(h.done hk).1]
 exact kt s0 s1
theorem jO.qb{R:List Int×List Int}{qu:List Int}(h:jO n2 s W O P R lv qu i)(n0:0<=n2):(qu.length:Int)<=n2/\(i:Int)<=qu.length:=⟨h.l.ql n0,h.le⟩
theorem jO.vb{R:List Int×List Int}{qu:List Int}(h:jO n2 s W O P R lv qu i)(hi:(i:Int)<(qu.length:Int)):0<=gI qu (i:Int)/\gI qu (i:Int)<n2:=h.l.qr _ (bp (by omega) hi)
theorem iZ.qb{R:List Int×List Int}{qu:List Int}(h:iZ n2 s W O P R lv qu i k v)(n0:0<=n2):(qu.length:Int)<=n2/\(i:Int)<qu.length/\(0<=v/\v<n2)/\((lv.length:Int)=n2)/\ -1<=gI lv v/\gI lv v<n2:=by
 have hv:=h.l.qr _ (bp (xs:=qu) (i:=(i:Int)) (by omega) h.le)
 rw[h.hv] at hv
 exact⟨h.l.ql n0,h.le,hv,h.l.ll,h.l.top n0 hv.1 hv.2⟩
theorem lL(hs:j8 n2 W O)(v0:0<=v)(v1:v<n2)(hw:w∈gI O v):(0<=w/\w<(W.length:Int))/\(0<=(gI W w).1/\(gI W w).1<n2)/\ -1048576<=(gI W w).2.2/\(gI W w).2.2<=1048576:=by
  obtain⟨h1,h2⟩:=hs.row v v0 v1 w hw
  exact⟨h1,hs.to w h1,(hs.cs w h1).2⟩
theorem fE.pot(h:fE n2 s B M W O P)(hB:B<=5242880000)(v0:0<=v)(v1:v<n2):0<=gI P v/\gI P v<=5242880000:=by
 have:=h.pt.pb v v0 v1
 omega
theorem jg.go'(h:jg n2 s t ak B M W0 O R W P far nx fl)(hr:xs=c9 n2 s W O P)(hp:P'=cV P xs (gI xs t))(hs:¬gI xs t=dg):j6 n2 s t ak B M W0 O R fl W P' xs nx fl:=by
 subst hr hp
 exact h.go hs
theorem jg.stop'(h:jg n2 s t ak B M W0 O R W P far nx fl)(hr:xs=c9 n2 s W O P)(hs:gI xs t=dg):R=(W,P,xs,nx,fl):=by
 subst hr
 exact h.stop hs
theorem j6.yes'(h:j6 n2 s t ak B M W0 O R f0 W P far nx fl)(hl:lv=(bz n2 s W O P).1)(hn:Nn=fy n2)(ht:0<=gI lv t):ku n2 s t ak B M W0 O R fl W P lv Nn fl:=by
 subst hl hn
 exact h.yes ht
theorem j6.no'(h:j6 n2 s t ak B M W0 O R f0 W P far nx fl)(hl:lv=(bz n2 s W O P).1)(hn:Nn=fy n2)(ht:¬0<=gI lv t):jg n2 s t ak B M W0 O R W P lv Nn fl/\f0<fl:=by
 subst hl hn
 exact h.no ht
def nh(n2 s t ak B M:Int)(W0:List bS)(O:List (List Int))(R:gK)(f1:Int)(W':List bS)(P lv nx':List Int)(fl pn:Int):Prop:=∃W nx,ku n2 s t ak B M W0 O R f1 W P lv nx fl/\pn=(pu n2 O P lv t s ak W nx).1/\W'=(pu n2 O P lv t s ak W nx).2.1/\nx'=(pu n2 O P lv t s ak W nx).2.2
theorem ku.push(h:ku n2 s t ak B M W0 O R f1 W P lv nx fl)(hr:pn=(cy O P lv t (eA n2 O nx lv s) s ak W nx).1/\W'=(cy O P lv t (eA n2 O nx lv s) s ak W nx).2.1/\nx'=(cy O P lv t (eA n2 O nx lv s) s ak W nx).2.2):nh n2 s t ak B M W0 O R f1 W' P lv nx' fl pn:=⟨W,nx,h,hr⟩
theorem nh.yes(h:nh n2 s t ak B M W0 O R f1 W' P lv nx' fl pn)(hp:0<pn):ku n2 s t ak B M W0 O R f1 W' P lv nx' (fl+pn):=by
 obtain⟨W,nx,h1,rfl,rfl,rfl⟩:=h
 exact h1.yes rfl hp
theorem nh.no(h:nh n2 s t ak B M W0 O R f1 W' P lv nx' fl pn)(hp:¬0<pn)(h0:f0<=f1):j6 n2 s t ak B M W0 O R f0 W' P lv nx' fl/\f1<fl:=by
 obtain⟨W,nx,h1,rfl,rfl,rfl⟩:=h
 exact h1.no rfl hp h0
theorem j6.le0(h:j6 n2 s t ak B M W0 O R f0 W P far nx fl):f0<=fl:=by
 rcases h.2 with q|⟨q,_⟩<;>omega
theorem ku.lens(h:ku n2 s t ak B M W0 O R f1 W P lv nx fl):(lv.length:Int)=n2/\(nx.length:Int)=n2:=by
 obtain⟨⟨f,hf⟩,_⟩:=h
 exact⟨hf.ll,hf.u.nx.nl⟩
theorem nh.ii(h:nh n2 s t ak B M W0 O R f1 W' P lv nx' fl pn):j3 n2 s t ak B M W0 O W' P (fl+pn)/\0<=pn/\(lv.length:Int)=n2/\(nx'.length:Int)=n2:=by
 obtain⟨W,nx,⟨⟨f,hf⟩,_⟩,rfl,rfl,rfl⟩:=h
 exact⟨hf.i.push hf.ok,hf.ok.k0,hf.ll,hf.ok.nxi.nl⟩
theorem j3.fb(h:j3 n2 s t ak B M W0 O W P fl):0<=fl/\fl<=ak/\ak<=1099511627776:=⟨h.l.f0,h.le.1,h.b.ab⟩
theorem pD.pos(h:pD n2 t O P lv fu v most W nx):(O.length:Int)=n2/\(nx.length:Int)=n2/\W.length<=50000:=⟨h.i.sh.ol,h.i.nx.nl,h.i.sh.len⟩
theorem gT.lens(h:gT n2 t v most O P lv fu Q W nx):(nx.length:Int)=n2/\(O.length:Int)=n2/\W.length<=50000/\0<=gI nx v/\gI nx v<=((gI O v).length:Int)/\((gI O v).length:Int)<=(W.length:Int):=by
 obtain⟨f,_,h⟩:=h
 have:=h.i.nx.rg v h.v0 h.v1
 exact⟨h.i.nx.nl,h.i.sh.ol,h.i.sh.len,this.1,this.2,h.i.sh.rl h.v0 h.v1⟩
theorem gT.done(h:gT n2 t v most O P lv fu Q W nx)(hk:¬gI nx v<((gI O v).length:Int)):Q=(0,W,nx):=by
 obtain⟨f,_,h⟩:=h
 exact h.done hk
theorem gT.skip(h:gT n2 t v most O P lv fu Q W nx)(hk:gI nx v<((gI O v).length:Int))(hc:(gI W (gI (gI O v) (gI nx v))).2.1=0\/¬gI lv (gI W (gI (gI O v) (gI nx v))).1=gI lv v+1\/¬dA W P v (gI (gI O v) (gI nx v))=0):gT n2 t v most O P lv fu Q W (nx.set v.toNat (gI nx v+1)):=by
 obtain⟨f,hf,h⟩:=h
 obtain⟨h1,h2⟩:=h.skip hk hc
 exact⟨f-1,by omega,h1⟩
theorem gT.way(h:gT n2 t v most O P lv fu Q W nx)(hk:gI nx v<((gI O v).length:Int)):(0<=gI (gI O v) (gI nx v)/\gI (gI O v) (gI nx v)<(W.length:Int))/\(0<=c8 (gI (gI O v) (gI nx v))/\c8 (gI (gI O v) (gI nx v))<(W.length:Int))/\(0<=(gI W (gI (gI O v) (gI nx v))).1/\(gI W (gI (gI O v) (gI nx v))).1<n2)/\(-1048576<=(gI W (gI (gI O v) (gI nx v))).2.2/\(gI W (gI (gI O v) (gI nx v))).2.2<=1048576)/\(-1<=gI lv v/\gI lv v<n2)/\0<=(gI W (gI (gI O v) (gI nx v))).2.1/\(gI W (gI (gI O v) (gI nx v))).2.1<=1048576:=by
 obtain⟨f,_,h⟩:=h
 obtain⟨hw,_⟩:=h.way hk
 have ht:=h.i.sh.tw hw
 have r1:=h.i.rm _ hw
 have r2:=h.i.rm _ ht
 have r3:=h.i.rb _ hw
 exact⟨hw,ht,h.i.sh.to _ hw,(h.i.sh.cs _ hw).2,h.i.lv v h.v0 h.v1,r1,by show bL W _<=_;omega⟩
theorem jK.need(h0:pD n2 t O P lv fu v most W0 Nn)(h:jK n2 t v most O P lv Q f W nx)(hk:gI nx v<((gI O v).length:Int))(c2:gI lv (gI W (gI (gI O v) (gI nx v))).1=gI lv v+1):pD n2 t O P lv (f-1) (gI W (gI (gI O v) (gI nx v))).1 (min most (gI W (gI (gI O v) (gI nx v))).2.1) W nx:=by
 obtain⟨q1,q2,q3,q4⟩:=h.call hk c2
 have:=h0.m1
 exact⟨h.i,q1,q3.1,q3.2,q4,by show min most (bL W _)<=_;omega,h0.t0,h0.t1,h0.pl,h0.ll,h0.pb,h0.n2b⟩
structure sx(n2 t v most:Int)(O:List (List Int))(P lv:List Int)(fu:Nat)(Q:Int×List bS×List Int)(nx:List Int)(w rr:Int)(xW:List bS)(xn:List Int):Prop where
  en:gI xn v=gI nx v
  nl:(xn.length:Int)=n2
  nv:0<=gI xn v/\gI xn v<((gI O v).length:Int)
  wi:0<=w/\w<(xW.length:Int)
  ti:0<=c8 w/\c8 w<(xW.length:Int)
  k0:0<=rr
  k1:rr<=(gI xW w).2.1
  rm:(gI xW w).2.1<=1048576
  rt:0<=(gI xW (c8 w)).2.1/\(gI xW (c8 w)).2.1<=1048576
  nt:c8 w≠w
  yes:0<rr->Q=(rr,dv xW w rr,xn)
  no:¬0<rr->gT n2 t v most O P lv fu Q xW (xn.set v.toNat (gI xn v+1))
theorem jK.after(h:jK n2 t v most O P lv Q f W nx)(hf:f<=fu)(hk:gI nx v<((gI O v).length:Int))(c1:¬(gI W (gI (gI O v) (gI nx v))).2.1=0)(c2:gI lv (gI W (gI (gI O v) (gI nx v))).1=gI lv v+1)(c3:dA W P v (gI (gI O v) (gI nx v))=0)
   (hr:rr=(cy O P lv t (f-1) (gI W (gI (gI O v) (gI nx v))).1 (min most (gI W (gI (gI O v) (gI nx v))).2.1) W nx).1/\xW=(cy O P lv t (f-1) (gI W (gI (gI O v) (gI nx v))).1 (min most (gI W (gI (gI O v) (gI nx v))).2.1) W nx).2.1/\xn=(cy O P lv t (f-1) (gI W (gI (gI O v) (gI nx v))).1 (min most (gI W (gI (gI O v) (gI nx v))).2.1) W nx).2.2):sx n2 t v most O P lv fu Q nx (gI (gI O v) (gI nx v)) rr xW xn:=by
 obtain⟨hw,hfr⟩:=h.way hk
 obtain⟨e1,e2,e3,e4,e5⟩:=h.rec_ hk c1 c2 c3 rfl
 have hlt:=(h.call hk c2).2.1
 have hv0:=(h.i.nx.rg v h.v0 h.v1).1
 obtain⟨rfl,rfl,rfl⟩:=hr
 have hi:=e1.pui h.i
 have hw':=e1.sm.inn.2 hw
 have ht':=hi.sh.tw hw'
 have r1:=hi.rm _ hw'
 have r2:=hi.rm _ ht'
 have r3:=hi.rb _ hw'
 have k1:=e1.k1
 have k1':=Int.le_trans (Int.le_trans k1 (Int.min_le_right _ _)) (Int.le_of_eq e2.symm)
 exact⟨e3,e1.nxi.nl,⟨by show 0<=gI (cy O P lv t (f-1) (bE W (gI (gI O v) (gI nx v))) (min most (bL W (gI (gI O v) (gI nx v)))) W nx).2.2 v;rw[e3];exact hv0,by show gI (cy O P lv t (f-1) (bE W (gI (gI O v) (gI nx v))) (min most (bL W (gI (gI O v) (gI nx v)))) W nx).2.2 v<_;rw[e3];exact hk⟩,hw',ht',e1.k0,k1',by show bL (cy O P lv t (f-1) (bE W (gI (gI O v) (gI nx v))) (min most (bL W (gI (gI O v) (gI nx v)))) W nx).2.1 _<=_;omega,⟨r2,by show bL (cy O P lv t (f-1) (bE W (gI (gI O v) (gI nx v))) (min most (bL W (gI (gI O v) (gI nx v)))) W nx).2.1 _<=_;omega⟩,(e6 hw.1).2.2.1,e4,λhn=>⟨f-1,by omega,e5 hn⟩⟩
theorem sx.sz{z:bS}(h:sx n2 t v most O P lv fu Q nx w rr xW xn):gI (xW.set w.toNat z) (c8 w)=gI xW (c8 w):=by
 rw[cA h.wi.1 h.wi.2 h.ti.1,if_neg h.nt]
theorem dh{z:Int}{xs:List Int}(h0:0<=v)(h1:v<(xs.length:Int)):gI (xs.set v.toNat z) v=z:=by
 rw[cA h0 h1 h0,if_pos rfl]
theorem ke.bd{x:Int×Int}{R:List Int×List cB}{q:List cB}{M:Int}(hb:fE n2 s B M W O P)(h:ke n2 s M W O P R far q x k m):0<=x.1/\x.1<=1152921504606846976:=by
 have h1:=h.r.xb
 have h2:=h.r.x0
 have h3:=h.r.xf
 have hM:=hb.hM
 have:=hb.b0
 have h4:=(h.r.i.bd (by omega) hb.hb h2.1 h2.2 (by omega)).1
 have hu:dg=1152921504606846976:=rfl
 omega
theorem oP.fb{q:List cB}{M:Int}(hb:fE n2 s B M W O P)(h:oP n2 s M W P far q)(v0:0<=v)(v1:v<n2):0<=gI far v/\gI far v<=1152921504606846976:=by
 have hM:=hb.hM
 have:=hb.b0
 by_cases c:gI far v=dg
 · rw[c];exact⟨by decide,by decide⟩
 · have:=h.bd (by omega) hb.hb v0 v1 c
   have:=hb.hb
   have hu:dg=1152921504606846976:=rfl
   omega
theorem kR{T:gj}(hm:cu T)(h:(W,O)=km T.1 T.2.1 T.2.2/\ak=de T.2.2 T.1.toNat):jg (T.1+2) T.1 (T.1+1) ak ((T.1+2)*1048576) (1048576+(T.1+2)*1048576) W O (dj T.1 T.2.1 T.2.2) W (List.replicate (T.1+2).toNat 0) (List.replicate (T.1+2).toNat 0) (List.replicate (T.1+2).toNat 0) 0:=by
 obtain⟨h1,rfl⟩:=h
 have e1:W=(km T.1 T.2.1 T.2.2).1:=by rw[<-h1]
 have e2:O=(km T.1 T.2.1 T.2.2).2:=by rw[<-h1]
 subst e1 e2
 exact⟨_,(hm.my.fib hm.my.ld).start⟩
theorem cC{a b x:Int}(a0:0<=a)(a1:a<(O.length:Int))(b0:0<=b):(gI (O.set a.toNat (gI O a++[x])) b).length<=(gI O a).length+(gI O b).length+1:=by
 rw[cA a0 a1 b0]
 split
 · rw[List.length_append,List.length_singleton];omega
 · omega
def mQ(n2 s t:Int)(W:List bS)(O:List (List Int))(P:List Int)(rr:Bool)(xF xP:List Int):Prop:=xF=c9 n2 s W O P/\((rr=true/\¬gI xF t=dg/\xP=cV P xF (gI xF t))\/(rr=false/\gI xF t=dg/\xP=P))
theorem jg.goJ{rb:Bool}{xP xF:List Int}(h:jg n2 s t ak B M W0 O R W P far nx fl)(hj:mQ n2 s t W O P rb xF xP)(hr:rb=true):j6 n2 s t ak B M W0 O R fl W xP xF nx fl:=by
 obtain⟨h1,⟨_,h2,h3⟩|⟨h2,_⟩⟩:=hj
 · exact h.go' h1 h3 h2
 · rw[h2] at hr;cases hr
theorem jg.stopJ{rb:Bool}{xP xF:List Int}(h:jg n2 s t ak B M W0 O R W P far nx fl)(hj:mQ n2 s t W O P rb xF xP)(hr:¬rb=true):R=(W,xP,xF,nx,fl):=by
 obtain⟨h1,⟨h2,_⟩|⟨_,h2,h3⟩⟩:=hj
 · exact absurd h2 hr
 · rw[h3];exact h.stop' h1 h2
theorem mQ.len{rb:Bool}{xP xF:List Int}(hj:mQ n2 s t W O P rb xF xP)(hb:fE n2 s B M W O P):(xF.length:Int)=n2/\(xP.length:Int)=n2:=by
 obtain⟨h1,h2⟩:=hj
 have h3:=(eE hb).i.fl
 have h4:=hb.pt.pl
 refine⟨by rw[h1];exact h3,?_⟩
 rcases h2 with⟨_,_,q⟩|⟨_,_,q⟩
 · rw[q,iM];exact h4
 · rw[q];exact h4
theorem ff(hb:fE n2 s B M W O P){xL:List Int}(h:xL=(bz n2 s W O P).1):(xL.length:Int)=n2:=by
 obtain⟨qu,hq⟩:=(fY hb).l
 rw[h];exact hq.ll
theorem gU(n0:0<=n2){xN:List Int}(h:xN=fy n2):(xN.length:Int)=n2:=by rw[h];unfold fy;simp;omega
theorem ec{xj qq:List cB}(h:xj.length=qq.length):xj.take ((xj.length:Int)-1).toNat=xj.take (qq.length-1):=by
 congr 1;omega
theorem oP.ql{q:List cB}{M:Int}(h:oP n2 s M W P far q)(n0:0<n2)(hM:0<=M):(q.length:Int)<=(n2*M+1)*n2:=by
 have hp:=gu ((n2*M+1)*n2).toNat (q.map λz=>z.1*n2+z.2) (by
   unfold List.Nodup
   rw[List.pairwise_map]
   refine List.Pairwise.imp_of_mem (R:=λa b=>a≠b) ?_ h.qn
   intro a b ha hb hne e
   obtain⟨⟨a0,a1⟩,_⟩:=h.qin a ha
   obtain⟨⟨b0,b1⟩,_⟩:=h.qin b hb
   have e:a.1*n2+a.2=b.1*n2+b.2:=e
   have na:∀x y:Int,x<y->x*n2+n2<=y*n2:=λx y hxy=>by
     have:=Int.mul_le_mul_of_nonneg_right (show x+1<=y by omega) (show 0<=n2 by omega)
     rwa[Int.add_mul,Int.one_mul] at this
   rcases Int.lt_trichotomy a.1 b.1 with q|q|q
   · have:=na _ _ q;omega
   · rw[q] at e
     exact hne (Prod.ext q (by omega))
   · have:=na _ _ q;omega) λx hx=>by
   obtain⟨z,hz,rfl⟩:=List.mem_map.1 hx
   obtain⟨⟨a0,a1⟩,_⟩:=h.qin z hz
   obtain⟨b0,b1⟩:=h.qb z hz
   have h1:=Int.mul_le_mul_of_nonneg_right b1 (show 0<=n2 by omega)
   have h2:=Int.mul_nonneg b0 (show 0<=n2 by omega)
   have h3:(n2*M+1)*n2=n2*M*n2+n2:=by rw[Int.add_mul,Int.one_mul]
   exact⟨by omega,by omega⟩
 rw[List.length_map] at hp
 by_cases c:q=[]
 · rw[c]
   exact Int.mul_nonneg (by have:=Int.mul_nonneg (show 0<=n2 by omega) hM;omega) (by omega)
 · obtain⟨z,hz⟩:=List.exists_mem_of_ne_nil q c
   obtain⟨b0,b1⟩:=h.qb z hz
   have:=Int.mul_nonneg (show 0<=n2*M+1 by omega) (show 0<=n2 by omega)
   omega
theorem oP.ql2{q:List cB}(hb:fE n2 s B M W O P)(h:oP n2 s M W P far q)(hB:B=n2*1048576)(hn:n2<=62):(q.length:Int)<=300000000000:=by
 have s0:=hb.s0
 have s1:=hb.s1
 have hM:=hb.hM
 have h1:=h.ql (by omega) (by omega)
 have hM1:M<=66060288:=by omega
 have hM0:0<=M:=by omega
 have e1:n2*M<=62*66060288:=Int.le_trans (Int.mul_le_mul_of_nonneg_right hn hM0) (Int.mul_le_mul_of_nonneg_left hM1 (by decide))
 have e2:0<=n2*M:=Int.mul_nonneg (by omega) hM0
 have e3:(n2*M+1)*n2<=(62*66060288+1)*62:=Int.le_trans (Int.mul_le_mul_of_nonneg_right (by omega) (by omega)) (Int.mul_le_mul_of_nonneg_left hn (by decide))
 omega
end TL
/-
  TlFlz: what Min tells, as the walk goes through it.
  By an AI agent.
-/
set_option linter.all false
namespace TL
variable{T:gj}{k:Nat}{W:List bS}{P F Nx xs:List Int}{fl c ak:Int}{O:List (List Int)}{W0:List bS}
structure m5(T:gj)(W:List bS)(k:Nat)(xs:List Int)(c:Int):Prop where
  ln:xs.length=T.2.1.length
  at_:∀i:Nat,i<k->gI xs (i:Int)=xW W i
  cs:c=SP k λi=>xW W i*(gI T.2.1 (i:Int)).2.2.2
theorem m5.start:m5 T W 0 (List.replicate (T.2.1.length:Int).toNat 0) 0:=⟨by simp,λi hi=>by omega,rfl⟩
theorem rD(hm:cu T)(hR:dj T.1 T.2.1 T.2.2=(W,P,F,Nx,fl))(hk:(k:Int)<(T.2.1.length:Int)):(2*(k:Int)+1<(W.length:Int))/\(0<=xW W k/\xW W k<=1048576)/\(0<=(gI T.2.1 (k:Int)).2.2.2/\(gI T.2.1 (k:Int)).2.2.2<=1048576)/\0<=xW W k*(gI T.2.1 (k:Int)).2.2.2/\xW W k*(gI T.2.1 (k:Int)).2.2.2<=1099511627776:=by
 have he:=hm.my.fi
 have hc:=hm.my.ld
 have hlen:(ck T.1 T.2.1 T.2.2).length=T.2.1.length+(fg T.1 T.2.2 T.1.toNat).length:=hG T
 have hx:=mD hc he.i.l (i:=k) (by omega)
 rw[hR] at hx
 have hx:bL W (2*(k:Int))=(gI (ck T.1 T.2.1 T.2.2) (k:Int)).2.2.1-xW W k/\0<=xW W k/\xW W k<=(gI (ck T.1 T.2.1 T.2.2) (k:Int)).2.2.1:=hx
 obtain⟨_,h1,h2⟩:=hx
 rw[g7 (by omega)] at h2
 obtain⟨_,_,⟨h3,h4⟩,h5,h6⟩:=hm.2.2.2.1 _ (bp (xs:=T.2.1) (i:=(k:Int)) (by omega) hk)
 have hl:=he.i.l.sm.ln
 rw[hR] at hl
 have hl2:=hc.lw
 have h7:=Int.mul_nonneg h1 h5
 have h8:xW W k*(gI T.2.1 (k:Int)).2.2.2<=1048576*1048576:=Int.le_trans (Int.mul_le_mul_of_nonneg_right (show xW W k<=1048576 by omega) h5) (Int.mul_le_mul_of_nonneg_left h6 (by decide))
 have hl3:W.length=(km T.1 T.2.1 T.2.2).1.length:=hl
 exact⟨by omega,⟨h1,by omega⟩,⟨h5,h6⟩,h7,by omega⟩
theorem rZ(hm:cu T)(hR:dj T.1 T.2.1 T.2.2=(W,P,F,Nx,fl))(hk:(k:Int)<(T.2.1.length:Int)):(2*(k:Int)+1<(W.length:Int))/\(0<=(gI W (2*(k:Int)+1)).2.1/\(gI W (2*(k:Int)+1)).2.1<=1048576)/\(0<=(gI T.2.1 (k:Int)).2.2.2/\(gI T.2.1 (k:Int)).2.2.2<=1048576)/\0<=(gI W (2*(k:Int)+1)).2.1*(gI T.2.1 (k:Int)).2.2.2/\(gI W (2*(k:Int)+1)).2.1*(gI T.2.1 (k:Int)).2.2.2<=1099511627776:=rD hm hR hk
theorem lT(hm:cu T)(hR:dj T.1 T.2.1 T.2.2=(W,P,F,Nx,fl)):∀(k:Nat),(k:Int)<=(T.2.1.length:Int)->0<=SP k (λi=>xW W i*(gI T.2.1 (i:Int)).2.2.2)/\SP k (λi=>xW W i*(gI T.2.1 (i:Int)).2.2.2)<=(k:Int)*1099511627776
 |0,_=>⟨Int.le_refl _,Int.le_refl _⟩
 |k+1,h=>by
   have h1:=lT hm hR k (by omega)
   have h2:=(rD hm hR (k:=k) (by omega)).2.2.2
   show 0<=SP k (λi=>xW W i*(gI T.2.1 (i:Int)).2.2.2)+xW W k*(gI T.2.1 (k:Int)).2.2.2/\SP k (λi=>xW W i*(gI T.2.1 (i:Int)).2.2.2)+xW W k*(gI T.2.1 (k:Int)).2.2.2<=_
   omega
theorem m5.bd(h:m5 T W k xs c)(hm:cu T)(hR:dj T.1 T.2.1 T.2.2=(W,P,F,Nx,fl))(hk:(k:Int)<=(T.2.1.length:Int)):0<=c/\c<=(k:Int)*1099511627776:=by
 rw[h.cs];exact lT hm hR k hk
theorem m5.next(h:m5 T W k xs c)(hk:(k:Int)<(T.2.1.length:Int)){z d:Int}(hz:z=(gI W (2*(k:Int)+1)).2.1)(hd:d=c+z*(gI T.2.1 (k:Int)).2.2.2):m5 T W (k+1) (xs.set (k:Int).toNat z) d:=by
 have hl:=h.ln
 have hz:z=xW W k:=hz
 refine⟨by rw[List.length_set];exact hl,λi hi=>?_,?_⟩
 · rw[cA (by omega) (by omega) (by omega)]
   by_cases q:(i:Int)=(k:Int)
   · rw[if_pos q,hz,show i=k by omega]
   · rw[if_neg q];exact h.at_ i (by omega)
 · rw[hd,hz,h.cs];rfl
theorem lH(h:¬cu T):aG T=(([],[],0),1):=by unfold aG;rw[if_neg h]
theorem eX(hm:cu T)(h:¬kk T.1 T.2.1 T.2.2):aG T=(([],[],0),20):=by unfold aG;rw[if_pos hm,if_neg h]
theorem om(h:¬dL T.2.2=0):¬kk T.1 T.2.1 T.2.2:=λq=>h q.1
theorem nZ(hR:dj T.1 T.2.1 T.2.2=(W,P,F,Nx,fl))(hWO:(W0,O)=km T.1 T.2.1 T.2.2/\ak=de T.2.2 T.1.toNat)(h:¬fl=ak):¬kk T.1 T.2.1 T.2.2:=λq=>h (by
 have:=q.2
 rw[hR] at this
 rw[hWO.2];exact this)
theorem m5.done(hm:cu T)(hR:dj T.1 T.2.1 T.2.2=(W,P,F,Nx,fl))(hWO:(W0,O)=km T.1 T.2.1 T.2.2/\ak=de T.2.2 T.1.toNat)(hb:dL T.2.2=0)(hf:fl=ak)(h:m5 T W k xs c)(h0:(k:Int)<=(T.2.1.length:Int))(hk:¬(k:Int)<(T.2.1.length:Int)):aG T=((xs,P.take T.1.toNat,c),0):=by
 have hok:kk T.1 T.2.1 T.2.2:=⟨hb,by rw[hR,<-hWO.2];exact hf⟩
 have e:k=T.2.1.length:=by omega
 subst e
 have hx:mK T.1 T.2.1 T.2.2=xs:=by
   refine fS (by rw[lh,h.ln]) λi hi=>?_
   rw[lh] at hi
   rw[lE hi,h.at_ i hi,hR]
 unfold aG
 rw[if_pos hm,if_pos hok,hx]
 have h1:q6 T.1 T.2.1 T.2.2=P.take T.1.toNat:=by unfold q6;rw[hR]
 have h2:jL T.2.1 xs=c:=by
   unfold jL
   rw[h.cs]
   exact bk _ λi hi=>by rw[h.at_ i hi]
 rw[h1,h2]
theorem nO(hm:cu T)(hR:dj T.1 T.2.1 T.2.2=(W,P,F,Nx,fl)):(P.length:Int)=T.1+2/\(F.length:Int)=T.1+2/\(W.length:Int)<=50000/\0<=fl/\fl<=1099511627776:=by
 have he:=hm.my.fi
 have h1:=he.i.d.pt.pl
 have h2:=(eE he.i.d).i.fl
 rw[<-he.far] at h2
 have h3:=he.i.d.sh.len
 obtain⟨h4,h5,h6⟩:=he.i.fb
 rw[hR] at h1 h2 h3 h4 h5
 exact⟨h1,h2,by have:W.length<=50000:=h3;omega,h4,Int.le_trans h5 h6⟩
end TL
/-
  TlFlv: what Why tells, as the walk goes through it.
  By an AI agent.
-/
set_option linter.all false
namespace TL
variable{T:gj}{k:Nat}{W:List bS}{P F Nx:List Int}{fl ak:Int}{O:List (List Int)}{W0:List bS}
def mL(F:List Int)(k:Nat):List Int:=(dc k).filter λv=>decide (gI F v<dg)
theorem pU(h:gI F (k:Int)<1152921504606846976):mL F k++[(k:Int)]=mL F (k+1):=by
 unfold mL
 rw[jw,List.filter_append,List.filter_cons_of_pos (by simpa using h)];rfl
theorem rf(h:¬gI F (k:Int)<1152921504606846976):mL F k=mL F (k+1):=by
 unfold mL
 rw[jw,List.filter_append,List.filter_cons_of_neg (by simpa using h),List.filter_nil,List.append_nil]
theorem pV:(mL F k).length<=k:=by
 unfold mL
 refine Nat.le_trans (List.length_filter_le _ _) ?_
 simp[dc]
theorem lI(h:¬cu T):cH T=([],1):=by unfold cH;rw[if_neg h]
theorem lX(hm:cu T)(h:¬dL T.2.2=0):cH T=([],0):=by unfold cH;rw[if_pos hm,if_neg h]
theorem kF(hm:cu T)(hR:dj T.1 T.2.1 T.2.2=(W,P,F,Nx,fl))(hWO:(W0,O)=km T.1 T.2.1 T.2.2/\ak=de T.2.2 T.1.toNat)(hb:dL T.2.2=0)(h:fl=ak):cH T=([],14):=by
 unfold cH;rw[if_pos hm,if_pos hb,if_pos (by rw[hR,<-hWO.2];exact h)]
theorem kT(hm:cu T)(hR:dj T.1 T.2.1 T.2.2=(W,P,F,Nx,fl))(hWO:(W0,O)=km T.1 T.2.1 T.2.2/\ak=de T.2.2 T.1.toNat)(hb:dL T.2.2=0)(h:¬fl=ak)(h0:(k:Int)<=T.1)(hk:¬(k:Int)<T.1):cH T=(mL F k,0):=by
 unfold cH;rw[if_pos hm,if_pos hb,if_neg (by rw[hR,<-hWO.2];exact h)]
 have e:k=T.1.toNat:=by omega
 unfold sH mL
 rw[hR,e]
end TL
/-
  TlFlu: what proves a flow, and what cuts one off, as the walks go through it.
  By an AI agent.
-/
set_option linter.all false
namespace TL
variable{T:gj}{f:jD}{k j:Nat}{ov o1 o2 l:List Int}{c d:Int}
def gM(T:gj)(f:jD)(i:Nat):Prop:=(0<=gI f.1 (i:Int)/\gI f.1 (i:Int)<=(gI T.2.1 (i:Int)).2.2.1)/\(gI f.1 (i:Int)<(gI T.2.1 (i:Int)).2.2.1->0<=(gI T.2.1 (i:Int)).2.2.2+gI f.2.1 (gI T.2.1 (i:Int)).1-gI f.2.1 (gI T.2.1 (i:Int)).2.1)/\(0<gI f.1 (i:Int)->(gI T.2.1 (i:Int)).2.2.2+gI f.2.1 (gI T.2.1 (i:Int)).1-gI f.2.1 (gI T.2.1 (i:Int)).2.1<=0)
instance {i:Nat}:Decidable (gM T f i):=by unfold gM;infer_instance
def qP(T:gj)(f:jD):Prop:=cu T/\f.1.length=T.2.1.length/\(f.2.1.length:Int)=T.1
instance:Decidable (qP T f):=by unfold qP;infer_instance
def jX(p:Int):Prop:= -1099511627776<=p/\p<=1099511627776
instance {p:Int}:Decidable (jX p):=by unfold jX;infer_instance
def rv(T:gj)(f:jD):Prop:=qP T f/\(∀p∈f.2.1,jX p)/\(∀i:Nat,i<T.2.1.length->gM T f i)/\(∀v:Nat,v<T.2.2.length->eI T.2.1 (λi=>gI f.1 (i:Int)) (v:Int)=gI T.2.2 (v:Int))/\jL T.2.1 f.1=f.2.2
instance:Decidable (rv T f):=by unfold rv;infer_instance
def dy(T:gj)(f:jD):Bool:=decide (rv T f)
theorem k8(h:¬rv T f):dy T f=false:=decide_eq_false h
theorem eZ(h:¬qP T f):dy T f=false:=k8 λq=>h q.1
theorem l7(h1:(k:Int)<(f.2.1.length:Int))(h:¬jX (gI f.2.1 (k:Int))):dy T f=false:=k8 λq=>h (q.2.1 _ (bp (by omega) h1))
theorem ei(h1:(k:Int)<(T.2.1.length:Int))(h:¬gM T f k):dy T f=false:=k8 λq=>h (q.2.2.1 k (by omega))
theorem kv{D:List Int}(h:∀x∈D.take k,jX x)(h1:(k:Int)<(D.length:Int))(hk:jX (gI D (k:Int))):∀x∈D.take (k+1),jX x:=by
 rw[cG h1]
 intro a ha
 rcases List.mem_append.1 ha with q|q
 · exact h a q
 · rw[List.mem_singleton.1 q];exact hk
theorem o8{D:List Int}{n:Int}(h:∀x∈D.take k,jX x)(hk:¬(k:Int)<n)(hn:(D.length:Int)=n)(v:Int)(v0:0<=v)(v1:v<n): -1099511627776<=gI D v/\gI D v<=1099511627776:=by
 rw[List.take_of_length_le (by omega)] at h
 exact h _ (bp v0 (by omega))
def rz(T:gj)(f:jD)(k:Nat)(v:Int):Int:=SP k λi=>(if(gI T.2.1 (i:Int)).1=v then gI f.1 (i:Int) else 0)-(if(gI T.2.1 (i:Int)).2.1=v then gI f.1 (i:Int) else 0)
structure ja(T:gj)(f:jD)(k:Nat)(ov:List Int)(c:Int):Prop where
 ln:(ov.length:Int)=T.1
 at_:∀v:Nat,(v:Int)<T.1->gI ov (v:Int)=rz T f k (v:Int)
 ok:∀i:Nat,i<k->gM T f i
 cs:c=SP k λi=>gI f.1 (i:Int)*(gI T.2.1 (i:Int)).2.2.2
theorem ja.start(hm:cu T):ja T f 0 (List.replicate T.1.toNat 0) 0:=by
 have:=hm.1.1
 refine⟨by rw[List.length_replicate];omega,λv hv=>?_,λi hi=>by omega,rfl⟩
 rw[dD (by omega) (by omega)];rfl
theorem rX(hm:cu T)(ha:gM T f k)(hk:(k:Int)<(T.2.1.length:Int)):(0<=gI f.1 (k:Int)/\gI f.1 (k:Int)<=1048576)/\0<=gI f.1 (k:Int)*(gI T.2.1 (k:Int)).2.2.2/\gI f.1 (k:Int)*(gI T.2.1 (k:Int)).2.2.2<=1099511627776:=by
 obtain⟨_,_,⟨h3,h4⟩,h5,h6⟩:=hm.2.2.2.1 _ (bp (xs:=T.2.1) (i:=(k:Int)) (by omega) hk)
 obtain⟨⟨h1,h2⟩,_⟩:=ha
 have h7:=Int.mul_nonneg h1 h5
 have h8:gI f.1 (k:Int)*(gI T.2.1 (k:Int)).2.2.2<=1048576*1048576:=Int.le_trans (Int.mul_le_mul_of_nonneg_right (show gI f.1 (k:Int)<=1048576 by omega) h5) (Int.mul_le_mul_of_nonneg_left h6 (by decide))
 exact⟨⟨h1,by omega⟩,h7,by omega⟩
theorem jm(hm:cu T)(h1:0<=gI f.1 (k:Int))(h2:gI f.1 (k:Int)<=(gI T.2.1 (k:Int)).2.2.1)(hk:(k:Int)<(T.2.1.length:Int)):(0<=gI f.1 (k:Int)/\gI f.1 (k:Int)<=1048576)/\0<=gI f.1 (k:Int)*(gI T.2.1 (k:Int)).2.2.2/\gI f.1 (k:Int)*(gI T.2.1 (k:Int)).2.2.2<=1099511627776:=by
 obtain⟨_,_,⟨h3,h4⟩,h5,h6⟩:=hm.2.2.2.1 _ (bp (xs:=T.2.1) (i:=(k:Int)) (by omega) hk)
 have h7:=Int.mul_nonneg h1 h5
 have h8:gI f.1 (k:Int)*(gI T.2.1 (k:Int)).2.2.2<=1048576*1048576:=Int.le_trans (Int.mul_le_mul_of_nonneg_right (show gI f.1 (k:Int)<=1048576 by omega) h5) (Int.mul_le_mul_of_nonneg_left h6 (by decide))
 exact⟨⟨h1,by omega⟩,h7,by omega⟩
theorem kM(hm:cu T)(hl:(ov.length:Int)=T.1)(hb:∀v,0<=v->v<T.1-> -17179869184<=gI ov v/\gI ov v<=17179869184){x:Int}(x0:0<=x)(x1:x<=1048576)(hk:(k:Int)<(T.2.1.length:Int)): -17180917760<=gI (ov.set (gI T.2.1 (k:Int)).1.toNat (gI ov (gI T.2.1 (k:Int)).1+x)) (gI T.2.1 (k:Int)).2.1/\gI (ov.set (gI T.2.1 (k:Int)).1.toNat (gI ov (gI T.2.1 (k:Int)).1+x)) (gI T.2.1 (k:Int)).2.1<=17180917760:=by
 obtain⟨⟨a0,a1⟩,⟨b0,b1⟩,_⟩:=hm.2.2.2.1 _ (bp (xs:=T.2.1) (i:=(k:Int)) (by omega) hk)
 rw[cA a0 (by omega) b0]
 have h1:=hb _ a0 a1
 have h2:=hb _ b0 b1
 split<;>omega
theorem oI(hm:cu T)(hok:∀i:Nat,i<k->gM T f i)(hk:(k:Int)<=(T.2.1.length:Int))(v:Int):∀n:Nat,n<=k-> -(n:Int)*1048576<=rz T f n v/\rz T f n v<=(n:Int)*1048576
 |0,_=>⟨Int.le_refl _,Int.le_refl _⟩
 |n+1,h=>by
   have h1:=oI hm hok hk v n (by omega)
   obtain⟨⟨h2,h3⟩,_⟩:=rX hm (hok n (by omega)) (by omega)
   show _<=rz T f n v+((if(gI T.2.1 (n:Int)).1=v then gI f.1 (n:Int) else 0)-(if(gI T.2.1 (n:Int)).2.1=v then gI f.1 (n:Int) else 0))/\rz T f n v+((if(gI T.2.1 (n:Int)).1=v then gI f.1 (n:Int) else 0)-(if(gI T.2.1 (n:Int)).2.1=v then gI f.1 (n:Int) else 0))<=_
   split<;>split<;>omega
theorem ja.bd(h:ja T f k ov c)(hm:cu T)(hk:(k:Int)<=(T.2.1.length:Int)):(∀v,0<=v->v<T.1-> -17179869184<=gI ov v/\gI ov v<=17179869184)/\0<=c/\c<=18014398509481984:=by
 have hl:=hm.2.1
 refine⟨λv v0 v1=>?_,?_⟩
 · have:=h.at_ v.toNat (by omega)
   rw[Int.toNat_of_nonneg v0] at this
   have:=oI hm h.ok hk v k (Nat.le_refl _)
   omega
 · have:∀n:Nat,n<=k->0<=SP n (λi=>gI f.1 (i:Int)*(gI T.2.1 (i:Int)).2.2.2)/\SP n (λi=>gI f.1 (i:Int)*(gI T.2.1 (i:Int)).2.2.2)<=(n:Int)*1099511627776:=by
     intro n
     induction n with
     |zero=>intro _;exact⟨Int.le_refl _,Int.le_refl _⟩
     |succ n ih=>
       intro hn
       have h1:=ih (by omega)
       obtain⟨_,h2,h3⟩:=rX hm (h.ok n (by omega)) (by omega)
       show 0<=SP n (λi=>gI f.1 (i:Int)*(gI T.2.1 (i:Int)).2.2.2)+gI f.1 (n:Int)*(gI T.2.1 (n:Int)).2.2.2/\SP n (λi=>gI f.1 (i:Int)*(gI T.2.1 (i:Int)).2.2.2)+gI f.1 (n:Int)*(gI T.2.1 (n:Int)).2.2.2<=_
       omega
   have:=this k (Nat.le_refl _)
   rw[h.cs]
   omega
theorem ja.next(h:ja T f k ov c)(hm:cu T)(hk:(k:Int)<(T.2.1.length:Int))(ha:gM T f k)(h1:o1=ov.set (gI T.2.1 (k:Int)).1.toNat (gI ov (gI T.2.1 (k:Int)).1+gI f.1 (k:Int)))(h2:o2=o1.set (gI T.2.1 (k:Int)).2.1.toNat (gI o1 (gI T.2.1 (k:Int)).2.1-gI f.1 (k:Int)))(hd:d=c+gI f.1 (k:Int)*(gI T.2.1 (k:Int)).2.2.2):ja T f (k+1) o2 d:=by
 obtain⟨⟨a0,a1⟩,⟨b0,b1⟩,_⟩:=hm.2.2.2.1 _ (bp (xs:=T.2.1) (i:=(k:Int)) (by omega) hk)
 have hl:=h.ln
 have hl1:(o1.length:Int)=T.1:=by rw[h1,List.length_set];exact hl
 refine⟨by rw[h2,List.length_set];exact hl1,λv hv=>?_,λi hi=>?_,by rw[hd,h.cs];rfl⟩
 · have hv0:=h.at_ v hv
   have g1:∀u,0<=u->gI o1 u=if u=(gI T.2.1 (k:Int)).1 then gI ov (gI T.2.1 (k:Int)).1+gI f.1 (k:Int) else gI ov u:=λu u0=>by rw[h1];exact cA a0 (by omega) u0
   have g2:gI o2 (v:Int)=if(v:Int)=(gI T.2.1 (k:Int)).2.1 then gI o1 (gI T.2.1 (k:Int)).2.1-gI f.1 (k:Int) else gI o1 (v:Int):=by rw[h2];exact cA b0 (by omega) (by omega)
   rw[g2,g1 _ b0,g1 (v:Int) (by omega)]
   show _=rz T f k (v:Int)+((if(gI T.2.1 (k:Int)).1=(v:Int) then gI f.1 (k:Int) else 0)-(if(gI T.2.1 (k:Int)).2.1=(v:Int) then gI f.1 (k:Int) else 0))
   rw[<-hv0]
   by_cases q1:(v:Int)=(gI T.2.1 (k:Int)).2.1
   · rw[if_pos q1,<-q1,if_pos rfl]
     by_cases q2:(v:Int)=(gI T.2.1 (k:Int)).1
     · rw[if_pos q2,<-q2,if_pos rfl];omega
     · rw[if_neg q2,if_neg (λe=>q2 e.symm)];omega
   · rw[if_neg q1,if_neg (λe:(gI T.2.1 (k:Int)).2.1=(v:Int)=>q1 e.symm)]
     by_cases q2:(v:Int)=(gI T.2.1 (k:Int)).1
     · rw[if_pos q2,<-q2,if_pos rfl];omega
     · rw[if_neg q2,if_neg (λe=>q2 e.symm)];omega
 · by_cases q:i=k
   · rw[q];exact ha
   · exact h.ok i (by omega)
theorem mb(h:ja T f k ov c)(hm:cu T)(hk:(k:Int)<=(T.2.1.length:Int))(hn:¬(k:Int)<(T.2.1.length:Int))(hj:(j:Int)<(T.2.2.length:Int))(hne:¬gI ov (j:Int)=gI T.2.2 (j:Int)):dy T f=false:=by
 have e:k=T.2.1.length:=by omega
 subst e
 have hD:=hm.2.2.1
 refine k8 λq=>hne ?_
 rw[h.at_ j (by omega)]
 exact q.2.2.2.1 j (by omega)
theorem nf(h:ja T f k ov c)(hk:(k:Int)<=(T.2.1.length:Int))(hn:¬(k:Int)<(T.2.1.length:Int))(hh:qP T f){i:Nat}(hp:∀x∈f.2.1.take i,jX x)(hi:¬(i:Int)<(f.2.1.length:Int))(hnd:∀v:Nat,v<j->gI ov (v:Int)=gI T.2.2 (v:Int))(hj:¬(j:Int)<(T.2.2.length:Int)):dy T f=decide (c=f.2.2):=by
 have e:k=T.2.1.length:=by omega
 subst e
 have hD:=hh.1.2.2.1
 rw[List.take_of_length_le (by omega)] at hp
 unfold dy
 rw[decide_eq_decide]
 constructor
 · intro q;rw[h.cs];exact q.2.2.2.2
 · intro q
   refine⟨hh,hp,h.ok,λv hv=>?_,by rw[<-q,h.cs];rfl⟩
   rw[<-hnd v (by omega),h.at_ v (by omega)];rfl
theorem rv.of(hm:cu T)(hx:jk T.1 T.2.1 T.2.2 f.1)(hp:sE T.2.1 f.1 f.2.1)(hl:(f.2.1.length:Int)=T.1)(hb:∀p∈f.2.1,0<=p/\p<=1099511627776)(hc:jL T.2.1 f.1=f.2.2):dy T f=true:=by
 have hD:=hm.2.2.1
 exact decide_eq_true ⟨⟨hm,hx.ln,hl⟩,λp q=>by have:=hb p q;unfold jX;omega,λi hi=>⟨hx.cap i hi,hp i hi⟩,λv hv=>hx.net v (by omega) (by omega),hc⟩
theorem oh(hm:cu T)(hok:kk T.1 T.2.1 T.2.2):dy T (aG T).1=true:=by
  unfold aG;rw[if_pos hm,if_pos hok]
  exact rv.of hm (lN hm.my hok) (qy hm.my) (oq hm.my) (rG hm.my) rfl
variable{bs:List Bool}{F:List Int}
theorem l9:cu cd/\kk cd.1 cd.2.1 cd.2.2:=by decide+kernel
theorem qI:bK cd=true/\((aG cd).1.1.length:Int)=3/\(aG cd).1.2.2=9/\(aG cd).2=0/\dy cd (aG cd).1=true/\(0<((cH sg).1.length:Int))/\(cH sg).2=0:=by
 refine⟨dx l9.1,?_,?_,?_,oh l9.1 l9.2,?_,?_⟩
 · obtain⟨p,h⟩:=jZ;rw[h];rfl
 · obtain⟨p,h⟩:=jZ;rw[h]
 · obtain⟨p,h⟩:=jZ;rw[h]
 · rcases mc with h|h<;>rw[h]<;>decide
 · rcases mc with h|h<;>rw[h]
end TL
/-
  TlFls: flows that are handed in, tasks with other costs, in another order, with more room.
  By an AI agent.
-/
set_option linter.all false
namespace TL
variable{T U:gj}{f:jD}{k j n a:Nat}{ov o1 o2 l on:List Int}{c d q:Int}
theorem iK(hm:cu T)(hok:kk T.1 T.2.1 T.2.2):aG T=((mK T.1 T.2.1 T.2.2,q6 T.1 T.2.1 T.2.2,jL T.2.1 (mK T.1 T.2.1 T.2.2)),0):=by unfold aG;rw[if_pos hm,if_pos hok]
theorem dO(hm:cu T):((aG T).2=0↔∃x,jk T.1 T.2.1 T.2.2 x)/\((aG T).2=0\/(aG T).2=20):=by
 by_cases h:kk T.1 T.2.1 T.2.2
 · rw[iK hm h];exact⟨⟨λ_=>(kg hm.my).1 h,λ_=>rfl⟩,.inl rfl⟩
 · rw[eX hm h];exact⟨⟨λz=>absurd z (by decide),λz=>absurd ((kg hm.my).2 z) h⟩,.inr rfl⟩
theorem io(hm:cu T)(h:(aG T).2=0):jk T.1 T.2.1 T.2.2 (aG T).1.1/\(aG T).1.2.2=jL T.2.1 (aG T).1.1/\dy T (aG T).1=true:=by
 have hok:kk T.1 T.2.1 T.2.2:=(kg hm.my).2 ((dO hm).1.1 h)
 refine⟨?_,?_,oh hm hok⟩
 · rw[iK hm hok];exact lN hm.my hok
 · rw[iK hm hok]
theorem kh(hm:cu T)(h:(aG T).2=0){z:List Int}(hz:jk T.1 T.2.1 T.2.2 z):(aG T).1.2.2<=jL T.2.1 z:=by
 have hok:kk T.1 T.2.1 T.2.2:=(kg hm.my).2 ((dO hm).1.1 h)
 rw[iK hm hok]
 exact qH hm.my (lN hm.my hok) hz (qy hm.my)
def rh(q:Int)(a:dp):dp:=(a.1,a.2.1,a.2.2.1,a.2.2.2*q)
def j2(q:Int)(T:gj):gj:=(T.1,T.2.1.map (rh q),T.2.2)
theorem i6{α β:Type}[Inhabited α][Inhabited β](g:α->β){E:List α}{i:Nat}(hi:i<E.length):gI (E.map g) (i:Int)=g (gI E (i:Int)):=by
 simp[gI,hi]
theorem lZ(x:List Int):jk (j2 q T).1 (j2 q T).2.1 (j2 q T).2.2 x↔jk T.1 T.2.1 T.2.2 x:=by
 have hl:(j2 q T).2.1.length=T.2.1.length:=List.length_map ..
 have hn:∀v,eI (j2 q T).2.1 (λi=>gI x (i:Int)) v=eI T.2.1 (λi=>gI x (i:Int)) v:=λv=>by
   unfold eI
   rw[hl]
   exact bk _ λi hi=>by rw[show gI (j2 q T).2.1 (i:Int)=rh q (gI T.2.1 (i:Int)) from i6 _ hi];rfl
 constructor
 · intro h
   exact⟨h.ln.trans hl,λi hi=>by have:=h.cap i (by rw[hl];exact hi);rw[show gI (j2 q T).2.1 (i:Int)=rh q (gI T.2.1 (i:Int)) from i6 _ hi] at this;exact this,λv v0 v1=>(hn v).symm.trans (h.net v v0 v1)⟩
 · intro h
   exact⟨h.ln.trans hl.symm,λi hi=>by rw[hl] at hi;rw[show gI (j2 q T).2.1 (i:Int)=rh q (gI T.2.1 (i:Int)) from i6 _ hi];exact h.cap i hi,λv v0 v1=>(hn v).trans (h.net v v0 v1)⟩
theorem qt(x:List Int):jL (j2 q T).2.1 x=jL T.2.1 x*q:=by
 unfold jL
 have hl:(j2 q T).2.1.length=T.2.1.length:=List.length_map ..
 rw[hl,Int.mul_comm,<-li]
 exact bk _ λi hi=>by
   rw[show gI (j2 q T).2.1 (i:Int)=rh q (gI T.2.1 (i:Int)) from i6 _ hi]
   show _*(_*q)=q*(_*_)
   rw[<-Int.mul_assoc,Int.mul_comm]
theorem rS(hm:cu T)(hq:0<=q/\q<=255)(hc:∀i:Nat,i<T.2.1.length->(gI T.2.1 (i:Int)).2.2.2<=4096):cu (j2 q T):=by
 refine⟨hm.1,by rw[show(j2 q T).2.1.length=T.2.1.length from List.length_map ..];exact hm.2.1,hm.2.2.1,λb hb=>?_,hm.2.2.2.2⟩
 obtain⟨a,ha,rfl⟩:=List.mem_map.1 hb
 obtain⟨h1,h2,h3,h4,h5⟩:=hm.2.2.2.1 a ha
 obtain⟨i,hi,rfl⟩:=List.mem_iff_getElem.1 ha
 have h6:=hc i hi
 rw[show gI T.2.1 (i:Int)=T.2.1[i] by simp[gI,hi]] at h6
 have h7:=Int.mul_nonneg h4 hq.1
 have h8:T.2.1[i].2.2.2*q<=4096*255:=Int.le_trans (Int.mul_le_mul_of_nonneg_right h6 hq.1) (Int.mul_le_mul_of_nonneg_left hq.2 (by decide))
 exact⟨h1,h2,h3,h7,by show T.2.1[i].2.2.2*q<=_;omega⟩
theorem rn(hm:cu T)(hu:cu (j2 q T))(hq:0<=q):(aG (j2 q T)).2=(aG T).2/\((aG T).2=0->(aG (j2 q T)).1.2.2=(aG T).1.2.2*q/\dy (j2 q T) (aG (j2 q T)).1=true):=by
 have h1:=dO hm
 have h2:=dO hu
 have hi:(aG (j2 q T)).2=0↔(aG T).2=0:=by
   rw[h1.1,h2.1]
   exact⟨λ⟨x,hx⟩=>⟨x,(lZ x).1 hx⟩,λ⟨x,hx⟩=>⟨x,(lZ x).2 hx⟩⟩
 refine⟨?_,λh0=>?_⟩
 · rcases h1.2 with z|z
   · rw[z];exact hi.2 z
   · rcases h2.2 with y|y
     · rw[hi.1 y] at z;exact absurd z (by decide)
     · rw[y,z]
 · have hu0:=hi.2 h0
   obtain⟨f1,f2,f3⟩:=io hm h0
   obtain⟨g1,g2,g3⟩:=io hu hu0
   have k1:=kh hm h0 ((lZ _).1 g1)
   have k2:=kh hu hu0 ((lZ _).2 f1)
   rw[qt,<-f2] at k2
   rw[qt] at g2
   have k3:=Int.mul_le_mul_of_nonneg_right k1 hq
   rw[<-g2] at k3
   exact⟨Int.le_antisymm k2 k3,g3⟩
theorem nK{g:Nat->Int}(n a:Nat)(ha:a<=n):SP n (λi=>g ((i+a)%n))=SP n g:=by
 have e1:SP n (λi=>g ((i+a)%n))=SP (n-a) (λi=>g ((i+a)%n))+SP a (λi=>g ((n-a+i+a)%n)):=by
   have:=jV (g:=λi=>g ((i+a)%n)) (n-a) a
   rw[Nat.sub_add_cancel ha] at this;exact this
 have e2:SP n g=SP a g+SP (n-a) (λi=>g (a+i)):=by
   have:=jV (g:=g) a (n-a)
   rw[Nat.add_sub_cancel' ha] at this;exact this
 rw[e1,e2,bk (h:=λi=>g (a+i)) (n-a) λi hi=>by rw[Nat.mod_eq_of_lt (by omega),Nat.add_comm],bk (h:=g) a λi hi=>by rw[show n-a+i+a=i+n by omega,Nat.add_mod_right,Nat.mod_eq_of_lt (by omega)]]
 omega
def fG{α:Type}[Inhabited α](l:List α)(a:Nat):List α:=(List.range l.length).map λi=>gI l (((i+a)%l.length:Nat):Int)
theorem d6{α:Type}[Inhabited α]{l:List α}:(fG l a).length=l.length:=by simp[fG]
theorem eN{α:Type}[Inhabited α]{l:List α}{i:Nat}(hi:i<l.length):gI (fG l a) (i:Int)=gI l (((i+a)%l.length:Nat):Int):=by
 simp[fG,gI,hi]
def iY(a:Nat)(T:gj):gj:=(T.1,fG T.2.1 a,T.2.2)
theorem ra{x:List Int}(hx:x.length=T.2.1.length)(ha:a<=T.2.1.length)(v:Int):eI (iY a T).2.1 (λi=>gI (fG x a) (i:Int)) v=eI T.2.1 (λi=>gI x (i:Int)) v:=by
 unfold eI
 show SP (fG T.2.1 a).length (λi=>(if(gI (fG T.2.1 a) (i:Int)).1=v then _ else 0)-(if(gI (fG T.2.1 a) (i:Int)).2.1=v then _ else 0))=_
 rw[d6,<-nK (g:=λi=>(if(gI T.2.1 (i:Int)).1=v then gI x (i:Int) else 0)-(if(gI T.2.1 (i:Int)).2.1=v then gI x (i:Int) else 0)) T.2.1.length a ha]
 exact bk _ λi hi=>by rw[eN hi,eN (by omega),hx]
theorem qB{x:List Int}(hx:x.length=T.2.1.length)(ha:a<=T.2.1.length):jL (iY a T).2.1 (fG x a)=jL T.2.1 x:=by
 unfold jL
 show SP (fG T.2.1 a).length (λi=>_*(gI (fG T.2.1 a) (i:Int)).2.2.2)=_
 rw[d6,<-nK (g:=λi=>gI x (i:Int)*(gI T.2.1 (i:Int)).2.2.2) T.2.1.length a ha]
 exact bk _ λi hi=>by rw[eN hi,eN (by omega),hx]
theorem nc{x:List Int}(h:jk T.1 T.2.1 T.2.2 x)(ha:a<=T.2.1.length):jk (iY a T).1 (iY a T).2.1 (iY a T).2.2 (fG x a):=by
 have hx:=h.ln
 refine⟨by show(fG x a).length=(fG T.2.1 a).length;rw[d6,d6,hx],λi hi=>?_,λv v0 v1=>(ra hx ha v).trans (h.net v v0 v1)⟩
 have hi:i<T.2.1.length:=by have:i<(fG T.2.1 a).length:=hi;rw[d6] at this;exact this
 show 0<=gI (fG x a) (i:Int)/\gI (fG x a) (i:Int)<=(gI (fG T.2.1 a) (i:Int)).2.2.1
 rw[eN hi,eN (by omega),hx]
 exact h.cap _ (Nat.mod_lt _ (by omega))
theorem oG{α:Type}[Inhabited α]{l:List α}(ha:a<=l.length):fG (fG l a) (l.length-a)=l:=by
 refine List.ext_getElem (by rw[d6,d6]) λi h1 h2=>?_
 have e1:(fG (fG l a) (l.length-a))[i]=gI (fG (fG l a) (l.length-a)) (i:Int):=by simp[gI,h1]
 have e2:l[i]=gI l (i:Int):=by simp[gI,h2]
 rw[e1,e2,eN (by rw[d6];exact h2),d6,eN (Nat.mod_lt _ (by omega))]
 congr 2
 rw[Nat.mod_add_mod,show i+(l.length-a)+a=i+l.length by omega,Nat.add_mod_right,Nat.mod_eq_of_lt h2]
theorem mj(ha:a<=T.2.1.length):iY (T.2.1.length-a) (iY a T)=T:=by
 show(T.1,fG (fG T.2.1 a) (T.2.1.length-a),T.2.2)=T
 rw[oG ha]
theorem rP(hm:cu T):cu (iY a T):=by
 refine⟨hm.1,by rw[show(iY a T).2.1.length=T.2.1.length from d6];exact hm.2.1,hm.2.2.1,λb hb=>?_,hm.2.2.2.2⟩
 obtain⟨i,hi,rfl⟩:=List.mem_map.1 hb
 have hi:=List.mem_range.1 hi
 exact hm.2.2.2.1 _ (bp (by omega) (by have:=Nat.mod_lt (i+a) (show 0<T.2.1.length by omega);omega))
theorem rq(hm:cu T)(ha:a<=T.2.1.length):(aG (iY a T)).2=(aG T).2/\((aG T).2=0->(aG (iY a T)).1.2.2=(aG T).1.2.2/\dy (iY a T) (aG (iY a T)).1=true):=by
 have hu:cu (iY a T):=rP hm
 have h1:=dO hm
 have h2:=dO hu
 have hb:∀x,jk (iY a T).1 (iY a T).2.1 (iY a T).2.2 x->jk T.1 T.2.1 T.2.2 (fG x (T.2.1.length-a)):=λx hx=>by
   have:=nc (a:=T.2.1.length-a) hx (by show _<=(fG T.2.1 a).length;rw[d6];omega)
   rw[mj ha] at this;exact this
 have hi:(aG (iY a T)).2=0↔(aG T).2=0:=by
   rw[h1.1,h2.1]
   exact⟨λ⟨x,hx⟩=>⟨_,hb x hx⟩,λ⟨x,hx⟩=>⟨_,nc hx ha⟩⟩
 refine⟨?_,λh0=>?_⟩
 · rcases h1.2 with z|z
   · rw[z];exact hi.2 z
   · rcases h2.2 with y|y
     · rw[hi.1 y] at z;exact absurd z (by decide)
     · rw[y,z]
 · have hu0:=hi.2 h0
   obtain⟨f1,f2,f3⟩:=io hm h0
   obtain⟨g1,g2,g3⟩:=io hu hu0
   have k1:=kh hm h0 (hb _ g1)
   have k2:=kh hu hu0 (nc f1 ha)
   rw[qB f1.ln ha,<-f2] at k2
   have k4:=qB (T:=iY a T) (a:=T.2.1.length-a) g1.ln (by show _<=(fG T.2.1 a).length;rw[d6];omega)
   rw[mj ha] at k4
   rw[k4,<-g2] at k1
   exact⟨Int.le_antisymm k2 k1,g3⟩
end TL
/-
  TlFlt: the loops of FlowScaled, FlowWider.
  By an AI agent.
-/
set_option linter.all false
namespace TL
variable{T:gj}{k i n a:Nat}{ua va:List dp}{q t9:Int}
def oS(A:List dp)(t9:Int)(i:Nat):List dp:=(List.range i).map λ(j:Nat)=>gI A (((j:Int)+t9)%(A.length:Int))
def ot{A:List dp}:oS A t9 (i+1)=oS A t9 i++[gI A (((i:Int)+t9)%(A.length:Int))]:=by simp[oS,List.range_succ]
theorem oX{A:List dp}:(oS A t9 i).length=i:=by simp[oS]
theorem pP(h0:0<=t9)(hn:0<T.2.1.length):(T.1,oS T.2.1 t9 T.2.1.length,T.2.2)=iY t9.toNat T:=by
 unfold iY fG oS
 refine congrArg (λz=>(T.1,z,T.2.2)) (List.map_congr_left λj _=>?_)
 congr 1
 rw[Int.natCast_emod,Int.natCast_add,Int.toNat_of_nonneg h0]
def oO(q:Int)(A:List dp)(i:Nat):List dp:=(A.take i).map (rh q)
theorem oe{A:List dp}(h:(i:Int)<(A.length:Int)):oO q A (i+1)=oO q A i++[rh q (gI A (i:Int))]:=by unfold oO;rw[cG h,List.map_append];rfl
theorem pF{A:List dp}(h:(i:Int)<=(A.length:Int)):(oO q A i).length=i:=by unfold oO;rw[List.length_map,List.length_take];omega
theorem pa:(T.1,oO q T.2.1 T.2.1.length,T.2.2)=j2 q T:=by unfold oO j2;rw[List.take_length]
theorem sv(hm:cu T)(hi:(i:Int)<(T.2.1.length:Int))(hc:(gI T.2.1 (i:Int)).2.2.2<=4096)(hq:0<=q/\q<=255):0<=(gI T.2.1 (i:Int)).2.2.2*q/\(gI T.2.1 (i:Int)).2.2.2*q<=1044480:=by
 obtain⟨_,_,_,h4,_⟩:=hm.2.2.2.1 _ (bp (xs:=T.2.1) (i:=(i:Int)) (by omega) hi)
 have h8:(gI T.2.1 (i:Int)).2.2.2*q<=4096*255:=Int.le_trans (Int.mul_le_mul_of_nonneg_right hc hq.1) (Int.mul_le_mul_of_nonneg_left hq.2 (by decide))
 exact⟨Int.mul_nonneg h4 hq.1,by omega⟩
theorem rY{x:List Int}(hm:cu T)(h:jk T.1 T.2.1 T.2.2 x):0<=jL T.2.1 x/\jL T.2.1 x<=(T.2.1.length:Int)*1099511627776:=by
 have:∀n:Nat,n<=T.2.1.length->0<=SP n (λi=>gI x (i:Int)*(gI T.2.1 (i:Int)).2.2.2)/\SP n (λi=>gI x (i:Int)*(gI T.2.1 (i:Int)).2.2.2)<=(n:Int)*1099511627776:=by
   intro n
   induction n with
   |zero=>intro _;exact⟨Int.le_refl _,Int.le_refl _⟩
   |succ n ih=>
     intro hn
     have h1:=ih (by omega)
     have hc:=h.cap n (by omega)
     obtain⟨_,h2,h3⟩:=jm (f:=(x,[],0)) hm hc.1 hc.2 (by omega)
     have h2:0<=gI x (n:Int)*(gI T.2.1 (n:Int)).2.2.2:=h2
     have h3:gI x (n:Int)*(gI T.2.1 (n:Int)).2.2.2<=1099511627776:=h3
     show 0<=SP n (λi=>gI x (i:Int)*(gI T.2.1 (i:Int)).2.2.2)+gI x (n:Int)*(gI T.2.1 (n:Int)).2.2.2/\SP n (λi=>gI x (i:Int)*(gI T.2.1 (i:Int)).2.2.2)+gI x (n:Int)*(gI T.2.1 (n:Int)).2.2.2<=_
     omega
 exact this _ (Nat.le_refl _)
theorem r8(hm:cu T)(hl:T.2.1.length<=200)(hq:0<=q/\q<=255):0<=(aG T).1.2.2*q/\(aG T).1.2.2*q<=56075093016576000:=by
 have hb:0<=(aG T).1.2.2/\(aG T).1.2.2<=219902325555200:=by
   rcases(dO hm).2 with z|z
   · obtain⟨f1,f2,f3⟩:=io hm z
     have:=rY hm f1
     rw[f2];omega
   · have hno:¬kk T.1 T.2.1 T.2.2:=λh=>by rw[iK hm h] at z;exact absurd (show(0:Int)=20 from z) (by decide)
     rw[eX hm hno];exact⟨Int.le_refl _,by decide⟩
 exact⟨Int.mul_nonneg hb.1 hq.1,Int.le_trans (Int.mul_le_mul_of_nonneg_right hb.2 hq.1) (show 219902325555200*q<=56075093016576000 by omega)⟩
theorem mJ(hm:cu T)(hq:0<=q/\q<=255)(hi:(i:Int)<=(T.2.1.length:Int))(hn:¬(i:Int)<(T.2.1.length:Int))(hu:ua=oO q T.2.1 i)(hv:va=oS T.2.1 t9 i)(hc:∀j:Nat,j<i->(gI T.2.1 (j:Int)).2.2.2<=4096)(h9:0<=t9)(h9':t9<(T.2.1.length:Int)):
    ((aG (T.1,ua,T.2.2)).2=(aG T).2/\(aG (T.1,va,T.2.2)).2=(aG T).2)/\((aG T).2=0->(aG (T.1,ua,T.2.2)).1.2.2=(aG T).1.2.2*q/\(aG (T.1,va,T.2.2)).1.2.2=(aG T).1.2.2/\dy (T.1,ua,T.2.2) (aG (T.1,ua,T.2.2)).1=true/\dy (T.1,va,T.2.2) (aG (T.1,va,T.2.2)).1=true):=by
  have e:i=T.2.1.length:=by omega
  subst e
  have e1:(T.1,ua,T.2.2)=j2 q T:=by rw[hu,pa]
  have e2:(T.1,va,T.2.2)=iY t9.toNat T:=by rw[hv];exact pP h9 (by omega)
  rw[e1,e2]
  obtain⟨a1,a2⟩:=rn hm (rS hm hq hc) hq.1
  obtain⟨b1,b2⟩:=rq (a:=t9.toNat) hm (by omega)
  exact⟨⟨a1,b1⟩,λh0=>⟨(a2 h0).1,(b2 h0).1,(a2 h0).2,(b2 h0).2⟩⟩
end TL
/-
  TlNil: a list that is none, compared.
  By an AI agent.
-/
set_option linter.all false
namespace TL
open Go
section
variable{P:Program}{w:World}{t t':TypeId}{f:Fr}{x y:Operand}{dst:Option Tmp}{ty:TypeId}{pos:String}{after:Array Edge}{g:Option (Nat×Bool)}
end
theorem nG{α:Type}[Rp α]{γ:aE}{J S:ci->Prop}{w:World}{v:Value}{xs:List α}{hi:Nat}(h:Ow γ J S w v xs)(h2:hi<=xs.length):Ow γ J S w (ex v (Rp.sz α) 0 hi) (xs.take hi):=by
  rcases h with⟨rfl,rfl⟩|⟨b,cap,c,e,rfl,hc,hm,hJ,hb,hcs,hx⟩
  · simp only[List.length_nil] at h2
    have:hi=0:=by omega
    subst this
    exact .inl ⟨rfl,rfl⟩
  · have hl:(xs.take hi).length=hi:=by simp;omega
    refine .inr ⟨b,cap,c,e,?_,⟨by omega,by omega⟩,hm,hJ,hb,hcs,λi x hi'=>hx i x ?_⟩
    · rw[mr]
      simp only[hl]
    · rw[List.getElem?_take] at hi'
      split at hi'
      · exact hi'
      · cases hi'
end TL
/-
  TlConv: whole numbers turned to another kind, a string's byte, functions that bear values.
  By an AI agent.
-/
set_option linter.all false
namespace TL
open Go
section
variable{P:Program}{w:World}{f:Fr}{dst:Option Tmp}{ty:TypeId}{pos:String}{after:Array Edge}{g:Option (Nat×Bool)}{x y:Operand}{s d t:TypeId}{m:Int}{k k0:IntKind}
theorem oF{us:TypeDesc}(hs:P.underlying s=some us)(hd:P.underlying d=some (.int k))(hx:ev f x= .int k0 m)(hw:k.wrap m=m):(execOp (ev f) ⟨dst,.convert s d x,ty,pos,after,g⟩).run P w= .ok (.value (.int k m)) w:=by
 simp[execOp,convert,hx,bj hs,bj hd,Conv.intToInt,hw]
end
end TL
namespace TL
open Go
section
variable{P:Program}{w:World}{f:Fr}{dst:Option Tmp}{ty:TypeId}{pos:String}{after:Array Edge}{g:Option (Nat×Bool)}{x y:Operand}{t t':TypeId}
end
end TL
namespace TL
open Go
section
variable{P:Program}{w:World}{f:Fr}{dst:Option Tmp}{ty:TypeId}{pos:String}{after:Array Edge}{g:Option (Nat×Bool)}{x y:Operand}{t t':TypeId}
end
end TL
/-
  TlBlk: blocks by a walk depth first with a stack of edges, as the program does it, and what its walk may rely on.
  By an AI agent.
-/
set_option linter.all false
namespace TL
structure Bs where
 place:List Int
 low:List Int
 by_:List Int
 next:List Int
 found:Int
 edges:List Int
 laid:List Bool
 block:List Int
 count:Int
variable{g:dR}{s:Bs}{path:List Int}{e v w u hh:Int}
end TL
/-
  TlBlk4: the walk that finds blocks, one way of a step at a time; the loop that looks for an edge on the stack.
  By an AI agent.
-/
set_option linter.all false
namespace TL
variable{g:dR}{R:Bs}{pl lo by_ nx:List Int}{fo:Int}{ed:List Int}{la:List Bool}{bl:List Int}{co:Int}{path:List Int}{u hh:Int}
abbrev bs(pl lo by_ nx:List Int)(fo:Int)(ed:List Int)(la:List Bool)(bl:List Int)(co:Int):Bs:=⟨pl,lo,by_,nx,fo,ed,la,bl,co⟩
end TL
namespace TL
open Go
theorem og(n:Nat):n^^^1=if n%2=0 then n+1 else n-1:=by
 have h1:(n^^^1)%2=(n+1)%2:=by
   have:= @Nat.xor_mod_two_eq_one n 1
   by_cases c:(n^^^1)%2=1
   · have:=this.1 c;omega
   · have h3:¬¬(n%2=1↔1%2=1):=λk=>c (this.2 k)
     have h4:=Decidable.not_not.1 h3
     have:n%2=1:=h4.2 rfl
     omega
 have h2:(n^^^1)/2=n/2:=by rw[Nat.xor_div_two];simp
 split<;>omega
theorem jq{m:Int}(t:TypeId)(h0:0<=m)(h1:m<4611686018427387904):binOp .xor t (.int .i64 m) (.int .i64 1)=pure (.int .i64 (c8 m)):=by
 obtain⟨n,rfl⟩:=Int.eq_ofNat_of_zero_le h0
 have hn:n<4611686018427387904:=by omega
 have e:(BitVec.ofInt 64 (n:Int)^^^BitVec.ofInt 64 1).toNat=n^^^1:=by
   rw[BitVec.toNat_xor]
   have e1:(BitVec.ofInt 64 (n:Int)).toNat=n:=by
     rw[BitVec.toNat_ofInt];omega
   have e2:(BitVec.ofInt 64 (1:Int)).toNat=1:=by decide
   rw[e1,e2]
 have h3:(((n^^^1:Nat)):Int)=c8 (n:Int):=by
   rw[og];unfold c8
   split<;>split<;>omega
 show(pure (Value.int .i64 (IntKind.i64.wrap ((BitVec.ofInt 64 (n:Int)^^^BitVec.ofInt 64 1).toNat:Int))):Sem Value)=_
 rw[e,h3,dY]
 unfold c8;unfold q8;split<;>omega
end TL
namespace TL
variable{g:dR}{s:Bs}{path:List Int}
end TL
namespace TL
variable{g:dR}{of o:List Int}{c:List Bool}{k:Nat}
end TL
namespace TL
variable{g:dR}
end TL
/-
  TlIface: a method of an interface value that holds a pointer; values in an interface.
  By an AI agent.
-/
set_option linter.all false
namespace TL
open Go
def fV(P:Program)(T:TypeId)(name:String):Option (Nat×Bool×TypeId):=
  match P.info? T,P.underlying T with
  |some i,some (.pointer e)=>
    match i.methods.find? (·.name==name) with
    |some m=>if m.path.isEmpty then m.func.map (λq=>(q.1,q.2,e)) else none
    |none=>none
  |_,_=>none
theorem oE{P:Program}{T e:TypeId}{name:String}{f:Nat}{b:Bool}(h:fV P T name=some (f,b,e)):∃i m,P.info? T=some i/\P.underlying T=some (.pointer e)/\i.methods.find? (·.name==name)=some m/\m.path= #[]/\m.func=some (f,b):=by
 unfold fV at h
 split at h
 · rename_i i e' hi hu
   split at h
   · rename_i m hm
     split at h
     · rename_i hp
       cases hf:m.func with
       |none=>rw[hf] at h;cases h
       |some q=>
         rw[hf] at h
         simp only[Option.map_some,Option.some.injEq,Prod.mk.injEq] at h
         obtain⟨h1,h2,h3⟩:=h
         refine⟨i,m,hi,h3▸hu,hm,by simpa using hp,?_⟩
         rw[hf,<-h1,<-h2]
     · cases h
   · cases h
 · cases h
section
variable{P:Program}{f:Fr}{w:World}{dst:Option Tmp}{ty:TypeId}{pos:String}{after:Array Edge}{g:Option (Nat×Bool)}{T e:TypeId}{name:String}{fid n:Nat}{a:Addr}{v u:Value}
theorem kH{i:TypeInfo}{t:TypeId}(h:P.info? t=some i):(typeInfo t).run P w= .ok i w:=by simp[typeInfo,h]
theorem dI(h:fV P T name=some (fid,true,e)):(method (n+1) T v name).run P w= .ok (fid,v) w:=by
 obtain⟨i,m,hi,hu,hm,hp,hf⟩:=oE h
 simp[method,kH hi,hm,hp,hf,follow,receiverAt,bj hu,Place.get]
theorem pq(t:TypeId)(nm:String):(Builtin.ssaWrapNilChk_ #[t] t #[.pointer (some a),strVal "",strVal nm]).run P w= .ok (.pointer (some a)) w:=rfl
theorem aZ(h:fV P T name=some (fid,false,e))(hl:(loadVar e a).run P w= .ok u w):(method (n+1) T (.pointer (some a)) name).run P w= .ok (fid,u) w:=by
 obtain⟨i,m,hi,hu,hm,hp,hf⟩:=oE h
 simp[method,kH hi,hm,hp,hf,follow,receiverAt,bj hu,Place.get,pq,asAddr,hl]
theorem n9:∃n,P.types.size+Made.depth=n+1:=by
 have h:0<Made.depth:=by decide
 exact⟨P.types.size+Made.depth-1,by omega⟩
variable{x:Operand}{args:List Operand}{at_:Array TypeId}{vals:List Value}{fn:Func}
theorem bv(hx:ev f x= .iface T v)(hm:∀n,(method (n+1) T v name).run P w= .ok (fid,u) w)(hf:P.funcs[fid]? =some fn)(hb:fn.body.isNone=false)(hn:(fn.name== "runtime.NumGoroutine")=false)(ha:args.map (ev f)=vals):
   (execOp (ev f) ⟨dst,.call {callee:=.invoke x name,args:=args.toArray,argTypes:=at_},ty,pos,after,g⟩).run P w= .ok (.enter fid (u::vals).toArray) w:=by
 have ha:args.toArray.map (ev f)=vals.toArray:=by rw[<-ha];simp
 obtain⟨n,hn2⟩:=n9 (P:=P)
 have hm':=hm n
 rw[<-hn2] at hm'
 have h1:fn.name≠ "runtime.NumGoroutine" :=by simpa using hn
 have h2:fn.body≠none:=λe=>by rw[e] at hb;cases hb
 simp[execOp,resolve,invoke,callMethod,callFunc,hx,ha,hm',hf,h1,h2]
theorem eD{t:TypeId}{us:TypeDesc}(hs:P.underlying t=some us)(hi:(match us with| .interface _=>true|_=>false)=false)(hx:ev f x=v):(execOp (ev f) ⟨dst,.makeInterface t x,ty,pos,after,g⟩).run P w= .ok (.value (.iface t v)) w:=by
 subst hx
 cases us<;>first|(cases hi;done)|simp[execOp,Instr.makeInterface,bj hs]
theorem gh{s t:TypeId}{us:TypeDesc}(hs:P.underlying t=some us)(hi:(match us with| .interface _=>true|_=>false)=false)(hx:ev f x= .iface t v):(execOp (ev f) ⟨dst,.typeAssert x s t false,ty,pos,after,g⟩).run P w= .ok (.value v) w:=by
 cases us<;>first|(cases hi;done)|simp[execOp,Instr.typeAssert,bj hs,hx]
end
end TL
/-
  TlOrb: going round by a permutation; two places changed; what that does to the numbers of rounds.
  By an AI agent.
-/
set_option linter.all false
namespace TL
def tr(a b x:Int):Int:=if x=a then b else if x=b then a else x
end TL
/-
  TlDual: faces as nodes: the dual, corners' faces, edges laid, taken and split, ways over faces, as plain functions.
  By an AI agent.
-/
set_option linter.all false
namespace TL
def qe(g:dR)(r:gD)(c:Int×Int):Prop:=(0<=c.1/\c.1<g.1)/\if((gI r c.1).length:Int)=0 then c.2= -1 else c.2∈gI r c.1
instance (g:dR)(r:gD)(c:Int×Int):Decidable (qe g r c):=by unfold qe;infer_instance
end TL
namespace TL
end TL
namespace TL
end TL
namespace TL
section
variable{g:dR}{r:gD}{a b:Int×Int}
end
end TL
/-
  TlKru: edges of the least weight that join all that is joined (package path's Least): Kruskal's way by labels, and a forest of parents that agrees with the labels.
  By an AI agent.
-/
set_option linter.all false
namespace TL
def rC(ws:List Nat)(i:Int):Pl:=(zf (gI ws i),i)
def sK(ws:List Nat)(i k:Int):Prop:=rH (rC ws i) (rC ws k)
instance (ws:List Nat)(i k:Int):Decidable (sK ws i k):=by unfold sK;infer_instance
-- by labels
variable{n:Int}{of0 of c:List Int}{rho:Int->Nat}{v v0:Int}
end TL
namespace TL
variable{g:dR}{ws:List Nat}{of l:List Int}{k:Nat}
end TL
namespace TL
end TL
namespace TL
end TL
/-
  TlOnes: ways of weights 1, 0 and of none: as a walk breadth first goes.
  By an AI agent.
-/
set_option linter.all false
namespace TL
variable{g g1 g2:dR}{ws w1 w2:List Nat}{s v:Int}{f1 f2 far:List Nat}{b1 b2 by_:List Int}{r1 r2 rk:Int->Nat}{C:Nat}
end TL
namespace TL
variable{g:dR}{s:Int}
end TL
namespace TL
open Go
theorem o4{P:Program}{f:Fr}{w:World}{dst:Option Tmp}{ty:TypeId}{pos:String}{after:Array Edge}{g:Option (Nat×Bool)}{t t':TypeId}{x y:Operand}{op:BinOp}{k:IntKind}{m n r:Int}(hx:ev f x= .int k m)(hy:ev f y= .int k n)(h:binOp op t (.int k m) (.int k n)=pure (.int k r)):(execOp (ev f) ⟨dst,.binOp op t x y t',ty,pos,after,g⟩).run P w= .ok (.value (.int k r)) w:=
 c6 op x y hx hy (by rw[h];rfl)
end TL
namespace TL
variable{g:dR}{s v:Int}{on ze so:List Nat}{op:List Int}{i:Nat}
end TL
