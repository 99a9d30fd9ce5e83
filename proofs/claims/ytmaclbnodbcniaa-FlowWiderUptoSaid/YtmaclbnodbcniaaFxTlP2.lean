/- Plain texts of this claim, part 2. By an AI agent. -/
import Derived.Test.YtmaclbnodbcniaaFxTlP1
/-
  TlFlo6: a task's pipes filled.
  By an AI agent.
-/
set_option linter.all false
namespace TL
variable{n2 s t v u w x y d B M k n most ak fl:Int}{W W' W0 W1:List bS}{O:List (List Int)}{P P' lv nx nx' far:List Int}{m f i:Nat}
abbrev gH:=List bS×List Int×List Int×List Int×Int
def lU(n2 s t ak:Int)(O:List (List Int)):Nat->Nat->List bS->List Int->List Int->List Int->Int->gH
  |0,_,W,P,far,nx,fl=>(W,P,far,nx,fl)
  |f+1,ph,W,P,far,nx,fl=>
    if ph=0 then
      if gI (c7 n2 s W O P) t=da then(W,P,c7 n2 s W O P,nx,fl) else lU n2 s t ak O f 1 W (cV P (c7 n2 s W O P) (gI (c7 n2 s W O P) t)) (c7 n2 s W O P) nx fl
    else if ph=1 then lU n2 s t ak O f (if 0<=gI (bv n2 s W O P).1 t then 2 else 0) W P (bv n2 s W O P).1 (fg n2) fl
    else if 0<(pu n2 O P far t s ak W nx).1 then lU n2 s t ak O f 2 (pu n2 O P far t s ak W nx).2.1 P far (pu n2 O P far t s ak W nx).2.2 (fl+(pu n2 O P far t s ak W nx).1)
    else lU n2 s t ak O f 1 (pu n2 O P far t s ak W nx).2.1 P far (pu n2 O P far t s ak W nx).2.2 fl
structure pV(n2 s t ak B M:Int)(W0:List bS)(O:List (List Int)):Prop where
  sh:iP n2 W0 O
  s0:0<=s
  s1:s<n2
  t0:0<=t
  t1:t<n2
  st:s≠t
  n2b:n2<=5000
  hB:B=n2*1048576
  hM:M=1048576+B
  sum:di W0 (gI O s)=ak
  rb:∀w,dC W0 w->bK W0 w+bK W0 (c6 w)<=1048576
  rm:∀w,dC W0 w->0<=bK W0 w
  rd:∀w,dC W0 w->0<bK W0 w->0<=eZ W0 w
  ab:ak<=1099511627776
structure rV(n2 s t:Int)(W0 W:List bS)(O:List (List Int))(fl:Int):Prop where
  sm:kA W0 W
  rm:∀w,dC W0 w->0<=bK W w
  sum:∀u,0<=u->u<n2->di W (gI O u)=di W0 (gI O u)-(if u=s then fl else 0)+(if u=t then fl else 0)
  f0:0<=fl
structure iM(n2 s t ak B M:Int)(W0:List bS)(O:List (List Int))(W:List bS)(P:List Int)(fl:Int):Prop where
  b:pV n2 s t ak B M W0 O
  d:fj n2 s B M W O P
  p:rp n2 s t P
  l:rV n2 s t W0 W O fl
structure mq(n2 s t ak B M:Int)(W0:List bS)(O:List (List Int))(R:gH)(f:Nat)(W:List bS)(P far nx:List Int)(fl:Int):Prop where
 i:iM n2 s t ak B M W0 O W P fl
 g:lU n2 s t ak O f 0 W P far nx fl=R
 m:5*(ak-fl).toNat+3<=f
structure oq(n2 s t ak B M:Int)(W0:List bS)(O:List (List Int))(R:gH)(f:Nat)(W:List bS)(P far nx:List Int)(fl:Int):Prop where
 i:iM n2 s t ak B M W0 O W P fl
 g:lU n2 s t ak O f 1 W P far nx fl=R
 m:(ZpW W P s t/\5*(ak-fl).toNat+2<=f)\/5*(ak-fl).toNat+4<=f
 ap:0<ak
structure mr(n2 s t ak B M:Int)(W0:List bS)(O:List (List Int))(R:gH)(f:Nat)(W:List bS)(P lv nx:List Int)(fl:Int):Prop where
 i:iM n2 s t ak B M W0 O W P fl
 u:ob n2 W O lv nx
 ll:(lv.length:Int)=n2
 g:lU n2 s t ak O f 2 W P lv nx fl=R
 m:((pF n2 s W P lv/\0<=gI lv t/\nx=fg n2)/\5*(ak-fl).toNat+1<=f)\/5*(ak-fl).toNat+5<=f
 ap:0<ak
theorem jG:∀(l:List Int),(∀w∈l,0<=bK W w)->0<=di W l
 |[],_=>Int.le_refl _
 |a::l,h=>by
   have:=h a (List.mem_cons_self ..)
   have:=jG l λw hw=>h w (List.mem_cons_of_mem _ hw)
   show 0<=bK W a+di W l
   omega
theorem kz:∀(l:List Int),(∀w∈l,0<=bK W w)->w∈l->0<bK W w->0<di W l
 |[],_,hw,_=>by cases hw
 |a::l,h,hw,hr=>by
   have h1:=h a (List.mem_cons_self ..)
   have h2:∀w∈l,0<=bK W w:=λw hw=>h w (List.mem_cons_of_mem _ hw)
   have h3:=jG l h2
   show 0<bK W a+di W l
   rcases List.mem_cons.1 hw with q|q
   · rw[q] at hr;omega
   · have:=kz l h2 q hr
     omega
theorem iM.le(h:iM n2 s t ak B M W0 O W P fl):fl<=ak/\di W (gI O s)=ak-fl:=by
 have h1:=h.l.sum s h.b.s0 h.b.s1
 rw[if_pos rfl,if_neg h.b.st,h.b.sum] at h1
 have h2:=jG (W:=W) (gI O s) λw hw=>h.l.rm w (h.b.sh.row s h.b.s0 h.b.s1 w hw).1
 omega
theorem iM.zp(h:iM n2 s t ak B M W0 O W P fl)(hz:ZpW W P s t):fl<ak:=by
 obtain⟨w,a1,a2,a3,_⟩:=jW (pJ hz) h.b.st
 have hm:w∈gI O s:=by rw[<-a2];exact h.d.sh.all w a1
 have:=kz (W:=W) (gI O s) (λw hw=>h.l.rm w (h.b.sh.row s h.b.s0 h.b.s1 w hw).1) hm a3
 have:=h.le.2
 omega
theorem iM.pui(h:iM n2 s t ak B M W0 O W P fl)(hl:pF n2 s W P lv)(hn:qj n2 O nx):ob n2 W O lv nx:=by
 obtain⟨qu,hq⟩:=hl.l
 have:=h.b.s0
 have:=h.b.s1
 refine⟨h.d.sh,λw hw=>h.l.rm w (h.l.sm.inn.1 hw),hn,λv a b=>hq.top (by omega) a b,λw hw=>?_⟩
 have:=h.l.sm.rm w (h.l.sm.inn.1 hw)
 have:=h.b.rb w (h.l.sm.inn.1 hw)
 omega
theorem iM.room(h:iM n2 s t ak B M W0 O W P fl)(hw:dC W w):0<=bK W w/\bK W w<=1048576:=by
  have hw0:=h.l.sm.inn.1 hw
  have:=h.l.sm.rm w hw0
  have:=h.b.rb w hw0
  have:=h.l.rm w hw0
  have:=h.l.rm _ (h.b.sh.tw hw0)
  omega
theorem iM.push(h:iM n2 s t ak B M W0 O W P fl){r:Int×List bS×List Int}(e:qQ n2 t s most W O P lv nx r):iM n2 s t ak B M W0 O r.2.1 P (fl+r.1):=by
 have hsh:=e.sm.sh h.d.sh
 refine⟨h.b,⟨hsh,⟨h.d.pt.pl,h.d.pt.pb,λw hw=>e.rm w (e.sm.inn.1 hw),λw hw hr=>?_⟩,h.d.s0,h.d.s1,h.d.b0,h.d.hM,h.d.hb⟩,h.p,⟨h.l.sm.trans e.sm,λw hw=>e.rm w (h.l.sm.inn.2 hw),λu a b=>?_,by have:=h.l.f0;have:=e.k0;omega⟩⟩
 · rw[e.sm.rd hw.1,e.sm.fr hw.1]
   rcases e.pos w (e.sm.inn.1 hw) hr with q|q
   · exact h.d.pt.rd w (e.sm.inn.1 hw) q
   · omega
 · rw[e.sum u a b,h.l.sum u a b]
   have hst:=h.b.st
   split<;>split<;>omega
theorem mq.pos{R:gH}(h:mq n2 s t ak B M W0 O R f W P far nx fl):∃g,f=g+1:=⟨f-1,by have:=h.m;omega⟩
theorem mq.stop{R:gH}(h:mq n2 s t ak B M W0 O R f W P far nx fl)(hs:gI (c7 n2 s W O P) t=da):R=(W,P,c7 n2 s W O P,nx,fl):=by
 obtain⟨g,rfl⟩:=h.pos
 have hg:=h.g
 unfold lU at hg
 rw[if_pos rfl,if_pos hs] at hg
 exact hg.symm
theorem mq.go{R:gH}(h:mq n2 s t ak B M W0 O R f W P far nx fl)(hs:¬gI (c7 n2 s W O P) t=da):oq n2 s t ak B M W0 O R (f-1) W (cV P (c7 n2 s W O P) (gI (c7 n2 s W O P) t)) (c7 n2 s W O P) nx fl:=by
 have hm:=h.m
 obtain⟨g,rfl⟩:=h.pos
 have hg:=h.g
 unfold lU at hg
 rw[if_pos rfl,if_neg hs] at hg
 obtain⟨r1,r2,r3⟩:=kh h.i.d h.i.b.hB (eL h.i.d) h.i.p ⟨h.i.b.t0,h.i.b.t1⟩ hs
 have hi:iM n2 s t ak B M W0 O W (cV P (c7 n2 s W O P) (gI (c7 n2 s W O P) t)) fl:=⟨h.i.b,r1,r2,h.i.l⟩
 have:=hi.zp r3
 have:=h.i.l.f0
 exact⟨hi,hg,.inl ⟨r3,by omega⟩,by omega⟩
theorem fz(hb:fj n2 s B M W O P):pF n2 s W P (bv n2 s W O P).1:=by
 have hs:=hb.sh
 have n0:0<=n2:=by have:=hb.s0;have:=hb.s1;omega
 have row:∀(n i k:Nat) (v:Int) (lv qu:List Int),(gI O v).length=k+n->iL n2 s W O P (bv n2 s W O P) lv qu i k v->jP n2 s W O P (bv n2 s W O P) (((gI O v).drop k).foldl (fC W P v) (lv,qu)).1 (((gI O v).drop k).foldl (fC W P v) (lv,qu)).2 (i+1):=by
   intro n
   induction n with
   |zero=>
     intro i k v lv qu hn h
     rw[List.drop_eq_nil_of_le (by omega)]
     exact h.done (by omega)
   |succ n ih=>
     intro i k v lv qu hn h
     rw[eW (by omega),List.foldl_cons]
     unfold fC
     by_cases c:0<bK W (gI (gI O v) (k:Int))/\gI lv (bF W (gI (gI O v) (k:Int)))<0/\dr W P v (gI (gI O v) (k:Int))=0
     · rw[if_pos c]
       exact ih i (k+1) v _ _ (by omega) (h.yes hs (by omega) c.1 c.2.1 c.2.2 rfl rfl)
     · rw[if_neg c]
       exact ih i (k+1) v _ _ (by omega) (h.no (by omega) c)
 have go:∀(n i:Nat) (lv qu:List Int),n2.toNat=i+n->jP n2 s W O P (bv n2 s W O P) lv qu i->pF n2 s W P (bv n2 s W O P).1:=by
   intro n
   induction n with
   |zero=>
     intro i lv qu hn h
     have:=h.l.ql n0
     have hi:¬(i:Int)<qu.length:=by omega
     rw[<-h.fin hi]
     exact h.end_ hs hi
   |succ n ih=>
     intro i lv qu hn h
     by_cases c:(i:Int)<qu.length
     · have:=row (gI O (gI qu (i:Int))).length i 0 _ lv qu (by omega) (h.row c n0)
       rw[List.drop_zero] at this
       exact ih (i+1) _ _ (by omega) this
     · rw[<-h.fin c]
       exact h.end_ hs c
 exact go n2.toNat 0 _ _ (by omega) (kt hb.s0 hb.s1)
theorem oq.pos{R:gH}(h:oq n2 s t ak B M W0 O R f W P far nx fl):∃g,f=g+1:=⟨f-1,by rcases h.m with⟨_,q⟩|q<;>omega⟩
theorem oq.yes{R:gH}(h:oq n2 s t ak B M W0 O R f W P far nx fl)(hl:0<=gI (bv n2 s W O P).1 t):mr n2 s t ak B M W0 O R (f-1) W P (bv n2 s W O P).1 (fg n2) fl:=by
 have hm:5*(ak-fl).toNat+2<=f:=by rcases h.m with⟨_,q⟩|q<;>omega
 obtain⟨g,rfl⟩:=h.pos
 have hg:=h.g
 unfold lU at hg
 rw[if_neg (by decide),if_pos rfl,if_pos hl] at hg
 have hf:=fz h.i.d
 have n0:0<=n2:=by have:=h.i.b.s0;have:=h.i.b.s1;omega
 exact⟨h.i,h.i.pui hf (ra n0),by obtain⟨qu,hq⟩:=hf.l;exact hq.ll,hg,.inl ⟨⟨hf,hl,rfl⟩,by omega⟩,h.ap⟩
theorem oq.no{R:gH}(h:oq n2 s t ak B M W0 O R f W P far nx fl)(hl:¬0<=gI (bv n2 s W O P).1 t):mq n2 s t ak B M W0 O R (f-1) W P (bv n2 s W O P).1 (fg n2) fl:=by
 have hm:=h.m
 obtain⟨g,rfl⟩:=h.pos
 have hg:=h.g
 unfold lU at hg
 rw[if_neg (by decide),if_pos rfl,if_neg hl] at hg
 refine⟨h.i,hg,?_⟩
 rcases hm with⟨q,_⟩|q
 · exact absurd (py (fz h.i.d) q) hl
 · omega
theorem mr.pos{R:gH}(h:mr n2 s t ak B M W0 O R f W P lv nx fl):∃g,f=g+1:=⟨f-1,by rcases h.m with⟨_,q⟩|q<;>omega⟩
theorem mr.ok{R:gH}(h:mr n2 s t ak B M W0 O R f W P lv nx fl):qQ n2 t s ak W O P lv nx (pu n2 O P lv t s ak W nx):=hO _ s ak W nx (by have:=h.ap;omega) h.u h.i.b.s0 h.i.b.s1
theorem mr.yes{R:gH}(h:mr n2 s t ak B M W0 O R f W P lv nx fl){r:Int×List bS×List Int}(hr:r=pu n2 O P lv t s ak W nx)(hp:0<r.1):mr n2 s t ak B M W0 O R (f-1) r.2.1 P lv r.2.2 (fl+r.1)/\f-1<f:=by
 have e:=h.ok
 have hm:=h.m
 obtain⟨g,rfl⟩:=h.pos
 have hg:=h.g
 unfold lU at hg
 rw[if_neg (by decide),if_neg (by decide)] at hg
 rw[<-hr] at e hg
 rw[if_pos hp] at hg
 have hi:=h.i.push e
 have h2:=hi.le.1
 refine⟨⟨hi,e.pui h.u,h.ll,hg,.inr ?_,h.ap⟩,by omega⟩
 rcases hm with⟨_,q⟩|q<;>omega
theorem mr.no{R:gH}(h:mr n2 s t ak B M W0 O R f W P lv nx fl){r:Int×List bS×List Int}(hr:r=pu n2 O P lv t s ak W nx)(hp:¬0<r.1):oq n2 s t ak B M W0 O R (f-1) r.2.1 P lv r.2.2 fl:=by
 have e:=h.ok
 have hm:=h.m
 obtain⟨g,rfl⟩:=h.pos
 have hg:=h.g
 unfold lU at hg
 rw[if_neg (by decide),if_neg (by decide)] at hg
 rw[<-hr] at e hg
 rw[if_neg hp] at hg
 have hi:=h.i.push e
 have hz:r.1=0:=by have:=e.k0;omega
 rw[hz,Int.add_zero] at hi
 refine⟨hi,hg,.inr ?_,h.ap⟩
 rcases hm with⟨⟨q1,q2,q3⟩,_⟩|q
 · subst q3
   have hu:=h.u
   have:=mM (P:=P) (most:=ak) hu q1 h.i.b.s0 h.i.b.s1 h.i.b.st h.i.b.t0 h.i.b.t1 q2 h.ap
   rw[<-hr] at this
   exact absurd this hp
 · omega
structure pZ(n2 s t ak B M:Int)(W0:List bS)(O:List (List Int))(R:gH):Prop where
  i:iM n2 s t ak B M W0 O R.1 R.2.1 R.2.2.2.2
  far:R.2.2.1=c7 n2 s R.1 O R.2.1
  un:gI R.2.2.1 t=da
theorem mq.stopE{R:gH}(h:mq n2 s t ak B M W0 O R f W P far nx fl)(hs:gI (c7 n2 s W O P) t=da):pZ n2 s t ak B M W0 O R:=by
 have:=h.stop hs
 subst this
 exact⟨h.i,rfl,hs⟩
def fy(n2 s t ak:Int)(W:List bS)(O:List (List Int)):gH:=lU n2 s t ak O (5*ak.toNat+3) 0 W (List.replicate n2.toNat 0) (List.replicate n2.toNat 0) (List.replicate n2.toNat 0) 0
theorem pV.bd(h:pV n2 s t ak B M W0 O):fj n2 s B M W0 O (List.replicate n2.toNat 0):=by
 have h1:=h.n2b
 have h2:=h.hB
 have h3:=h.hM
 have h4:=h.s0
 have h5:=h.s1
 have z:∀v,0<=v->v<n2->gI (List.replicate n2.toNat (0:Int)) v=0:=λv a b=>dz a (by omega)
 refine⟨h.sh,⟨by simp;omega,λv a b=>by rw[z v a b];omega,h.rm,λw hw hr=>?_⟩,h4,h5,by omega,h3,?_⟩
 · have hf:=h.sh.fr hw
   have ht:=h.sh.to w hw
   unfold dr
   rw[z _ hf.1 hf.2,z _ ht.1 ht.2]
   have:=h.rd w hw hr
   omega
 · have hM:M<=5243928576:=by omega
   have hM0:0<=M:=by omega
   have e1:n2*M<=5000*5243928576:=Int.le_trans (Int.mul_le_mul_of_nonneg_right h1 hM0) (Int.mul_le_mul_of_nonneg_left hM (by decide))
   have e2:(5000:Int)*5243928576+5243928576<da:=by decide
   omega
theorem pV.start(h:pV n2 s t ak B M W0 O):mq n2 s t ak B M W0 O (fy n2 s t ak W0 O) (5*ak.toNat+3) W0 (List.replicate n2.toNat 0) (List.replicate n2.toNat 0) (List.replicate n2.toNat 0) 0:=by
 have h4:=h.s0
 have h5:=h.s1
 have z:∀v,0<=v->v<n2->gI (List.replicate n2.toNat (0:Int)) v=0:=λv a b=>dz a (by omega)
 refine⟨⟨h,h.bd,⟨z s h4 h5,λv a b=>by rw[z v a b,z t h.t0 h.t1];omega⟩,⟨.refl _,h.rm,λu _ _=>by simp,Int.le_refl _⟩⟩,rfl,by omega⟩
theorem oZ(h:pV n2 s t ak B M W0 O):pZ n2 s t ak B M W0 O (fy n2 s t ak W0 O):=by
 have nI:∀(f:Nat),(∀W P far nx fl,mq n2 s t ak B M W0 O (fy n2 s t ak W0 O) f W P far nx fl->pZ n2 s t ak B M W0 O (fy n2 s t ak W0 O))/\(∀W P far nx fl,oq n2 s t ak B M W0 O (fy n2 s t ak W0 O) f W P far nx fl->pZ n2 s t ak B M W0 O (fy n2 s t ak W0 O))/\(∀W P far nx fl,mr n2 s t ak B M W0 O (fy n2 s t ak W0 O) f W P far nx fl->pZ n2 s t ak B M W0 O (fy n2 s t ak W0 O)):=by
   intro f
   induction f with
   |zero=>exact⟨λ_ _ _ _ _ q=>by have:=q.pos;simp at this,λ_ _ _ _ _ q=>by have:=q.pos;simp at this,λ_ _ _ _ _ q=>by have:=q.pos;simp at this⟩
   |succ f ih=>
     obtain⟨i1,i2,i3⟩:=ih
     refine⟨λW P far nx fl q=>?_,λW P far nx fl q=>?_,λW P far nx fl q=>?_⟩
     · by_cases c:gI (c7 n2 s W O P) t=da
       · exact q.stopE c
       · exact i2 _ _ _ _ _ (q.go c)
     · by_cases c:0<=gI (bv n2 s W O P).1 t
       · exact i3 _ _ _ _ _ (q.yes c)
       · exact i1 _ _ _ _ _ (q.no c)
     · by_cases c:0<(pu n2 O P far t s ak W nx).1
       · exact i3 _ _ _ _ _ (q.yes rfl c).1
       · exact i2 _ _ _ _ _ (q.no rfl c)
 exact(nI _).1 _ _ _ _ _ h.start
end TL
/-
  TlFlo7: a task's pipes laid.
  By an AI agent.
-/
set_option linter.all false
namespace TL
abbrev dL:=Int×Int×Int×Int
variable{n2 N s t v u w x y d B M k:Int}{W W' W0 W1:List bS}{O:List (List Int)}{A E:List dL}{D:List Int}{m f i j:Nat}{a:dL}
def SP:Nat->(Nat->Int)->Int
  |0,_=>0
  |m+1,g=>SP m g+g m
theorem bo{g h:Nat->Int}:∀(m:Nat),(∀i,i<m->g i=h i)->SP m g=SP m h
 |0,_=>rfl
 |m+1,e=>by
   show SP m g+g m=SP m h+h m
   rw[bo m λi hi=>e i (by omega),e m (by omega)]
theorem iC{g h:Nat->Int}:∀(m:Nat),SP m (λi=>g i+h i)=SP m g+SP m h
 |0=>rfl
 |m+1=>by
   show SP m (λi=>g i+h i)+(g m+h m)=SP m g+g m+(SP m h+h m)
   rw[iC m];omega
theorem gh{g h:Nat->Int}:∀(m:Nat),SP m (λi=>g i-h i)=SP m g-SP m h
 |0=>rfl
 |m+1=>by
   show SP m (λi=>g i-h i)+(g m-h m)=SP m g+g m-(SP m h+h m)
   rw[gh m];omega
theorem og{g:Nat->Int}(c:Int):∀(m:Nat),SP m (λi=>c*g i)=c*SP m g
 |0=>by show(0:Int)=c*0;omega
 |m+1=>by
   show SP m (λi=>c*g i)+c*g m=c*(SP m g+g m)
   rw[og c m,Int.mul_add]
theorem eb:∀(m:Nat),SP m (λ_=>0)=0
 |0=>rfl
 |m+1=>by
   show SP m (λ_=>0)+0=0
   rw[eb m];rfl
theorem lj{g h:Nat->Int}:∀(m:Nat),(∀i,i<m->g i<=h i)->SP m g<=SP m h
 |0,_=>Int.le_refl _
 |m+1,e=>by
   show SP m g+g m<=SP m h+h m
   have:=lj m λi hi=>e i (by omega)
   have:=e m (by omega)
   omega
theorem l6{g:Nat->Int}:∀(m:Nat),(∀i,i<m->0<=g i)->SP m g=0->∀i,i<m->g i=0
 |0,_,_,i,hi=>by omega
 |m+1,e,h,i,hi=>by
   have h:SP m g+g m=0:=h
   have h1:=lj (g:=λ_=>0) (h:=g) m λi hi=>e i (by omega)
   rw[eb] at h1
   have h2:=e m (by omega)
   by_cases c:i=m
   · rw[c];omega
   · exact l6 m (λi hi=>e i (by omega)) (by omega) i (by omega)
theorem lq{F:Nat->Nat->Int}:∀(n m:Nat),SP n (λu=>SP m (λi=>F u i))=SP m (λi=>SP n (λu=>F u i))
 |0,m=>(eb m).symm
 |n+1,m=>by
   show SP n (λu=>SP m (λi=>F u i))+SP m (λi=>F n i)=_
   rw[lq n m,<-iC]
   rfl
theorem jz{c:Int}{k:Nat}:∀(m:Nat),k<m->SP m (λi=>if i=k then c else 0)=c
 |0,h=>by omega
 |m+1,h=>by
   show SP m (λi=>if i=k then c else 0)+(if m=k then c else 0)=c
   by_cases q:m=k
   · rw[if_pos q,bo (h:=λ_=>0) m λi hi=>if_neg (by omega),eb];omega
   · rw[if_neg q,jz m (by omega)];omega
theorem mA{g:Nat->Int}(a:Nat):∀(b:Nat),SP (a+b) g=SP a g+SP b (λi=>g (a+i))
 |0=>by show SP a g=SP a g+0;omega
 |b+1=>by
   show SP (a+b) g+g (a+b)=SP a g+(SP b (λi=>g (a+i))+g (a+b))
   rw[mA a b];omega
def cT(c:List bS×List (List Int))(fr to room cost:Int):List bS×List (List Int):=
 ((c.1++[(to,room,cost)])++[(fr,0,-cost)],(c.2.set fr.toNat (gI c.2 fr++[(c.1.length:Int)])).set to.toNat (gI (c.2.set fr.toNat (gI c.2 fr++[(c.1.length:Int)])) to++[(c.1.length:Int)+1]))
def iY(c:List bS×List (List Int))(a:dL):List bS×List (List Int):=cT c a.1 a.2.1 a.2.2.1 a.2.2.2
def rE(n2:Int):List bS×List (List Int):=([],List.replicate n2.toNat [])
def i8(n2:Int)(E:List dL):List bS×List (List Int):=E.foldl iY (rE n2)
theorem il:i8 n2 (E++[a])=iY (i8 n2 E) a:=by unfold i8;rw[List.foldl_append];rfl
def l9(E:List dL):Nat->Int->List Int
 |0,_=>[]
 |m+1,u=>(l9 E m u++(if(gI E (m:Int)).1=u then[2*(m:Int)] else[]))++(if(gI E (m:Int)).2.1=u then[2*(m:Int)+1] else[])
def qX(n2:Int)(E:List dL):Prop:=∀a∈E,(0<=a.1/\a.1<n2)/\(0<=a.2.1/\a.2.1<n2)/\(0<=a.2.2.1/\a.2.2.1<=1048576)/\0<=a.2.2.2/\a.2.2.2<=1048576
structure jV(n2:Int)(E:List dL)(m:Nat)(c:List bS×List (List Int)):Prop where
 lw:c.1.length=2*m
 ol:(c.2.length:Int)=n2
 fw:∀i:Nat,i<m->gI c.1 (2*(i:Int))=((gI E (i:Int)).2.1,(gI E (i:Int)).2.2.1,(gI E (i:Int)).2.2.2)
 bw:∀i:Nat,i<m->gI c.1 (2*(i:Int)+1)=((gI E (i:Int)).1,0,-(gI E (i:Int)).2.2.2)
 row:∀u,0<=u->u<n2->gI c.2 u=l9 E m u
theorem nP(n0:0<=n2):jV n2 E 0 (rE n2):=by
 refine⟨rfl,by unfold rE;simp;omega,λi hi=>by omega,λi hi=>by omega,λu a b=>?_⟩
 unfold rE
 exact dz a (by omega)
theorem jV.add{c:List bS×List (List Int)}(h:jV n2 E m c)(hr:qX n2 E)(hm:(m:Int)<E.length):jV n2 E (m+1) (iY c (gI E (m:Int))):=by
 obtain⟨⟨f0,f1⟩,⟨t0,t1⟩,_,_⟩:=hr _ (bk (xs:=E) (i:=(m:Int)) (by omega) hm)
 have hl:=h.lw
 have hol:=h.ol
 have e1:∀i:Int,0<=i->i<2*(m:Int)->gI (iY c (gI E (m:Int))).1 i=gI c.1 i:=λi a b=>by
   show gI ((c.1++[_])++[_]) i=_
   rw[ju (by rw[List.length_append,List.length_singleton];omega) a,ju (by omega) a]
 have e2:gI (iY c (gI E (m:Int))).1 (2*(m:Int))=((gI E (m:Int)).2.1,(gI E (m:Int)).2.2.1,(gI E (m:Int)).2.2.2):=by
   show gI ((c.1++[_])++[_]) _=_
   rw[ju (by rw[List.length_append,List.length_singleton];omega) (by omega),show 2*(m:Int)=(c.1.length:Int) by omega,l7]
 have e3:gI (iY c (gI E (m:Int))).1 (2*(m:Int)+1)=((gI E (m:Int)).1,0,-(gI E (m:Int)).2.2.2):=by
   show gI ((c.1++[((gI E (m:Int)).2.1,(gI E (m:Int)).2.2.1,(gI E (m:Int)).2.2.2)])++[_]) _=_
   rw[show 2*(m:Int)+1=((c.1++[((gI E (m:Int)).2.1,(gI E (m:Int)).2.2.1,(gI E (m:Int)).2.2.2)]).length:Int) by rw[List.length_append,List.length_singleton];omega,l7]
 refine⟨by show((c.1++[_])++[_]).length=_;simp;omega,by show((List.set _ _ _).length:Int)=_;simp;omega,λi hi=>?_,λi hi=>?_,λu a b=>?_⟩
 · by_cases q:i=m
   · rw[q];exact e2
   · rw[e1 _ (by omega) (by omega)];exact h.fw i (by omega)
 · by_cases q:i=m
   · rw[q];exact e3
   · rw[e1 _ (by omega) (by omega)];exact h.bw i (by omega)
 · show gI ((c.2.set (gI E (m:Int)).1.toNat (gI c.2 (gI E (m:Int)).1++[(c.1.length:Int)])).set (gI E (m:Int)).2.1.toNat (gI (c.2.set (gI E (m:Int)).1.toNat (gI c.2 (gI E (m:Int)).1++[(c.1.length:Int)])) (gI E (m:Int)).2.1++[(c.1.length:Int)+1])) u=(l9 E m u++(if(gI E (m:Int)).1=u then[2*(m:Int)] else[]))++(if(gI E (m:Int)).2.1=u then[2*(m:Int)+1] else[])
   have es:∀z,0<=z->z<n2->gI (c.2.set (gI E (m:Int)).1.toNat (gI c.2 (gI E (m:Int)).1++[(c.1.length:Int)])) z=l9 E m z++(if(gI E (m:Int)).1=z then[2*(m:Int)] else[]):=λz z0 z1=>by
     rw[ct f0 (by omega) z0]
     by_cases q:z=(gI E (m:Int)).1
     · rw[if_pos q,if_pos q.symm,h.row _ f0 f1,q,show(c.1.length:Int)=2*(m:Int) by omega]
     · rw[if_neg q,if_neg (λe=>q e.symm),List.append_nil];exact h.row z z0 z1
   rw[ct t0 (by rw[List.length_set];omega) a]
   by_cases q:u=(gI E (m:Int)).2.1
   · rw[if_pos q,if_pos q.symm,es _ t0 t1,q,show(c.1.length:Int)+1=2*(m:Int)+1 by omega]
   · rw[if_neg q,es u a b]
     have:(if(gI E (m:Int)).2.1=u then[2*(m:Int)+1] else[])=[]:=if_neg λe=>q e.symm
     rw[this,List.append_nil]
theorem jE(n0:0<=n2)(hr:qX n2 E):∀(m:Nat),m<=E.length->jV n2 E m (i8 n2 (E.take m))
 |0,_=>by
   rw[List.take_zero]
   exact nP n0
 |m+1,h=>by
   rw[cQ (by omega),il]
   exact(jE n0 hr m (by omega)).add hr (by omega)
theorem pT(n0:0<=n2)(hr:qX n2 E):jV n2 E E.length (i8 n2 E):=by
 have:=jE n0 hr E.length (Nat.le_refl _)
 rwa[List.take_length] at this
theorem fZ:∀(m:Nat),w∈l9 E m u↔∃i:Nat,i<m/\((w=2*(i:Int)/\(gI E (i:Int)).1=u)\/(w=2*(i:Int)+1/\(gI E (i:Int)).2.1=u))
 |0=>by
   constructor
   · intro h;cases h
   · rintro⟨i,h,_⟩;omega
 |m+1=>by
   unfold l9
   rw[List.mem_append,List.mem_append,fZ m]
   constructor
   · rintro((⟨i,h1,h2⟩|h)|h)
     · exact⟨i,by omega,h2⟩
     · split at h
       · rename_i c;exact⟨m,by omega,.inl ⟨List.mem_singleton.1 h,c⟩⟩
       · cases h
     · split at h
       · rename_i c;exact⟨m,by omega,.inr ⟨List.mem_singleton.1 h,c⟩⟩
       · cases h
   · rintro⟨i,h1,h2⟩
     by_cases q:i=m
     · subst q
       rcases h2 with⟨a,b⟩|⟨a,b⟩
       · left;right;rw[if_pos b,a];simp
       · right;rw[if_pos b,a];simp
     · left;left;exact⟨i,by omega,h2⟩
theorem nY:∀(m:Nat),(l9 E m u).Nodup
 |0=>List.nodup_nil
 |m+1=>by
   unfold l9
   have hb:∀w∈l9 E m u,w<2*(m:Int):=λw hw=>by
     obtain⟨i,h1,h2⟩:=(fZ m).1 hw
     omega
   rw[List.nodup_append,List.nodup_append]
   refine⟨⟨nY m,by split<;>simp,λa ha b hb2 e=>?_⟩,by split<;>simp,λa ha b hb2 e=>?_⟩
   · have:=hb a ha
     split at hb2
     · have:=List.mem_singleton.1 hb2;omega
     · cases hb2
   · split at hb2
     · have h1:=List.mem_singleton.1 hb2
       rcases List.mem_append.1 ha with q|q
       · have:=hb a q;omega
       · split at q
         · have:=List.mem_singleton.1 q;omega
         · cases q
     · cases hb2
theorem lI{g:Int->Int}:∀(m:Nat),((l9 E m u).map g).sum=SP m λi=>(if(gI E (i:Int)).1=u then g (2*(i:Int)) else 0)+(if(gI E (i:Int)).2.1=u then g (2*(i:Int)+1) else 0)
 |0=>rfl
 |m+1=>by
   show(((l9 E m u++_)++_).map g).sum=_+_
   rw[List.map_append,List.map_append,List.sum_append,List.sum_append,lI m]
   have e1:∀(c:Prop) [Decidable c] (z:Int),((if c then[z] else[]).map g).sum=if c then g z else 0:=λc _ z=>by
     by_cases q:c
     · rw[if_pos q,if_pos q];simp
     · rw[if_neg q,if_neg q];rfl
   rw[e1,e1];exact Int.add_assoc _ _ _
theorem eS(hw:0<=w)(hl:w<2*(m:Int)):∃i:Nat,i<m/\(w=2*(i:Int)\/w=2*(i:Int)+1):=⟨(w/2).toNat,by omega,by omega⟩
theorem ek:c6 (2*(i:Int))=2*(i:Int)+1:=by unfold c6;rw[if_pos (by omega)]
theorem gg:c6 (2*(i:Int)+1)=2*(i:Int):=by unfold c6;rw[if_neg (by omega)];omega
theorem jV.sh{c:List bS×List (List Int)}(h:jV n2 E E.length c)(hr:qX n2 E)(hl:E.length<=25000):iP n2 c.1 c.2:=by
 have hlw:=h.lw
 have rg:∀i:Nat,i<E.length->_:=λi hi=>hr _ (bk (xs:=E) (i:=(i:Int)) (by omega) (by omega))
 have f1:∀i:Nat,i<E.length->bF c.1 (2*(i:Int))=(gI E (i:Int)).2.1:=λi hi=>congrArg Prod.fst (h.fw i hi)
 have f2:∀i:Nat,i<E.length->eZ c.1 (2*(i:Int))=(gI E (i:Int)).2.2.2:=λi hi=>congrArg (λz=>z.2.2) (h.fw i hi)
 have b1:∀i:Nat,i<E.length->bF c.1 (2*(i:Int)+1)=(gI E (i:Int)).1:=λi hi=>congrArg Prod.fst (h.bw i hi)
 have b2:∀i:Nat,i<E.length->eZ c.1 (2*(i:Int)+1)= -(gI E (i:Int)).2.2.2:=λi hi=>congrArg (λz=>z.2.2) (h.bw i hi)
 refine⟨by omega,h.ol,λw hw=>?_,λv v0 v1 w hw=>?_,λw hw=>?_,λv v0 v1=>?_,λw hw=>?_,by omega⟩
 · obtain⟨i,hi,q|q⟩:=eS (m:=E.length) hw.1 (by have:=hw.2;omega)
   · rw[q,f1 i hi];exact(rg i hi).2.1
   · rw[q,b1 i hi];exact(rg i hi).1
 · rw[h.row v v0 v1,fZ] at hw
   obtain⟨i,hi,⟨q,e⟩|⟨q,e⟩⟩:=hw
   · refine⟨⟨by omega,by omega⟩,?_⟩
     unfold dg;rw[q,ek,b1 i hi];exact e
   · refine⟨⟨by omega,by omega⟩,?_⟩
     unfold dg;rw[q,gg,f1 i hi];exact e
 · obtain⟨i,hi,q|q⟩:=eS (m:=E.length) hw.1 (by have:=hw.2;omega)
   · have e:dg c.1 w=(gI E (i:Int)).1:=by unfold dg;rw[q,ek,b1 i hi]
     have:=(rg i hi).1
     rw[e,h.row _ this.1 this.2,fZ]
     exact⟨i,hi,.inl ⟨q,rfl⟩⟩
   · have e:dg c.1 w=(gI E (i:Int)).2.1:=by unfold dg;rw[q,gg,f1 i hi]
     have:=(rg i hi).2.1
     rw[e,h.row _ this.1 this.2,fZ]
     exact⟨i,hi,.inr ⟨q,rfl⟩⟩
 · rw[h.row v v0 v1];exact nY _
 · obtain⟨i,hi,q|q⟩:=eS (m:=E.length) hw.1 (by have:=hw.2;omega)
   · have:=(rg i hi).2.2.2
     rw[q,ek,b2 i hi,f2 i hi];omega
   · have:=(rg i hi).2.2.2
     rw[q,gg,b2 i hi,f2 i hi];omega
end TL
/-
  TlFlo8: a task: what flows over its arcs; cuts.
  By an AI agent.
-/
set_option linter.all false
namespace TL
variable{n2 N s t v u w x y d B M k ak fl:Int}{W W' W0 W1:List bS}{O:List (List Int)}{A E:List dL}{D:List Int}{m f i j:Nat}{a:dL}{c:List bS×List (List Int)}
structure fv(N:Int)(A:List dL)(D:List Int):Prop where
  n0:0<=N
  n1:N<=4096
  al:A.length<=16384
  dl:(D.length:Int)=N
  ar:∀a∈A,(0<=a.1/\a.1<N)/\(0<=a.2.1/\a.2.1<N)/\(0<=a.2.2.1/\a.2.2.1<=1048576)/\0<=a.2.2.2/\a.2.2.2<=1048576
  nd:∀x∈D,-1048576<=x/\x<=1048576
def li(N v k:Int):List dL:=if 0<k then[(N,v,k,0)] else if k<0 then[(v,N+1,-k,0)] else[]
def f4(N:Int)(D:List Int):Nat->List dL
 |0=>[]
 |j+1=>f4 N D j++li N (j:Int) (gI D (j:Int))
def ci(N:Int)(A:List dL)(D:List Int):List dL:=A++f4 N D N.toNat
def db(D:List Int)(j:Nat):Int:=SP j λv=>if 0<gI D (v:Int) then gI D (v:Int) else 0
theorem lg:∀(j:Nat),(f4 N D j).length<=j
 |0=>Nat.le_refl _
 |j+1=>by
   unfold f4 li
   have:=lg j
   rw[List.length_append]
   split
   · simp;omega
   · split
     · simp;omega
     · simp;omega
theorem o8{F:dL->Int}:∀(n:Nat),n<=E.length->SP n (λi=>F (gI E (i:Int)))=((E.take n).map F).sum
 |0,_=>rfl
 |n+1,h=>by
   show SP n (λi=>F (gI E (i:Int)))+F (gI E (n:Int))=_
   rw[o8 n (by omega),cQ (by omega),List.map_append,List.sum_append]
   simp
theorem jK{F:dL->Int}:SP E.length (λi=>F (gI E (i:Int)))=(E.map F).sum:=by
 have:=o8 (F:=F) (E:=E) E.length (Nat.le_refl _)
 rwa[List.take_length] at this
theorem kP{F:dL->Int}:∀(j:Nat),((f4 N D j).map F).sum=SP j λv=>if 0<gI D (v:Int) then F (N,(v:Int),gI D (v:Int),0) else if gI D (v:Int)<0 then F ((v:Int),N+1,-gI D (v:Int),0) else 0
 |0=>rfl
 |j+1=>by
   show((f4 N D j++li N (j:Int) (gI D (j:Int))).map F).sum=_+_
   rw[List.map_append,List.sum_append,kP j]
   congr 1
   unfold li
   show _=if 0<gI D (j:Int) then F (N,(j:Int),gI D (j:Int),0) else if gI D (j:Int)<0 then F ((j:Int),N+1,-gI D (j:Int),0) else 0
   by_cases q:0<gI D (j:Int)
   · rw[if_pos q,if_pos q];simp
   · rw[if_neg q,if_neg q]
     by_cases q2:gI D (j:Int)<0
     · rw[if_pos q2,if_pos q2];simp
     · rw[if_neg q2,if_neg q2];rfl
theorem kV{F:dL->Int}:SP (ci N A D).length (λi=>F (gI (ci N A D) (i:Int)))=SP A.length (λi=>F (gI A (i:Int)))+SP N.toNat λv=>if 0<gI D (v:Int) then F (N,(v:Int),gI D (v:Int),0) else if gI D (v:Int)<0 then F ((v:Int),N+1,-gI D (v:Int),0) else 0:=by
 rw[jK,jK]
 unfold ci
 rw[List.map_append,List.sum_append,kP]
theorem fv.dat(h:fv N A D)(v0:0<=v)(v1:v<N): -1048576<=gI D v/\gI D v<=1048576:=h.nd _ (bk v0 (by have:=h.dl;omega))
theorem gY:∀(j:Nat),a∈f4 N D j->∃v:Nat,v<j/\((0<gI D (v:Int)/\a=(N,(v:Int),gI D (v:Int),0))\/(gI D (v:Int)<0/\a=((v:Int),N+1,-gI D (v:Int),0)))
 |0,h=>by cases h
 |j+1,h=>by
   unfold f4 at h
   rcases List.mem_append.1 h with q|q
   · obtain⟨v,hv,r⟩:=gY j q
     exact⟨v,by omega,r⟩
   · unfold li at q
     split at q
     · rename_i c;exact⟨j,by omega,.inl ⟨c,List.mem_singleton.1 q⟩⟩
     · split at q
       · rename_i c;exact⟨j,by omega,.inr ⟨c,List.mem_singleton.1 q⟩⟩
       · cases q
theorem fv.rg(h:fv N A D):qX (N+2) (ci N A D):=by
 have hn:=h.n0
 intro a ha
 rcases List.mem_append.1 ha with q|q
 · obtain⟨a1,a2,a3,a4⟩:=h.ar a q
   exact⟨by omega,by omega,a3,a4⟩
 · obtain⟨v,hv,⟨c,rfl⟩|⟨c,rfl⟩⟩:=gY _ q
   · have:=h.dat (v:=(v:Int)) (by omega) (by omega)
     exact⟨⟨hn,by show N<N+2;omega⟩,⟨by show(0:Int)<=v;omega,by show(v:Int)<N+2;omega⟩,⟨by show 0<=gI D (v:Int);omega,by show gI D (v:Int)<=_;omega⟩,Int.le_refl _,by show(0:Int)<=1048576;decide⟩
   · have:=h.dat (v:=(v:Int)) (by omega) (by omega)
     exact⟨⟨by show(0:Int)<=v;omega,by show(v:Int)<N+2;omega⟩,⟨by show 0<=N+1;omega,by show N+1<N+2;omega⟩,⟨by show 0<= -gI D (v:Int);omega,by show-gI D (v:Int)<=_;omega⟩,Int.le_refl _,by show(0:Int)<=1048576;decide⟩
theorem fv.el(h:fv N A D):(ci N A D).length<=20480:=by
 have:=lg (N:=N) (D:=D) N.toNat
 have:=h.al
 have:=h.n1
 unfold ci
 rw[List.length_append];omega
theorem fv.ends(h:fv N A D)(hi:i<(ci N A D).length):((gI (ci N A D) (i:Int)).2.1≠N/\(gI (ci N A D) (i:Int)).1≠N+1)/\(A.length<=i->(gI (ci N A D) (i:Int)).1=N\/(gI (ci N A D) (i:Int)).2.1=N+1):=by
  have hm:=bk (xs:=ci N A D) (i:=(i:Int)) (by omega) (by omega)
  have hn:=h.n0
  refine⟨?_,λhl=>?_⟩
  · rcases List.mem_append.1 hm with q|q
    · obtain⟨a1,a2,_⟩:=h.ar _ q
      exact⟨by omega,by omega⟩
    · obtain⟨v,hv,⟨_,e⟩|⟨_,e⟩⟩:=gY _ q
      · rw[e];exact⟨by show(v:Int)≠N;omega,by show N≠N+1;omega⟩
      · rw[e];exact⟨by show N+1≠N;omega,by show(v:Int)≠N+1;omega⟩
  · have:gI (ci N A D) (i:Int)∈f4 N D N.toNat:=by
      have e:gI (ci N A D) (i:Int)=gI (f4 N D N.toNat) ((i-A.length:Nat):Int):=by
        unfold ci gI
        rw[List.getD_eq_getElem?_getD,List.getD_eq_getElem?_getD,List.getElem?_append_right (by omega)]
        congr 2
      rw[e]
      unfold ci at hi
      rw[List.length_append] at hi
      exact bk (by omega) (by omega)
    obtain⟨v,hv,⟨_,e⟩|⟨_,e⟩⟩:=gY _ this
    · rw[e];exact .inl rfl
    · rw[e];exact .inr rfl
theorem fD(hi:i<A.length):gI (ci N A D) (i:Int)=gI A (i:Int):=by
 unfold ci gI
 rw[List.getD_eq_getElem?_getD,List.getD_eq_getElem?_getD,List.getElem?_append_left (by omega)]
theorem jV.rm{c:List bS×List (List Int)}(h:jV n2 E E.length c)(hi:i<E.length):bK c.1 (2*(i:Int))=(gI E (i:Int)).2.2.1/\bK c.1 (2*(i:Int)+1)=0:=⟨congrArg (λz=>z.2.1) (h.fw i hi),congrArg (λz=>z.2.1) (h.bw i hi)⟩
theorem jV.sum{c:List bS×List (List Int)}(h:jV n2 E E.length c)(u0:0<=u)(u1:u<n2)(W:List bS):di W (gI c.2 u)=SP E.length λi=>(if(gI E (i:Int)).1=u then bK W (2*(i:Int)) else 0)+(if(gI E (i:Int)).2.1=u then bK W (2*(i:Int)+1) else 0):=by
 unfold di
 rw[h.row u u0 u1,lI]
theorem js(h:fv N A D):∀(j:Nat),(j:Int)<=N->0<=db D j/\db D j<=(j:Int)*1048576
 |0,_=>⟨Int.le_refl _,Int.le_refl _⟩
 |j+1,hj=>by
   have:=js h j (by omega)
   have:=h.dat (v:=(j:Int)) (by omega) (by omega)
   show 0<=db D j+(if 0<gI D (j:Int) then gI D (j:Int) else 0)/\db D j+(if 0<gI D (j:Int) then gI D (j:Int) else 0)<=_
   split<;>omega
theorem fv.fib(h:fv N A D){c:List bS×List (List Int)}(hc:jV (N+2) (ci N A D) (ci N A D).length c):pV (N+2) N (N+1) (db D N.toNat) ((N+2)*1048576) (1048576+(N+2)*1048576) c.1 c.2:=by
 have hr:=h.rg
 have hn:=h.n0
 have hn1:=h.n1
 have hlw:=hc.lw
 have hel:=h.el
 have rg:∀i:Nat,i<(ci N A D).length->_:=λi hi=>hr _ (bk (xs:=ci N A D) (i:=(i:Int)) (by omega) (by omega))
 refine⟨hc.sh hr (by omega),hn,by omega,by omega,by omega,by omega,by omega,rfl,rfl,?_,λw hw=>?_,λw hw=>?_,λw hw hp=>?_,?_⟩
 · rw[hc.sum hn (by omega)]
   rw[bo (h:=λi=>(λa:dL=>if a.1=N then a.2.2.1 else 0) (gI (ci N A D) (i:Int))) _ λi hi=>?_]
   · rw[kV (F:=λa:dL=>if a.1=N then a.2.2.1 else 0),bo (h:=λ_=>0) A.length λi hi=>?_,eb]
     · unfold db
       rw[Int.zero_add]
       refine bo _ λv hv=>?_
       by_cases q:0<gI D (v:Int)
       · rw[if_pos q,if_pos q];exact if_pos rfl
       · rw[if_neg q,if_neg q]
         by_cases q2:gI D (v:Int)<0
         · rw[if_pos q2];exact if_neg (by show¬(v:Int)=N;omega)
         · rw[if_neg q2]
     · have:=(h.ar _ (bk (xs:=A) (i:=(i:Int)) (by omega) (by omega))).1
       exact if_neg (by omega)
   · obtain⟨e1,e2⟩:=hc.rm hi
     have:=(h.ends hi).1.1
     rw[e1,e2]
     show _=if(gI (ci N A D) (i:Int)).1=N then(gI (ci N A D) (i:Int)).2.2.1 else 0
     simp
 · obtain⟨i,hi,q|q⟩:=eS (m:=(ci N A D).length) hw.1 (by have:=hw.2;omega)
   · obtain⟨e1,e2⟩:=hc.rm hi
     have:=(rg i hi).2.2.1
     rw[q,ek,e1,e2];omega
   · obtain⟨e1,e2⟩:=hc.rm hi
     have:=(rg i hi).2.2.1
     rw[q,gg,e1,e2];omega
 · obtain⟨i,hi,q|q⟩:=eS (m:=(ci N A D).length) hw.1 (by have:=hw.2;omega)
   · obtain⟨e1,e2⟩:=hc.rm hi
     have:=(rg i hi).2.2.1
     rw[q,e1];omega
   · obtain⟨e1,e2⟩:=hc.rm hi
     rw[q,e2];omega
 · obtain⟨i,hi,q|q⟩:=eS (m:=(ci N A D).length) hw.1 (by have:=hw.2;omega)
   · have:=(rg i hi).2.2.2
     have e:eZ c.1 w=(gI (ci N A D) (i:Int)).2.2.2:=by rw[q];exact congrArg (λz=>z.2.2) (hc.fw i hi)
     omega
   · obtain⟨e1,e2⟩:=hc.rm hi
     rw[q,e2] at hp;omega
 · have:=js h N.toNat (by omega)
   omega
def gG(E:List dL)(x:Nat->Int)(u:Int):Int:=SP E.length λi=>(if(gI E (i:Int)).1=u then x i else 0)-(if(gI E (i:Int)).2.1=u then x i else 0)
def xW(W:List bS)(i:Nat):Int:=bK W (2*(i:Int)+1)
theorem m9{c:List bS×List (List Int)}(hc:jV n2 E E.length c)(hl:rV n2 s t c.1 W c.2 fl)(hi:i<E.length):bK W (2*(i:Int))=(gI E (i:Int)).2.2.1-xW W i/\0<=xW W i/\xW W i<=(gI E (i:Int)).2.2.1:=by
 have hlw:=hc.lw
 have hw:dC c.1 (2*(i:Int)):=⟨by omega,by omega⟩
 have hw2:dC c.1 (2*(i:Int)+1):=⟨by omega,by omega⟩
 obtain⟨e1,e2⟩:=hc.rm hi
 have h1:=hl.sm.rm _ hw
 rw[ek,e1,e2] at h1
 have h2:=hl.rm _ hw
 have h3:=hl.rm _ hw2
 unfold xW
 omega
theorem jm{c:List bS×List (List Int)}(hc:jV n2 E E.length c)(hl:rV n2 s t c.1 W c.2 fl)(u0:0<=u)(u1:u<n2):gG E (xW W) u=(if u=s then fl else 0)-(if u=t then fl else 0):=by
 have h:=hl.sum u u0 u1
 rw[hc.sum u0 u1,hc.sum u0 u1] at h
 have:gG E (xW W) u=SP E.length (λi=>(if(gI E (i:Int)).1=u then bK c.1 (2*(i:Int)) else 0)+(if(gI E (i:Int)).2.1=u then bK c.1 (2*(i:Int)+1) else 0))-SP E.length (λi=>(if(gI E (i:Int)).1=u then bK W (2*(i:Int)) else 0)+(if(gI E (i:Int)).2.1=u then bK W (2*(i:Int)+1) else 0)):=by
   rw[<-gh]
   refine bo _ λi hi=>?_
   obtain⟨a1,a2,a3⟩:=m9 hc hl hi
   obtain⟨e1,e2⟩:=hc.rm hi
   have e3:bK W (2*(i:Int)+1)=xW W i:=rfl
   rw[e1,e2,a1,e3]
   split<;>split<;>omega
 omega
theorem lB{φ:Int->Int}{k:Int}{n:Nat}(v0:0<=v)(v1:v<n):SP n (λu=>φ (u:Int)*(if v=(u:Int) then k else 0))=φ v*k:=by
 rw[bo (h:=λu=>if u=v.toNat then φ v*k else 0) n λu hu=>?_,jz n (by omega)]
 by_cases q:v=(u:Int)
 · rw[if_pos q,if_pos (by omega),q]
 · rw[if_neg q,if_neg (by omega),Int.mul_zero]
theorem lS(φ:Int->Int){x:Nat->Int}{n:Nat}(hr:∀a∈E,(0<=a.1/\a.1<n)/\(0<=a.2.1/\a.2.1<n)):SP n (λu=>φ (u:Int)*gG E x (u:Int))=SP E.length λi=>x i*(φ (gI E (i:Int)).1-φ (gI E (i:Int)).2.1):=by
  have h1:SP n (λu=>φ (u:Int)*gG E x (u:Int))=SP n (λu=>SP E.length λi=>φ (u:Int)*((if(gI E (i:Int)).1=(u:Int) then x i else 0)-(if(gI E (i:Int)).2.1=(u:Int) then x i else 0))):=by
    refine bo _ λu hu=>?_
    unfold gG
    rw[<-og]
  rw[h1,lq]
  refine bo _ λi hi=>?_
  obtain⟨⟨a0,a1⟩,b0,b1⟩:=hr _ (bk (xs:=E) (i:=(i:Int)) (by omega) (by omega))
  have h2:SP n (λu=>φ (u:Int)*((if(gI E (i:Int)).1=(u:Int) then x i else 0)-(if(gI E (i:Int)).2.1=(u:Int) then x i else 0)))=SP n (λu=>φ (u:Int)*(if(gI E (i:Int)).1=(u:Int) then x i else 0)-φ (u:Int)*(if(gI E (i:Int)).2.1=(u:Int) then x i else 0)):=bo _ λu hu=>Int.mul_sub _ _ _
  rw[h2,gh,lB a0 a1,lB b0 b1,Int.mul_sub,Int.mul_comm (x i),Int.mul_comm (x i)]
def jC(χ:Int->Int)(a:dL):Int:=if χ a.1=1/\χ a.2.1=0 then a.2.2.1 else 0
theorem oC(h:fv N A D){c:List bS×List (List Int)}(hc:jV (N+2) (ci N A D) (ci N A D).length c){R:gH}(he:pZ (N+2) N (N+1) ak B M c.1 c.2 R)(ha:ak=db D N.toNat)(χ:Int->Int)(hχ:χ=λv=>if gI R.2.2.1 v=da then 0 else 1):ak-R.2.2.2.2=SP N.toNat (λv=>if χ (v:Int)=1 then gI D (v:Int) else 0)-SP A.length λi=>jC χ (gI A (i:Int)):=by
 have hn:=h.n0
 have hra:=eL he.i.d
 rw[<-he.far] at hra
 have hs:χ N=1:=by rw[hχ];show(if gI R.2.2.1 N=da then 0 else 1)=(1:Int);rw[hra.i.fs];rfl
 have ht:χ (N+1)=0:=by rw[hχ];exact if_pos he.un
 have h01:∀v,χ v=0\/χ v=1:=λv=>by rw[hχ];show(if _ then _ else _)=_\/(if _ then _ else _)=_;split<;>simp
 have hst:=he.i.l.sm
 have hlw:=hc.lw
 have htri:∀w,dC R.1 w->0<bK R.1 w->χ (dg R.1 w)=1->χ (bF R.1 w)=1:=λw hw hr hf=>by
   have:gI R.2.2.1 (dg R.1 w)≠da:=λe=>by rw[hχ] at hf;simp only[e,if_true] at hf;exact absurd hf (by decide)
   rw[hχ]
   exact if_neg (hra.tri he.i.d hw hr this).2
 have hin:∀w,dC R.1 w↔dC c.1 w:=λw=>hst.inn
 have hkey:∀i:Nat,i<(ci N A D).length->xW R.1 i*(χ (gI (ci N A D) (i:Int)).1-χ (gI (ci N A D) (i:Int)).2.1)=jC χ (gI (ci N A D) (i:Int)):=λi hi=>by
   obtain⟨b1,b2,b3⟩:=m9 hc he.i.l hi
   have t1:bF R.1 (2*(i:Int))=(gI (ci N A D) (i:Int)).2.1:=by rw[hst.to _ (by omega)];exact congrArg Prod.fst (hc.fw i hi)
   have t2:bF R.1 (2*(i:Int)+1)=(gI (ci N A D) (i:Int)).1:=by rw[hst.to _ (by omega)];exact congrArg Prod.fst (hc.bw i hi)
   have f1:dg R.1 (2*(i:Int))=(gI (ci N A D) (i:Int)).1:=by unfold dg;rw[ek];exact t2
   have f2:dg R.1 (2*(i:Int)+1)=(gI (ci N A D) (i:Int)).2.1:=by unfold dg;rw[gg];exact t1
   have w1:dC R.1 (2*(i:Int)):=(hin _).2 ⟨by omega,by omega⟩
   have w2:dC R.1 (2*(i:Int)+1):=(hin _).2 ⟨by omega,by omega⟩
   have g1:=htri _ w1
   have g2:=htri _ w2
   rw[t1,f1,b1] at g1
   rw[t2,f2] at g2
   unfold jC
   rcases h01 (gI (ci N A D) (i:Int)).1 with p|p<;>rcases h01 (gI (ci N A D) (i:Int)).2.1 with q|q<;>rw[p,q]<;>rw[p,q] at g1 g2
   · simp
   · have:¬0<xW R.1 i:=λhp=>absurd (g2 hp rfl) (by decide)
     have:xW R.1 i=0:=by omega
     rw[this];simp
   · have:¬0<(gI (ci N A D) (i:Int)).2.2.1-xW R.1 i:=λhp=>absurd (g1 hp rfl) (by decide)
     simp;omega
   · simp
 have hr:=h.rg
 have hphi:=lS (E:=ci N A D) χ (x:=xW R.1) (n:=(N+2).toNat) λa ha=>by
   obtain⟨a1,a2,_⟩:=hr a ha
   exact⟨by omega,by omega⟩
 rw[bo _ hkey,kV] at hphi
 have hL:SP (N+2).toNat (λu=>χ (u:Int)*gG (ci N A D) (xW R.1) (u:Int))=R.2.2.2.2:=by
   rw[bo (h:=λu=>if u=N.toNat then R.2.2.2.2 else 0) _ λu hu=>?_,jz _ (by omega)]
   rw[jm hc he.i.l (by omega) (by omega)]
   by_cases q:u=N.toNat
   · rw[if_pos (by omega),if_neg (by omega),if_pos q,show(u:Int)=N by omega,hs];omega
   · rw[if_neg (show¬(u:Int)=N by omega),if_neg q]
     by_cases q2:(u:Int)=N+1
     · rw[if_pos q2,q2,ht];omega
     · rw[if_neg q2];omega
 rw[hL] at hphi
 have hD:db D N.toNat-SP N.toNat (λv=>if 0<gI D (v:Int) then jC χ (N,(v:Int),gI D (v:Int),0) else if gI D (v:Int)<0 then jC χ ((v:Int),N+1,-gI D (v:Int),0) else 0)=SP N.toNat (λv=>if χ (v:Int)=1 then gI D (v:Int) else 0):=by
   unfold db
   rw[<-gh]
   refine bo _ λv hv=>?_
   unfold jC
   simp only[hs,ht]
   rcases h01 (v:Int) with p|p<;>rw[p]<;>simp <;>split<;>(try split)<;>omega
 rw[ha]
 omega
end TL
/-
  TlFlo9: a flow of the least cost, or nodes whose needs are too great.
  By an AI agent.
-/
set_option linter.all false
namespace TL
variable{n2 N s t v u w y d B M k ak fl:Int}{W W' W0 W1:List bS}{O:List (List Int)}{A E:List dL}{D x z p:List Int}{m f i j:Nat}{a:dL}{c:List bS×List (List Int)}
def jT(N:Int)(A:List dL)(D:List Int):List bS×List (List Int):=i8 (N+2) (ci N A D)
def de(N:Int)(A:List dL)(D:List Int):gH:=fy (N+2) N (N+1) (db D N.toNat) (jT N A D).1 (jT N A D).2
def dJ(D:List Int):Int:=SP D.length λv=>gI D (v:Int)
def kj(N:Int)(A:List dL)(D:List Int):Prop:=dJ D=0/\(de N A D).2.2.2.2=db D N.toNat
def ml(N:Int)(A:List dL)(D:List Int):List Int:=(dc A.length).map λi=>bK (de N A D).1 (2*i+1)
def oQ(N:Int)(A:List dL)(D:List Int):List Int:=(de N A D).2.1.take N.toNat
def lu(A:List dL)(x:List Int):Int:=SP A.length λi=>gI x (i:Int)*(gI A (i:Int)).2.2.2
def s4(N:Int)(A:List dL)(D:List Int):List Int:=(dc N.toNat).filter λv=>decide (gI (de N A D).2.2.1 v<da)
structure kM(N:Int)(A:List dL)(D x:List Int):Prop where
  ln:x.length=A.length
  cap:∀i:Nat,i<A.length->0<=gI x (i:Int)/\gI x (i:Int)<=(gI A (i:Int)).2.2.1
  net:∀v,0<=v->v<N->gG A (λi=>gI x (i:Int)) v=gI D v
def rQ(A:List dL)(x p:List Int):Prop:=∀i:Nat,i<A.length->(gI x (i:Int)<(gI A (i:Int)).2.2.1->0<=(gI A (i:Int)).2.2.2+gI p (gI A (i:Int)).1-gI p (gI A (i:Int)).2.1)/\(0<gI x (i:Int)->(gI A (i:Int)).2.2.2+gI p (gI A (i:Int)).1-gI p (gI A (i:Int)).2.1<=0)
theorem fv.rgA(h:fv N A D):∀a∈A,(0<=a.1/\a.1<(N.toNat:Int))/\(0<=a.2.1/\a.2.1<(N.toNat:Int)):=λa ha=>by
 have:=h.n0
 obtain⟨a1,a2,_⟩:=h.ar a ha
 exact⟨by omega,by omega⟩
theorem kM.phi(h:fv N A D)(hx:kM N A D x)(φ:Int->Int):SP N.toNat (λv=>φ (v:Int)*gI D (v:Int))=SP A.length λi=>gI x (i:Int)*(φ (gI A (i:Int)).1-φ (gI A (i:Int)).2.1):=by
 rw[<-lS φ (x:=λi=>gI x (i:Int)) h.rgA]
 refine bo _ λv hv=>?_
 rw[hx.net _ (by omega) (by omega)]
theorem kM.bal(h:fv N A D)(hx:kM N A D x):dJ D=0:=by
 have:=hx.phi h λ_=>1
 rw[bo (h:=λv=>gI D (v:Int)) _ (λv _=>Int.one_mul _),bo (h:=λ_=>0) A.length (λi _=>by rw[Int.sub_self,Int.mul_zero]),eb] at this
 unfold dJ
 have e:D.length=N.toNat:=by have:=h.dl;omega
 rw[e];exact this
theorem kM.cut(h:fv N A D)(hx:kM N A D x)(χ:Int->Int)(h01:∀v,χ v=0\/χ v=1):SP N.toNat (λv=>if χ (v:Int)=1 then gI D (v:Int) else 0)<=SP A.length λi=>jC χ (gI A (i:Int)):=by
 have h1:=hx.phi h χ
 rw[bo (h:=λv=>χ (v:Int)*gI D (v:Int)) _ λv hv=>?_,h1]
 · refine lj _ λi hi=>?_
   have:=hx.cap i hi
   unfold jC
   rcases h01 (gI A (i:Int)).1 with p|p<;>rcases h01 (gI A (i:Int)).2.1 with q|q<;>rw[p,q]<;>simp <;>omega
 · rcases h01 (v:Int) with p|p<;>rw[p]<;>simp
theorem qg(h:fv N A D)(hx:kM N A D x)(hz:kM N A D z)(hp:rQ A x p):lu A x<=lu A z:=by
  have h1:=hx.phi h λv=>gI p v
  have h2:=hz.phi h λv=>gI p v
  rw[h1] at h2
  have h3:SP A.length (λi=>(gI A (i:Int)).2.2.2*gI x (i:Int)+gI x (i:Int)*(gI p (gI A (i:Int)).1-gI p (gI A (i:Int)).2.1))<=SP A.length (λi=>(gI A (i:Int)).2.2.2*gI z (i:Int)+gI z (i:Int)*(gI p (gI A (i:Int)).1-gI p (gI A (i:Int)).2.1)):=by
    refine lj _ λi hi=>?_
    obtain⟨a1,a2⟩:=hp i hi
    have b1:=hx.cap i hi
    have b2:=hz.cap i hi
    generalize gI x (i:Int)=X at*
    generalize gI z (i:Int)=Z at*
    generalize gI A (i:Int)=a at*
    have e:∀Y:Int,a.2.2.2*Y+Y*(gI p a.1-gI p a.2.1)=Y*(a.2.2.2+gI p a.1-gI p a.2.1):=λY=>by rw[Int.mul_comm a.2.2.2,<-Int.mul_add,Int.add_sub_assoc]
    rw[e,e]
    rcases Int.lt_trichotomy X Z with q|q|q
    · exact Int.mul_le_mul_of_nonneg_right (by omega) (a1 (by omega))
    · rw[q];exact Int.le_refl _
    · exact Int.mul_le_mul_of_nonpos_right (by omega) (a2 (by omega))
  rw[iC,iC] at h3
  unfold lu
  rw[bo (h:=λi=>(gI A (i:Int)).2.2.2*gI x (i:Int)) _ (λi _=>Int.mul_comm _ _),bo (g:=λi=>gI z (i:Int)*(gI A (i:Int)).2.2.2) (h:=λi=>(gI A (i:Int)).2.2.2*gI z (i:Int)) _ (λi _=>Int.mul_comm _ _)]
  omega
theorem fv.ld(h:fv N A D):jV (N+2) (ci N A D) (ci N A D).length (jT N A D):=pT (by have:=h.n0;omega) h.rg
theorem fv.fi(h:fv N A D):pZ (N+2) N (N+1) (db D N.toNat) ((N+2)*1048576) (1048576+(N+2)*1048576) (jT N A D).1 (jT N A D).2 (de N A D):=oZ (h.fib h.ld)
theorem lD(hi:i<A.length):gI (ml N A D) (i:Int)=xW (de N A D).1 i:=by
 unfold ml
 rw[oz (by omega) (by simp[dc];omega),lX (by omega) (by omega)]
 rfl
theorem kQ:(ml N A D).length=A.length:=by unfold ml;simp[dc]
theorem n5(hj:j<(f4 N D N.toNat).length):gI (ci N A D) ((A.length+j:Nat):Int)=gI (f4 N D N.toNat) (j:Int):=by
 unfold ci gI
 rw[List.getD_eq_getElem?_getD,List.getD_eq_getElem?_getD,List.getElem?_append_right (by omega)]
 congr 2
 omega
theorem rN(h:fv N A D)(hok:kj N A D)(hi:i<(ci N A D).length)(hl:A.length<=i):xW (de N A D).1 i=(gI (ci N A D) (i:Int)).2.2.1:=by
  obtain⟨o1,o2⟩:=hok
  have hc:=h.ld
  have he:=h.fi
  have hn:=h.n0
  have hs:=jm hc he.i.l (u:=N) hn (by omega)
  have ht:=jm hc he.i.l (u:=N+1) (by omega) (by omega)
  rw[if_pos rfl,if_neg (by omega),o2] at hs
  rw[if_neg (by omega),if_pos rfl,o2] at ht
  have hsum:=(h.fib hc).sum
  rw[hc.sum hn (by omega)] at hsum
  have bd:∀i,i<(ci N A D).length->_:=λi hi=>m9 hc he.i.l hi
  rcases(h.ends hi).2 hl with q|q
  · have e1:SP (ci N A D).length (λi=>if(gI (ci N A D) (i:Int)).1=N then(gI (ci N A D) (i:Int)).2.2.1-xW (de N A D).1 i else 0)=0:=by
      rw[bo (h:=λi=>((if(gI (ci N A D) (i:Int)).1=N then bK (jT N A D).1 (2*(i:Int)) else 0)+(if(gI (ci N A D) (i:Int)).2.1=N then bK (jT N A D).1 (2*(i:Int)+1) else 0))-((if(gI (ci N A D) (i:Int)).1=N then xW (de N A D).1 i else 0)-(if(gI (ci N A D) (i:Int)).2.1=N then xW (de N A D).1 i else 0))) _ λi hi=>?_]
      · rw[gh,hsum]
        unfold gG at hs
        rw[hs];omega
      · obtain⟨r1,r2⟩:=hc.rm hi
        have:=(h.ends hi).1.1
        rw[r1,if_neg this,if_neg this]
        split<;>omega
    have:=l6 _ (λi hi=>by
      have:=bd i hi
      split<;>omega) e1 i hi
    rw[if_pos q] at this
    omega
  · have e2:SP (ci N A D).length (λi=>(λa:dL=>if a.2.1=N+1 then a.2.2.1 else 0) (gI (ci N A D) (i:Int)))=db D N.toNat:=by
      rw[kV (F:=λa:dL=>if a.2.1=N+1 then a.2.2.1 else 0),bo (h:=λ_=>0) A.length λi hi=>?_,eb]
      · have e3:db D N.toNat-SP N.toNat (λv=>if 0<gI D (v:Int) then(if(v:Int)=N+1 then gI D (v:Int) else 0) else if gI D (v:Int)<0 then(if N+1=N+1 then-gI D (v:Int) else 0) else 0)=dJ D:=by
          unfold db dJ
          rw[<-gh,show D.length=N.toNat by have:=h.dl;omega]
          refine bo _ λv hv=>?_
          rw[if_neg (show¬(v:Int)=N+1 by omega),if_pos rfl]
          split
          · omega
          · split<;>omega
        show 0+SP N.toNat (λv=>if 0<gI D (v:Int) then(if(v:Int)=N+1 then gI D (v:Int) else 0) else if gI D (v:Int)<0 then(if N+1=N+1 then-gI D (v:Int) else 0) else 0)=_
        omega
      · have:=(h.ar _ (bk (xs:=A) (i:=(i:Int)) (by omega) (by omega))).2.1
        exact if_neg (by omega)
    have e1:SP (ci N A D).length (λi=>if(gI (ci N A D) (i:Int)).2.1=N+1 then(gI (ci N A D) (i:Int)).2.2.1-xW (de N A D).1 i else 0)=0:=by
      rw[bo (h:=λi=>(if(gI (ci N A D) (i:Int)).2.1=N+1 then(gI (ci N A D) (i:Int)).2.2.1 else 0)+((if(gI (ci N A D) (i:Int)).1=N+1 then xW (de N A D).1 i else 0)-(if(gI (ci N A D) (i:Int)).2.1=N+1 then xW (de N A D).1 i else 0))) _ λi hi=>?_]
      · unfold gG at ht
        rw[iC,e2,ht];omega
      · have:=(h.ends hi).1.2
        rw[if_neg this]
        split<;>omega
    have:=l6 _ (λi hi=>by
      have:=bd i hi
      split<;>omega) e1 i hi
    rw[if_pos q] at this
    omega
theorem lG(h:fv N A D)(hok:kj N A D):kM N A D (ml N A D):=by
 have hc:=h.ld
 have he:=h.fi
 have hn:=h.n0
 refine⟨kQ,λi hi=>?_,λv v0 v1=>?_⟩
 · rw[lD hi]
   have:=m9 hc he.i.l (i:=i) (by unfold ci;rw[List.length_append];omega)
   rw[fD hi] at this
   exact this.2
 · have hv:=jm hc he.i.l (u:=v) v0 (by omega)
   rw[if_neg (by omega),if_neg (by omega)] at hv
   unfold gG at hv ⊢
   have hlen:(ci N A D).length=A.length+(f4 N D N.toNat).length:=by unfold ci;rw[List.length_append]
   rw[hlen,mA] at hv
   have e1:SP A.length (λi=>(if(gI (ci N A D) (i:Int)).1=v then xW (de N A D).1 i else 0)-(if(gI (ci N A D) (i:Int)).2.1=v then xW (de N A D).1 i else 0))=SP A.length (λi=>(if(gI A (i:Int)).1=v then gI (ml N A D) (i:Int) else 0)-(if(gI A (i:Int)).2.1=v then gI (ml N A D) (i:Int) else 0)):=by
     refine bo _ λi hi=>?_
     rw[fD hi,lD hi]
   rw[e1] at hv
   have e2:SP (f4 N D N.toNat).length (λj=>(if(gI (ci N A D) ((A.length+j:Nat):Int)).1=v then xW (de N A D).1 (A.length+j) else 0)-(if(gI (ci N A D) ((A.length+j:Nat):Int)).2.1=v then xW (de N A D).1 (A.length+j) else 0))=SP (f4 N D N.toNat).length (λj=>(λa:dL=>(if a.1=v then a.2.2.1 else 0)-(if a.2.1=v then a.2.2.1 else 0)) (gI (f4 N D N.toNat) (j:Int))):=by
     refine bo _ λj hj=>?_
     rw[rN h hok (by omega) (by omega),n5 hj]
   rw[e2,jK (F:=λa:dL=>(if a.1=v then a.2.2.1 else 0)-(if a.2.1=v then a.2.2.1 else 0)),kP] at hv
   have e3:SP N.toNat (λu=>if 0<gI D (u:Int) then(if N=v then gI D (u:Int) else 0)-(if(u:Int)=v then gI D (u:Int) else 0) else if gI D (u:Int)<0 then(if(u:Int)=v then-gI D (u:Int) else 0)-(if N+1=v then-gI D (u:Int) else 0) else 0)= -gI D v:=by
     rw[bo (h:=λu=>if u=v.toNat then-gI D v else 0) _ λu hu=>?_,jz _ (by omega)]
     rw[if_neg (show¬N=v by omega),if_neg (show¬N+1=v by omega)]
     by_cases q:(u:Int)=v
     · rw[if_pos q,if_pos q,if_pos (show u=v.toNat by omega),q]
       split
       · omega
       · split<;>omega
     · rw[if_neg q,if_neg q,if_neg (show¬u=v.toNat by omega)]
       split
       · omega
       · split<;>omega
   have fin:∀X Y:Int,X+Y=0-0->Y= -gI D v->X=gI D v:=λX Y a b=>by omega
   exact fin _ _ hv e3
theorem qA{xs:List Int}{n k:Nat}(h:k<n):gI (xs.take n) (k:Int)=gI xs (k:Int):=by
 unfold gI
 rw[List.getD_eq_getElem?_getD,List.getD_eq_getElem?_getD,List.getElem?_take,if_pos (by simpa using h)]
theorem mN(h:fv N A D)(v0:0<=v)(v1:v<N):gI (oQ N A D) v=gI (de N A D).2.1 v:=by
 have:=qA (xs:=(de N A D).2.1) (n:=N.toNat) (k:=v.toNat) (by omega)
 rw[show((v.toNat:Nat):Int)=v by omega] at this
 exact this
theorem nX(h:fv N A D):((oQ N A D).length:Int)=N:=by
 have:=h.fi.i.d.pt.pl
 have:=h.n0
 unfold oQ
 rw[List.length_take];omega
theorem rx(h:fv N A D):∀p∈oQ N A D,0<=p/\p<=1099511627776:=λp hp=>by
 obtain⟨i,hi,e⟩:=List.mem_iff_getElem.1 hp
 have hl:=nX h
 have:=h.fi.i.d.pt.pb (i:Int) (by omega) (by omega)
 have h2:=mN h (v:=(i:Int)) (by omega) (by omega)
 have e4:∀(L:List Int) (j:Nat) (hj:j<L.length),gI L (j:Int)=L[j]:=λL j hj=>by simp[gI,hj]
 rw[e4 _ i hi,e] at h2
 have:=h.n1
 rw[h2];omega
theorem pz(h:fv N A D):rQ A (ml N A D) (oQ N A D):=λi hi=>by
 have hc:=h.ld
 have he:=h.fi
 have hlw:=hc.lw
 have hlen:(ci N A D).length=A.length+(f4 N D N.toNat).length:=by unfold ci;rw[List.length_append]
 have hie:i<(ci N A D).length:=by omega
 obtain⟨b1,b2,b3⟩:=m9 hc he.i.l hie
 obtain⟨a1,a2,_⟩:=h.ar _ (bk (xs:=A) (i:=(i:Int)) (by omega) (by omega))
 have hst:=he.i.l.sm
 have t1:bF (de N A D).1 (2*(i:Int))=(gI A (i:Int)).2.1:=by rw[hst.to _ (by omega),<-fD hi];exact congrArg Prod.fst (hc.fw i hie)
 have t2:bF (de N A D).1 (2*(i:Int)+1)=(gI A (i:Int)).1:=by rw[hst.to _ (by omega),<-fD hi];exact congrArg Prod.fst (hc.bw i hie)
 have c1:eZ (de N A D).1 (2*(i:Int))=(gI A (i:Int)).2.2.2:=by rw[hst.cs _ (by omega),<-fD hi];exact congrArg (λz=>z.2.2) (hc.fw i hie)
 have c2:eZ (de N A D).1 (2*(i:Int)+1)= -(gI A (i:Int)).2.2.2:=by rw[hst.cs _ (by omega),<-fD hi];exact congrArg (λz=>z.2.2) (hc.bw i hie)
 have f1:dg (de N A D).1 (2*(i:Int))=(gI A (i:Int)).1:=by unfold dg;rw[ek];exact t2
 have f2:dg (de N A D).1 (2*(i:Int)+1)=(gI A (i:Int)).2.1:=by unfold dg;rw[gg];exact t1
 have w1:dC (de N A D).1 (2*(i:Int)):=hst.inn.2 ⟨by omega,by omega⟩
 have w2:dC (de N A D).1 (2*(i:Int)+1):=hst.inn.2 ⟨by omega,by omega⟩
 have r1:=he.i.d.pt.rd _ w1
 have r2:=he.i.d.pt.rd _ w2
 unfold dr at r1 r2
 rw[t1,f1,c1,b1,fD hi] at r1
 rw[t2,f2,c2] at r2
 rw[lD hi,mN h a1.1 a1.2,mN h a2.1 a2.2]
 refine⟨λq=>r1 (by omega),λq=>?_⟩
 have:=r2 q
 omega
def qR(N:Int)(A:List dL)(D:List Int)(v:Int):Int:=if gI (de N A D).2.2.1 v=da then 0 else 1
theorem qp(h:fv N A D)(hb:dJ D=0)(hno:¬kj N A D):SP A.length (λi=>jC (qR N A D) (gI A (i:Int)))<SP N.toNat λv=>if qR N A D (v:Int)=1 then gI D (v:Int) else 0:=by
 have he:=h.fi
 have h1:=oC h h.ld he rfl (qR N A D) rfl
 have h2:=he.i.le.1
 have h3:¬(de N A D).2.2.2.2=db D N.toNat:=λe=>hno ⟨hb,e⟩
 omega
theorem jw(h:fv N A D):kj N A D↔∃x,kM N A D x:=by
  refine⟨λq=>⟨_,lG h q⟩,λ⟨x,hx⟩=>?_⟩
  refine Classical.byContradiction λhno=>?_
  have h1:=qp h (hx.bal h) hno
  have h2:=hx.cut h (qR N A D) (λv=>by unfold qR;split<;>simp)
  omega
end TL
/-
  TlFlr: what layer 25 answers.
  By an AI agent.
-/
set_option linter.all false
namespace TL
abbrev gn:=Int×List dL×List Int
abbrev jB:=List Int×List Int×Int
variable{T:gn}{k j:Nat}
def gC(N:Int)(a:dL):Prop:=(0<=a.1/\a.1<N)/\(0<=a.2.1/\a.2.1<N)/\(0<=a.2.2.1/\a.2.2.1<=1048576)/\0<=a.2.2.2/\a.2.2.2<=1048576
instance {N:Int}{a:dL}:Decidable (gC N a):=by unfold gC;infer_instance
def cD(T:gn):Prop:=(0<=T.1/\T.1<=4096)/\T.2.1.length<=16384/\(T.2.2.length:Int)=T.1/\(∀a∈T.2.1,gC T.1 a)/\∀x∈T.2.2,-1048576<=x/\x<=1048576
instance:Decidable (cD T):=by unfold cD;infer_instance
def bQ(T:gn):Bool:=decide (cD T)
theorem cD.my(h:cD T):fv T.1 T.2.1 T.2.2:=⟨h.1.1,h.1.2,h.2.1,h.2.2.1,h.2.2.2.1,h.2.2.2.2⟩
theorem dB(h:¬cD T):bQ T=false:=decide_eq_false h
theorem dG(h:cD T):bQ T=true:=decide_eq_true h
theorem cG(h1:(k:Int)<(T.2.1.length:Int))(h:¬gC T.1 (gI T.2.1 (k:Int))):bQ T=false:=dB λq=>h (q.2.2.2.1 _ (bk (by omega) h1))
theorem gm(h1:(k:Int)<(T.2.2.length:Int))(h:¬(-1048576<=gI T.2.2 (k:Int)/\gI T.2.2 (k:Int)<=1048576)):bQ T=false:=dB λq=>h (q.2.2.2.2 _ (bk (by omega) h1))
theorem ke{N:Int}{A:List dL}(h:∀a∈A.take k,gC N a)(h1:(k:Int)<(A.length:Int))(hk:gC N (gI A (k:Int))):∀a∈A.take (k+1),gC N a:=by
 rw[cQ h1]
 intro a ha
 rcases List.mem_append.1 ha with q|q
 · exact h a q
 · rw[List.mem_singleton.1 q];exact hk
def iT(x:Int):Prop:= -1048576<=x/\x<=1048576
theorem kv{D:List Int}(h:∀x∈D.take k,iT x)(h1:(k:Int)<(D.length:Int))(hk:iT (gI D (k:Int))):∀x∈D.take (k+1),iT x:=by
 rw[cQ h1]
 intro a ha
 rcases List.mem_append.1 ha with q|q
 · exact h a q
 · rw[List.mem_singleton.1 q];exact hk
theorem jZ(h0:(0<=T.1/\T.1<=4096)/\T.2.1.length<=16384/\(T.2.2.length:Int)=T.1)(h:∀a∈T.2.1.take k,gC T.1 a)(hk:¬(k:Int)<(T.2.1.length:Int))(h2:∀x∈T.2.2.take j,iT x)(hj:¬(j:Int)<(T.2.2.length:Int)):bQ T=true:=by
 rw[List.take_of_length_le (by omega)] at h h2
 exact dG ⟨h0.1,h0.2.1,h0.2.2,h,h2⟩
instance {N:Int}{A:List dL}{D:List Int}:Decidable (kj N A D):=by unfold kj;infer_instance
def aQ(T:gn):jB×Int:=if cD T then if kj T.1 T.2.1 T.2.2 then((ml T.1 T.2.1 T.2.2,oQ T.1 T.2.1 T.2.2,lu T.2.1 (ml T.1 T.2.1 T.2.2)),0) else(([],[],0),20) else(([],[],0),1)
def cH(T:gn):List Int×Int:=if cD T then if dJ T.2.2=0 then if(de T.1 T.2.1 T.2.2).2.2.2.2=db T.2.2 T.1.toNat then([],14) else(s4 T.1 T.2.1 T.2.2,0) else([],0) else([],1)
theorem mm{D:List Int}{n:Int}(h:n=SP k λv=>gI D (v:Int)):n+gI D (k:Int)=SP (k+1) λv=>gI D (v:Int):=by subst h;rfl
theorem mf{D:List Int}{n:Int}(h:n=SP k λv=>gI D (v:Int))(h1:(k:Int)<=(D.length:Int))(hk:¬(k:Int)<(D.length:Int)):n=dJ D:=by
 have:k=D.length:=by omega
 subst this;exact h
theorem ls{D:List Int}(h:∀x∈D,-1048576<=x/\x<=1048576):∀(k:Nat),(k:Int)<=(D.length:Int)-> -(k:Int)*1048576<=SP k (λv=>gI D (v:Int))/\SP k (λv=>gI D (v:Int))<=(k:Int)*1048576
 |0,_=>⟨Int.le_refl _,Int.le_refl _⟩
 |k+1,hk=>by
   have:=ls h k (by omega)
   have:=h _ (bk (xs:=D) (i:=(k:Int)) (by omega) (by omega))
   show _<=SP k (λv=>gI D (v:Int))+gI D (k:Int)/\SP k (λv=>gI D (v:Int))+gI D (k:Int)<=_
   omega
def cb:gn:=(3,[(0,1,2,1),(1,2,2,1),(0,2,1,5)],[3,0,-3])
def rD:gn:=(3,[(0,1,2,1),(1,2,2,1),(0,2,1,5)],[4,0,-4])
theorem jM:∃p,aQ cb=(([2,2,1],p,9),0):=⟨(aQ cb).1.2.1,by decide+kernel⟩
theorem lh:cH rD=([0],0)\/cH rD=([0,1],0):=by decide+kernel
end TL
/-
  TlFlw: a task's pipes laid and filled, step by step.
  By an AI agent.
-/
set_option linter.all false
namespace TL
variable{T:gn}{k j m:Nat}{W W2:List bS}{O O2:List (List Int)}{n2 u v ak:Int}{E:List dL}
structure iK(T:gn)(m:Nat)(W:List bS)(O:List (List Int)):Prop where
  e:(W,O)=i8 (T.1+2) ((ci T.1 T.2.1 T.2.2).take m)
  le:m<=(ci T.1 T.2.1 T.2.2).length
theorem iK.ld(h:iK T m W O)(hm:cD T):jV (T.1+2) (ci T.1 T.2.1 T.2.2) m (W,O):=by
 rw[h.e]
 exact jE (by have:=hm.1.1;omega) hm.my.rg m h.le
theorem l8:∀(m:Nat),(l9 E m u).length<=2*m
 |0=>Nat.le_refl _
 |m+1=>by
   unfold l9
   have:=l8 m
   rw[List.length_append,List.length_append]
   have h1:∀(c:Prop) [Decidable c] (z:Int),(if c then[z] else[]).length<=1:=λc _ z=>by split<;>simp
   have:=h1 ((gI E (m:Int)).1=u) (2*(m:Int))
   have:=h1 ((gI E (m:Int)).2.1=u) (2*(m:Int)+1)
   omega
theorem iK.lw(h:iK T m W O)(hm:cD T):W.length=2*m/\(O.length:Int)=T.1+2/\m<=20480:=by
 have h1:=h.ld hm
 have:=hm.my.el
 have:=h.le
 exact⟨h1.lw,h1.ol,by omega⟩
theorem iK.rl(h:iK T m W O)(hm:cD T)(u0:0<=u)(u1:u<T.1+2):(gI O u).length<=2*m:=by
 have:=(h.ld hm).row u u0 u1
 rw[show gI O u=l9 (ci T.1 T.2.1 T.2.2) m u from this]
 exact l8 m
theorem iK.start(hm:cD T):iK T 0 [] (List.replicate (T.1+2).toNat []):=⟨rfl,Nat.zero_le _⟩
theorem iK.next(h:iK T m W O){a:dL}(hl:m<(ci T.1 T.2.1 T.2.2).length)(ha:gI (ci T.1 T.2.1 T.2.2) (m:Int)=a)(e2:(W2,O2)=iY (W,O) a):iK T (m+1) W2 O2:=by
 refine⟨?_,hl⟩
 rw[cQ (by omega),il,<-h.e,ha,e2]
theorem gQ(T:gn):(ci T.1 T.2.1 T.2.2).length=T.2.1.length+(f4 T.1 T.2.2 T.1.toNat).length:=by unfold ci;rw[List.length_append]
theorem iK.arc(h:iK T k W O)(hk:(k:Int)<(T.2.1.length:Int))(e2:(W2,O2)=iY (W,O) (gI T.2.1 (k:Int))):iK T (k+1) W2 O2:=by
 have:=gQ T
 exact h.next (by omega) (fD (by omega)) e2
theorem lO(N:Int)(D:List Int)(j:Nat):∀(n:Nat),∃l,f4 N D (j+n)=f4 N D j++l
 |0=>⟨[],(List.append_nil _).symm⟩
 |n+1=>by
   obtain⟨l,hl⟩:=lO N D j n
   exact⟨l++li N ((j+n:Nat):Int) (gI D ((j+n:Nat):Int)),by
     show f4 N D (j+n)++li N ((j+n:Nat):Int) (gI D ((j+n:Nat):Int))=_
     rw[hl,List.append_assoc]⟩
def fx(T:gn)(j:Nat)(W:List bS)(O:List (List Int))(ak:Int):Prop:=iK T (T.2.1.length+(f4 T.1 T.2.2 j).length) W O/\ak=db T.2.2 j
theorem fx.start(h:iK T k W O)(h0:(k:Int)<=(T.2.1.length:Int))(hk:¬(k:Int)<(T.2.1.length:Int)):fx T 0 W O 0:=by
 have e:k=T.2.1.length:=by omega
 subst e
 exact⟨h,rfl⟩
theorem fx.at_(hm:cD T)(hj:(j:Int)<(T.2.2.length:Int)){a:dL}(ha:li T.1 (j:Int) (gI T.2.2 (j:Int))=[a]):(f4 T.1 T.2.2 (j+1)).length=(f4 T.1 T.2.2 j).length+1/\T.2.1.length+(f4 T.1 T.2.2 j).length<(ci T.1 T.2.1 T.2.2).length/\gI (ci T.1 T.2.1 T.2.2) ((T.2.1.length+(f4 T.1 T.2.2 j).length:Nat):Int)=a:=by
 have h1:f4 T.1 T.2.2 (j+1)=f4 T.1 T.2.2 j++[a]:=by show _++_=_;rw[ha]
 obtain⟨l,hl⟩:=lO T.1 T.2.2 (j+1) (T.1.toNat-(j+1))
 have hdl:=hm.2.2.1
 rw[show j+1+(T.1.toNat-(j+1))=T.1.toNat by omega,h1] at hl
 have h2:=gQ T
 have h3:(f4 T.1 T.2.2 j).length<(f4 T.1 T.2.2 T.1.toNat).length:=by rw[hl];simp
 refine⟨by rw[h1];simp,by omega,?_⟩
 rw[n5 h3,hl]
 simp[gI]
theorem fx.plus(hm:cD T)(h:fx T j W O ak)(hj:(j:Int)<(T.2.2.length:Int))(hp:0<gI T.2.2 (j:Int))(e2:(W2,O2)=iY (W,O) (T.1,(j:Int),gI T.2.2 (j:Int),0)):fx T (j+1) W2 O2 (ak+gI T.2.2 (j:Int)):=by
 have ha:li T.1 (j:Int) (gI T.2.2 (j:Int))=[(T.1,(j:Int),gI T.2.2 (j:Int),0)]:=by unfold li;rw[if_pos hp]
 obtain⟨a1,a2,a3⟩:=fx.at_ hm hj ha
 refine⟨by rw[a1];exact h.1.next a2 a3 e2,?_⟩
 rw[h.2]
 show _=db T.2.2 j+(if 0<gI T.2.2 (j:Int) then gI T.2.2 (j:Int) else 0)
 rw[if_pos hp]
theorem fx.minus(hm:cD T)(h:fx T j W O ak)(hj:(j:Int)<(T.2.2.length:Int))(hp:¬0<gI T.2.2 (j:Int))(hn:gI T.2.2 (j:Int)<0)(e2:(W2,O2)=iY (W,O) ((j:Int),T.1+1,-gI T.2.2 (j:Int),0)):fx T (j+1) W2 O2 ak:=by
 have ha:li T.1 (j:Int) (gI T.2.2 (j:Int))=[((j:Int),T.1+1,-gI T.2.2 (j:Int),0)]:=by unfold li;rw[if_neg hp,if_pos hn]
 obtain⟨a1,a2,a3⟩:=fx.at_ hm hj ha
 refine⟨by rw[a1];exact h.1.next a2 a3 e2,?_⟩
 rw[h.2]
 show _=db T.2.2 j+(if 0<gI T.2.2 (j:Int) then gI T.2.2 (j:Int) else 0)
 rw[if_neg hp,Int.add_zero]
theorem fx.none(hm:cD T)(h:fx T j W O ak)(hj:(j:Int)<(T.2.2.length:Int))(hp:¬0<gI T.2.2 (j:Int))(hn:¬gI T.2.2 (j:Int)<0):fx T (j+1) W O ak:=by
 have ha:f4 T.1 T.2.2 (j+1)=f4 T.1 T.2.2 j:=by
   show _++li T.1 (j:Int) (gI T.2.2 (j:Int))=_
   unfold li;rw[if_neg hp,if_neg hn,List.append_nil]
 refine⟨by rw[ha];exact h.1,?_⟩
 rw[h.2]
 show _=db T.2.2 j+(if 0<gI T.2.2 (j:Int) then gI T.2.2 (j:Int) else 0)
 rw[if_neg hp,Int.add_zero]
theorem fx.bd(hm:cD T)(h:fx T j W O ak)(hj:(j:Int)<=(T.2.2.length:Int)):0<=ak/\ak<=(j:Int)*1048576:=by
 rw[h.2]
 exact js hm.my j (by have:=hm.2.2.1;omega)
theorem fx.done(hm:cD T)(h:fx T j W O ak)(h0:(j:Int)<=(T.2.2.length:Int))(hj:¬(j:Int)<(T.2.2.length:Int)):(W,O)=jT T.1 T.2.1 T.2.2/\ak=db T.2.2 T.1.toNat:=by
  have e:j=T.1.toNat:=by have:=hm.2.2.1;omega
  subst e
  refine⟨?_,h.2⟩
  have:=h.1.e
  rw[<-gQ T,List.take_length] at this
  exact this
open Go Go.Proofs in
theorem je{γ:aC}{J:ch->Prop}{w:World}{b:Nat}{cs:List Value}(h:Bx γ J w b cs):Bx c0 (is 0) w b cs:=⟨rfl,h.2⟩
end TL
/-
  TlFlx: filling, as the walk goes through it.
  By an AI agent.
-/
set_option linter.all false
namespace TL
variable{n2 s t v u w x y d B M n most ak fl f0 f1:Int}{W W' W0:List bS}{O:List (List Int)}{P P' lv nx nx' far xs:List Int}{m f i k fu:Nat}{R:gH}
theorem fA{a b:List Int}(hl:a.length=b.length)(h:∀i:Nat,i<a.length->gI a (i:Int)=gI b (i:Int)):a=b:=by
 refine List.ext_getElem hl λi h1 h2=>?_
 have:=h i h1
 simpa[gI,h1,h2] using this
structure lp(n2:Int)(k:Nat)(xs:List Int):Prop where
  ln:(xs.length:Int)=n2
  at_:∀i:Nat,i<k->gI xs (i:Int)=da
theorem lp.start(h:(xs.length:Int)=n2):lp n2 0 xs:=⟨h,λi hi=>by omega⟩
theorem lp.next(h:lp n2 k xs)(hk:(k:Int)<(xs.length:Int)):lp n2 (k+1) (xs.set (k:Int).toNat da):=by
 refine⟨by rw[List.length_set];exact h.ln,λi hi=>?_⟩
 rw[ct (by omega) hk (by omega)]
 by_cases c:(i:Int)=(k:Int)
 · rw[if_pos c]
 · rw[if_neg c];exact h.at_ i (by omega)
theorem lp.done(h:lp n2 k xs)(hk:¬(k:Int)<(xs.length:Int))(hle:(k:Int)<=(xs.length:Int)):xs=List.replicate n2.toNat da:=by
 have:=h.ln
 refine fA (by simp;omega) λi hi=>?_
 rw[h.at_ i (by omega),dz (by omega) (by omega)]
def cR(n2 s:Int)(W:List bS)(O:List (List Int))(P:List Int):List Int×List cB:=jh W O P (dO (dQ n2 s,[(0,s)])) (dQ n2 s,[(0,s)])
theorem pH(hb:fj n2 s B M W O P)(h:lp n2 k xs)(hk:¬(k:Int)<(xs.length:Int))(hle:(k:Int)<=(xs.length:Int)):im n2 s M W O P (cR n2 s W O P) (xs.set s.toNat 0) [(0,s)]:=by
 rw[h.done hk hle]
 exact im.start hb
theorem im.end_{q:List cB}(h:im n2 s M W O P (cR n2 s W O P) far q)(h0:¬0<(q.length:Int)):far=c7 n2 s W O P:=(h.fin (by omega)).1
structure kT(P far:List Int)(ft:Int)(k:Nat)(xs:List Int):Prop where
  ln:xs.length=P.length
  at_:∀i:Nat,i<P.length->gI xs (i:Int)=if i<k then gI P (i:Int)+min (gI far (i:Int)) ft else gI P (i:Int)
theorem kT.start{ft:Int}:kT P far ft 0 P:=⟨rfl,λi _=>by rw[if_neg (by omega)]⟩
theorem kT.now{ft:Int}(h:kT P far ft k xs)(hk:(k:Int)<(xs.length:Int)):gI xs (k:Int)=gI P (k:Int):=by
 have:=h.ln
 rw[h.at_ k (by omega),if_neg (by omega)]
theorem kT.next{ft z:Int}(h:kT P far ft k xs)(hk:(k:Int)<(xs.length:Int))(hz:z=gI xs (k:Int)+min (gI far (k:Int)) ft):kT P far ft (k+1) (xs.set (k:Int).toNat z):=by
 have hl:=h.ln
 refine⟨by rw[List.length_set];exact hl,λi hi=>?_⟩
 rw[ct (by omega) hk (by omega)]
 by_cases c:(i:Int)=(k:Int)
 · have:i=k:=by omega
   subst this
   rw[if_pos rfl,if_pos (by omega),hz,h.now hk]
 · rw[if_neg c,h.at_ i hi]
   by_cases c2:i<k
   · rw[if_pos c2,if_pos (by omega)]
   · rw[if_neg c2,if_neg (by omega)]
theorem kT.done{ft:Int}(h:kT P far ft k xs)(hk:¬(k:Int)<(xs.length:Int)):xs=cV P far ft:=by
 have hl:=h.ln
 refine fA (by rw[hl,iG]) λi hi=>?_
 rw[h.at_ i (by omega),if_pos (by omega),gN (by omega) (by omega)]
def iO(n2 s t ak B M:Int)(W0:List bS)(O:List (List Int))(R:gH)(W:List bS)(P far nx:List Int)(fl:Int):Prop:=∃f,mq n2 s t ak B M W0 O R f W P far nx fl
def iZ(n2 s t ak B M:Int)(W0:List bS)(O:List (List Int))(R:gH)(f0:Int)(W:List bS)(P far nx:List Int)(fl:Int):Prop:=(∃f,oq n2 s t ak B M W0 O R f W P far nx fl)/\(f0<fl\/f0=fl/\ZpW W P s t)
def k9(n2 s t ak B M:Int)(W0:List bS)(O:List (List Int))(R:gH)(f1:Int)(W:List bS)(P lv nx:List Int)(fl:Int):Prop:=(∃f,mr n2 s t ak B M W0 O R f W P lv nx fl)/\(f1<fl\/f1=fl/\pF n2 s W P lv/\0<=gI lv t/\nx=fg n2)
theorem iO.stop(h:iO n2 s t ak B M W0 O R W P far nx fl)(hs:gI (c7 n2 s W O P) t=da):R=(W,P,c7 n2 s W O P,nx,fl):=by
 obtain⟨f,hf⟩:=h
 exact hf.stop hs
theorem iO.go(h:iO n2 s t ak B M W0 O R W P far nx fl)(hs:¬gI (c7 n2 s W O P) t=da):iZ n2 s t ak B M W0 O R fl W (cV P (c7 n2 s W O P) (gI (c7 n2 s W O P) t)) (c7 n2 s W O P) nx fl:=by
 obtain⟨f,hf⟩:=h
 obtain⟨r1,r2,r3⟩:=kh hf.i.d hf.i.b.hB (eL hf.i.d) hf.i.p ⟨hf.i.b.t0,hf.i.b.t1⟩ hs
 exact⟨⟨_,hf.go hs⟩,.inr ⟨rfl,r3⟩⟩
theorem iO.ii(h:iO n2 s t ak B M W0 O R W P far nx fl):iM n2 s t ak B M W0 O W P fl:=by
 obtain⟨f,hf⟩:=h
 exact hf.i
theorem iZ.ii(h:iZ n2 s t ak B M W0 O R f0 W P far nx fl):iM n2 s t ak B M W0 O W P fl:=by
 obtain⟨⟨f,hf⟩,_⟩:=h
 exact hf.i
theorem k9.ii(h:k9 n2 s t ak B M W0 O R f1 W P lv nx fl):iM n2 s t ak B M W0 O W P fl:=by
 obtain⟨⟨f,hf⟩,_⟩:=h
 exact hf.i
theorem iZ.yes(h:iZ n2 s t ak B M W0 O R f0 W P far nx fl)(hl:0<=gI (bv n2 s W O P).1 t):k9 n2 s t ak B M W0 O R fl W P (bv n2 s W O P).1 (fg n2) fl:=by
 obtain⟨⟨f,hf⟩,_⟩:=h
 exact⟨⟨_,hf.yes hl⟩,.inr ⟨rfl,fz hf.i.d,hl,rfl⟩⟩
theorem iZ.no(h:iZ n2 s t ak B M W0 O R f0 W P far nx fl)(hl:¬0<=gI (bv n2 s W O P).1 t):iO n2 s t ak B M W0 O R W P (bv n2 s W O P).1 (fg n2) fl/\f0<fl:=by
 obtain⟨⟨f,hf⟩,h2⟩:=h
 refine⟨⟨_,hf.no hl⟩,?_⟩
 rcases h2 with q|⟨_,q⟩
 · exact q
 · exact absurd (py (fz hf.i.d) q) hl
theorem k9.yes(h:k9 n2 s t ak B M W0 O R f1 W P lv nx fl){r:Int×List bS×List Int}(hr:r=pu n2 O P lv t s ak W nx)(hp:0<r.1):k9 n2 s t ak B M W0 O R f1 r.2.1 P lv r.2.2 (fl+r.1):=by
 obtain⟨⟨f,hf⟩,h2⟩:=h
 exact⟨⟨_,(hf.yes hr hp).1⟩,.inl (by rcases h2 with q|⟨q,_⟩<;>omega)⟩
theorem k9.no(h:k9 n2 s t ak B M W0 O R f1 W P lv nx fl){r:Int×List bS×List Int}(hr:r=pu n2 O P lv t s ak W nx)(hp:¬0<r.1)(h0:f0<=f1):iZ n2 s t ak B M W0 O R f0 r.2.1 P lv r.2.2 fl/\f1<fl:=by
 obtain⟨⟨f,hf⟩,h2⟩:=h
 have h3:f1<fl:=by
   rcases h2 with q|⟨q,q1,q2,q3⟩
   · exact q
   · subst q3
     have:=mM (P:=P) (most:=ak) hf.u q1 hf.i.b.s0 hf.i.b.s1 hf.i.b.st hf.i.b.t0 hf.i.b.t1 q2 hf.ap
     rw[<-hr] at this
     exact absurd this hp
 exact⟨⟨⟨_,hf.no hr hp⟩,.inl (by omega)⟩,h3⟩
structure pi(n2 t:Int)(O:List (List Int))(P lv:List Int)(fu:Nat)(v most:Int)(W:List bS)(nx:List Int):Prop where
  i:ob n2 W O lv nx
  mu:ep n2 O nx lv v<=fu
  v0:0<=v
  v1:v<n2
  m0:0<=most
  m1:most<=1099511627776
  t0:0<=t
  t1:t<n2
  pl:(P.length:Int)=n2
  ll:(lv.length:Int)=n2
  pb:∀v,0<=v->v<n2->0<=gI P v/\gI P v<=1099511627776
  n2b:n2<=5000
theorem k9.pun(h:k9 n2 s t ak B M W0 O R f1 W P lv nx fl):pi n2 t O P lv (ep n2 O nx lv s) s ak W nx:=by
 obtain⟨⟨f,hf⟩,_⟩:=h
 have hn:=hf.i.b.n2b
 have hB:=hf.i.b.hB
 refine⟨hf.u,Nat.le_refl _,hf.i.b.s0,hf.i.b.s1,by have:=hf.ap;omega,hf.i.b.ab,hf.i.b.t0,hf.i.b.t1,hf.i.d.pt.pl,hf.ll,λv a b=>?_,hn⟩
 have:=hf.i.d.pt.pb v a b
 omega
def gM(n2 t v most:Int)(O:List (List Int))(P lv:List Int)(fu:Nat)(R:Int×List bS×List Int)(W:List bS)(nx:List Int):Prop:=∃f,f<=fu/\jA n2 t v most O P lv R f W nx
theorem gM.start(h:pi n2 t O P lv fu v most W nx)(hv:¬v=t):gM n2 t v most O P lv fu (cz O P lv t fu v most W nx) W nx:=⟨fu,Nat.le_refl _,⟨h.i,h.mu,h.v0,h.v1,h.m0,hv,rfl⟩⟩
theorem mC(h:pi n2 t O P lv fu v most W nx)(hv:v=t):cz O P lv t fu v most W nx=(most,W,nx):=by
 have h1:=h.mu
 have h2:=(h.i.lv v h.v0 h.v1).2
 obtain⟨g,rfl⟩:∃g,fu=g+1:=⟨fu-1,by unfold ep at h1;omega⟩
 unfold cz
 rw[if_pos hv]
end TL
/-
  TlFly: levels and pushes, as the walk goes through them.
  By an AI agent.
-/
set_option linter.all false
namespace TL
variable{n2 s t v u w x y d B M n most ak fl f0 f1 rr pn:Int}{W W' W0 xW:List bS}{O:List (List Int)}{P P' lv nx nx' far xs ys xn Nn:List Int}{m f i k fu:Nat}{R:gH}{Q:Int×List bS×List Int}
structure lA(n2:Int)(k:Nat)(xs ys:List Int):Prop where
  l1:(xs.length:Int)=n2
  l2:(ys.length:Int)=n2
  at_:∀i:Nat,i<k->gI xs (i:Int)= -1/\gI ys (i:Int)=0
theorem lA.start(h:(xs.length:Int)=n2)(h2:(ys.length:Int)=n2):lA n2 0 xs ys:=⟨h,h2,λi hi=>by omega⟩
theorem lA.next(h:lA n2 k xs ys)(hk:(k:Int)<(xs.length:Int)):lA n2 (k+1) (xs.set (k:Int).toNat (-1)) (ys.set (k:Int).toNat 0):=by
 have h1:=h.l1
 have h2:=h.l2
 refine⟨by rw[List.length_set];exact h.l1,by rw[List.length_set];exact h.l2,λi hi=>?_⟩
 rw[ct (by omega) hk (by omega),ct (by omega) (by omega) (by omega)]
 by_cases c:(i:Int)=(k:Int)
 · rw[if_pos c,if_pos c];exact⟨rfl,rfl⟩
 · rw[if_neg c,if_neg c];exact h.at_ i (by omega)
theorem lA.done(h:lA n2 k xs ys)(hk:¬(k:Int)<(xs.length:Int)):xs=List.replicate n2.toNat (-1)/\ys=fg n2:=by
 have h1:=h.l1
 have h2:=h.l2
 refine⟨fA (by simp;omega) λi hi=>?_,fA (by unfold fg;simp;omega) λi hi=>?_⟩
 · rw[(h.at_ i (by omega)).1,dz (by omega) (by omega)]
 · unfold fg
   rw[(h.at_ i (by omega)).2,dz (by omega) (by omega)]
theorem pG(s0:0<=s)(s1:s<n2)(h:lA n2 k xs ys)(hk:¬(k:Int)<(xs.length:Int)):jP n2 s W O P (bv n2 s W O P) (xs.set s.toNat 0) [s] 0:=by
 rw[(h.done hk).1]
 exact kt s0 s1
theorem jP.qb{R:List Int×List Int}{qu:List Int}(h:jP n2 s W O P R lv qu i)(n0:0<=n2):(qu.length:Int)<=n2/\(i:Int)<=qu.length:=⟨h.l.ql n0,h.le⟩
theorem jP.vb{R:List Int×List Int}{qu:List Int}(h:jP n2 s W O P R lv qu i)(hi:(i:Int)<(qu.length:Int)):0<=gI qu (i:Int)/\gI qu (i:Int)<n2:=h.l.qr _ (bk (by omega) hi)
theorem iL.qb{R:List Int×List Int}{qu:List Int}(h:iL n2 s W O P R lv qu i k v)(n0:0<=n2):(qu.length:Int)<=n2/\(i:Int)<qu.length/\(0<=v/\v<n2)/\((lv.length:Int)=n2)/\ -1<=gI lv v/\gI lv v<n2:=by
 have hv:=h.l.qr _ (bk (xs:=qu) (i:=(i:Int)) (by omega) h.le)
 rw[h.hv] at hv
 exact⟨h.l.ql n0,h.le,hv,h.l.ll,h.l.top n0 hv.1 hv.2⟩
theorem lk(hs:iP n2 W O)(v0:0<=v)(v1:v<n2)(hw:w∈gI O v):(0<=w/\w<(W.length:Int))/\(0<=(gI W w).1/\(gI W w).1<n2)/\ -1048576<=(gI W w).2.2/\(gI W w).2.2<=1048576:=by
  obtain⟨h1,h2⟩:=hs.row v v0 v1 w hw
  exact⟨h1,hs.to w h1,(hs.cs w h1).2⟩
theorem fj.pot(h:fj n2 s B M W O P)(hB:B<=5242880000)(v0:0<=v)(v1:v<n2):0<=gI P v/\gI P v<=5242880000:=by
 have:=h.pt.pb v v0 v1
 omega
theorem iO.go'(h:iO n2 s t ak B M W0 O R W P far nx fl)(hr:xs=c7 n2 s W O P)(hp:P'=cV P xs (gI xs t))(hs:¬gI xs t=da):iZ n2 s t ak B M W0 O R fl W P' xs nx fl:=by
 subst hr hp
 exact h.go hs
theorem iO.stop'(h:iO n2 s t ak B M W0 O R W P far nx fl)(hr:xs=c7 n2 s W O P)(hs:gI xs t=da):R=(W,P,xs,nx,fl):=by
 subst hr
 exact h.stop hs
theorem iZ.yes'(h:iZ n2 s t ak B M W0 O R f0 W P far nx fl)(hl:lv=(bv n2 s W O P).1)(hn:Nn=fg n2)(ht:0<=gI lv t):k9 n2 s t ak B M W0 O R fl W P lv Nn fl:=by
 subst hl hn
 exact h.yes ht
theorem iZ.no'(h:iZ n2 s t ak B M W0 O R f0 W P far nx fl)(hl:lv=(bv n2 s W O P).1)(hn:Nn=fg n2)(ht:¬0<=gI lv t):iO n2 s t ak B M W0 O R W P lv Nn fl/\f0<fl:=by
 subst hl hn
 exact h.no ht
def mD(n2 s t ak B M:Int)(W0:List bS)(O:List (List Int))(R:gH)(f1:Int)(W':List bS)(P lv nx':List Int)(fl pn:Int):Prop:=∃W nx,k9 n2 s t ak B M W0 O R f1 W P lv nx fl/\pn=(pu n2 O P lv t s ak W nx).1/\W'=(pu n2 O P lv t s ak W nx).2.1/\nx'=(pu n2 O P lv t s ak W nx).2.2
theorem k9.push(h:k9 n2 s t ak B M W0 O R f1 W P lv nx fl)(hr:pn=(cz O P lv t (ep n2 O nx lv s) s ak W nx).1/\W'=(cz O P lv t (ep n2 O nx lv s) s ak W nx).2.1/\nx'=(cz O P lv t (ep n2 O nx lv s) s ak W nx).2.2):mD n2 s t ak B M W0 O R f1 W' P lv nx' fl pn:=⟨W,nx,h,hr⟩
theorem mD.yes(h:mD n2 s t ak B M W0 O R f1 W' P lv nx' fl pn)(hp:0<pn):k9 n2 s t ak B M W0 O R f1 W' P lv nx' (fl+pn):=by
 obtain⟨W,nx,h1,rfl,rfl,rfl⟩:=h
 exact h1.yes rfl hp
theorem mD.no(h:mD n2 s t ak B M W0 O R f1 W' P lv nx' fl pn)(hp:¬0<pn)(h0:f0<=f1):iZ n2 s t ak B M W0 O R f0 W' P lv nx' fl/\f1<fl:=by
 obtain⟨W,nx,h1,rfl,rfl,rfl⟩:=h
 exact h1.no rfl hp h0
theorem iZ.le0(h:iZ n2 s t ak B M W0 O R f0 W P far nx fl):f0<=fl:=by
 rcases h.2 with q|⟨q,_⟩<;>omega
theorem k9.lens(h:k9 n2 s t ak B M W0 O R f1 W P lv nx fl):(lv.length:Int)=n2/\(nx.length:Int)=n2:=by
 obtain⟨⟨f,hf⟩,_⟩:=h
 exact⟨hf.ll,hf.u.nx.nl⟩
theorem mD.ii(h:mD n2 s t ak B M W0 O R f1 W' P lv nx' fl pn):iM n2 s t ak B M W0 O W' P (fl+pn)/\0<=pn/\(lv.length:Int)=n2/\(nx'.length:Int)=n2:=by
 obtain⟨W,nx,⟨⟨f,hf⟩,_⟩,rfl,rfl,rfl⟩:=h
 exact⟨hf.i.push hf.ok,hf.ok.k0,hf.ll,hf.ok.nxi.nl⟩
theorem iM.fb(h:iM n2 s t ak B M W0 O W P fl):0<=fl/\fl<=ak/\ak<=1099511627776:=⟨h.l.f0,h.le.1,h.b.ab⟩
theorem pi.pos(h:pi n2 t O P lv fu v most W nx):(O.length:Int)=n2/\(nx.length:Int)=n2/\W.length<=50000:=⟨h.i.sh.ol,h.i.nx.nl,h.i.sh.len⟩
theorem gM.lens(h:gM n2 t v most O P lv fu Q W nx):(nx.length:Int)=n2/\(O.length:Int)=n2/\W.length<=50000/\0<=gI nx v/\gI nx v<=((gI O v).length:Int)/\((gI O v).length:Int)<=(W.length:Int):=by
 obtain⟨f,_,h⟩:=h
 have:=h.i.nx.rg v h.v0 h.v1
 exact⟨h.i.nx.nl,h.i.sh.ol,h.i.sh.len,this.1,this.2,h.i.sh.rl h.v0 h.v1⟩
theorem gM.done(h:gM n2 t v most O P lv fu Q W nx)(hk:¬gI nx v<((gI O v).length:Int)):Q=(0,W,nx):=by
 obtain⟨f,_,h⟩:=h
 exact h.done hk
theorem gM.skip(h:gM n2 t v most O P lv fu Q W nx)(hk:gI nx v<((gI O v).length:Int))(hc:(gI W (gI (gI O v) (gI nx v))).2.1=0\/¬gI lv (gI W (gI (gI O v) (gI nx v))).1=gI lv v+1\/¬dr W P v (gI (gI O v) (gI nx v))=0):gM n2 t v most O P lv fu Q W (nx.set v.toNat (gI nx v+1)):=by
 obtain⟨f,hf,h⟩:=h
 obtain⟨h1,h2⟩:=h.skip hk hc
 exact⟨f-1,by omega,h1⟩
theorem gM.way(h:gM n2 t v most O P lv fu Q W nx)(hk:gI nx v<((gI O v).length:Int)):(0<=gI (gI O v) (gI nx v)/\gI (gI O v) (gI nx v)<(W.length:Int))/\(0<=c6 (gI (gI O v) (gI nx v))/\c6 (gI (gI O v) (gI nx v))<(W.length:Int))/\(0<=(gI W (gI (gI O v) (gI nx v))).1/\(gI W (gI (gI O v) (gI nx v))).1<n2)/\(-1048576<=(gI W (gI (gI O v) (gI nx v))).2.2/\(gI W (gI (gI O v) (gI nx v))).2.2<=1048576)/\(-1<=gI lv v/\gI lv v<n2)/\0<=(gI W (gI (gI O v) (gI nx v))).2.1/\(gI W (gI (gI O v) (gI nx v))).2.1<=1048576:=by
 obtain⟨f,_,h⟩:=h
 obtain⟨hw,_⟩:=h.way hk
 have ht:=h.i.sh.tw hw
 have r1:=h.i.rm _ hw
 have r2:=h.i.rm _ ht
 have r3:=h.i.rb _ hw
 exact⟨hw,ht,h.i.sh.to _ hw,(h.i.sh.cs _ hw).2,h.i.lv v h.v0 h.v1,r1,by show bK W _<=_;omega⟩
theorem jA.need(h0:pi n2 t O P lv fu v most W0 Nn)(h:jA n2 t v most O P lv Q f W nx)(hk:gI nx v<((gI O v).length:Int))(c2:gI lv (gI W (gI (gI O v) (gI nx v))).1=gI lv v+1):pi n2 t O P lv (f-1) (gI W (gI (gI O v) (gI nx v))).1 (min most (gI W (gI (gI O v) (gI nx v))).2.1) W nx:=by
 obtain⟨q1,q2,q3,q4⟩:=h.call hk c2
 have:=h0.m1
 exact⟨h.i,q1,q3.1,q3.2,q4,by show min most (bK W _)<=_;omega,h0.t0,h0.t1,h0.pl,h0.ll,h0.pb,h0.n2b⟩
structure rP(n2 t v most:Int)(O:List (List Int))(P lv:List Int)(fu:Nat)(Q:Int×List bS×List Int)(nx:List Int)(w rr:Int)(xW:List bS)(xn:List Int):Prop where
  en:gI xn v=gI nx v
  nl:(xn.length:Int)=n2
  nv:0<=gI xn v/\gI xn v<((gI O v).length:Int)
  wi:0<=w/\w<(xW.length:Int)
  ti:0<=c6 w/\c6 w<(xW.length:Int)
  k0:0<=rr
  k1:rr<=(gI xW w).2.1
  rm:(gI xW w).2.1<=1048576
  rt:0<=(gI xW (c6 w)).2.1/\(gI xW (c6 w)).2.1<=1048576
  nt:c6 w≠w
  yes:0<rr->Q=(rr,du xW w rr,xn)
  no:¬0<rr->gM n2 t v most O P lv fu Q xW (xn.set v.toNat (gI xn v+1))
theorem jA.after(h:jA n2 t v most O P lv Q f W nx)(hf:f<=fu)(hk:gI nx v<((gI O v).length:Int))(c1:¬(gI W (gI (gI O v) (gI nx v))).2.1=0)(c2:gI lv (gI W (gI (gI O v) (gI nx v))).1=gI lv v+1)(c3:dr W P v (gI (gI O v) (gI nx v))=0)
   (hr:rr=(cz O P lv t (f-1) (gI W (gI (gI O v) (gI nx v))).1 (min most (gI W (gI (gI O v) (gI nx v))).2.1) W nx).1/\xW=(cz O P lv t (f-1) (gI W (gI (gI O v) (gI nx v))).1 (min most (gI W (gI (gI O v) (gI nx v))).2.1) W nx).2.1/\xn=(cz O P lv t (f-1) (gI W (gI (gI O v) (gI nx v))).1 (min most (gI W (gI (gI O v) (gI nx v))).2.1) W nx).2.2):rP n2 t v most O P lv fu Q nx (gI (gI O v) (gI nx v)) rr xW xn:=by
 obtain⟨hw,hfr⟩:=h.way hk
 obtain⟨e1,e2,e3,e4,e5⟩:=h.rec_ hk c1 c2 c3 rfl
 have hlt:=(h.call hk c2).2.1
 have hv0:=(h.i.nx.rg v h.v0 h.v1).1
 obtain⟨rfl,rfl,rfl⟩:=hr
 have hi:=e1.pui h.i
 have hw':=e1.sm.inn.2 hw
 have ht':=hi.sh.tw hw'
 have r1:=hi.rm _ hw'
 have r2:=hi.rm _ ht'
 have r3:=hi.rb _ hw'
 have k1:=e1.k1
 have k1':=Int.le_trans (Int.le_trans k1 (Int.min_le_right _ _)) (Int.le_of_eq e2.symm)
 exact⟨e3,e1.nxi.nl,⟨by show 0<=gI (cz O P lv t (f-1) (bF W (gI (gI O v) (gI nx v))) (min most (bK W (gI (gI O v) (gI nx v)))) W nx).2.2 v;rw[e3];exact hv0,by show gI (cz O P lv t (f-1) (bF W (gI (gI O v) (gI nx v))) (min most (bK W (gI (gI O v) (gI nx v)))) W nx).2.2 v<_;rw[e3];exact hk⟩,hw',ht',e1.k0,k1',by show bK (cz O P lv t (f-1) (bF W (gI (gI O v) (gI nx v))) (min most (bK W (gI (gI O v) (gI nx v)))) W nx).2.1 _<=_;omega,⟨r2,by show bK (cz O P lv t (f-1) (bF W (gI (gI O v) (gI nx v))) (min most (bK W (gI (gI O v) (gI nx v)))) W nx).2.1 _<=_;omega⟩,(dV hw.1).2.2.1,e4,λhn=>⟨f-1,by omega,e5 hn⟩⟩
theorem rP.sz{z:bS}(h:rP n2 t v most O P lv fu Q nx w rr xW xn):gI (xW.set w.toNat z) (c6 w)=gI xW (c6 w):=by
 rw[ct h.wi.1 h.wi.2 h.ti.1,if_neg h.nt]
theorem d9{z:Int}{xs:List Int}(h0:0<=v)(h1:v<(xs.length:Int)):gI (xs.set v.toNat z) v=z:=by
 rw[ct h0 h1 h0,if_pos rfl]
theorem jR.bd{x:Int×Int}{R:List Int×List cB}{q:List cB}{M:Int}(hb:fj n2 s B M W O P)(h:jR n2 s M W O P R far q x k m):0<=x.1/\x.1<=1152921504606846976:=by
 have h1:=h.r.xb
 have h2:=h.r.x0
 have h3:=h.r.xf
 have hM:=hb.hM
 have:=hb.b0
 have h4:=(h.r.i.bd (by omega) hb.hb h2.1 h2.2 (by omega)).1
 have hu:da=1152921504606846976:=rfl
 omega
theorem oh.fb{q:List cB}{M:Int}(hb:fj n2 s B M W O P)(h:oh n2 s M W P far q)(v0:0<=v)(v1:v<n2):0<=gI far v/\gI far v<=1152921504606846976:=by
 have hM:=hb.hM
 have:=hb.b0
 by_cases c:gI far v=da
 · rw[c];exact⟨by decide,by decide⟩
 · have:=h.bd (by omega) hb.hb v0 v1 c
   have:=hb.hb
   have hu:da=1152921504606846976:=rfl
   omega
theorem k8{T:gn}(hm:cD T)(h:(W,O)=jT T.1 T.2.1 T.2.2/\ak=db T.2.2 T.1.toNat):iO (T.1+2) T.1 (T.1+1) ak ((T.1+2)*1048576) (1048576+(T.1+2)*1048576) W O (de T.1 T.2.1 T.2.2) W (List.replicate (T.1+2).toNat 0) (List.replicate (T.1+2).toNat 0) (List.replicate (T.1+2).toNat 0) 0:=by
 obtain⟨h1,rfl⟩:=h
 have e1:W=(jT T.1 T.2.1 T.2.2).1:=by rw[<-h1]
 have e2:O=(jT T.1 T.2.1 T.2.2).2:=by rw[<-h1]
 subst e1 e2
 exact⟨_,(hm.my.fib hm.my.ld).start⟩
theorem cC{a b x:Int}(a0:0<=a)(a1:a<(O.length:Int))(b0:0<=b):(gI (O.set a.toNat (gI O a++[x])) b).length<=(gI O a).length+(gI O b).length+1:=by
 rw[ct a0 a1 b0]
 split
 · rw[List.length_append,List.length_singleton];omega
 · omega
def mt(n2 s t:Int)(W:List bS)(O:List (List Int))(P:List Int)(rr:Bool)(xF xP:List Int):Prop:=xF=c7 n2 s W O P/\((rr=true/\¬gI xF t=da/\xP=cV P xF (gI xF t))\/(rr=false/\gI xF t=da/\xP=P))
theorem iO.goJ{rb:Bool}{xP xF:List Int}(h:iO n2 s t ak B M W0 O R W P far nx fl)(hj:mt n2 s t W O P rb xF xP)(hr:rb=true):iZ n2 s t ak B M W0 O R fl W xP xF nx fl:=by
 obtain⟨h1,⟨_,h2,h3⟩|⟨h2,_⟩⟩:=hj
 · exact h.go' h1 h3 h2
 · rw[h2] at hr;cases hr
theorem iO.stopJ{rb:Bool}{xP xF:List Int}(h:iO n2 s t ak B M W0 O R W P far nx fl)(hj:mt n2 s t W O P rb xF xP)(hr:¬rb=true):R=(W,xP,xF,nx,fl):=by
 obtain⟨h1,⟨h2,_⟩|⟨_,h2,h3⟩⟩:=hj
 · exact absurd h2 hr
 · rw[h3];exact h.stop' h1 h2
theorem mt.len{rb:Bool}{xP xF:List Int}(hj:mt n2 s t W O P rb xF xP)(hb:fj n2 s B M W O P):(xF.length:Int)=n2/\(xP.length:Int)=n2:=by
 obtain⟨h1,h2⟩:=hj
 have h3:=(eL hb).i.fl
 have h4:=hb.pt.pl
 refine⟨by rw[h1];exact h3,?_⟩
 rcases h2 with⟨_,_,q⟩|⟨_,_,q⟩
 · rw[q,iG];exact h4
 · rw[q];exact h4
theorem eP(hb:fj n2 s B M W O P){xL:List Int}(h:xL=(bv n2 s W O P).1):(xL.length:Int)=n2:=by
 obtain⟨qu,hq⟩:=(fz hb).l
 rw[h];exact hq.ll
theorem gP(n0:0<=n2){xN:List Int}(h:xN=fg n2):(xN.length:Int)=n2:=by rw[h];unfold fg;simp;omega
theorem e6{xj qq:List cB}(h:xj.length=qq.length):xj.take ((xj.length:Int)-1).toNat=xj.take (qq.length-1):=by
 congr 1;omega
theorem oh.ql{q:List cB}{M:Int}(h:oh n2 s M W P far q)(n0:0<n2)(hM:0<=M):(q.length:Int)<=(n2*M+1)*n2:=by
 have hp:=gj ((n2*M+1)*n2).toNat (q.map λz=>z.1*n2+z.2) (by
   unfold List.Nodup
   rw[List.pairwise_map]
   refine List.Pairwise.imp_of_mem (R:=λa b=>a≠b) ?_ h.qn
   intro a b ha hb hne e
   obtain⟨⟨a0,a1⟩,_⟩:=h.qin a ha
   obtain⟨⟨b0,b1⟩,_⟩:=h.qin b hb
   have e:a.1*n2+a.2=b.1*n2+b.2:=e
   have nI:∀x y:Int,x<y->x*n2+n2<=y*n2:=λx y hxy=>by
     have:=Int.mul_le_mul_of_nonneg_right (show x+1<=y by omega) (show 0<=n2 by omega)
     rwa[Int.add_mul,Int.one_mul] at this
   rcases Int.lt_trichotomy a.1 b.1 with q|q|q
   · have:=nI _ _ q;omega
   · rw[q] at e
     exact hne (Prod.ext q (by omega))
   · have:=nI _ _ q;omega) λx hx=>by
   obtain⟨z,hz,rfl⟩:=List.mem_map.1 hx
   obtain⟨⟨a0,a1⟩,_⟩:=h.qin z hz
   obtain⟨b0,b1⟩:=h.qb z hz
   have h1:=Int.mul_le_mul_of_nonneg_right b1 (show 0<=n2 by omega)
   have h2:=Int.mul_nonneg b0 (show 0<=n2 by omega)
   have h3:(n2*M+1)*n2=n2*M*n2+n2:=by rw[Int.add_mul,Int.one_mul]
   exact⟨by omega,by omega⟩
 rw[List.length_map] at hp
 by_cases c:q=[]
 · rw[c]
   exact Int.mul_nonneg (by have:=Int.mul_nonneg (show 0<=n2 by omega) hM;omega) (by omega)
 · obtain⟨z,hz⟩:=List.exists_mem_of_ne_nil q c
   obtain⟨b0,b1⟩:=h.qb z hz
   have:=Int.mul_nonneg (show 0<=n2*M+1 by omega) (show 0<=n2 by omega)
   omega
theorem oh.ql2{q:List cB}(hb:fj n2 s B M W O P)(h:oh n2 s M W P far q)(hB:B=n2*1048576)(hn:n2<=62):(q.length:Int)<=300000000000:=by
 have s0:=hb.s0
 have s1:=hb.s1
 have hM:=hb.hM
 have h1:=h.ql (by omega) (by omega)
 have hM1:M<=66060288:=by omega
 have hM0:0<=M:=by omega
 have e1:n2*M<=62*66060288:=Int.le_trans (Int.mul_le_mul_of_nonneg_right hn hM0) (Int.mul_le_mul_of_nonneg_left hM1 (by decide))
 have e2:0<=n2*M:=Int.mul_nonneg (by omega) hM0
 have e3:(n2*M+1)*n2<=(62*66060288+1)*62:=Int.le_trans (Int.mul_le_mul_of_nonneg_right (by omega) (by omega)) (Int.mul_le_mul_of_nonneg_left hn (by decide))
 omega
end TL
/-
  TlFlz: what Min tells, as the walk goes through it.
  By an AI agent.
-/
set_option linter.all false
namespace TL
variable{T:gn}{k:Nat}{W:List bS}{P F Nx xs:List Int}{fl c ak:Int}{O:List (List Int)}{W0:List bS}
structure lL(T:gn)(W:List bS)(k:Nat)(xs:List Int)(c:Int):Prop where
  ln:xs.length=T.2.1.length
  at_:∀i:Nat,i<k->gI xs (i:Int)=xW W i
  cs:c=SP k λi=>xW W i*(gI T.2.1 (i:Int)).2.2.2
theorem lL.start:lL T W 0 (List.replicate (T.2.1.length:Int).toNat 0) 0:=⟨by simp,λi hi=>by omega,rfl⟩
theorem rA(hm:cD T)(hR:de T.1 T.2.1 T.2.2=(W,P,F,Nx,fl))(hk:(k:Int)<(T.2.1.length:Int)):(2*(k:Int)+1<(W.length:Int))/\(0<=xW W k/\xW W k<=1048576)/\(0<=(gI T.2.1 (k:Int)).2.2.2/\(gI T.2.1 (k:Int)).2.2.2<=1048576)/\0<=xW W k*(gI T.2.1 (k:Int)).2.2.2/\xW W k*(gI T.2.1 (k:Int)).2.2.2<=1099511627776:=by
 have he:=hm.my.fi
 have hc:=hm.my.ld
 have hlen:(ci T.1 T.2.1 T.2.2).length=T.2.1.length+(f4 T.1 T.2.2 T.1.toNat).length:=gQ T
 have hx:=m9 hc he.i.l (i:=k) (by omega)
 rw[hR] at hx
 have hx:bK W (2*(k:Int))=(gI (ci T.1 T.2.1 T.2.2) (k:Int)).2.2.1-xW W k/\0<=xW W k/\xW W k<=(gI (ci T.1 T.2.1 T.2.2) (k:Int)).2.2.1:=hx
 obtain⟨_,h1,h2⟩:=hx
 rw[fD (by omega)] at h2
 obtain⟨_,_,⟨h3,h4⟩,h5,h6⟩:=hm.2.2.2.1 _ (bk (xs:=T.2.1) (i:=(k:Int)) (by omega) hk)
 have hl:=he.i.l.sm.ln
 rw[hR] at hl
 have hl2:=hc.lw
 have h7:=Int.mul_nonneg h1 h5
 have h8:xW W k*(gI T.2.1 (k:Int)).2.2.2<=1048576*1048576:=Int.le_trans (Int.mul_le_mul_of_nonneg_right (show xW W k<=1048576 by omega) h5) (Int.mul_le_mul_of_nonneg_left h6 (by decide))
 have hl3:W.length=(jT T.1 T.2.1 T.2.2).1.length:=hl
 exact⟨by omega,⟨h1,by omega⟩,⟨h5,h6⟩,h7,by omega⟩
theorem r6(hm:cD T)(hR:de T.1 T.2.1 T.2.2=(W,P,F,Nx,fl))(hk:(k:Int)<(T.2.1.length:Int)):(2*(k:Int)+1<(W.length:Int))/\(0<=(gI W (2*(k:Int)+1)).2.1/\(gI W (2*(k:Int)+1)).2.1<=1048576)/\(0<=(gI T.2.1 (k:Int)).2.2.2/\(gI T.2.1 (k:Int)).2.2.2<=1048576)/\0<=(gI W (2*(k:Int)+1)).2.1*(gI T.2.1 (k:Int)).2.2.2/\(gI W (2*(k:Int)+1)).2.1*(gI T.2.1 (k:Int)).2.2.2<=1099511627776:=rA hm hR hk
theorem lm(hm:cD T)(hR:de T.1 T.2.1 T.2.2=(W,P,F,Nx,fl)):∀(k:Nat),(k:Int)<=(T.2.1.length:Int)->0<=SP k (λi=>xW W i*(gI T.2.1 (i:Int)).2.2.2)/\SP k (λi=>xW W i*(gI T.2.1 (i:Int)).2.2.2)<=(k:Int)*1099511627776
 |0,_=>⟨Int.le_refl _,Int.le_refl _⟩
 |k+1,h=>by
   have h1:=lm hm hR k (by omega)
   have h2:=(rA hm hR (k:=k) (by omega)).2.2.2
   show 0<=SP k (λi=>xW W i*(gI T.2.1 (i:Int)).2.2.2)+xW W k*(gI T.2.1 (k:Int)).2.2.2/\SP k (λi=>xW W i*(gI T.2.1 (i:Int)).2.2.2)+xW W k*(gI T.2.1 (k:Int)).2.2.2<=_
   omega
theorem lL.bd(h:lL T W k xs c)(hm:cD T)(hR:de T.1 T.2.1 T.2.2=(W,P,F,Nx,fl))(hk:(k:Int)<=(T.2.1.length:Int)):0<=c/\c<=(k:Int)*1099511627776:=by
 rw[h.cs];exact lm hm hR k hk
theorem lL.next(h:lL T W k xs c)(hk:(k:Int)<(T.2.1.length:Int)){z d:Int}(hz:z=(gI W (2*(k:Int)+1)).2.1)(hd:d=c+z*(gI T.2.1 (k:Int)).2.2.2):lL T W (k+1) (xs.set (k:Int).toNat z) d:=by
 have hl:=h.ln
 have hz:z=xW W k:=hz
 refine⟨by rw[List.length_set];exact hl,λi hi=>?_,?_⟩
 · rw[ct (by omega) (by omega) (by omega)]
   by_cases q:(i:Int)=(k:Int)
   · rw[if_pos q,hz,show i=k by omega]
   · rw[if_neg q];exact h.at_ i (by omega)
 · rw[hd,hz,h.cs];rfl
theorem lW(h:¬cD T):aQ T=(([],[],0),1):=by unfold aQ;rw[if_neg h]
theorem fR(hm:cD T)(h:¬kj T.1 T.2.1 T.2.2):aQ T=(([],[],0),20):=by unfold aQ;rw[if_pos hm,if_neg h]
theorem nG(h:¬dJ T.2.2=0):¬kj T.1 T.2.1 T.2.2:=λq=>h q.1
theorem n8(hR:de T.1 T.2.1 T.2.2=(W,P,F,Nx,fl))(hWO:(W0,O)=jT T.1 T.2.1 T.2.2/\ak=db T.2.2 T.1.toNat)(h:¬fl=ak):¬kj T.1 T.2.1 T.2.2:=λq=>h (by
 have:=q.2
 rw[hR] at this
 rw[hWO.2];exact this)
theorem lL.done(hm:cD T)(hR:de T.1 T.2.1 T.2.2=(W,P,F,Nx,fl))(hWO:(W0,O)=jT T.1 T.2.1 T.2.2/\ak=db T.2.2 T.1.toNat)(hb:dJ T.2.2=0)(hf:fl=ak)(h:lL T W k xs c)(h0:(k:Int)<=(T.2.1.length:Int))(hk:¬(k:Int)<(T.2.1.length:Int)):aQ T=((xs,P.take T.1.toNat,c),0):=by
 have hok:kj T.1 T.2.1 T.2.2:=⟨hb,by rw[hR,<-hWO.2];exact hf⟩
 have e:k=T.2.1.length:=by omega
 subst e
 have hx:ml T.1 T.2.1 T.2.2=xs:=by
   refine fA (by rw[kQ,h.ln]) λi hi=>?_
   rw[kQ] at hi
   rw[lD hi,h.at_ i hi,hR]
 unfold aQ
 rw[if_pos hm,if_pos hok,hx]
 have h1:oQ T.1 T.2.1 T.2.2=P.take T.1.toNat:=by unfold oQ;rw[hR]
 have h2:lu T.2.1 xs=c:=by
   unfold lu
   rw[h.cs]
   exact bo _ λi hi=>by rw[h.at_ i hi]
 rw[h1,h2]
theorem nQ(hm:cD T)(hR:de T.1 T.2.1 T.2.2=(W,P,F,Nx,fl)):(P.length:Int)=T.1+2/\(F.length:Int)=T.1+2/\(W.length:Int)<=50000/\0<=fl/\fl<=1099511627776:=by
 have he:=hm.my.fi
 have h1:=he.i.d.pt.pl
 have h2:=(eL he.i.d).i.fl
 rw[<-he.far] at h2
 have h3:=he.i.d.sh.len
 obtain⟨h4,h5,h6⟩:=he.i.fb
 rw[hR] at h1 h2 h3 h4 h5
 exact⟨h1,h2,by have:W.length<=50000:=h3;omega,h4,Int.le_trans h5 h6⟩
end TL
/-
  TlFlv: what Why tells, as the walk goes through it.
  By an AI agent.
-/
set_option linter.all false
namespace TL
variable{T:gn}{k:Nat}{W:List bS}{P F Nx:List Int}{fl ak:Int}{O:List (List Int)}{W0:List bS}
def mc(F:List Int)(k:Nat):List Int:=(dc k).filter λv=>decide (gI F v<da)
theorem oR(h:gI F (k:Int)<1152921504606846976):mc F k++[(k:Int)]=mc F (k+1):=by
 unfold mc
 rw[jc,List.filter_append,List.filter_cons_of_pos (by simpa using h)];rfl
theorem qf(h:¬gI F (k:Int)<1152921504606846976):mc F k=mc F (k+1):=by
 unfold mc
 rw[jc,List.filter_append,List.filter_cons_of_neg (by simpa using h),List.filter_nil,List.append_nil]
theorem oD:(mc F k).length<=k:=by
 unfold mc
 refine Nat.le_trans (List.length_filter_le _ _) ?_
 simp[dc]
theorem lE(h:¬cD T):cH T=([],1):=by unfold cH;rw[if_neg h]
theorem lP(hm:cD T)(h:¬dJ T.2.2=0):cH T=([],0):=by unfold cH;rw[if_pos hm,if_neg h]
theorem kF(hm:cD T)(hR:de T.1 T.2.1 T.2.2=(W,P,F,Nx,fl))(hWO:(W0,O)=jT T.1 T.2.1 T.2.2/\ak=db T.2.2 T.1.toNat)(hb:dJ T.2.2=0)(h:fl=ak):cH T=([],14):=by
 unfold cH;rw[if_pos hm,if_pos hb,if_pos (by rw[hR,<-hWO.2];exact h)]
theorem k7(hm:cD T)(hR:de T.1 T.2.1 T.2.2=(W,P,F,Nx,fl))(hWO:(W0,O)=jT T.1 T.2.1 T.2.2/\ak=db T.2.2 T.1.toNat)(hb:dJ T.2.2=0)(h:¬fl=ak)(h0:(k:Int)<=T.1)(hk:¬(k:Int)<T.1):cH T=(mc F k,0):=by
 unfold cH;rw[if_pos hm,if_pos hb,if_neg (by rw[hR,<-hWO.2];exact h)]
 have e:k=T.1.toNat:=by omega
 unfold s4 mc
 rw[hR,e]
end TL
/-
  TlFlu: what proves a flow, and what cuts one off, as the walks go through it.
  By an AI agent.
-/
set_option linter.all false
namespace TL
variable{T:gn}{f:jB}{k j:Nat}{ov o1 o2 l:List Int}{c d:Int}
def kL(T:gn)(f:jB)(i:Nat):Prop:=(0<=gI f.1 (i:Int)/\gI f.1 (i:Int)<=(gI T.2.1 (i:Int)).2.2.1)/\(gI f.1 (i:Int)<(gI T.2.1 (i:Int)).2.2.1->0<=(gI T.2.1 (i:Int)).2.2.2+gI f.2.1 (gI T.2.1 (i:Int)).1-gI f.2.1 (gI T.2.1 (i:Int)).2.1)/\(0<gI f.1 (i:Int)->(gI T.2.1 (i:Int)).2.2.2+gI f.2.1 (gI T.2.1 (i:Int)).1-gI f.2.1 (gI T.2.1 (i:Int)).2.1<=0)
instance {i:Nat}:Decidable (kL T f i):=by unfold kL;infer_instance
def qL(T:gn)(f:jB):Prop:=cD T/\f.1.length=T.2.1.length/\(f.2.1.length:Int)=T.1
instance:Decidable (qL T f):=by unfold qL;infer_instance
def lQ(p:Int):Prop:= -1099511627776<=p/\p<=1099511627776
instance {p:Int}:Decidable (lQ p):=by unfold lQ;infer_instance
def qK(T:gn)(f:jB):Prop:=qL T f/\(∀p∈f.2.1,lQ p)/\(∀i:Nat,i<T.2.1.length->kL T f i)/\(∀v:Nat,v<T.2.2.length->gG T.2.1 (λi=>gI f.1 (i:Int)) (v:Int)=gI T.2.2 (v:Int))/\lu T.2.1 f.1=f.2.2
instance:Decidable (qK T f):=by unfold qK;infer_instance
def gA(T:gn)(f:jB):Bool:=decide (qK T f)
theorem jo(h:¬qK T f):gA T f=false:=decide_eq_false h
theorem jH(h:¬qL T f):gA T f=false:=jo λq=>h q.1
theorem qD(h1:(k:Int)<(f.2.1.length:Int))(h:¬lQ (gI f.2.1 (k:Int))):gA T f=false:=jo λq=>h (q.2.1 _ (bk (by omega) h1))
theorem jF(h1:(k:Int)<(T.2.1.length:Int))(h:¬kL T f k):gA T f=false:=jo λq=>h (q.2.2.1 k (by omega))
theorem nf{D:List Int}(h:∀x∈D.take k,lQ x)(h1:(k:Int)<(D.length:Int))(hk:lQ (gI D (k:Int))):∀x∈D.take (k+1),lQ x:=by
 rw[cQ h1]
 intro a ha
 rcases List.mem_append.1 ha with q|q
 · exact h a q
 · rw[List.mem_singleton.1 q];exact hk
theorem qB{D:List Int}{n:Int}(h:∀x∈D.take k,lQ x)(hk:¬(k:Int)<n)(hn:(D.length:Int)=n)(v:Int)(v0:0<=v)(v1:v<n): -1099511627776<=gI D v/\gI D v<=1099511627776:=by
 rw[List.take_of_length_le (by omega)] at h
 exact h _ (bk v0 (by omega))
def qM(T:gn)(f:jB)(k:Nat)(v:Int):Int:=SP k λi=>(if(gI T.2.1 (i:Int)).1=v then gI f.1 (i:Int) else 0)-(if(gI T.2.1 (i:Int)).2.1=v then gI f.1 (i:Int) else 0)
structure kY(T:gn)(f:jB)(k:Nat)(ov:List Int)(c:Int):Prop where
 ln:(ov.length:Int)=T.1
 at_:∀v:Nat,(v:Int)<T.1->gI ov (v:Int)=qM T f k (v:Int)
 ok:∀i:Nat,i<k->kL T f i
 cs:c=SP k λi=>gI f.1 (i:Int)*(gI T.2.1 (i:Int)).2.2.2
theorem kY.start(hm:cD T):kY T f 0 (List.replicate T.1.toNat 0) 0:=by
 have:=hm.1.1
 refine⟨by rw[List.length_replicate];omega,λv hv=>?_,λi hi=>by omega,rfl⟩
 rw[dz (by omega) (by omega)];rfl
theorem rj(hm:cD T)(ha:kL T f k)(hk:(k:Int)<(T.2.1.length:Int)):(0<=gI f.1 (k:Int)/\gI f.1 (k:Int)<=1048576)/\0<=gI f.1 (k:Int)*(gI T.2.1 (k:Int)).2.2.2/\gI f.1 (k:Int)*(gI T.2.1 (k:Int)).2.2.2<=1099511627776:=by
 obtain⟨_,_,⟨h3,h4⟩,h5,h6⟩:=hm.2.2.2.1 _ (bk (xs:=T.2.1) (i:=(k:Int)) (by omega) hk)
 obtain⟨⟨h1,h2⟩,_⟩:=ha
 have h7:=Int.mul_nonneg h1 h5
 have h8:gI f.1 (k:Int)*(gI T.2.1 (k:Int)).2.2.2<=1048576*1048576:=Int.le_trans (Int.mul_le_mul_of_nonneg_right (show gI f.1 (k:Int)<=1048576 by omega) h5) (Int.mul_le_mul_of_nonneg_left h6 (by decide))
 exact⟨⟨h1,by omega⟩,h7,by omega⟩
theorem qV(hm:cD T)(h1:0<=gI f.1 (k:Int))(h2:gI f.1 (k:Int)<=(gI T.2.1 (k:Int)).2.2.1)(hk:(k:Int)<(T.2.1.length:Int)):(0<=gI f.1 (k:Int)/\gI f.1 (k:Int)<=1048576)/\0<=gI f.1 (k:Int)*(gI T.2.1 (k:Int)).2.2.2/\gI f.1 (k:Int)*(gI T.2.1 (k:Int)).2.2.2<=1099511627776:=by
 obtain⟨_,_,⟨h3,h4⟩,h5,h6⟩:=hm.2.2.2.1 _ (bk (xs:=T.2.1) (i:=(k:Int)) (by omega) hk)
 have h7:=Int.mul_nonneg h1 h5
 have h8:gI f.1 (k:Int)*(gI T.2.1 (k:Int)).2.2.2<=1048576*1048576:=Int.le_trans (Int.mul_le_mul_of_nonneg_right (show gI f.1 (k:Int)<=1048576 by omega) h5) (Int.mul_le_mul_of_nonneg_left h6 (by decide))
 exact⟨⟨h1,by omega⟩,h7,by omega⟩
theorem qW(hm:cD T)(hl:(ov.length:Int)=T.1)(hb:∀v,0<=v->v<T.1-> -17179869184<=gI ov v/\gI ov v<=17179869184){x:Int}(x0:0<=x)(x1:x<=1048576)(hk:(k:Int)<(T.2.1.length:Int)): -17180917760<=gI (ov.set (gI T.2.1 (k:Int)).1.toNat (gI ov (gI T.2.1 (k:Int)).1+x)) (gI T.2.1 (k:Int)).2.1/\gI (ov.set (gI T.2.1 (k:Int)).1.toNat (gI ov (gI T.2.1 (k:Int)).1+x)) (gI T.2.1 (k:Int)).2.1<=17180917760:=by
 obtain⟨⟨a0,a1⟩,⟨b0,b1⟩,_⟩:=hm.2.2.2.1 _ (bk (xs:=T.2.1) (i:=(k:Int)) (by omega) hk)
 rw[ct a0 (by omega) b0]
 have h1:=hb _ a0 a1
 have h2:=hb _ b0 b1
 split<;>omega
theorem nj(hm:cD T)(hok:∀i:Nat,i<k->kL T f i)(hk:(k:Int)<=(T.2.1.length:Int))(v:Int):∀n:Nat,n<=k-> -(n:Int)*1048576<=qM T f n v/\qM T f n v<=(n:Int)*1048576
 |0,_=>⟨Int.le_refl _,Int.le_refl _⟩
 |n+1,h=>by
   have h1:=nj hm hok hk v n (by omega)
   obtain⟨⟨h2,h3⟩,_⟩:=rj hm (hok n (by omega)) (by omega)
   show _<=qM T f n v+((if(gI T.2.1 (n:Int)).1=v then gI f.1 (n:Int) else 0)-(if(gI T.2.1 (n:Int)).2.1=v then gI f.1 (n:Int) else 0))/\qM T f n v+((if(gI T.2.1 (n:Int)).1=v then gI f.1 (n:Int) else 0)-(if(gI T.2.1 (n:Int)).2.1=v then gI f.1 (n:Int) else 0))<=_
   split<;>split<;>omega
theorem kY.bd(h:kY T f k ov c)(hm:cD T)(hk:(k:Int)<=(T.2.1.length:Int)):(∀v,0<=v->v<T.1-> -17179869184<=gI ov v/\gI ov v<=17179869184)/\0<=c/\c<=18014398509481984:=by
 have hl:=hm.2.1
 refine⟨λv v0 v1=>?_,?_⟩
 · have:=h.at_ v.toNat (by omega)
   rw[Int.toNat_of_nonneg v0] at this
   have:=nj hm h.ok hk v k (Nat.le_refl _)
   omega
 · have:∀n:Nat,n<=k->0<=SP n (λi=>gI f.1 (i:Int)*(gI T.2.1 (i:Int)).2.2.2)/\SP n (λi=>gI f.1 (i:Int)*(gI T.2.1 (i:Int)).2.2.2)<=(n:Int)*1099511627776:=by
     intro n
     induction n with
     |zero=>intro _;exact⟨Int.le_refl _,Int.le_refl _⟩
     |succ n ih=>
       intro hn
       have h1:=ih (by omega)
       obtain⟨_,h2,h3⟩:=rj hm (h.ok n (by omega)) (by omega)
       show 0<=SP n (λi=>gI f.1 (i:Int)*(gI T.2.1 (i:Int)).2.2.2)+gI f.1 (n:Int)*(gI T.2.1 (n:Int)).2.2.2/\SP n (λi=>gI f.1 (i:Int)*(gI T.2.1 (i:Int)).2.2.2)+gI f.1 (n:Int)*(gI T.2.1 (n:Int)).2.2.2<=_
       omega
   have:=this k (Nat.le_refl _)
   rw[h.cs]
   omega
theorem kY.next(h:kY T f k ov c)(hm:cD T)(hk:(k:Int)<(T.2.1.length:Int))(ha:kL T f k)(h1:o1=ov.set (gI T.2.1 (k:Int)).1.toNat (gI ov (gI T.2.1 (k:Int)).1+gI f.1 (k:Int)))(h2:o2=o1.set (gI T.2.1 (k:Int)).2.1.toNat (gI o1 (gI T.2.1 (k:Int)).2.1-gI f.1 (k:Int)))(hd:d=c+gI f.1 (k:Int)*(gI T.2.1 (k:Int)).2.2.2):kY T f (k+1) o2 d:=by
 obtain⟨⟨a0,a1⟩,⟨b0,b1⟩,_⟩:=hm.2.2.2.1 _ (bk (xs:=T.2.1) (i:=(k:Int)) (by omega) hk)
 have hl:=h.ln
 have hl1:(o1.length:Int)=T.1:=by rw[h1,List.length_set];exact hl
 refine⟨by rw[h2,List.length_set];exact hl1,λv hv=>?_,λi hi=>?_,by rw[hd,h.cs];rfl⟩
 · have hv0:=h.at_ v hv
   have g1:∀u,0<=u->gI o1 u=if u=(gI T.2.1 (k:Int)).1 then gI ov (gI T.2.1 (k:Int)).1+gI f.1 (k:Int) else gI ov u:=λu u0=>by rw[h1];exact ct a0 (by omega) u0
   have g2:gI o2 (v:Int)=if(v:Int)=(gI T.2.1 (k:Int)).2.1 then gI o1 (gI T.2.1 (k:Int)).2.1-gI f.1 (k:Int) else gI o1 (v:Int):=by rw[h2];exact ct b0 (by omega) (by omega)
   rw[g2,g1 _ b0,g1 (v:Int) (by omega)]
   show _=qM T f k (v:Int)+((if(gI T.2.1 (k:Int)).1=(v:Int) then gI f.1 (k:Int) else 0)-(if(gI T.2.1 (k:Int)).2.1=(v:Int) then gI f.1 (k:Int) else 0))
   rw[<-hv0]
   by_cases q1:(v:Int)=(gI T.2.1 (k:Int)).2.1
   · rw[if_pos q1,<-q1,if_pos rfl]
     by_cases q2:(v:Int)=(gI T.2.1 (k:Int)).1
     · rw[if_pos q2,<-q2,if_pos rfl];omega
     · rw[if_neg q2,if_neg (λe=>q2 e.symm)];omega
   · rw[if_neg q1,if_neg (λe:(gI T.2.1 (k:Int)).2.1=(v:Int)=>q1 e.symm)]
     by_cases q2:(v:Int)=(gI T.2.1 (k:Int)).1
     · rw[if_pos q2,<-q2,if_pos rfl];omega
     · rw[if_neg q2,if_neg (λe=>q2 e.symm)];omega
 · by_cases q:i=k
   · rw[q];exact ha
   · exact h.ok i (by omega)
theorem oF(h:kY T f k ov c)(hm:cD T)(hk:(k:Int)<=(T.2.1.length:Int))(hn:¬(k:Int)<(T.2.1.length:Int))(hj:(j:Int)<(T.2.2.length:Int))(hne:¬gI ov (j:Int)=gI T.2.2 (j:Int)):gA T f=false:=by
 have e:k=T.2.1.length:=by omega
 subst e
 have hD:=hm.2.2.1
 refine jo λq=>hne ?_
 rw[h.at_ j (by omega)]
 exact q.2.2.2.1 j (by omega)
theorem pW(h:kY T f k ov c)(hk:(k:Int)<=(T.2.1.length:Int))(hn:¬(k:Int)<(T.2.1.length:Int))(hh:qL T f){i:Nat}(hp:∀x∈f.2.1.take i,lQ x)(hi:¬(i:Int)<(f.2.1.length:Int))(hnd:∀v:Nat,v<j->gI ov (v:Int)=gI T.2.2 (v:Int))(hj:¬(j:Int)<(T.2.2.length:Int)):gA T f=decide (c=f.2.2):=by
 have e:k=T.2.1.length:=by omega
 subst e
 have hD:=hh.1.2.2.1
 rw[List.take_of_length_le (by omega)] at hp
 unfold gA
 rw[decide_eq_decide]
 constructor
 · intro q;rw[h.cs];exact q.2.2.2.2
 · intro q
   refine⟨hh,hp,h.ok,λv hv=>?_,by rw[<-q,h.cs];rfl⟩
   rw[<-hnd v (by omega),h.at_ v (by omega)];rfl
theorem qK.of(hm:cD T)(hx:kM T.1 T.2.1 T.2.2 f.1)(hp:rQ T.2.1 f.1 f.2.1)(hl:(f.2.1.length:Int)=T.1)(hb:∀p∈f.2.1,0<=p/\p<=1099511627776)(hc:lu T.2.1 f.1=f.2.2):gA T f=true:=by
 have hD:=hm.2.2.1
 exact decide_eq_true ⟨⟨hm,hx.ln,hl⟩,λp q=>by have:=hb p q;unfold lQ;omega,λi hi=>⟨hx.cap i hi,hp i hi⟩,λv hv=>hx.net v (by omega) (by omega),hc⟩
theorem mL(hm:cD T)(hok:kj T.1 T.2.1 T.2.2):gA T (aQ T).1=true:=by
  unfold aQ;rw[if_pos hm,if_pos hok]
  exact qK.of hm (lG hm.my hok) (pz hm.my) (nX hm.my) (rx hm.my) rfl
variable{bs:List Bool}{F:List Int}
theorem l3:cD cb/\kj cb.1 cb.2.1 cb.2.2:=by decide+kernel
theorem q5:bQ cb=true/\((aQ cb).1.1.length:Int)=3/\(aQ cb).1.2.2=9/\(aQ cb).2=0/\gA cb (aQ cb).1=true/\(0<((cH rD).1.length:Int))/\(cH rD).2=0:=by
 refine⟨dG l3.1,?_,?_,?_,mL l3.1 l3.2,?_,?_⟩
 · obtain⟨p,h⟩:=jM;rw[h];rfl
 · obtain⟨p,h⟩:=jM;rw[h]
 · obtain⟨p,h⟩:=jM;rw[h]
 · rcases lh with h|h<;>rw[h]<;>decide
 · rcases lh with h|h<;>rw[h]
end TL
/-
  TlFls: flows that are handed in, tasks with other costs, in another order, with more room.
  By an AI agent.
-/
set_option linter.all false
namespace TL
variable{T U:gn}{f:jB}{k j n a:Nat}{ov o1 o2 l on:List Int}{c d q:Int}
theorem jy(hm:cD T)(hok:kj T.1 T.2.1 T.2.2):aQ T=((ml T.1 T.2.1 T.2.2,oQ T.1 T.2.1 T.2.2,lu T.2.1 (ml T.1 T.2.1 T.2.2)),0):=by unfold aQ;rw[if_pos hm,if_pos hok]
theorem ew(hm:cD T):((aQ T).2=0↔∃x,kM T.1 T.2.1 T.2.2 x)/\((aQ T).2=0\/(aQ T).2=20):=by
 by_cases h:kj T.1 T.2.1 T.2.2
 · rw[jy hm h];exact⟨⟨λ_=>(jw hm.my).1 h,λ_=>rfl⟩,.inl rfl⟩
 · rw[fR hm h];exact⟨⟨λz=>absurd z (by decide),λz=>absurd ((jw hm.my).2 z) h⟩,.inr rfl⟩
theorem q6(hm:cD T)(h:(aQ T).2=0):kM T.1 T.2.1 T.2.2 (aQ T).1.1/\(aQ T).1.2.2=lu T.2.1 (aQ T).1.1/\gA T (aQ T).1=true:=by
 have hok:kj T.1 T.2.1 T.2.2:=(jw hm.my).2 ((ew hm).1.1 h)
 refine⟨?_,?_,mL hm hok⟩
 · rw[jy hm hok];exact lG hm.my hok
 · rw[jy hm hok]
theorem qh(hm:cD T)(h:(aQ T).2=0){z:List Int}(hz:kM T.1 T.2.1 T.2.2 z):(aQ T).1.2.2<=lu T.2.1 z:=by
 have hok:kj T.1 T.2.1 T.2.2:=(jw hm.my).2 ((ew hm).1.1 h)
 rw[jy hm hok]
 exact qg hm.my (lG hm.my hok) hz (pz hm.my)
def kK(a:Nat)(q:Int)(T:gn):gn:=(T.1,T.2.1.set a ((gI T.2.1 (a:Int)).1,(gI T.2.1 (a:Int)).2.1,q,(gI T.2.1 (a:Int)).2.2.2),T.2.2)
theorem lR(ha:a<T.2.1.length){i:Nat}(hi:i<T.2.1.length):gI (kK a q T).2.1 (i:Int)=if i=a then((gI T.2.1 (a:Int)).1,(gI T.2.1 (a:Int)).2.1,q,(gI T.2.1 (a:Int)).2.2.2) else gI T.2.1 (i:Int):=by
 have:=ct (xs:=T.2.1) (i:=(a:Int)) (y:=((gI T.2.1 (a:Int)).1,(gI T.2.1 (a:Int)).2.1,q,(gI T.2.1 (a:Int)).2.2.2)) (j:=(i:Int)) (by omega) (by omega) (by omega)
 rw[Int.toNat_natCast] at this
 show gI (T.2.1.set a _) (i:Int)=_
 rw[this]
 by_cases e:i=a
 · rw[if_pos e,if_pos (by omega)]
 · rw[if_neg e,if_neg (by omega)]
theorem eE:(kK a q T).2.1.length=T.2.1.length:=List.length_set ..
theorem rv(ha:a<T.2.1.length)(hq:(gI T.2.1 (a:Int)).2.2.1<=q){x:List Int}(h:kM T.1 T.2.1 T.2.2 x):kM (kK a q T).1 (kK a q T).2.1 (kK a q T).2.2 x/\lu (kK a q T).2.1 x=lu T.2.1 x:=by
 refine⟨⟨h.ln.trans eE.symm,λi hi=>?_,λv v0 v1=>?_⟩,?_⟩
 · rw[eE] at hi
   have:=h.cap i hi
   rw[lR ha hi]
   split
   · rename_i e;rw[e] at this ⊢;exact⟨this.1,Int.le_trans this.2 hq⟩
   · exact this
 · show _=gI T.2.2 v
   rw[<-h.net v v0 v1]
   unfold gG
   rw[eE]
   exact bo _ λi hi=>by
     rw[lR ha hi]
     split
     · rename_i e;rw[e]
     · rfl
 · unfold lu
   rw[eE]
   exact bo _ λi hi=>by
     rw[lR ha hi]
     split
     · rename_i e;rw[e]
     · rfl
theorem qS(hm:cD T)(ha:a<T.2.1.length)(h0:0<=q)(h1:q<=1048576):cD (kK a q T):=by
 refine⟨hm.1,by rw[eE];exact hm.2.1,hm.2.2.1,λb hb=>?_,hm.2.2.2.2⟩
 obtain⟨i,hi,rfl⟩:=List.mem_iff_getElem.1 hb
 rw[eE] at hi
 have e:(kK a q T).2.1[i]'(by rw[eE];exact hi)=gI (kK a q T).2.1 (i:Int):=by simp[gI,eE,hi]
 rw[e,lR ha hi]
 split
 · obtain⟨k1,k2,k3,k4⟩:=hm.2.2.2.1 _ (bk (xs:=T.2.1) (i:=(a:Int)) (by omega) (by omega))
   exact⟨k1,k2,⟨h0,h1⟩,k4⟩
 · exact hm.2.2.2.1 _ (bk (xs:=T.2.1) (i:=(i:Int)) (by omega) (by omega))
theorem qw(hm:cD T)(ha:a<T.2.1.length)(hq:(gI T.2.1 (a:Int)).2.2.1<=q)(h1:q<=1048576):((aQ T).2=0->(aQ (kK a q T)).2=0/\(aQ (kK a q T)).1.2.2<=(aQ T).1.2.2)/\(¬(aQ T).2=0->(aQ (kK a q T)).2=0\/(aQ (kK a q T)).2=(aQ T).2):=by
 obtain⟨_,_,k3,_⟩:=hm.2.2.2.1 _ (bk (xs:=T.2.1) (i:=(a:Int)) (by omega) (by omega))
 have hu:cD (kK a q T):=qS hm ha (by omega) h1
 refine⟨λh0=>?_,λh0=>?_⟩
 · obtain⟨f1,f2,f3⟩:=q6 hm h0
   obtain⟨g1,g2⟩:=rv ha hq f1
   have h0':=(ew hu).1.2 ⟨_,g1⟩
   have:=qh hu h0' g1
   rw[g2,<-f2] at this
   exact⟨h0',this⟩
 · rcases(ew hu).2 with z|z
   · exact .inl z
   · exact .inr (by rw[z];exact((ew hm).2.resolve_left h0).symm)
end TL
/-
  TlFlt: the loops of FlowScaled, FlowWider.
  By an AI agent.
-/
set_option linter.all false
namespace TL
variable{T:gn}{k i n a:Nat}{ua va:List dL}{q t9:Int}
theorem mW(hm:cD T)(h9:0<=t9)(h9':t9<(T.2.1.length:Int))(hq:(gI T.2.1 t9).2.2.1<=q)(h1:q<=1048576)(hu:ua=T.2.1.set t9.toNat ((gI T.2.1 t9).1,(gI T.2.1 t9).2.1,q,(gI T.2.1 t9).2.2.2)):
    ((aQ T).2=0->(aQ (T.1,ua,T.2.2)).2=0/\(aQ (T.1,ua,T.2.2)).1.2.2<=(aQ T).1.2.2)/\(¬(aQ T).2=0->(aQ (T.1,ua,T.2.2)).2=0\/(aQ (T.1,ua,T.2.2)).2=(aQ T).2):=by
  have e:(t9.toNat:Int)=t9:=Int.toNat_of_nonneg h9
  have e1:(T.1,ua,T.2.2)=kK t9.toNat q T:=by unfold kK;rw[e,hu]
  rw[e1]
  exact qw hm (by omega) (by rw[e];exact hq) h1
end TL
/-
  TlNil: a list that is none, compared.
  By an AI agent.
-/
set_option linter.all false
namespace TL
open Go
section
variable{P:Program}{w:World}{t t':TypeId}{f:Fr}{x y:Operand}{dst:Option Tmp}{ty:TypeId}{pos:String}{after:Array Edge}{g:Option (Nat×Bool)}
end
theorem o9{α:Type}[Rp α]{γ:aC}{J S:ch->Prop}{w:World}{v:Value}{xs:List α}{hi:Nat}(h:Ow γ J S w v xs)(h2:hi<=xs.length):Ow γ J S w (er v (Rp.sz α) 0 hi) (xs.take hi):=by
  rcases h with⟨rfl,rfl⟩|⟨b,cap,c,e,rfl,hc,hm,hJ,hb,hcs,hx⟩
  · simp only[List.length_nil] at h2
    have:hi=0:=by omega
    subst this
    exact .inl ⟨rfl,rfl⟩
  · have hl:(xs.take hi).length=hi:=by simp;omega
    refine .inr ⟨b,cap,c,e,?_,⟨by omega,by omega⟩,hm,hJ,hb,hcs,λi x hi'=>hx i x ?_⟩
    · rw[m5]
      simp only[hl]
    · rw[List.getElem?_take] at hi'
      split at hi'
      · exact hi'
      · cases hi'
end TL
/-
  TlConv: whole numbers turned to another kind, a string's byte, functions that bear values.
  By an AI agent.
-/
set_option linter.all false
namespace TL
open Go
section
variable{P:Program}{w:World}{f:Fr}{dst:Option Tmp}{ty:TypeId}{pos:String}{after:Array Edge}{g:Option (Nat×Bool)}{x y:Operand}{s d t:TypeId}{m:Int}{k k0:IntKind}
theorem q8{us:TypeDesc}(hs:P.underlying s=some us)(hd:P.underlying d=some (.int k))(hx:ev f x= .int k0 m)(hw:k.wrap m=m):(execOp (ev f) ⟨dst,.convert s d x,ty,pos,after,g⟩).run P w= .ok (.value (.int k m)) w:=by
 simp[execOp,convert,hx,bh hs,bh hd,Conv.intToInt,hw]
end
end TL
namespace TL
open Go
section
variable{P:Program}{w:World}{f:Fr}{dst:Option Tmp}{ty:TypeId}{pos:String}{after:Array Edge}{g:Option (Nat×Bool)}{x y:Operand}{t t':TypeId}
end
end TL
namespace TL
open Go
section
variable{P:Program}{w:World}{f:Fr}{dst:Option Tmp}{ty:TypeId}{pos:String}{after:Array Edge}{g:Option (Nat×Bool)}{x y:Operand}{t t':TypeId}
end
end TL
/-
  TlBlk: blocks by a walk depth first with a stack of edges, as the program does it, and what its walk may rely on.
  By an AI agent.
-/
set_option linter.all false
namespace TL
structure Bs where
 place:List Int
 low:List Int
 by_:List Int
 next:List Int
 found:Int
 edges:List Int
 laid:List Bool
 block:List Int
 count:Int
variable{g:dT}{s:Bs}{path:List Int}{e v w u hh:Int}
end TL
/-
  TlBlk4: the walk that finds blocks, one way of a step at a time; the loop that looks for an edge on the stack.
  By an AI agent.
-/
set_option linter.all false
namespace TL
variable{g:dT}{R:Bs}{pl lo by_ nx:List Int}{fo:Int}{ed:List Int}{la:List Bool}{bl:List Int}{co:Int}{path:List Int}{u hh:Int}
abbrev bs(pl lo by_ nx:List Int)(fo:Int)(ed:List Int)(la:List Bool)(bl:List Int)(co:Int):Bs:=⟨pl,lo,by_,nx,fo,ed,la,bl,co⟩
end TL
namespace TL
open Go
theorem mZ(n:Nat):n^^^1=if n%2=0 then n+1 else n-1:=by
 have h1:(n^^^1)%2=(n+1)%2:=by
   have:= @Nat.xor_mod_two_eq_one n 1
   by_cases c:(n^^^1)%2=1
   · have:=this.1 c;omega
   · have h3:¬¬(n%2=1↔1%2=1):=λk=>c (this.2 k)
     have h4:=Decidable.not_not.1 h3
     have:n%2=1:=h4.2 rfl
     omega
 have h2:(n^^^1)/2=n/2:=by rw[Nat.xor_div_two];simp
 split<;>omega
theorem j7{m:Int}(t:TypeId)(h0:0<=m)(h1:m<4611686018427387904):binOp .xor t (.int .i64 m) (.int .i64 1)=pure (.int .i64 (c6 m)):=by
 obtain⟨n,rfl⟩:=Int.eq_ofNat_of_zero_le h0
 have hn:n<4611686018427387904:=by omega
 have e:(BitVec.ofInt 64 (n:Int)^^^BitVec.ofInt 64 1).toNat=n^^^1:=by
   rw[BitVec.toNat_xor]
   have e1:(BitVec.ofInt 64 (n:Int)).toNat=n:=by
     rw[BitVec.toNat_ofInt];omega
   have e2:(BitVec.ofInt 64 (1:Int)).toNat=1:=by decide
   rw[e1,e2]
 have h3:(((n^^^1:Nat)):Int)=c6 (n:Int):=by
   rw[mZ];unfold c6
   split<;>split<;>omega
 show(pure (Value.int .i64 (IntKind.i64.wrap ((BitVec.ofInt 64 (n:Int)^^^BitVec.ofInt 64 1).toNat:Int))):Sem Value)=_
 rw[e,h3,ec]
 unfold c6;unfold pM;split<;>omega
end TL
namespace TL
variable{g:dT}{s:Bs}{path:List Int}
end TL
namespace TL
variable{g:dT}{of o:List Int}{c:List Bool}{k:Nat}
end TL
namespace TL
variable{g:dT}
end TL
/-
  TlIface: a method of an interface value that holds a pointer; values in an interface.
  By an AI agent.
-/
set_option linter.all false
namespace TL
open Go
def fM(P:Program)(T:TypeId)(name:String):Option (Nat×Bool×TypeId):=
  match P.info? T,P.underlying T with
  |some i,some (.pointer e)=>
    match i.methods.find? (·.name==name) with
    |some m=>if m.path.isEmpty then m.func.map (λq=>(q.1,q.2,e)) else none
    |none=>none
  |_,_=>none
theorem nA{P:Program}{T e:TypeId}{name:String}{f:Nat}{b:Bool}(h:fM P T name=some (f,b,e)):∃i m,P.info? T=some i/\P.underlying T=some (.pointer e)/\i.methods.find? (·.name==name)=some m/\m.path= #[]/\m.func=some (f,b):=by
 unfold fM at h
 split at h
 · rename_i i e' hi hu
   split at h
   · rename_i m hm
     split at h
     · rename_i hp
       cases hf:m.func with
       |none=>rw[hf] at h;cases h
       |some q=>
         rw[hf] at h
         simp only[Option.map_some,Option.some.injEq,Prod.mk.injEq] at h
         obtain⟨h1,h2,h3⟩:=h
         refine⟨i,m,hi,h3▸hu,hm,by simpa using hp,?_⟩
         rw[hf,<-h1,<-h2]
     · cases h
   · cases h
 · cases h
section
variable{P:Program}{f:Fr}{w:World}{dst:Option Tmp}{ty:TypeId}{pos:String}{after:Array Edge}{g:Option (Nat×Bool)}{T e:TypeId}{name:String}{fid n:Nat}{a:Addr}{v u:Value}
theorem kx{i:TypeInfo}{t:TypeId}(h:P.info? t=some i):(typeInfo t).run P w= .ok i w:=by simp[typeInfo,h]
theorem dE(h:fM P T name=some (fid,true,e)):(method (n+1) T v name).run P w= .ok (fid,v) w:=by
 obtain⟨i,m,hi,hu,hm,hp,hf⟩:=nA h
 simp[method,kx hi,hm,hp,hf,follow,receiverAt,bh hu,Place.get]
theorem oG(t:TypeId)(nm:String):(Builtin.ssaWrapNilChk_ #[t] t #[.pointer (some a),strVal "",strVal nm]).run P w= .ok (.pointer (some a)) w:=rfl
theorem aW(h:fM P T name=some (fid,false,e))(hl:(loadVar e a).run P w= .ok u w):(method (n+1) T (.pointer (some a)) name).run P w= .ok (fid,u) w:=by
 obtain⟨i,m,hi,hu,hm,hp,hf⟩:=nA h
 simp[method,kx hi,hm,hp,hf,follow,receiverAt,bh hu,Place.get,oG,asAddr,hl]
theorem na:∃n,P.types.size+Made.depth=n+1:=by
 have h:0<Made.depth:=by decide
 exact⟨P.types.size+Made.depth-1,by omega⟩
variable{x:Operand}{args:List Operand}{at_:Array TypeId}{vals:List Value}{fn:Func}
theorem bt(hx:ev f x= .iface T v)(hm:∀n,(method (n+1) T v name).run P w= .ok (fid,u) w)(hf:P.funcs[fid]? =some fn)(hb:fn.body.isNone=false)(hn:(fn.name== "runtime.NumGoroutine")=false)(ha:args.map (ev f)=vals):
   (execOp (ev f) ⟨dst,.call {callee:=.invoke x name,args:=args.toArray,argTypes:=at_},ty,pos,after,g⟩).run P w= .ok (.enter fid (u::vals).toArray) w:=by
 have ha:args.toArray.map (ev f)=vals.toArray:=by rw[<-ha];simp
 obtain⟨n,hn2⟩:=na (P:=P)
 have hm':=hm n
 rw[<-hn2] at hm'
 have h1:fn.name≠ "runtime.NumGoroutine" :=by simpa using hn
 have h2:fn.body≠none:=λe=>by rw[e] at hb;cases hb
 simp[execOp,resolve,invoke,callMethod,callFunc,hx,ha,hm',hf,h1,h2]
theorem eD{t:TypeId}{us:TypeDesc}(hs:P.underlying t=some us)(hi:(match us with| .interface _=>true|_=>false)=false)(hx:ev f x=v):(execOp (ev f) ⟨dst,.makeInterface t x,ty,pos,after,g⟩).run P w= .ok (.value (.iface t v)) w:=by
 subst hx
 cases us<;>first|(cases hi;done)|simp[execOp,Instr.makeInterface,bh hs]
theorem fP{s t:TypeId}{us:TypeDesc}(hs:P.underlying t=some us)(hi:(match us with| .interface _=>true|_=>false)=false)(hx:ev f x= .iface t v):(execOp (ev f) ⟨dst,.typeAssert x s t false,ty,pos,after,g⟩).run P w= .ok (.value v) w:=by
 cases us<;>first|(cases hi;done)|simp[execOp,Instr.typeAssert,bh hs,hx]
end
end TL
/-
  TlOrb: going round by a permutation; two places changed; what that does to the numbers of rounds.
  By an AI agent.
-/
set_option linter.all false
namespace TL
def tr(a b x:Int):Int:=if x=a then b else if x=b then a else x
end TL
/-
  TlDual: faces as nodes: the dual, corners' faces, edges laid, taken and split, ways over faces, as plain functions.
  By an AI agent.
-/
set_option linter.all false
namespace TL
def pK(g:dT)(r:gw)(c:Int×Int):Prop:=(0<=c.1/\c.1<g.1)/\if((gI r c.1).length:Int)=0 then c.2= -1 else c.2∈gI r c.1
instance (g:dT)(r:gw)(c:Int×Int):Decidable (pK g r c):=by unfold pK;infer_instance
end TL
namespace TL
end TL
namespace TL
end TL
namespace TL
section
variable{g:dT}{r:gw}{a b:Int×Int}
end
end TL
/-
  TlKru: edges of the least weight that join all that is joined (package path's Least): Kruskal's way by labels, and a forest of parents that agrees with the labels.
  By an AI agent.
-/
set_option linter.all false
namespace TL
def rc(ws:List Nat)(i:Int):Pl:=(zf (gI ws i),i)
def sa(ws:List Nat)(i k:Int):Prop:=qT (rc ws i) (rc ws k)
instance (ws:List Nat)(i k:Int):Decidable (sa ws i k):=by unfold sa;infer_instance
-- by labels
variable{n:Int}{of0 of c:List Int}{rho:Int->Nat}{v v0:Int}
end TL
namespace TL
variable{g:dT}{ws:List Nat}{of l:List Int}{k:Nat}
end TL
namespace TL
end TL
namespace TL
end TL
/-
  TlOnes: ways of weights 1, 0 and of none: as a walk breadth first goes.
  By an AI agent.
-/
set_option linter.all false
namespace TL
variable{g g1 g2:dT}{ws w1 w2:List Nat}{s v:Int}{f1 f2 far:List Nat}{b1 b2 by_:List Int}{r1 r2 rk:Int->Nat}{C:Nat}
end TL
namespace TL
variable{g:dT}{s:Int}
end TL
namespace TL
open Go
theorem mG{P:Program}{f:Fr}{w:World}{dst:Option Tmp}{ty:TypeId}{pos:String}{after:Array Edge}{g:Option (Nat×Bool)}{t t':TypeId}{x y:Operand}{op:BinOp}{k:IntKind}{m n r:Int}(hx:ev f x= .int k m)(hy:ev f y= .int k n)(h:binOp op t (.int k m) (.int k n)=pure (.int k r)):(execOp (ev f) ⟨dst,.binOp op t x y t',ty,pos,after,g⟩).run P w= .ok (.value (.int k r)) w:=
 bZ op x y hx hy (by rw[h];rfl)
end TL
namespace TL
variable{g:dT}{s v:Int}{on ze so:List Nat}{op:List Int}{i:Nat}
end TL
