/- Plain texts of this claim, part 2. By an AI agent. -/
import Derived.Test.YtmaclbnodbcniaaFpTlP1
import Derived.RowKit
/-
  TlFlo6: a task's pipes filled.
  By an AI agent.
-/
set_option linter.all false
namespace TL
variable{n2 s t v u w x y d B M k n most ak fl:Int}{W W' W0 W1:List bN}{O:List (List Int)}{P P' lv nx nx' far:List Int}{m f i:Nat}
abbrev gG:=List bN×List Int×List Int×List Int×Int
def ly(n2 s t ak:Int)(O:List (List Int)):Nat->Nat->List bN->List Int->List Int->List Int->Int->gG
  |0,_,W,P,far,nx,fl=>(W,P,far,nx,fl)
  |f+1,ph,W,P,far,nx,fl=>
    if ph=0 then
      if gI (c5 n2 s W O P) t=dh then(W,P,c5 n2 s W O P,nx,fl) else ly n2 s t ak O f 1 W (cT P (c5 n2 s W O P) (gI (c5 n2 s W O P) t)) (c5 n2 s W O P) nx fl
    else if ph=1 then ly n2 s t ak O f (if 0<=gI (br n2 s W O P).1 t then 2 else 0) W P (br n2 s W O P).1 (fk n2) fl
    else if 0<(pu n2 O P far t s ak W nx).1 then ly n2 s t ak O f 2 (pu n2 O P far t s ak W nx).2.1 P far (pu n2 O P far t s ak W nx).2.2 (fl+(pu n2 O P far t s ak W nx).1)
    else ly n2 s t ak O f 1 (pu n2 O P far t s ak W nx).2.1 P far (pu n2 O P far t s ak W nx).2.2 fl
structure pS(n2 s t ak B M:Int)(W0:List bN)(O:List (List Int)):Prop where
  sh:iO n2 W0 O
  s0:0<=s
  s1:s<n2
  t0:0<=t
  t1:t<n2
  st:s≠t
  n2b:n2<=5000
  hB:B=n2*1048576
  hM:M=1048576+B
  sum:di W0 (gI O s)=ak
  rb:∀w,dR W0 w->bG W0 w+bG W0 (bZ w)<=1048576
  rm:∀w,dR W0 w->0<=bG W0 w
  rd:∀w,dR W0 w->0<bG W0 w->0<=fa W0 w
  ab:ak<=1099511627776
structure rE(n2 s t:Int)(W0 W:List bN)(O:List (List Int))(fl:Int):Prop where
  sm:jR W0 W
  rm:∀w,dR W0 w->0<=bG W w
  sum:∀u,0<=u->u<n2->di W (gI O u)=di W0 (gI O u)-(if u=s then fl else 0)+(if u=t then fl else 0)
  f0:0<=fl
structure iK(n2 s t ak B M:Int)(W0:List bN)(O:List (List Int))(W:List bN)(P:List Int)(fl:Int):Prop where
  b:pS n2 s t ak B M W0 O
  d:fz n2 s B M W O P
  p:qT n2 s t P
  l:rE n2 s t W0 W O fl
structure m8(n2 s t ak B M:Int)(W0:List bN)(O:List (List Int))(R:gG)(f:Nat)(W:List bN)(P far nx:List Int)(fl:Int):Prop where
 i:iK n2 s t ak B M W0 O W P fl
 g:ly n2 s t ak O f 0 W P far nx fl=R
 m:5*(ak-fl).toNat+3<=f
structure oc(n2 s t ak B M:Int)(W0:List bN)(O:List (List Int))(R:gG)(f:Nat)(W:List bN)(P far nx:List Int)(fl:Int):Prop where
 i:iK n2 s t ak B M W0 O W P fl
 g:ly n2 s t ak O f 1 W P far nx fl=R
 m:(ZpW W P s t/\5*(ak-fl).toNat+2<=f)\/5*(ak-fl).toNat+4<=f
 ap:0<ak
structure mc(n2 s t ak B M:Int)(W0:List bN)(O:List (List Int))(R:gG)(f:Nat)(W:List bN)(P lv nx:List Int)(fl:Int):Prop where
 i:iK n2 s t ak B M W0 O W P fl
 u:nB n2 W O lv nx
 ll:(lv.length:Int)=n2
 g:ly n2 s t ak O f 2 W P lv nx fl=R
 m:((pm n2 s W P lv/\0<=gI lv t/\nx=fk n2)/\5*(ak-fl).toNat+1<=f)\/5*(ak-fl).toNat+5<=f
 ap:0<ak
theorem jq:∀(l:List Int),(∀w∈l,0<=bG W w)->0<=di W l
 |[],_=>Int.le_refl _
 |a::l,h=>by
   have:=h a (List.mem_cons_self ..)
   have:=jq l λw hw=>h w (List.mem_cons_of_mem _ hw)
   show 0<=bG W a+di W l
   omega
theorem kw:∀(l:List Int),(∀w∈l,0<=bG W w)->w∈l->0<bG W w->0<di W l
 |[],_,hw,_=>by cases hw
 |a::l,h,hw,hr=>by
   have h1:=h a (List.mem_cons_self ..)
   have h2:∀w∈l,0<=bG W w:=λw hw=>h w (List.mem_cons_of_mem _ hw)
   have h3:=jq l h2
   show 0<bG W a+di W l
   rcases List.mem_cons.1 hw with q|q
   · rw[q] at hr;omega
   · have:=kw l h2 q hr
     omega
theorem iK.le(h:iK n2 s t ak B M W0 O W P fl):fl<=ak/\di W (gI O s)=ak-fl:=by
 have h1:=h.l.sum s h.b.s0 h.b.s1
 rw[if_pos rfl,if_neg h.b.st,h.b.sum] at h1
 have h2:=jq (W:=W) (gI O s) λw hw=>h.l.rm w (h.b.sh.row s h.b.s0 h.b.s1 w hw).1
 omega
theorem iK.zp(h:iK n2 s t ak B M W0 O W P fl)(hz:ZpW W P s t):fl<ak:=by
 obtain⟨w,a1,a2,a3,_⟩:=kp (pv hz) h.b.st
 have hm:w∈gI O s:=by rw[<-a2];exact h.d.sh.all w a1
 have:=kw (W:=W) (gI O s) (λw hw=>h.l.rm w (h.b.sh.row s h.b.s0 h.b.s1 w hw).1) hm a3
 have:=h.le.2
 omega
theorem iK.pui(h:iK n2 s t ak B M W0 O W P fl)(hl:pm n2 s W P lv)(hn:pR n2 O nx):nB n2 W O lv nx:=by
 obtain⟨qu,hq⟩:=hl.l
 have:=h.b.s0
 have:=h.b.s1
 refine⟨h.d.sh,λw hw=>h.l.rm w (h.l.sm.inn.1 hw),hn,λv a b=>hq.top (by omega) a b,λw hw=>?_⟩
 have:=h.l.sm.rm w (h.l.sm.inn.1 hw)
 have:=h.b.rb w (h.l.sm.inn.1 hw)
 omega
theorem iK.room(h:iK n2 s t ak B M W0 O W P fl)(hw:dR W w):0<=bG W w/\bG W w<=1048576:=by
  have hw0:=h.l.sm.inn.1 hw
  have:=h.l.sm.rm w hw0
  have:=h.b.rb w hw0
  have:=h.l.rm w hw0
  have:=h.l.rm _ (h.b.sh.tw hw0)
  omega
theorem iK.push(h:iK n2 s t ak B M W0 O W P fl){r:Int×List bN×List Int}(e:qA n2 t s most W O P lv nx r):iK n2 s t ak B M W0 O r.2.1 P (fl+r.1):=by
 have hsh:=e.sm.sh h.d.sh
 refine⟨h.b,⟨hsh,⟨h.d.pt.pl,h.d.pt.pb,λw hw=>e.rm w (e.sm.inn.1 hw),λw hw hr=>?_⟩,h.d.s0,h.d.s1,h.d.b0,h.d.hM,h.d.hb⟩,h.p,⟨h.l.sm.trans e.sm,λw hw=>e.rm w (h.l.sm.inn.2 hw),λu a b=>?_,by have:=h.l.f0;have:=e.k0;omega⟩⟩
 · rw[e.sm.rd hw.1,e.sm.fr hw.1]
   rcases e.pos w (e.sm.inn.1 hw) hr with q|q
   · exact h.d.pt.rd w (e.sm.inn.1 hw) q
   · omega
 · rw[e.sum u a b,h.l.sum u a b]
   have hst:=h.b.st
   split<;>split<;>omega
theorem m8.pos{R:gG}(h:m8 n2 s t ak B M W0 O R f W P far nx fl):∃g,f=g+1:=⟨f-1,by have:=h.m;omega⟩
theorem m8.stop{R:gG}(h:m8 n2 s t ak B M W0 O R f W P far nx fl)(hs:gI (c5 n2 s W O P) t=dh):R=(W,P,c5 n2 s W O P,nx,fl):=by
 obtain⟨g,rfl⟩:=h.pos
 have hg:=h.g
 unfold ly at hg
 rw[if_pos rfl,if_pos hs] at hg
 exact hg.symm
theorem m8.go{R:gG}(h:m8 n2 s t ak B M W0 O R f W P far nx fl)(hs:¬gI (c5 n2 s W O P) t=dh):oc n2 s t ak B M W0 O R (f-1) W (cT P (c5 n2 s W O P) (gI (c5 n2 s W O P) t)) (c5 n2 s W O P) nx fl:=by
 have hm:=h.m
 obtain⟨g,rfl⟩:=h.pos
 have hg:=h.g
 unfold ly at hg
 rw[if_pos rfl,if_neg hs] at hg
 obtain⟨r1,r2,r3⟩:=jV h.i.d h.i.b.hB (fU h.i.d) h.i.p ⟨h.i.b.t0,h.i.b.t1⟩ hs
 have hi:iK n2 s t ak B M W0 O W (cT P (c5 n2 s W O P) (gI (c5 n2 s W O P) t)) fl:=⟨h.i.b,r1,r2,h.i.l⟩
 have:=hi.zp r3
 have:=h.i.l.f0
 exact⟨hi,hg,.inl ⟨r3,by omega⟩,by omega⟩
theorem fZ(hb:fz n2 s B M W O P):pm n2 s W P (br n2 s W O P).1:=by
 have hs:=hb.sh
 have n0:0<=n2:=by have:=hb.s0;have:=hb.s1;omega
 have row:∀(n i k:Nat) (v:Int) (lv qu:List Int),(gI O v).length=k+n->iI n2 s W O P (br n2 s W O P) lv qu i k v->jl n2 s W O P (br n2 s W O P) (((gI O v).drop k).foldl (fB W P v) (lv,qu)).1 (((gI O v).drop k).foldl (fB W P v) (lv,qu)).2 (i+1):=by
   intro n
   induction n with
   |zero=>
     intro i k v lv qu hn h
     rw[List.drop_eq_nil_of_le (by omega)]
     exact h.done (by omega)
   |succ n ih=>
     intro i k v lv qu hn h
     rw[eV (by omega),List.foldl_cons]
     unfold fB
     by_cases c:0<bG W (gI (gI O v) (k:Int))/\gI lv (bD W (gI (gI O v) (k:Int)))<0/\dm W P v (gI (gI O v) (k:Int))=0
     · rw[if_pos c]
       exact ih i (k+1) v _ _ (by omega) (h.yes hs (by omega) c.1 c.2.1 c.2.2 rfl rfl)
     · rw[if_neg c]
       exact ih i (k+1) v _ _ (by omega) (h.no (by omega) c)
 have go:∀(n i:Nat) (lv qu:List Int),n2.toNat=i+n->jl n2 s W O P (br n2 s W O P) lv qu i->pm n2 s W P (br n2 s W O P).1:=by
   intro n
   induction n with
   |zero=>
     intro i lv qu hn h
     have:=h.l.ql n0
     have hi:¬(i:Int)<qu.length:=by omega
     rw[<-h.fin hi]
     exact h.end_ hs hi
   |succ n ih=>
     intro i lv qu hn h
     by_cases c:(i:Int)<qu.length
     · have:=row (gI O (gI qu (i:Int))).length i 0 _ lv qu (by omega) (h.row c n0)
       rw[List.drop_zero] at this
       exact ih (i+1) _ _ (by omega) this
     · rw[<-h.fin c]
       exact h.end_ hs c
 exact go n2.toNat 0 _ _ (by omega) (jO hb.s0 hb.s1)
theorem oc.pos{R:gG}(h:oc n2 s t ak B M W0 O R f W P far nx fl):∃g,f=g+1:=⟨f-1,by rcases h.m with⟨_,q⟩|q<;>omega⟩
theorem oc.yes{R:gG}(h:oc n2 s t ak B M W0 O R f W P far nx fl)(hl:0<=gI (br n2 s W O P).1 t):mc n2 s t ak B M W0 O R (f-1) W P (br n2 s W O P).1 (fk n2) fl:=by
 have hm:5*(ak-fl).toNat+2<=f:=by rcases h.m with⟨_,q⟩|q<;>omega
 obtain⟨g,rfl⟩:=h.pos
 have hg:=h.g
 unfold ly at hg
 rw[if_neg (by decide),if_pos rfl,if_pos hl] at hg
 have hf:=fZ h.i.d
 have n0:0<=n2:=by have:=h.i.b.s0;have:=h.i.b.s1;omega
 exact⟨h.i,h.i.pui hf (qV n0),by obtain⟨qu,hq⟩:=hf.l;exact hq.ll,hg,.inl ⟨⟨hf,hl,rfl⟩,by omega⟩,h.ap⟩
theorem oc.no{R:gG}(h:oc n2 s t ak B M W0 O R f W P far nx fl)(hl:¬0<=gI (br n2 s W O P).1 t):m8 n2 s t ak B M W0 O R (f-1) W P (br n2 s W O P).1 (fk n2) fl:=by
 have hm:=h.m
 obtain⟨g,rfl⟩:=h.pos
 have hg:=h.g
 unfold ly at hg
 rw[if_neg (by decide),if_pos rfl,if_neg hl] at hg
 refine⟨h.i,hg,?_⟩
 rcases hm with⟨q,_⟩|q
 · exact absurd (pA (fZ h.i.d) q) hl
 · omega
theorem mc.pos{R:gG}(h:mc n2 s t ak B M W0 O R f W P lv nx fl):∃g,f=g+1:=⟨f-1,by rcases h.m with⟨_,q⟩|q<;>omega⟩
theorem mc.ok{R:gG}(h:mc n2 s t ak B M W0 O R f W P lv nx fl):qA n2 t s ak W O P lv nx (pu n2 O P lv t s ak W nx):=hL _ s ak W nx (by have:=h.ap;omega) h.u h.i.b.s0 h.i.b.s1
theorem mc.yes{R:gG}(h:mc n2 s t ak B M W0 O R f W P lv nx fl){r:Int×List bN×List Int}(hr:r=pu n2 O P lv t s ak W nx)(hp:0<r.1):mc n2 s t ak B M W0 O R (f-1) r.2.1 P lv r.2.2 (fl+r.1)/\f-1<f:=by
 have e:=h.ok
 have hm:=h.m
 obtain⟨g,rfl⟩:=h.pos
 have hg:=h.g
 unfold ly at hg
 rw[if_neg (by decide),if_neg (by decide)] at hg
 rw[<-hr] at e hg
 rw[if_pos hp] at hg
 have hi:=h.i.push e
 have h2:=hi.le.1
 refine⟨⟨hi,e.pui h.u,h.ll,hg,.inr ?_,h.ap⟩,by omega⟩
 rcases hm with⟨_,q⟩|q<;>omega
theorem mc.no{R:gG}(h:mc n2 s t ak B M W0 O R f W P lv nx fl){r:Int×List bN×List Int}(hr:r=pu n2 O P lv t s ak W nx)(hp:¬0<r.1):oc n2 s t ak B M W0 O R (f-1) r.2.1 P lv r.2.2 fl:=by
 have e:=h.ok
 have hm:=h.m
 obtain⟨g,rfl⟩:=h.pos
 have hg:=h.g
 unfold ly at hg
 rw[if_neg (by decide),if_neg (by decide)] at hg
 rw[<-hr] at e hg
 rw[if_neg hp] at hg
 have hi:=h.i.push e
 have hz:r.1=0:=by have:=e.k0;omega
 rw[hz,Int.add_zero] at hi
 refine⟨hi,hg,.inr ?_,h.ap⟩
 rcases hm with⟨⟨q1,q2,q3⟩,_⟩|q
 · subst q3
   have hu:=h.u
   have:=nc (P:=P) (most:=ak) hu q1 h.i.b.s0 h.i.b.s1 h.i.b.st h.i.b.t0 h.i.b.t1 q2 h.ap
   rw[<-hr] at this
   exact absurd this hp
 · omega
structure qB(n2 s t ak B M:Int)(W0:List bN)(O:List (List Int))(R:gG):Prop where
  i:iK n2 s t ak B M W0 O R.1 R.2.1 R.2.2.2.2
  far:R.2.2.1=c5 n2 s R.1 O R.2.1
  un:gI R.2.2.1 t=dh
theorem m8.stopE{R:gG}(h:m8 n2 s t ak B M W0 O R f W P far nx fl)(hs:gI (c5 n2 s W O P) t=dh):qB n2 s t ak B M W0 O R:=by
 have:=h.stop hs
 subst this
 exact⟨h.i,rfl,hs⟩
def fD(n2 s t ak:Int)(W:List bN)(O:List (List Int)):gG:=ly n2 s t ak O (5*ak.toNat+3) 0 W (List.replicate n2.toNat 0) (List.replicate n2.toNat 0) (List.replicate n2.toNat 0) 0
theorem pS.bd(h:pS n2 s t ak B M W0 O):fz n2 s B M W0 O (List.replicate n2.toNat 0):=by
 have h1:=h.n2b
 have h2:=h.hB
 have h3:=h.hM
 have h4:=h.s0
 have h5:=h.s1
 have z:∀v,0<=v->v<n2->gI (List.replicate n2.toNat (0:Int)) v=0:=λv a b=>dy a (by omega)
 refine⟨h.sh,⟨by simp;omega,λv a b=>by rw[z v a b];omega,h.rm,λw hw hr=>?_⟩,h4,h5,by omega,h3,?_⟩
 · have hf:=h.sh.fr hw
   have ht:=h.sh.to w hw
   unfold dm
   rw[z _ hf.1 hf.2,z _ ht.1 ht.2]
   have:=h.rd w hw hr
   omega
 · have hM:M<=5243928576:=by omega
   have hM0:0<=M:=by omega
   have e1:n2*M<=5000*5243928576:=Int.le_trans (Int.mul_le_mul_of_nonneg_right h1 hM0) (Int.mul_le_mul_of_nonneg_left hM (by decide))
   have e2:(5000:Int)*5243928576+5243928576<dh:=by decide
   omega
theorem pS.start(h:pS n2 s t ak B M W0 O):m8 n2 s t ak B M W0 O (fD n2 s t ak W0 O) (5*ak.toNat+3) W0 (List.replicate n2.toNat 0) (List.replicate n2.toNat 0) (List.replicate n2.toNat 0) 0:=by
 have h4:=h.s0
 have h5:=h.s1
 have z:∀v,0<=v->v<n2->gI (List.replicate n2.toNat (0:Int)) v=0:=λv a b=>dy a (by omega)
 refine⟨⟨h,h.bd,⟨z s h4 h5,λv a b=>by rw[z v a b,z t h.t0 h.t1];omega⟩,⟨.refl _,h.rm,λu _ _=>by simp,Int.le_refl _⟩⟩,rfl,by omega⟩
theorem oE(h:pS n2 s t ak B M W0 O):qB n2 s t ak B M W0 O (fD n2 s t ak W0 O):=by
 have nP:∀(f:Nat),(∀W P far nx fl,m8 n2 s t ak B M W0 O (fD n2 s t ak W0 O) f W P far nx fl->qB n2 s t ak B M W0 O (fD n2 s t ak W0 O))/\(∀W P far nx fl,oc n2 s t ak B M W0 O (fD n2 s t ak W0 O) f W P far nx fl->qB n2 s t ak B M W0 O (fD n2 s t ak W0 O))/\(∀W P far nx fl,mc n2 s t ak B M W0 O (fD n2 s t ak W0 O) f W P far nx fl->qB n2 s t ak B M W0 O (fD n2 s t ak W0 O)):=by
   intro f
   induction f with
   |zero=>exact⟨λ_ _ _ _ _ q=>by have:=q.pos;simp at this,λ_ _ _ _ _ q=>by have:=q.pos;simp at this,λ_ _ _ _ _ q=>by have:=q.pos;simp at this⟩
   |succ f ih=>
     obtain⟨i1,i2,i3⟩:=ih
     refine⟨λW P far nx fl q=>?_,λW P far nx fl q=>?_,λW P far nx fl q=>?_⟩
     · by_cases c:gI (c5 n2 s W O P) t=dh
       · exact q.stopE c
       · exact i2 _ _ _ _ _ (q.go c)
     · by_cases c:0<=gI (br n2 s W O P).1 t
       · exact i3 _ _ _ _ _ (q.yes c)
       · exact i1 _ _ _ _ _ (q.no c)
     · by_cases c:0<(pu n2 O P far t s ak W nx).1
       · exact i3 _ _ _ _ _ (q.yes rfl c).1
       · exact i2 _ _ _ _ _ (q.no rfl c)
 exact(nP _).1 _ _ _ _ _ h.start
end TL
/-
  TlFlo7: a task's pipes laid.
  By an AI agent.
-/
set_option linter.all false
namespace TL
abbrev dU:=Int×Int×Int×Int
variable{n2 N s t v u w x y d B M k:Int}{W W' W0 W1:List bN}{O:List (List Int)}{A E:List dU}{D:List Int}{m f i j:Nat}{a:dU}
def SP:Nat->(Nat->Int)->Int
  |0,_=>0
  |m+1,g=>SP m g+g m
theorem ck{g h:Nat->Int}:∀(m:Nat),(∀i,i<m->g i=h i)->SP m g=SP m h
 |0,_=>rfl
 |m+1,e=>by
   show SP m g+g m=SP m h+h m
   rw[ck m λi hi=>e i (by omega),e m (by omega)]
theorem mq{g h:Nat->Int}:∀(m:Nat),SP m (λi=>g i+h i)=SP m g+SP m h
 |0=>rfl
 |m+1=>by
   show SP m (λi=>g i+h i)+(g m+h m)=SP m g+g m+(SP m h+h m)
   rw[mq m];omega
theorem jm{g h:Nat->Int}:∀(m:Nat),SP m (λi=>g i-h i)=SP m g-SP m h
 |0=>rfl
 |m+1=>by
   show SP m (λi=>g i-h i)+(g m-h m)=SP m g+g m-(SP m h+h m)
   rw[jm m];omega
theorem fK:∀(m:Nat),SP m (λ_=>0)=0
 |0=>rfl
 |m+1=>by
   show SP m (λ_=>0)+0=0
   rw[fK m];rfl
theorem pE{g h:Nat->Int}:∀(m:Nat),(∀i,i<m->g i<=h i)->SP m g<=SP m h
 |0,_=>Int.le_refl _
 |m+1,e=>by
   show SP m g+g m<=SP m h+h m
   have:=pE m λi hi=>e i (by omega)
   have:=e m (by omega)
   omega
theorem kM{g:Nat->Int}:∀(m:Nat),(∀i,i<m->0<=g i)->SP m g=0->∀i,i<m->g i=0
 |0,_,_,i,hi=>by omega
 |m+1,e,h,i,hi=>by
   have h:SP m g+g m=0:=h
   have h1:=pE (g:=λ_=>0) (h:=g) m λi hi=>e i (by omega)
   rw[fK] at h1
   have h2:=e m (by omega)
   by_cases c:i=m
   · rw[c];omega
   · exact kM m (λi hi=>e i (by omega)) (by omega) i (by omega)
theorem ni{c:Int}{k:Nat}:∀(m:Nat),k<m->SP m (λi=>if i=k then c else 0)=c
 |0,h=>by omega
 |m+1,h=>by
   show SP m (λi=>if i=k then c else 0)+(if m=k then c else 0)=c
   by_cases q:m=k
   · rw[if_pos q,ck (h:=λ_=>0) m λi hi=>if_neg (by omega),fK];omega
   · rw[if_neg q,ni m (by omega)];omega
theorem nK{g:Nat->Int}(a:Nat):∀(b:Nat),SP (a+b) g=SP a g+SP b (λi=>g (a+i))
 |0=>by show SP a g=SP a g+0;omega
 |b+1=>by
   show SP (a+b) g+g (a+b)=SP a g+(SP b (λi=>g (a+i))+g (a+b))
   rw[nK a b];omega
def cP(c:List bN×List (List Int))(fr to room cost:Int):List bN×List (List Int):=
 ((c.1++[(to,room,cost)])++[(fr,0,-cost)],(c.2.set fr.toNat (gI c.2 fr++[(c.1.length:Int)])).set to.toNat (gI (c.2.set fr.toNat (gI c.2 fr++[(c.1.length:Int)])) to++[(c.1.length:Int)+1]))
def iU(c:List bN×List (List Int))(a:dU):List bN×List (List Int):=cP c a.1 a.2.1 a.2.2.1 a.2.2.2
def rf(n2:Int):List bN×List (List Int):=([],List.replicate n2.toNat [])
def iw(n2:Int)(E:List dU):List bN×List (List Int):=E.foldl iU (rf n2)
theorem hX:iw n2 (E++[a])=iU (iw n2 E) a:=by unfold iw;rw[List.foldl_append];rfl
def lu(E:List dU):Nat->Int->List Int
 |0,_=>[]
 |m+1,u=>(lu E m u++(if(gI E (m:Int)).1=u then[2*(m:Int)] else[]))++(if(gI E (m:Int)).2.1=u then[2*(m:Int)+1] else[])
def qR(n2:Int)(E:List dU):Prop:=∀a∈E,(0<=a.1/\a.1<n2)/\(0<=a.2.1/\a.2.1<n2)/\(0<=a.2.2.1/\a.2.2.1<=1048576)/\0<=a.2.2.2/\a.2.2.2<=1048576
structure kt(n2:Int)(E:List dU)(m:Nat)(c:List bN×List (List Int)):Prop where
 lw:c.1.length=2*m
 ol:(c.2.length:Int)=n2
 fw:∀i:Nat,i<m->gI c.1 (2*(i:Int))=((gI E (i:Int)).2.1,(gI E (i:Int)).2.2.1,(gI E (i:Int)).2.2.2)
 bw:∀i:Nat,i<m->gI c.1 (2*(i:Int)+1)=((gI E (i:Int)).1,0,-(gI E (i:Int)).2.2.2)
 row:∀u,0<=u->u<n2->gI c.2 u=lu E m u
theorem nX(n0:0<=n2):kt n2 E 0 (rf n2):=by
 refine⟨rfl,by unfold rf;simp;omega,λi hi=>by omega,λi hi=>by omega,λu a b=>?_⟩
 unfold rf
 exact dy a (by omega)
theorem kt.add{c:List bN×List (List Int)}(h:kt n2 E m c)(hr:qR n2 E)(hm:(m:Int)<E.length):kt n2 E (m+1) (iU c (gI E (m:Int))):=by
 obtain⟨⟨f0,f1⟩,⟨t0,t1⟩,_,_⟩:=hr _ (bo (xs:=E) (i:=(m:Int)) (by omega) hm)
 have hl:=h.lw
 have hol:=h.ol
 have e1:∀i:Int,0<=i->i<2*(m:Int)->gI (iU c (gI E (m:Int))).1 i=gI c.1 i:=λi a b=>by
   show gI ((c.1++[_])++[_]) i=_
   rw[jo (by rw[List.length_append,List.length_singleton];omega) a,jo (by omega) a]
 have e2:gI (iU c (gI E (m:Int))).1 (2*(m:Int))=((gI E (m:Int)).2.1,(gI E (m:Int)).2.2.1,(gI E (m:Int)).2.2.2):=by
   show gI ((c.1++[_])++[_]) _=_
   rw[jo (by rw[List.length_append,List.length_singleton];omega) (by omega),show 2*(m:Int)=(c.1.length:Int) by omega,kN]
 have e3:gI (iU c (gI E (m:Int))).1 (2*(m:Int)+1)=((gI E (m:Int)).1,0,-(gI E (m:Int)).2.2.2):=by
   show gI ((c.1++[((gI E (m:Int)).2.1,(gI E (m:Int)).2.2.1,(gI E (m:Int)).2.2.2)])++[_]) _=_
   rw[show 2*(m:Int)+1=((c.1++[((gI E (m:Int)).2.1,(gI E (m:Int)).2.2.1,(gI E (m:Int)).2.2.2)]).length:Int) by rw[List.length_append,List.length_singleton];omega,kN]
 refine⟨by show((c.1++[_])++[_]).length=_;simp;omega,by show((List.set _ _ _).length:Int)=_;simp;omega,λi hi=>?_,λi hi=>?_,λu a b=>?_⟩
 · by_cases q:i=m
   · rw[q];exact e2
   · rw[e1 _ (by omega) (by omega)];exact h.fw i (by omega)
 · by_cases q:i=m
   · rw[q];exact e3
   · rw[e1 _ (by omega) (by omega)];exact h.bw i (by omega)
 · show gI ((c.2.set (gI E (m:Int)).1.toNat (gI c.2 (gI E (m:Int)).1++[(c.1.length:Int)])).set (gI E (m:Int)).2.1.toNat (gI (c.2.set (gI E (m:Int)).1.toNat (gI c.2 (gI E (m:Int)).1++[(c.1.length:Int)])) (gI E (m:Int)).2.1++[(c.1.length:Int)+1])) u=(lu E m u++(if(gI E (m:Int)).1=u then[2*(m:Int)] else[]))++(if(gI E (m:Int)).2.1=u then[2*(m:Int)+1] else[])
   have es:∀z,0<=z->z<n2->gI (c.2.set (gI E (m:Int)).1.toNat (gI c.2 (gI E (m:Int)).1++[(c.1.length:Int)])) z=lu E m z++(if(gI E (m:Int)).1=z then[2*(m:Int)] else[]):=λz z0 z1=>by
     rw[cw f0 (by omega) z0]
     by_cases q:z=(gI E (m:Int)).1
     · rw[if_pos q,if_pos q.symm,h.row _ f0 f1,q,show(c.1.length:Int)=2*(m:Int) by omega]
     · rw[if_neg q,if_neg (λe=>q e.symm),List.append_nil];exact h.row z z0 z1
   rw[cw t0 (by rw[List.length_set];omega) a]
   by_cases q:u=(gI E (m:Int)).2.1
   · rw[if_pos q,if_pos q.symm,es _ t0 t1,q,show(c.1.length:Int)+1=2*(m:Int)+1 by omega]
   · rw[if_neg q,es u a b]
     have:(if(gI E (m:Int)).2.1=u then[2*(m:Int)+1] else[])=[]:=if_neg λe=>q e.symm
     rw[this,List.append_nil]
theorem jx(n0:0<=n2)(hr:qR n2 E):∀(m:Nat),m<=E.length->kt n2 E m (iw n2 (E.take m))
 |0,_=>by
   rw[List.take_zero]
   exact nX n0
 |m+1,h=>by
   rw[cN (by omega),hX]
   exact(jx n0 hr m (by omega)).add hr (by omega)
theorem pZ(n0:0<=n2)(hr:qR n2 E):kt n2 E E.length (iw n2 E):=by
 have:=jx n0 hr E.length (Nat.le_refl _)
 rwa[List.take_length] at this
theorem g7:∀(m:Nat),w∈lu E m u↔∃i:Nat,i<m/\((w=2*(i:Int)/\(gI E (i:Int)).1=u)\/(w=2*(i:Int)+1/\(gI E (i:Int)).2.1=u))
 |0=>by
   constructor
   · intro h;cases h
   · rintro⟨i,h,_⟩;omega
 |m+1=>by
   unfold lu
   rw[List.mem_append,List.mem_append,g7 m]
   constructor
   · rintro((⟨i,h1,h2⟩|h)|h)
     · exact⟨i,by omega,h2⟩
     · split at h
       · rename_i c;exact⟨m,by omega,.inl ⟨List.mem_singleton.1 h,c⟩⟩
       · cases h
     · split at h
       · rename_i c;exact⟨m,by omega,.inr ⟨List.mem_singleton.1 h,c⟩⟩
       · cases h
   · rintro⟨i,h1,h2⟩
     by_cases q:i=m
     · subst q
       rcases h2 with⟨a,b⟩|⟨a,b⟩
       · left;right;rw[if_pos b,a];simp
       · right;rw[if_pos b,a];simp
     · left;left;exact⟨i,by omega,h2⟩
theorem mL:∀(m:Nat),(lu E m u).Nodup
 |0=>List.nodup_nil
 |m+1=>by
   unfold lu
   have hb:∀w∈lu E m u,w<2*(m:Int):=λw hw=>by
     obtain⟨i,h1,h2⟩:=(g7 m).1 hw
     omega
   rw[List.nodup_append,List.nodup_append]
   refine⟨⟨mL m,by split<;>simp,λa ha b hb2 e=>?_⟩,by split<;>simp,λa ha b hb2 e=>?_⟩
   · have:=hb a ha
     split at hb2
     · have:=List.mem_singleton.1 hb2;omega
     · cases hb2
   · split at hb2
     · have h1:=List.mem_singleton.1 hb2
       rcases List.mem_append.1 ha with q|q
       · have:=hb a q;omega
       · split at q
         · have:=List.mem_singleton.1 q;omega
         · cases q
     · cases hb2
theorem l4{g:Int->Int}:∀(m:Nat),((lu E m u).map g).sum=SP m λi=>(if(gI E (i:Int)).1=u then g (2*(i:Int)) else 0)+(if(gI E (i:Int)).2.1=u then g (2*(i:Int)+1) else 0)
 |0=>rfl
 |m+1=>by
   show(((lu E m u++_)++_).map g).sum=_+_
   rw[List.map_append,List.map_append,List.sum_append,List.sum_append,l4 m]
   have e1:∀(c:Prop) [Decidable c] (z:Int),((if c then[z] else[]).map g).sum=if c then g z else 0:=λc _ z=>by
     by_cases q:c
     · rw[if_pos q,if_pos q];simp
     · rw[if_neg q,if_neg q];rfl
   rw[e1,e1];exact Int.add_assoc _ _ _
theorem eO(hw:0<=w)(hl:w<2*(m:Int)):∃i:Nat,i<m/\(w=2*(i:Int)\/w=2*(i:Int)+1):=⟨(w/2).toNat,by omega,by omega⟩
theorem eZ:bZ (2*(i:Int))=2*(i:Int)+1:=by unfold bZ;rw[if_pos (by omega)]
theorem iB:bZ (2*(i:Int)+1)=2*(i:Int):=by unfold bZ;rw[if_neg (by omega)];omega
theorem kt.sh{c:List bN×List (List Int)}(h:kt n2 E E.length c)(hr:qR n2 E)(hl:E.length<=25000):iO n2 c.1 c.2:=by
 have hlw:=h.lw
 have rg:∀i:Nat,i<E.length->_:=λi hi=>hr _ (bo (xs:=E) (i:=(i:Int)) (by omega) (by omega))
 have f1:∀i:Nat,i<E.length->bD c.1 (2*(i:Int))=(gI E (i:Int)).2.1:=λi hi=>congrArg Prod.fst (h.fw i hi)
 have f2:∀i:Nat,i<E.length->fa c.1 (2*(i:Int))=(gI E (i:Int)).2.2.2:=λi hi=>congrArg (λz=>z.2.2) (h.fw i hi)
 have b1:∀i:Nat,i<E.length->bD c.1 (2*(i:Int)+1)=(gI E (i:Int)).1:=λi hi=>congrArg Prod.fst (h.bw i hi)
 have b2:∀i:Nat,i<E.length->fa c.1 (2*(i:Int)+1)= -(gI E (i:Int)).2.2.2:=λi hi=>congrArg (λz=>z.2.2) (h.bw i hi)
 refine⟨by omega,h.ol,λw hw=>?_,λv v0 v1 w hw=>?_,λw hw=>?_,λv v0 v1=>?_,λw hw=>?_,by omega⟩
 · obtain⟨i,hi,q|q⟩:=eO (m:=E.length) hw.1 (by have:=hw.2;omega)
   · rw[q,f1 i hi];exact(rg i hi).2.1
   · rw[q,b1 i hi];exact(rg i hi).1
 · rw[h.row v v0 v1,g7] at hw
   obtain⟨i,hi,⟨q,e⟩|⟨q,e⟩⟩:=hw
   · refine⟨⟨by omega,by omega⟩,?_⟩
     unfold dz;rw[q,eZ,b1 i hi];exact e
   · refine⟨⟨by omega,by omega⟩,?_⟩
     unfold dz;rw[q,iB,f1 i hi];exact e
 · obtain⟨i,hi,q|q⟩:=eO (m:=E.length) hw.1 (by have:=hw.2;omega)
   · have e:dz c.1 w=(gI E (i:Int)).1:=by unfold dz;rw[q,eZ,b1 i hi]
     have:=(rg i hi).1
     rw[e,h.row _ this.1 this.2,g7]
     exact⟨i,hi,.inl ⟨q,rfl⟩⟩
   · have e:dz c.1 w=(gI E (i:Int)).2.1:=by unfold dz;rw[q,iB,f1 i hi]
     have:=(rg i hi).2.1
     rw[e,h.row _ this.1 this.2,g7]
     exact⟨i,hi,.inr ⟨q,rfl⟩⟩
 · rw[h.row v v0 v1];exact mL _
 · obtain⟨i,hi,q|q⟩:=eO (m:=E.length) hw.1 (by have:=hw.2;omega)
   · have:=(rg i hi).2.2.2
     rw[q,eZ,b2 i hi,f2 i hi];omega
   · have:=(rg i hi).2.2.2
     rw[q,iB,b2 i hi,f2 i hi];omega
end TL
/-
  TlFlo8: a task: what flows over its arcs; cuts.
  By an AI agent.
-/
set_option linter.all false
namespace TL
variable{n2 N s t v u w x y d B M k ak fl:Int}{W W' W0 W1:List bN}{O:List (List Int)}{A E:List dU}{D:List Int}{m f i j:Nat}{a:dU}{c:List bN×List (List Int)}
structure iJ(N:Int)(A:List dU)(D:List Int):Prop where
  n0:0<=N
  n1:N<=4096
  al:A.length<=16384
  dl:(D.length:Int)=N
  ar:∀a∈A,(0<=a.1/\a.1<N)/\(0<=a.2.1/\a.2.1<N)/\(0<=a.2.2.1/\a.2.2.1<=1048576)/\0<=a.2.2.2/\a.2.2.2<=1048576
  nd:∀x∈D,-1048576<=x/\x<=1048576
def lL(N v k:Int):List dU:=if 0<k then[(N,v,k,0)] else if k<0 then[(v,N+1,-k,0)] else[]
def fc(N:Int)(D:List Int):Nat->List dU
 |0=>[]
 |j+1=>fc N D j++lL N (j:Int) (gI D (j:Int))
def cE(N:Int)(A:List dU)(D:List Int):List dU:=A++fc N D N.toNat
def dx(D:List Int)(j:Nat):Int:=SP j λv=>if 0<gI D (v:Int) then gI D (v:Int) else 0
theorem lz:∀(j:Nat),(fc N D j).length<=j
 |0=>Nat.le_refl _
 |j+1=>by
   unfold fc lL
   have:=lz j
   rw[List.length_append]
   split
   · simp;omega
   · split
     · simp;omega
     · simp;omega
theorem mZ{F:dU->Int}:∀(n:Nat),n<=E.length->SP n (λi=>F (gI E (i:Int)))=((E.take n).map F).sum
 |0,_=>rfl
 |n+1,h=>by
   show SP n (λi=>F (gI E (i:Int)))+F (gI E (n:Int))=_
   rw[mZ n (by omega),cN (by omega),List.map_append,List.sum_append]
   simp
theorem jF{F:dU->Int}:SP E.length (λi=>F (gI E (i:Int)))=(E.map F).sum:=by
 have:=mZ (F:=F) (E:=E) E.length (Nat.le_refl _)
 rwa[List.take_length] at this
theorem kG{F:dU->Int}:∀(j:Nat),((fc N D j).map F).sum=SP j λv=>if 0<gI D (v:Int) then F (N,(v:Int),gI D (v:Int),0) else if gI D (v:Int)<0 then F ((v:Int),N+1,-gI D (v:Int),0) else 0
 |0=>rfl
 |j+1=>by
   show((fc N D j++lL N (j:Int) (gI D (j:Int))).map F).sum=_+_
   rw[List.map_append,List.sum_append,kG j]
   congr 1
   unfold lL
   show _=if 0<gI D (j:Int) then F (N,(j:Int),gI D (j:Int),0) else if gI D (j:Int)<0 then F ((j:Int),N+1,-gI D (j:Int),0) else 0
   by_cases q:0<gI D (j:Int)
   · rw[if_pos q,if_pos q];simp
   · rw[if_neg q,if_neg q]
     by_cases q2:gI D (j:Int)<0
     · rw[if_pos q2,if_pos q2];simp
     · rw[if_neg q2,if_neg q2];rfl
theorem n6{F:dU->Int}:SP (cE N A D).length (λi=>F (gI (cE N A D) (i:Int)))=SP A.length (λi=>F (gI A (i:Int)))+SP N.toNat λv=>if 0<gI D (v:Int) then F (N,(v:Int),gI D (v:Int),0) else if gI D (v:Int)<0 then F ((v:Int),N+1,-gI D (v:Int),0) else 0:=by
 rw[jF,jF]
 unfold cE
 rw[List.map_append,List.sum_append,kG]
theorem iJ.dat(h:iJ N A D)(v0:0<=v)(v1:v<N): -1048576<=gI D v/\gI D v<=1048576:=h.nd _ (bo v0 (by have:=h.dl;omega))
theorem gV:∀(j:Nat),a∈fc N D j->∃v:Nat,v<j/\((0<gI D (v:Int)/\a=(N,(v:Int),gI D (v:Int),0))\/(gI D (v:Int)<0/\a=((v:Int),N+1,-gI D (v:Int),0)))
 |0,h=>by cases h
 |j+1,h=>by
   unfold fc at h
   rcases List.mem_append.1 h with q|q
   · obtain⟨v,hv,r⟩:=gV j q
     exact⟨v,by omega,r⟩
   · unfold lL at q
     split at q
     · rename_i c;exact⟨j,by omega,.inl ⟨c,List.mem_singleton.1 q⟩⟩
     · split at q
       · rename_i c;exact⟨j,by omega,.inr ⟨c,List.mem_singleton.1 q⟩⟩
       · cases q
theorem iJ.rg(h:iJ N A D):qR (N+2) (cE N A D):=by
 have hn:=h.n0
 intro a ha
 rcases List.mem_append.1 ha with q|q
 · obtain⟨a1,a2,a3,a4⟩:=h.ar a q
   exact⟨by omega,by omega,a3,a4⟩
 · obtain⟨v,hv,⟨c,rfl⟩|⟨c,rfl⟩⟩:=gV _ q
   · have:=h.dat (v:=(v:Int)) (by omega) (by omega)
     exact⟨⟨hn,by show N<N+2;omega⟩,⟨by show(0:Int)<=v;omega,by show(v:Int)<N+2;omega⟩,⟨by show 0<=gI D (v:Int);omega,by show gI D (v:Int)<=_;omega⟩,Int.le_refl _,by show(0:Int)<=1048576;decide⟩
   · have:=h.dat (v:=(v:Int)) (by omega) (by omega)
     exact⟨⟨by show(0:Int)<=v;omega,by show(v:Int)<N+2;omega⟩,⟨by show 0<=N+1;omega,by show N+1<N+2;omega⟩,⟨by show 0<= -gI D (v:Int);omega,by show-gI D (v:Int)<=_;omega⟩,Int.le_refl _,by show(0:Int)<=1048576;decide⟩
theorem iJ.el(h:iJ N A D):(cE N A D).length<=20480:=by
 have:=lz (N:=N) (D:=D) N.toNat
 have:=h.al
 have:=h.n1
 unfold cE
 rw[List.length_append];omega
theorem iJ.ends(h:iJ N A D)(hi:i<(cE N A D).length):((gI (cE N A D) (i:Int)).2.1≠N/\(gI (cE N A D) (i:Int)).1≠N+1)/\(A.length<=i->(gI (cE N A D) (i:Int)).1=N\/(gI (cE N A D) (i:Int)).2.1=N+1):=by
  have hm:=bo (xs:=cE N A D) (i:=(i:Int)) (by omega) (by omega)
  have hn:=h.n0
  refine⟨?_,λhl=>?_⟩
  · rcases List.mem_append.1 hm with q|q
    · obtain⟨a1,a2,_⟩:=h.ar _ q
      exact⟨by omega,by omega⟩
    · obtain⟨v,hv,⟨_,e⟩|⟨_,e⟩⟩:=gV _ q
      · rw[e];exact⟨by show(v:Int)≠N;omega,by show N≠N+1;omega⟩
      · rw[e];exact⟨by show N+1≠N;omega,by show(v:Int)≠N+1;omega⟩
  · have:gI (cE N A D) (i:Int)∈fc N D N.toNat:=by
      have e:gI (cE N A D) (i:Int)=gI (fc N D N.toNat) ((i-A.length:Nat):Int):=by
        unfold cE gI
        rw[List.getD_eq_getElem?_getD,List.getD_eq_getElem?_getD,List.getElem?_append_right (by omega)]
        congr 2
      rw[e]
      unfold cE at hi
      rw[List.length_append] at hi
      exact bo (by omega) (by omega)
    obtain⟨v,hv,⟨_,e⟩|⟨_,e⟩⟩:=gV _ this
    · rw[e];exact .inl rfl
    · rw[e];exact .inr rfl
theorem fV(hi:i<A.length):gI (cE N A D) (i:Int)=gI A (i:Int):=by
 unfold cE gI
 rw[List.getD_eq_getElem?_getD,List.getD_eq_getElem?_getD,List.getElem?_append_left (by omega)]
theorem kt.rm{c:List bN×List (List Int)}(h:kt n2 E E.length c)(hi:i<E.length):bG c.1 (2*(i:Int))=(gI E (i:Int)).2.2.1/\bG c.1 (2*(i:Int)+1)=0:=⟨congrArg (λz=>z.2.1) (h.fw i hi),congrArg (λz=>z.2.1) (h.bw i hi)⟩
theorem kt.sum{c:List bN×List (List Int)}(h:kt n2 E E.length c)(u0:0<=u)(u1:u<n2)(W:List bN):di W (gI c.2 u)=SP E.length λi=>(if(gI E (i:Int)).1=u then bG W (2*(i:Int)) else 0)+(if(gI E (i:Int)).2.1=u then bG W (2*(i:Int)+1) else 0):=by
 unfold di
 rw[h.row u u0 u1,l4]
theorem jC(h:iJ N A D):∀(j:Nat),(j:Int)<=N->0<=dx D j/\dx D j<=(j:Int)*1048576
 |0,_=>⟨Int.le_refl _,Int.le_refl _⟩
 |j+1,hj=>by
   have:=jC h j (by omega)
   have:=h.dat (v:=(j:Int)) (by omega) (by omega)
   show 0<=dx D j+(if 0<gI D (j:Int) then gI D (j:Int) else 0)/\dx D j+(if 0<gI D (j:Int) then gI D (j:Int) else 0)<=_
   split<;>omega
theorem iJ.fib(h:iJ N A D){c:List bN×List (List Int)}(hc:kt (N+2) (cE N A D) (cE N A D).length c):pS (N+2) N (N+1) (dx D N.toNat) ((N+2)*1048576) (1048576+(N+2)*1048576) c.1 c.2:=by
 have hr:=h.rg
 have hn:=h.n0
 have hn1:=h.n1
 have hlw:=hc.lw
 have hel:=h.el
 have rg:∀i:Nat,i<(cE N A D).length->_:=λi hi=>hr _ (bo (xs:=cE N A D) (i:=(i:Int)) (by omega) (by omega))
 refine⟨hc.sh hr (by omega),hn,by omega,by omega,by omega,by omega,by omega,rfl,rfl,?_,λw hw=>?_,λw hw=>?_,λw hw hp=>?_,?_⟩
 · rw[hc.sum hn (by omega)]
   rw[ck (h:=λi=>(λa:dU=>if a.1=N then a.2.2.1 else 0) (gI (cE N A D) (i:Int))) _ λi hi=>?_]
   · rw[n6 (F:=λa:dU=>if a.1=N then a.2.2.1 else 0),ck (h:=λ_=>0) A.length λi hi=>?_,fK]
     · unfold dx
       rw[Int.zero_add]
       refine ck _ λv hv=>?_
       by_cases q:0<gI D (v:Int)
       · rw[if_pos q,if_pos q];exact if_pos rfl
       · rw[if_neg q,if_neg q]
         by_cases q2:gI D (v:Int)<0
         · rw[if_pos q2];exact if_neg (by show¬(v:Int)=N;omega)
         · rw[if_neg q2]
     · have:=(h.ar _ (bo (xs:=A) (i:=(i:Int)) (by omega) (by omega))).1
       exact if_neg (by omega)
   · obtain⟨e1,e2⟩:=hc.rm hi
     have:=(h.ends hi).1.1
     rw[e1,e2]
     show _=if(gI (cE N A D) (i:Int)).1=N then(gI (cE N A D) (i:Int)).2.2.1 else 0
     simp
 · obtain⟨i,hi,q|q⟩:=eO (m:=(cE N A D).length) hw.1 (by have:=hw.2;omega)
   · obtain⟨e1,e2⟩:=hc.rm hi
     have:=(rg i hi).2.2.1
     rw[q,eZ,e1,e2];omega
   · obtain⟨e1,e2⟩:=hc.rm hi
     have:=(rg i hi).2.2.1
     rw[q,iB,e1,e2];omega
 · obtain⟨i,hi,q|q⟩:=eO (m:=(cE N A D).length) hw.1 (by have:=hw.2;omega)
   · obtain⟨e1,e2⟩:=hc.rm hi
     have:=(rg i hi).2.2.1
     rw[q,e1];omega
   · obtain⟨e1,e2⟩:=hc.rm hi
     rw[q,e2];omega
 · obtain⟨i,hi,q|q⟩:=eO (m:=(cE N A D).length) hw.1 (by have:=hw.2;omega)
   · have:=(rg i hi).2.2.2
     have e:fa c.1 w=(gI (cE N A D) (i:Int)).2.2.2:=by rw[q];exact congrArg (λz=>z.2.2) (hc.fw i hi)
     omega
   · obtain⟨e1,e2⟩:=hc.rm hi
     rw[q,e2] at hp;omega
 · have:=jC h N.toNat (by omega)
   omega
def kV(E:List dU)(x:Nat->Int)(u:Int):Int:=SP E.length λi=>(if(gI E (i:Int)).1=u then x i else 0)-(if(gI E (i:Int)).2.1=u then x i else 0)
def xW(W:List bN)(i:Nat):Int:=bG W (2*(i:Int)+1)
theorem mI{c:List bN×List (List Int)}(hc:kt n2 E E.length c)(hl:rE n2 s t c.1 W c.2 fl)(hi:i<E.length):bG W (2*(i:Int))=(gI E (i:Int)).2.2.1-xW W i/\0<=xW W i/\xW W i<=(gI E (i:Int)).2.2.1:=by
 have hlw:=hc.lw
 have hw:dR c.1 (2*(i:Int)):=⟨by omega,by omega⟩
 have hw2:dR c.1 (2*(i:Int)+1):=⟨by omega,by omega⟩
 obtain⟨e1,e2⟩:=hc.rm hi
 have h1:=hl.sm.rm _ hw
 rw[eZ,e1,e2] at h1
 have h2:=hl.rm _ hw
 have h3:=hl.rm _ hw2
 unfold xW
 omega
theorem kJ{c:List bN×List (List Int)}(hc:kt n2 E E.length c)(hl:rE n2 s t c.1 W c.2 fl)(u0:0<=u)(u1:u<n2):kV E (xW W) u=(if u=s then fl else 0)-(if u=t then fl else 0):=by
 have h:=hl.sum u u0 u1
 rw[hc.sum u0 u1,hc.sum u0 u1] at h
 have:kV E (xW W) u=SP E.length (λi=>(if(gI E (i:Int)).1=u then bG c.1 (2*(i:Int)) else 0)+(if(gI E (i:Int)).2.1=u then bG c.1 (2*(i:Int)+1) else 0))-SP E.length (λi=>(if(gI E (i:Int)).1=u then bG W (2*(i:Int)) else 0)+(if(gI E (i:Int)).2.1=u then bG W (2*(i:Int)+1) else 0)):=by
   rw[<-jm]
   refine ck _ λi hi=>?_
   obtain⟨a1,a2,a3⟩:=mI hc hl hi
   obtain⟨e1,e2⟩:=hc.rm hi
   have e3:bG W (2*(i:Int)+1)=xW W i:=rfl
   rw[e1,e2,a1,e3]
   split<;>split<;>omega
 omega
end TL
/-
  TlFlo9: a flow of the least cost, or nodes whose needs are too great.
  By an AI agent.
-/
set_option linter.all false
namespace TL
variable{n2 N s t v u w y d B M k ak fl:Int}{W W' W0 W1:List bN}{O:List (List Int)}{A E:List dU}{D x z p:List Int}{m f i j:Nat}{a:dU}{c:List bN×List (List Int)}
def jL(N:Int)(A:List dU)(D:List Int):List bN×List (List Int):=iw (N+2) (cE N A D)
def dg(N:Int)(A:List dU)(D:List Int):gG:=fD (N+2) N (N+1) (dx D N.toNat) (jL N A D).1 (jL N A D).2
def e6(D:List Int):Int:=SP D.length λv=>gI D (v:Int)
def nb(N:Int)(A:List dU)(D:List Int):Prop:=e6 D=0/\(dg N A D).2.2.2.2=dx D N.toNat
def nA(N:Int)(A:List dU)(D:List Int):List Int:=(d9 A.length).map λi=>bG (dg N A D).1 (2*i+1)
def py(N:Int)(A:List dU)(D:List Int):List Int:=(dg N A D).2.1.take N.toNat
def qK(A:List dU)(x:List Int):Int:=SP A.length λi=>gI x (i:Int)*(gI A (i:Int)).2.2.2
def rS(N:Int)(A:List dU)(D:List Int):List Int:=(d9 N.toNat).filter λv=>decide (gI (dg N A D).2.2.1 v<dh)
structure rP(N:Int)(A:List dU)(D x:List Int):Prop where
  ln:x.length=A.length
  cap:∀i:Nat,i<A.length->0<=gI x (i:Int)/\gI x (i:Int)<=(gI A (i:Int)).2.2.1
  net:∀v,0<=v->v<N->kV A (λi=>gI x (i:Int)) v=gI D v
def rO(A:List dU)(x p:List Int):Prop:=∀i:Nat,i<A.length->(gI x (i:Int)<(gI A (i:Int)).2.2.1->0<=(gI A (i:Int)).2.2.2+gI p (gI A (i:Int)).1-gI p (gI A (i:Int)).2.1)/\(0<gI x (i:Int)->(gI A (i:Int)).2.2.2+gI p (gI A (i:Int)).1-gI p (gI A (i:Int)).2.1<=0)
theorem iJ.ld(h:iJ N A D):kt (N+2) (cE N A D) (cE N A D).length (jL N A D):=pZ (by have:=h.n0;omega) h.rg
theorem iJ.fi(h:iJ N A D):qB (N+2) N (N+1) (dx D N.toNat) ((N+2)*1048576) (1048576+(N+2)*1048576) (jL N A D).1 (jL N A D).2 (dg N A D):=oE (h.fib h.ld)
theorem lK(hi:i<A.length):gI (nA N A D) (i:Int)=xW (dg N A D).1 i:=by
 unfold nA
 rw[pd (by omega) (by simp[d9];omega),lB (by omega) (by omega)]
 rfl
theorem kP:(nA N A D).length=A.length:=by unfold nA;simp[d9]
theorem nY(hj:j<(fc N D N.toNat).length):gI (cE N A D) ((A.length+j:Nat):Int)=gI (fc N D N.toNat) (j:Int):=by
 unfold cE gI
 rw[List.getD_eq_getElem?_getD,List.getD_eq_getElem?_getD,List.getElem?_append_right (by omega)]
 congr 2
 omega
theorem rF(h:iJ N A D)(hok:nb N A D)(hi:i<(cE N A D).length)(hl:A.length<=i):xW (dg N A D).1 i=(gI (cE N A D) (i:Int)).2.2.1:=by
  obtain⟨o1,o2⟩:=hok
  have hc:=h.ld
  have he:=h.fi
  have hn:=h.n0
  have hs:=kJ hc he.i.l (u:=N) hn (by omega)
  have ht:=kJ hc he.i.l (u:=N+1) (by omega) (by omega)
  rw[if_pos rfl,if_neg (by omega),o2] at hs
  rw[if_neg (by omega),if_pos rfl,o2] at ht
  have hsum:=(h.fib hc).sum
  rw[hc.sum hn (by omega)] at hsum
  have bd:∀i,i<(cE N A D).length->_:=λi hi=>mI hc he.i.l hi
  rcases(h.ends hi).2 hl with q|q
  · have e1:SP (cE N A D).length (λi=>if(gI (cE N A D) (i:Int)).1=N then(gI (cE N A D) (i:Int)).2.2.1-xW (dg N A D).1 i else 0)=0:=by
      rw[ck (h:=λi=>((if(gI (cE N A D) (i:Int)).1=N then bG (jL N A D).1 (2*(i:Int)) else 0)+(if(gI (cE N A D) (i:Int)).2.1=N then bG (jL N A D).1 (2*(i:Int)+1) else 0))-((if(gI (cE N A D) (i:Int)).1=N then xW (dg N A D).1 i else 0)-(if(gI (cE N A D) (i:Int)).2.1=N then xW (dg N A D).1 i else 0))) _ λi hi=>?_]
      · rw[jm,hsum]
        unfold kV at hs
        rw[hs];omega
      · obtain⟨r1,r2⟩:=hc.rm hi
        have:=(h.ends hi).1.1
        rw[r1,if_neg this,if_neg this]
        split<;>omega
    have:=kM _ (λi hi=>by
      have:=bd i hi
      split<;>omega) e1 i hi
    rw[if_pos q] at this
    omega
  · have e2:SP (cE N A D).length (λi=>(λa:dU=>if a.2.1=N+1 then a.2.2.1 else 0) (gI (cE N A D) (i:Int)))=dx D N.toNat:=by
      rw[n6 (F:=λa:dU=>if a.2.1=N+1 then a.2.2.1 else 0),ck (h:=λ_=>0) A.length λi hi=>?_,fK]
      · have e3:dx D N.toNat-SP N.toNat (λv=>if 0<gI D (v:Int) then(if(v:Int)=N+1 then gI D (v:Int) else 0) else if gI D (v:Int)<0 then(if N+1=N+1 then-gI D (v:Int) else 0) else 0)=e6 D:=by
          unfold dx e6
          rw[<-jm,show D.length=N.toNat by have:=h.dl;omega]
          refine ck _ λv hv=>?_
          rw[if_neg (show¬(v:Int)=N+1 by omega),if_pos rfl]
          split
          · omega
          · split<;>omega
        show 0+SP N.toNat (λv=>if 0<gI D (v:Int) then(if(v:Int)=N+1 then gI D (v:Int) else 0) else if gI D (v:Int)<0 then(if N+1=N+1 then-gI D (v:Int) else 0) else 0)=_
        omega
      · have:=(h.ar _ (bo (xs:=A) (i:=(i:Int)) (by omega) (by omega))).2.1
        exact if_neg (by omega)
    have e1:SP (cE N A D).length (λi=>if(gI (cE N A D) (i:Int)).2.1=N+1 then(gI (cE N A D) (i:Int)).2.2.1-xW (dg N A D).1 i else 0)=0:=by
      rw[ck (h:=λi=>(if(gI (cE N A D) (i:Int)).2.1=N+1 then(gI (cE N A D) (i:Int)).2.2.1 else 0)+((if(gI (cE N A D) (i:Int)).1=N+1 then xW (dg N A D).1 i else 0)-(if(gI (cE N A D) (i:Int)).2.1=N+1 then xW (dg N A D).1 i else 0))) _ λi hi=>?_]
      · unfold kV at ht
        rw[mq,e2,ht];omega
      · have:=(h.ends hi).1.2
        rw[if_neg this]
        split<;>omega
    have:=kM _ (λi hi=>by
      have:=bd i hi
      split<;>omega) e1 i hi
    rw[if_pos q] at this
    omega
theorem qJ(h:iJ N A D)(hok:nb N A D):rP N A D (nA N A D):=by
 have hc:=h.ld
 have he:=h.fi
 have hn:=h.n0
 refine⟨kP,λi hi=>?_,λv v0 v1=>?_⟩
 · rw[lK hi]
   have:=mI hc he.i.l (i:=i) (by unfold cE;rw[List.length_append];omega)
   rw[fV hi] at this
   exact this.2
 · have hv:=kJ hc he.i.l (u:=v) v0 (by omega)
   rw[if_neg (by omega),if_neg (by omega)] at hv
   unfold kV at hv ⊢
   have hlen:(cE N A D).length=A.length+(fc N D N.toNat).length:=by unfold cE;rw[List.length_append]
   rw[hlen,nK] at hv
   have e1:SP A.length (λi=>(if(gI (cE N A D) (i:Int)).1=v then xW (dg N A D).1 i else 0)-(if(gI (cE N A D) (i:Int)).2.1=v then xW (dg N A D).1 i else 0))=SP A.length (λi=>(if(gI A (i:Int)).1=v then gI (nA N A D) (i:Int) else 0)-(if(gI A (i:Int)).2.1=v then gI (nA N A D) (i:Int) else 0)):=by
     refine ck _ λi hi=>?_
     rw[fV hi,lK hi]
   rw[e1] at hv
   have e2:SP (fc N D N.toNat).length (λj=>(if(gI (cE N A D) ((A.length+j:Nat):Int)).1=v then xW (dg N A D).1 (A.length+j) else 0)-(if(gI (cE N A D) ((A.length+j:Nat):Int)).2.1=v then xW (dg N A D).1 (A.length+j) else 0))=SP (fc N D N.toNat).length (λj=>(λa:dU=>(if a.1=v then a.2.2.1 else 0)-(if a.2.1=v then a.2.2.1 else 0)) (gI (fc N D N.toNat) (j:Int))):=by
     refine ck _ λj hj=>?_
     rw[rF h hok (by omega) (by omega),nY hj]
   rw[e2,jF (F:=λa:dU=>(if a.1=v then a.2.2.1 else 0)-(if a.2.1=v then a.2.2.1 else 0)),kG] at hv
   have e3:SP N.toNat (λu=>if 0<gI D (u:Int) then(if N=v then gI D (u:Int) else 0)-(if(u:Int)=v then gI D (u:Int) else 0) else if gI D (u:Int)<0 then(if(u:Int)=v then-gI D (u:Int) else 0)-(if N+1=v then-gI D (u:Int) else 0) else 0)= -gI D v:=by
     rw[ck (h:=λu=>if u=v.toNat then-gI D v else 0) _ λu hu=>?_,ni _ (by omega)]
     rw[if_neg (show¬N=v by omega),if_neg (show¬N+1=v by omega)]
     by_cases q:(u:Int)=v
     · rw[if_pos q,if_pos q,if_pos (show u=v.toNat by omega),q]
       split
       · omega
       · split<;>omega
     · rw[if_neg q,if_neg q,if_neg (show¬u=v.toNat by omega)]
       split
       · omega
       · split<;>omega
   have fin:∀X Y:Int,X+Y=0-0->Y= -gI D v->X=gI D v:=λX Y a b=>by omega
   exact fin _ _ hv e3
theorem pY{xs:List Int}{n k:Nat}(h:k<n):gI (xs.take n) (k:Int)=gI xs (k:Int):=by
 unfold gI
 rw[List.getD_eq_getElem?_getD,List.getD_eq_getElem?_getD,List.getElem?_take,if_pos (by simpa using h)]
theorem mM(h:iJ N A D)(v0:0<=v)(v1:v<N):gI (py N A D) v=gI (dg N A D).2.1 v:=by
 have:=pY (xs:=(dg N A D).2.1) (n:=N.toNat) (k:=v.toNat) (by omega)
 rw[show((v.toNat:Nat):Int)=v by omega] at this
 exact this
theorem nj(h:iJ N A D):((py N A D).length:Int)=N:=by
 have:=h.fi.i.d.pt.pl
 have:=h.n0
 unfold py
 rw[List.length_take];omega
theorem r6(h:iJ N A D):∀p∈py N A D,0<=p/\p<=1099511627776:=λp hp=>by
 obtain⟨i,hi,e⟩:=List.mem_iff_getElem.1 hp
 have hl:=nj h
 have:=h.fi.i.d.pt.pb (i:Int) (by omega) (by omega)
 have h2:=mM h (v:=(i:Int)) (by omega) (by omega)
 have e4:∀(L:List Int) (j:Nat) (hj:j<L.length),gI L (j:Int)=L[j]:=λL j hj=>by simp[gI,hj]
 rw[e4 _ i hi,e] at h2
 have:=h.n1
 rw[h2];omega
theorem qU(h:iJ N A D):rO A (nA N A D) (py N A D):=λi hi=>by
 have hc:=h.ld
 have he:=h.fi
 have hlw:=hc.lw
 have hlen:(cE N A D).length=A.length+(fc N D N.toNat).length:=by unfold cE;rw[List.length_append]
 have hie:i<(cE N A D).length:=by omega
 obtain⟨b1,b2,b3⟩:=mI hc he.i.l hie
 obtain⟨a1,a2,_⟩:=h.ar _ (bo (xs:=A) (i:=(i:Int)) (by omega) (by omega))
 have hst:=he.i.l.sm
 have t1:bD (dg N A D).1 (2*(i:Int))=(gI A (i:Int)).2.1:=by rw[hst.to _ (by omega),<-fV hi];exact congrArg Prod.fst (hc.fw i hie)
 have t2:bD (dg N A D).1 (2*(i:Int)+1)=(gI A (i:Int)).1:=by rw[hst.to _ (by omega),<-fV hi];exact congrArg Prod.fst (hc.bw i hie)
 have c1:fa (dg N A D).1 (2*(i:Int))=(gI A (i:Int)).2.2.2:=by rw[hst.cs _ (by omega),<-fV hi];exact congrArg (λz=>z.2.2) (hc.fw i hie)
 have c2:fa (dg N A D).1 (2*(i:Int)+1)= -(gI A (i:Int)).2.2.2:=by rw[hst.cs _ (by omega),<-fV hi];exact congrArg (λz=>z.2.2) (hc.bw i hie)
 have f1:dz (dg N A D).1 (2*(i:Int))=(gI A (i:Int)).1:=by unfold dz;rw[eZ];exact t2
 have f2:dz (dg N A D).1 (2*(i:Int)+1)=(gI A (i:Int)).2.1:=by unfold dz;rw[iB];exact t1
 have w1:dR (dg N A D).1 (2*(i:Int)):=hst.inn.2 ⟨by omega,by omega⟩
 have w2:dR (dg N A D).1 (2*(i:Int)+1):=hst.inn.2 ⟨by omega,by omega⟩
 have r1:=he.i.d.pt.rd _ w1
 have r2:=he.i.d.pt.rd _ w2
 unfold dm at r1 r2
 rw[t1,f1,c1,b1,fV hi] at r1
 rw[t2,f2,c2] at r2
 rw[lK hi,mM h a1.1 a1.2,mM h a2.1 a2.2]
 refine⟨λq=>r1 (by omega),λq=>?_⟩
 have:=r2 q
 omega
end TL
/-
  TlFlr: what layer 25 answers.
  By an AI agent.
-/
set_option linter.all false
namespace TL
abbrev iG:=Int×List dU×List Int
abbrev k9:=List Int×List Int×Int
variable{T:iG}{k j:Nat}
def gz(N:Int)(a:dU):Prop:=(0<=a.1/\a.1<N)/\(0<=a.2.1/\a.2.1<N)/\(0<=a.2.2.1/\a.2.2.1<=1048576)/\0<=a.2.2.2/\a.2.2.2<=1048576
instance {N:Int}{a:dU}:Decidable (gz N a):=by unfold gz;infer_instance
def cM(T:iG):Prop:=(0<=T.1/\T.1<=4096)/\T.2.1.length<=16384/\(T.2.2.length:Int)=T.1/\(∀a∈T.2.1,gz T.1 a)/\∀x∈T.2.2,-1048576<=x/\x<=1048576
instance:Decidable (cM T):=by unfold cM;infer_instance
def bP(T:iG):Bool:=decide (cM T)
theorem cM.my(h:cM T):iJ T.1 T.2.1 T.2.2:=⟨h.1.1,h.1.2,h.2.1,h.2.2.1,h.2.2.2.1,h.2.2.2.2⟩
theorem dF(h:¬cM T):bP T=false:=decide_eq_false h
theorem dr(h:cM T):bP T=true:=decide_eq_true h
theorem cC(h1:(k:Int)<(T.2.1.length:Int))(h:¬gz T.1 (gI T.2.1 (k:Int))):bP T=false:=dF λq=>h (q.2.2.2.1 _ (bo (by omega) h1))
theorem gb(h1:(k:Int)<(T.2.2.length:Int))(h:¬(-1048576<=gI T.2.2 (k:Int)/\gI T.2.2 (k:Int)<=1048576)):bP T=false:=dF λq=>h (q.2.2.2.2 _ (bo (by omega) h1))
theorem ku{N:Int}{A:List dU}(h:∀a∈A.take k,gz N a)(h1:(k:Int)<(A.length:Int))(hk:gz N (gI A (k:Int))):∀a∈A.take (k+1),gz N a:=by
 rw[cN h1]
 intro a ha
 rcases List.mem_append.1 ha with q|q
 · exact h a q
 · rw[List.mem_singleton.1 q];exact hk
def iV(x:Int):Prop:= -1048576<=x/\x<=1048576
theorem kC{D:List Int}(h:∀x∈D.take k,iV x)(h1:(k:Int)<(D.length:Int))(hk:iV (gI D (k:Int))):∀x∈D.take (k+1),iV x:=by
 rw[cN h1]
 intro a ha
 rcases List.mem_append.1 ha with q|q
 · exact h a q
 · rw[List.mem_singleton.1 q];exact hk
theorem kk(h0:(0<=T.1/\T.1<=4096)/\T.2.1.length<=16384/\(T.2.2.length:Int)=T.1)(h:∀a∈T.2.1.take k,gz T.1 a)(hk:¬(k:Int)<(T.2.1.length:Int))(h2:∀x∈T.2.2.take j,iV x)(hj:¬(j:Int)<(T.2.2.length:Int)):bP T=true:=by
 rw[List.take_of_length_le (by omega)] at h h2
 exact dr ⟨h0.1,h0.2.1,h0.2.2,h,h2⟩
instance {N:Int}{A:List dU}{D:List Int}:Decidable (nb N A D):=by unfold nb;infer_instance
def bK(T:iG):k9×Int:=if cM T then if nb T.1 T.2.1 T.2.2 then((nA T.1 T.2.1 T.2.2,py T.1 T.2.1 T.2.2,qK T.2.1 (nA T.1 T.2.1 T.2.2)),0) else(([],[],0),20) else(([],[],0),1)
def cB(T:iG):List Int×Int:=if cM T then if e6 T.2.2=0 then if(dg T.1 T.2.1 T.2.2).2.2.2.2=dx T.2.2 T.1.toNat then([],14) else(rS T.1 T.2.1 T.2.2,0) else([],0) else([],1)
theorem lR{D:List Int}{n:Int}(h:n=SP k λv=>gI D (v:Int)):n+gI D (k:Int)=SP (k+1) λv=>gI D (v:Int):=by subst h;rfl
theorem m6{D:List Int}{n:Int}(h:n=SP k λv=>gI D (v:Int))(h1:(k:Int)<=(D.length:Int))(hk:¬(k:Int)<(D.length:Int)):n=e6 D:=by
 have:k=D.length:=by omega
 subst this;exact h
theorem lc{D:List Int}(h:∀x∈D,-1048576<=x/\x<=1048576):∀(k:Nat),(k:Int)<=(D.length:Int)-> -(k:Int)*1048576<=SP k (λv=>gI D (v:Int))/\SP k (λv=>gI D (v:Int))<=(k:Int)*1048576
 |0,_=>⟨Int.le_refl _,Int.le_refl _⟩
 |k+1,hk=>by
   have:=lc h k (by omega)
   have:=h _ (bo (xs:=D) (i:=(k:Int)) (by omega) (by omega))
   show _<=SP k (λv=>gI D (v:Int))+gI D (k:Int)/\SP k (λv=>gI D (v:Int))+gI D (k:Int)<=_
   omega
def c8:iG:=(3,[(0,1,2,1),(1,2,2,1),(0,2,1,5)],[3,0,-3])
def rh:iG:=(3,[(0,1,2,1),(1,2,2,1),(0,2,1,5)],[4,0,-4])
theorem jH:∃p,bK c8=(([2,2,1],p,9),0):=⟨(bK c8).1.2.1,by decide+kernel⟩
theorem lf:cB rh=([0],0)\/cB rh=([0,1],0):=by decide+kernel
end TL
/-
  TlFlw: a task's pipes laid and filled, step by step.
  By an AI agent.
-/
set_option linter.all false
namespace TL
variable{T:iG}{k j m:Nat}{W W2:List bN}{O O2:List (List Int)}{n2 u v ak:Int}{E:List dU}
structure iH(T:iG)(m:Nat)(W:List bN)(O:List (List Int)):Prop where
  e:(W,O)=iw (T.1+2) ((cE T.1 T.2.1 T.2.2).take m)
  le:m<=(cE T.1 T.2.1 T.2.2).length
theorem iH.ld(h:iH T m W O)(hm:cM T):kt (T.1+2) (cE T.1 T.2.1 T.2.2) m (W,O):=by
 rw[h.e]
 exact jx (by have:=hm.1.1;omega) hm.my.rg m h.le
theorem lA:∀(m:Nat),(lu E m u).length<=2*m
 |0=>Nat.le_refl _
 |m+1=>by
   unfold lu
   have:=lA m
   rw[List.length_append,List.length_append]
   have h1:∀(c:Prop) [Decidable c] (z:Int),(if c then[z] else[]).length<=1:=λc _ z=>by split<;>simp
   have:=h1 ((gI E (m:Int)).1=u) (2*(m:Int))
   have:=h1 ((gI E (m:Int)).2.1=u) (2*(m:Int)+1)
   omega
theorem iH.lw(h:iH T m W O)(hm:cM T):W.length=2*m/\(O.length:Int)=T.1+2/\m<=20480:=by
 have h1:=h.ld hm
 have:=hm.my.el
 have:=h.le
 exact⟨h1.lw,h1.ol,by omega⟩
theorem iH.rl(h:iH T m W O)(hm:cM T)(u0:0<=u)(u1:u<T.1+2):(gI O u).length<=2*m:=by
 have:=(h.ld hm).row u u0 u1
 rw[show gI O u=lu (cE T.1 T.2.1 T.2.2) m u from this]
 exact lA m
theorem iH.start(hm:cM T):iH T 0 [] (List.replicate (T.1+2).toNat []):=⟨rfl,Nat.zero_le _⟩
theorem iH.next(h:iH T m W O){a:dU}(hl:m<(cE T.1 T.2.1 T.2.2).length)(ha:gI (cE T.1 T.2.1 T.2.2) (m:Int)=a)(e2:(W2,O2)=iU (W,O) a):iH T (m+1) W2 O2:=by
 refine⟨?_,hl⟩
 rw[cN (by omega),hX,<-h.e,ha,e2]
theorem gR(T:iG):(cE T.1 T.2.1 T.2.2).length=T.2.1.length+(fc T.1 T.2.2 T.1.toNat).length:=by unfold cE;rw[List.length_append]
theorem iH.arc(h:iH T k W O)(hk:(k:Int)<(T.2.1.length:Int))(e2:(W2,O2)=iU (W,O) (gI T.2.1 (k:Int))):iH T (k+1) W2 O2:=by
 have:=gR T
 exact h.next (by omega) (fV (by omega)) e2
theorem ls(N:Int)(D:List Int)(j:Nat):∀(n:Nat),∃l,fc N D (j+n)=fc N D j++l
 |0=>⟨[],(List.append_nil _).symm⟩
 |n+1=>by
   obtain⟨l,hl⟩:=ls N D j n
   exact⟨l++lL N ((j+n:Nat):Int) (gI D ((j+n:Nat):Int)),by
     show fc N D (j+n)++lL N ((j+n:Nat):Int) (gI D ((j+n:Nat):Int))=_
     rw[hl,List.append_assoc]⟩
def fA(T:iG)(j:Nat)(W:List bN)(O:List (List Int))(ak:Int):Prop:=iH T (T.2.1.length+(fc T.1 T.2.2 j).length) W O/\ak=dx T.2.2 j
theorem fA.start(h:iH T k W O)(h0:(k:Int)<=(T.2.1.length:Int))(hk:¬(k:Int)<(T.2.1.length:Int)):fA T 0 W O 0:=by
 have e:k=T.2.1.length:=by omega
 subst e
 exact⟨h,rfl⟩
theorem fA.at_(hm:cM T)(hj:(j:Int)<(T.2.2.length:Int)){a:dU}(ha:lL T.1 (j:Int) (gI T.2.2 (j:Int))=[a]):(fc T.1 T.2.2 (j+1)).length=(fc T.1 T.2.2 j).length+1/\T.2.1.length+(fc T.1 T.2.2 j).length<(cE T.1 T.2.1 T.2.2).length/\gI (cE T.1 T.2.1 T.2.2) ((T.2.1.length+(fc T.1 T.2.2 j).length:Nat):Int)=a:=by
 have h1:fc T.1 T.2.2 (j+1)=fc T.1 T.2.2 j++[a]:=by show _++_=_;rw[ha]
 obtain⟨l,hl⟩:=ls T.1 T.2.2 (j+1) (T.1.toNat-(j+1))
 have hdl:=hm.2.2.1
 rw[show j+1+(T.1.toNat-(j+1))=T.1.toNat by omega,h1] at hl
 have h2:=gR T
 have h3:(fc T.1 T.2.2 j).length<(fc T.1 T.2.2 T.1.toNat).length:=by rw[hl];simp
 refine⟨by rw[h1];simp,by omega,?_⟩
 rw[nY h3,hl]
 simp[gI]
theorem fA.plus(hm:cM T)(h:fA T j W O ak)(hj:(j:Int)<(T.2.2.length:Int))(hp:0<gI T.2.2 (j:Int))(e2:(W2,O2)=iU (W,O) (T.1,(j:Int),gI T.2.2 (j:Int),0)):fA T (j+1) W2 O2 (ak+gI T.2.2 (j:Int)):=by
 have ha:lL T.1 (j:Int) (gI T.2.2 (j:Int))=[(T.1,(j:Int),gI T.2.2 (j:Int),0)]:=by unfold lL;rw[if_pos hp]
 obtain⟨a1,a2,a3⟩:=fA.at_ hm hj ha
 refine⟨by rw[a1];exact h.1.next a2 a3 e2,?_⟩
 rw[h.2]
 show _=dx T.2.2 j+(if 0<gI T.2.2 (j:Int) then gI T.2.2 (j:Int) else 0)
 rw[if_pos hp]
theorem fA.minus(hm:cM T)(h:fA T j W O ak)(hj:(j:Int)<(T.2.2.length:Int))(hp:¬0<gI T.2.2 (j:Int))(hn:gI T.2.2 (j:Int)<0)(e2:(W2,O2)=iU (W,O) ((j:Int),T.1+1,-gI T.2.2 (j:Int),0)):fA T (j+1) W2 O2 ak:=by
 have ha:lL T.1 (j:Int) (gI T.2.2 (j:Int))=[((j:Int),T.1+1,-gI T.2.2 (j:Int),0)]:=by unfold lL;rw[if_neg hp,if_pos hn]
 obtain⟨a1,a2,a3⟩:=fA.at_ hm hj ha
 refine⟨by rw[a1];exact h.1.next a2 a3 e2,?_⟩
 rw[h.2]
 show _=dx T.2.2 j+(if 0<gI T.2.2 (j:Int) then gI T.2.2 (j:Int) else 0)
 rw[if_neg hp,Int.add_zero]
theorem fA.none(hm:cM T)(h:fA T j W O ak)(hj:(j:Int)<(T.2.2.length:Int))(hp:¬0<gI T.2.2 (j:Int))(hn:¬gI T.2.2 (j:Int)<0):fA T (j+1) W O ak:=by
 have ha:fc T.1 T.2.2 (j+1)=fc T.1 T.2.2 j:=by
   show _++lL T.1 (j:Int) (gI T.2.2 (j:Int))=_
   unfold lL;rw[if_neg hp,if_neg hn,List.append_nil]
 refine⟨by rw[ha];exact h.1,?_⟩
 rw[h.2]
 show _=dx T.2.2 j+(if 0<gI T.2.2 (j:Int) then gI T.2.2 (j:Int) else 0)
 rw[if_neg hp,Int.add_zero]
theorem fA.bd(hm:cM T)(h:fA T j W O ak)(hj:(j:Int)<=(T.2.2.length:Int)):0<=ak/\ak<=(j:Int)*1048576:=by
 rw[h.2]
 exact jC hm.my j (by have:=hm.2.2.1;omega)
theorem fA.done(hm:cM T)(h:fA T j W O ak)(h0:(j:Int)<=(T.2.2.length:Int))(hj:¬(j:Int)<(T.2.2.length:Int)):(W,O)=jL T.1 T.2.1 T.2.2/\ak=dx T.2.2 T.1.toNat:=by
  have e:j=T.1.toNat:=by have:=hm.2.2.1;omega
  subst e
  refine⟨?_,h.2⟩
  have:=h.1.e
  rw[<-gR T,List.take_length] at this
  exact this
open Go Go.Proofs in
theorem j5{γ:aE}{J:cd->Prop}{w:World}{b:Nat}{cs:List Value}(h:Bx γ J w b cs):Bx c0 (is 0) w b cs:=⟨rfl,h.2⟩
end TL
/-
  TlFlx: filling, as the walk goes through it.
  By an AI agent.
-/
set_option linter.all false
namespace TL
variable{n2 s t v u w x y d B M n most ak fl f0 f1:Int}{W W' W0:List bN}{O:List (List Int)}{P P' lv nx nx' far xs:List Int}{m f i k fu:Nat}{R:gG}
theorem fW{a b:List Int}(hl:a.length=b.length)(h:∀i:Nat,i<a.length->gI a (i:Int)=gI b (i:Int)):a=b:=by
 refine List.ext_getElem hl λi h1 h2=>?_
 have:=h i h1
 simpa[gI,h1,h2] using this
structure lI(n2:Int)(k:Nat)(xs:List Int):Prop where
  ln:(xs.length:Int)=n2
  at_:∀i:Nat,i<k->gI xs (i:Int)=dh
theorem lI.start(h:(xs.length:Int)=n2):lI n2 0 xs:=⟨h,λi hi=>by omega⟩
theorem lI.next(h:lI n2 k xs)(hk:(k:Int)<(xs.length:Int)):lI n2 (k+1) (xs.set (k:Int).toNat dh):=by
 refine⟨by rw[List.length_set];exact h.ln,λi hi=>?_⟩
 rw[cw (by omega) hk (by omega)]
 by_cases c:(i:Int)=(k:Int)
 · rw[if_pos c]
 · rw[if_neg c];exact h.at_ i (by omega)
theorem lI.done(h:lI n2 k xs)(hk:¬(k:Int)<(xs.length:Int))(hle:(k:Int)<=(xs.length:Int)):xs=List.replicate n2.toNat dh:=by
 have:=h.ln
 refine fW (by simp;omega) λi hi=>?_
 rw[h.at_ i (by omega),dy (by omega) (by omega)]
def cO(n2 s:Int)(W:List bN)(O:List (List Int))(P:List Int):List Int×List cx:=jE W O P (dK (dQ n2 s,[(0,s)])) (dQ n2 s,[(0,s)])
theorem pC(hb:fz n2 s B M W O P)(h:lI n2 k xs)(hk:¬(k:Int)<(xs.length:Int))(hle:(k:Int)<=(xs.length:Int)):i6 n2 s M W O P (cO n2 s W O P) (xs.set s.toNat 0) [(0,s)]:=by
 rw[h.done hk hle]
 exact i6.start hb
theorem i6.end_{q:List cx}(h:i6 n2 s M W O P (cO n2 s W O P) far q)(h0:¬0<(q.length:Int)):far=c5 n2 s W O P:=(h.fin (by omega)).1
structure kI(P far:List Int)(ft:Int)(k:Nat)(xs:List Int):Prop where
  ln:xs.length=P.length
  at_:∀i:Nat,i<P.length->gI xs (i:Int)=if i<k then gI P (i:Int)+min (gI far (i:Int)) ft else gI P (i:Int)
theorem kI.start{ft:Int}:kI P far ft 0 P:=⟨rfl,λi _=>by rw[if_neg (by omega)]⟩
theorem kI.now{ft:Int}(h:kI P far ft k xs)(hk:(k:Int)<(xs.length:Int)):gI xs (k:Int)=gI P (k:Int):=by
 have:=h.ln
 rw[h.at_ k (by omega),if_neg (by omega)]
theorem kI.next{ft z:Int}(h:kI P far ft k xs)(hk:(k:Int)<(xs.length:Int))(hz:z=gI xs (k:Int)+min (gI far (k:Int)) ft):kI P far ft (k+1) (xs.set (k:Int).toNat z):=by
 have hl:=h.ln
 refine⟨by rw[List.length_set];exact hl,λi hi=>?_⟩
 rw[cw (by omega) hk (by omega)]
 by_cases c:(i:Int)=(k:Int)
 · have:i=k:=by omega
   subst this
   rw[if_pos rfl,if_pos (by omega),hz,h.now hk]
 · rw[if_neg c,h.at_ i hi]
   by_cases c2:i<k
   · rw[if_pos c2,if_pos (by omega)]
   · rw[if_neg c2,if_neg (by omega)]
theorem kI.done{ft:Int}(h:kI P far ft k xs)(hk:¬(k:Int)<(xs.length:Int)):xs=cT P far ft:=by
 have hl:=h.ln
 refine fW (by rw[hl,ic]) λi hi=>?_
 rw[h.at_ i (by omega),if_pos (by omega),gK (by omega) (by omega)]
def j2(n2 s t ak B M:Int)(W0:List bN)(O:List (List Int))(R:gG)(W:List bN)(P far nx:List Int)(fl:Int):Prop:=∃f,m8 n2 s t ak B M W0 O R f W P far nx fl
def iL(n2 s t ak B M:Int)(W0:List bN)(O:List (List Int))(R:gG)(f0:Int)(W:List bN)(P far nx:List Int)(fl:Int):Prop:=(∃f,oc n2 s t ak B M W0 O R f W P far nx fl)/\(f0<fl\/f0=fl/\ZpW W P s t)
def jT(n2 s t ak B M:Int)(W0:List bN)(O:List (List Int))(R:gG)(f1:Int)(W:List bN)(P lv nx:List Int)(fl:Int):Prop:=(∃f,mc n2 s t ak B M W0 O R f W P lv nx fl)/\(f1<fl\/f1=fl/\pm n2 s W P lv/\0<=gI lv t/\nx=fk n2)
theorem j2.stop(h:j2 n2 s t ak B M W0 O R W P far nx fl)(hs:gI (c5 n2 s W O P) t=dh):R=(W,P,c5 n2 s W O P,nx,fl):=by
 obtain⟨f,hf⟩:=h
 exact hf.stop hs
theorem j2.go(h:j2 n2 s t ak B M W0 O R W P far nx fl)(hs:¬gI (c5 n2 s W O P) t=dh):iL n2 s t ak B M W0 O R fl W (cT P (c5 n2 s W O P) (gI (c5 n2 s W O P) t)) (c5 n2 s W O P) nx fl:=by
 obtain⟨f,hf⟩:=h
 obtain⟨r1,r2,r3⟩:=jV hf.i.d hf.i.b.hB (fU hf.i.d) hf.i.p ⟨hf.i.b.t0,hf.i.b.t1⟩ hs
 exact⟨⟨_,hf.go hs⟩,.inr ⟨rfl,r3⟩⟩
theorem j2.ii(h:j2 n2 s t ak B M W0 O R W P far nx fl):iK n2 s t ak B M W0 O W P fl:=by
 obtain⟨f,hf⟩:=h
 exact hf.i
theorem iL.ii(h:iL n2 s t ak B M W0 O R f0 W P far nx fl):iK n2 s t ak B M W0 O W P fl:=by
 obtain⟨⟨f,hf⟩,_⟩:=h
 exact hf.i
theorem jT.ii(h:jT n2 s t ak B M W0 O R f1 W P lv nx fl):iK n2 s t ak B M W0 O W P fl:=by
 obtain⟨⟨f,hf⟩,_⟩:=h
 exact hf.i
theorem iL.yes(h:iL n2 s t ak B M W0 O R f0 W P far nx fl)(hl:0<=gI (br n2 s W O P).1 t):jT n2 s t ak B M W0 O R fl W P (br n2 s W O P).1 (fk n2) fl:=by
 obtain⟨⟨f,hf⟩,_⟩:=h
 exact⟨⟨_,hf.yes hl⟩,.inr ⟨rfl,fZ hf.i.d,hl,rfl⟩⟩
theorem iL.no(h:iL n2 s t ak B M W0 O R f0 W P far nx fl)(hl:¬0<=gI (br n2 s W O P).1 t):j2 n2 s t ak B M W0 O R W P (br n2 s W O P).1 (fk n2) fl/\f0<fl:=by
 obtain⟨⟨f,hf⟩,h2⟩:=h
 refine⟨⟨_,hf.no hl⟩,?_⟩
 rcases h2 with q|⟨_,q⟩
 · exact q
 · exact absurd (pA (fZ hf.i.d) q) hl
theorem jT.yes(h:jT n2 s t ak B M W0 O R f1 W P lv nx fl){r:Int×List bN×List Int}(hr:r=pu n2 O P lv t s ak W nx)(hp:0<r.1):jT n2 s t ak B M W0 O R f1 r.2.1 P lv r.2.2 (fl+r.1):=by
 obtain⟨⟨f,hf⟩,h2⟩:=h
 exact⟨⟨_,(hf.yes hr hp).1⟩,.inl (by rcases h2 with q|⟨q,_⟩<;>omega)⟩
theorem jT.no(h:jT n2 s t ak B M W0 O R f1 W P lv nx fl){r:Int×List bN×List Int}(hr:r=pu n2 O P lv t s ak W nx)(hp:¬0<r.1)(h0:f0<=f1):iL n2 s t ak B M W0 O R f0 r.2.1 P lv r.2.2 fl/\f1<fl:=by
 obtain⟨⟨f,hf⟩,h2⟩:=h
 have h3:f1<fl:=by
   rcases h2 with q|⟨q,q1,q2,q3⟩
   · exact q
   · subst q3
     have:=nc (P:=P) (most:=ak) hf.u q1 hf.i.b.s0 hf.i.b.s1 hf.i.b.st hf.i.b.t0 hf.i.b.t1 q2 hf.ap
     rw[<-hr] at this
     exact absurd this hp
 exact⟨⟨⟨_,hf.no hr hp⟩,.inl (by omega)⟩,h3⟩
structure ow(n2 t:Int)(O:List (List Int))(P lv:List Int)(fu:Nat)(v most:Int)(W:List bN)(nx:List Int):Prop where
  i:nB n2 W O lv nx
  mu:er n2 O nx lv v<=fu
  v0:0<=v
  v1:v<n2
  m0:0<=most
  m1:most<=1099511627776
  t0:0<=t
  t1:t<n2
  pl:(P.length:Int)=n2
  ll:(lv.length:Int)=n2
  pb:∀v,0<=v->v<n2->0<=gI P v/\gI P v<=1099511627776
  n2b:n2<=5000
theorem jT.pun(h:jT n2 s t ak B M W0 O R f1 W P lv nx fl):ow n2 t O P lv (er n2 O nx lv s) s ak W nx:=by
 obtain⟨⟨f,hf⟩,_⟩:=h
 have hn:=hf.i.b.n2b
 have hB:=hf.i.b.hB
 refine⟨hf.u,Nat.le_refl _,hf.i.b.s0,hf.i.b.s1,by have:=hf.ap;omega,hf.i.b.ab,hf.i.b.t0,hf.i.b.t1,hf.i.d.pt.pl,hf.ll,λv a b=>?_,hn⟩
 have:=hf.i.d.pt.pb v a b
 omega
def gW(n2 t v most:Int)(O:List (List Int))(P lv:List Int)(fu:Nat)(R:Int×List bN×List Int)(W:List bN)(nx:List Int):Prop:=∃f,f<=fu/\jA n2 t v most O P lv R f W nx
theorem gW.start(h:ow n2 t O P lv fu v most W nx)(hv:¬v=t):gW n2 t v most O P lv fu (ct O P lv t fu v most W nx) W nx:=⟨fu,Nat.le_refl _,⟨h.i,h.mu,h.v0,h.v1,h.m0,hv,rfl⟩⟩
theorem mS(h:ow n2 t O P lv fu v most W nx)(hv:v=t):ct O P lv t fu v most W nx=(most,W,nx):=by
 have h1:=h.mu
 have h2:=(h.i.lv v h.v0 h.v1).2
 obtain⟨g,rfl⟩:∃g,fu=g+1:=⟨fu-1,by unfold er at h1;omega⟩
 unfold ct
 rw[if_pos hv]
end TL
/-
  TlFly: levels and pushes, as the walk goes through them.
  By an AI agent.
-/
set_option linter.all false
namespace TL
variable{n2 s t v u w x y d B M n most ak fl f0 f1 rr pn:Int}{W W' W0 xW:List bN}{O:List (List Int)}{P P' lv nx nx' far xs ys xn Nn:List Int}{m f i k fu:Nat}{R:gG}{Q:Int×List bN×List Int}
structure li(n2:Int)(k:Nat)(xs ys:List Int):Prop where
  l1:(xs.length:Int)=n2
  l2:(ys.length:Int)=n2
  at_:∀i:Nat,i<k->gI xs (i:Int)= -1/\gI ys (i:Int)=0
theorem li.start(h:(xs.length:Int)=n2)(h2:(ys.length:Int)=n2):li n2 0 xs ys:=⟨h,h2,λi hi=>by omega⟩
theorem li.next(h:li n2 k xs ys)(hk:(k:Int)<(xs.length:Int)):li n2 (k+1) (xs.set (k:Int).toNat (-1)) (ys.set (k:Int).toNat 0):=by
 have h1:=h.l1
 have h2:=h.l2
 refine⟨by rw[List.length_set];exact h.l1,by rw[List.length_set];exact h.l2,λi hi=>?_⟩
 rw[cw (by omega) hk (by omega),cw (by omega) (by omega) (by omega)]
 by_cases c:(i:Int)=(k:Int)
 · rw[if_pos c,if_pos c];exact⟨rfl,rfl⟩
 · rw[if_neg c,if_neg c];exact h.at_ i (by omega)
theorem li.done(h:li n2 k xs ys)(hk:¬(k:Int)<(xs.length:Int)):xs=List.replicate n2.toNat (-1)/\ys=fk n2:=by
 have h1:=h.l1
 have h2:=h.l2
 refine⟨fW (by simp;omega) λi hi=>?_,fW (by unfold fk;simp;omega) λi hi=>?_⟩
 · rw[(h.at_ i (by omega)).1,dy (by omega) (by omega)]
 · unfold fk
   rw[(h.at_ i (by omega)).2,dy (by omega) (by omega)]
theorem pw(s0:0<=s)(s1:s<n2)(h:li n2 k xs ys)(hk:¬(k:Int)<(xs.length:Int)):jl n2 s W O P (br n2 s W O P) (xs.set s.toNat 0) [s] 0:=by
 rw[(h.done hk).1]
 exact jO s0 s1
theorem jl.qb{R:List Int×List Int}{qu:List Int}(h:jl n2 s W O P R lv qu i)(n0:0<=n2):(qu.length:Int)<=n2/\(i:Int)<=qu.length:=⟨h.l.ql n0,h.le⟩
theorem jl.vb{R:List Int×List Int}{qu:List Int}(h:jl n2 s W O P R lv qu i)(hi:(i:Int)<(qu.length:Int)):0<=gI qu (i:Int)/\gI qu (i:Int)<n2:=h.l.qr _ (bo (by omega) hi)
theorem iI.qb{R:List Int×List Int}{qu:List Int}(h:iI n2 s W O P R lv qu i k v)(n0:0<=n2):(qu.length:Int)<=n2/\(i:Int)<qu.length/\(0<=v/\v<n2)/\((lv.length:Int)=n2)/\ -1<=gI lv v/\gI lv v<n2:=by
 have hv:=h.l.qr _ (bo (xs:=qu) (i:=(i:Int)) (by omega) h.le)
 rw[h.hv] at hv
 exact⟨h.l.ql n0,h.le,hv,h.l.ll,h.l.top n0 hv.1 hv.2⟩
theorem lG(hs:iO n2 W O)(v0:0<=v)(v1:v<n2)(hw:w∈gI O v):(0<=w/\w<(W.length:Int))/\(0<=(gI W w).1/\(gI W w).1<n2)/\ -1048576<=(gI W w).2.2/\(gI W w).2.2<=1048576:=by
  obtain⟨h1,h2⟩:=hs.row v v0 v1 w hw
  exact⟨h1,hs.to w h1,(hs.cs w h1).2⟩
theorem fz.pot(h:fz n2 s B M W O P)(hB:B<=5242880000)(v0:0<=v)(v1:v<n2):0<=gI P v/\gI P v<=5242880000:=by
 have:=h.pt.pb v v0 v1
 omega
theorem j2.go'(h:j2 n2 s t ak B M W0 O R W P far nx fl)(hr:xs=c5 n2 s W O P)(hp:P'=cT P xs (gI xs t))(hs:¬gI xs t=dh):iL n2 s t ak B M W0 O R fl W P' xs nx fl:=by
 subst hr hp
 exact h.go hs
theorem j2.stop'(h:j2 n2 s t ak B M W0 O R W P far nx fl)(hr:xs=c5 n2 s W O P)(hs:gI xs t=dh):R=(W,P,xs,nx,fl):=by
 subst hr
 exact h.stop hs
theorem iL.yes'(h:iL n2 s t ak B M W0 O R f0 W P far nx fl)(hl:lv=(br n2 s W O P).1)(hn:Nn=fk n2)(ht:0<=gI lv t):jT n2 s t ak B M W0 O R fl W P lv Nn fl:=by
 subst hl hn
 exact h.yes ht
theorem iL.no'(h:iL n2 s t ak B M W0 O R f0 W P far nx fl)(hl:lv=(br n2 s W O P).1)(hn:Nn=fk n2)(ht:¬0<=gI lv t):j2 n2 s t ak B M W0 O R W P lv Nn fl/\f0<fl:=by
 subst hl hn
 exact h.no ht
def nJ(n2 s t ak B M:Int)(W0:List bN)(O:List (List Int))(R:gG)(f1:Int)(W':List bN)(P lv nx':List Int)(fl pn:Int):Prop:=∃W nx,jT n2 s t ak B M W0 O R f1 W P lv nx fl/\pn=(pu n2 O P lv t s ak W nx).1/\W'=(pu n2 O P lv t s ak W nx).2.1/\nx'=(pu n2 O P lv t s ak W nx).2.2
theorem jT.push(h:jT n2 s t ak B M W0 O R f1 W P lv nx fl)(hr:pn=(ct O P lv t (er n2 O nx lv s) s ak W nx).1/\W'=(ct O P lv t (er n2 O nx lv s) s ak W nx).2.1/\nx'=(ct O P lv t (er n2 O nx lv s) s ak W nx).2.2):nJ n2 s t ak B M W0 O R f1 W' P lv nx' fl pn:=⟨W,nx,h,hr⟩
theorem nJ.yes(h:nJ n2 s t ak B M W0 O R f1 W' P lv nx' fl pn)(hp:0<pn):jT n2 s t ak B M W0 O R f1 W' P lv nx' (fl+pn):=by
 obtain⟨W,nx,h1,rfl,rfl,rfl⟩:=h
 exact h1.yes rfl hp
theorem nJ.no(h:nJ n2 s t ak B M W0 O R f1 W' P lv nx' fl pn)(hp:¬0<pn)(h0:f0<=f1):iL n2 s t ak B M W0 O R f0 W' P lv nx' fl/\f1<fl:=by
 obtain⟨W,nx,h1,rfl,rfl,rfl⟩:=h
 exact h1.no rfl hp h0
theorem iL.le0(h:iL n2 s t ak B M W0 O R f0 W P far nx fl):f0<=fl:=by
 rcases h.2 with q|⟨q,_⟩<;>omega
theorem jT.lens(h:jT n2 s t ak B M W0 O R f1 W P lv nx fl):(lv.length:Int)=n2/\(nx.length:Int)=n2:=by
 obtain⟨⟨f,hf⟩,_⟩:=h
 exact⟨hf.ll,hf.u.nx.nl⟩
theorem nJ.ii(h:nJ n2 s t ak B M W0 O R f1 W' P lv nx' fl pn):iK n2 s t ak B M W0 O W' P (fl+pn)/\0<=pn/\(lv.length:Int)=n2/\(nx'.length:Int)=n2:=by
 obtain⟨W,nx,⟨⟨f,hf⟩,_⟩,rfl,rfl,rfl⟩:=h
 exact⟨hf.i.push hf.ok,hf.ok.k0,hf.ll,hf.ok.nxi.nl⟩
theorem iK.fb(h:iK n2 s t ak B M W0 O W P fl):0<=fl/\fl<=ak/\ak<=1099511627776:=⟨h.l.f0,h.le.1,h.b.ab⟩
theorem ow.pos(h:ow n2 t O P lv fu v most W nx):(O.length:Int)=n2/\(nx.length:Int)=n2/\W.length<=50000:=⟨h.i.sh.ol,h.i.nx.nl,h.i.sh.len⟩
theorem gW.lens(h:gW n2 t v most O P lv fu Q W nx):(nx.length:Int)=n2/\(O.length:Int)=n2/\W.length<=50000/\0<=gI nx v/\gI nx v<=((gI O v).length:Int)/\((gI O v).length:Int)<=(W.length:Int):=by
 obtain⟨f,_,h⟩:=h
 have:=h.i.nx.rg v h.v0 h.v1
 exact⟨h.i.nx.nl,h.i.sh.ol,h.i.sh.len,this.1,this.2,h.i.sh.rl h.v0 h.v1⟩
theorem gW.done(h:gW n2 t v most O P lv fu Q W nx)(hk:¬gI nx v<((gI O v).length:Int)):Q=(0,W,nx):=by
 obtain⟨f,_,h⟩:=h
 exact h.done hk
theorem gW.skip(h:gW n2 t v most O P lv fu Q W nx)(hk:gI nx v<((gI O v).length:Int))(hc:(gI W (gI (gI O v) (gI nx v))).2.1=0\/¬gI lv (gI W (gI (gI O v) (gI nx v))).1=gI lv v+1\/¬dm W P v (gI (gI O v) (gI nx v))=0):gW n2 t v most O P lv fu Q W (nx.set v.toNat (gI nx v+1)):=by
 obtain⟨f,hf,h⟩:=h
 obtain⟨h1,h2⟩:=h.skip hk hc
 exact⟨f-1,by omega,h1⟩
theorem gW.way(h:gW n2 t v most O P lv fu Q W nx)(hk:gI nx v<((gI O v).length:Int)):(0<=gI (gI O v) (gI nx v)/\gI (gI O v) (gI nx v)<(W.length:Int))/\(0<=bZ (gI (gI O v) (gI nx v))/\bZ (gI (gI O v) (gI nx v))<(W.length:Int))/\(0<=(gI W (gI (gI O v) (gI nx v))).1/\(gI W (gI (gI O v) (gI nx v))).1<n2)/\(-1048576<=(gI W (gI (gI O v) (gI nx v))).2.2/\(gI W (gI (gI O v) (gI nx v))).2.2<=1048576)/\(-1<=gI lv v/\gI lv v<n2)/\0<=(gI W (gI (gI O v) (gI nx v))).2.1/\(gI W (gI (gI O v) (gI nx v))).2.1<=1048576:=by
 obtain⟨f,_,h⟩:=h
 obtain⟨hw,_⟩:=h.way hk
 have ht:=h.i.sh.tw hw
 have r1:=h.i.rm _ hw
 have r2:=h.i.rm _ ht
 have r3:=h.i.rb _ hw
 exact⟨hw,ht,h.i.sh.to _ hw,(h.i.sh.cs _ hw).2,h.i.lv v h.v0 h.v1,r1,by show bG W _<=_;omega⟩
theorem jA.need(h0:ow n2 t O P lv fu v most W0 Nn)(h:jA n2 t v most O P lv Q f W nx)(hk:gI nx v<((gI O v).length:Int))(c2:gI lv (gI W (gI (gI O v) (gI nx v))).1=gI lv v+1):ow n2 t O P lv (f-1) (gI W (gI (gI O v) (gI nx v))).1 (min most (gI W (gI (gI O v) (gI nx v))).2.1) W nx:=by
 obtain⟨q1,q2,q3,q4⟩:=h.call hk c2
 have:=h0.m1
 exact⟨h.i,q1,q3.1,q3.2,q4,by show min most (bG W _)<=_;omega,h0.t0,h0.t1,h0.pl,h0.ll,h0.pb,h0.n2b⟩
structure rD(n2 t v most:Int)(O:List (List Int))(P lv:List Int)(fu:Nat)(Q:Int×List bN×List Int)(nx:List Int)(w rr:Int)(xW:List bN)(xn:List Int):Prop where
  en:gI xn v=gI nx v
  nl:(xn.length:Int)=n2
  nv:0<=gI xn v/\gI xn v<((gI O v).length:Int)
  wi:0<=w/\w<(xW.length:Int)
  ti:0<=bZ w/\bZ w<(xW.length:Int)
  k0:0<=rr
  k1:rr<=(gI xW w).2.1
  rm:(gI xW w).2.1<=1048576
  rt:0<=(gI xW (bZ w)).2.1/\(gI xW (bZ w)).2.1<=1048576
  nt:bZ w≠w
  yes:0<rr->Q=(rr,dq xW w rr,xn)
  no:¬0<rr->gW n2 t v most O P lv fu Q xW (xn.set v.toNat (gI xn v+1))
theorem jA.after(h:jA n2 t v most O P lv Q f W nx)(hf:f<=fu)(hk:gI nx v<((gI O v).length:Int))(c1:¬(gI W (gI (gI O v) (gI nx v))).2.1=0)(c2:gI lv (gI W (gI (gI O v) (gI nx v))).1=gI lv v+1)(c3:dm W P v (gI (gI O v) (gI nx v))=0)
   (hr:rr=(ct O P lv t (f-1) (gI W (gI (gI O v) (gI nx v))).1 (min most (gI W (gI (gI O v) (gI nx v))).2.1) W nx).1/\xW=(ct O P lv t (f-1) (gI W (gI (gI O v) (gI nx v))).1 (min most (gI W (gI (gI O v) (gI nx v))).2.1) W nx).2.1/\xn=(ct O P lv t (f-1) (gI W (gI (gI O v) (gI nx v))).1 (min most (gI W (gI (gI O v) (gI nx v))).2.1) W nx).2.2):rD n2 t v most O P lv fu Q nx (gI (gI O v) (gI nx v)) rr xW xn:=by
 obtain⟨hw,hfr⟩:=h.way hk
 obtain⟨e1,e2,e3,e4,e5⟩:=h.rec_ hk c1 c2 c3 rfl
 have hlt:=(h.call hk c2).2.1
 have hv0:=(h.i.nx.rg v h.v0 h.v1).1
 obtain⟨rfl,rfl,rfl⟩:=hr
 have hi:=e1.pui h.i
 have hw':=e1.sm.inn.2 hw
 have ht':=hi.sh.tw hw'
 have r1:=hi.rm _ hw'
 have r2:=hi.rm _ ht'
 have r3:=hi.rb _ hw'
 have k1:=e1.k1
 have k1':=Int.le_trans (Int.le_trans k1 (Int.min_le_right _ _)) (Int.le_of_eq e2.symm)
 exact⟨e3,e1.nxi.nl,⟨by show 0<=gI (ct O P lv t (f-1) (bD W (gI (gI O v) (gI nx v))) (min most (bG W (gI (gI O v) (gI nx v)))) W nx).2.2 v;rw[e3];exact hv0,by show gI (ct O P lv t (f-1) (bD W (gI (gI O v) (gI nx v))) (min most (bG W (gI (gI O v) (gI nx v)))) W nx).2.2 v<_;rw[e3];exact hk⟩,hw',ht',e1.k0,k1',by show bG (ct O P lv t (f-1) (bD W (gI (gI O v) (gI nx v))) (min most (bG W (gI (gI O v) (gI nx v)))) W nx).2.1 _<=_;omega,⟨r2,by show bG (ct O P lv t (f-1) (bD W (gI (gI O v) (gI nx v))) (min most (bG W (gI (gI O v) (gI nx v)))) W nx).2.1 _<=_;omega⟩,(dV hw.1).2.2.1,e4,λhn=>⟨f-1,by omega,e5 hn⟩⟩
theorem rD.sz{z:bN}(h:rD n2 t v most O P lv fu Q nx w rr xW xn):gI (xW.set w.toNat z) (bZ w)=gI xW (bZ w):=by
 rw[cw h.wi.1 h.wi.2 h.ti.1,if_neg h.nt]
theorem d6{z:Int}{xs:List Int}(h0:0<=v)(h1:v<(xs.length:Int)):gI (xs.set v.toNat z) v=z:=by
 rw[cw h0 h1 h0,if_pos rfl]
theorem jB.bd{x:Int×Int}{R:List Int×List cx}{q:List cx}{M:Int}(hb:fz n2 s B M W O P)(h:jB n2 s M W O P R far q x k m):0<=x.1/\x.1<=1152921504606846976:=by
 have h1:=h.r.xb
 have h2:=h.r.x0
 have h3:=h.r.xf
 have hM:=hb.hM
 have:=hb.b0
 have h4:=(h.r.i.bd (by omega) hb.hb h2.1 h2.2 (by omega)).1
 have hu:dh=1152921504606846976:=rfl
 omega
theorem ob.fb{q:List cx}{M:Int}(hb:fz n2 s B M W O P)(h:ob n2 s M W P far q)(v0:0<=v)(v1:v<n2):0<=gI far v/\gI far v<=1152921504606846976:=by
 have hM:=hb.hM
 have:=hb.b0
 by_cases c:gI far v=dh
 · rw[c];exact⟨by decide,by decide⟩
 · have:=h.bd (by omega) hb.hb v0 v1 c
   have:=hb.hb
   have hu:dh=1152921504606846976:=rfl
   omega
theorem jW{T:iG}(hm:cM T)(h:(W,O)=jL T.1 T.2.1 T.2.2/\ak=dx T.2.2 T.1.toNat):j2 (T.1+2) T.1 (T.1+1) ak ((T.1+2)*1048576) (1048576+(T.1+2)*1048576) W O (dg T.1 T.2.1 T.2.2) W (List.replicate (T.1+2).toNat 0) (List.replicate (T.1+2).toNat 0) (List.replicate (T.1+2).toNat 0) 0:=by
 obtain⟨h1,rfl⟩:=h
 have e1:W=(jL T.1 T.2.1 T.2.2).1:=by rw[<-h1]
 have e2:O=(jL T.1 T.2.1 T.2.2).2:=by rw[<-h1]
 subst e1 e2
 exact⟨_,(hm.my.fib hm.my.ld).start⟩
theorem cy{a b x:Int}(a0:0<=a)(a1:a<(O.length:Int))(b0:0<=b):(gI (O.set a.toNat (gI O a++[x])) b).length<=(gI O a).length+(gI O b).length+1:=by
 rw[cw a0 a1 b0]
 split
 · rw[List.length_append,List.length_singleton];omega
 · omega
def m9(n2 s t:Int)(W:List bN)(O:List (List Int))(P:List Int)(rr:Bool)(xF xP:List Int):Prop:=xF=c5 n2 s W O P/\((rr=true/\¬gI xF t=dh/\xP=cT P xF (gI xF t))\/(rr=false/\gI xF t=dh/\xP=P))
theorem j2.goJ{rb:Bool}{xP xF:List Int}(h:j2 n2 s t ak B M W0 O R W P far nx fl)(hj:m9 n2 s t W O P rb xF xP)(hr:rb=true):iL n2 s t ak B M W0 O R fl W xP xF nx fl:=by
 obtain⟨h1,⟨_,h2,h3⟩|⟨h2,_⟩⟩:=hj
 · exact h.go' h1 h3 h2
 · rw[h2] at hr;cases hr
theorem j2.stopJ{rb:Bool}{xP xF:List Int}(h:j2 n2 s t ak B M W0 O R W P far nx fl)(hj:m9 n2 s t W O P rb xF xP)(hr:¬rb=true):R=(W,xP,xF,nx,fl):=by
 obtain⟨h1,⟨h2,_⟩|⟨_,h2,h3⟩⟩:=hj
 · exact absurd h2 hr
 · rw[h3];exact h.stop' h1 h2
theorem m9.len{rb:Bool}{xP xF:List Int}(hj:m9 n2 s t W O P rb xF xP)(hb:fz n2 s B M W O P):(xF.length:Int)=n2/\(xP.length:Int)=n2:=by
 obtain⟨h1,h2⟩:=hj
 have h3:=(fU hb).i.fl
 have h4:=hb.pt.pl
 refine⟨by rw[h1];exact h3,?_⟩
 rcases h2 with⟨_,_,q⟩|⟨_,_,q⟩
 · rw[q,ic];exact h4
 · rw[q];exact h4
theorem eN(hb:fz n2 s B M W O P){xL:List Int}(h:xL=(br n2 s W O P).1):(xL.length:Int)=n2:=by
 obtain⟨qu,hq⟩:=(fZ hb).l
 rw[h];exact hq.ll
theorem gH(n0:0<=n2){xN:List Int}(h:xN=fk n2):(xN.length:Int)=n2:=by rw[h];unfold fk;simp;omega
theorem e9{xj qq:List cx}(h:xj.length=qq.length):xj.take ((xj.length:Int)-1).toNat=xj.take (qq.length-1):=by
 congr 1;omega
theorem ob.ql{q:List cx}{M:Int}(h:ob n2 s M W P far q)(n0:0<n2)(hM:0<=M):(q.length:Int)<=(n2*M+1)*n2:=by
 have hp:=gj ((n2*M+1)*n2).toNat (q.map λz=>z.1*n2+z.2) (by
   unfold List.Nodup
   rw[List.pairwise_map]
   refine List.Pairwise.imp_of_mem (R:=λa b=>a≠b) ?_ h.qn
   intro a b ha hb hne e
   obtain⟨⟨a0,a1⟩,_⟩:=h.qin a ha
   obtain⟨⟨b0,b1⟩,_⟩:=h.qin b hb
   have e:a.1*n2+a.2=b.1*n2+b.2:=e
   have nP:∀x y:Int,x<y->x*n2+n2<=y*n2:=λx y hxy=>by
     have:=Int.mul_le_mul_of_nonneg_right (show x+1<=y by omega) (show 0<=n2 by omega)
     rwa[Int.add_mul,Int.one_mul] at this
   rcases Int.lt_trichotomy a.1 b.1 with q|q|q
   · have:=nP _ _ q;omega
   · rw[q] at e
     exact hne (Prod.ext q (by omega))
   · have:=nP _ _ q;omega) λx hx=>by
   obtain⟨z,hz,rfl⟩:=List.mem_map.1 hx
   obtain⟨⟨a0,a1⟩,_⟩:=h.qin z hz
   obtain⟨b0,b1⟩:=h.qb z hz
   have h1:=Int.mul_le_mul_of_nonneg_right b1 (show 0<=n2 by omega)
   have h2:=Int.mul_nonneg b0 (show 0<=n2 by omega)
   have h3:(n2*M+1)*n2=n2*M*n2+n2:=by rw[Int.add_mul,Int.one_mul]
   exact⟨by omega,by omega⟩
 rw[List.length_map] at hp
 by_cases c:q=[]
 · rw[c]
   exact Int.mul_nonneg (by have:=Int.mul_nonneg (show 0<=n2 by omega) hM;omega) (by omega)
 · obtain⟨z,hz⟩:=List.exists_mem_of_ne_nil q c
   obtain⟨b0,b1⟩:=h.qb z hz
   have:=Int.mul_nonneg (show 0<=n2*M+1 by omega) (show 0<=n2 by omega)
   omega
theorem ob.ql2{q:List cx}(hb:fz n2 s B M W O P)(h:ob n2 s M W P far q)(hB:B=n2*1048576)(hn:n2<=62):(q.length:Int)<=300000000000:=by
 have s0:=hb.s0
 have s1:=hb.s1
 have hM:=hb.hM
 have h1:=h.ql (by omega) (by omega)
 have hM1:M<=66060288:=by omega
 have hM0:0<=M:=by omega
 have e1:n2*M<=62*66060288:=Int.le_trans (Int.mul_le_mul_of_nonneg_right hn hM0) (Int.mul_le_mul_of_nonneg_left hM1 (by decide))
 have e2:0<=n2*M:=Int.mul_nonneg (by omega) hM0
 have e3:(n2*M+1)*n2<=(62*66060288+1)*62:=Int.le_trans (Int.mul_le_mul_of_nonneg_right (by omega) (by omega)) (Int.mul_le_mul_of_nonneg_left hn (by decide))
 omega
end TL
/-
  TlFlz: what Min tells, as the walk goes through it.
  By an AI agent.
-/
set_option linter.all false
namespace TL
variable{T:iG}{k:Nat}{W:List bN}{P F Nx xs:List Int}{fl c ak:Int}{O:List (List Int)}{W0:List bN}
structure lF(T:iG)(W:List bN)(k:Nat)(xs:List Int)(c:Int):Prop where
  ln:xs.length=T.2.1.length
  at_:∀i:Nat,i<k->gI xs (i:Int)=xW W i
  cs:c=SP k λi=>xW W i*(gI T.2.1 (i:Int)).2.2.2
theorem lF.start:lF T W 0 (List.replicate (T.2.1.length:Int).toNat 0) 0:=⟨by simp,λi hi=>by omega,rfl⟩
theorem r5(hm:cM T)(hR:dg T.1 T.2.1 T.2.2=(W,P,F,Nx,fl))(hk:(k:Int)<(T.2.1.length:Int)):(2*(k:Int)+1<(W.length:Int))/\(0<=xW W k/\xW W k<=1048576)/\(0<=(gI T.2.1 (k:Int)).2.2.2/\(gI T.2.1 (k:Int)).2.2.2<=1048576)/\0<=xW W k*(gI T.2.1 (k:Int)).2.2.2/\xW W k*(gI T.2.1 (k:Int)).2.2.2<=1099511627776:=by
 have he:=hm.my.fi
 have hc:=hm.my.ld
 have hlen:(cE T.1 T.2.1 T.2.2).length=T.2.1.length+(fc T.1 T.2.2 T.1.toNat).length:=gR T
 have hx:=mI hc he.i.l (i:=k) (by omega)
 rw[hR] at hx
 have hx:bG W (2*(k:Int))=(gI (cE T.1 T.2.1 T.2.2) (k:Int)).2.2.1-xW W k/\0<=xW W k/\xW W k<=(gI (cE T.1 T.2.1 T.2.2) (k:Int)).2.2.1:=hx
 obtain⟨_,h1,h2⟩:=hx
 rw[fV (by omega)] at h2
 obtain⟨_,_,⟨h3,h4⟩,h5,h6⟩:=hm.2.2.2.1 _ (bo (xs:=T.2.1) (i:=(k:Int)) (by omega) hk)
 have hl:=he.i.l.sm.ln
 rw[hR] at hl
 have hl2:=hc.lw
 have h7:=Int.mul_nonneg h1 h5
 have h8:xW W k*(gI T.2.1 (k:Int)).2.2.2<=1048576*1048576:=Int.le_trans (Int.mul_le_mul_of_nonneg_right (show xW W k<=1048576 by omega) h5) (Int.mul_le_mul_of_nonneg_left h6 (by decide))
 have hl3:W.length=(jL T.1 T.2.1 T.2.2).1.length:=hl
 exact⟨by omega,⟨h1,by omega⟩,⟨h5,h6⟩,h7,by omega⟩
theorem ra(hm:cM T)(hR:dg T.1 T.2.1 T.2.2=(W,P,F,Nx,fl))(hk:(k:Int)<(T.2.1.length:Int)):(2*(k:Int)+1<(W.length:Int))/\(0<=(gI W (2*(k:Int)+1)).2.1/\(gI W (2*(k:Int)+1)).2.1<=1048576)/\(0<=(gI T.2.1 (k:Int)).2.2.2/\(gI T.2.1 (k:Int)).2.2.2<=1048576)/\0<=(gI W (2*(k:Int)+1)).2.1*(gI T.2.1 (k:Int)).2.2.2/\(gI W (2*(k:Int)+1)).2.1*(gI T.2.1 (k:Int)).2.2.2<=1099511627776:=r5 hm hR hk
theorem l3(hm:cM T)(hR:dg T.1 T.2.1 T.2.2=(W,P,F,Nx,fl)):∀(k:Nat),(k:Int)<=(T.2.1.length:Int)->0<=SP k (λi=>xW W i*(gI T.2.1 (i:Int)).2.2.2)/\SP k (λi=>xW W i*(gI T.2.1 (i:Int)).2.2.2)<=(k:Int)*1099511627776
 |0,_=>⟨Int.le_refl _,Int.le_refl _⟩
 |k+1,h=>by
   have h1:=l3 hm hR k (by omega)
   have h2:=(r5 hm hR (k:=k) (by omega)).2.2.2
   show 0<=SP k (λi=>xW W i*(gI T.2.1 (i:Int)).2.2.2)+xW W k*(gI T.2.1 (k:Int)).2.2.2/\SP k (λi=>xW W i*(gI T.2.1 (i:Int)).2.2.2)+xW W k*(gI T.2.1 (k:Int)).2.2.2<=_
   omega
theorem lF.bd(h:lF T W k xs c)(hm:cM T)(hR:dg T.1 T.2.1 T.2.2=(W,P,F,Nx,fl))(hk:(k:Int)<=(T.2.1.length:Int)):0<=c/\c<=(k:Int)*1099511627776:=by
 rw[h.cs];exact l3 hm hR k hk
theorem lF.next(h:lF T W k xs c)(hk:(k:Int)<(T.2.1.length:Int)){z d:Int}(hz:z=(gI W (2*(k:Int)+1)).2.1)(hd:d=c+z*(gI T.2.1 (k:Int)).2.2.2):lF T W (k+1) (xs.set (k:Int).toNat z) d:=by
 have hl:=h.ln
 have hz:z=xW W k:=hz
 refine⟨by rw[List.length_set];exact hl,λi hi=>?_,?_⟩
 · rw[cw (by omega) (by omega) (by omega)]
   by_cases q:(i:Int)=(k:Int)
   · rw[if_pos q,hz,show i=k by omega]
   · rw[if_neg q];exact h.at_ i (by omega)
 · rw[hd,hz,h.cs];rfl
theorem kZ(h:¬cM T):bK T=(([],[],0),1):=by unfold bK;rw[if_neg h]
theorem gN(hm:cM T)(h:¬nb T.1 T.2.1 T.2.2):bK T=(([],[],0),20):=by unfold bK;rw[if_pos hm,if_neg h]
theorem n4(h:¬e6 T.2.2=0):¬nb T.1 T.2.1 T.2.2:=λq=>h q.1
theorem nH(hR:dg T.1 T.2.1 T.2.2=(W,P,F,Nx,fl))(hWO:(W0,O)=jL T.1 T.2.1 T.2.2/\ak=dx T.2.2 T.1.toNat)(h:¬fl=ak):¬nb T.1 T.2.1 T.2.2:=λq=>h (by
 have:=q.2
 rw[hR] at this
 rw[hWO.2];exact this)
theorem lF.done(hm:cM T)(hR:dg T.1 T.2.1 T.2.2=(W,P,F,Nx,fl))(hWO:(W0,O)=jL T.1 T.2.1 T.2.2/\ak=dx T.2.2 T.1.toNat)(hb:e6 T.2.2=0)(hf:fl=ak)(h:lF T W k xs c)(h0:(k:Int)<=(T.2.1.length:Int))(hk:¬(k:Int)<(T.2.1.length:Int)):bK T=((xs,P.take T.1.toNat,c),0):=by
 have hok:nb T.1 T.2.1 T.2.2:=⟨hb,by rw[hR,<-hWO.2];exact hf⟩
 have e:k=T.2.1.length:=by omega
 subst e
 have hx:nA T.1 T.2.1 T.2.2=xs:=by
   refine fW (by rw[kP,h.ln]) λi hi=>?_
   rw[kP] at hi
   rw[lK hi,h.at_ i hi,hR]
 unfold bK
 rw[if_pos hm,if_pos hok,hx]
 have h1:py T.1 T.2.1 T.2.2=P.take T.1.toNat:=by unfold py;rw[hR]
 have h2:qK T.2.1 xs=c:=by
   unfold qK
   rw[h.cs]
   exact ck _ λi hi=>by rw[h.at_ i hi]
 rw[h1,h2]
theorem nD(hm:cM T)(hR:dg T.1 T.2.1 T.2.2=(W,P,F,Nx,fl)):(P.length:Int)=T.1+2/\(F.length:Int)=T.1+2/\(W.length:Int)<=50000/\0<=fl/\fl<=1099511627776:=by
 have he:=hm.my.fi
 have h1:=he.i.d.pt.pl
 have h2:=(fU he.i.d).i.fl
 rw[<-he.far] at h2
 have h3:=he.i.d.sh.len
 obtain⟨h4,h5,h6⟩:=he.i.fb
 rw[hR] at h1 h2 h3 h4 h5
 exact⟨h1,h2,by have:W.length<=50000:=h3;omega,h4,Int.le_trans h5 h6⟩
end TL
/-
  TlFlv: what Why tells, as the walk goes through it.
  By an AI agent.
-/
set_option linter.all false
namespace TL
variable{T:iG}{k:Nat}{W:List bN}{P F Nx:List Int}{fl ak:Int}{O:List (List Int)}{W0:List bN}
def lW(F:List Int)(k:Nat):List Int:=(d9 k).filter λv=>decide (gI F v<dh)
theorem oH(h:gI F (k:Int)<1152921504606846976):lW F k++[(k:Int)]=lW F (k+1):=by
 unfold lW
 rw[ja,List.filter_append,List.filter_cons_of_pos (by simpa using h)];rfl
theorem pW(h:¬gI F (k:Int)<1152921504606846976):lW F k=lW F (k+1):=by
 unfold lW
 rw[ja,List.filter_append,List.filter_cons_of_neg (by simpa using h),List.filter_nil,List.append_nil]
theorem pk:(lW F k).length<=k:=by
 unfold lW
 refine Nat.le_trans (List.length_filter_le _ _) ?_
 simp[d9]
theorem lH(h:¬cM T):cB T=([],1):=by unfold cB;rw[if_neg h]
theorem lm(hm:cM T)(h:¬e6 T.2.2=0):cB T=([],0):=by unfold cB;rw[if_pos hm,if_neg h]
theorem kr(hm:cM T)(hR:dg T.1 T.2.1 T.2.2=(W,P,F,Nx,fl))(hWO:(W0,O)=jL T.1 T.2.1 T.2.2/\ak=dx T.2.2 T.1.toNat)(hb:e6 T.2.2=0)(h:fl=ak):cB T=([],14):=by
 unfold cB;rw[if_pos hm,if_pos hb,if_pos (by rw[hR,<-hWO.2];exact h)]
theorem kd(hm:cM T)(hR:dg T.1 T.2.1 T.2.2=(W,P,F,Nx,fl))(hWO:(W0,O)=jL T.1 T.2.1 T.2.2/\ak=dx T.2.2 T.1.toNat)(hb:e6 T.2.2=0)(h:¬fl=ak)(h0:(k:Int)<=T.1)(hk:¬(k:Int)<T.1):cB T=(lW F k,0):=by
 unfold cB;rw[if_pos hm,if_pos hb,if_neg (by rw[hR,<-hWO.2];exact h)]
 have e:k=T.1.toNat:=by omega
 unfold rS lW
 rw[hR,e]
end TL
/-
  TlFlu: what proves a flow, and what cuts one off, as the walks go through it.
  By an AI agent.
-/
set_option linter.all false
namespace TL
variable{T:iG}{f:k9}{k j:Nat}{ov o1 o2 l:List Int}{c d:Int}
def gD(T:iG)(f:k9)(i:Nat):Prop:=(0<=gI f.1 (i:Int)/\gI f.1 (i:Int)<=(gI T.2.1 (i:Int)).2.2.1)/\(gI f.1 (i:Int)<(gI T.2.1 (i:Int)).2.2.1->0<=(gI T.2.1 (i:Int)).2.2.2+gI f.2.1 (gI T.2.1 (i:Int)).1-gI f.2.1 (gI T.2.1 (i:Int)).2.1)/\(0<gI f.1 (i:Int)->(gI T.2.1 (i:Int)).2.2.2+gI f.2.1 (gI T.2.1 (i:Int)).1-gI f.2.1 (gI T.2.1 (i:Int)).2.1<=0)
instance {i:Nat}:Decidable (gD T f i):=by unfold gD;infer_instance
def pX(T:iG)(f:k9):Prop:=cM T/\f.1.length=T.2.1.length/\(f.2.1.length:Int)=T.1
instance:Decidable (pX T f):=by unfold pX;infer_instance
def jf(p:Int):Prop:= -1099511627776<=p/\p<=1099511627776
instance {p:Int}:Decidable (jf p):=by unfold jf;infer_instance
def qy(T:iG)(f:k9):Prop:=pX T f/\(∀p∈f.2.1,jf p)/\(∀i:Nat,i<T.2.1.length->gD T f i)/\(∀v:Nat,v<T.2.2.length->kV T.2.1 (λi=>gI f.1 (i:Int)) (v:Int)=gI T.2.2 (v:Int))/\qK T.2.1 f.1=f.2.2
instance:Decidable (qy T f):=by unfold qy;infer_instance
def dB(T:iG)(f:k9):Bool:=decide (qy T f)
theorem jy(h:¬qy T f):dB T f=false:=decide_eq_false h
theorem eT(h:¬pX T f):dB T f=false:=jy λq=>h q.1
theorem kS(h1:(k:Int)<(f.2.1.length:Int))(h:¬jf (gI f.2.1 (k:Int))):dB T f=false:=jy λq=>h (q.2.1 _ (bo (by omega) h1))
theorem ep(h1:(k:Int)<(T.2.1.length:Int))(h:¬gD T f k):dB T f=false:=jy λq=>h (q.2.2.1 k (by omega))
theorem ky{D:List Int}(h:∀x∈D.take k,jf x)(h1:(k:Int)<(D.length:Int))(hk:jf (gI D (k:Int))):∀x∈D.take (k+1),jf x:=by
 rw[cN h1]
 intro a ha
 rcases List.mem_append.1 ha with q|q
 · exact h a q
 · rw[List.mem_singleton.1 q];exact hk
theorem nI{D:List Int}{n:Int}(h:∀x∈D.take k,jf x)(hk:¬(k:Int)<n)(hn:(D.length:Int)=n)(v:Int)(v0:0<=v)(v1:v<n): -1099511627776<=gI D v/\gI D v<=1099511627776:=by
 rw[List.take_of_length_le (by omega)] at h
 exact h _ (bo v0 (by omega))
def qC(T:iG)(f:k9)(k:Nat)(v:Int):Int:=SP k λi=>(if(gI T.2.1 (i:Int)).1=v then gI f.1 (i:Int) else 0)-(if(gI T.2.1 (i:Int)).2.1=v then gI f.1 (i:Int) else 0)
structure iM(T:iG)(f:k9)(k:Nat)(ov:List Int)(c:Int):Prop where
 ln:(ov.length:Int)=T.1
 at_:∀v:Nat,(v:Int)<T.1->gI ov (v:Int)=qC T f k (v:Int)
 ok:∀i:Nat,i<k->gD T f i
 cs:c=SP k λi=>gI f.1 (i:Int)*(gI T.2.1 (i:Int)).2.2.2
theorem iM.start(hm:cM T):iM T f 0 (List.replicate T.1.toNat 0) 0:=by
 have:=hm.1.1
 refine⟨by rw[List.length_replicate];omega,λv hv=>?_,λi hi=>by omega,rfl⟩
 rw[dy (by omega) (by omega)];rfl
theorem qE(hm:cM T)(ha:gD T f k)(hk:(k:Int)<(T.2.1.length:Int)):(0<=gI f.1 (k:Int)/\gI f.1 (k:Int)<=1048576)/\0<=gI f.1 (k:Int)*(gI T.2.1 (k:Int)).2.2.2/\gI f.1 (k:Int)*(gI T.2.1 (k:Int)).2.2.2<=1099511627776:=by
 obtain⟨_,_,⟨h3,h4⟩,h5,h6⟩:=hm.2.2.2.1 _ (bo (xs:=T.2.1) (i:=(k:Int)) (by omega) hk)
 obtain⟨⟨h1,h2⟩,_⟩:=ha
 have h7:=Int.mul_nonneg h1 h5
 have h8:gI f.1 (k:Int)*(gI T.2.1 (k:Int)).2.2.2<=1048576*1048576:=Int.le_trans (Int.mul_le_mul_of_nonneg_right (show gI f.1 (k:Int)<=1048576 by omega) h5) (Int.mul_le_mul_of_nonneg_left h6 (by decide))
 exact⟨⟨h1,by omega⟩,h7,by omega⟩
theorem kz(hm:cM T)(h1:0<=gI f.1 (k:Int))(h2:gI f.1 (k:Int)<=(gI T.2.1 (k:Int)).2.2.1)(hk:(k:Int)<(T.2.1.length:Int)):(0<=gI f.1 (k:Int)/\gI f.1 (k:Int)<=1048576)/\0<=gI f.1 (k:Int)*(gI T.2.1 (k:Int)).2.2.2/\gI f.1 (k:Int)*(gI T.2.1 (k:Int)).2.2.2<=1099511627776:=by
 obtain⟨_,_,⟨h3,h4⟩,h5,h6⟩:=hm.2.2.2.1 _ (bo (xs:=T.2.1) (i:=(k:Int)) (by omega) hk)
 have h7:=Int.mul_nonneg h1 h5
 have h8:gI f.1 (k:Int)*(gI T.2.1 (k:Int)).2.2.2<=1048576*1048576:=Int.le_trans (Int.mul_le_mul_of_nonneg_right (show gI f.1 (k:Int)<=1048576 by omega) h5) (Int.mul_le_mul_of_nonneg_left h6 (by decide))
 exact⟨⟨h1,by omega⟩,h7,by omega⟩
theorem jP(hm:cM T)(hl:(ov.length:Int)=T.1)(hb:∀v,0<=v->v<T.1-> -17179869184<=gI ov v/\gI ov v<=17179869184){x:Int}(x0:0<=x)(x1:x<=1048576)(hk:(k:Int)<(T.2.1.length:Int)): -17180917760<=gI (ov.set (gI T.2.1 (k:Int)).1.toNat (gI ov (gI T.2.1 (k:Int)).1+x)) (gI T.2.1 (k:Int)).2.1/\gI (ov.set (gI T.2.1 (k:Int)).1.toNat (gI ov (gI T.2.1 (k:Int)).1+x)) (gI T.2.1 (k:Int)).2.1<=17180917760:=by
 obtain⟨⟨a0,a1⟩,⟨b0,b1⟩,_⟩:=hm.2.2.2.1 _ (bo (xs:=T.2.1) (i:=(k:Int)) (by omega) hk)
 rw[cw a0 (by omega) b0]
 have h1:=hb _ a0 a1
 have h2:=hb _ b0 b1
 split<;>omega
theorem mN(hm:cM T)(hok:∀i:Nat,i<k->gD T f i)(hk:(k:Int)<=(T.2.1.length:Int))(v:Int):∀n:Nat,n<=k-> -(n:Int)*1048576<=qC T f n v/\qC T f n v<=(n:Int)*1048576
 |0,_=>⟨Int.le_refl _,Int.le_refl _⟩
 |n+1,h=>by
   have h1:=mN hm hok hk v n (by omega)
   obtain⟨⟨h2,h3⟩,_⟩:=qE hm (hok n (by omega)) (by omega)
   show _<=qC T f n v+((if(gI T.2.1 (n:Int)).1=v then gI f.1 (n:Int) else 0)-(if(gI T.2.1 (n:Int)).2.1=v then gI f.1 (n:Int) else 0))/\qC T f n v+((if(gI T.2.1 (n:Int)).1=v then gI f.1 (n:Int) else 0)-(if(gI T.2.1 (n:Int)).2.1=v then gI f.1 (n:Int) else 0))<=_
   split<;>split<;>omega
theorem iM.bd(h:iM T f k ov c)(hm:cM T)(hk:(k:Int)<=(T.2.1.length:Int)):(∀v,0<=v->v<T.1-> -17179869184<=gI ov v/\gI ov v<=17179869184)/\0<=c/\c<=18014398509481984:=by
 have hl:=hm.2.1
 refine⟨λv v0 v1=>?_,?_⟩
 · have:=h.at_ v.toNat (by omega)
   rw[Int.toNat_of_nonneg v0] at this
   have:=mN hm h.ok hk v k (Nat.le_refl _)
   omega
 · have:∀n:Nat,n<=k->0<=SP n (λi=>gI f.1 (i:Int)*(gI T.2.1 (i:Int)).2.2.2)/\SP n (λi=>gI f.1 (i:Int)*(gI T.2.1 (i:Int)).2.2.2)<=(n:Int)*1099511627776:=by
     intro n
     induction n with
     |zero=>intro _;exact⟨Int.le_refl _,Int.le_refl _⟩
     |succ n ih=>
       intro hn
       have h1:=ih (by omega)
       obtain⟨_,h2,h3⟩:=qE hm (h.ok n (by omega)) (by omega)
       show 0<=SP n (λi=>gI f.1 (i:Int)*(gI T.2.1 (i:Int)).2.2.2)+gI f.1 (n:Int)*(gI T.2.1 (n:Int)).2.2.2/\SP n (λi=>gI f.1 (i:Int)*(gI T.2.1 (i:Int)).2.2.2)+gI f.1 (n:Int)*(gI T.2.1 (n:Int)).2.2.2<=_
       omega
   have:=this k (Nat.le_refl _)
   rw[h.cs]
   omega
theorem iM.next(h:iM T f k ov c)(hm:cM T)(hk:(k:Int)<(T.2.1.length:Int))(ha:gD T f k)(h1:o1=ov.set (gI T.2.1 (k:Int)).1.toNat (gI ov (gI T.2.1 (k:Int)).1+gI f.1 (k:Int)))(h2:o2=o1.set (gI T.2.1 (k:Int)).2.1.toNat (gI o1 (gI T.2.1 (k:Int)).2.1-gI f.1 (k:Int)))(hd:d=c+gI f.1 (k:Int)*(gI T.2.1 (k:Int)).2.2.2):iM T f (k+1) o2 d:=by
 obtain⟨⟨a0,a1⟩,⟨b0,b1⟩,_⟩:=hm.2.2.2.1 _ (bo (xs:=T.2.1) (i:=(k:Int)) (by omega) hk)
 have hl:=h.ln
 have hl1:(o1.length:Int)=T.1:=by rw[h1,List.length_set];exact hl
 refine⟨by rw[h2,List.length_set];exact hl1,λv hv=>?_,λi hi=>?_,by rw[hd,h.cs];rfl⟩
 · have hv0:=h.at_ v hv
   have g1:∀u,0<=u->gI o1 u=if u=(gI T.2.1 (k:Int)).1 then gI ov (gI T.2.1 (k:Int)).1+gI f.1 (k:Int) else gI ov u:=λu u0=>by rw[h1];exact cw a0 (by omega) u0
   have g2:gI o2 (v:Int)=if(v:Int)=(gI T.2.1 (k:Int)).2.1 then gI o1 (gI T.2.1 (k:Int)).2.1-gI f.1 (k:Int) else gI o1 (v:Int):=by rw[h2];exact cw b0 (by omega) (by omega)
   rw[g2,g1 _ b0,g1 (v:Int) (by omega)]
   show _=qC T f k (v:Int)+((if(gI T.2.1 (k:Int)).1=(v:Int) then gI f.1 (k:Int) else 0)-(if(gI T.2.1 (k:Int)).2.1=(v:Int) then gI f.1 (k:Int) else 0))
   rw[<-hv0]
   by_cases q1:(v:Int)=(gI T.2.1 (k:Int)).2.1
   · rw[if_pos q1,<-q1,if_pos rfl]
     by_cases q2:(v:Int)=(gI T.2.1 (k:Int)).1
     · rw[if_pos q2,<-q2,if_pos rfl];omega
     · rw[if_neg q2,if_neg (λe=>q2 e.symm)];omega
   · rw[if_neg q1,if_neg (λe:(gI T.2.1 (k:Int)).2.1=(v:Int)=>q1 e.symm)]
     by_cases q2:(v:Int)=(gI T.2.1 (k:Int)).1
     · rw[if_pos q2,<-q2,if_pos rfl];omega
     · rw[if_neg q2,if_neg (λe=>q2 e.symm)];omega
 · by_cases q:i=k
   · rw[q];exact ha
   · exact h.ok i (by omega)
theorem lN(h:iM T f k ov c)(hm:cM T)(hk:(k:Int)<=(T.2.1.length:Int))(hn:¬(k:Int)<(T.2.1.length:Int))(hj:(j:Int)<(T.2.2.length:Int))(hne:¬gI ov (j:Int)=gI T.2.2 (j:Int)):dB T f=false:=by
 have e:k=T.2.1.length:=by omega
 subst e
 have hD:=hm.2.2.1
 refine jy λq=>hne ?_
 rw[h.at_ j (by omega)]
 exact q.2.2.2.1 j (by omega)
theorem mX(h:iM T f k ov c)(hk:(k:Int)<=(T.2.1.length:Int))(hn:¬(k:Int)<(T.2.1.length:Int))(hh:pX T f){i:Nat}(hp:∀x∈f.2.1.take i,jf x)(hi:¬(i:Int)<(f.2.1.length:Int))(hnd:∀v:Nat,v<j->gI ov (v:Int)=gI T.2.2 (v:Int))(hj:¬(j:Int)<(T.2.2.length:Int)):dB T f=decide (c=f.2.2):=by
 have e:k=T.2.1.length:=by omega
 subst e
 have hD:=hh.1.2.2.1
 rw[List.take_of_length_le (by omega)] at hp
 unfold dB
 rw[decide_eq_decide]
 constructor
 · intro q;rw[h.cs];exact q.2.2.2.2
 · intro q
   refine⟨hh,hp,h.ok,λv hv=>?_,by rw[<-q,h.cs];rfl⟩
   rw[<-hnd v (by omega),h.at_ v (by omega)];rfl
theorem qy.of(hm:cM T)(hx:rP T.1 T.2.1 T.2.2 f.1)(hp:rO T.2.1 f.1 f.2.1)(hl:(f.2.1.length:Int)=T.1)(hb:∀p∈f.2.1,0<=p/\p<=1099511627776)(hc:qK T.2.1 f.1=f.2.2):dB T f=true:=by
 have hD:=hm.2.2.1
 exact decide_eq_true ⟨⟨hm,hx.ln,hl⟩,λp q=>by have:=hb p q;unfold jf;omega,λi hi=>⟨hx.cap i hi,hp i hi⟩,λv hv=>hx.net v (by omega) (by omega),hc⟩
theorem qk(hm:cM T)(hok:nb T.1 T.2.1 T.2.2):dB T (bK T).1=true:=by
  unfold bK;rw[if_pos hm,if_pos hok]
  exact qy.of hm (qJ hm.my hok) (qU hm.my) (nj hm.my) (r6 hm.my) rfl
variable{bs:List Bool}{F:List Int}
theorem kE:cM c8/\nb c8.1 c8.2.1 c8.2.2:=by decide+kernel
theorem pP:bP c8=true/\((bK c8).1.1.length:Int)=3/\(bK c8).1.2.2=9/\(bK c8).2=0/\dB c8 (bK c8).1=true/\(0<((cB rh).1.length:Int))/\(cB rh).2=0:=by
 refine⟨dr kE.1,?_,?_,?_,qk kE.1 kE.2,?_,?_⟩
 · obtain⟨p,h⟩:=jH;rw[h];rfl
 · obtain⟨p,h⟩:=jH;rw[h]
 · obtain⟨p,h⟩:=jH;rw[h]
 · rcases lf with h|h<;>rw[h]<;>decide
 · rcases lf with h|h<;>rw[h]
end TL
/-
  TlNil: a list that is none, compared.
  By an AI agent.
-/
set_option linter.all false
namespace TL
open Go
section
variable{P:Program}{w:World}{t t':TypeId}{f:Fr}{x y:Operand}{dst:Option Tmp}{ty:TypeId}{pos:String}{after:Array Edge}{g:Option (Nat×Bool)}
end
theorem ml{α:Type}[Rp α]{γ:aE}{J S:cd->Prop}{w:World}{v:Value}{xs:List α}{hi:Nat}(h:Ow γ J S w v xs)(h2:hi<=xs.length):Ow γ J S w (et v (Rp.sz α) 0 hi) (xs.take hi):=by
  rcases h with⟨rfl,rfl⟩|⟨b,cap,c,e,rfl,hc,hm,hJ,hb,hcs,hx⟩
  · simp only[List.length_nil] at h2
    have:hi=0:=by omega
    subst this
    exact .inl ⟨rfl,rfl⟩
  · have hl:(xs.take hi).length=hi:=by simp;omega
    refine .inr ⟨b,cap,c,e,?_,⟨by omega,by omega⟩,hm,hJ,hb,hcs,λi x hi'=>hx i x ?_⟩
    · rw[lT]
      simp only[hl]
    · rw[List.getElem?_take] at hi'
      split at hi'
      · exact hi'
      · cases hi'
end TL
/-
  TlBlk: blocks by a walk depth first with a stack of edges, as the program does it, and what its walk may rely on.
  By an AI agent.
-/
set_option linter.all false
namespace TL
structure Bs where
 place:List Int
 low:List Int
 by_:List Int
 next:List Int
 found:Int
 edges:List Int
 laid:List Bool
 block:List Int
 count:Int
variable{g:dT}{s:Bs}{path:List Int}{e v w u hh:Int}
end TL
/-
  TlBlk4: the walk that finds blocks, one way of a step at a time; the loop that looks for an edge on the stack.
  By an AI agent.
-/
set_option linter.all false
namespace TL
variable{g:dT}{R:Bs}{pl lo by_ nx:List Int}{fo:Int}{ed:List Int}{la:List Bool}{bl:List Int}{co:Int}{path:List Int}{u hh:Int}
abbrev bs(pl lo by_ nx:List Int)(fo:Int)(ed:List Int)(la:List Bool)(bl:List Int)(co:Int):Bs:=⟨pl,lo,by_,nx,fo,ed,la,bl,co⟩
end TL
namespace TL
open Go
theorem mh(n:Nat):n^^^1=if n%2=0 then n+1 else n-1:=by
 have h1:(n^^^1)%2=(n+1)%2:=by
   have:= @Nat.xor_mod_two_eq_one n 1
   by_cases c:(n^^^1)%2=1
   · have:=this.1 c;omega
   · have h3:¬¬(n%2=1↔1%2=1):=λk=>c (this.2 k)
     have h4:=Decidable.not_not.1 h3
     have:n%2=1:=h4.2 rfl
     omega
 have h2:(n^^^1)/2=n/2:=by rw[Nat.xor_div_two];simp
 split<;>omega
theorem jd{m:Int}(t:TypeId)(h0:0<=m)(h1:m<4611686018427387904):binOp .xor t (.int .i64 m) (.int .i64 1)=pure (.int .i64 (bZ m)):=by
 obtain⟨n,rfl⟩:=Int.eq_ofNat_of_zero_le h0
 have hn:n<4611686018427387904:=by omega
 have e:(BitVec.ofInt 64 (n:Int)^^^BitVec.ofInt 64 1).toNat=n^^^1:=by
   rw[BitVec.toNat_xor]
   have e1:(BitVec.ofInt 64 (n:Int)).toNat=n:=by
     rw[BitVec.toNat_ofInt];omega
   have e2:(BitVec.ofInt 64 (1:Int)).toNat=1:=by decide
   rw[e1,e2]
 have h3:(((n^^^1:Nat)):Int)=bZ (n:Int):=by
   rw[mh];unfold bZ
   split<;>split<;>omega
 show(pure (Value.int .i64 (IntKind.i64.wrap ((BitVec.ofInt 64 (n:Int)^^^BitVec.ofInt 64 1).toNat:Int))):Sem Value)=_
 rw[e,h3,eP]
 unfold bZ;unfold pz;split<;>omega
end TL
namespace TL
variable{g:dT}{s:Bs}{path:List Int}
end TL
namespace TL
variable{g:dT}{of o:List Int}{c:List Bool}{k:Nat}
end TL
namespace TL
variable{g:dT}
end TL
/-
  TlIface: a method of an interface value that holds a pointer; values in an interface.
  By an AI agent.
-/
set_option linter.all false
namespace TL
open Go
def fM(P:Program)(T:TypeId)(name:String):Option (Nat×Bool×TypeId):=
  match P.info? T,P.underlying T with
  |some i,some (.pointer e)=>
    match i.methods.find? (·.name==name) with
    |some m=>if m.path.isEmpty then m.func.map (λq=>(q.1,q.2,e)) else none
    |none=>none
  |_,_=>none
theorem np{P:Program}{T e:TypeId}{name:String}{f:Nat}{b:Bool}(h:fM P T name=some (f,b,e)):∃i m,P.info? T=some i/\P.underlying T=some (.pointer e)/\i.methods.find? (·.name==name)=some m/\m.path= #[]/\m.func=some (f,b):=by
 unfold fM at h
 split at h
 · rename_i i e' hi hu
   split at h
   · rename_i m hm
     split at h
     · rename_i hp
       cases hf:m.func with
       |none=>rw[hf] at h;cases h
       |some q=>
         rw[hf] at h
         simp only[Option.map_some,Option.some.injEq,Prod.mk.injEq] at h
         obtain⟨h1,h2,h3⟩:=h
         refine⟨i,m,hi,h3▸hu,hm,by simpa using hp,?_⟩
         rw[hf,<-h1,<-h2]
     · cases h
   · cases h
 · cases h
section
variable{P:Program}{f:Fr}{w:World}{dst:Option Tmp}{ty:TypeId}{pos:String}{after:Array Edge}{g:Option (Nat×Bool)}{T e:TypeId}{name:String}{fid n:Nat}{a:Addr}{v u:Value}
theorem jS{i:TypeInfo}{t:TypeId}(h:P.info? t=some i):(typeInfo t).run P w= .ok i w:=by simp[typeInfo,h]
theorem dD(h:fM P T name=some (fid,true,e)):(method (n+1) T v name).run P w= .ok (fid,v) w:=by
 obtain⟨i,m,hi,hu,hm,hp,hf⟩:=np h
 simp[method,jS hi,hm,hp,hf,follow,receiverAt,bh hu,Place.get]
theorem pg(t:TypeId)(nm:String):(Builtin.ssaWrapNilChk_ #[t] t #[.pointer (some a),strVal "",strVal nm]).run P w= .ok (.pointer (some a)) w:=rfl
theorem aX(h:fM P T name=some (fid,false,e))(hl:(loadVar e a).run P w= .ok u w):(method (n+1) T (.pointer (some a)) name).run P w= .ok (fid,u) w:=by
 obtain⟨i,m,hi,hu,hm,hp,hf⟩:=np h
 simp[method,jS hi,hm,hp,hf,follow,receiverAt,bh hu,Place.get,pg,asAddr,hl]
theorem mO:∃n,P.types.size+Made.depth=n+1:=by
 have h:0<Made.depth:=by decide
 exact⟨P.types.size+Made.depth-1,by omega⟩
variable{x:Operand}{args:List Operand}{at_:Array TypeId}{vals:List Value}{fn:Func}
theorem bp(hx:ev f x= .iface T v)(hm:∀n,(method (n+1) T v name).run P w= .ok (fid,u) w)(hf:P.funcs[fid]? =some fn)(hb:fn.body.isNone=false)(hn:(fn.name== "runtime.NumGoroutine")=false)(ha:args.map (ev f)=vals):
   (execOp (ev f) ⟨dst,.call {callee:=.invoke x name,args:=args.toArray,argTypes:=at_},ty,pos,after,g⟩).run P w= .ok (.enter fid (u::vals).toArray) w:=by
 have ha:args.toArray.map (ev f)=vals.toArray:=by rw[<-ha];simp
 obtain⟨n,hn2⟩:=mO (P:=P)
 have hm':=hm n
 rw[<-hn2] at hm'
 have h1:fn.name≠ "runtime.NumGoroutine" :=by simpa using hn
 have h2:fn.body≠none:=λe=>by rw[e] at hb;cases hb
 simp[execOp,resolve,invoke,callMethod,callFunc,hx,ha,hm',hf,h1,h2]
theorem eB{t:TypeId}{us:TypeDesc}(hs:P.underlying t=some us)(hi:(match us with| .interface _=>true|_=>false)=false)(hx:ev f x=v):(execOp (ev f) ⟨dst,.makeInterface t x,ty,pos,after,g⟩).run P w= .ok (.value (.iface t v)) w:=by
 subst hx
 cases us<;>first|(cases hi;done)|simp[execOp,Instr.makeInterface,bh hs]
theorem fO{s t:TypeId}{us:TypeDesc}(hs:P.underlying t=some us)(hi:(match us with| .interface _=>true|_=>false)=false)(hx:ev f x= .iface t v):(execOp (ev f) ⟨dst,.typeAssert x s t false,ty,pos,after,g⟩).run P w= .ok (.value v) w:=by
 cases us<;>first|(cases hi;done)|simp[execOp,Instr.typeAssert,bh hs,hx]
end
end TL
/-
  TlOrb: going round by a permutation; two places changed; what that does to the numbers of rounds.
  By an AI agent.
-/
set_option linter.all false
namespace TL
def tr(a b x:Int):Int:=if x=a then b else if x=b then a else x
end TL
/-
  TlDual: faces as nodes: the dual, corners' faces, edges laid, taken and split, ways over faces, as plain functions.
  By an AI agent.
-/
set_option linter.all false
namespace TL
def pr(g:dT)(r:gp)(c:Int×Int):Prop:=(0<=c.1/\c.1<g.1)/\if((gI r c.1).length:Int)=0 then c.2= -1 else c.2∈gI r c.1
instance (g:dT)(r:gp)(c:Int×Int):Decidable (pr g r c):=by unfold pr;infer_instance
end TL
namespace TL
end TL
namespace TL
end TL
namespace TL
section
variable{g:dT}{r:gp}{a b:Int×Int}
end
end TL
/-
  TlKru: edges of the least weight that join all that is joined (package path's Least): Kruskal's way by labels, and a forest of parents that agrees with the labels.
  By an AI agent.
-/
set_option linter.all false
namespace TL
def qH(ws:List Nat)(i:Int):Pl:=(zf (gI ws i),i)
def rI(ws:List Nat)(i k:Int):Prop:=qY (qH ws i) (qH ws k)
instance (ws:List Nat)(i k:Int):Decidable (rI ws i k):=by unfold rI;infer_instance
-- by labels
variable{n:Int}{of0 of c:List Int}{rho:Int->Nat}{v v0:Int}
end TL
namespace TL
variable{g:dT}{ws:List Nat}{of l:List Int}{k:Nat}
end TL
namespace TL
end TL
namespace TL
end TL
/-
  TlOnes: ways of weights 1, 0 and of none: as a walk breadth first goes.
  By an AI agent.
-/
set_option linter.all false
namespace TL
variable{g g1 g2:dT}{ws w1 w2:List Nat}{s v:Int}{f1 f2 far:List Nat}{b1 b2 by_:List Int}{r1 r2 rk:Int->Nat}{C:Nat}
end TL
namespace TL
variable{g:dT}{s:Int}
end TL
namespace TL
open Go
theorem nT{P:Program}{f:Fr}{w:World}{dst:Option Tmp}{ty:TypeId}{pos:String}{after:Array Edge}{g:Option (Nat×Bool)}{t t':TypeId}{x y:Operand}{op:BinOp}{k:IntKind}{m n r:Int}(hx:ev f x= .int k m)(hy:ev f y= .int k n)(h:binOp op t (.int k m) (.int k n)=pure (.int k r)):(execOp (ev f) ⟨dst,.binOp op t x y t',ty,pos,after,g⟩).run P w= .ok (.value (.int k r)) w:=
 c7 op x y hx hy (by rw[h];rfl)
end TL
namespace TL
variable{g:dT}{s v:Int}{on ze so:List Nat}{op:List Int}{i:Nat}
end TL
/-
  TlPerm: several new objects that are made in whatever order is drawn: all orders end alike.
  By an AI agent.
-/
set_option linter.all false
namespace TL
open Go
def iX(f:Fr)(val:Nat->Value)(S:List Nat):Fr:=λt=>bif S.contains t then val t else f t
theorem m4{f:Fr}{val:Nat->Value}{S S':List Nat}(h:∀t,t∈S↔t∈S'):iX f val S=iX f val S':=by
 funext t
 unfold iX
 have:S.contains t=S'.contains t:=by
   rw[Bool.eq_iff_iff]
   simp only[List.contains_iff_mem];exact h t
 rw[this]
theorem pc{f:Fr}{val:Nat->Value}{S:List Nat}{d:Nat}{v:Value}(hd:d∉S):dL (iX f val S) (some d) v=iX f (λt=>if t=d then v else val t) (d::S):=by
 funext t
 unfold dL iX
 simp only
 by_cases c:t=d
 · subst c
   have e1:(t::S).contains t=true:=by simp
   rw[e1,Nat.beq_refl];simp
 · have e1:Nat.beq t d=false:=by
     cases h:Nat.beq t d with
     |false=>rfl
     |true=>exact absurd (Nat.eq_of_beq_eq_true h) c
   have e2:(d::S).contains t=S.contains t:=by
     rw[Bool.eq_iff_iff]
     simp[c]
   rw[e1,e2,if_neg c];rfl
def k8{α:Type}:List α->List (List α)
 |[]=>[[]]
 |a::l=>k8 l++(k8 l).map (a:: ·)
theorem gy{α:Type}(p:α->Bool):∀l:List α,l.filter p∈k8 l
 |[]=>List.mem_singleton.2 rfl
 |a::l=>by
   have ih:=gy p l
   unfold k8
   rw[List.filter_cons]
   split
   · exact List.mem_append_right _ (List.mem_map.2 ⟨_,ih,rfl⟩)
   · exact List.mem_append_left _ ih
theorem fp:∀(D A:List (Nat×Nat)),D.Nodup->(∀p∈D,p∈A)->D.length<=A.length
 |[],A,_,_=>Nat.zero_le _
 |a::D,A,hn,hs=>by
   have hn':=List.nodup_cons.1 hn
   have ha:=hs a (List.mem_cons_self ..)
   have h3:=fp D (A.erase a) hn'.2 (λx hx=>by
     have hne:x≠a:=λe=>hn'.1 (by rw[<-e];exact hx)
     exact(List.mem_erase_of_ne hne).2 (hs x (List.mem_cons_of_mem _ hx)))
   have h4:=List.length_erase_of_mem ha
   have h5:=List.length_pos_of_mem ha
   rw[List.length_cons];omega
theorem i5:∀{A:List (Nat×Nat)},(A.map Prod.fst).Nodup->A.Nodup
 |[],_=>List.nodup_nil
 |a::A,h=>by
   rw[List.map_cons,List.nodup_cons] at h
   exact List.nodup_cons.2 ⟨λk=>h.1 (List.mem_map.2 ⟨a,k,rfl⟩),i5 h.2⟩
theorem iZ{A:List (Nat×Nat)}(h:(A.map Prod.snd).Nodup){p q:Nat×Nat}(hp:p∈A)(hq:q∈A)(e:p.2=q.2):p=q:=by
 induction A with
 |nil=>exact absurd hp List.not_mem_nil
 |cons a A ih=>
   rw[List.map_cons,List.nodup_cons] at h
   rcases List.mem_cons.1 hp with e1|e1
   · rcases List.mem_cons.1 hq with e2|e2
     · rw[e1,e2]
     · exact absurd (List.mem_map.2 ⟨q,e2,by rw[<-e,e1]⟩) h.1
   · rcases List.mem_cons.1 hq with e2|e2
     · exact absurd (List.mem_map.2 ⟨p,e1,by rw[e,e2]⟩) h.1
     · exact ih h.2 e1 e2
section
variable{P:Program}{n:Nat}{l:List Oper}{qs:List Nat}{K:Fr->World->Prop}{f:Fr}{w:World}{done:List Nat}{fuel:Nat}
theorem iz{n:Nat}{d d':List Nat}(h:∀t,t∈d↔t∈d'):bv n d=bv n d':=by
 unfold bv
 congr 1
 apply List.map_congr_left
 intro t _
 rw[decide_eq_decide];exact h t
theorem lS{done':List Nat}(h:∀t,t∈done↔t∈done')(hw:ga P n l qs K fuel done f w):ga P n l qs K fuel done' f w:=by
 unfold ga at*
 rw[<-iz h];exact hw
def nr(dep:Nat->List Nat)(D:List (Nat×Nat)):Bool:=D.all λp=>(dep p.2).all λt=>(D.map Prod.snd).contains t
def kB(dep:Nat->List Nat)(A D:List (Nat×Nat)):List (Nat×Nat):=A.filter λp=> !(D.map Prod.fst).contains p.1&&(dep p.2).all λt=>(D.map Prod.snd).contains t
def rM(l:List Oper)(done:List Nat)(dep:Nat->List Nat)(A:List (Nat×Nat)):Bool:=(k8 A).all λD=>decide (D.length=A.length)||(nr dep D).not||(decide (Region.ready .any l.toArray (bv l.length (D.map Prod.fst++done))=(kB dep A D).map Prod.fst)&& !(kB dep A D).isEmpty)
theorem pN(A:List (Nat×Nat))(dep:Nat->List Nat)(Φ:Nat->List Value->aE->World->Value->Prop)(γ:aE)
    (hst:∀p∈A,∀vs γ w γ' w' v,bT no γ w γ' w'->Φ p.2 vs γ w v->Φ p.2 vs γ' w' v)
    (hnd:(A.map Prod.snd).Nodup)(hnf:(A.map Prod.fst).Nodup)
    (hrd:rM l done dep A=true)
    (hop:∀p∈A,qs.contains p.1=false/\∃o,l[p.1]? =some o/\o.dst=some p.2/\gB n o=true/\∀(f':Fr) (val:Nat->Value),(∀t,(A.map Prod.snd).contains t=false->f' t=f t)->(∀t∈dep p.2,f' t=val t)->c6 l o f'=true/\∀γ w,(∀t∈dep p.2,Φ t ((dep t).map val) γ w (val t))->dZ P o f' w λv w'=>∃γ',bT no γ w γ' w'/\Φ p.2 ((dep p.2).map val) γ' w' v)
    (hk:∀val γ' w',bT no γ w γ' w'->(∀p∈A,Φ p.2 ((dep p.2).map val) γ' w' (val p.2))->ga P n l qs K fuel (A.map Prod.fst++done) (iX f val (A.map Prod.snd)) w'):ga P n l qs K (fuel+A.length) done f w:=by
  have main:∀(m:Nat) (D:List (Nat×Nat)) (val:Nat->Value) (γ':aE) (w':World),D.Nodup->(∀p∈D,p∈A)->(∀p∈D,∀t∈dep p.2,t∈D.map Prod.snd)->D.length+m=A.length->bT no γ w γ' w'->(∀p∈D,Φ p.2 ((dep p.2).map val) γ' w' (val p.2))->ga P n l qs K (fuel+m) (D.map Prod.fst++done) (iX f val (D.map Prod.snd)) w':=by
    have hAn:A.Nodup:=i5 hnf
    intro m
    induction m with
    |zero=>
      intro D val γ' w' hD hsub hcl hl hc hF
      have hmem:∀p,p∈A↔p∈D:=by
        intro p
        refine⟨λhp=>?_,hsub p⟩
        by_cases c:p∈D
        · exact c
        · exfalso
          have:=fp (p::D) A (List.nodup_cons.2 ⟨c,hD⟩) (λq hq=>(List.mem_cons.1 hq).elim (λe=>by rw[e];exact hp) (hsub q))
          rw[List.length_cons] at this;omega
      have h1:=hk val γ' w' hc (λp hp=>hF p ((hmem p).1 hp))
      have e1:∀t,t∈A.map Prod.fst++done↔t∈D.map Prod.fst++done:=λt=>by
        simp only[List.mem_append,List.mem_map]
        constructor
        · rintro(⟨p,hp,rfl⟩|h)
          · exact .inl ⟨p,(hmem p).1 hp,rfl⟩
          · exact .inr h
        · rintro(⟨p,hp,rfl⟩|h)
          · exact .inl ⟨p,(hmem p).2 hp,rfl⟩
          · exact .inr h
      have e2:iX f val (A.map Prod.snd)=iX f val (D.map Prod.snd):=m4 λt=>by
        simp only[List.mem_map]
        constructor
        · rintro⟨p,hp,rfl⟩;exact⟨p,(hmem p).1 hp,rfl⟩
        · rintro⟨p,hp,rfl⟩;exact⟨p,(hmem p).2 hp,rfl⟩
      rw[e2] at h1
      exact lS e1 h1
    |succ m ih=>
      intro D val γ' w' hD hsub hcl hl hc hF
      let D':=A.filter λp=>decide (p∈D)
      have hD':∀p,p∈D'↔p∈D:=λp=>by
        show p∈A.filter _↔_
        rw[List.mem_filter,decide_eq_true_iff]
        exact⟨λh=>h.2,λh=>⟨hsub p h,h⟩⟩
      have hD1:∀t,t∈D'.map Prod.fst↔t∈D.map Prod.fst:=λt=>by
        simp only[List.mem_map]
        exact⟨λ⟨p,hp,e⟩=>⟨p,(hD' p).1 hp,e⟩,λ⟨p,hp,e⟩=>⟨p,(hD' p).2 hp,e⟩⟩
      have hD2:∀t,t∈D'.map Prod.snd↔t∈D.map Prod.snd:=λt=>by
        simp only[List.mem_map]
        exact⟨λ⟨p,hp,e⟩=>⟨p,(hD' p).1 hp,e⟩,λ⟨p,hp,e⟩=>⟨p,(hD' p).2 hp,e⟩⟩
      have hlD:D'.length≠A.length:=by
        have h1:=fp D' D (hAn.filter _) (λp hp=>(hD' p).1 hp)
        omega
      have hcD:nr dep D'=true:=by
        unfold nr
        simp only[List.all_eq_true,List.contains_iff_mem]
        exact λp hp t ht=>(hD2 t).2 (hcl p ((hD' p).1 hp) t ht)
      have hr0:=List.all_eq_true.1 hrd D' (gy _ A)
      rw[decide_eq_false hlD,hcD] at hr0
      simp only[Bool.not_true,Bool.or_false,Bool.false_or,Bool.and_eq_true] at hr0
      obtain⟨hr1,hne⟩:=hr0
      have hr:=of_decide_eq_true hr1
      have em:bv l.length (D'.map Prod.fst++done)=bv l.length (D.map Prod.fst++done):=iz λt=>by
        simp only[List.mem_append];rw[hD1 t]
      rw[em] at hr
      have hnx:∀p,p∈kB dep A D'->p∈A/\p∉D/\∀t∈dep p.2,t∈D.map Prod.snd:=λp hp=>by
        unfold kB at hp
        rw[List.mem_filter,Bool.and_eq_true,List.all_eq_true] at hp
        obtain⟨h1,h2,h3⟩:=hp
        refine⟨h1,λk=>?_,λt ht=>(hD2 t).1 (List.contains_iff_mem.1 (h3 t ht))⟩
        have:p.1∈D'.map Prod.fst:=List.mem_map.2 ⟨p,(hD' p).2 k,rfl⟩
        simp[this] at h2
      intro a ha
      refine⟨λh0=>?_,λk hk2=>?_⟩
      · rw[hr] at h0
        have h5:kB dep A D'=[]:=List.map_eq_nil_iff.1 h0
        rw[h5] at hne;cases hne
      · rw[hr] at hk2
        obtain⟨p,hp0,rfl⟩:=List.mem_map.1 hk2
        obtain⟨hp,hpD,hdp⟩:=hnx p hp0
        obtain⟨hq,o,hi,hdst,hdk,ho⟩:=hop p hp
        have hlt:p.1<l.length:=(List.getElem?_eq_some_iff.1 hi).1
        have hq':decide (p.1∈qs)=false:=by simpa using hq
        have hd2:p.2∉D.map Prod.snd:=by
          intro k
          obtain⟨q,hq2,e⟩:=List.mem_map.1 k
          have:q=p:=iZ hnd (hsub q hq2) hp e
          rw[this] at hq2;exact hpD hq2
        obtain⟨hw1,hw2⟩:=ho (iX f val (D.map Prod.snd)) val (λt ht=>by
          unfold iX
          have:(D.map Prod.snd).contains t=false:=by
            cases hc2:(D.map Prod.snd).contains t with
            |false=>rfl
            |true=>
              obtain⟨q,hq2,e⟩:=List.mem_map.1 (List.contains_iff_mem.1 hc2)
              have:(A.map Prod.snd).contains t=true:=List.contains_iff_mem.2 (List.mem_map.2 ⟨q,hsub q hq2,e⟩)
              rw[this] at ht;cases ht
          rw[this];rfl) (λt ht=>by
          unfold iX
          rw[List.contains_iff_mem.2 (hdp t ht)];rfl)
        simp only[hq',Bool.false_eq_true,if_false]
        refine du ha hi hw1 (hw2 γ' w' (λt ht=>?_)) λv w2 ⟨γ2,c2,h2⟩=>?_
        · obtain⟨q,hq2,e⟩:=List.mem_map.1 (hdp t ht)
          rw[<-e];exact hF q hq2
        rw[cm _ hlt]
        have hc2:bT no γ w γ2 w2:=hc.trans c2 (λ_ _ h=>h.elim id id)
        have hval:∀q:Nat×Nat,(∀t∈dep q.2,t∈D.map Prod.snd)->(dep q.2).map (λt=>if t=p.2 then v else val t)=(dep q.2).map val:=λq hq2=>List.map_congr_left λt ht=>by
          rw[if_neg]
          intro e
          exact hd2 (by rw[<-e];exact hq2 t ht)
        have hnext:=ih (p::D) (λt=>if t=p.2 then v else val t) γ2 w2 (List.nodup_cons.2 ⟨hpD,hD⟩) (λq hq2=>(List.mem_cons.1 hq2).elim (λe=>by rw[e];exact hp) (hsub q)) (λq hq2 t ht=>by
          rw[List.map_cons]
          rcases List.mem_cons.1 hq2 with e|e
          · rw[e] at ht;exact List.mem_cons_of_mem _ (hdp t ht)
          · exact List.mem_cons_of_mem _ (hcl q e t ht)) (by rw[List.length_cons];omega) hc2 (λq hq2=>by
          rcases List.mem_cons.1 hq2 with e|e
          · rw[e,if_pos rfl,hval p hdp];exact h2
          · have hne:q.2≠p.2:=λk=>hd2 (by rw[<-k];exact List.mem_map.2 ⟨q,e,rfl⟩)
            rw[if_neg hne,hval q (hcl q e)]
            exact hst q (hsub q e) _ _ _ _ _ _ c2 (hF q e))
        have ef:dL (iX f val (D.map Prod.snd)) o.dst v=iX f (λt=>if t=p.2 then v else val t) ((p::D).map Prod.snd):=by
          rw[hdst,pc hd2];rfl
        have:=hnext (a.put o.dst v) (by rw[<-ef];exact ha.put hdk v)
        exact this
  have h0:=main A.length [] (λ_=>undef) γ w List.nodup_nil (λp hp=>absurd hp List.not_mem_nil) (λp hp=>absurd hp List.not_mem_nil) (by simp) (bT.refl _ _ _) (λp hp=>absurd hp List.not_mem_nil)
  have e0:iX f (λ_=>undef) (([]:List (Nat×Nat)).map Prod.snd)=f:=by
    funext t;rfl
  rw[e0] at h0
  exact h0
end
end TL
namespace TL
open Go
structure Mk where
  op:Nat
  slot:Nat
  dep:List Nat
  ok:List Value->aE->World->Value->Prop
def oT:List Mk->Prop
 |[]=>True
 |p::r=>(∀vs γ w γ' w' v,bT no γ w γ' w'->p.ok vs γ w v->p.ok vs γ' w' v)/\oT r
def e7:List Mk->Nat->List Nat
 |[],_=>[]
 |p::r,t=>bif Nat.beq t p.slot then p.dep else e7 r t
def gC:List Mk->Nat->List Value->aE->World->Value->Prop
 |[],_=>λ_ _ _ _=>False
 |p::r,t=>bif Nat.beq t p.slot then p.ok else gC r t
def oX(P:Program)(n:Nat)(l:List Oper)(qs:List Nat)(f:Fr)(L:List Mk)(S:List Nat):List Mk->Prop
  |[]=>True
  |p::r=>(qs.contains p.op=false/\∃o,l[p.op]? =some o/\o.dst=some p.slot/\gB n o=true/\∀(f':Fr) (val:Nat->Value),(∀t,S.contains t=false->f' t=f t)->(∀t∈p.dep,f' t=val t)->c6 l o f'=true/\∀γ w,(∀t∈p.dep,gC L t ((e7 L t).map val) γ w (val t))->dZ P o f' w λv w'=>∃γ',bT no γ w γ' w'/\p.ok (p.dep.map val) γ' w' v)/\oX P n l qs f L S r
theorem oT.mem{L:List Mk}(h:oT L):∀p∈L,∀vs γ w γ' w' v,bT no γ w γ' w'->p.ok vs γ w v->p.ok vs γ' w' v:=by
 induction L with
 |nil=>intro p hp;exact absurd hp List.not_mem_nil
 |cons a L ih=>
   intro p hp
   rcases List.mem_cons.1 hp with e|e
   · rw[e];exact h.1
   · exact ih h.2 p e
theorem je{a b:Nat}(h:a≠b):Nat.beq a b=false:=by
 cases k:Nat.beq a b with
 |false=>rfl
 |true=>exact absurd (Nat.eq_of_beq_eq_true k) h
theorem gf:∀{L:List Mk},(L.map Mk.slot).Nodup->∀p∈L,e7 L p.slot=p.dep/\gC L p.slot=p.ok
 |[],_,p,hp=>absurd hp List.not_mem_nil
 |a::L,h,p,hp=>by
   rw[List.map_cons,List.nodup_cons] at h
   rcases List.mem_cons.1 hp with e|e
   · rw[e];unfold e7 gC;rw[Nat.beq_refl];exact⟨rfl,rfl⟩
   · have hne:p.slot≠a.slot:=λk=>h.1 (by rw[<-k];exact List.mem_map.2 ⟨p,e,rfl⟩)
     unfold e7 gC
     rw[je hne];exact gf h.2 p e
def kD(K:Fr->Prop)(γ:aE)(w:World):List Mk->List (Nat×Value)->Fr->Prop
  |[],_,f=>K f
  |p::r,env,f=>∀v,p.ok (p.dep.map λt=>(env.lookup t).getD undef) γ w v->kD K γ w r ((p.slot,v)::env) (dL f (some p.slot) v)
def l9:List Mk->List Nat->Bool
 |[],_=>true
 |p::r,S=>(p.dep.all λt=>S.contains t)&&l9 r (p.slot::S)
theorem nN{f:Fr}{val:Nat->Value}{d:Nat}{S:List Nat}:iX (dL f (some d) (val d)) val S=iX f val (d::S):=by
 funext t
 unfold iX dL
 simp only
 by_cases c:t=d
 · subst c
   have e1:(t::S).contains t=true:=by simp
   rw[e1,Nat.beq_refl];cases S.contains t<;>rfl
 · have e1:Nat.beq t d=false:=je c
   have e2:(d::S).contains t=S.contains t:=by
     rw[Bool.eq_iff_iff]
     simp[c]
   rw[e1,e2];rfl
theorem kD.use{K:Fr->Prop}{γ:aE}{w:World}{val:Nat->Value}:∀{L:List Mk} {env:List (Nat×Value)} {f:Fr},kD K γ w L env f->(∀t∈env.map Prod.fst,(env.lookup t).getD undef=val t)->l9 L (env.map Prod.fst)=true->(∀p∈L,p.ok (p.dep.map val) γ w (val p.slot))->K (iX f val (L.map Mk.slot))
 |[],_,f,h,_,_,_=>by
   have:iX f val (([]:List Mk).map Mk.slot)=f:=by funext t;rfl
   rw[this];exact h
 |p::L,env,f,h,he,ht,hF=>by
   unfold l9 at ht
   rw[Bool.and_eq_true,List.all_eq_true] at ht
   have e1:p.dep.map (λt=>(env.lookup t).getD undef)=p.dep.map val:=List.map_congr_left λt h1=>he t (List.contains_iff_mem.1 (ht.1 t h1))
   have h2:=h (val p.slot) (by rw[e1];exact hF p (List.mem_cons_self ..))
   have:=kD.use h2 (λt h3=>by
     rw[List.lookup_cons]
     by_cases c:t=p.slot
     · rw[c];simp
     · have:(t==p.slot)=false:=by simpa using c
       rw[this]
       exact he t ((List.mem_cons.1 h3).resolve_left c)) ht.2 (λq hq=>hF q (List.mem_cons_of_mem _ hq))
   rw[nN] at this;exact this
section
variable{P:Program}{n:Nat}{l:List Oper}{qs:List Nat}{K:Fr->World->Prop}{f:Fr}{w:World}{done:List Nat}{fuel:Nat}{S:List Nat}
theorem oX.mem{L M:List Mk}(h:oX P n l qs f M S L):∀p∈L,qs.contains p.op=false/\∃o,l[p.op]? =some o/\o.dst=some p.slot/\gB n o=true/\∀(f':Fr) (val:Nat->Value),(∀t,S.contains t=false->f' t=f t)->(∀t∈p.dep,f' t=val t)->c6 l o f'=true/\∀γ w,(∀t∈p.dep,gC M t ((e7 M t).map val) γ w (val t))->dZ P o f' w λv w'=>∃γ',bT no γ w γ' w'/\p.ok (p.dep.map val) γ' w' v:=by
 induction L with
 |nil=>intro p hp;exact absurd hp List.not_mem_nil
 |cons a L ih=>
   intro p hp
   rcases List.mem_cons.1 hp with e|e
   · rw[e];exact h.1
   · exact ih h.2 p e
theorem dZ.mono{o:Oper}{N N':Value->World->Prop}(h:dZ P o f w N)(hN:∀v w,N v w->N' v w):dZ P o f w N':=by
 unfold dZ at*
 generalize(execOp (ev f) o).run P w=r at*
 cases r with
 |halt x w'=>exact h.elim
 |ok nx w'=>
   cases nx<;>simp only[l6] at h ⊢
   case value v=>exact hN _ _ h
   case skip=>exact hN _ _ h
   case enter g args=>
     refine h.mono λe w'' he=>?_
     cases e with
     |returned v=>exact hN _ _ he
     |panicked c=>exact he.elim
     |outgrown=>exact he.elim
theorem lM(γ:aE)(L:List Mk)(A:List (Nat×Nat))(fu:Nat)(hA:L.map (λp=>(p.op,p.slot))=A)(hst:oT L)(hnd0:(A.map Prod.snd).Nodup)(hnf:(A.map Prod.fst).Nodup)
    (hrd:rM l done (e7 L) A=true)(htp:l9 L []=true)
    (hfu:fu=fuel+A.length)(hop:oX P n l qs f L (A.map Prod.snd) L)
    (hk:∀γ' w',bT no γ w γ' w'->kD (λf'=>ga P n l qs K fuel (A.map Prod.fst++done) f' w') γ' w' L [] f):ga P n l qs K fu done f w:=by
  subst hfu
  have e1:A.map Prod.snd=L.map Mk.slot:=by rw[<-hA,List.map_map];rfl
  have hnd:(L.map Mk.slot).Nodup:=by rw[<-e1];exact hnd0
  refine pN A (e7 L) (gC L) γ (λq hq=>?_) hnd0 hnf hrd (λq hq=>?_) (λval γ' w' hc hF=>?_)
  · rw[<-hA] at hq
    obtain⟨p,hp,rfl⟩:=List.mem_map.1 hq
    intro vs γ w γ' w' v hc
    show gC L p.slot vs γ w v->gC L p.slot vs γ' w' v
    rw[(gf hnd p hp).2];exact hst.mem p hp vs γ w γ' w' v hc
  · rw[<-hA] at hq
    obtain⟨p,hp,rfl⟩:=List.mem_map.1 hq
    obtain⟨a,o,b,c,d,e⟩:=hop.mem p hp
    show qs.contains p.op=false/\∃o,l[p.op]? =some o/\o.dst=some p.slot/\gB n o=true/\∀(f':Fr) (val:Nat->Value),(∀t,(A.map Prod.snd).contains t=false->f' t=f t)->(∀t∈e7 L p.slot,f' t=val t)->c6 l o f'=true/\∀γ w,(∀t∈e7 L p.slot,gC L t ((e7 L t).map val) γ w (val t))->dZ P o f' w λv w'=>∃γ',bT no γ w γ' w'/\gC L p.slot ((e7 L p.slot).map val) γ' w' v
    rw[(gf hnd p hp).1,(gf hnd p hp).2]
    exact⟨a,o,b,c,d,e⟩
  · have h1:=(hk γ' w' hc).use (val:=val) (λt ht=>absurd ht List.not_mem_nil) htp (λp hp=>by
      have:=hF (p.op,p.slot) (by rw[<-hA];exact List.mem_map.2 ⟨p,hp,rfl⟩)
      have h2:gC L p.slot ((e7 L p.slot).map val) γ' w' (val p.slot):=this
      rw[(gf hnd p hp).1,(gf hnd p hp).2] at h2;exact h2)
    rw[e1];exact h1
end
end TL
/-
  TlPost: what is owed behind a law that returns true and writes nothing of the caller's.
  By an AI agent.
-/
namespace TL
open Go Go.Proofs Go.ChangeShapes Go.WideShapes Go.RowKit
def lk(P:Program)(ts:List TypeId):Bool:=ts.all λt=>P.readableRec t&&decide (t<P.types.size)
theorem j6{H:Type}{enc:TypeId×Value->H}{P:Program}(hl:laidOutB P=true){W W':World}(hb:Below W.heap.size W W')(sp:Nat->Bool):
   ∀{ts:List TypeId} {vs:List Value} {ds:List (DataW H)} {ps:List MemPlace},lk P ts=true->DataW.TrodAll enc P W 0 (λ_=>true) true ts vs ds ps->(∀p∈ps,p.block<W.heap.size)->(∀p∈ps,sp p.block=true)->DataW.TrodAll enc P W' 0 sp true ts vs ds ps
 |[],[],[],_,_,h,_,_=>h
 |[],[],_::_,_,_,h,_,_=>h.elim
 |[],_::_,_,_,_,h,_,_=>by cases‹List (DataW H)›<;>exact h.elim
 |_::_,[],_,_,_,h,_,_=>by cases‹List (DataW H)›<;>exact h.elim
 |_::_,_::_,[],_,_,h,_,_=>h.elim
 |t::ts,v::vs,d::ds,ps,hr,h,hlt,hsp=>by
   obtain⟨p,q,h1,h2,rfl⟩:=h
   simp only[lk,List.all_cons,Bool.and_eq_true,decide_eq_true_eq] at hr
   exact⟨p,q,WideElems.Trod_stays hl hr.1.1 hr.1.2 h1 (λx hx=>hb.same (hlt x (by simp[hx]))) (λx hx=>hsp x (by simp[hx])),
     j6 hl hb sp hr.2 h2 (λx hx=>hlt x (by simp[hx])) (λx hx=>hsp x (by simp[hx])),rfl⟩
theorem nu{H:Type}{enc:TypeId×Value->H}{P:Program}{f:Func}{s:ChangeSpec}{W W':World}{args:Array Value}{ds gs:List (DataW H)}{before:List MemPlace}{tb:TypeId}
   (hl:laidOutB P=true)(hr:lk P f.params.toList=true)(hv:s.vars=[])(hrt:f.resultTypes= #[tb])(htb:P.underlying tb=some .bool)
   (hW:DataW.Whole enc P f.params.toList s.vars false W args.toList ds gs before)(hfn:s.fn H (ds++gs)={results:=[.lit (.bool true)],args:=ds})(hB:Below W.heap.size W W'):
   s.post enc P f false true false false W args (.bool true) W':=by
 have hlt:=hW.lt
 have hW0:=hW
 obtain⟨p,q,hA,hV,rfl,hfz,_⟩:=hW
 rw[hv] at hV
 obtain⟨rfl,rfl⟩:=trodVars_none hV
 simp only[List.append_nil] at hlt hfz hW0 hfn
 have hres:∀(b:Nat) (sp:Nat->Bool) (hd:Bool),DataW.TrodAll enc P W' b sp hd f.resultTypes.toList ((Value.bool true).resultList f.resultTypes.size) (s.fn H (ds++[])).results []:=λb sp hd=>by
   rw[hrt,List.append_nil,hfn]
   exact trodAll_cons_mk (shut_bool htb true) trodAll_mk0
 have hargs:∀sp:Nat->Bool,(∀x∈p,sp x.block=true)->DataW.TrodAll enc P W' 0 sp true f.params.toList args.toList (s.fn H (ds++[])).args p:=λsp hsp=>by
   rw[List.append_nil,hfn]
   exact j6 hl hB sp hr hA hlt hsp
 have hvars:∀sp:Nat->Bool,DataW.TrodVars enc P W' sp s.vars (s.fn H (ds++[])).vars []:=λsp=>by
   rw[List.append_nil,hfn,hv]
   rfl
 refine⟨ds,[],p,[],p,[],hW0,hres _ _ _,hargs _ (λx hx=>by simpa using hlt x hx),hvars _,World.keptBut_mono (λx hx=>⟨hx,Or.inr (by simpa using hx)⟩) (hB.frame _),λ_=>?_⟩
 refine⟨?_,_,_,([]++p)++[],⟨[]++p,[],trodAll_append (hargs _ (λ_ _=>rfl)) (hres _ _ _),hvars _,rfl,?_,?_⟩,?_⟩
 · exact ok_one hrt rfl (okWide_bool_mk htb true)
 · intro b off hp
   have hp':MemPlace.cell b off∈p:=by simpa using hp
   rw[hB.frozen (p:=⟨b,off,none⟩) (hlt _ hp')]
   exact hfz b off hp'
 · intro ha;cases ha
 · intro x hx _
   simpa using hx
end TL
/-
  TlOpenT: arguments that are tasks, or flows.
  By an AI agent.
-/
set_option linter.all false
namespace TL
open Go Go.Proofs Go.ChangeShapes Go.WideShapes Go.Joins Go.Deep
theorem oo{P:Program}{t e:TypeId}{f0 f1 f2 f3:Field}(hs:P.underlying t=some (.struct #[f0,f1,f2,f3]))(hone:oneCellFields P #[f0,f1,f2,f3]=true)(hC:P.cellsOf t=4)(h0:f0.type=e)(h1:f1.type=e)(h2:f2.type=e)(h3:f3.type=e)(he:P.underlying e=some (.int .i64)):oU (Int×Int×Int×Int) P t:=by
 intro H enc w fuel cs x h
 obtain⟨y0,y1,y2,y3,n,_,hl,k0,k1,k2,k3⟩:=trod_struct4 hs h
 obtain⟨o0,c0⟩:=hone_of hone 0 f0 rfl
 obtain⟨o1,c1⟩:=hone_of hone 1 f1 rfl
 obtain⟨o2,c2⟩:=hone_of hone 2 f2 rfl
 obtain⟨o3,c3⟩:=hone_of hone 3 f3 rfl
 rw[hC] at hl
 match cs,hl with
 |[v0,v1,v2,v3],_=>
   have k0':DataW.trod enc P w 0 (λ_=>true) true n f0.type [v0]=some y0:=by simpa[o0,c0] using k0
   have k1':DataW.trod enc P w 0 (λ_=>true) true n f1.type [v1]=some y1:=by simpa[o1,c1] using k1
   have k2':DataW.trod enc P w 0 (λ_=>true) true n f2.type [v2]=some y2:=by simpa[o2,c2] using k2
   have k3':DataW.trod enc P w 0 (λ_=>true) true n f3.type [v3]=some y3:=by simpa[o3,c3] using k3
   rw[h0] at k0'
   rw[h1] at k1'
   rw[h2] at k2'
   rw[h3] at k3'
   obtain⟨a,ha⟩:=ea he enc w n [v0] y0 k0'
   obtain⟨b,hb⟩:=ea he enc w n [v1] y1 k1'
   obtain⟨c,hc⟩:=ea he enc w n [v2] y2 k2'
   obtain⟨d,hd⟩:=ea he enc w n [v3] y3 k3'
   exact⟨(a,b,c,d),[v0],[v1,v2,v3],rfl,ha,[v1],[v2,v3],rfl,hb,[v2],[v3],rfl,hc,hd⟩
theorem mF{α:Type}[Rp α][Inhabited α]{P:Program}{t t0 t1 t2 e q:TypeId}{f0 f1 f2:Field}(hs:P.underlying t=some (.struct #[f0,f1,f2]))(hone:oneCellFields P #[f0,f1,f2]=true)(hC:P.cellsOf t=3)(hts:P.cellTypes P.depth t=some [t0,t1,t2])
    (h0:f0.type=t0)(h1:f1.type=t1)(h2:f2.type=t2)(hi:P.underlying t0=some (.int .i64))(ht:P.underlying t1=some (.slice e))(hc:P.cellsOf e=Rp.sz α)(hz:0<Rp.sz α)(he:oU α P e)
    (ht2:P.underlying t2=some (.slice q))(hcq:P.cellsOf q=1)(hq:P.underlying q=some (.int .i64))
    {H:Type}{enc:TypeId×Value->H}{w:World}{f:DataW H->Nat}(hf:jI f){base:Nat}{v:Value}{d:DataW H}{p:List MemPlace}
    (hval:Value.okWide P w .any base t v)(h:DataW.Trod enc P w 0 (λ_=>true) true t v d p)(hb:f d<=1048576):∃(n:Int) (u u2:Value) (xs:List α) (ys:List Int),v= .agg #[.int .i64 n,u,u2]/\Ro w u xs/\Ro w u2 ys:=by
  obtain⟨v0,v1,v2,y0,y1,y2,n,rfl,rfl,rfl,r0,r1,r2⟩:=open_agg3 hs hone hC hval h
  subst h0 h1 h2
  obtain⟨k,hk,_,_⟩:=DataW.trod_int hi r0
  obtain rfl:v0= .int .i64 k:=by simpa using hk
  simp only[Value.okWide,hs] at hval
  obtain⟨cs,hcs,_,ts,h3,_,h4⟩:=hval
  rw[hts] at h3
  obtain rfl:=Option.some.inj h3
  obtain rfl: #[Value.int .i64 k,v1,v2]=cs:=by simpa using hcs
  obtain⟨a1,hu1,hk1⟩:=h4 1 v1 rfl
  obtain⟨a2,hu2,hk2⟩:=h4 2 v2 rfl
  simp at hu1 hu2
  subst hu1 hu2
  obtain⟨xs,hx⟩:=eW ht hc hz he hf (dG ht hk1) (x:=y1) r1 (Nat.le_trans (hf.part _ _ (by simp)) hb)
  obtain⟨ys,hy⟩:=eW (α:=Int) ht2 hcq (by decide) (ea hq) hf (dG ht2 hk2) (x:=y2) r2 (Nat.le_trans (hf.part _ _ (by simp)) hb)
  exact⟨k,v1,v2,xs,ys,rfl,hx,hy⟩
theorem mt{P:Program}{t t0 t2 q:TypeId}{f0 f1 f2:Field}(hs:P.underlying t=some (.struct #[f0,f1,f2]))(hone:oneCellFields P #[f0,f1,f2]=true)(hC:P.cellsOf t=3)(hts:P.cellTypes P.depth t=some [t0,t0,t2])
    (h0:f0.type=t0)(h1:f1.type=t0)(h2:f2.type=t2)(hi:P.underlying t2=some (.int .i64))
    (ht2:P.underlying t0=some (.slice q))(hcq:P.cellsOf q=1)(hq:P.underlying q=some (.int .i64))
    {H:Type}{enc:TypeId×Value->H}{w:World}{f:DataW H->Nat}(hf:jI f){base:Nat}{v:Value}{d:DataW H}{p:List MemPlace}
    (hval:Value.okWide P w .any base t v)(h:DataW.Trod enc P w 0 (λ_=>true) true t v d p)(hb:f d<=1048576):∃(n:Int) (u u2:Value) (xs ys:List Int),v= .agg #[u,u2,.int .i64 n]/\Ro w u xs/\Ro w u2 ys:=by
  obtain⟨v0,v1,v2,y0,y1,y2,n,rfl,rfl,rfl,r0,r1,r2⟩:=open_agg3 hs hone hC hval h
  rw[h0] at r0
  rw[h1] at r1
  rw[h2] at r2
  obtain⟨k,hk,_,_⟩:=DataW.trod_int hi r2
  obtain rfl:v2= .int .i64 k:=by simpa using hk
  simp only[Value.okWide,hs] at hval
  obtain⟨cs,hcs,_,ts,h3,_,h4⟩:=hval
  rw[hts] at h3
  obtain rfl:=Option.some.inj h3
  obtain rfl: #[v0,v1,Value.int .i64 k]=cs:=by simpa using hcs
  obtain⟨a1,hu1,hk1⟩:=h4 0 v0 rfl
  obtain⟨a2,hu2,hk2⟩:=h4 1 v1 rfl
  simp at hu1 hu2
  subst hu1 hu2
  obtain⟨xs,hx⟩:=eW (α:=Int) ht2 hcq (by decide) (ea hq) hf (dG ht2 hk1) (x:=y0) r0 (Nat.le_trans (hf.part _ _ (by simp)) hb)
  obtain⟨ys,hy⟩:=eW (α:=Int) ht2 hcq (by decide) (ea hq) hf (dG ht2 hk2) (x:=y1) r1 (Nat.le_trans (hf.part _ _ (by simp)) hb)
  exact⟨k,v0,v1,xs,ys,rfl,hx,hy⟩
end TL
