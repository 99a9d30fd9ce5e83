/- Plain texts of this claim, part 2. By an AI agent. -/
import Derived.Test.YtbpphaeianpdpaaPuTlP1
import Derived.Carry
import Derived.Deep.Slices
import Derived.Lib.SmallJoins
import Derived.RowKit
import Derived.Shelf.SlSortCmp.Whole1
import Derived.Shelf.Sort.Plain
/-
  TlKru: edges of the least weight that join all that is joined (package path's Least): Kruskal's way by labels, and a forest of parents that agrees with the labels.
  By an AI agent.
-/
set_option linter.all false
namespace TL
def jT(ws:List Nat)(i:Int):Pl:=(zf (gI ws i),i)
def gp(ws:List Nat)(i k:Int):Prop:=c6 (jT ws i) (jT ws k)
instance (ws:List Nat)(i k:Int):Decidable (gp ws i k):=by unfold gp;infer_instance
def lD(ws:List Nat)(i k:Int):Int:=if gp ws i k then-1 else if gp ws k i then 1 else 0
theorem k7(ws:List Nat)(i:Int):¬gp ws i i:=dW _
theorem mq{ws:List Nat}{i j k:Int}(h:gp ws i j)(h2:gp ws j k):gp ws i k:=by unfold gp c6 jT at*;omega
theorem oz{ws:List Nat}{i j:Int}(h:¬gp ws i j)(h2:¬gp ws j i):i=j:=by
 have:=pc h h2
 exact congrArg Prod.snd this
theorem pR{ws:List Nat}{i j:Int}(h:gp ws i j):¬gp ws j i:=gw h
def iM(ws:List Nat)(x:Int):List Int->List Int
 |[]=>[x]
 |y::l=>if gp ws x y then x::y::l else y::iM ws x l
def aL(ws:List Nat):List Int:=(ba ws.length).foldr (iM ws) []
def jB(ws:List Nat)(l:List Int):Prop:=l.Pairwise λx y=>¬gp ws y x
theorem fR(ws:List Nat)(x:Int):∀l,(iM ws x l).Perm (x::l)
 |[]=>List.Perm.refl _
 |y::l=>by
   unfold iM;split
   · exact List.Perm.refl _
   · exact((fR ws x l).cons y).trans (List.Perm.swap x y l)
theorem ju{ws:List Nat}{x:Int}:∀{l},jB ws l->jB ws (iM ws x l)
 |[],_=>by unfold iM jB;simp
 |y::l,h=>by
   unfold jB at h ⊢
   obtain⟨h1,h2⟩:=List.pairwise_cons.1 h
   unfold iM;split
   · rename_i c
     refine List.pairwise_cons.2 ⟨λz hz=>?_,h⟩
     rcases List.mem_cons.1 hz with e|e
     · rw[e];exact pR c
     · intro k;exact h1 z e (mq k c)
   · rename_i c
     refine List.pairwise_cons.2 ⟨λz hz=>?_,ju h2⟩
     rcases List.mem_cons.1 ((fR ws x l).mem_iff.1 hz) with e|e
     · rw[e];exact c
     · exact h1 z e
theorem gu(ws:List Nat):∀l:List Int,(l.foldr (iM ws) []).Perm l/\jB ws (l.foldr (iM ws) [])
 |[]=>⟨List.Perm.refl _,List.Pairwise.nil⟩
 |x::l=>⟨(fR ws x _).trans ((gu ws l).1.cons x),ju (gu ws l).2⟩
theorem fF(ws:List Nat):(aL ws).Perm (ba ws.length):=(gu ws _).1
theorem ks(ws:List Nat):jB ws (aL ws):=(gu ws _).2
theorem nX{ws:List Nat}{l:List Int}(hp:l.Perm (ba ws.length))(hs:jB ws l):l=aL ws:=
 (hp.trans (fF ws).symm).eq_of_pairwise (λa b _ _ h1 h2=>oz h2 h1) hs (ks ws)
theorem kR(ws:List Nat):(aL ws).length=ws.length:=by rw[(fF ws).length_eq,cN]
theorem fw{ws:List Nat}{i:Int}:i∈aL ws↔0<=i/\i<(ws.length:Int):=by rw[(fF ws).mem_iff,cE]
theorem l2(ws:List Nat):(aL ws).Nodup:=(fF ws).nodup_iff.2 (dU _)
-- by labels
def di(c:List Int)(a b:Int):List Int:=c.map λx=>if x=b then a else x
def cV(g:aD)(s:List Int×List Int)(i:Int):List Int×List Int:=
 if gI s.1 (gI g.2 i).1=gI s.1 (gI g.2 i).2 then s else(di s.1 (gI s.1 (gI g.2 i).1) (gI s.1 (gI g.2 i).2),s.2++[i])
def bY(g:aD)(l:List Int):List Int×List Int:=l.foldl (cV g) (ba g.1.toNat,[])
def aN(g:aD)(ws:List Nat):List Int:=(ba g.2.length).filter λi=>decide (i∈(bY g (aL ws)).2)
def f3(ws:List Nat)(l:List Int):Nat:=l.foldl (λs i=>b6 s (zf (gI ws i))) 0
def ag(g:aD)(ws:List Nat):List Int×Nat×Int:=if cZ g ws=0 then(aN g ws,f3 ws (aN g ws),0) else([],0,cZ g ws)
theorem fo(g:aD)(l:List Int)(i:Int):bY g (l++[i])=cV g (bY g l) i:=by unfold bY;rw[List.foldl_append];rfl
theorem eI(g:aD):∀(n:Nat) (l:List Int),l.length=n->(bY g l).2.Sublist l
 |0,l,h=>by rw[List.length_eq_zero_iff.1 h];exact List.Sublist.refl _
 |n+1,l,h=>by
   obtain⟨t,i,rfl⟩:∃t i,l=t++[i]:=⟨l.dropLast,l.getLast (by intro e;rw[e] at h;cases h),(List.dropLast_concat_getLast _).symm⟩
   have ih:=eI g n t (by simpa using h)
   rw[fo]
   unfold cV;split
   · exact ih.trans (List.sublist_append_left ..)
   · exact ih.append (List.Sublist.refl _)
theorem fl{c:List Int}{a b v:Int}(v0:0<=v)(v1:v<(c.length:Int)):gI (di c a b) v=if gI c v=b then a else gI c v:=pF _ v0 v1
structure UF(n:Int)(of c:List Int)(rho:Int->Nat):Prop where
  lo:(of.length:Int)=n
  lc:(c.length:Int)=n
  rg:∀v,0<=v->v<n->0<=gI of v/\gI of v<n
  dn:∀v,0<=v->v<n->gI of v≠v->rho (gI of v)<rho v
  lb:∀v,0<=v->v<n->gI c (gI of v)=gI c v
  uq:∀r s,0<=r->r<n->0<=s->s<n->gI of r=r->gI of s=s->gI c r=gI c s->r=s
def pp(n:Int)(of c:List Int):Prop:=∃rho,UF n of c rho
theorem UF.start{n:Int}(h:0<=n):UF n (ba n.toNat) (ba n.toNat) (λ_=>0):=by
 have e:∀v,0<=v->v<n->gI (ba n.toNat) v=v:=λv h0 h1=>iz h0 (by omega)
 refine⟨by rw[cN];omega,by rw[cN];omega,λv h0 h1=>by rw[e v h0 h1];exact⟨h0,h1⟩,λv h0 h1 h2=>absurd (e v h0 h1) h2,λv h0 h1=>by rw[e v h0 h1,e v h0 h1],λr s r0 r1 s0 s1 _ _ k=>?_⟩
 rw[e r r0 r1,e s s0 s1] at k;exact k
structure lE(n:Int)(of0 of c:List Int)(rho:Int->Nat)(v0 v:Int):Prop where
 kp:∀r,0<=r->r<n->gI of0 r=r->gI of r=r
 u:UF n of c rho
 lo:0<=v
 hi:v<n
 eq:gI c v=gI c v0
structure ja(n:Int)(of0 of c:List Int)(v0 r:Int):Prop where
 kp:∀r,0<=r->r<n->gI of0 r=r->gI of r=r
 u:pp n of c
 lo:0<=r
 hi:r<n
 rt:gI of r=r
 eq:gI c r=gI c v0
variable{n:Int}{of0 of c:List Int}{rho:Int->Nat}{v v0:Int}
theorem lE.start(h:UF n of c rho)(h0:0<=v)(h1:v<n):lE n of of c rho v v:=⟨λ_ _ _ h=>h,h,h0,h1,rfl⟩
theorem lE.fin(h:lE n of0 of c rho v0 v)(e:gI of v=v):ja n of0 of c v0 v:=⟨h.kp,⟨rho,h.u⟩,h.lo,h.hi,e,h.eq⟩
theorem lE.rg(h:lE n of0 of c rho v0 v):(0<=gI of v/\gI of v<n)/\0<=gI of (gI of v)/\gI of (gI of v)<n:=by
 obtain⟨a,b⟩:=h.u.rg v h.lo h.hi
 exact⟨⟨a,b⟩,h.u.rg _ a b⟩
theorem lE.next(h:lE n of0 of c rho v0 v)(hv:¬gI of v=v):lE n of0 (of.set v.toNat (gI of (gI of v))) c rho v0 (gI (of.set v.toNat (gI of (gI of v))) v)/\rho (gI (of.set v.toNat (gI of (gI of v))) v)<rho v:=by
 have lo:=h.lo
 have hi:=h.hi
 have ll:=h.u.lo
 obtain⟨⟨a,b⟩,a2,b2⟩:=h.rg
 have d1:=h.u.dn v lo hi hv
 have d2:gI of (gI of v)≠v:=by
   intro e
   by_cases k:gI of (gI of v)=gI of v
   · exact hv (k.symm.trans e)
   · have:=h.u.dn _ a b k
     rw[e] at this;omega
 have d3:rho (gI of (gI of v))<rho v:=by
   by_cases k:gI of (gI of v)=gI of v
   · rw[k];exact d1
   · have:=h.u.dn _ a b k;omega
 have gs:∀u,0<=u->gI (of.set v.toNat (gI of (gI of v))) u=if u=v then gI of (gI of v) else gI of u:=λu u0=>bB lo (by omega) u0
 have e0:gI (of.set v.toNat (gI of (gI of v))) v=gI of (gI of v):=by rw[gs v lo,if_pos rfl]
 have l1:gI c (gI of (gI of v))=gI c v:=by rw[h.u.lb _ a b,h.u.lb v lo hi]
 rw[e0]
 refine⟨⟨λr r0 r1 hr=>?_,⟨by rw[List.length_set];exact ll,h.u.lc,λu u0 u1=>?_,λu u0 u1 hu=>?_,λu u0 u1=>?_,λr s r0 r1 s0 s1 hr hs k=>?_⟩,a2,b2,by rw[l1];exact h.eq⟩,d3⟩
 · have:=h.kp r r0 r1 hr
   rw[gs r r0,if_neg (λe=>hv (by rw[<-e];exact this))]
   exact this
 · rw[gs u u0];split
   · exact⟨a2,b2⟩
   · exact h.u.rg u u0 u1
 · rw[gs u u0] at hu ⊢
   split
   · rename_i e;rw[e];exact d3
   · rename_i e;rw[if_neg e] at hu;exact h.u.dn u u0 u1 hu
 · rw[gs u u0];split
   · rename_i e;rw[e];exact l1
   · exact h.u.lb u u0 u1
 · rw[gs r r0] at hr
   rw[gs s s0] at hs
   have r':gI of r=r:=by
     split at hr
     · rename_i e;rw[e] at hr;exact absurd hr d2
     · exact hr
   have s':gI of s=s:=by
     split at hs
     · rename_i e;rw[e] at hs;exact absurd hs d2
     · exact hs
   exact h.u.uq r s r0 r1 s0 s1 r' s' k
theorem pp.join{a b:Int}(h:pp n of c)(a0:0<=a)(a1:a<n)(b0:0<=b)(b1:b<n)(ha:gI of a=a)(hb:gI of b=b)(hab:¬a=b):pp n (of.set a.toNat b) (di c (gI c a) (gI c b)):=by
  obtain⟨rho,u⟩:=h
  have ll:=u.lo
  have lc:=u.lc
  have gs:∀u,0<=u->gI (of.set a.toNat b) u=if u=a then b else gI of u:=λu u0=>bB a0 (by omega) u0
  have gr:∀v,0<=v->v<n->gI (di c (gI c a) (gI c b)) v=if gI c v=gI c b then gI c a else gI c v:=λv v0 v1=>fl v0 (by omega)
  have hne:gI c a≠gI c b:=λe=>hab (u.uq a b a0 a1 b0 b1 ha hb e)
  refine⟨λv=>if gI c v=gI c a then rho v+rho b+1 else rho v,⟨by rw[List.length_set];exact ll,by unfold di;rw[List.length_map];exact lc,λv v0 v1=>?_,λv v0 v1 hv=>?_,λv v0 v1=>?_,λr s r0 r1 s0 s1 hr hs k=>?_⟩⟩
  · rw[gs v v0];split
    · exact⟨b0,b1⟩
    · exact u.rg v v0 v1
  · rw[gs v v0] at hv ⊢
    by_cases e:v=a
    · rw[if_pos e]
      rw[if_neg (λk=>hne k.symm),e,if_pos rfl];omega
    · rw[if_neg e] at hv ⊢
      have:=u.dn v v0 v1 hv
      rw[u.lb v v0 v1]
      split<;>omega
  · rw[gs v v0,gr v v0 v1]
    by_cases e:v=a
    · rw[if_pos e,gr b b0 b1,if_pos rfl,e]
      split<;>rfl
    · rw[if_neg e]
      obtain⟨k0,k1⟩:=u.rg v v0 v1
      rw[gr _ k0 k1,u.lb v v0 v1]
  · rw[gs r r0] at hr
    rw[gs s s0] at hs
    rw[gr r r0 r1,gr s s0 s1] at k
    have ra:¬r=a:=λe=>by rw[if_pos e] at hr;exact hab (e.symm.trans hr.symm)
    have sa:¬s=a:=λe=>by rw[if_pos e] at hs;exact hab (e.symm.trans hs.symm)
    rw[if_neg ra] at hr
    rw[if_neg sa] at hs
    by_cases c1:gI c r=gI c b
    · have e1:=u.uq r b r0 r1 b0 b1 hr hb c1
      by_cases c2:gI c s=gI c b
      · rw[e1,u.uq s b s0 s1 b0 b1 hs hb c2]
      · rw[if_pos c1,if_neg c2] at k
        exact absurd (u.uq s a s0 s1 a0 a1 hs ha k.symm) sa
    · rw[if_neg c1] at k
      by_cases c2:gI c s=gI c b
      · rw[if_pos c2] at k
        exact absurd (u.uq r a r0 r1 a0 a1 hr ha k) ra
      · rw[if_neg c2] at k
        exact u.uq r s r0 r1 s0 s1 hr hs k
end TL
namespace TL
structure j5(g:aD)(ws:List Nat)(of l:List Int)(k:Nat):Prop where
  u:pp g.1 of (bY g ((aL ws).take k)).1
  eq:l=(bY g ((aL ws).take k)).2
variable{g:aD}{ws:List Nat}{of l:List Int}{k:Nat}
theorem j5.start(hm:aV g){f0:List Int}(e:f0=ba g.1.toNat):j5 g ws f0 [] 0:=⟨⟨_,by rw[e];exact UF.start hm.1⟩,rfl⟩
theorem j5.lab(h:j5 g ws of l k):∃c,c=(bY g ((aL ws).take k)).1/\pp g.1 of c:=⟨_,rfl,h.u⟩
theorem j5.ll(h:j5 g ws of l k):l.length<=k:=by
 rw[h.eq]
 have:=(eI g _ ((aL ws).take k) rfl).length_le
 rw[List.length_take] at this
 omega
theorem cH{α:Type}[Inhabited α]{xs:List α}{k:Nat}(h:(k:Int)<xs.length):xs.take (k+1)=xs.take k++[gI xs (k:Int)]:=by
 have hk:k<xs.length:=by omega
 rw[List.take_succ_eq_append_getElem hk]
 simp[gI,hk]
theorem j5.same{of1 of2 c:List Int}{i a b:Int}(h:j5 g ws of l k)(hk:(k:Int)<(aL ws).length)(hc:c=(bY g ((aL ws).take k)).1)(hi:gI (aL ws) (k:Int)=i)(h1:ja g.1 of of1 c (gI g.2 i).1 a)(h2:ja g.1 of1 of2 c (gI g.2 i).2 b)(e:a=b):j5 g ws of2 l (k+1):=by
 subst e
 have e1:gI c (gI g.2 i).1=gI c (gI g.2 i).2:=h1.eq.symm.trans h2.eq
 have e2:bY g ((aL ws).take (k+1))=bY g ((aL ws).take k):=by
   rw[cH hk,fo,hi]
   unfold cV
   rw[<-hc,if_pos e1]
 refine⟨by rw[e2,<-hc];exact h2.u,by rw[e2];exact h.eq⟩
theorem j5.join{of1 of2 c:List Int}{i a b:Int}(h:j5 g ws of l k)(hk:(k:Int)<(aL ws).length)(hc:c=(bY g ((aL ws).take k)).1)(hi:gI (aL ws) (k:Int)=i)(h1:ja g.1 of of1 c (gI g.2 i).1 a)(h2:ja g.1 of1 of2 c (gI g.2 i).2 b)(e:¬a=b):j5 g ws (of2.set a.toNat b) (l++[i]) (k+1):=by
 have ra:=h2.kp a h1.lo h1.hi h1.rt
 have e1:¬gI c (gI g.2 i).1=gI c (gI g.2 i).2:=by
   intro k
   obtain⟨rho,u⟩:=h2.u
   exact e (u.uq a b h1.lo h1.hi h2.lo h2.hi ra h2.rt (h1.eq.trans (k.trans h2.eq.symm)))
 have e2:bY g ((aL ws).take (k+1))=(di c (gI c (gI g.2 i).1) (gI c (gI g.2 i).2),l++[i]):=by
   rw[cH hk,fo,hi]
   unfold cV
   rw[<-hc,if_neg e1,<-h.eq]
 refine⟨?_,by rw[e2]⟩
 rw[e2]
 have:=h2.u.join h1.lo h1.hi h2.lo h2.hi ra h2.rt e
 rw[h1.eq,h2.eq] at this
 exact this
theorem j5.done(h:j5 g ws of l k)(hk:¬(k:Int)<(aL ws).length):l=(bY g (aL ws)).2:=by
 have:=h.eq
 rw[List.take_of_length_le (by omega)] at this
 exact this
theorem i5(hw:ws.length=g.2.length)(hl:l=(bY g (aL ws)).2):(l.mergeSort λx y=>decide (x<=y))=aN g ws:=by
 have hsub:=eI g _ (aL ws) rfl
 rw[<-hl] at hsub
 have hnd:l.Nodup:=hsub.nodup (l2 ws)
 have htn:(aN g ws).Nodup:=(List.filter_sublist).nodup (dU _)
 have hp:l.Perm (aN g ws):=by
   rw[List.perm_ext_iff_of_nodup hnd htn]
   intro x
   unfold aN
   rw[List.mem_filter,<-hl]
   constructor
   · intro hx
     have:=fw.1 (hsub.subset hx)
     exact⟨cE.2 (by omega),decide_eq_true hx⟩
   · intro hx;exact of_decide_eq_true hx.2
 have hs:(aN g ws).Pairwise (· <= ·):=by
   unfold aN
   exact(((jz g.2.length).imp (λh=>Int.le_of_lt h)).sublist List.filter_sublist)
 refine List.Perm.eq_of_pairwise (le:=(· <= ·)) (λa b _ _ h1 h2=>Int.le_antisymm h1 h2) ?_ hs ((List.mergeSort_perm _ _).trans hp)
 have:=List.pairwise_mergeSort (le:=λx y:Int=>decide (x<=y)) (λa b c h1 h2=>decide_eq_true (Int.le_trans (of_decide_eq_true h1) (of_decide_eq_true h2))) (λa b=>by
   rcases Int.le_total a b with h|h
   · simp[h]
   · simp[h]) l
 exact this.imp (λh=>of_decide_eq_true h)
theorem kE(hi:(k:Int)<(aN g ws).length):0<=gI (aN g ws) (k:Int)/\gI (aN g ws) (k:Int)<(g.2.length:Int):=by
 have h1:=aU (xs:=aN g ws) (i:=(k:Int)) (by omega) hi
 unfold aN at h1
 have:=cE.1 (List.mem_filter.1 h1).1
 unfold aN;exact this
theorem ii{l:List Int}{s:Nat}(h:s=f3 ws (l.take k))(hk:(k:Int)<l.length):b6 s (zf (gI ws (gI l (k:Int))))=f3 ws (l.take (k+1)):=by
 rw[cH hk,h];unfold f3;rw[List.foldl_append];rfl
theorem j9{xs:List Int}{n k:Nat}(h:xs=ba k++List.replicate (n-k) 0)(hk:k<n):xs.set (Int.toNat (k:Int)) (k:Int)=ba (k+1)++List.replicate (n-(k+1)) 0:=by
 rw[h,Int.toNat_natCast,fM,List.set_append_right _ _ (by rw[cN];exact Nat.le_refl _),cN,Nat.sub_self]
 rw[show n-k=(n-(k+1))+1 by omega,List.replicate_succ]
 simp
end TL
namespace TL
theorem rh{ws:List Nat}{i k:Int}(h:decide (zf (gI ws i)<zf (gI ws k))=true):lD ws i k= -1:=by
 unfold lD;rw[if_pos (.inl (of_decide_eq_true h))]
theorem r6{ws:List Nat}{i k:Int}(h:¬decide (zf (gI ws i)<zf (gI ws k))=true)(h2:decide (zf (gI ws k)<zf (gI ws i))=true):lD ws i k=1:=by
 have h1:=of_decide_eq_true h2
 unfold lD
 rw[if_neg,if_pos (.inl h1)]
 intro c
 unfold gp c6 jT at c
 simp only at c
 omega
theorem rd{ws:List Nat}{i k:Int}(h:¬decide (zf (gI ws i)<zf (gI ws k))=true)(h2:¬decide (zf (gI ws k)<zf (gI ws i))=true):lD ws i k=if i<k then-1 else if k<i then 1 else 0:=by
 have h1:¬zf (gI ws i)<zf (gI ws k):=λc=>h (decide_eq_true c)
 have h3:¬zf (gI ws k)<zf (gI ws i):=λc=>h2 (decide_eq_true c)
 have e1:gp ws i k↔i<k:=by unfold gp c6 jT;simp only;omega
 have e2:gp ws k i↔k<i:=by unfold gp c6 jT;simp only;omega
 unfold lD
 simp only[e1,e2]
end TL
namespace TL
theorem kO{xs:List Int}{n k:Nat}(h:xs=ba k++List.replicate (n-k) 0)(hk:k<=n):xs.length=n:=by
 rw[h,List.length_append,cN,List.length_replicate];omega
theorem jr{xs:List Int}{n k:Nat}(h:xs=ba k++List.replicate (n-k) 0)(hk:k=n):xs=ba n:=by
 rw[h,hk,Nat.sub_self];simp
theorem kw{g:aD}{ws:List Nat}{j:Nat}(hw:∀x∈ws,fI x)(hl:ws.length=g.2.length)(hj:(j:Int)<(aN g ws).length):fI (gI ws (gI (aN g ws) (j:Int))):=by
 obtain⟨a,b⟩:=kE (ws:=ws) (g:=g) hj
 exact hw _ (aU a (by omega))
theorem iA{g:aD}{ws:List Nat}(h:¬cZ g ws=0):ag g ws=([],0,cZ g ws):=by unfold ag;rw[if_neg h]
theorem eH{g:aD}{ws:List Nat}(h:cZ g ws=0):ag g ws=(aN g ws,f3 ws (aN g ws),0):=by unfold ag;rw[if_pos h]
theorem mU{ws:List Nat}{l:List Int}{s j:Nat}(h:s=f3 ws (l.take j))(hj:¬(j:Int)<l.length):s=f3 ws l:=by
 rw[h,List.take_of_length_le (by omega)]
end TL
/-
  TlWayH: From with a heap: what holds while it runs.
  By an AI agent.
-/
set_option linter.all false
namespace TL
theorem dq{xs:List Pl}{i:Int}(h:0<=i):cd xs i.toNat=gI xs i:=by unfold cd;rw[Int.toNat_of_nonneg h]
theorem jR{xs:List Pl}{i j:Int}(hi:0<=i)(hj:0<=j):(xs.set i.toNat (gI xs j)).set j.toNat (gI xs i)=jD xs i.toNat j.toNat:=by
 unfold jD;rw[dq hi,dq hj]
-- down
structure jE(q xd:List Pl)(i:Int):Prop where
 len:xd.length=q.length
 perm:xd.Perm q
 i0:0<=i
 i1:i<q.length
 fin:∃f,q.length<=f+i.toNat+1/\dn f xd i.toNat (q.length-1)=cI q
theorem jE.start{q:List Pl}(h:0<(q.length:Int)):jE q ((q.set (Int.toNat 0) (gI q ((q.length:Int)-1))).set (Int.toNat ((q.length:Int)-1)) (gI q 0)) 0:=by
 rw[jR (by omega) (by omega)]
 have e:Int.toNat ((q.length:Int)-1)=q.length-1:=by omega
 rw[e]
 exact⟨c8 _ _ _,dN (by simp;omega) (by omega),by omega,h,q.length-1,by simp;omega,rfl⟩
theorem jE.end1{q xd:List Pl}{i:Int}(h:jE q xd i)(hc:((q.length:Int)-1)<=((2*i)+1)):xd=cI q:=by
 obtain⟨f,h1,h2⟩:=h.fin
 have i0:=h.i0
 rw[<-h2]
 cases f with
 |zero=>rfl
 |succ f=>unfold dn;rw[if_pos (by omega)]
theorem jE.end2{q xd:List Pl}{i c:Int}(h:jE q xd i)(hn:¬((q.length:Int)-1)<=((2*i)+1))(hc:(gX xd i.toNat (q.length-1):Int)=c)(hl:¬(decide (c6 (gI xd c) (gI xd i)))=true):xd=cI q:=by
 obtain⟨f,h1,h2⟩:=h.fin
 have i0:=h.i0
 rw[<-h2]
 cases f with
 |zero=>rfl
 |succ f=>
   unfold dn;rw[if_neg (by omega),if_neg]
   intro k
   apply hl
   rw[dq i0] at k
   rw[<-hc]
   exact decide_eq_true k
theorem jE.next{q xd:List Pl}{i c:Int}(h:jE q xd i)(hn:¬((q.length:Int)-1)<=((2*i)+1))(hc:(gX xd i.toNat (q.length-1):Int)=c)(hl:(decide (c6 (gI xd c) (gI xd i)))=true):jE q ((xd.set i.toNat (gI xd c)).set c.toNat (gI xd i)) c:=by
 obtain⟨f,h1,h2⟩:=h.fin
 have i0:=h.i0
 have hlen:=h.len
 have c0:0<=c:=by omega
 obtain⟨k1,k2,k3,k4⟩:=iw (xs:=xd) (i:=i.toNat) (n:=q.length-1) (by omega)
 rw[jR i0 c0]
 have e:gX xd i.toNat (q.length-1)=c.toNat:=by omega
 refine⟨by rw[c8,hlen],(dN (by omega) (by omega)).trans h.perm,c0,by omega,?_⟩
 cases f with
 |zero=>omega
 |succ f=>
   refine⟨f,by omega,?_⟩
   rw[<-h2]
   conv=>rhs;unfold dn
   rw[if_neg (by omega),if_pos,e]
   rw[dq i0,e,dq c0]
   exact of_decide_eq_true hl
theorem pt{xd:List Pl}{n:Nat}{i:Int}(i0:0<=i)(h:(((2*i)+1)+1)<((n:Int)-1))(hp:(decide (c6 (gI xd (((2*i)+1)+1)) (gI xd ((2*i)+1))))=true):(gX xd i.toNat (n-1):Int)=((2*i)+1)+1:=by
 unfold gX
 have hp:=of_decide_eq_true hp
 have e1:cd xd (2*i.toNat+1+1)=gI xd (((2*i)+1)+1):=by rw[<-dq (by omega)];congr 1;omega
 have e2:cd xd (2*i.toNat+1)=gI xd ((2*i)+1):=by rw[<-dq (by omega)];congr 1;omega
 rw[if_pos ⟨by omega,by rw[e1,e2];exact hp⟩];omega
theorem ky{xd:List Pl}{n:Nat}{i:Int}(i0:0<=i)(h:¬(((2*i)+1)+1)<((n:Int)-1)\/¬(decide (c6 (gI xd (((2*i)+1)+1)) (gI xd ((2*i)+1))))=true):(gX xd i.toNat (n-1):Int)=(2*i)+1:=by
 unfold gX
 have e1:cd xd (2*i.toNat+1+1)=gI xd (((2*i)+1)+1):=by rw[<-dq (by omega)];congr 1;omega
 have e2:cd xd (2*i.toNat+1)=gI xd ((2*i)+1):=by rw[<-dq (by omega)];congr 1;omega
 rw[if_neg,show((2*i.toNat+1:Nat):Int)=2*i+1 by omega]
 rintro⟨a,b⟩
 rw[e1,e2] at b
 rcases h with h|h
 · omega
 · exact h (decide_eq_true b)
theorem jE.nn{q xd:List Pl}{i:Int}(h:jE q xd i)(hq:∀x∈q,x.1<=aM):∀x∈xd,x.1<=aM:=λx hx=>hq x (h.perm.mem_iff.1 hx)
-- up
def nT(l:List Pl):List Pl:=up (l.length-1) l (l.length-1)
theorem pb(q:List Pl)(x:Pl):i4 q x=nT (q++[x]):=by unfold i4 nT;rw[List.length_append];rfl
structure kX(l xu:List Pl)(j:Int):Prop where
 len:xu.length=l.length
 perm:xu.Perm l
 j0:0<=j
 j1:j<l.length
 fin:∃f,j.toNat<=f/\up f xu j.toNat=nT l
theorem kX.start{l:List Pl}(h:0<(l.length:Int)):kX l l ((l.length:Int)-1):=
 ⟨rfl,List.Perm.refl _,by omega,by omega,l.length-1,by omega,by rw[show((l.length:Int)-1).toNat=l.length-1 by omega];rfl⟩
theorem kX.end1{l xu:List Pl}{j:Int}(h:kX l xu j)(hc:Int.tdiv (j-1) 2=j):xu=nT l:=by
 obtain⟨f,h1,h2⟩:=h.fin
 have j0:=h.j0
 have:j=0:=by
   rcases Int.lt_or_le 0 j with c|c
   · rw[Int.tdiv_eq_ediv_of_nonneg (by omega)] at hc;omega
   · omega
 subst this
 rw[<-h2]
 cases f with
 |zero=>rfl
 |succ f=>unfold up;rw[if_pos (.inl (by decide))]
theorem ed{j:Int}(j0:0<=j)(hc:¬Int.tdiv (j-1) 2=j):1<=j/\Int.tdiv (j-1) 2=(j-1)/2:=by
 by_cases c:1<=j
 · exact⟨c,Int.tdiv_eq_ediv_of_nonneg (by omega)⟩
 · have:j=0:=by omega
   subst this
   exact absurd (by decide) hc
theorem kX.end2{l xu:List Pl}{j:Int}(h:kX l xu j)(hc:¬Int.tdiv (j-1) 2=j)(hl:¬(decide (c6 (gI xu j) (gI xu (Int.tdiv (j-1) 2))))=true):xu=nT l:=by
 obtain⟨f,h1,h2⟩:=h.fin
 have j0:=h.j0
 obtain⟨c1,c2⟩:=ed j0 hc
 rw[<-h2]
 cases f with
 |zero=>rfl
 |succ f=>
   have hh:¬c6 (cd xu j.toNat) (cd xu ((j.toNat-1)/2)):=by
     intro k
     apply hl
     rw[c2,<-dq j0,<-dq (by omega),show((j-1)/2).toNat=(j.toNat-1)/2 by omega]
     exact decide_eq_true k
   unfold up;rw[if_pos (.inr hh)]
theorem kX.next{l xu:List Pl}{j:Int}(h:kX l xu j)(hc:¬Int.tdiv (j-1) 2=j)(hl:(decide (c6 (gI xu j) (gI xu (Int.tdiv (j-1) 2))))=true):kX l ((xu.set (Int.tdiv (j-1) 2).toNat (gI xu j)).set j.toNat (gI xu (Int.tdiv (j-1) 2))) (Int.tdiv (j-1) 2):=by
 obtain⟨f,h1,h2⟩:=h.fin
 have j0:=h.j0
 have j1:=h.j1
 have hlen:=h.len
 obtain⟨c1,c2⟩:=ed j0 hc
 rw[c2] at hl ⊢
 rw[jR (by omega) j0]
 refine⟨by rw[c8,hlen],(dN (by omega) (by omega)).trans h.perm,by omega,by omega,?_⟩
 cases f with
 |zero=>omega
 |succ f=>
   refine⟨f,by omega,?_⟩
   rw[<-h2]
   conv=>rhs;unfold up
   have e:((j-1)/2).toNat=(j.toNat-1)/2:=by omega
   rw[if_neg,e]
   rintro(k|k)
   · omega
   · apply k
     rw[dq j0,<-e,dq (by omega)]
     exact of_decide_eq_true hl
theorem kX.nn{l xu:List Pl}{j:Int}(h:kX l xu j)(hq:∀y∈l,y.1<=aM):∀y∈xu,y.1<=aM:=λy hy=>hq y (h.perm.mem_iff.1 hy)
-- all of it
structure r3(g:aD)(q:List Pl)(far:List Nat)(by_:List Int)(se:List Bool):Prop where
  lf:(far.length:Int)=g.1
  lb:(by_.length:Int)=g.1
  ls:(se.length:Int)=g.1
  hp:eV q q.length
  nn:∀x∈far,x<=aM
  qin:∀p∈q,(0<=p.2/\p.2<g.1)/\p.1<aM/\gI far p.2<=p.1
  cov:∀v:Int,0<=v->v<g.1->ij far se v->(gI far v,v)∈q
def gE(g:aD)(q:List Pl)(se:List Bool):Nat:=gj se*(2*g.2.length+1)+q.length
structure WI(g:aD)(ws:List Nat)(s:Int)(q:List Pl)(far:List Nat)(by_:List Int)(se:List Bool):Prop where
 h:r3 g q far by_ se
 res:∃f,gj se<=f/\ly g ws f (far,by_) se=jn g ws s
 sz:gE g q se<=1024*6145+1
theorem r3.qn{g:aD}{q:List Pl}{far:List Nat}{by_:List Int}{se:List Bool}(h:r3 g q far by_ se):∀p∈q,p.1<=aM:=λp hp=>Nat.le_of_lt (h.qin p hp).2.1
theorem WI.ql{g:aD}{ws:List Nat}{s:Int}{q:List Pl}{far:List Nat}{by_:List Int}{se:List Bool}(h:WI g ws s q far by_ se):(q.length:Int)<=6292481:=by
 have:=h.sz;unfold gE at this;omega
theorem iL{α:Type}[Inhabited α]{n:Nat}{x:α}{v:Int}(h0:0<=v)(h1:v<n):gI (List.replicate n x) v=x:=by
 obtain⟨k,rfl⟩:∃k:Nat,v=(k:Int):=⟨v.toNat,by omega⟩
 have:k<n:=by omega
 simp[gI,this]
theorem WI.start{g:aD}{ws:List Nat}{s:Int}(hm:aV g)(h0:0<=s)(h1:s<g.1):WI g ws s [(0,s)] (dT g.1.toNat s).1 (dT g.1.toNat s).2 (List.replicate g.1.toNat false):=by
 obtain⟨m1,m2,m3,m4⟩:=hm
 have hf:∀v:Int,0<=v->v<g.1->gI (dT g.1.toNat s).1 v=if v=s then 0 else aM:=by
   intro v v0 v1
   unfold dT
   rw[bB h0 (by simp;omega) v0]
   by_cases e:v=s
   · rw[if_pos e,if_pos e]
   · rw[if_neg e,if_neg e,iL v0 (by omega)]
 refine⟨⟨by simp[dT];omega,by simp[dT];omega,by simp;omega,λk h1 h2=>by simp at h2;omega,?_,?_,?_⟩,⟨g.1.toNat,?_,rfl⟩,?_⟩
 · intro x hx
   unfold dT at hx
   rcases List.mem_or_eq_of_mem_set hx with e|e
   · rw[List.eq_of_mem_replicate e];exact Nat.le_refl _
   · rw[e];exact Nat.zero_le _
 · intro p hp
   rw[List.mem_singleton] at hp
   subst hp
   refine⟨⟨h0,h1⟩,(show 0<aM by decide),?_⟩
   show gI (dT g.1.toNat s).1 s<=0
   rw[hf s h0 h1,if_pos rfl];exact Nat.le_refl _
 · intro v v0 v1 hw
   have h2:=hw.2
   rw[hf v v0 v1] at h2 ⊢
   by_cases e:v=s
   · subst e;rw[if_pos rfl];exact List.mem_singleton.2 rfl
   · rw[if_neg e] at h2;exact absurd h2 (Nat.lt_irrefl _)
 · unfold gj;rw[List.count_replicate];simp
 · unfold gE gj;rw[List.count_replicate]
   simp only[beq_self_eq_true,if_true,List.length_singleton]
   have:g.1.toNat*(2*g.2.length+1)<=1024*6145:=Nat.mul_le_mul (by omega) (by omega)
   omega
end TL
/-
  TlWayI: From with a heap: one round.
  By an AI agent.
-/
set_option linter.all false
namespace TL
variable{g:aD}{ws:List Nat}{s:Int}{q r:List Pl}{p:Pl}{far:List Nat}{by_:List Int}{se:List Bool}
structure ld(g:aD)(q:List Pl)(far:List Nat)(p:Pl)(r:List Pl):Prop where
 p2:0<=p.2/\p.2<g.1
 p1:p.1<aM
 pf:gI far p.2<=p.1
 len:r.length+1=q.length
 hp:eV r r.length
 perm:q.Perm (p::r)
 min:∀x∈q,¬c6 x p
theorem WI.pop{xj:List Pl}{L:Int}(h:WI g ws s q far by_ se)(hq:0<(q.length:Int))(hj:xj=cI q)(hL:L=(q.length:Int)-1):ld g q far (gI xj L) (xj.take L.toNat):=by
 have hq':0<q.length:=by omega
 obtain⟨h1,h2,h3,h4⟩:=gB h.h.hp hq'
 subst hj hL
 have e0:((q.length:Int)-1).toNat=q.length-1:=by omega
 have e1:gI (cI q) ((q.length:Int)-1)=cd q 0:=by
   rw[<-h3,<-dq (by omega),e0]
 rw[e1,e0]
 have hm:cd q 0∈q:=by rw[dg hq'];exact List.getElem_mem _
 have hl:((cI q).take (q.length-1)).length=q.length-1:=by rw[List.length_take,h2];omega
 obtain⟨a1,a2,a3⟩:=h.h.qin _ hm
 refine⟨a1,a2,a3,by rw[hl];omega,by rw[hl];exact h1,h4,λx hx=>?_⟩
 obtain⟨k,hk,e⟩:=List.mem_iff_getElem.1 hx
 have:=mP h.h.hp k hk
 rw[dg hk,e] at this
 exact this
theorem WI.popx{xj:List Pl}(h:WI g ws s q far by_ se)(hq:0<(q.length:Int))(hj:xj=cI q):ld g q far (gI xj ((xj.length:Int)-1)) (xj.take (Int.toNat ((xj.length:Int)-1)))/\xj.length=q.length:=by
 have hl:xj.length=q.length:=by rw[hj];exact(gB h.h.hp (by omega)).2.1
 exact⟨h.pop hq hj (by rw[hl]),hl⟩
theorem ld.ne(pd:ld g q far p r){x:Pl}(hx:x∈q)(h:x.2≠p.2):x∈r:=by
 rcases List.mem_cons.1 (pd.perm.mem_iff.1 hx) with e|e
 · rw[e] at h;exact absurd rfl h
 · exact e
theorem WI.skip(h:WI g ws s q far by_ se)(pd:ld g q far p r)(hs:gI se p.2=true):WI g ws s r far by_ se/\gE g r se<gE g q se:=by
 have hl:=pd.len
 have hm:gE g r se<gE g q se:=by unfold gE;omega
 refine⟨⟨⟨h.h.lf,h.h.lb,h.h.ls,pd.hp,h.h.nn,λx hx=>h.h.qin x (pd.perm.mem_iff.2 (List.mem_cons_of_mem _ hx)),λv v0 v1 hw=>?_⟩,h.res,by have:=h.sz;omega⟩,hm⟩
 refine pd.ne (h.h.cov v v0 v1 hw) (λe=>?_)
 have e:v=p.2:=e
 have:=hw.1
 rw[e,hs] at this
 cases this
structure RI(g:aD)(ws:List Nat)(s:Int)(M:Nat)(u:Int)(d:Nat)(q:List Pl)(far:List Nat)(by_:List Int)(se:List Bool)(k:Nat):Prop where
 h:r3 g q far by_ se
 res:∃f,gj se<=f/\ly g ws f (iS g ws d ((gI (ab g) u).drop k) (far,by_)) se=jn g ws s
 sz:gE g q se+2*g.2.length+2<=M+k
 mx:M<=1024*6145+1
theorem WI.settle(h:WI g ws s q far by_ se)(pd:ld g q far p r)(hs:¬gI se p.2=true):RI g ws s (gE g q se) p.2 p.1 r far by_ (se.set p.2.toNat true) 0:=by
 have hl:=pd.len
 obtain⟨p20,p21⟩:=pd.p2
 have hlf:=h.h.lf
 have hls:=h.h.ls
 have hs':gI se p.2=false:=by simpa using hs
 have hw:ij far se p.2:=⟨hs',Nat.lt_of_le_of_lt pd.pf pd.p1⟩
 have hin:=h.h.cov p.2 p20 p21 hw
 have hd:gI far p.2=p.1:=by
   have:=pd.min _ hin
   have h2:=pd.pf
   unfold c6 at this
   simp only at this
   omega
 obtain⟨un,hun⟩:∃un:Nat,p.2=(un:Int):=⟨p.2.toNat,by omega⟩
 have hpk:c9 far se g.1.toNat=p.2:=by
   rw[hun]
   refine kr (by rw[<-hun];exact hw) (by omega) (λv hv hwv=>?_)
   have h1:=h.h.cov v (by omega) (by omega) hwv
   have h2:=pd.min _ h1
   rw[<-hun,hd]
   exact h2
 have hu:gj (se.set un true)+1=gj se:=o8 (by omega) (by rw[<-hun];exact hs')
 have hT:p.2.toNat=un:=by omega
 rw[hT]
 have gset:∀v:Int,0<=v->gI (se.set un true) v=if v=p.2 then true else gI se v:=by
   intro v v0
   rw[<-hT,bB p20 (by omega) v0]
 refine⟨⟨hlf,h.h.lb,by rw[List.length_set];exact hls,pd.hp,h.h.nn,λx hx=>h.h.qin x (pd.perm.mem_iff.2 (List.mem_cons_of_mem _ hx)),λv v0 v1 hwv=>?_⟩,?_,?_,h.sz⟩
 · have h1:=hwv.1
   rw[gset v v0] at h1
   by_cases e:v=p.2
   · rw[if_pos e] at h1;cases h1
   · rw[if_neg e] at h1
     exact pd.ne (h.h.cov v v0 v1 ⟨h1,hwv.2⟩) e
 · obtain⟨f,f1,f2⟩:=h.res
   cases f with
   |zero=>omega
   |succ f=>
     refine⟨f,by omega,?_⟩
     rw[<-f2]
     conv=>rhs;unfold ly
     rw[show(far,by_).1=far from rfl,hpk,if_neg (by omega),hd,hT,List.drop_zero]
 · unfold gE
   have e:gj se=gj (se.set un true)+1:=hu.symm
   rw[e,Nat.add_mul];omega
theorem gG(d:Nat)(x:Int)(l:List Int)(t:FS):iS g ws d (x::l) t=iS g ws d l (f8 g ws d t x):=rfl
variable{M:Nat}{u:Int}{d:Nat}{k:Nat}
theorem RI.same(h:RI g ws s M u d q far by_ se k)(hk:(k:Int)<(gI (ab g) u).length)(e:f8 g ws d (far,by_) (gI (gI (ab g) u) (k:Int))=(far,by_)):RI g ws s M u d q far by_ se (k+1):=by
 refine⟨h.h,?_,by have:=h.sz;omega,h.mx⟩
 have:=h.res
 rw[fG hk,gG,e] at this
 exact this
theorem RI.inf(h:RI g ws s M u d q far by_ se k)(hk:(k:Int)<(gI (ab g) u).length)(e:zf (gI ws (gI (gI (ab g) u) (k:Int)/2))=aM):RI g ws s M u d q far by_ se (k+1):=
 h.same hk (by unfold f8;rw[if_pos e])
theorem RI.no(h:RI g ws s M u d q far by_ se k)(hk:(k:Int)<(gI (ab g) u).length)(e:¬b6 d (zf (gI ws (gI (gI (ab g) u) (k:Int)/2)))<gI far (bU g (gI (gI (ab g) u) (k:Int)))):RI g ws s M u d q far by_ se (k+1):=
 h.same hk (by
   unfold f8
   by_cases c:zf (gI ws (gI (gI (ab g) u) (k:Int)/2))=aM
   · rw[if_pos c]
   · rw[if_neg c];exact if_neg e)
theorem RI.push(h:RI g ws s M u d q far by_ se k)(hk:(k:Int)<(gI (ab g) u).length){hh t:Int}{x:Nat}(ehh:gI (gI (ab g) u) (k:Int)=hh)(et:bU g hh=t)(ex:b6 d (zf (gI ws (hh/2)))=x)(t0:0<=t)(t1:t<g.1)
   (hi:¬zf (gI ws (hh/2))=aM)(e:x<gI far t):RI g ws s M u d (i4 q (x,t)) (far.set t.toNat x) (by_.set t.toNat hh) se (k+1):=by
 have hlf:=h.h.lf
 have hlb:=h.h.lb
 obtain⟨p1,p2,p3⟩:=lp (x,t) h.h.hp
 have ht:gI far t<=aM:=h.h.nn _ (aU t0 (by omega))
 have gset:∀v:Int,0<=v->gI (far.set t.toNat x) v=if v=t then x else gI far v:=λv v0=>bB t0 (by omega) v0
 refine⟨⟨by rw[List.length_set];exact hlf,by rw[List.length_set];exact hlb,h.h.ls,by rw[p2];exact p1,λy hy=>?_,λy hy=>?_,λv v0 v1 hw=>?_⟩,?_,?_,h.mx⟩
 · rcases List.mem_or_eq_of_mem_set hy with c|c
   · exact h.h.nn _ c
   · rw[c];omega
 · rcases List.mem_cons.1 (p3.mem_iff.1 hy) with c|c
   · subst c
     refine⟨⟨t0,t1⟩,Nat.lt_of_lt_of_le e ht,?_⟩
     show gI (far.set t.toNat x) t<=x
     rw[gset t t0,if_pos rfl];exact Nat.le_refl _
   · obtain⟨a1,a2,a3⟩:=h.h.qin y c
     refine⟨a1,a2,?_⟩
     rw[gset _ a1.1]
     split
     · rename_i e2;rw[e2] at a3;omega
     · exact a3
 · have h2:=hw.2
   rw[gset v v0] at h2 ⊢
   by_cases e2:v=t
   · rw[if_pos e2,e2];exact p3.mem_iff.2 (List.mem_cons_self ..)
   · rw[if_neg e2] at h2 ⊢
     exact p3.mem_iff.2 (List.mem_cons_of_mem _ (h.h.cov v v0 v1 ⟨hw.1,h2⟩))
 · have:=h.res
   rw[fG hk,gG,ehh] at this
   have e3:f8 g ws d (far,by_) hh=(far.set t.toNat x,by_.set t.toNat hh):=by
     unfold f8
     rw[if_neg hi,et,ex,if_pos e]
   rw[e3] at this
   exact this
 · have:=h.sz
   unfold gE at this ⊢
   rw[p2];omega
theorem kg(hm:aV g)(u0:0<=u)(u1:u<g.1):(gI (ab g) u).length<=2*g.2.length:=by
 rw[gJ u0 u1]
 unfold bW dK
 refine Nat.le_trans (List.length_filter_le _ _) (by simp)
theorem RI.done(hm:aV g)(u0:0<=u)(u1:u<g.1)(h:RI g ws s M u d q far by_ se k)(hk:¬(k:Int)<(gI (ab g) u).length)(hle:(k:Int)<=(gI (ab g) u).length):WI g ws s q far by_ se/\gE g q se<M:=by
 have h1:=kg hm u0 u1
 have h2:=h.sz
 have h3:=h.mx
 refine⟨⟨h.h,?_,by omega⟩,by omega⟩
 have:=h.res
 rw[List.drop_eq_nil_of_le (by omega)] at this
 exact this
theorem RI.ql(h:RI g ws s M u d q far by_ se k):(q.length:Int)<=6292481+k:=by
 have:=h.sz;have h2:=h.mx;unfold gE at this;omega
theorem WI.done(h:WI g ws s q far by_ se)(hq:¬0<(q.length:Int)):(far,by_)=jn g ws s:=by
 obtain⟨f,_,h2⟩:=h.res
 have hq':q=[]:=List.length_eq_zero_iff.1 (by omega)
 have hlf:=h.h.lf
 rw[<-h2]
 cases f with
 |zero=>rfl
 |succ f=>
   unfold ly
   rw[if_pos]
   rw[i6 (far:=far) (se:=se)]
   · decide
   · intro v hv hw
     have:=h.h.cov v (by omega) (by omega) hw
     rw[hq'] at this;cases this
theorem mA(hm:aV g)(u0:0<=u)(u1:u<g.1)(hk:(k:Int)<(gI (ab g) u).length):0<=gI (gI (ab g) u) (k:Int)/\gI (gI (ab g) u) (k:Int)<2*(g.2.length:Int)/\aB g (gI (gI (ab g) u) (k:Int))=u:=by
 have h1:=aU (xs:=gI (ab g) u) (i:=(k:Int)) (by omega) hk
 generalize gI (gI (ab g) u) (k:Int)=x at h1 ⊢
 rw[gJ u0 u1] at h1
 unfold bW dK at h1
 obtain⟨a,b⟩:=List.mem_filter.1 h1
 obtain⟨i,hi,rfl⟩:=List.mem_map.1 a
 have:=List.mem_range.1 hi
 exact⟨by omega,by omega,of_decide_eq_true b⟩
end TL
namespace TL
structure eW(g:aD)(f0:List Nat)(b0:List Int)(v:Nat):Prop where
 lf:(f0.length:Int)=g.1
 lb:(b0.length:Int)=g.1
 ff:∀k:Nat,k<v->gI f0 (k:Int)=aM
 fb:∀k:Nat,k<v->gI b0 (k:Int)= -1
theorem eW.start{g:aD}(hm:aV g):eW g (List.replicate (Int.toNat g.1) (0:Nat)) (List.replicate (Int.toNat g.1) (0:Int)) 0:=by
 have:=hm.1
 exact⟨by simp;omega,by simp;omega,λk h=>by omega,λk h=>by omega⟩
theorem eW.next{g:aD}{f0:List Nat}{b0:List Int}{v:Nat}(h:eW g f0 b0 v)(hv:(v:Int)<g.1):eW g (f0.set (Int.toNat (v:Int)) aM) (b0.set (Int.toNat (v:Int)) (-1)) (v+1):=by
 have h1:=h.lf
 have h2:=h.lb
 refine⟨by rw[List.length_set];exact h1,by rw[List.length_set];exact h2,λk hk=>?_,λk hk=>?_⟩
 · rw[bB (by omega) (by omega) (by omega)]
   by_cases e:(k:Int)=v
   · rw[if_pos e]
   · rw[if_neg e];exact h.ff k (by omega)
 · rw[bB (by omega) (by omega) (by omega)]
   by_cases e:(k:Int)=v
   · rw[if_pos e]
   · rw[if_neg e];exact h.fb k (by omega)
theorem eW.done{g:aD}{ws:List Nat}{s:Int}{f0:List Nat}{b0:List Int}{v:Nat}(h:eW g f0 b0 v)(hm:aV g)(hv:¬(v:Int)<g.1)(s0:0<=s)(s1:s<g.1):WI g ws s [(0,s)] (f0.set s.toNat 0) b0 (List.replicate (Int.toNat g.1) false):=by
 have h1:=h.lf
 have h2:=h.lb
 have e1:f0=List.replicate g.1.toNat aM:=by
   apply cB
   · simp;omega
   · intro i hi
     rw[h.ff i (by omega),iL (by omega) (by omega)]
 have e2:b0=List.replicate g.1.toNat (-1):=by
   apply cB
   · simp;omega
   · intro i hi
     rw[h.fb i (by omega),iL (by omega) (by omega)]
 rw[e1,e2]
 exact WI.start hm s0 s1
variable{g:aD}{ws:List Nat}{s:Int}{q:List Pl}{far:List Nat}{by_:List Int}{se:List Bool}{M k:Nat}{u:Int}{d:Nat}
theorem qL(hw:∀x∈ws,fI x)(hl:ws.length=g.2.length){h:Int}(h0:0<=h)(h1:h<2*(g.2.length:Int)):fI (gI ws (h/2)):=hw _ (aU (by omega) (by omega))
theorem RI.inf'(h:RI g ws s M u d q far by_ se k)(hk:(k:Int)<(gI (ab g) u).length)(hg:fI (gI ws (gI (gI (ab g) u) (k:Int)/2)))(e:dz (gI ws (gI (gI (ab g) u) (k:Int)/2)) 9218868437227405311=true):RI g ws s M u d q far by_ se (k+1):=
 h.inf hk (by rw[mV hg] at e;exact of_decide_eq_true e)
theorem RI.push'(h:RI g ws s M u d q far by_ se k)(hk:(k:Int)<(gI (ab g) u).length){hh t:Int}{x:Nat}{qn:List Pl}(ehh:gI (gI (ab g) u) (k:Int)=hh)(et:bU g hh=t)(ex:b6 d (zf (gI ws (hh/2)))=x)(t0:0<=t)(t1:t<g.1)(hg:fI (gI ws (hh/2)))
   (hi:¬dz (gI ws (hh/2)) 9218868437227405311=true)(e:x<gI far t)(hq:qn=nT (q++[(x,t)])):RI g ws s M u d qn (far.set t.toNat x) (by_.set t.toNat hh) se (k+1):=by
 rw[hq,<-pb]
 exact h.push hk ehh et ex t0 t1 (λc=>hi (by rw[mV hg];exact decide_eq_true c)) e
end TL
namespace TL
variable{g:aD}{ws:List Nat}{s:Int}{q:List Pl}{far:List Nat}{by_:List Int}{se:List Bool}{M k:Nat}{u:Int}{d:Nat}
theorem RI.fnn(h:RI g ws s M u d q far by_ se k){t:Int}(t0:0<=t)(t1:t<g.1):gI far t<=aM:=h.h.nn _ (aU t0 (by have:=h.h.lf;omega))
end TL
/-
  TlWayT: the way that leads to a node, from how the nodes were reached (package path's To), as the document has it.
  By an AI agent.
-/
set_option linter.all false
namespace TL
def er(g:aD)(by_:List Int):Nat->Int->List Int->List Int×Int
 |0,v,l=>if gI by_ v= -1 then(l,0) else([],14)
 |f+1,v,l=>if gI by_ v= -1 then(l,0) else if gI by_ v<0\/2*(g.2.length:Int)<=gI by_ v\/¬bU g (gI by_ v)=v then([],14) else er g by_ f (aB g (gI by_ v)) (gI by_ v::l)
def es(fs:FS)(g:aD):Prop:=aV g/\(fs.1.length:Int)=g.1/\(fs.2.length:Int)=g.1
instance (fs:FS)(g:aD):Decidable (es fs g):=by unfold es;infer_instance
def dl(fs:FS)(g:aD)(t:Int):List Int×Int:=
 if es fs g then(if 0<=t/\t<g.1 then(if dz (gI fs.1 t) 9218868437227405311=true then([],14) else er g fs.2 g.1.toNat t []) else([],2)) else([],1)
variable{fs:FS}{g:aD}{t v:Int}{l:List Int}{n:Nat}
theorem l4(h:¬es fs g):dl fs g t=([],1):=by unfold dl;rw[if_neg h]
theorem nE(h:es fs g)(h2:¬(0<=t/\t<g.1)):dl fs g t=([],2):=by unfold dl;rw[if_pos h,if_neg h2]
theorem qI(h:es fs g)(h2:0<=t/\t<g.1)(h3:dz (gI fs.1 t) 9218868437227405311=true):dl fs g t=([],14):=by unfold dl;rw[if_pos h,if_pos h2,if_pos h3]
theorem gW(h:es fs g)(h2:0<=t/\t<g.1)(h3:¬dz (gI fs.1 t) 9218868437227405311=true):dl fs g t=er g fs.2 g.1.toNat t []:=by unfold dl;rw[if_pos h,if_pos h2,if_neg h3]
structure lF(g:aD)(by_:List Int)(t v:Int)(l:List Int)(n:Nat):Prop where
  v0:0<=v
  v1:v<g.1
  ll:l.length=n
  ln:(n:Int)<=g.1
  eq:er g by_ (g.1.toNat-n) v l=er g by_ g.1.toNat t []
variable{by_:List Int}
theorem lF.start(t0:0<=t)(t1:t<g.1):lF g by_ t t [] 0:=⟨t0,t1,rfl,by omega,rfl⟩
theorem lF.fin(h:lF g by_ t v l n)(hv:gI by_ v= -1):er g by_ g.1.toNat t []=(l,0):=by
 rw[<-h.eq]
 cases g.1.toNat-n<;>(unfold er;rw[if_pos hv])
theorem lF.no(h:lF g by_ t v l n)(hv:¬gI by_ v= -1)(hh:(n:Int)=g.1\/gI by_ v<0\/2*(g.2.length:Int)<=gI by_ v\/¬bU g (gI by_ v)=v):er g by_ g.1.toNat t []=([],14):=by
 rw[<-h.eq]
 have h1:=h.ln
 cases hc:g.1.toNat-n with
 |zero=>unfold er;rw[if_neg hv]
 |succ k=>
   unfold er;rw[if_neg hv,if_pos]
   rcases hh with e|e
   · omega
   · exact e
theorem lF.next(hm:aV g)(h:lF g by_ t v l n)(hv:¬gI by_ v= -1)(hn:¬(n:Int)=g.1)(h0:¬gI by_ v<0)(h1:¬2*(g.2.length:Int)<=gI by_ v)(h2:bU g (gI by_ v)=v):lF g by_ t (aB g (gI by_ v)) (gI by_ v::l) (n+1):=by
 have hl:=h.ln
 obtain⟨a,b⟩:=jo hm (h:=gI by_ v) (by omega) (by omega)
 refine⟨a,b,by rw[List.length_cons,h.ll],by omega,?_⟩
 rw[<-h.eq]
 have e:g.1.toNat-n=(g.1.toNat-(n+1))+1:=by omega
 rw[e]
 conv=>rhs;unfold er
 rw[if_neg hv,if_neg]
 rintro(c|c|c)
 · exact h0 c
 · exact h1 c
 · exact c h2
end TL
/-
  TlDij: what the document's From comes to: each length is that of the way found; no half-edge of a reached node leads nearer.
  By an AI agent.
-/
set_option linter.all false
namespace TL
abbrev hf(g:aD)(h:Int):Prop:=0<=h/\h<2*(g.2.length:Int)
abbrev nd(g:aD)(v:Int):Prop:=0<=v/\v<g.1
variable{g:aD}{ws:List Nat}{s p:Int}{far:List Nat}{by_:List Int}{se:List Bool}{rk:Int->Nat}{n:Nat}{done:List Int}
end TL
/-
  TlRef7: the document's own From, step by step: the pick of the nearest, and one node's half-edges.
  By an AI agent.
-/
set_option linter.all false
namespace TL
variable{g:aD}{ws:List Nat}{s:Int}{far far2:List Nat}{by_ by2:List Int}{se:List Bool}{v:Int}{k:Nat}
theorem j8{l:List Nat}(h:∀x∈l,x<=aM)(i:Int):gI l i<=aM:=by
 unfold gI
 rw[List.getD_eq_getElem?_getD]
 by_cases c:i.toNat<l.length
 · rw[List.getElem?_eq_getElem c];exact h _ (List.getElem_mem c)
 · rw[List.getElem?_eq_none (by omega)];exact Nat.zero_le _
end TL
/-
  TlTree: the least set of edges joins what is joined, without a cycle; no edge left out is lighter than one on its cycle.
  By an AI agent.
-/
set_option linter.all false
namespace TL
def dm(g:aD)(L:List Int):aD:=(g.1,L.map (gI g.2))
variable{g:aD}{ws:List Nat}{L M:List Int}{u v:Int}
def nc(g:aD)(L:List Int):Prop:=∀i∈L,0<=i/\i<(g.2.length:Int)
theorem eJ(hm:aV g)(hL:nc g L)(hl:L.length<=3072):aV (dm g L):=by
 obtain⟨m1,m2,m3,m4⟩:=hm
 refine⟨m1,m2,by unfold dm;rw[List.length_map];exact hl,λe he=>?_⟩
 unfold dm at he
 obtain⟨i,hi,rfl⟩:=List.mem_map.1 he
 exact m4 _ (aU (hL i hi).1 (hL i hi).2)
theorem ke{g h:aD}(hn:h.1=g.1)(he:∀e∈h.2,e∈g.2)(hc:Cn h u v):Cn g u v:=by
 have hd:ci h=ci g:=by unfold ci;rw[hn]
 exact λR hR h2=>hc R (by rw[hd];exact hR) (λe k=>h2 e (he e k))
theorem nY{g h:aD}(hn:h.1=g.1)(he:∀e∈h.2,Cn g e.1 e.2)(hc:Cn h u v):Cn g u v:=by
 have hd:ci h=ci g:=by unfold ci;rw[hn]
 exact hc (Cn g) (by rw[hd];exact Cn.eqv g) he
theorem fm(h:∀i∈L,i∈M)(hc:Cn (dm g L) u v):Cn (dm g M) u v:=
 ke (g:=dm g M) (h:=dm g L) rfl (λe he=>by
   obtain⟨i,hi,rfl⟩:=List.mem_map.1 he
   exact List.mem_map.2 ⟨i,h i hi,rfl⟩) hc
structure ni(g:aD)(c A:List Int):Prop where
 lc:(c.length:Int)=g.1
 inn:nc g A
 lab:∀u v,ci g u->ci g v->(gI c u=gI c v↔Cn (dm g A) u v)
 num:(ay (dm g A)).2.1+(A.length:Int)=g.1
theorem ni.start(hm:aV g):ni g (ba g.1.toNat) []:=by
 have h0:=hm.1
 have hme:aV (dm g []):=eJ hm (λi hi=>absurd hi List.not_mem_nil) (by simp)
 have heq:∀u v,ci g u->ci g v->(Cn (dm g []) u v↔u=v):=λu v hu hv=>
   ⟨λhc=>hc (λx y=>x=y) ⟨λ_ _=>rfl,λ_ _ _ _ h=>h.symm,λ_ _ _ _ _ _ h1 h2=>h1.trans h2⟩ (λe he=>absurd he List.not_mem_nil),λe=>by rw[e];exact(Cn.eqv _).rfl v hv⟩
 refine⟨by rw[cN];omega,λi hi=>absurd hi List.not_mem_nil,λu v hu hv=>?_,?_⟩
 · rw[heq u v hu hv,iz hu.1 (by have:=hu.2;omega),iz hv.1 (by have:=hv.2;omega)]
 · obtain⟨k,e1,h1⟩:=d8 hme
   have h2:gV (ci (dm g [])) (Cn (dm g [])) g.1.toNat:=⟨ba g.1.toNat,⟨dU _,λx hx=>by
     have:=cE.1 hx
     exact⟨this.1,show x<g.1 by omega⟩,λx hx=>⟨x,cE.2 ⟨hx.1,by have:x<g.1:=hx.2;omega⟩,(Cn.eqv _).rfl x hx⟩,λx hx y hy hxy=>by
     have a:=cE.1 hx
     have b:=cE.1 hy
     exact(heq x y ⟨a.1,by omega⟩ ⟨b.1,by omega⟩).1 hxy⟩,cN _⟩
   have:=h1.eq (Cn.eqv _) h2
   rw[e1,List.length_nil];omega
theorem ni.len(hm:aV g){c A:List Int}(h:ni g c A)(hp:aV (dm g A)):A.length<=1024:=by
 have h1:=(fL (dm g A) hp).1
 have h2:=h.num
 have h3:=hm.2.1
 omega
theorem ni.step(hm:aV g){s:List Int×List Int}(h:ni g s.1 s.2)(hl:s.2.length<=1024){i:Int}(h0:0<=i)(h1:i<(g.2.length:Int)):ni g (cV g s i).1 (cV g s i).2/\(cV g s i).2.length<=1024/\gI (cV g s i).1 (gI g.2 i).1=gI (cV g s i).1 (gI g.2 i).2:=by
 obtain⟨ha,hb⟩:=hm.2.2.2 _ (aU (xs:=g.2) h0 h1)
 have hlc:=h.lc
 unfold cV
 by_cases e:gI s.1 (gI g.2 i).1=gI s.1 (gI g.2 i).2
 · rw[if_pos e];exact⟨h,hl,e⟩
 rw[if_neg e]
 have hin:nc g (s.2++[i]):=λk hk=>by
   rcases List.mem_append.1 hk with c|c
   · exact h.inn k c
   · rw[List.mem_singleton.1 c];exact⟨h0,h1⟩
 have hp:aV (dm g s.2):=eJ hm h.inn (by omega)
 have hp':aV (dm g (s.2++[i])):=eJ hm hin (by simp;omega)
 have hmem:∀x,x∈(dm g (s.2++[i])).2↔x∈(dm g s.2).2\/x=((gI g.2 i).1,(gI g.2 i).2):=λx=>by
   unfold dm
   simp only[List.map_append,List.mem_append,List.map_cons,List.map_nil,List.mem_singleton]
 have hnc:¬Cn (dm g s.2) (gI g.2 i).1 (gI g.2 i).2:=λk=>e ((h.lab _ _ ha hb).2 k)
 have hg:∀x,ci g x->gI (di s.1 (gI s.1 (gI g.2 i).1) (gI s.1 (gI g.2 i).2)) x=if gI s.1 x=gI s.1 (gI g.2 i).2 then gI s.1 (gI g.2 i).1 else gI s.1 x:=λx hx=>fl hx.1 (by have:=hx.2;omega)
 have hk:ni g (di s.1 (gI s.1 (gI g.2 i).1) (gI s.1 (gI g.2 i).2)) (s.2++[i]):=by
   refine⟨by unfold di;rw[List.length_map];exact hlc,hin,λu v hu hv=>?_,?_⟩
   · rw[iG (g:=dm g (s.2++[i])) (h:=dm g s.2) rfl ha hb hmem hu hv,hg u hu,hg v hv]
     unfold Jn
     rw[<-h.lab u v hu hv,<-h.lab u _ hu ha,<-h.lab _ v hb hv,<-h.lab u _ hu hb,<-h.lab _ v ha hv]
     by_cases c1:gI s.1 u=gI s.1 (gI g.2 i).2
     · rw[if_pos c1]
       by_cases c2:gI s.1 v=gI s.1 (gI g.2 i).2
       · rw[if_pos c2];exact⟨λ_=>.inl (c1.trans c2.symm),λ_=>rfl⟩
       · rw[if_neg c2]
         constructor
         · intro k;exact .inr (.inr ⟨c1,k⟩)
         · rintro(k|⟨_,k⟩|⟨_,k⟩)
           · exact absurd (k.symm.trans c1) c2
           · exact absurd k.symm c2
           · exact k
     · rw[if_neg c1]
       by_cases c2:gI s.1 v=gI s.1 (gI g.2 i).2
       · rw[if_pos c2]
         constructor
         · intro k;exact .inr (.inl ⟨k,c2.symm⟩)
         · rintro(k|⟨k,_⟩|⟨k,_⟩)
           · exact absurd (k.trans c2) c1
           · exact k
           · exact absurd k c1
       · rw[if_neg c2]
         constructor
         · intro k;exact .inl k
         · rintro(k|⟨_,k⟩|⟨k,_⟩)
           · exact k
           · exact absurd k.symm c2
           · exact absurd k c1
   · have hnum:=h.num
     rcases jL hp' hp rfl ha hb hmem with⟨k,_⟩|⟨_,k⟩
     · exact absurd k hnc
     · rw[List.length_append,List.length_singleton];omega
 refine⟨hk,hk.len hm hp',?_⟩
 show gI (di s.1 (gI s.1 (gI g.2 i).1) (gI s.1 (gI g.2 i).2)) (gI g.2 i).1=gI (di s.1 (gI s.1 (gI g.2 i).1) (gI s.1 (gI g.2 i).2)) (gI g.2 i).2
 rw[hg _ ha,hg _ hb,if_neg e,if_pos rfl]
theorem mI(hm:aV g){s:List Int×List Int}(hs:(s.1.length:Int)=g.1)(i:Int)(hu:ci g u)(hv:ci g v)(e:gI s.1 u=gI s.1 v):gI (cV g s i).1 u=gI (cV g s i).1 v/\((cV g s i).1.length:Int)=g.1:=by
 unfold cV
 split
 · exact⟨e,hs⟩
 · refine⟨?_,by show((di s.1 _ _).length:Int)=g.1;unfold di;rw[List.length_map];exact hs⟩
   show gI (di s.1 _ _) u=gI (di s.1 _ _) v
   rw[fl hu.1 (by have:=hu.2;omega),fl hv.1 (by have:=hv.2;omega),e]
theorem i3(hm:aV g)(hu:ci g u)(hv:ci g v):∀(l:List Int) (s:List Int×List Int),(s.1.length:Int)=g.1->gI s.1 u=gI s.1 v->gI (l.foldl (cV g) s).1 u=gI (l.foldl (cV g) s).1 v
 |[],s,_,e=>e
 |i::l,s,hs,e=>by
   obtain⟨a,b⟩:=mI hm hs i hu hv e
   exact i3 hm hu hv l _ b a
theorem jb(hm:aV g):∀(n:Nat) (l:List Int),l.length=n->nc g l->ni g (bY g l).1 (bY g l).2/\(bY g l).2.length<=1024
 |0,l,h,_=>by rw[List.length_eq_zero_iff.1 h];exact⟨ni.start hm,by show([]:List Int).length<=1024;simp⟩
 |n+1,l,h,hin=>by
   obtain⟨t,i,rfl⟩:∃t i,l=t++[i]:=⟨l.dropLast,l.getLast (by intro e;rw[e] at h;cases h),(List.dropLast_concat_getLast _).symm⟩
   obtain⟨a,b⟩:=jb hm n t (by simpa using h) (λk hk=>hin k (List.mem_append_left _ hk))
   rw[fo]
   have hi:=hin i (List.mem_append_right _ (List.mem_singleton.2 rfl))
   obtain⟨x,y,_⟩:=a.step hm b hi.1 hi.2
   exact⟨x,y⟩
theorem ms(hm:aV g){P R:List Int}{i:Int}(hP:nc g P)(h0:0<=i)(h1:i<(g.2.length:Int)):gI (bY g (P++i::R)).1 (gI g.2 i).1=gI (bY g (P++i::R)).1 (gI g.2 i).2:=by
  obtain⟨a,b⟩:=jb hm _ P rfl hP
  obtain⟨ha,hb⟩:=hm.2.2.2 _ (aU (xs:=g.2) h0 h1)
  obtain⟨x,y,z⟩:=a.step hm b h0 h1
  have e:bY g (P++i::R)=R.foldl (cV g) (cV g (bY g P) i):=by unfold bY;rw[List.foldl_append];rfl
  rw[e]
  exact i3 hm ha hb R _ x.lc z
theorem fN(hwl:ws.length=g.2.length):nc g (aL ws):=λi hi=>by have:=fw.1 hi;omega
theorem dM{i:Int}(hwl:ws.length=g.2.length):i∈aN g ws↔i∈(bY g (aL ws)).2:=by
 unfold aN
 rw[List.mem_filter,decide_eq_true_iff]
 refine⟨λh=>h.2,λh=>⟨?_,h⟩⟩
 have:=fN hwl i ((eI g _ (aL ws) rfl).subset h)
 exact cE.2 this
theorem ef(hwl:ws.length=g.2.length):nc g (aN g ws):=λi hi=>fN hwl i ((eI g _ (aL ws) rfl).subset ((dM hwl).1 hi))
theorem gF:(aN g ws).Nodup:=(dU _).filter _
theorem ji(hwl:ws.length=g.2.length):(aN g ws).length=(bY g (aL ws)).2.length:=by
 rw[<-i5 hwl rfl];exact List.length_mergeSort _
theorem gv(hm:aV g)(hwl:ws.length=g.2.length)(hu:ci g u)(hv:ci g v):Cn (dm g (aN g ws)) u v↔Cn g u v:=by
  constructor
  · refine λh=>ke (g:=g) (h:=dm g (aN g ws)) rfl (λe he=>?_) h
    obtain⟨i,hi,rfl⟩:=List.mem_map.1 he
    have:=ef hwl i hi
    exact aU this.1 this.2
  · intro h
    obtain⟨a,b⟩:=jb hm _ (aL ws) rfl (fN hwl)
    refine nY (g:=dm g (aN g ws)) (h:=g) rfl (λe he=>?_) h
    obtain⟨k,hk,rfl⟩:=List.mem_iff_getElem.1 he
    have hmo:(k:Int)∈aL ws:=fw.2 ⟨by omega,by omega⟩
    obtain⟨P,R,e⟩:=List.append_of_mem hmo
    have e2:gI g.2 (k:Int)=g.2[k]:=by simp[gI,hk]
    have hP:nc g P:=λi hi=>fN hwl i (by rw[e];exact List.mem_append_left _ hi)
    have hl:=ms hm (R:=R) hP (i:=(k:Int)) (by omega) (by omega)
    rw[<-e,e2] at hl
    obtain⟨ha,hb⟩:=hm.2.2.2 _ he
    exact fm (λi hi=>(dM hwl).2 hi) ((a.lab _ _ ha hb).1 hl)
theorem mG(hm:aV g)(hwl:ws.length=g.2.length):aV (dm g (aN g ws))/\(ay g).2.1=(ay (dm g (aN g ws))).2.1/\((aN g ws).length:Int)=g.1-(ay g).2.1:=by
 obtain⟨a,b⟩:=jb hm _ (aL ws) rfl (fN hwl)
 have hl:=ji (g:=g) hwl
 have hp:aV (dm g (aN g ws)):=eJ hm (ef hwl) (by omega)
 have hp2:aV (dm g (bY g (aL ws)).2):=eJ hm a.inn (by omega)
 obtain⟨k,e1,h1⟩:=d8 hm
 obtain⟨k',e2,h2⟩:=d8 hp
 obtain⟨k2,e3,h3⟩:=d8 hp2
 have hd:ci (dm g (aN g ws))=ci g:=rfl
 have hd2:ci (dm g (bY g (aL ws)).2)=ci g:=rfl
 rw[hd] at h2
 rw[hd2] at h3
 have x1:=h1.eq (Cn.eqv g) (h2.iff λx y hx hy=>gv hm hwl hx hy)
 have x2:=h1.eq (Cn.eqv g) (h3.iff λx y hx hy=>(⟨λh=>fm (λi hi=>(dM hwl).2 hi) h,λh=>fm (λi hi=>(dM hwl).1 hi) h⟩:Cn (dm g (bY g (aL ws)).2) x y↔Cn (dm g (aN g ws)) x y).trans (gv hm hwl hx hy))
 have hnum:=a.num
 exact⟨hp,by rw[e1,e2,x1],by omega⟩
theorem jP(hm:aV g)(hwl:ws.length=g.2.length){o:Int}(h0:0<=o)(h1:o<(g.2.length:Int))(hn:o∉aN g ws)(hL:∀i,i∈aN g ws->zf (gI ws i)<=zf (gI ws o)->i∈L):Cn (dm g L) (gI g.2 o).1 (gI g.2 o).2:=by
  have hmo:o∈aL ws:=fw.2 ⟨h0,by omega⟩
  obtain⟨P,R,e⟩:=List.append_of_mem hmo
  have hP:nc g P:=λi hi=>fN hwl i (by rw[e];exact List.mem_append_left _ hi)
  obtain⟨a,b⟩:=jb hm _ P rfl hP
  obtain⟨ha,hb⟩:=hm.2.2.2 _ (aU (xs:=g.2) h0 h1)
  have hgrow:∀(l:List Int) (s:List Int×List Int) (x:Int),x∈s.2->x∈(l.foldl (cV g) s).2:=by
    intro l
    induction l with
    |nil=>intro s x hx;exact hx
    |cons i l ih=>
      intro s x hx
      refine ih _ x ?_
      unfold cV;split
      · exact hx
      · exact List.mem_append_left _ hx
  have ek:bY g (aL ws)=R.foldl (cV g) (cV g (bY g P) o):=by rw[e];unfold bY;rw[List.foldl_append];rfl
  have hl:gI (bY g P).1 (gI g.2 o).1=gI (bY g P).1 (gI g.2 o).2:=by
    by_cases c:gI (bY g P).1 (gI g.2 o).1=gI (bY g P).1 (gI g.2 o).2
    · exact c
    · exfalso
      apply hn
      rw[dM hwl,ek]
      refine hgrow R _ o ?_
      unfold cV;rw[if_neg c]
      exact List.mem_append_right _ (List.mem_singleton.2 rfl)
  refine fm (λi hi=>?_) ((a.lab _ _ ha hb).1 hl)
  have hiP:=(eI g _ P rfl).subset hi
  refine hL i ((dM hwl).2 ?_) ?_
  · rw[ek]
    refine hgrow R _ i ?_
    unfold cV;rw[if_pos hl];exact hi
  · have hs:=ks ws
    unfold jB at hs
    rw[e] at hs
    have:=(List.pairwise_append.1 hs).2.2 i hiP o (List.mem_cons_self ..)
    unfold gp c6 jT at this
    simp only at this
    omega
theorem kv(hm:aV g)(hL:nc g L)(hn:L.Nodup):bv g L=(dm g L,0):=by
 unfold bv
 rw[if_pos hm,if_pos (iK hL hn)];rfl
end TL
/-
  TlOpen: arguments opened: what a law's reader says of a slice is what a walk wants of it.
  By an AI agent.
-/
namespace TL
open Go Go.Proofs Go.ChangeShapes Go.WideShapes Go.Joins Go.Deep
structure iq{H:Type}(f:DataW H->Nat):Prop where
 slice:∀l s:List (DataW H),l.length<=f (.slice l s)
 elem:∀l s:List (DataW H),∀d∈l,f d<=f (.slice l s)
 part:∀l:List (DataW H),∀d∈l,f d<=f (.agg l)
def l7(α:Type)[Rp α](P:Program)(t:TypeId):Prop:=
  ∀{H:Type} (enc:TypeId×Value->H) (w:World) (fuel:Nat) (cs:List Value) (x:DataW H×List MemPlace),DataW.trod enc P w 0 (λ_=>true) true fuel t cs=some x->∃y:α,Rp.rep c0 any w cs y
theorem kn{P:Program}{t:TypeId}(ht:P.underlying t=some (.int .i64)):l7 Int P t:=by
 intro H enc w fuel cs x h
 obtain⟨n,rfl,_,_⟩:=DataW.trod_int ht h
 exact⟨n,rfl⟩
theorem jl{H:Type}{enc:TypeId×Value->H}{P:Program}{w:World}{base:Nat}{spare:Nat->Bool}{held:Bool}{t e:TypeId}{fuel:Nat}{cs:List Value}{x:DataW H×List MemPlace}(ht:P.underlying t=some (.array 2 e))(hce:P.cellsOf e=1)(hct:P.cellsOf t=2)
   (h:DataW.trod enc P w base spare held fuel t cs=some x):
   ∃v0 v1 y0 y1 n,cs=[v0,v1]/\x=(.agg [y0.1,y1.1],y0.2++y1.2)/\DataW.trod enc P w base spare held n e [v0]=some y0/\DataW.trod enc P w base spare held n e [v1]=some y1:=by
 cases fuel with
 |zero=>simp[DataW.trod] at h
 |succ n=>
   unfold DataW.trod at h
   rw[ht] at h
   have r2:List.range 2=[0,1]:=rfl
   simp only[hct] at h
   by_cases hl:cs.length=2
   · rw[if_pos hl] at h
     match cs,hl with
     |[v0,v1],_=>
       simp[r2,hce] at h
       cases h0:DataW.trod enc P w base spare held n e [v0] with
       |none=>simp[h0] at h
       |some y0=>
         cases h1:DataW.trod enc P w base spare held n e [v1] with
         |none=>simp[h0,h1] at h
         |some y1=>
           simp[h0,h1] at h
           exact⟨v0,v1,y0,y1,n,rfl,h.symm,h0,h1⟩
   · rw[if_neg hl] at h;cases h
theorem nt{P:Program}{t e:TypeId}(ht:P.underlying t=some (.array 2 e))(he:P.underlying e=some (.int .i64))(hce:P.cellsOf e=1)(hct:P.cellsOf t=2):l7 (Int×Int) P t:=by
 intro H enc w fuel cs x h
 obtain⟨v0,v1,y0,y1,n,rfl,_,h0,h1⟩:=jl ht hce hct h
 obtain⟨a,ha⟩:=kn he enc w n [v0] y0 h0
 obtain⟨b,hb⟩:=kn he enc w n [v1] y1 h1
 exact⟨(a,b),[v0],[v1],rfl,ha,hb⟩
theorem ia{α:Type}[Rp α][Inhabited α]{P:Program}{t e:TypeId}(ht:P.underlying t=some (.slice e))(hc:P.cellsOf e=Rp.sz α)(hz:0<Rp.sz α)(he:l7 α P e)
    {H:Type}{enc:TypeId×Value->H}{w:World}{f:DataW H->Nat}(hf:iq f){fuel:Nat}{v:Value}{x:DataW H×List MemPlace}
    (hs:∀a len cap,v= .slice (some a) len cap->a.spot=none)(h:DataW.trod enc P w 0 (λ_=>true) true fuel t [v]=some x)(hb:f x.1<=1048576):∃xs:List α,Ro w v xs:=by
  rcases Deep.open_slice ht h with⟨h0,_⟩|⟨a,len,cap,m,n,D,Pl,h0,_,hlc,_,hm,rfl,hx⟩
  · obtain rfl:v= .slice none 0 0:=by simpa using h0
    exact⟨[],.inl ⟨⟨_,rfl⟩,rfl⟩⟩
  · obtain rfl:v= .slice (some a) len cap:=by simpa using h0
    have hsp:=hs a len cap rfl
    obtain⟨b,off,spot⟩:=a
    obtain rfl:spot=none:=hsp
    simp only[if_true] at hm
    subst hm
    obtain⟨Y,hY⟩:=Deep.choose_lt (α:=α) (n:=len) (p:=λi y=>∃cs,(∀j,j<Rp.sz α->w.cell? ⟨b,off+i*Rp.sz α+j,none⟩=cs[j]?)/\Rp.rep c0 any w cs y) (λi hi=>by
      obtain⟨cs',h1,h2⟩:=hx i (by omega)
      obtain⟨y,hy⟩:=he enc w n cs' _ h2
      refine⟨y,cs',λj hj=>?_,hy⟩
      obtain⟨_,hl,hcell⟩:=World.cells?_some h1
      have:=hcell j (by omega)
      rw[Deep.add_add,hc] at this
      rw[<-this]
      unfold Addr.add
      by_cases hij:i*Rp.sz α+j=0
      · rw[if_pos hij,Nat.add_assoc,hij];rfl
      · rw[if_neg hij,Nat.add_assoc])
    have hlen:((List.range len).map Y).length=len:=by simp
    have hbound:=Nat.le_trans (hf.slice _ _) hb
    refine⟨(List.range len).map Y,.inr ⟨b,off,m,by rw[hlen],⟨by omega,by simp at hbound;omega⟩,λi y hi=>?_⟩⟩
    have hil:i<len:=by
      have:=(List.getElem?_eq_some_iff.1 hi).1
      omega
    obtain rfl:Y i=y:=by simpa[hil] using hi
    obtain⟨cs,h1,h2⟩:=hY i hil
    refine⟨?_,trivial,cs,h1,h2⟩
    have h3:=h1 0 hz
    have h4:=Rp.len h2
    have h5:0<cs.length:=by omega
    rw[List.getElem?_eq_getElem h5] at h3
    by_cases hbl:b<w.heap.size
    · exact hbl
    · have:w.heap[b]? =none:=Array.getElem?_eq_none (by omega)
      simp[World.cell?,this] at h3
theorem ft{P:Program}{w:World}{base:Nat}{t e:TypeId}{v:Value}(ht:P.underlying t=some (.slice e))(h:Cell.okWide P w .any base t v):∀a len cap,v= .slice (some a) len cap->a.spot=none:=by
 rintro a len cap rfl
 simp only[Cell.okWide,Cell.ok,ht] at h
 exact h.2.2.2.1
theorem l5{α:Type}[Rp α][Inhabited α]{P:Program}{t e:TypeId}(ht:P.underlying t=some (.slice e))(hc:P.cellsOf e=Rp.sz α)(hz:0<Rp.sz α)(he:l7 α P e)
    {H:Type}{enc:TypeId×Value->H}{w:World}{f:DataW H->Nat}(hf:iq f){base:Nat}{v:Value}{d:DataW H}{p:List MemPlace}
    (hval:Value.okWide P w .any base t v)(h:DataW.Trod enc P w 0 (λ_=>true) true t v d p)(hb:f d<=1048576):∃xs:List α,Ro w v xs:=by
  obtain⟨a,len,cap,rfl⟩:=okWide_slice ht hval
  obtain⟨fuel,hfu⟩:=h
  refine ia ht hc hz he hf (ft (w:=w) (base:=base) ht ?_) (x:=(d,p)) hfu hb
  simpa[Value.okWide,ht] using hval
theorem oB{α:Type}[Rp α][Inhabited α]{P:Program}{t t0 t1 e:TypeId}{f0 f1:Field}(hs:P.underlying t=some (.struct #[f0,f1]))(hone:oneCellFields P #[f0,f1]=true)(hC:P.cellsOf t=2)(hts:P.cellTypes P.depth t=some [t0,t1])
    (h0:f0.type=t0)(h1:f1.type=t1)(hi:P.underlying t0=some (.int .i64))(ht:P.underlying t1=some (.slice e))(hc:P.cellsOf e=Rp.sz α)(hz:0<Rp.sz α)(he:l7 α P e)
    {H:Type}{enc:TypeId×Value->H}{w:World}{f:DataW H->Nat}(hf:iq f){base:Nat}{v:Value}{d:DataW H}{p:List MemPlace}
    (hval:Value.okWide P w .any base t v)(h:DataW.Trod enc P w 0 (λ_=>true) true t v d p)(hb:f d<=1048576):∃(n:Int) (u:Value) (xs:List α),v= .agg #[.int .i64 n,u]/\Ro w u xs:=by
  obtain⟨v0,v1,y0,y1,n,rfl,rfl,rfl,r0,r1⟩:=open_agg2 hs hone hC hval h
  subst h0 h1
  obtain⟨k,hk,_,_⟩:=DataW.trod_int hi r0
  obtain rfl:v0= .int .i64 k:=by simpa using hk
  have hcell:Cell.okWide P w .any base f1.type v1:=by
    simp only[Value.okWide,hs] at hval
    obtain⟨cs,hcs,_,ts,h3,_,h4⟩:=hval
    rw[hts] at h3
    obtain rfl:=Option.some.inj h3
    obtain rfl: #[Value.int .i64 k,v1]=cs:=by simpa using hcs
    obtain⟨u,hu,hk⟩:=h4 1 v1 rfl
    simp at hu
    subst hu
    exact hk
  obtain⟨xs,hx⟩:=ia ht hc hz he hf (ft ht hcell) (x:=y1) r1 (Nat.le_trans (hf.part _ _ (by simp)) hb)
  exact⟨k,v1,xs,rfl,hx⟩
end TL
/-
  TlJudge4: directions around a point; a plot turned by a quarter; the example's rotation.
  By an AI agent.
-/
set_option linter.all false
namespace TL
section
variable{u v w:Pt}
end
section
variable{p:gU}{o:Pt}{l:List Int}
end
section
variable{u v:Pt}{i k:Int}
def qH(u:Pt):Prop:=0<=u.1/\0<u.2
instance (u:Pt):Decidable (qH u):=by unfold qH;infer_instance
end
section
variable{o:Pt}{ps:List Pt}
end
end TL
/-
  TlJTr: plots moved as a whole: their flaws.
  By an AI agent.
-/
set_option linter.all false
namespace TL
section
variable{T:Pt->Pt}{D:Pt->Prop}{g:aD}{p:gU}{l a b but:List Pt}{q:Pt}{i k:Nat}
end
section
variable{g:aD}{p:gU}
end
def qP(p:gU):Nat->Int
 |0=>(p.1.length:Int)
 |k+1=>qP p k+((gI p.2 (k:Int)).length:Int)+1
def mb(g:aD)(p:gU):Prop:=qP p p.2.length<=400/\(¬aV g\/g.1<=30/\(g.2.length:Int)<=40)
instance (g:aD)(p:gU):Decidable (mb g p):=by unfold mb;infer_instance
end TL
namespace TL
section
variable{g:aD}{p:gU}{l r:List Pt}{L:List (List Pt)}{k e:Nat}
end
end TL
namespace TL
section
variable{α:Type}[Inhabited α][DecidableEq α]{a b:List α}{k:Nat}
end
section
variable{g:aD}{p:gU}{n:Int}{e:Nat}
end
end TL
/-
  TlWord: words and bytes in memory (a list of uint64, a list of uint8), and how a statement's argument of them is opened.
  By an AI agent.
-/
set_option linter.all false
namespace TL
open Go Go.Proofs Go.ChangeShapes Go.WideShapes Go.Joins Go.Deep
structure Wd where
  n:Nat
  lt:n<18446744073709551616
instance:Inhabited Wd:=⟨⟨0,by decide⟩⟩
instance:Rp Wd where
 sz:=1
 rep _ _ _ cs x:=cs=[.int .u64 (x.n:Int)]
 len h:=by subst h;rfl
 one h:=by subst h;simp[Value.oneCell']
 tr _ _ h:=h
instance:Fl Wd where
 cells x:=[.int .u64 (x.n:Int)]
 rep_iff:=Iff.rfl
structure Bt where
  n:Nat
  lt:n<256
instance:Inhabited Bt:=⟨⟨0,by decide⟩⟩
instance:Rp Bt where
 sz:=1
 rep _ _ _ cs x:=cs=[.int .u8 (x.n:Int)]
 len h:=by subst h;rfl
 one h:=by subst h;simp[Value.oneCell']
 tr _ _ h:=h
instance:Fl Bt where
 cells x:=[.int .u8 (x.n:Int)]
 rep_iff:=Iff.rfl
theorem n5{P:Program}{t:TypeId}(ht:P.underlying t=some (.int .u8)):l7 Bt P t:=by
 intro H enc w fuel cs x h
 obtain⟨n,rfl,_,hw⟩:=DataW.trod_int ht h
 simp only[Lit.wf,Bool.and_eq_true,decide_eq_true_eq] at hw
 have e1:IntKind.u8.min=0:=by decide
 have e2:IntKind.u8.max=255:=by decide
 exact⟨⟨n.toNat,by omega⟩,by show[_]=[_];rw[Int.toNat_of_nonneg (by omega)]⟩
end TL
namespace TL
open Go Go.Proofs Go.ChangeShapes Go.WideShapes Go.Joins Go.Deep
end TL
namespace TL
open Go
theorem qk{P:Program}{f:Fr}{w:World}{dst:Option Tmp}{ty:TypeId}{pos:String}{after:Array Edge}{g:Option (Nat×Bool)}{s d:TypeId}{x:Operand}{k:IntKind}{m:Int}{us:TypeDesc}(hs:P.underlying s=some us)(hd:P.underlying d=some (.float .f64))(hx:ev f x= .int k m):(execOp (ev f) ⟨dst,.convert s d x,ty,pos,after,g⟩).run P w= .ok (.value (.float .f64 (fp m))) w:=by
 simp[execOp,convert,hx,az hs,az hd,Conv.intToFloat,fp]
end TL
/-
  TlTree2: what a walk of PathTrees wants: remainders of bytes, numbers not greater, the edges that are not heavier.
  By an AI agent.
-/
set_option linter.all false
namespace TL
open Go
theorem mF{P:Program}{f:Fr}{w:World}{dst:Option Tmp}{ty:TypeId}{pos:String}{after:Array Edge}{g:Option (Nat×Bool)}{t t':TypeId}{x y:Operand}{a b:Nat}(hx:ev f x= .float .f64 a)(hy:ev f y= .float .f64 b)(ha:a<=aM)(hb:b<=aM):(execOp (ev f) ⟨dst,.binOp .leq t x y t',ty,pos,after,g⟩).run P w= .ok (.value (.bool (decide (a<=b)))) w:=
 fc hx hy (λw=>by
   rw[binOp_float_cmp_leq]
   show Sem.run P (pure (Value.bool (Ieee.double.order a b==some .lt||Ieee.double.order a b==some .eq))) w=_
   rw[cR ha hb]
   rcases Nat.lt_trichotomy a b with c|c|c
   · rw[ep c,decide_eq_true (Nat.le_of_lt c)];rfl
   · rw[c,de,decide_eq_true (Nat.le_refl _)];rfl
   · rw[dQ c,decide_eq_false (Nat.not_le.2 c)];rfl)
theorem pB{P:Program}{f:Fr}{w:World}{dst:Option Tmp}{ty:TypeId}{pos:String}{after:Array Edge}{g:Option (Nat×Bool)}{t t':TypeId}{x y:Operand}{m n:Int}(hx:ev f x= .int .u8 m)(hy:ev f y= .int .u8 n)(hm:0<=m)(hn:0<n):(execOp (ev f) ⟨dst,.binOp .rem t x y t',ty,pos,after,g⟩).run P w= .ok (.value (.int .u8 (m%n))) w:=
 bn .rem x y hx hy (by
   have h0:n≠0:=by omega
   have h1:m.tmod n=m%n:=Int.tmod_eq_emod_of_nonneg hm
   simp[binOp,Op.intDiv,h0,h1])
def lG(ws:List Bt):List Nat:=ws.map λb=>fp (((b.n:Nat):Int)%8)
theorem mS(ws:List Bt):(lG ws).length=ws.length:=by unfold lG;rw[List.length_map]
theorem ns{ws:List Bt}{l:List Nat}{k:Nat}(h:l=lG (ws.take k))(hk:(k:Int)<ws.length):l++[fp ((((gI ws (k:Int)).n:Nat):Int)%8)]=lG (ws.take (k+1)):=by
 have hk':k<ws.length:=by omega
 unfold lG at*
 rw[List.take_succ_eq_append_getElem hk',List.map_append,<-h]
 simp[gI,hk']
theorem nL{ws:List Bt}{l:List Nat}{k:Nat}(h:l=lG (ws.take k))(hk:¬(k:Int)<ws.length):l=lG ws:=by
 rw[List.take_of_length_le (by omega)] at h;exact h
theorem pm{ws:List Bt}{l:List Nat}(h:l=lG ws):∀x∈l,x<=aM:=by
 rw[h];unfold lG
 intro x hx
 obtain⟨b,_,rfl⟩:=List.mem_map.1 hx
 exact kj (by omega)
theorem qR{g:aD}{ws:List Bt}{l:List Nat}(h:l=lG ws)(hm:aV g)(hl:(ws.length:Int)=g.2.length):cZ g l=0:=by
 unfold cZ
 rw[if_pos ⟨hm,by rw[h,mS];omega⟩,if_pos (λx hx=>pv (pm h x hx))]
variable{g:aD}{ws:List Nat}{L:List Int}{o:Int}{j:Nat}
def ec(ws:List Nat)(L:List Int)(o:Int)(j:Nat):List Int:=(L.take j).filter λx=>decide (gI ws x<=gI ws o)
theorem ku{l:List Int}(h:l=ec ws L o j)(hj:(j:Int)<L.length)(hc:gI ws (gI L (j:Int))<=gI ws o):l++[gI L (j:Int)]=ec ws L o (j+1):=by
 unfold ec at*
 rw[cH hj,List.filter_append,<-h]
 simp only[List.filter_cons,List.filter_nil,decide_eq_true hc,if_true]
theorem me{l:List Int}(h:l=ec ws L o j)(hj:(j:Int)<L.length)(hc:¬gI ws (gI L (j:Int))<=gI ws o):l=ec ws L o (j+1):=by
 unfold ec at*
 rw[cH hj,List.filter_append,<-h]
 simp only[List.filter_cons,List.filter_nil,decide_eq_false hc,Bool.false_eq_true,if_false,List.append_nil]
theorem oC(j:Nat):(ec ws L o j).length<=j:=by
 unfold ec
 exact Nat.le_trans (List.length_filter_le _ _) (by rw[List.length_take];exact Nat.min_le_left _ _)
theorem kW(hj:¬(j:Int)<L.length):ec ws L o j=L.filter λx=>decide (gI ws x<=gI ws o):=by
 unfold ec;rw[List.take_of_length_le (by omega)]
def jC(L:List Int)(o:Int)(t:Bool)(j:Nat):Prop:=t=true↔o∈L.take j
theorem rj:jC L o false 0:=by unfold jC;simp
theorem ph{t t':Bool}(h:jC L o t j)(hj:(j:Int)<L.length)(ht:t=true)(ht':t'=true):jC L o t' (j+1):=by
 unfold jC at*
 rw[cH hj,List.mem_append]
 exact⟨λ_=>.inl (h.1 ht),λ_=>ht'⟩
theorem mT{t:Bool}(h:jC L o t j)(hj:(j:Int)<L.length)(ht:¬t=true):jC L o (decide (gI L (j:Int)=o)) (j+1):=by
 unfold jC at*
 rw[cH hj,List.mem_append,List.mem_singleton,decide_eq_true_iff]
 exact⟨λk=>.inr k.symm,λk=>k.elim (λk=>absurd (h.2 k) ht) Eq.symm⟩
theorem pM{t:Bool}(h:jC L o t j)(hj:¬(j:Int)<L.length)(ht:¬t=true):o∉L:=by
 unfold jC at h
 rw[List.take_of_length_le (by omega)] at h
 exact λk=>ht (h.2 k)
structure mo(g:aD)(ws:List Nat):Prop where
  may:aV g
  wl:ws.length=g.2.length
  eT:(ag g ws).1=aN g ws
  eS:(ag g ws).2.1=f3 ws (aN g ws)
  e0:(ag g ws).2.2=0
  sub:bv g (ag g ws).1=(dm g (aN g ws),0)
  may2:aV (dm g (aN g ws))
  num:(ay g).2.1=(ay (dm g (aN g ws))).2.1
  len:((ag g ws).1.length:Int)=g.1-(ay g).2.1
theorem mo.of(h:cZ g ws=0):mo g ws:=by
 obtain⟨hm,hwl,_⟩:=qg h
 obtain⟨a,b,c⟩:=mG hm hwl
 have eT:(ag g ws).1=aN g ws:=by rw[eH h]
 exact⟨hm,hwl,eT,by rw[eH h],by rw[eH h],by rw[eT];exact kv hm (ef hwl) gF,a,b,by rw[eT];exact c⟩
theorem mo.inn(T:mo g ws){k:Int}(h0:0<=k)(h1:k<((ag g ws).1.length:Int)):0<=gI (ag g ws).1 k/\gI (ag g ws).1 k<(g.2.length:Int):=by
 have:=aU (xs:=(ag g ws).1) h0 h1
 generalize gI (ag g ws).1 k=x at*
 rw[T.eT] at this
 exact ef T.wl x this
theorem lk{P:List Int}{x k:Nat}(h:x=f3 ws (P.take k))(hk:(k:Int)<P.length)(hle:gI ws (gI P (k:Int))<=aM):b6 x (gI ws (gI P (k:Int)))=f3 ws (P.take (k+1)):=by
 rw[<-ii h hk,mC hle]
theorem mo.total(T:mo g ws){x k:Nat}(h:x=f3 ws ((ag g ws).1.take k))(hk:¬(k:Int)<((ag g ws).1.length:Int)):x=(ag g ws).2.1:=by
 rw[List.take_of_length_le (by omega)] at h
 rw[h,T.eS,T.eT]
theorem mo.lit(T:mo g ws)(hle:∀x∈ws,x<=aM){l:List Int}(h:l=ec ws (ag g ws).1 o j)(hj:¬(j:Int)<((ag g ws).1.length:Int)):bv g l=(dm g l,0)/\aV (dm g l):=by
  rw[kW hj] at h
  have hin:nc g l:=λi hi=>by
    rw[h] at hi
    have:=(List.mem_filter.1 hi).1
    rw[T.eT] at this
    exact ef T.wl i this
  have hnd:l.Nodup:=by rw[h,T.eT];exact gF.filter _
  have hlen:l.length<=3072:=by
    have h1:l.length<=(ag g ws).1.length:=by rw[h];exact List.length_filter_le _ _
    have:=T.len
    have:=(fL g T.may).1
    have:=T.may.2.1
    omega
  exact⟨kv T.may hin hnd,eJ T.may hin hlen⟩
theorem mo.alike(T:mo g ws)(hle:∀x∈ws,x<=aM){l:List Int}{t:Bool}(h:l=ec ws (ag g ws).1 o j)(hj:¬(j:Int)<((ag g ws).1.length:Int))(ht:jC (ag g ws).1 o t j)(hn:¬t=true)(o0:0<=o)(o1:o<(g.2.length:Int)):
   gI (ay (dm g l)).1 (gI g.2 o).1=gI (ay (dm g l)).1 (gI g.2 o).2:=by
 obtain⟨_,hp⟩:=T.lit hle h hj
 obtain⟨ha,hb⟩:=T.may.2.2.2 _ (aU (xs:=g.2) o0 o1)
 refine(lC hp (u:=(gI g.2 o).1) (v:=(gI g.2 o).2) ha hb).2 ?_
 have hno:=pM ht hj hn
 rw[T.eT] at hno
 refine jP T.may T.wl o0 o1 hno (λi hi hz=>?_)
 rw[kW hj] at h
 rw[h]
 refine List.mem_filter.2 ⟨by rw[T.eT];exact hi,decide_eq_true ?_⟩
 have e1:gI ws i<=aM:=j8 hle i
 have e2:gI ws o<=aM:=j8 hle o
 rw[mC e1,mC e2] at hz
 exact hz
theorem m7(hm:aV g)(hp:aV (dm g L))(o0:0<=o)(o1:o<(g.2.length:Int)):((ay (dm g L)).1.length:Int)=g.1:=jG hp
end TL
/-
  TlIface: a method of an interface value that holds a pointer; values in an interface.
  By an AI agent.
-/
set_option linter.all false
namespace TL
open Go
def io(P:Program)(T:TypeId)(name:String):Option (Nat×Bool×TypeId):=
  match P.info? T,P.underlying T with
  |some i,some (.pointer e)=>
    match i.methods.find? (·.name==name) with
    |some m=>if m.path.isEmpty then m.func.map (λq=>(q.1,q.2,e)) else none
    |none=>none
  |_,_=>none
theorem lQ{P:Program}{T e:TypeId}{name:String}{f:Nat}{b:Bool}(h:io P T name=some (f,b,e)):∃i m,P.info? T=some i/\P.underlying T=some (.pointer e)/\i.methods.find? (·.name==name)=some m/\m.path= #[]/\m.func=some (f,b):=by
 unfold io at h
 split at h
 · rename_i i e' hi hu
   split at h
   · rename_i m hm
     split at h
     · rename_i hp
       cases hf:m.func with
       |none=>rw[hf] at h;cases h
       |some q=>
         rw[hf] at h
         simp only[Option.map_some,Option.some.injEq,Prod.mk.injEq] at h
         obtain⟨h1,h2,h3⟩:=h
         refine⟨i,m,hi,h3▸hu,hm,by simpa using hp,?_⟩
         rw[hf,<-h1,<-h2]
     · cases h
   · cases h
 · cases h
section
variable{P:Program}{f:Fr}{w:World}{dst:Option Tmp}{ty:TypeId}{pos:String}{after:Array Edge}{g:Option (Nat×Bool)}{T e:TypeId}{name:String}{fid n:Nat}{a:Addr}{v u:Value}
theorem je{i:TypeInfo}{t:TypeId}(h:P.info? t=some i):(typeInfo t).run P w= .ok i w:=by simp[typeInfo,h]
theorem fx(h:io P T name=some (fid,true,e)):(method (n+1) T v name).run P w= .ok (fid,v) w:=by
 obtain⟨i,m,hi,hu,hm,hp,hf⟩:=lQ h
 simp[method,je hi,hm,hp,hf,follow,receiverAt,az hu,Place.get]
theorem ox(t:TypeId)(nm:String):(Builtin.ssaWrapNilChk_ #[t] t #[.pointer (some a),strVal "",strVal nm]).run P w= .ok (.pointer (some a)) w:=rfl
theorem bj(h:io P T name=some (fid,false,e))(hl:(loadVar e a).run P w= .ok u w):(method (n+1) T (.pointer (some a)) name).run P w= .ok (fid,u) w:=by
 obtain⟨i,m,hi,hu,hm,hp,hf⟩:=lQ h
 simp[method,je hi,hm,hp,hf,follow,receiverAt,az hu,Place.get,ox,asAddr,hl]
theorem mR:∃n,P.types.size+Made.depth=n+1:=by
 have h:0<Made.depth:=by decide
 exact⟨P.types.size+Made.depth-1,by omega⟩
variable{x:Operand}{args:List Operand}{at_:Array TypeId}{vals:List Value}{fn:Func}
theorem bO(hx:ev f x= .iface T v)(hm:∀n,(method (n+1) T v name).run P w= .ok (fid,u) w)(hf:P.funcs[fid]? =some fn)(hb:fn.body.isNone=false)(hn:(fn.name== "runtime.NumGoroutine")=false)(ha:args.map (ev f)=vals):
   (execOp (ev f) ⟨dst,.call {callee:=.invoke x name,args:=args.toArray,argTypes:=at_},ty,pos,after,g⟩).run P w= .ok (.enter fid (u::vals).toArray) w:=by
 have ha:args.toArray.map (ev f)=vals.toArray:=by rw[<-ha];simp
 obtain⟨n,hn2⟩:=mR (P:=P)
 have hm':=hm n
 rw[<-hn2] at hm'
 have h1:fn.name≠ "runtime.NumGoroutine" :=by simpa using hn
 have h2:fn.body≠none:=λe=>by rw[e] at hb;cases hb
 simp[execOp,resolve,invoke,callMethod,callFunc,hx,ha,hm',hf,h1,h2]
theorem iJ{t:TypeId}{us:TypeDesc}(hs:P.underlying t=some us)(hi:(match us with| .interface _=>true|_=>false)=false)(hx:ev f x=v):(execOp (ev f) ⟨dst,.makeInterface t x,ty,pos,after,g⟩).run P w= .ok (.value (.iface t v)) w:=by
 subst hx
 cases us<;>first|(cases hi;done)|simp[execOp,Instr.makeInterface,az hs]
theorem jt{s t:TypeId}{us:TypeDesc}(hs:P.underlying t=some us)(hi:(match us with| .interface _=>true|_=>false)=false)(hx:ev f x= .iface t v):(execOp (ev f) ⟨dst,.typeAssert x s t false,ty,pos,after,g⟩).run P w= .ok (.value v) w:=by
 cases us<;>first|(cases hi;done)|simp[execOp,Instr.typeAssert,az hs,hx]
end
end TL
/-
  TlNil: a list that is none, compared.
  By an AI agent.
-/
set_option linter.all false
namespace TL
open Go
section
variable{P:Program}{w:World}{t t':TypeId}{f:Fr}{x y:Operand}{dst:Option Tmp}{ty:TypeId}{pos:String}{after:Array Edge}{g:Option (Nat×Bool)}
theorem gA{e:TypeId}(ht:P.underlying t=some (.slice e)):(Op.equal t (.slice none 0 0) (.slice none 0 0)).run P w= .ok true w:=by
 unfold Op.equal
 rw[show Op.maxDepth=9999+1 from rfl]
 unfold Op.equalIn
 simp[az ht]
theorem fa{e:TypeId}(ht:P.underlying t=some (.slice e))(hx:ev f x= .slice none 0 0)(hy:ev f y= .slice none 0 0):(execOp (ev f) ⟨dst,.binOp .neq t x y t',ty,pos,after,g⟩).run P w= .ok (.value (.bool false)) w:=
 lT .neq hx hy (by simp[eqGuard]) (by simp[binOp,gA ht])
end
theorem mM{α:Type}[Rp α]{γ:aw}{J S:bF->Prop}{w:World}{v:Value}{xs:List α}{hi:Nat}(h:Ow γ J S w v xs)(h2:hi<=xs.length):Ow γ J S w (gh v (Rp.sz α) 0 hi) (xs.take hi):=by
  rcases h with⟨rfl,rfl⟩|⟨b,cap,c,e,rfl,hc,hm,hJ,hb,hcs,hx⟩
  · simp only[List.length_nil] at h2
    have:hi=0:=by omega
    subst this
    exact .inl ⟨rfl,rfl⟩
  · have hl:(xs.take hi).length=hi:=by simp;omega
    refine .inr ⟨b,cap,c,e,?_,⟨by omega,by omega⟩,hm,hJ,hb,hcs,λi x hi'=>hx i x ?_⟩
    · rw[lm]
      simp only[hl]
    · rw[List.getElem?_take] at hi'
      split at hi'
      · exact hi'
      · cases hi'
end TL
/-
  TlRoot: a function that changes a list which its caller owns.
  By an AI agent.
-/
set_option linter.all false
namespace TL
open Go
def pn(γ0:aw)(w0:World)(γ:aw)(w:World):Prop:=aZ (is 1) γ0 w0 γ w
class JOk (J:bF->Prop):Prop where
 ok:∀c,J c->is 1 c
instance:JOk no:=⟨λ_ h=>h.elim⟩
instance:JOk (is 1):=⟨λ_ h=>h⟩
instance:JOk (inl []):=⟨λ_ h=>by unfold inl at h;simp at h⟩
instance:JOk (inl [1]):=⟨λc h=>by unfold inl at h;unfold is;simpa using h⟩
theorem pn.start{γ0:aw}(w0:World):pn γ0 w0 γ0 w0:=aZ.refl _ _ _
theorem pn.chgC{J:bF->Prop}{γ0 γ γ':aw}{w0 w w':World}[JOk J](h:pn γ0 w0 γ w)(h':aZ J γ w γ' w')(_:∀c,is 0 c->¬J c):pn γ0 w0 γ' w':=by
 unfold pn at*
 refine⟨h'.os.trans h.os,h'.tape.trans h.tape,h'.output.trans h.output,Nat.le_trans h.size h'.size,λb hb hn=>?_,λb hb hn=>?_,Nat.le_trans h.drawn h'.drawn⟩
 · have e:=h.col b hb hn
   rw[h'.col b (Nat.lt_of_lt_of_le hb h.size) (λk=>hn (by rw[<-e];exact JOk.ok _ k)),e]
 · have e:=h.col b hb hn
   rw[h'.keep b (Nat.lt_of_lt_of_le hb h.size) (λk=>hn (by rw[<-e];exact JOk.ok _ k)),h.keep b hb hn]
def rcK(γ:aw)(k:Nat):aw:=λb=>if(γ b).1=k then(1,0) else(0,0)
theorem Ow.rcK{γ:aw}{k:Nat}{w:World}{v:Value}{xs:List Int}(h:Ow γ (is k) (is k) w v xs):Ow (rcK γ k) (is 1) (is 1) w v xs:=by
 rcases h with h|⟨b,cap,c,e,h1,h2,h3,h4,h5,h6,h7⟩
 · exact .inl h
 · refine .inr ⟨b,cap,c,e,h1,h2,h3,?_,h5,h6,λi x hi=>h7 i x hi⟩
   have h4:(γ b).1=k:=h4
   unfold TL.rcK is;rw[if_pos h4]
theorem Ow.uncol{γ γ':aw}{k:Nat}{w w':World}{v:Value}{xs ys:List Int}(h:Ow γ (is k) (is k) w v xs)(h':Ow γ' (is 1) (is 1) w' v ys):Ow γ (is k) (is k) w' v ys:=by
 rcases h' with h'|⟨b,cap,c,e,h1,h2,h3,h4,h5,h6,h7⟩
 · exact .inl h'
 · refine .inr ⟨b,cap,c,e,h1,h2,h3,?_,h5,h6,λi x hi=>h7 i x hi⟩
   rcases h with h|⟨b',cap',c',e',g1,g2,g3,g4,_⟩
   · rw[h.1] at h1;cases h1
   · rw[g1] at h1
     have e1:b'=b:=by injection h1 with a _ _;injection a with a;injection a
     rw[<-e1];exact g4
theorem aZ.uncol{γ γ':aw}{k:Nat}{w w':World}(h:aZ (is 1) (rcK γ k) w γ' w'):aZ (is k) γ w γ w':=by
 refine⟨h.os,h.tape,h.output,h.size,λ_ _ _=>rfl,λb hb hn=>h.keep b hb (λc=>hn ?_),h.drawn⟩
 unfold is TL.rcK at c
 by_cases e:(γ b).1=k
 · exact e
 · rw[if_neg e] at c;exact absurd c (by decide)
theorem cA{P:Program}{fid:Nat}{args:Array Value}{γ:aw}{k:Nat}{w:World}{v:Value}{xs:List Int}{Q:Int->List Int->Prop}(ho:Ow γ (is k) (is k) w v xs)
   (h:Calls P fid args w λe w'=>∃x:Int×List Int,e= .returned ((λx:Int×List Int=>Value.int .i64 x.1) x)/\∃γ',aZ (is 1) (rcK γ k) w γ' w'/\Ow γ' (is 1) (is 1) w' v x.2/\Q x.1 x.2):
   Calls P fid args w λe w'=>∃x:Int×List Int,e= .returned ((λx:Int×List Int=>Value.int .i64 x.1) x)/\(λ(x:Int×List Int) (w':World)=>aZ (is k) γ w γ w'/\Ow γ (is k) (is k) w' v x.2/\Q x.1 x.2) x w':=
 h.mono λe w' ⟨x,e1,γ',h1,h2,h3⟩=>⟨x,e1,h1.uncol,ho.uncol h2,h3⟩
end TL
/-
  TlSort: the library's sort by a function, met in this frame.
  By an AI agent.
-/
set_option linter.all false
namespace TL
open Go Go.Proofs Go.Shelf Go.Sort Go.Lib
theorem ch.grown{w w':World}(h:ch w.heap.size w w'):∃q os,w'=grow (w.drewN q) os:=by
 obtain⟨h1,h2,h3,h4,h5,h6⟩:=h
 refine⟨w'.drawn-w.drawn,w'.heap.extract w.heap.size w'.heap.size,?_⟩
 have hh:w'.heap=w.heap++w'.heap.extract w.heap.size w'.heap.size:=by
   apply Array.ext_getElem?
   intro k
   rw[Array.getElem?_append]
   by_cases hk:k<w.heap.size
   · rw[if_pos hk];exact h5 k hk
   · rw[if_neg hk,Array.getElem?_extract]
     split
     · rw[show w.heap.size+(k-w.heap.size)=k by omega]
     · exact Array.getElem?_eq_none (by omega)
 have hd:w'.drawn=w.drawn+(w'.drawn-w.drawn):=by omega
 cases w with
 |mk a b c d e=>
   cases w' with
   |mk a' b' c' d' e'=>
     simp only[grow,World.drewN] at*
     subst h1 h2 h3
     simp only[World.mk.injEq,true_and,and_true]
     exact⟨hh,hd⟩
section
variable{α:Type}[Inhabited α]{γ:aw}{w:World}{j b:Nat}
theorem gM(enc:α->Value)(hb:is j (γ b))(m:Nat)(d:Array α)(os:Array Obj):aZ (is j) γ w γ (sortWorld enc w b 0 m d os):=by
 refine⟨rfl,rfl,rfl,?_,λ_ _ _=>rfl,λk hk hn=>?_,?_⟩
 · unfold sortWorld;rw[size_grow,Go.Sort.size_putRow];simp only[heap_ahead];omega
 · unfold sortWorld
   rw[heap_grow_old _ _ (by rw[Go.Sort.size_putRow];exact hk)]
   have:b≠k:=λe=>hn (by subst e;exact hb)
   simp[putRow,mapBlock,Array.getElem?_modify,this]
 · show w.drawn<=w.drawn+m
   omega
theorem i7(enc:α->Value){c:Array Value}{e:TypeId}{fr:Nat×Nat}(h:w.heap[b]? =some (.cells c e fr))(m:Nat)(d:Array α)(os:Array Obj):(sortWorld enc w b 0 m d os).heap[b]? =some (.cells (putCells enc 0 d c) e fr):=by
 unfold sortWorld
 rw[heap_grow_old _ _ (by rw[Go.Sort.size_putRow];exact cu h)]
 simp[putRow,mapBlock,Array.getElem?_modify,h,onCells]
theorem fY(enc:α->Value){d:Array α}{c:Array Value}{k:Nat}(h:k<d.size)(hc:k<c.size):(putCells enc 0 d c)[k]? =some (enc d[k]!):=by
 simp[putCells,h,hc]
end
theorem lj{P:Program}{ρ:Ren}(L:SlLaysF.n6 P ρ){α:Type}[Inhabited α](fe:α->Int)(cf:α->α->Int)(hO:SWO (ltOf cf))(g:Nat)(cb:Array Value)(eg:∀args w,(callFunc g args).run P w= .ok (.enter g args) w)
   {γ:aw}{w:World}{j:Nat}{v:Value}{ds:List α}(hne:ds≠[])(hl:Ow γ (is j) (is j) w v (ds.map fe))
   (hc:∀W,aZ (is j) γ w γ W->∀x y,Calls P g (#[.int .i64 (fe x),.int .i64 (fe y)]++cb) W λe w'=>e= .returned (.int .i64 (cf x y))/\ch W.heap.size W w'):
   Calls P (ρ.f 6) #[v,.func (.func g) #[] cb] w λe w'=>e= .returned (.tuple #[])/\∃ds':List α,ds'.Perm ds/\ds'.Pairwise (λx y=>ltOf cf y x=false)/\aZ (is j) γ w γ w'/\Ow γ (is j) (is j) w' v (ds'.map fe):=by
 rcases hl with⟨_,h⟩|⟨b,cap,c,e,rfl,hcap,hm,hJ,hb,hcs,hx⟩
 · simp at h;exact absurd h hne
 · simp only[List.length_map] at hcap
   have hsz1:Rp.sz Int=1:=rfl
   rw[hsz1,Nat.mul_one] at hcs
   have hbs:=cu hb
   have hlen:(ds.map fe).length=ds.toArray.size:=by simp
   have hget:∀i,i<ds.length->c[i]? =some (Value.int .i64 (fe ds.toArray[i]!)):=λi hi=>by
     obtain⟨cs,h1,h2⟩:=hx i (fe ds[i]) (by simp[hi])
     have h2:cs=[Value.int .i64 (fe ds[i])]:=h2
     have h1:=h1 0 (by decide)
     rw[h2] at h1
     simp only[hsz1,Nat.mul_one,Nat.add_zero] at h1
     rw[h1]
     simp[hi]
   have hH:Holds (λx:α=>Value.int .i64 (fe x)) w b 0 ds.toArray:=λi hi=>by
     have hi:i<ds.length:=by simpa using hi
     constructor
     · have:=hget i hi
       simp only[World.cell?,hb,Nat.zero_add]
       exact this
     · simp[World.frozen?,hb]
   have hcmp:CmpLays1 P g cb (λx:α=>Value.int .i64 (fe x)) cf b 0 ds.toArray.size w:=λm os dk hs x y=>
     (hc _ (gM _ hJ m dk os) x y).mono λe w' ⟨h1,h2⟩=>⟨h1,h2.grown⟩
   have fJ:=Any.slices_SortFunc L (λx:α=>Value.int .i64 (fe x)) (λ_=>rfl) cf hO g cb b 0 cap ds.toArray w eg hcmp hH hbs (by simp;omega)
   rw[hlen]
   refine fJ.mono λe' w' ⟨h1,d',n,os,hp,hs,hw⟩=>⟨h1,d'.toList,?_,?_,?_,?_⟩
   · obtain⟨q1,_,q3⟩:=hp
     rw[<-q1] at q3
     have e1:(d'.extract 0 d'.size)=d':=by simp
     rw[e1,q1] at q3
     have e2:(ds.toArray.extract 0 ds.toArray.size)=ds.toArray:=Array.extract_size
     rw[e2] at q3
     simpa using q3
   · rw[List.pairwise_iff_getElem]
     intro i k hi hk hik
     have hi:i<d'.size:=by simpa using hi
     have hk:k<d'.size:=by simpa using hk
     have:=hs i k (Nat.zero_le _) hik (by rw[<-hp.1];exact hk)
     rw[getElem!_pos d' k hk,getElem!_pos d' i hi] at this
     simpa using this
   · rw[hw];exact gM _ hJ n d' os
   · have hs':d'.size=ds.length:=by rw[hp.1];simp
     have hd:d'.toList.length=ds.length:=by simpa using hs'
     refine .inr ⟨b,cap,_,e,by rw[List.length_map,hd];simp,by rw[List.length_map,hd];exact hcap,hm,hJ,by rw[hw];exact i7 _ hb n d' os,by rw[hsz1,Nat.mul_one];simpa[putCells] using hcs,λi x hi=>?_⟩
     have hi':i<d'.size:=by
       have:=(List.getElem?_eq_some_iff.1 hi).1
       simpa using this
     refine⟨[Value.int .i64 x],λq hq=>?_,rfl⟩
     have:q=0:=by have:q<1:=hq;omega
     subst this
     rw[hsz1,Nat.mul_one,Nat.add_zero,fY _ hi' (by rw[hcs];omega),getElem!_pos d' _ hi']
     simp[hi'] at hi
     simp[hi]
end TL
/-
  TlSort2: the library's sort of numbers, met in this frame.
  By an AI agent.
-/
set_option linter.all false
namespace TL
open Go Go.Proofs Go.Shelf Go.Sort Go.Lib
theorem jI{P:Program}{ρ:Ren}(L:Lays.n189 P ρ)(hN:∀w:World,Calls P (ρ.f 189) #[.slice none 0 0] w λe w'=>e= .returned (.tuple #[])/\ch w.heap.size w w')
   {γ:aw}{w:World}{j:Nat}{v:Value}{zs:List Int}(hl:Ow γ (is j) (is j) w v zs):
   Calls P (ρ.f 189) #[v] w λe w'=>e= .returned (.tuple #[])/\aZ (is j) γ w γ w'/\Ow γ (is j) (is j) w' v (zs.mergeSort λx y=>decide (x<=y)):=by
 rcases hl with⟨rfl,rfl⟩|⟨b,cap,c,e,rfl,hcap,hm,hJ,hb,hcs,hx⟩
 · refine(hN w).mono λe w' ⟨h1,h2⟩=>⟨h1,?_,?_⟩
   · exact⟨h2.os,h2.tape,h2.output,h2.size,λ_ _ _=>rfl,λk hk _=>h2.block k hk,h2.drawn⟩
   · rw[show([]:List Int).mergeSort (λx y=>decide (x<=y))=[] from by simp]
     exact .inl ⟨rfl,rfl⟩
 · have hsz1:Rp.sz Int=1:=rfl
   rw[hsz1,Nat.mul_one] at hcs
   have hbs:=cu hb
   have hget:∀i,i<zs.length->c[i]? =some (Value.int .i64 zs.toArray[i]!):=λi hi=>by
     obtain⟨cs,h1,h2⟩:=hx i zs[i] (by simp[hi])
     have h2:cs=[Value.int .i64 zs[i]]:=h2
     have h1:=h1 0 (by decide)
     rw[h2] at h1
     simp only[hsz1,Nat.mul_one,Nat.add_zero] at h1
     rw[h1]
     simp[hi]
   have hH:Holds (Value.int .i64) w b 0 zs.toArray:=λi hi=>by
     have hi:i<zs.length:=by simpa using hi
     constructor
     · have:=hget i hi
       simp only[World.cell?,hb,Nat.zero_add]
       exact this
     · simp[World.frozen?,hb]
   have fJ:=Any.slices_Sort_int L b 0 cap zs w hH hbs (by omega)
   refine fJ.mono λe' w' ⟨h1,n,os,hw⟩=>⟨h1,?_,?_⟩
   · rw[hw];exact gM _ hJ n _ os
   · have hd:(zs.mergeSort λx y=>decide (x<=y)).length=zs.length:=List.length_mergeSort _
     generalize(zs.mergeSort λx y=>decide (x<=y))=ds at hd hw
     refine .inr ⟨b,cap,_,e,by rw[hd],by rw[hd];exact hcap,hm,hJ,by rw[hw];exact i7 (Value.int .i64) hb n ds.toArray os,by rw[hsz1,Nat.mul_one];simpa[putCells] using hcs,λi x hi=>?_⟩
     have hi':i<ds.length:=(List.getElem?_eq_some_iff.1 hi).1
     refine⟨[Value.int .i64 x],λq hq=>?_,rfl⟩
     have:q=0:=by have:q<1:=hq;omega
     subst this
     rw[hsz1,Nat.mul_one,Nat.add_zero,fY _ (by simpa using hi') (by rw[hcs];omega),getElem!_pos ds.toArray _ (by simpa using hi')]
     simp[hi'] at hi
     simp[hi]
end TL
/-
  TlPost: what is owed behind a law that returns true and writes nothing of the caller's.
  By an AI agent.
-/
namespace TL
open Go Go.Proofs Go.ChangeShapes Go.WideShapes Go.RowKit
def kF(P:Program)(ts:List TypeId):Bool:=ts.all λt=>P.readableRec t&&decide (t<P.types.size)
theorem ic{H:Type}{enc:TypeId×Value->H}{P:Program}(hl:laidOutB P=true){W W':World}(hb:Below W.heap.size W W')(sp:Nat->Bool):
   ∀{ts:List TypeId} {vs:List Value} {ds:List (DataW H)} {ps:List MemPlace},kF P ts=true->DataW.TrodAll enc P W 0 (λ_=>true) true ts vs ds ps->(∀p∈ps,p.block<W.heap.size)->(∀p∈ps,sp p.block=true)->DataW.TrodAll enc P W' 0 sp true ts vs ds ps
 |[],[],[],_,_,h,_,_=>h
 |[],[],_::_,_,_,h,_,_=>h.elim
 |[],_::_,_,_,_,h,_,_=>by cases‹List (DataW H)›<;>exact h.elim
 |_::_,[],_,_,_,h,_,_=>by cases‹List (DataW H)›<;>exact h.elim
 |_::_,_::_,[],_,_,h,_,_=>h.elim
 |t::ts,v::vs,d::ds,ps,hr,h,hlt,hsp=>by
   obtain⟨p,q,h1,h2,rfl⟩:=h
   simp only[kF,List.all_cons,Bool.and_eq_true,decide_eq_true_eq] at hr
   exact⟨p,q,WideElems.Trod_stays hl hr.1.1 hr.1.2 h1 (λx hx=>hb.same (hlt x (by simp[hx]))) (λx hx=>hsp x (by simp[hx])),
     ic hl hb sp hr.2 h2 (λx hx=>hlt x (by simp[hx])) (λx hx=>hsp x (by simp[hx])),rfl⟩
theorem lI{H:Type}{enc:TypeId×Value->H}{P:Program}{f:Func}{s:ChangeSpec}{W W':World}{args:Array Value}{ds gs:List (DataW H)}{before:List MemPlace}{tb:TypeId}
   (hl:laidOutB P=true)(hr:kF P f.params.toList=true)(hv:s.vars=[])(hrt:f.resultTypes= #[tb])(htb:P.underlying tb=some .bool)
   (hW:DataW.Whole enc P f.params.toList s.vars false W args.toList ds gs before)(hfn:s.fn H (ds++gs)={results:=[.lit (.bool true)],args:=ds})(hB:Below W.heap.size W W'):
   s.post enc P f false true false false W args (.bool true) W':=by
 have hlt:=hW.lt
 have hW0:=hW
 obtain⟨p,q,hA,hV,rfl,hfz,_⟩:=hW
 rw[hv] at hV
 obtain⟨rfl,rfl⟩:=trodVars_none hV
 simp only[List.append_nil] at hlt hfz hW0 hfn
 have hres:∀(b:Nat) (sp:Nat->Bool) (hd:Bool),DataW.TrodAll enc P W' b sp hd f.resultTypes.toList ((Value.bool true).resultList f.resultTypes.size) (s.fn H (ds++[])).results []:=λb sp hd=>by
   rw[hrt,List.append_nil,hfn]
   exact trodAll_cons_mk (shut_bool htb true) trodAll_mk0
 have hargs:∀sp:Nat->Bool,(∀x∈p,sp x.block=true)->DataW.TrodAll enc P W' 0 sp true f.params.toList args.toList (s.fn H (ds++[])).args p:=λsp hsp=>by
   rw[List.append_nil,hfn]
   exact ic hl hB sp hr hA hlt hsp
 have hvars:∀sp:Nat->Bool,DataW.TrodVars enc P W' sp s.vars (s.fn H (ds++[])).vars []:=λsp=>by
   rw[List.append_nil,hfn,hv]
   rfl
 refine⟨ds,[],p,[],p,[],hW0,hres _ _ _,hargs _ (λx hx=>by simpa using hlt x hx),hvars _,World.keptBut_mono (λx hx=>⟨hx,Or.inr (by simpa using hx)⟩) (hB.frame _),λ_=>?_⟩
 refine⟨?_,_,_,([]++p)++[],⟨[]++p,[],trodAll_append (hargs _ (λ_ _=>rfl)) (hres _ _ _),hvars _,rfl,?_,?_⟩,?_⟩
 · exact ok_one hrt rfl (okWide_bool_mk htb true)
 · intro b off hp
   have hp':MemPlace.cell b off∈p:=by simpa using hp
   rw[hB.frozen (p:=⟨b,off,none⟩) (hlt _ hp')]
   exact hfz b off hp'
 · intro ha;cases ha
 · intro x hx _
   simpa using hx
end TL
