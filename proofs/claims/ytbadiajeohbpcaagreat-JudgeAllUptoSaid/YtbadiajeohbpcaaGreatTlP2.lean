/- Plain texts of this claim, part 2. By an AI agent. -/
import Derived.Test.YtbadiajeohbpcaaGreatTlP1
import Derived.Shelf.SlSortCmp.Whole1
/-
  TlGeomX: polylines: the document's way and the code's.
  By an AI agent.
-/
set_option linter.all false
namespace TL
section
variable{a b c d:Pt}
theorem fW{u v w:Pt}(hw:w≠(0,0))(h1:fM u w)(h2:fM v w):fM u v:=by
 obtain⟨s1,s2⟩:=iG h1
 obtain⟨t1,t2⟩:=iG h2
 have hn:=pN hw
 generalize hN:w.1*w.1+w.2*w.2=N at*
 have hN0:N≠0:=λe=>by rw[e] at hn;simp at hn
 unfold fM
 have:N*(N*(u.1*v.2))=N*(N*(u.2*v.1)):=by
   have f1:N*(N*(u.1*v.2))=(u.1*N)*(v.2*N):=by grind
   have f2:N*(N*(u.2*v.1))=(u.2*N)*(v.1*N):=by grind
   rw[f1,f2,s1,s2,t1,t2];grind
 exact Int.eq_of_mul_eq_mul_left hN0 (Int.eq_of_mul_eq_mul_left hN0 this)
theorem sf{u v:Pt}(h:fM u v):fM v u:=by unfold fM at*;grind
theorem xA{e e':Pt}(b1:cG a b c d e)(b2:cG a b c d e')(hne:e≠e'):bG a b c=0/\bG a b d=0/\bG c d a=0/\bG c d b=0:=by
  have hw:aY e' e≠(0,0):=λe0=>hne (fc.1 e0).symm
  have seg:∀{a b:Pt},cF a b e->cF a b e'->fM (aY b a) (aY e' e)/\fM (aY e a) (aY e' e):=λ {a b} k1 k2=>by
    have p1:=dD.1 k1.1
    have p2:=dD.1 k2.1
    by_cases hab:a=b
    · subst hab
      have x1:=k1.2
      have x2:=k2.2
      unfold jy at x1 x2
      exact absurd (Prod.ext (by omega) (by omega):e=e') hne
    · have hba:aY b a≠(0,0):=λe0=>hab (fc.1 e0).symm
      have p3:fM (aY e' e) (aY b a):=fR p2 (i2 p1)
      exact⟨sf p3,fW hba p1 p3⟩
  obtain⟨a1,a2⟩:=seg b1.1 b2.1
  obtain⟨c1,c2⟩:=seg b1.2 b2.2
  have ca:fM (aY c a) (aY e' e):=fR (i2 c2) a2
  have da:fM (aY d a) (aY e' e):=fR c1 ca
  have ac:fM (aY a c) (aY e' e):=i2 ca
  have bc:fM (aY b c) (aY e' e):=fR a1 ac
  exact⟨dD.2 (fW hw ca a1),dD.2 (fW hw da a1),dD.2 (fW hw ac c1),dD.2 (fW hw bc c1)⟩
theorem tL{w x:Pt}(h:n8 [a,b,c,d] w)(hx:cF a b x):n8 [x,a,b,c,d] w:=by
 have hxa:fM (aY x a) w/\(w=(0,0)->x=a):=by
   by_cases hab:a=b
   · subst hab
     have x1:=hx.2
     unfold jy at x1
     have:x=a:=Prod.ext (by omega) (by omega)
     subst this
     exact⟨iB _ _,λ_=>rfl⟩
   · have hba:aY b a≠(0,0):=λe0=>hab (fc.1 e0).symm
     have p1:=dD.1 hx.1
     have p2:=h.pr b (by simp) a (by simp)
     refine⟨fW hba p1 (sf p2),λe=>absurd (h.one e b (by simp) a (by simp)).symm hab⟩
 refine n8.base (o:=a) (λp hp=>?_) (λe p hp=>?_)
 · rcases List.mem_cons.1 hp with rfl|hp
   · exact hxa.1
   · exact h.pr p hp a (by simp)
 · rcases List.mem_cons.1 hp with rfl|hp
   · exact hxa.2 e
   · exact h.one e p hp a (by simp)
theorem sr(ha:dH a)(hb:dH b)(hc:dH c)(hd:dH d)(hm:bx a b c d=2){e x:Pt}(hme:e∈[a,b,c,d])(he:cG a b c d e)(hx:cG a b c d x):x=e:=by
  refine Classical.byContradiction λhne=>?_
  obtain⟨z1,z2,z3,z4⟩:=xA hx he hne
  obtain⟨w,hw⟩:=tY z1 z2 z3 z4
  have hl:eY (Dw w a) (Dw w b) (Dw w c) (Dw w d)=2:=by
    rw[<-uV ha hb hc hd hw,<-hm]
    unfold bx
    rw[if_pos ⟨z1,z2,z3,z4⟩]
  have hw2:=tL hw hx.1
  have k1:=(rt hw2 (a:=a) (b:=b) (p:=x) (by simp) (by simp) (by simp)).1 hx.1.2
  have k2:=(rt hw2 (a:=c) (b:=d) (p:=x) (by simp) (by simp) (by simp)).1 hx.2.2
  have k3:=(ug z1 z2 z3 z4 hw hme).1 he
  have heq:Dw w x=Dw w e:=by
    unfold eY at hl
    by_cases c1:min (max (Dw w a) (Dw w b)) (max (Dw w c) (Dw w d))<max (min (Dw w a) (Dw w b)) (min (Dw w c) (Dw w d))
    · rw[if_pos c1] at hl;simp at hl
    · rw[if_neg c1] at hl
      by_cases c2:min (max (Dw w a) (Dw w b)) (max (Dw w c) (Dw w d))=max (min (Dw w a) (Dw w b)) (min (Dw w c) (Dw w d))
      · omega
      · rw[if_neg c2] at hl;simp at hl
  exact hne (hw2.inj (by simp) (List.mem_cons_of_mem _ hme) heq)
theorem rq(ha:dH a)(hb:dH b)(hc:dH c)(hd:dH d){e:Pt}(hme:e∈[a,b,c,d])(he:cG a b c d e):bx a b c d=2\/bx a b c d=3:=by
 rcases kF ha hb hc hd with⟨_,_,h3⟩|⟨_,h2⟩|⟨h1,_⟩|⟨h1,_⟩
 · exact absurd he (h3 e hme)
 · exact absurd he (qt h2 hme)
 · exact .inl h1
 · exact .inr h1
end
section
variable{ps:List Pt}{i k:Nat}
theorem zs(hp:dy ps)(hi:(i:Int)<=(ps.length:Int)-2)(hk:(k:Int)<=(ps.length:Int)-2)(hj:eU ps i k):Ao ps i k=2\/Ao ps i k=3:=by
 have bd:∀j:Int,0<=j->j<ps.length->dH (gI ps j):=λj h0 h1=>(hp.2 _ (bk h0 h1)).bd
 unfold Ao
 have b1:=bd (i:Int) (by omega) (by omega)
 have b2:=bd ((i:Int)+1) (by omega) (by omega)
 have b3:=bd (k:Int) (by omega) (by omega)
 have b4:=bd ((k:Int)+1) (by omega) (by omega)
 rcases hj with e|⟨e,e2,_,e4⟩
 · subst e
   have e0:((i+1:Nat):Int)=(i:Int)+1:=by omega
   rw[e0] at b3 b4 ⊢
   exact rq b1 b2 b3 b4 (e:=gI ps ((i:Int)+1)) (by simp) ⟨(fG _ _).2,(fG _ _).1⟩
 · subst e
   have e5:gI ps ((k:Int)+1)=gI ps 0:=by rw[show(k:Int)+1=(ps.length:Int)-1 by omega];exact e4.symm
   exact rq b1 b2 b3 b4 (e:=gI ps ((0:Nat):Int)) (by simp) ⟨(fG _ _).1,by rw[e5];exact(fG _ _).2⟩
theorem uH(hp:dy ps)(hi:(i:Int)<=(ps.length:Int)-2)(hk:(k:Int)<=(ps.length:Int)-2)(hj:eU ps i k)(hm:¬bx (gI ps (i:Int)) (gI ps ((i:Int)+1)) (gI ps (k:Int)) (gI ps ((k:Int)+1))=2):fh ps i k:=
 .inl ⟨hj,(zs hp hi hk hj).resolve_left hm⟩
theorem oG(hj:eU ps i k)(hm:bx (gI ps (i:Int)) (gI ps ((i:Int)+1)) (gI ps (k:Int)) (gI ps ((k:Int)+1))=2):¬fh ps i k:=
 uE hj (by rw[hm];decide)
theorem vT(h1:(i:Int)=0)(h2:(k:Int)=(ps.length:Int)-1-1)(h3:3<=(ps.length:Int)-1)(h4:gI ps 0=gI ps ((ps.length:Int)-1)):eU ps i k:=.inr ⟨by omega,by omega,by omega,h4⟩
theorem oK(h:¬(k:Int)=(i:Int)+1)(h1:¬(k:Int)=(ps.length:Int)-1-1):¬eU ps i k:=nE h (by omega)
theorem rd(h:¬(k:Int)=(i:Int)+1)(h1:¬3<=(ps.length:Int)-1):¬eU ps i k:=by
 rintro(c|⟨_,_,c,_⟩)<;>omega
theorem qM(h:¬(k:Int)=(i:Int)+1)(h1:¬gI ps 0=gI ps ((ps.length:Int)-1)):¬eU ps i k:=by
 rintro(c|⟨_,_,_,c⟩)
 · omega
 · exact h1 c
theorem x5{i:Nat}(h0:∀j:Nat,(j:Int)<(ps.length:Int)-1->gI ps (j:Int)≠gI ps ((j:Int)+1))(h:∀j:Nat,j<i->∀k:Nat,j<k->(k:Int)<(ps.length:Int)-1->¬fh ps j k)(hi:¬(i:Int)<(ps.length:Int)-1):true=decide (fp ps):=
 (decide_eq_true λj hj hj2=>⟨h0 j (by omega),λk hk hjk hk2=>h j (by omega) k hjk (by omega)⟩).symm
end
def lI(but:List Pt)(s t:Sg):Prop:=bx s.1 s.2 t.1 t.2=3\/(bx s.1 s.2 t.1 t.2=1/\¬∃x∈but,cG s.1 s.2 t.1 t.2 x)\/((bx s.1 s.2 t.1 t.2≠0/\bx s.1 s.2 t.1 t.2≠1)/\∃e∈[s.1,s.2,t.1,t.2],cG s.1 s.2 t.1 t.2 e/\e∉but)
instance (but:List Pt)(s t:Sg):Decidable (lI but s t):=by unfold lI;infer_instance
def eG(p q but:List Pt):Prop:=∃s∈aE p,∃t∈aE q,lI but s t
instance (p q but:List Pt):Decidable (eG p q but):=by unfold eG;infer_instance
section
variable{p q B:List Pt}
end
end TL
namespace TL
section
variable{p q but:List Pt}{i k:Nat}
theorem np(hi:(i:Int)<(aE p).length)(hk:(k:Int)<(aE q).length)(h:lI but (gI (aE p) (i:Int)) (gI (aE q) (k:Int))):true=decide (eG p q but):=
 (decide_eq_true ⟨_,bk (by omega) hi,_,bk (by omega) hk,h⟩).symm
theorem zN(h:∀j:Nat,j<i->∀t∈aE q,¬lI but (gI (aE p) (j:Int)) t)(hi:¬(i:Int)<(aE p).length):false=decide (eG p q but):=
 (decide_eq_false λ⟨s,hs,t,ht,hb⟩=>by
   obtain⟨j,hj,rfl⟩:=List.mem_iff_getElem.1 hs
   have:=h j (by omega) t ht
   have e:gI (aE p) (j:Int)=(aE p)[j]:=by unfold gI;rw[Int.toNat_natCast,List.getD_eq_getElem?_getD,List.getElem?_eq_getElem hj];rfl
   rw[e] at this
   exact this hb).symm
theorem xq{s:Sg}(h:∀j:Nat,j<k->¬lI but s (gI (aE q) (j:Int)))(hk:¬(k:Int)<(aE q).length):∀t∈aE q,¬lI but s t:=λt ht=>by
 obtain⟨j,hj,rfl⟩:=List.mem_iff_getElem.1 ht
 have:=h j (by omega)
 have e:gI (aE q) (j:Int)=(aE q)[j]:=by unfold gI;rw[Int.toNat_natCast,List.getD_eq_getElem?_getD,List.getElem?_eq_getElem hj];rfl
 rwa[e] at this
variable{s t:Sg}
def il(s t:Sg)(but:List Pt)(k:Nat):Bool:=vV (λx=>decide (cG s.1 s.2 t.1 t.2 x)) but k
theorem tz{f:Pt->Bool}{ps:List Pt}:∀{k:Nat},vV f ps k=true->∃j:Nat,j<k/\f (gI ps (j:Int))=true
 |0,h=>by simp[vV] at h
 |k+1,h=>by
   unfold vV at h
   rcases Bool.or_eq_true _ _▸h with h|h
   · obtain⟨j,hj,e⟩:=tz h
     exact⟨j,by omega,e⟩
   · exact⟨k,by omega,h⟩
theorem rG{j:Nat}(hj:¬(j:Int)<but.length)(hj2:j<=but.length):il s t but j=true↔∃x∈but,cG s.1 s.2 t.1 t.2 x:=by
 unfold il
 constructor
 · intro h
   obtain⟨i,hi,e⟩:=tz h
   exact⟨_,bk (by omega) (by omega),of_decide_eq_true e⟩
 · rintro⟨x,hx,h⟩
   obtain⟨i,hi,rfl⟩:=List.mem_iff_getElem.1 hx
   have e:gI but (i:Int)=but[i]:=by unfold gI;rw[Int.toNat_natCast,List.getD_eq_getElem?_getD,List.getElem?_eq_getElem hi];rfl
   exact oR (j:=i) (by omega) (by rw[e];exact decide_eq_true h)
theorem AC{j:Nat}{b:Bool}(h:b=il s t but j)(hb:b=true):true=il s t but (j+1):=by
 unfold il at h ⊢;rw[vV,<-h,hb];rfl
theorem As{j:Nat}{b:Bool}(h:b=il s t but j)(hb:¬b=true)(h1:decide (cF s.1 s.2 (gI but (j:Int)))=true):decide (cF t.1 t.2 (gI but (j:Int)))=il s t but (j+1):=by
 unfold il at h ⊢;rw[vV,<-h,Bool.eq_false_iff.2 hb,Bool.false_or,decide_eq_decide]
 exact⟨λh2=>⟨of_decide_eq_true h1,h2⟩,λh2=>h2.2⟩
theorem AJ{j:Nat}{b:Bool}(h:b=il s t but j)(hb:¬b=true)(h1:¬decide (cF s.1 s.2 (gI but (j:Int)))=true):false=il s t but (j+1):=by
 unfold il at h ⊢;rw[vV,<-h,Bool.eq_false_iff.2 hb,Bool.false_or]
 exact(decide_eq_false λh2=>h1 (decide_eq_true h2.1)).symm
theorem vZ(h:bx s.1 s.2 t.1 t.2=3):lI but s t:=.inl h
theorem Bd(h:bx s.1 s.2 t.1 t.2=0):¬lI but s t:=by
 unfold lI;rw[h];simp
theorem Be(h:bx s.1 s.2 t.1 t.2=1){j:Nat}(hj:¬(j:Int)<but.length)(hj2:j<=but.length){b:Bool}(hb:b=il s t but j)(h1:¬b=true):lI but s t:=
 .inr (.inl ⟨h,λhe=>h1 (hb.trans ((rG hj hj2).2 he))⟩)
theorem AV(h:bx s.1 s.2 t.1 t.2=1){j:Nat}(hj:¬(j:Int)<but.length)(hj2:j<=but.length){b:Bool}(hb:b=il s t but j)(h1:b=true):¬lI but s t:=by
 have he:=(rG (s:=s) (t:=t) hj hj2).1 (by rw[<-hb];exact h1)
 unfold lI;rw[h]
 rintro(c|⟨_,c⟩|⟨⟨_,c⟩,_⟩)
 · omega
 · exact c he
 · exact c rfl
theorem Bf(h0:¬bx s.1 s.2 t.1 t.2=0)(h1:¬bx s.1 s.2 t.1 t.2=1){j:Nat}(hj:(j:Int)<4)(k1:decide (cF s.1 s.2 (gI [s.1,s.2,t.1,t.2] (j:Int)))=true)(k2:decide (cF t.1 t.2 (gI [s.1,s.2,t.1,t.2] (j:Int)))=true)(k3:¬decide (gI [s.1,s.2,t.1,t.2] (j:Int)∈but)=true):lI but s t:=
 .inr (.inr ⟨⟨h0,h1⟩,_,bk (by omega) (by simpa using hj),⟨of_decide_eq_true k1,of_decide_eq_true k2⟩,λh=>k3 (decide_eq_true h)⟩)
def gD(but:List Pt)(s t:Sg)(j:Nat):Prop:=∀i:Nat,i<j->¬(cG s.1 s.2 t.1 t.2 (gI [s.1,s.2,t.1,t.2] (i:Int))/\gI [s.1,s.2,t.1,t.2] (i:Int)∉but)
theorem gD.a{j:Nat}(h:gD but s t j)(k1:¬decide (cF s.1 s.2 (gI [s.1,s.2,t.1,t.2] (j:Int)))=true):gD but s t (j+1):=λi hi=>by
 by_cases e:i=j
 · subst e;exact λhb=>k1 (decide_eq_true hb.1.1)
 · exact h i (by omega)
theorem gD.b{j:Nat}(h:gD but s t j)(k1:¬decide (cF t.1 t.2 (gI [s.1,s.2,t.1,t.2] (j:Int)))=true):gD but s t (j+1):=λi hi=>by
 by_cases e:i=j
 · subst e;exact λhb=>k1 (decide_eq_true hb.1.2)
 · exact h i (by omega)
theorem gD.c{j:Nat}(h:gD but s t j)(k1:decide (gI [s.1,s.2,t.1,t.2] (j:Int)∈but)=true):gD but s t (j+1):=λi hi=>by
 by_cases e:i=j
 · subst e;exact λhb=>hb.2 (of_decide_eq_true k1)
 · exact h i (by omega)
theorem B2(h3:¬bx s.1 s.2 t.1 t.2=3)(h1:¬bx s.1 s.2 t.1 t.2=1){j:Nat}(hj:¬(j:Int)<4)(h:gD but s t j):¬lI but s t:=by
 rintro(c|⟨c,_⟩|⟨_,e,he,hb,hno⟩)
 · exact h3 c
 · exact h1 c
 · obtain⟨i,hi,rfl⟩:=List.mem_iff_getElem.1 he
   have e2:gI [s.1,s.2,t.1,t.2] (i:Int)=[s.1,s.2,t.1,t.2][i]:=by unfold gI;rw[Int.toNat_natCast,List.getD_eq_getElem?_getD,List.getElem?_eq_getElem hi];rfl
   have h4:i<4:=by simpa using hi
   exact h i (by omega) ⟨by rw[e2];exact hb,by rw[e2];exact hno⟩
theorem xR{α:Type}[Inhabited α](xs:List α)(m:α):gI (xs++[m]) (xs.length:Int)=m:=by
 unfold gI;simp[List.getD_eq_getElem?_getD]
end
end TL
/-
  TlAround: points round another one: the order, its laws, the list that is sorted by it.
  By an AI agent.
-/
set_option linter.all false
namespace TL
def tl(p:Pt):Int:=p.1*p.1+p.2*p.2
def Up(p:Pt):Prop:=0<p.1\/p.1=0/\0<p.2
theorem zG(u v w:Pt):v.1*dQ u w=w.1*dQ u v+u.1*dQ v w:=by
 unfold dQ;grind
theorem jO(u v:Pt):dQ v u= -dQ u v:=by unfold dQ;grind
theorem wZ(u:Pt):dQ u u=0:=by unfold dQ;grind
theorem tu{u v w:Pt}(hu:Up u)(hv:Up v)(hw:Up w)(c1:dQ u v<=0)(c2:dQ v w<=0):dQ u w<=0/\(dQ u v<0\/dQ v w<0->dQ u w<0):=by
 have hid:=zG u v w
 have hu0:0<=u.1:=by rcases hu with h|h<;>omega
 have hw0:0<=w.1:=by rcases hw with h|h<;>omega
 rcases hv with hv|⟨hv,hv2⟩
 · have hw1:0<w.1:=by
     rcases hw with h|⟨h,h2⟩
     · exact h
     · exfalso
       have:dQ v w=v.1*w.2:=by unfold dQ;rw[h];omega
       have:=Int.mul_pos hv h2
       omega
   have k1:w.1*dQ u v<=0:=Int.mul_nonpos_of_nonneg_of_nonpos hw0 c1
   have k2:u.1*dQ v w<=0:=Int.mul_nonpos_of_nonneg_of_nonpos hu0 c2
   refine⟨?_,?_⟩
   · refine Int.not_lt.1 λh=>?_
     have:=Int.mul_pos hv h
     omega
   · intro hs
     refine Int.not_le.1 λh=>?_
     have k3:0<=v.1*dQ u w:=Int.mul_nonneg (by omega) h
     rcases hs with hs|hs
     · have:=Int.mul_neg_of_pos_of_neg hw1 hs
       omega
     · rcases hu with hu|⟨hu,hu2⟩
       · have:=Int.mul_neg_of_pos_of_neg hu hs
         omega
       · have e:dQ u w= -(u.2*w.1):=by unfold dQ;rw[hu];omega
         have:=Int.mul_pos hu2 hw1
         omega
 · have e1:dQ u v=u.1*v.2:=by unfold dQ;rw[hv];omega
   have hu1:u.1=0:=by
     rcases hu with h|h
     · have:=Int.mul_pos h hv2
       omega
     · exact h.1
   have hu2:0<u.2:=by rcases hu with h|h<;>omega
   have e2:dQ u w= -(u.2*w.1):=by unfold dQ;rw[hu1];omega
   have e3:dQ v w= -(v.2*w.1):=by unfold dQ;rw[hv];omega
   have k1:=Int.mul_nonneg (Int.le_of_lt hu2) hw0
   refine⟨by omega,?_⟩
   rintro(h|h)
   · rw[e1,hu1] at h;omega
   · have:0<w.1:=by
       rcases hw with h'|h'
       · exact h'
       · rw[e3,h'.1] at h;omega
     have:=Int.mul_pos hu2 this
     omega
def nz(p:Pt):Prop:=¬(p.1=0/\p.2=0)
def pL(p:Pt):Pt:=(-p.1,-p.2)
theorem l5(u v:Pt):dQ (pL u) (pL v)=dQ u v:=by unfold dQ pL;grind
theorem ll{p:Pt}(h:nz p):(bm p=0/\Up p)\/(bm p=1/\Up (pL p)):=by
 unfold bm Up pL
 unfold nz at h
 split
 · exact .inl ⟨rfl,by assumption⟩
 · refine .inr ⟨rfl,?_⟩
   dsimp
   omega
theorem vC{u v w:Pt}(hu:nz u)(hv:nz v)(hw:nz w)(h1:bm u=bm v)(h2:bm v=bm w)(c1:dQ u v<=0)(c2:dQ v w<=0):dQ u w<=0/\(dQ u v<0\/dQ v w<0->dQ u w<0):=by
 rcases ll hu with⟨a1,a2⟩|⟨a1,a2⟩<;>rcases ll hv with⟨b1,b2⟩|⟨b1,b2⟩<;>rcases ll hw with⟨d1,d2⟩|⟨d1,d2⟩<;>try (exfalso;omega)
 · exact tu a2 b2 d2 c1 c2
 · have:=tu a2 b2 d2 (by rw[l5];exact c1) (by rw[l5];exact c2)
   simpa only[l5] using this
def tk(a b:Pt)(i k:Int):Prop:=bm a<bm b\/bm a=bm b/\(dQ a b<0\/dQ a b=0/\(tl a<tl b\/tl a=tl b/\i<k))
theorem i6(a:Pt)(i:Int):¬tk a a i i:=by
 unfold tk;rw[wZ];omega
theorem z6{a b c:Pt}{i j k:Int}(ha:nz a)(hb:nz b)(hc:nz c)(h1:tk a b i j)(h2:tk b c j k):tk a c i k:=by
 unfold tk at*
 rcases h1 with h1|⟨h1,h1'⟩
 · rcases h2 with h2|⟨h2,_⟩
   · exact .inl (by omega)
   · exact .inl (by omega)
 · rcases h2 with h2|⟨h2,h2'⟩
   · exact .inl (by omega)
   · refine .inr ⟨by omega,?_⟩
     have t:=vC ha hb hc h1 h2 (by omega) (by omega)
     have t':=vC hc hb ha h2.symm h1.symm
     have a1:=jO a b
     have a2:=jO b c
     have a3:=jO a c
     rcases h1' with h1'|⟨h1',h1''⟩
     · exact .inl (t.2 (.inl h1'))
     · rcases h2' with h2'|⟨h2',h2''⟩
       · exact .inl (t.2 (.inr h2'))
       · have:=t' (by omega) (by omega)
         exact .inr ⟨by omega,by omega⟩
theorem lh{a b:Pt}{i k:Int}(h:i≠k):tk a b i k\/tk b a k i:=by
 unfold tk
 have:=jO a b
 omega
def vA(o:Pt)(ps:List Pt)(i:Int):Pt:=aY (gI ps i) o
def jW(o:Pt)(ps:List Pt)(i k:Int):Prop:=tk (vA o ps i) (vA o ps k) i k
def Ak(o:Pt)(ps:List Pt)(i k:Int):Int:=ls [bE (bm (vA o ps i)) (bm (vA o ps k)),bE (dQ (vA o ps i) (vA o ps k)) 0,bE (tl (vA o ps i)) (tl (vA o ps k)),bE i k]
theorem gZ{x y:Int}:bE x y<0↔x<y:=by unfold bE;split<;>(try split)<;>omega
theorem eA{x y:Int}:bE x y=0↔x=y:=by unfold bE;split<;>(try split)<;>omega
theorem A4{o:Pt}{ps:List Pt}{i k:Int}:Ak o ps i k<0↔jW o ps i k:=by
 unfold Ak jW tk
 generalize bm (vA o ps i)=a1
 generalize bm (vA o ps k)=a2
 generalize dQ (vA o ps i) (vA o ps k)=b1
 generalize tl (vA o ps i)=c1
 generalize tl (vA o ps k)=c2
 have q1:= @gZ a1 a2
 have q2:= @eA a1 a2
 have q3:= @gZ b1 0
 have q4:= @eA b1 0
 have q5:= @gZ c1 c2
 have q6:= @eA c1 c2
 have q7:= @gZ i k
 have q8:= @eA i k
 simp only[ls]
 split
 · split
   · split
     · split
       · omega
       · omega
     · omega
   · omega
 · omega
def jn(o:Pt)(ps:List Pt):Prop:=∀i:Nat,i<ps.length->gI ps (i:Int)≠o
theorem jn.nz{o:Pt}{ps:List Pt}(h:jn o ps){i:Int}(h0:0<=i)(h1:i<ps.length):nz (vA o ps i):=by
 have k:=h i.toNat (by omega)
 rw[Int.toNat_of_nonneg h0] at k
 intro⟨e1,e2⟩
 unfold vA aY at e1 e2
 simp only at e1 e2
 exact k (Prod.ext (by omega) (by omega))
def qK(o:Pt)(ps:List Pt)(k:Nat)(l:List Int):Prop:=l.Pairwise (jW o ps)/\∀x,x∈l↔0<=x/\x<(k:Int)
theorem tH{α:Type}{R:α->α->Prop}:∀{l1 l2:List α},(∀a,a∈l1->∀b,b∈l1->R a b->¬R b a)->l1.Pairwise R->l2.Pairwise R->(∀x,x∈l1↔x∈l2)->l1=l2
 |[],[],_,_,_,_=>rfl
 |[],b::t2,_,_,_,h=>by have:=(h b).2 (by simp);simp at this
 |a::t1,[],_,_,_,h=>by have:=(h a).1 (by simp);simp at this
 |a::t1,b::t2,ha,h1,h2,h=>by
   rw[List.pairwise_cons] at h1 h2
   have e:a=b:=by
     rcases List.mem_cons.1 ((h a).1 (by simp)) with e|m1
     · exact e
     · rcases List.mem_cons.1 ((h b).2 (by simp)) with e|m2
       · exact e.symm
       · exact absurd (h2.1 a m1) (ha a (by simp) b (by simp[m2]) (h1.1 b m2))
   subst e
   have n1:a∉t1:=λm=>ha a (by simp) a (by simp) (h1.1 a m) (h1.1 a m)
   have n2:a∉t2:=λm=>ha a (by simp) a (by simp) (h2.1 a m) (h2.1 a m)
   have:=tH (R:=R) (l1:=t1) (l2:=t2) (λx hx y hy=>ha x (by simp[hx]) y (by simp[hy])) h1.2 h2.2 λx=>by
     constructor
     · intro m
       rcases List.mem_cons.1 ((h x).1 (by simp[m])) with e|m'
       · subst e;exact absurd m n1
       · exact m'
     · intro m
       rcases List.mem_cons.1 ((h x).2 (by simp[m])) with e|m'
       · subst e;exact absurd m n2
       · exact m'
   rw[this]
section
variable{o:Pt}{ps:List Pt}{k:Nat}{l l':List Int}
theorem nH(hz:jn o ps){i j k:Int}(hi:0<=i/\i<ps.length)(hj:0<=j/\j<ps.length)(hk:0<=k/\k<ps.length)(h1:jW o ps i j)(h2:jW o ps j k):jW o ps i k:=
 z6 (hz.nz hi.1 hi.2) (hz.nz hj.1 hj.2) (hz.nz hk.1 hk.2) h1 h2
theorem vH(hz:jn o ps){i j:Int}(hi:0<=i/\i<ps.length)(hj:0<=j/\j<ps.length)(h1:jW o ps i j):¬jW o ps j i:=λh2=>i6 _ _ (nH hz hi hj hi h1 h2)
theorem ph(hz:jn o ps)(hk:k<=ps.length)(h:qK o ps k l)(h':qK o ps k l'):l=l':=
 tH (λa ha b hb h1=>vH hz (by have:=(h.2 a).1 ha;omega) (by have:=(h.2 b).1 hb;omega) h1) h.1 h'.1 λx=>(h.2 x).trans (h'.2 x).symm
theorem nt(hz:jn o ps)(hk:k<ps.length)(h:qK o ps k l){m:Nat}(hm:m<=l.length)(h1:∀j:Nat,m<=j->j<l.length->jW o ps (k:Int) (gI l (j:Int)))(h2:m=0\/¬jW o ps (k:Int) (gI l ((m:Int)-1))):
   qK o ps (k+1) (l.take m++(k:Int)::l.drop m):=by
 have hin:∀j:Nat,j<l.length->0<=gI l (j:Int)/\gI l (j:Int)<(k:Int):=λj hj=>(h.2 _).1 (bk (by omega) (by omega))
 constructor
 · have hs:(l.take m++l.drop m).Pairwise (jW o ps):=by rw[List.take_append_drop];exact h.1
   rw[List.pairwise_append] at hs ⊢
   refine⟨hs.1,?_,?_⟩
   · rw[List.pairwise_cons]
     refine⟨λx hx=>?_,hs.2.1⟩
     obtain⟨j,hj,rfl⟩:=List.mem_iff_getElem.1 hx
     rw[List.length_drop] at hj
     have:=h1 (m+j) (by omega) (by omega)
     rw[List.getElem_drop]
     have e:gI l ((m+j:Nat):Int)=l[m+j]:=by simp only[gI];rw[Int.toNat_natCast];simp[show m+j<l.length by omega]
     rwa[e] at this
   · intro x hx y hy
     rcases List.mem_cons.1 hy with rfl|hy
     · -- x lies ahead of m
       obtain⟨j,hj,rfl⟩:=List.mem_iff_getElem.1 hx
       have hj':j<m/\j<l.length:=by rw[List.length_take] at hj;omega
       rw[List.getElem_take]
       have e:∀q (hq:q<l.length),gI l (q:Int)=l[q]:=λq hq=>by simp only[gI];rw[Int.toNat_natCast];simp[hq]
       have hlast:jW o ps (gI l ((m:Int)-1)) (k:Int):=by
         have hb:=hin (m-1) (by omega)
         rw[show((m-1:Nat):Int)=(m:Int)-1 by omega] at hb
         rcases lh (a:=vA o ps (k:Int)) (b:=vA o ps (gI l ((m:Int)-1))) (i:=(k:Int)) (k:=gI l ((m:Int)-1)) (by omega) with q|q
         · exact absurd q (by rcases h2 with h2|h2;(· omega);(· exact h2))
         · exact q
       by_cases hjm:j=m-1
       · subst hjm
         rw[<-e _ hj'.2,show((m-1:Nat):Int)=(m:Int)-1 by omega]
         exact hlast
       · have hp:=List.pairwise_iff_getElem.1 h.1 j (m-1) hj'.2 (by omega) (by omega)
         rw[<-e _ hj'.2,<-e (m-1) (by omega)] at hp
         rw[<-e _ hj'.2]
         have b1:=hin j hj'.2
         have b2:=hin (m-1) (by omega)
         rw[show((m-1:Nat):Int)=(m:Int)-1 by omega] at hp b2
         exact nH hz (by omega) (by omega) (by omega) hp hlast
     · exact hs.2.2 x hx y hy
 · intro x
   have:x∈l.take m++(k:Int)::l.drop m↔x=(k:Int)\/x∈l:=by
     conv=>rhs;rw[<-List.take_append_drop m l]
     simp only[List.mem_append,List.mem_cons]
     constructor
     · rintro(h|h|h)<;>simp[h]
     · rintro(h|h|h)<;>simp[h]
   rw[this,h.2 x]
   omega
theorem ud(l:List Int)(P:Int->Prop):∀m:Nat,m<=l.length->(∀j:Nat,m<=j->j<l.length->P (gI l (j:Int)))->∃m':Nat,m'<=l.length/\(∀j:Nat,m'<=j->j<l.length->P (gI l (j:Int)))/\(m'=0\/¬P (gI l ((m':Int)-1)))
 |0,h0,h=>⟨0,h0,h,.inl rfl⟩
 |m+1,h0,h=>by
   by_cases hp:P (gI l (m:Int))
   · exact ud l P m (by omega) (λj hj hl=>by
       by_cases e:j=m
       · subst e;exact hp
       · exact h j (by omega) hl)
   · exact⟨m+1,h0,h,.inr (by rwa[show((m+1:Nat):Int)-1=(m:Int) by omega])⟩
theorem qB(hz:jn o ps):∀k:Nat,k<=ps.length->∃l,qK o ps k l
 |0,_=>⟨[],.nil,λx=>by simp⟩
 |k+1,hk=>by
   obtain⟨l,hl⟩:=qB hz k (by omega)
   obtain⟨m,h0,h1,h2⟩:=ud l (jW o ps (k:Int)) l.length (Nat.le_refl _) (λj hj h=>by omega)
   exact⟨_,nt hz (by omega) hl h0 h1 h2⟩
open Classical in
noncomputable def arL (o:Pt) (ps:List Pt):List Int:=if h:∃l,qK o ps ps.length l then choose h else[]
theorem kw(hz:jn o ps):qK o ps ps.length (arL o ps):=by
 have h:=qB hz ps.length (Nat.le_refl _)
 unfold arL
 rw[dif_pos h]
 exact Classical.choose_spec h
theorem uW(hz:jn o ps)(h:qK o ps ps.length l):l=arL o ps:=ph hz (Nat.le_refl _) h (kw hz)
end
def gx(n:Nat):List Int:=(List.range n).map λ(i:Nat)=>(i:Int)
theorem tQ(n:Nat):(gx n).length=n:=by simp[gx]
theorem th(n:Nat):gx (n+1)=gx n++[(n:Int)]:=by simp[gx,List.range_succ]
open Classical in
noncomputable def arR (o:Pt) (ps:List Pt):List Int×Int:=if(cC o/\dy ps)/\jn o ps then(arL o ps,0) else([],1)
theorem pX{o:Pt}{ps:List Pt}(h1:cC o)(h2:dy ps)(h3:jn o ps):arR o ps=(arL o ps,0):=if_pos ⟨⟨h1,h2⟩,h3⟩
theorem ku{o:Pt}{ps:List Pt}(h:¬((cC o/\dy ps)/\jn o ps)):arR o ps=([],1):=if_neg h
theorem ub{o:Pt}{ps:List Pt}{k:Nat}(h0:(k:Int)<ps.length)(h:gI ps (k:Int)=o):¬jn o ps:=λhz=>hz k (by omega) h
theorem uz{x:Int}(h1: -2097152<=x)(h2:x<=2097152):0<=x*x/\x*x<=4398046511104:=by
 have:=eT (x:=x) (y:=x) (by omega) (by omega)
 constructor
 · rcases Int.le_total 0 x with h|h
   · exact Int.mul_nonneg h h
   · exact Int.mul_nonneg_of_nonpos_of_nonpos h h
 · rcases Int.le_total 0 x with h|h
   · exact Int.mul_le_mul h2 h2 h (by omega)
   · have e:=Int.neg_mul_neg x x
     have:(-x)*(-x)<=2097152*2097152:=Int.mul_le_mul (by omega) (by omega) (by omega) (by omega)
     omega
theorem un{o:Pt}{ps:List Pt}{i:Int}(ho:cC o)(hp:dy ps)(h0:0<=i)(h1:i<ps.length):
   (-2097152<=(vA o ps i).1/\(vA o ps i).1<=2097152)/\ -2097152<=(vA o ps i).2/\(vA o ps i).2<=2097152:=by
 have:=hp.2 _ (bk h0 h1)
 unfold cC at this ho
 unfold vA aY
 simp only
 omega
theorem qN{o:Pt}{ps:List Pt}{i:Int}(ho:cC o)(hp:dy ps)(h0:0<=i)(h1:i<ps.length):
   ((0<=(vA o ps i).1*(vA o ps i).1/\(vA o ps i).1*(vA o ps i).1<=4398046511104)/\0<=(vA o ps i).2*(vA o ps i).2/\(vA o ps i).2*(vA o ps i).2<=4398046511104):=by
 have⟨⟨a,b⟩,c,d⟩:=un ho hp h0 h1
 exact⟨uz a b,uz c d⟩
def eJ(a b:Pt):Int:=if bm a=bm b then bE (dQ a b) 0 else bE (bm a-bm b) 0
section
variable{o:Pt}{ps:List Pt}{k:Nat}{l:List Int}{q:Int}
theorem kr(hq:q<(k:Int)):jW o ps (k:Int) q↔¬(0<eJ (vA o ps (k:Int)) (vA o ps q)\/eJ (vA o ps (k:Int)) (vA o ps q)=0/\tl (vA o ps q)<=tl (vA o ps (k:Int))):=by
 unfold jW tk eJ
 generalize bm (vA o ps (k:Int))=a1
 generalize bm (vA o ps q)=a2
 generalize dQ (vA o ps (k:Int)) (vA o ps q)=b1
 generalize tl (vA o ps (k:Int))=c1
 generalize tl (vA o ps q)=c2
 have q3:= @gZ b1 0
 have q4:= @eA b1 0
 have q5:= @gZ (a1-a2) 0
 have q6:= @eA (a1-a2) 0
 split<;>omega
theorem uQ{X:List Int}{m v:Int}(h0:0<=m)(h1:m<=l.length)(hX:X.length=l.length+1)(ha:∀j:Nat,(j:Int)<m->gI X (j:Int)=gI l (j:Int))(hb:∀j:Nat,m<(j:Int)->j<=l.length->gI X (j:Int)=gI l ((j:Int)-1)):
   List.set X (Int.toNat m) v=l.take m.toNat++v::l.drop m.toNat:=by
 apply List.ext_getElem?
 intro i
 rw[List.getElem?_set]
 by_cases e:m.toNat=i
 · rw[if_pos e,if_pos (by omega)]
   subst e
   rw[List.getElem?_append_right (by rw[List.length_take];omega)]
   simp[List.length_take,show min m.toNat l.length=m.toNat by omega]
 · rw[if_neg e]
   by_cases hi:i<X.length
   · have e1:X[i]? =some (gI X (i:Int)):=by simp[gI,hi]
     rw[e1]
     by_cases hlt:i<m.toNat
     · rw[ha i (by omega),List.getElem?_append_left (by rw[List.length_take];omega),List.getElem?_take_of_lt hlt]
       simp[gI,show i<l.length by omega]
     · rw[hb i (by omega) (by omega),List.getElem?_append_right (by rw[List.length_take];omega),List.length_take,show min m.toNat l.length=m.toNat by omega]
       obtain⟨d,hd⟩:∃d,i-m.toNat=d+1:=⟨i-m.toNat-1,by omega⟩
       rw[hd,List.getElem?_cons_succ,List.getElem?_drop]
       simp only[gI]
       rw[show((i:Int)-1).toNat=m.toNat+d by omega]
       simp[show m.toNat+d<l.length by omega]
   · rw[List.getElem?_eq_none (by omega),List.getElem?_eq_none (by simp;omega)]
theorem ny(hz:jn o ps)(hk:k<=ps.length)(h:qK o ps k l):l.length=k:=by
 induction k generalizing l with
 |zero=>
   cases l with
   |nil=>rfl
   |cons a t=>have:=(h.2 a).1 (by simp);omega
 |succ k ih=>
   obtain⟨l0,hl0⟩:=qB hz k (by omega)
   obtain⟨m,h0,h1,h2⟩:=ud l0 (jW o ps (k:Int)) l0.length (Nat.le_refl _) (λj hj h=>by omega)
   have:=ph hz hk h (nt hz (by omega) hl0 h0 h1 h2)
   have hl:=ih (by omega) hl0
   rw[this]
   simp[List.length_append,List.length_take,List.length_drop]
   omega
theorem lu(hz:jn o ps)(hk:k<ps.length)(h:qK o ps k l){m:Int}(h0:0<=m)(hm:m<=l.length)(h1:∀j:Nat,m<=(j:Int)->j<l.length->jW o ps (k:Int) (gI l (j:Int)))(h2:m=0\/¬jW o ps (k:Int) (gI l (m-1))){X:List Int}
   (hX:X.length=l.length+1)(ha:∀j:Nat,(j:Int)<m->gI X (j:Int)=gI l (j:Int))(hb:∀j:Nat,m<(j:Int)->j<=l.length->gI X (j:Int)=gI l ((j:Int)-1)):qK o ps (k+1) (List.set X (Int.toNat m) (k:Int)):=by
 rw[uQ h0 hm hX ha hb]
 refine nt hz hk h (by omega) (λj hj hl=>h1 j (by omega) hl) ?_
 rcases h2 with h2|h2
 · exact .inl (by omega)
 · exact .inr (by rwa[Int.toNat_of_nonneg h0])
end
theorem oN{o:Pt}{ps:List Pt}(hz:jn o ps){l:List Int}(hp:l.Perm (gx ps.length))(hs:l.Pairwise λx y=>¬jW o ps y x):l=arL o ps:=by
  refine uW hz ⟨?_,λx=>?_⟩
  · have hn:l.Nodup:=hp.nodup_iff.2 (by unfold gx;exact List.Pairwise.map _ (λ(a b:Nat) (h:a≠b) (e:(a:Int)=(b:Int))=>h (by omega)) List.nodup_range)
    refine(List.Pairwise.and hs hn).imp ?_
    intro x y ⟨h1,h2⟩
    rcases lh (a:=vA o ps x) (b:=vA o ps y) (i:=x) (k:=y) h2 with q|q
    · exact q
    · exact absurd q h1
  · rw[hp.mem_iff]
    unfold gx
    simp only[List.mem_map,List.mem_range]
    constructor
    · rintro⟨a,h,rfl⟩;omega
    · intro h
      exact⟨x.toNat,by omega,by omega⟩
def yq(l:List Int)(m k:Int)(X:List Int):Prop:=(m<=k/\k<=l.length)/\X.length=l.length+1/\(∀j:Nat,(j:Int)<k->gI X (j:Int)=gI l (j:Int))/\(∀j:Nat,k<(j:Int)->j<=l.length->gI X (j:Int)=gI l ((j:Int)-1))
theorem jv{l:List Int}{m k:Int}(h:m<=l.length)(hk:k=l.length):yq l m k (l++[0]):=by
 refine⟨⟨by omega,by omega⟩,by simp,λj hj=>?_,λj hj hl=>by omega⟩
 rw[tS,tS]
 simp[List.getD,List.getElem?_append_left (show j<l.length by omega)]
theorem jt{l X:List Int}{m k:Int}(h0:0<=m)(h:yq l m k X)(hk:m<k):yq l m (k-1) (List.set X (Int.toNat k) (gI X (k-1))):=by
 obtain⟨⟨h1,h2⟩,h3,h4,h5⟩:=h
 refine⟨⟨by omega,by omega⟩,by rw[List.length_set];exact h3,λj hj=>?_,λj hj hl=>?_⟩
 · rw[<-h4 j (by omega),fu (by omega) (by omega) (by omega),if_neg (by omega)]
 · by_cases e:(j:Int)=k
   · have e2:=h4 (k-1).toNat (by omega)
     rw[Int.toNat_of_nonneg (by omega)] at e2
     rw[e,<-e2]
     rw[fu (by omega) (by omega) (by omega),if_pos rfl]
   · rw[<-h5 j (by omega) hl,fu (by omega) (by omega) (by omega),if_neg (by omega)]
section
variable{o:Pt}{ps:List Pt}
theorem iV(hz:jn o ps):(arL o ps).length=ps.length:=ny hz (Nat.le_refl _) (kw hz)
theorem nL(hz:jn o ps){i:Int}(h0:0<=i)(h1:i<ps.length):0<=gI (arL o ps) i/\gI (arL o ps) i<(ps.length:Int):=
 ((kw hz).2 _).1 (bk h0 (by rw[iV hz];exact h1))
theorem zc(hz:jn o ps){i j:Int}(h0:0<=i)(hij:i<j)(h1:j<ps.length):jW o ps (gI (arL o ps) i) (gI (arL o ps) j):=by
 have hl:=iV hz
 have:=List.pairwise_iff_getElem.1 (kw hz).1 i.toNat j.toNat (by omega) (by omega) (by omega)
 have e1:=fI (xs:=arL o ps) (i:=i) h0 (by omega)
 have e2:=fI (xs:=arL o ps) (i:=j) (by omega) (by omega)
 rw[List.getElem?_eq_getElem (by omega)] at e1 e2
 rw[<-Option.some.inj e1,<-Option.some.inj e2]
 exact this
theorem zk(hz:jn o ps){i j:Int}(h0:0<=i)(hij:i<j)(h1:j<ps.length):gI (arL o ps) i≠gI (arL o ps) j:=λe=>by
 have:=zc hz h0 hij h1
 rw[e] at this
 exact i6 _ _ this
end
end TL
/-
  TlFace: half-edges' next ones, faces.
  By an AI agent.
-/
set_option linter.all false
namespace TL
end TL
namespace TL
theorem gQ.low{seen:List Bool}{P:List Int}{n h:Int}(hi:gQ seen P n)(h0:0<=h)(h1:h<n)(hs:¬gI seen h=true):h∉P:=by
 have:=hi.seen h h0 h1
 intro hm
 rw[this] at hs
 simp[hm] at hs
structure eF(out:List (List Int))(g:d5)(k:Nat):Prop where
  len:(out.length:Int)=g.1
  at_:∀v,0<=v->v<g.1->gI out v=jk g v k
theorem eF.start{g:d5}(h:0<=g.1):eF (List.replicate g.1.toNat []) g 0:=⟨by simp;omega,λv h0 h1=>by rw[ns h0 (by omega)];simp[jk]⟩
theorem eF.next{out:List (List Int)}{g:d5}{k:Nat}(h:eF out g k)(h1:0<=(gI g.2 k).1)(h2:(gI g.2 k).1<g.1)(h3:0<=(gI g.2 k).2)(h4:(gI g.2 k).2<g.1){a b:Int}(ha:a=2*(k:Int))(hb:b=2*(k:Int)+1):
   eF ((out.set (gI g.2 k).1.toNat (gI out (gI g.2 k).1++[a])).set (gI g.2 k).2.toNat (gI (out.set (gI g.2 k).1.toNat (gI out (gI g.2 k).1++[a])) (gI g.2 k).2++[b])) g (k+1):=by
 have hl:=h.len
 refine⟨by simpa using hl,λv h5 h6=>?_⟩
 rw[fu h3 (by simp;omega) h5,fu h1 (by omega) h3,fu h1 (by omega) h5,pO,h.at_ _ h1 h2,h.at_ _ h3 h4,h.at_ v h5 h6,ha,hb]
 by_cases e2:v=(gI g.2 (k:Int)).2
 · by_cases e1:v=(gI g.2 (k:Int)).1
   · rw[<-e1,<-e2];simp
   · have e3:¬(gI g.2 (k:Int)).2=(gI g.2 (k:Int)).1:=λh=>e1 (e2.trans h)
     have e6:¬(gI g.2 (k:Int)).1=(gI g.2 (k:Int)).2:=λh=>e3 h.symm
     simp[e2,e3,e6]
 · have e4:¬(gI g.2 (k:Int)).2=v:=λh=>e2 h.symm
   by_cases e1:v=(gI g.2 (k:Int)).1
   · rw[if_neg e2,if_pos e1,if_neg e4,if_pos e1.symm,<-e1];simp
   · have e5:¬(gI g.2 (k:Int)).1=v:=λh=>e1 h.symm
     rw[if_neg e2,if_neg e1,if_neg e4,if_neg e5];simp
end TL
namespace TL
end TL
/-
  TlWalk: going through a net breadth first, and its components, as the program does.
  By an AI agent.
-/
set_option linter.all false
namespace TL
end TL
namespace TL
def dM(g:d5)(r:cT):cT×Int:=if bg g r=0 then(aU r,0) else([],bg g r)
end TL
namespace TL
theorem eF.rl{out:List (List Int)}{g:d5}{k:Nat}(h:eF out g k){v:Int}(h0:0<=v)(h1:v<g.1):((gI out v).length:Int)<=2*(k:Int):=by
 rw[h.at_ v h0 h1]
 have:=mM g v k
 omega
theorem eF.rl2{out:List (List Int)}{g:d5}{k:Nat}(h:eF out g k){u v:Int}(h2:0<=u)(h3:u<g.1)(h0:0<=v)(h1:v<g.1)(a:Int):((gI (out.set u.toNat (gI out u++[a])) v).length:Int)<=2*(k:Int)+1:=by
 have hl:=h.len
 rw[fu h2 (by omega) h0]
 split
 · have:=h.rl h2 h3;simp;omega
 · have:=h.rl h0 h1;omega
theorem eF.done{out:List (List Int)}{g:d5}{k:Nat}(h:eF out g k)(hk:k=g.2.length):∀v,0<=v->v<g.1->gI out v=cU g v:=λv h0 h1=>by
 subst hk;exact h.at_ v h0 h1
end TL
namespace TL
end TL
namespace TL
end TL
/-
  TlRotSame: lists that begin elsewhere are the same rotation.
  By an AI agent.
-/
set_option linter.all false
namespace TL
theorem mE:∀(c a:cT),c.length=a.length->(∀q:Nat,q<a.length->List.Perm (gI c (q:Int)) (gI a (q:Int)))->List.Perm c.flatten a.flatten
 |[],[],_,_=>by simp
 |x::c,y::a,hl,h=>by
   have h0:=h 0 (by simp)
   have e0:gI (x::c) ((0:Nat):Int)=x:=rfl
   have e1:gI (y::a) ((0:Nat):Int)=y:=rfl
   rw[e0,e1] at h0
   rw[List.flatten_cons,List.flatten_cons]
   refine h0.append (mE c a (by simpa using hl) λq hq=>?_)
   have:=h (q+1) (by simp;omega)
   have e2:gI (x::c) ((q+1:Nat):Int)=gI c (q:Int):=by simp[gI]
   have e3:gI (y::a) ((q+1:Nat):Int)=gI a (q:Int):=by simp[gI]
   rw[e2,e3] at this
   exact this
 |[],_::_,hl,_=>by simp at hl
 |_::_,[],hl,_=>by simp at hl
end TL
namespace TL
end TL
namespace TL
end TL
/-
  TlRot2: rotations: faces of half-edges, first ones, parts, moved ones.
  By an AI agent.
-/
set_option linter.all false
namespace TL
def bM(g:d5):cT:=(List.range g.1.toNat).map λ(v:Nat)=>cU g (v:Int)
def cm(g:d5):cT×Int:=if c8 g then(bM g,0) else([],1)
theorem eF.first{out:cT}{g:d5}{k:Nat}(h:eF out g k)(hk:k=g.2.length):out=bM g:=by
 have hl:=h.len
 apply kM
 · simp[bM];omega
 · intro i hi
   rw[h.done hk _ (by omega) (by omega)]
   have:i<g.1.toNat:=by omega
   simp[bM,gI,this]
structure eM(out:cT)(g:d5)(h:Nat):Prop where
  len:(out.length:Int)=g.1
  at_:∀v,0<=v->v<g.1->gI out v=ni g v h
theorem eM.start{g:d5}(h:0<=g.1):eM (List.replicate g.1.toNat []) g 0:=⟨by simp;omega,λv h0 h1=>by rw[ns h0 (by omega)];simp[ni]⟩
theorem eM.next{out:cT}{g:d5}{h:Nat}(hi:eM out g h)(h0:0<=bv g h)(h1:bv g h<g.1):eM (out.set (bv g h).toNat (gI out (bv g h)++[(h:Int)])) g (h+1):=by
 have hl:=hi.len
 refine⟨by simpa using hl,λv h2 h3=>?_⟩
 rw[fu h0 (by omega) h2,sx]
 by_cases e:v=bv g (h:Int)
 · rw[if_pos e,if_pos e.symm,hi.at_ _ h0 h1,<-e]
 · rw[if_neg e,if_neg (λh=>e h.symm),hi.at_ v h2 h3]
theorem eM.bd{out:cT}{g:d5}{h:Nat}(hi:eM out g h){v:Int}(h0:0<=v)(h1:v<g.1):(gI out v).length<=h:=by
 rw[hi.at_ v h0 h1];exact tK g v h
theorem eM.done{out:cT}{g:d5}{h:Nat}(hi:eM out g h)(hh:h=2*g.2.length):out=bM g:=by
 have hl:=hi.len
 apply kM
 · simp[bM];omega
 · intro i hlt
   rw[hi.at_ _ (by omega) (by omega),vk g _ hh]
   have:i<g.1.toNat:=by omega
   simp[bM,gI,this]
end TL
/-
  TlJudge: plots: their flaws, as the code and the document gather them.
  By an AI agent.
-/
set_option linter.all false
namespace TL
abbrev bX:=Int×Int×Int
abbrev dS:=List Pt×List (List Pt)
def bt{β:Type}(f:Nat->List β):Nat->List β
  |0=>[]
  |k+1=>bt f k++f k
section
variable{β:Type}{f h:Nat->List β}{k n:Nat}{x:β}{F B:List β}
theorem cR:∀{k:Nat},bt f k=[]↔∀j,j<k->f j=[]
 |0=>by simp[bt]
 |k+1=>by
   rw[bt,List.append_eq_nil_iff,cR]
   constructor
   · rintro⟨h1,h2⟩ j hj
     by_cases e:j=k
     · subst e;exact h2
     · exact h1 j (by omega)
   · intro h
     exact⟨λj hj=>h j (by omega),h k (by omega)⟩
theorem fy(hf:∀j,j<k->f j=[]):bt f k=[]:=cR.2 hf
theorem kd:∀{k:Nat},x∈bt f k↔∃j,j<k/\x∈f j
 |0=>by simp[bt]
 |k+1=>by
   rw[bt,List.mem_append,kd]
   constructor
   · rintro(⟨j,hj,hx⟩|hx)
     · exact⟨j,by omega,hx⟩
     · exact⟨k,by omega,hx⟩
   · rintro⟨j,hj,hx⟩
     by_cases e:j=k
     · subst e;exact .inr hx
     · exact .inl ⟨j,by omega,hx⟩
theorem jT{c:Nat}:∀{k:Nat},(∀j,j<k->(f j).length<=c)->(bt f k).length<=k*c
 |0,_=>by simp[bt]
 |k+1,e=>by
   have h1:=jT (k:=k) λj hj=>e j (by omega)
   have h2:=e k (by omega)
   rw[bt,List.length_append,Nat.succ_mul]
   omega
theorem cY(e:∀j,(f j).length<=1):(bt f k).length<=k:=by
 have:=jT (f:=f) (k:=k) (c:=1) λj _=>e j
 omega
theorem im{c:Nat}(hk:k<=3072)(hc:c<=3072)(e:∀j,(f j).length<=c):(bt f k).length<=9437184:=by
 have h1:=jT (f:=f) (k:=k) (c:=c) λj _=>e j
 have h2:k*c<=3072*3072:=Nat.mul_le_mul hk hc
 omega
theorem ew(hF:F=B++bt f k)(hf:f k=[x]):F++[x]=B++bt f (k+1):=by rw[hF,bt,hf,List.append_assoc]
theorem ff(hF:F=B++bt f k)(hf:f k=[]):F=B++bt f (k+1):=by rw[hF,bt,hf,List.append_nil]
theorem lP(hF:F=bt f k)(hf:f k=[x]):F++[x]=bt f (k+1):=by rw[hF,bt,hf]
theorem n5(hF:F=bt f k)(hf:f k=[]):F=bt f (k+1):=by rw[hF,bt,hf,List.append_nil]
theorem s5(hF:F=(B++bt f k)++f k):F=B++bt f (k+1):=by rw[hF,bt,List.append_assoc]
end
def fl{β:Type}(p:Prop)[Decidable p](x:β):List β:=if p then[x] else[]
section
variable{β:Type}{p:Prop}[Decidable p]{x:β}
theorem dF(h:p):fl p x=[x]:=if_pos h
theorem dx(h:¬p):fl p x=[]:=if_neg h
theorem fv:(fl p x).length<=1:=by unfold fl;split<;>simp
theorem i9:fl p x=[]↔¬p:=by unfold fl;split<;>simp_all
theorem jw{y:β}:y∈fl p x↔p/\y=x:=by unfold fl;split<;>simp_all
end
def B4(l:List Pt):Prop:=2<=(l.length:Int)/\dy l
instance (l:List Pt):Decidable (B4 l):=by unfold B4;infer_instance
def jc(p:dS)(v:Nat):List bX:=fl (¬cC (gI p.1 (v:Int))) (2,(v:Int),0)
def mm(p:dS)(e:Nat):List bX:=fl (¬B4 (gI p.2 (e:Int))) (3,(e:Int),0)
def bL(g:d5)(p:dS):List bX:=
 if(p.1.length:Int)=g.1/\(p.2.length:Int)=g.2.length then bt (jc p) p.1.length++bt (mm p) p.2.length else[(1,0,0)]
def iI(p:dS)(v w:Nat):List bX:=fl (v<w/\gI p.1 (v:Int)=gI p.1 (w:Int)) (4,(v:Int),(w:Int))
def cw(p:dS):List bX:=bt (λv=>bt (iI p v) p.1.length) p.1.length
def lV(g:d5)(p:dS)(e:Int):Prop:=gI (gI p.2 e) 0=gI p.1 (gI g.2 e).1/\gI (gI p.2 e) (((gI p.2 e).length:Int)-1)=gI p.1 (gI g.2 e).2
instance (g:d5)(p:dS)(e:Int):Decidable (lV g p e):=by unfold lV;infer_instance
def cH(g:d5)(p:dS)(e:Nat):List bX:=fl (¬lV g p (e:Int)) (5,(e:Int),0)
def eZ(p:dS)(e:Nat):List bX:=fl (¬fp (gI p.2 (e:Int))) (6,(e:Int),0)
def fj(g:d5)(p:dS):List bX:=bt (cH g p) p.2.length++bt (eZ p) p.2.length
def e9(l:List Pt)(q:Pt):Prop:=∃s∈jP l (l.length-1),cF s.1 s.2 q
instance (l:List Pt)(q:Pt):Decidable (e9 l q):=by unfold e9;infer_instance
def eX(g:d5)(p:dS)(e v:Nat):List bX:=fl (((v:Int)≠(gI g.2 (e:Int)).1/\(v:Int)≠(gI g.2 (e:Int)).2)/\e9 (gI p.2 (e:Int)) (gI p.1 (v:Int))) (7,(e:Int),(v:Int))
def dG(g:d5)(p:dS):List bX:=bt (λe=>bt (eX g p e) p.1.length) p.2.length
def ko(g:d5)(p:dS)(e f:Int):List Pt:=
  fl ((gI g.2 e).1∈[(gI g.2 f).1,(gI g.2 f).2]) (gI p.1 (gI g.2 e).1)++fl ((gI g.2 e).2∈[(gI g.2 f).1,(gI g.2 f).2]) (gI p.1 (gI g.2 e).2)
def di(s t:Sg)(but:List Pt):Prop:=bx s.1 s.2 t.1 t.2=0\/(bx s.1 s.2 t.1 t.2=1\/bx s.1 s.2 t.1 t.2=2)/\∃x∈but,cG s.1 s.2 t.1 t.2 x
instance (s t:Sg)(but:List Pt):Decidable (di s t but):=by unfold di;infer_instance
def ke(a b but:List Pt):Prop:=∀s∈jP a (a.length-1),∀t∈jP b (b.length-1),di s t but
instance (a b but:List Pt):Decidable (ke a b but):=by unfold ke;infer_instance
def dX(g:d5)(p:dS)(e f:Nat):List bX:=fl (e<f/\¬ke (gI p.2 (e:Int)) (gI p.2 (f:Int)) (ko g p (e:Int) (f:Int))) (8,(e:Int),(f:Int))
def zh(g:d5)(p:dS):List bX:=bt (λe=>bt (dX g p e) p.2.length) p.2.length
def bT(g:d5)(p:dS):List bX:=
 if bL g p=[] then cw p++fj g p++(if fj g p=[] then dG g p++zh g p else[]) else bL g p
def b9(g:d5)(p:dS):List bX×Int:=if c8 g then(bT g p,0) else([],1)
section
variable{g:d5}{p:dS}
structure vY(g:d5)(p:dS):Prop where
  n:(p.1.length:Int)=g.1
  m:(p.2.length:Int)=g.2.length
  pt:∀v:Int,0<=v->v<p.1.length->cC (gI p.1 v)
  ln:∀e:Int,0<=e->e<p.2.length->2<=((gI p.2 e).length:Int)/\dy (gI p.2 e)
theorem kx:bL g p=[]↔vY g p:=by
 unfold bL
 by_cases c:(p.1.length:Int)=g.1/\(p.2.length:Int)=g.2.length
 · rw[if_pos c,List.append_eq_nil_iff,cR,cR]
   constructor
   · rintro⟨h1,h2⟩
     refine⟨c.1,c.2,λv h0 hv=>?_,λe h0 he=>?_⟩
     · have:=h1 v.toNat (by omega)
       unfold jc at this
       rw[i9,Int.toNat_of_nonneg h0] at this
       exact Classical.not_not.1 this
     · have:=h2 e.toNat (by omega)
       unfold mm at this
       rw[i9,Int.toNat_of_nonneg h0] at this
       exact Classical.not_not.1 this
   · intro h
     exact⟨λv hv=>i9.2 (Classical.not_not.2 (h.pt _ (by omega) (by omega))),λe he=>i9.2 (Classical.not_not.2 (h.ln _ (by omega) (by omega)))⟩
 · rw[if_neg c]
   exact⟨λh=>by simp at h,λh=>absurd ⟨h.n,h.m⟩ c⟩
theorem mZ(v:Nat):(jc p v).length<=1:=fv
theorem rH(v:Nat):(mm p v).length<=1:=fv
theorem pf(u v:Nat):(iI p u v).length<=1:=fv
theorem oy(v:Nat):(cH g p v).length<=1:=fv
theorem uX(v:Nat):(eZ p v).length<=1:=fv
theorem mS(u v:Nat):(eX g p u v).length<=1:=fv
theorem lj(u v:Nat):(dX g p u v).length<=1:=fv
theorem lG(hm:c8 g):((bL g p).length:Int)<=5000:=by
 obtain⟨_,h2,h3,_⟩:=hm
 unfold bL
 split
 · rename_i c
   have l1:=cY (f:=jc p) (k:=p.1.length) mZ
   have l2:=cY (f:=mm p) (k:=p.2.length) rH
   rw[List.length_append];omega
 · simp
end
end TL
namespace TL
theorem lD{a b p:Pt}(ha:cC a)(hb:cC b)(hp:cC p):(ft a b p).1=decide (cF a b p):=by
 unfold ft;rw[if_pos ⟨ha,hb,hp⟩]
theorem u4{a b c d:Pt}(ha:cC a)(hb:cC b)(hc:cC c)(hd:cC d):(dA a b c d).1=bx a b c d:=by
 unfold dA;rw[if_pos ⟨⟨ha,hb⟩,hc,hd⟩]
section
variable{l:List Pt}{p:Pt}{i:Nat}
theorem jZ:e9 l p↔∃j:Nat,j+1<l.length/\cF (gI l (j:Int)) (gI l ((j:Int)+1)) p:=by
 unfold e9
 constructor
 · rintro⟨s,hs,h⟩
   obtain⟨j,hj,rfl⟩:=fk.1 hs
   exact⟨j,by omega,h⟩
 · rintro⟨j,hj,h⟩
   exact⟨_,fk.2 ⟨j,by omega,rfl⟩,h⟩
theorem ta{b:Bool}(h:1<=i/\∀j:Nat,j+1<i->¬cF (gI l (j:Int)) (gI l ((j:Int)+1)) p)(he:b=decide (cF (gI l ((i:Int)-1)) (gI l (i:Int)) p))(hb:¬b=true):1<=i+1/\∀j:Nat,j+1<i+1->¬cF (gI l (j:Int)) (gI l ((j:Int)+1)) p:=by
 refine⟨by omega,λj hj=>?_⟩
 by_cases e:j+1=i
 · rw[he] at hb
   have e1:(j:Int)=(i:Int)-1:=by omega
   have e2:(j:Int)+1=(i:Int):=by omega
   rw[e2,e1]
   simpa using hb
 · exact h.2 j (by omega)
theorem vM{b:Bool}(h1:1<=i)(hi:(i:Int)<l.length)(he:b=decide (cF (gI l ((i:Int)-1)) (gI l (i:Int)) p))(hb:b=true):true=decide (e9 l p):=by
 refine(decide_eq_true (jZ.2 ⟨i-1,by omega,?_⟩)).symm
 rw[he] at hb
 have e1:((i-1:Nat):Int)=(i:Int)-1:=by omega
 rw[e1,show(i:Int)-1+1=(i:Int) by omega]
 exact of_decide_eq_true hb
theorem xU(h:1<=i/\∀j:Nat,j+1<i->¬cF (gI l (j:Int)) (gI l ((j:Int)+1)) p)(hi:¬(i:Int)<l.length):false=decide (e9 l p):=by
 refine(decide_eq_false λho=>?_).symm
 obtain⟨j,hj,hb⟩:=jZ.1 ho
 exact h.2 j (by omega) hb
end
section
variable{a b c d:Pt}{but:List Pt}{k:Nat}{m:Int}
theorem jF{x:Pt}{u v:Bool}(h1:u=decide (cF a b x))(h2:v=decide (cF c d x))(h:¬u=true\/¬v=true):¬cG a b c d x:=by
 rintro⟨q1,q2⟩
 rcases h with h|h
 · exact h (h1.trans (decide_eq_true q1))
 · exact h (h2.trans (decide_eq_true q2))
theorem te(hm:m=bx a b c d)(h:m=0):true=decide (di (a,b) (c,d) but):=(decide_eq_true (.inl (hm.symm.trans h))).symm
theorem og{u v:Bool}(hm:m=bx a b c d)(h:m=1\/m=2)(hk:(k:Int)<but.length)(h1:u=decide (cF a b (gI but (k:Int))))(h2:v=decide (cF c d (gI but (k:Int))))(q1:u=true)(q2:v=true):true=decide (di (a,b) (c,d) but):=
 (decide_eq_true (.inr ⟨by rw[<-hm];exact h,_,bk (by omega) hk,of_decide_eq_true (h1▸q1),of_decide_eq_true (h2▸q2)⟩)).symm
theorem mA(hm:m=bx a b c d)(h0:¬m=0)(h:∀j:Nat,j<k->¬cG a b c d (gI but (j:Int)))(hk:¬(k:Int)<but.length):false=decide (di (a,b) (c,d) but):=by
 refine(decide_eq_false ?_).symm
 rintro(e|⟨_,x,hx,hb⟩)
 · exact h0 (hm.trans e)
 · obtain⟨j,hj,rfl⟩:=List.mem_iff_getElem.1 hx
   refine h j (by omega) ?_
   have e:gI but (j:Int)=but[j]:=by unfold gI;rw[Int.toNat_natCast,List.getD_eq_getElem?_getD,List.getElem?_eq_getElem hj];rfl
   rw[e];exact hb
theorem xy(hm:m=bx a b c d)(h0:¬m=0)(h1:¬m=1)(h2:¬m=2):false=decide (di (a,b) (c,d) but):=by
 refine(decide_eq_false ?_).symm
 rintro(e|⟨e|e,_⟩)
 · exact h0 (hm.trans e)
 · exact h1 (hm.trans e)
 · exact h2 (hm.trans e)
end
def dJ(p:dS)(h:Int):Pt:=if h%2=0 then gI (gI p.2 (h/2)) 1 else gI (gI p.2 (h/2)) (((gI p.2 (h/2)).length:Int)-2)
def ka(u v:Pt):Int:=u.1*v.1+u.2*v.2
def eB(u v:Pt):Prop:=dQ u v=0/\0<ka u v
instance (u v:Pt):Decidable (eB u v):=by unfold eB;infer_instance
theorem na{o a:Pt}(ho:cC o)(ha:cC a):(-2097152<=a.1-o.1/\a.1-o.1<=2097152)/\ -2097152<=a.2-o.2/\a.2-o.2<=2097152:=by
 unfold cC at ho ha;omega
end TL
namespace TL
theorem zP{o a b:Pt}(h:(a.1-o.1)*(b.2-o.2)=(a.2-o.2)*(b.1-o.1)):decide (0<(a.1-o.1)*(b.1-o.1)+(a.2-o.2)*(b.2-o.2))=decide (eB (aY a o) (aY b o)):=by
 rw[decide_eq_decide]
 unfold eB dQ ka aY
 simp only
 omega
theorem A3{o a b:Pt}(h:¬(a.1-o.1)*(b.2-o.2)=(a.2-o.2)*(b.1-o.1)):false=decide (eB (aY a o) (aY b o)):=by
 refine(decide_eq_false ?_).symm
 unfold eB dQ ka aY
 simp only
 omega
end TL
namespace TL
section
variable{g:d5}{p:dS}{F G B:List bX}{v e k i:Nat}
theorem u9(h:decide (dy [gI p.1 (v:Int)])=true):jc p v=[]:=dx (Classical.not_not.2 ((of_decide_eq_true h).2 _ (by simp)))
theorem vE(h:¬decide (dy [gI p.1 (v:Int)])=true):jc p v=[(2,(v:Int),0)]:=
 dF λho=>h (decide_eq_true ⟨by simp,λx hx=>by obtain rfl:=List.mem_singleton.1 hx;exact ho⟩)
theorem uB(h:(((gI p.2 (e:Int)).length:Nat):Int)<2):mm p e=[(3,(e:Int),0)]:=dF λho=>by have:=ho.1;omega
theorem ve(h:¬decide (dy (gI p.2 (e:Int)))=true):mm p e=[(3,(e:Int),0)]:=dF λho=>h (decide_eq_true ho.2)
theorem uw(h0:¬(((gI p.2 (e:Int)).length:Nat):Int)<2)(h:decide (dy (gI p.2 (e:Int)))=true):mm p e=[]:=dx λho=>ho ⟨by omega,of_decide_eq_true h⟩
theorem mg{β:Type}{f h:Nat->List β}{F:List β}{k n:Nat}(hF:F=bt f k)(hk:k=n):F=bt f n++bt h 0:=by
 subst hk;rw[hF];simp[bt]
theorem u3(h:¬((p.1.length:Nat):Int)=g.1):[(1,0,0)]=bL g p:=by unfold bL;rw[if_neg λc=>h c.1]
theorem uh(h:¬((p.2.length:Nat):Int)=(g.2.length:Int)):[(1,0,0)]=bL g p:=by unfold bL;rw[if_neg λc=>h c.2]
theorem u6(h1:((p.1.length:Nat):Int)=g.1)(h2:((p.2.length:Nat):Int)=(g.2.length:Int))(hG:G=bt (jc p) p.1.length++bt (mm p) e)(he:e=p.2.length):G=bL g p:=by
 unfold bL;rw[if_pos ⟨h1,h2⟩,hG,he]
theorem nP(hF:F=bt (jc p) v):F.length<=v:=by rw[hF];exact cY mZ
theorem nb(hF:F=bt (jc p) v++bt (mm p) e):F.length<=v+e:=by
 rw[hF,List.length_append]
 have l1:=cY (f:=jc p) (k:=v) mZ
 have l2:=cY (f:=mm p) (k:=e) rH
 omega
theorem pc(hF:F=bL g p)(h:0<(F.length:Int)):F=bT g p:=by
 unfold bT
 rw[<-hF,if_neg]
 intro e;subst e;simp at h
theorem nc(hF:F=bL g p)(h:¬0<(F.length:Int)):F=[]/\bL g p=[]/\vY g p:=by
 have:F=[]:=List.eq_nil_of_length_eq_zero (by omega)
 have h2:bL g p=[]:=hF▸this
 exact⟨this,h2,kx.1 h2⟩
def mr(l:List Pt)(q:Pt)(k:Nat):List Int:=bt (λj=>fl (gI l (j:Int)=q) (j:Int)) k
theorem qS(l:List Pt)(q:Pt)(k:Nat):(mr l q k).length<=k:=cY λj=>fv
theorem uf{l:List Pt}{first:Pt->List Int}{k:Nat}(h:first=λq=>mr l q k):(λq=>if q=gI l (k:Int) then first (gI l (k:Int))++[(k:Int)] else first q)=λq=>mr l q (k+1):=by
 funext q
 rw[h]
 simp only[mr,bt]
 by_cases e:q=gI l (k:Int)
 · subst e
   rw[if_pos rfl,dF rfl]
 · rw[if_neg e,dx (λh=>e h.symm),List.append_nil]
def ja(v:Nat)(u:Int):List bX:=fl ((v:Int)<u) (4,(v:Int),u)
theorem yg{k:Nat}:(mr p.1 (gI p.1 (v:Int)) k).flatMap (ja v)=bt (iI p v) k:=by
 induction k with
 |zero=>rfl
 |succ k ih=>
   have e1:mr p.1 (gI p.1 (v:Int)) (k+1)=mr p.1 (gI p.1 (v:Int)) k++fl (gI p.1 (k:Int)=gI p.1 (v:Int)) (k:Int):=rfl
   rw[e1,List.flatMap_append,ih,bt]
   congr 1
   unfold iI ja
   by_cases c:gI p.1 (k:Int)=gI p.1 (v:Int)
   · rw[dF c,List.flatMap_cons]
     simp only[List.flatMap_nil,List.append_nil]
     by_cases c2:v<k
     · rw[dF (by omega),dF ⟨c2,c.symm⟩]
     · rw[dx (by omega),dx (λh=>c2 h.1)]
   · rw[dx c,dx (λh=>c h.2.symm)];rfl
def el(p:dS)(v:Nat):List bX:=bt (iI p v) p.1.length
theorem u7{l:List Int}(hF:F=bt (el p) v):F=bt (el p) v++(l.take 0).flatMap (ja v):=by rw[hF];simp
theorem wC{l:List Int}(hG:G=bt (el p) v++(l.take i).flatMap (ja v))(hi:(i:Int)<l.length)(h:(v:Int)<gI l (i:Int)):G++[(4,(v:Int),gI l (i:Int))]=bt (el p) v++(l.take (i+1)).flatMap (ja v):=by
 rw[bB hi,List.flatMap_append,hG]
 simp[ja,dF h]
theorem A1{l:List Int}(hG:G=bt (el p) v++(l.take i).flatMap (ja v))(hi:(i:Int)<l.length)(h:¬(v:Int)<gI l (i:Int)):G=bt (el p) v++(l.take (i+1)).flatMap (ja v):=by
 rw[bB hi,List.flatMap_append,hG]
 simp[ja,dx h]
theorem tw{first:Pt->List Int}{n:Nat}(hf:first=λq=>mr p.1 q n)(hn:n=p.1.length)(hG:G=bt (el p) v++((first (gI p.1 (v:Int))).take i).flatMap (ja v))(hi:¬(i:Int)<(first (gI p.1 (v:Int))).length):G=bt (el p) (v+1):=by
 rw[List.take_of_length_le (by omega),hf] at hG
 simp only at hG
 rw[yg,hn] at hG
 exact hG
theorem nX(v:Nat):(el p v).length<=p.1.length:=cY (pf v)
theorem wY{l:List Int}(hn:p.1.length<=1024)(hv:v<=1024)(hG:G=bt (el p) v++(l.take i).flatMap (ja v))(hl:l.length<=1024):G.length<=9440000:=by
 have l1:=im (f:=el p) (k:=v) (c:=1024) (by omega) (by omega) λj=>Nat.le_trans (nX j) hn
 have l2:∀m:List Int,(m.flatMap (ja v)).length<=m.length:=λm=>by
   induction m with
   |nil=>simp
   |cons a m ih=>
     have h1:(ja v a).length<=1:=fv
     rw[List.flatMap_cons,List.length_append,List.length_cons];omega
 have l3:=l2 (l.take i)
 rw[List.length_take] at l3
 rw[hG,List.length_append];omega
theorem ul(hn:p.1.length<=1024)(hv:v<=1024)(hG:G=bt (el p) v):G.length<=9440000:=by
 have l1:=im (f:=el p) (k:=v) (c:=1024) (by omega) (by omega) λj=>Nat.le_trans (nX j) hn
 rw[hG];omega
theorem uU:cw p=bt (el p) p.1.length:=rfl
theorem mN(hn:p.1.length<=1024):(cw p).length<=9440000:=ul hn hn rfl
theorem mK(hF:F=bt (el p) v)(hv:v=p.1.length):F=cw p++bt (cH g p) 0/\true=decide (bt (cH g p) 0=[]):=by
 subst hv;rw[hF,uU];simp[bt]
theorem jG{b:Bool}(h:F=cw p++bt (cH g p) e/\b=decide (bt (cH g p) e=[]))(hn:¬lV g p (e:Int)):F++[(5,(e:Int),0)]=cw p++bt (cH g p) (e+1)/\false=decide (bt (cH g p) (e+1)=[]):=by
 have hx:cH g p e=[(5,(e:Int),0)]:=dF hn
 exact⟨ew h.1 hx,(decide_eq_false (by rw[bt,hx];simp)).symm⟩
theorem rI{b:Bool}(h:F=cw p++bt (cH g p) e/\b=decide (bt (cH g p) e=[]))(hn:lV g p (e:Int)):F=cw p++bt (cH g p) (e+1)/\b=decide (bt (cH g p) (e+1)=[]):=by
 have hx:cH g p e=[]:=dx (Classical.not_not.2 hn)
 refine⟨ff h.1 hx,?_⟩
 rw[h.2,bt,hx,List.append_nil]
theorem pE(hn:p.1.length<=1024)(he:e<=3072)(h:F=cw p++bt (cH g p) e):F.length<=9500000:=by
 have l1:=mN hn
 have l2:=cY (f:=cH g p) (k:=e) oy
 rw[h,List.length_append];omega
theorem oD{b:Bool}(h:F=cw p++bt (cH g p) e/\b=decide (bt (cH g p) e=[]))(he:e=p.2.length):F=cw p++(bt (cH g p) p.2.length++bt (eZ p) 0)/\b=decide (bt (cH g p) p.2.length++bt (eZ p) 0=[]):=by
 subst he;simpa[bt] using h
theorem od{b:Bool}(h:F=cw p++(bt (cH g p) p.2.length++bt (eZ p) e)/\b=decide (bt (cH g p) p.2.length++bt (eZ p) e=[]))(hn:¬fp (gI p.2 (e:Int))):F++[(6,(e:Int),0)]=cw p++(bt (cH g p) p.2.length++bt (eZ p) (e+1))/\false=decide (bt (cH g p) p.2.length++bt (eZ p) (e+1)=[]):=by
 have hx:eZ p e=[(6,(e:Int),0)]:=dF hn
 refine⟨?_,(decide_eq_false (by rw[bt,hx];simp)).symm⟩
 rw[h.1,bt,hx];simp
theorem sj{b:Bool}(h:F=cw p++(bt (cH g p) p.2.length++bt (eZ p) e)/\b=decide (bt (cH g p) p.2.length++bt (eZ p) e=[]))(hn:fp (gI p.2 (e:Int))):F=cw p++(bt (cH g p) p.2.length++bt (eZ p) (e+1))/\b=decide (bt (cH g p) p.2.length++bt (eZ p) (e+1)=[]):=by
 have hx:eZ p e=[]:=dx (Classical.not_not.2 hn)
 rw[bt,hx,List.append_nil];exact h
theorem mY(hn:p.1.length<=1024)(hm:p.2.length<=3072)(he:e<=3072)(h:F=cw p++(bt (cH g p) p.2.length++bt (eZ p) e)):F.length<=9500000:=by
 have l1:=mN hn
 have l2:=cY (f:=cH g p) (k:=p.2.length) oy
 have l3:=cY (f:=eZ p) (k:=e) uX
 rw[h,List.length_append,List.length_append];omega
theorem kG{b:Bool}(h:F=cw p++(bt (cH g p) p.2.length++bt (eZ p) e)/\b=decide (bt (cH g p) p.2.length++bt (eZ p) e=[]))(he:e=p.2.length):F=cw p++fj g p/\b=decide (fj g p=[]):=by
 subst he;exact h
def cN(g:d5)(p:dS):List bX:=cw p++fj g p
theorem px(hn:p.1.length<=1024)(hm:p.2.length<=3072):(cN g p).length<=9500000:=mY hn hm hm rfl
def gw(g:d5)(p:dS)(e:Nat):List bX:=bt (eX g p e) p.1.length
def hP(g:d5)(p:dS)(e:Nat):List bX:=bt (dX g p e) p.2.length
theorem pH(e:Nat):(gw g p e).length<=p.1.length:=cY (mS e)
theorem vB(e:Nat):(hP g p e).length<=p.2.length:=cY (lj e)
theorem lN(h:F=cw p++fj g p):F=cN g p++bt (gw g p) 0:=by rw[h];simp[bt,cN]
theorem mH(hn:p.1.length<=1024)(hm:p.2.length<=3072)(he:e<=3072)(hv:v<=1024)(h:G=(cN g p++bt (gw g p) e)++bt (eX g p e) v):G.length<=20000000:=by
 have l1:=px (g:=g) hn hm
 have l2:=im (f:=gw g p) (k:=e) (c:=1024) he (by omega) λj=>Nat.le_trans (pH j) hn
 have l3:=cY (f:=eX g p e) (k:=v) (mS e)
 rw[h,List.length_append,List.length_append];omega
theorem mw(h:G=(cN g p++bt (gw g p) e)++bt (eX g p e) v)(hv:v=p.1.length):G=cN g p++bt (gw g p) (e+1):=by
 subst hv;exact s5 h
theorem m6(h:F=cN g p++bt (gw g p) e)(he:e=p.2.length):F=(cN g p++dG g p)++bt (hP g p) 0:=by
 subst he;rw[h];simp[bt,dG];rfl
theorem m8(h:F=(cN g p++dG g p)++bt (hP g p) e):F=((cN g p++dG g p)++bt (hP g p) e)++bt (dX g p e) (e+1)/\e<e+1:=by
 refine⟨?_,by omega⟩
 rw[fy (f:=dX g p e) (k:=e+1) λj hj=>dx λh=>by omega,List.append_nil];exact h
theorem sJ(hn:p.1.length<=1024)(hm:p.2.length<=3072):(dG g p).length<=9437184:=
 im (f:=gw g p) (k:=p.2.length) (c:=1024) (by omega) (by omega) λj=>Nat.le_trans (pH j) hn
theorem mJ{f:Nat}(hn:p.1.length<=1024)(hm:p.2.length<=3072)(he:e<=3072)(hf:f<=3072)(h:G=((cN g p++dG g p)++bt (hP g p) e)++bt (dX g p e) f):G.length<=40000000:=by
 have l1:=px (g:=g) hn hm
 have l0:=sJ (g:=g) hn hm
 have l2:=im (f:=hP g p) (k:=e) (c:=3072) he (by omega) λj=>Nat.le_trans (vB j) hm
 have l3:=cY (f:=dX g p e) (k:=f) (lj e)
 rw[h,List.length_append,List.length_append,List.length_append];omega
theorem mR{f:Nat}(h:G=((cN g p++dG g p)++bt (hP g p) e)++bt (dX g p e) f)(hf:f=p.2.length):G=(cN g p++dG g p)++bt (hP g p) (e+1):=by
 subst hf;exact s5 h
theorem rn(h:(v:Int)=(gI g.2 (e:Int)).1):eX g p e v=[]:=dx λc=>c.1.1 h
theorem rv(h:(v:Int)=(gI g.2 (e:Int)).2):eX g p e v=[]:=dx λc=>c.1.2 h
theorem rk(h:¬decide (e9 (gI p.2 (e:Int)) (gI p.1 (v:Int)))=true):eX g p e v=[]:=dx λc=>h (decide_eq_true c.2)
theorem qX(h1:¬(v:Int)=(gI g.2 (e:Int)).1)(h2:¬(v:Int)=(gI g.2 (e:Int)).2)(h:decide (e9 (gI p.2 (e:Int)) (gI p.1 (v:Int)))=true):eX g p e v=[(7,(e:Int),(v:Int))]:=dF ⟨⟨h1,h2⟩,of_decide_eq_true h⟩
theorem oZ{b:Bool}(hs:bL g p=[])(hF:F=cw p++fj g p)(hb:b=decide (fj g p=[]))(h:¬b=true):F=bT g p:=by
 have:¬fj g p=[]:=λe=>h (hb.trans (decide_eq_true e))
 unfold bT
 rw[if_pos hs,if_neg this,List.append_nil];exact hF
theorem mP{b:Bool}(hs:bL g p=[])(hb:b=decide (fj g p=[]))(h:b=true)(hF:F=(cN g p++dG g p)++bt (hP g p) e)(he:e=p.2.length):F=bT g p:=by
 have:fj g p=[]:=of_decide_eq_true (hb▸h)
 subst he
 unfold bT
 rw[if_pos hs,if_pos this,hF]
 unfold cN
 rw[List.append_assoc];rfl
end
section
variable{g:d5}{p:dS}{e f:Int}
theorem AB(h1:¬decide ((gI g.2 e).1∈[(gI g.2 f).1,(gI g.2 f).2])=true)(h2:¬decide ((gI g.2 e).2∈[(gI g.2 f).1,(gI g.2 f).2])=true):[]=ko g p e f:=by
 unfold ko;rw[dx λh=>h1 (decide_eq_true h),dx λh=>h2 (decide_eq_true h)];rfl
theorem AG(h1:decide ((gI g.2 e).1∈[(gI g.2 f).1,(gI g.2 f).2])=true)(h2:¬decide ((gI g.2 e).2∈[(gI g.2 f).1,(gI g.2 f).2])=true):[gI p.1 (gI g.2 e).1]=ko g p e f:=by
 unfold ko;rw[dF (of_decide_eq_true h1),dx λh=>h2 (decide_eq_true h)];rfl
theorem Ay(h1:¬decide ((gI g.2 e).1∈[(gI g.2 f).1,(gI g.2 f).2])=true)(h2:decide ((gI g.2 e).2∈[(gI g.2 f).1,(gI g.2 f).2])=true):[gI p.1 (gI g.2 e).2]=ko g p e f:=by
 unfold ko;rw[dF (of_decide_eq_true h2),dx λh=>h1 (decide_eq_true h)];rfl
theorem An(h1:decide ((gI g.2 e).1∈[(gI g.2 f).1,(gI g.2 f).2])=true)(h2:decide ((gI g.2 e).2∈[(gI g.2 f).1,(gI g.2 f).2])=true):[gI p.1 (gI g.2 e).1]++[gI p.1 (gI g.2 e).2]=ko g p e f:=by
 unfold ko;rw[dF (of_decide_eq_true h2),dF (of_decide_eq_true h1)]
theorem zb:(ko g p e f).length<=2:=by
 unfold ko
 rw[List.length_append]
 have h1:(fl ((gI g.2 e).1∈[(gI g.2 f).1,(gI g.2 f).2]) (gI p.1 (gI g.2 e).1)).length<=1:=fv
 have h2:(fl ((gI g.2 e).2∈[(gI g.2 f).1,(gI g.2 f).2]) (gI p.1 (gI g.2 e).2)).length<=1:=fv
 omega
theorem tZ{x:Pt}:x∈ko g p e f↔∃v,(v=(gI g.2 e).1\/v=(gI g.2 e).2)/\(v=(gI g.2 f).1\/v=(gI g.2 f).2)/\x=gI p.1 v:=by
 unfold ko
 rw[List.mem_append,jw,jw]
 simp only[List.mem_cons,List.not_mem_nil,or_false]
 constructor
 · rintro(⟨h1,h2⟩|⟨h1,h2⟩)
   · exact⟨_,.inl rfl,h1,h2⟩
   · exact⟨_,.inr rfl,h1,h2⟩
 · rintro⟨v,rfl|rfl,h1,h2⟩
   · exact .inl ⟨h1,h2⟩
   · exact .inr ⟨h1,h2⟩
theorem iX(hm:c8 g)(h0:0<=e)(h1:e<g.2.length):(0<=(gI g.2 e).1/\(gI g.2 e).1<g.1)/\0<=(gI g.2 e).2/\(gI g.2 e).2<g.1:=hm.2.2.2 _ (bk h0 h1)
theorem yO(hm:c8 g)(hs:vY g p)(h0:0<=e)(h1:e<g.2.length):∀x∈ko g p e f,cC x:=by
 intro x hx
 obtain⟨v,hv,_,rfl⟩:=tZ.1 hx
 obtain⟨⟨a1,a2⟩,a3,a4⟩:=iX hm h0 h1
 have:=hs.n
 rcases hv with rfl|rfl
 · exact hs.pt _ a1 (by omega)
 · exact hs.pt _ a3 (by omega)
end
section
variable{a b but:List Pt}{i k:Nat}
theorem rD:ke a b but↔∀j:Nat,j+1<a.length->∀q:Nat,q+1<b.length->di (gI a (j:Int),gI a ((j:Int)+1)) (gI b (q:Int),gI b ((q:Int)+1)) but:=by
 unfold ke
 constructor
 · intro h j hj q hq
   exact h _ (fk.2 ⟨j,by omega,rfl⟩) _ (fk.2 ⟨q,by omega,rfl⟩)
 · intro h s hs t ht
   obtain⟨j,hj,rfl⟩:=fk.1 hs
   obtain⟨q,hq,rfl⟩:=fk.1 ht
   exact h j (by omega) q (by omega)
theorem y6(h:1<=i/\∀j:Nat,j+1<i->∀q:Nat,q+1<b.length->di (gI a (j:Int),gI a ((j:Int)+1)) (gI b (q:Int),gI b ((q:Int)+1)) but)
   (h2:1<=k/\∀q:Nat,q+1<k->di (gI a ((i:Int)-1),gI a (i:Int)) (gI b (q:Int),gI b ((q:Int)+1)) but)(hk:¬(k:Int)<b.length):
   1<=i+1/\∀j:Nat,j+1<i+1->∀q:Nat,q+1<b.length->di (gI a (j:Int),gI a ((j:Int)+1)) (gI b (q:Int),gI b ((q:Int)+1)) but:=by
 refine⟨by omega,λj hj q hq=>?_⟩
 by_cases e:j+1=i
 · have h3:=h2.2 q (by omega)
   rw[show(j:Int)=(i:Int)-1 by omega,show(i:Int)-1+1=(i:Int) by omega]
   exact h3
 · exact h.2 j (by omega) q hq
theorem um(h:1<=k/\∀q:Nat,q+1<k->di (gI a ((i:Int)-1),gI a (i:Int)) (gI b (q:Int),gI b ((q:Int)+1)) but)(ho:decide (di (gI a ((i:Int)-1),gI a (i:Int)) (gI b ((k:Int)-1),gI b (k:Int)) but)=true):
   1<=k+1/\∀q:Nat,q+1<k+1->di (gI a ((i:Int)-1),gI a (i:Int)) (gI b (q:Int),gI b ((q:Int)+1)) but:=by
 refine⟨by omega,λq hq=>?_⟩
 by_cases e:q+1=k
 · rw[show(q:Int)=(k:Int)-1 by omega,show(k:Int)-1+1=(k:Int) by omega]
   exact of_decide_eq_true ho
 · exact h.2 q (by omega)
theorem za(h1:1<=i)(hi:(i:Int)<a.length)(h2:1<=k)(hk:(k:Int)<b.length)(ho:¬decide (di (gI a ((i:Int)-1),gI a (i:Int)) (gI b ((k:Int)-1),gI b (k:Int)) but)=true):false=decide (ke a b but):=by
 refine(decide_eq_false λh=>ho (decide_eq_true ?_)).symm
 have:=rD.1 h (i-1) (by omega) (k-1) (by omega)
 rwa[show((i-1:Nat):Int)=(i:Int)-1 by omega,show((k-1:Nat):Int)=(k:Int)-1 by omega,show(i:Int)-1+1=(i:Int) by omega,show(k:Int)-1+1=(k:Int) by omega] at this
theorem yk(h:1<=i/\∀j:Nat,j+1<i->∀q:Nat,q+1<b.length->di (gI a (j:Int),gI a ((j:Int)+1)) (gI b (q:Int),gI b ((q:Int)+1)) but)(hi:¬(i:Int)<a.length):true=decide (ke a b but):=
 (decide_eq_true (rD.2 λj hj=>h.2 j (by omega))).symm
end
section
variable{g:d5}{p:dS}{e f:Nat}{b:Bool}
theorem pU(hef:e<f)(hb:b=decide (ke (gI p.2 (e:Int)) (gI p.2 (f:Int)) (ko g p (e:Int) (f:Int))))(h:¬b=true):dX g p e f=[(8,(e:Int),(f:Int))]:=
 dF ⟨hef,λc=>h (hb.trans (decide_eq_true c))⟩
theorem ti(hb:b=decide (ke (gI p.2 (e:Int)) (gI p.2 (f:Int)) (ko g p (e:Int) (f:Int))))(h:b=true):dX g p e f=[]:=
 dx λc=>c.2 (of_decide_eq_true (hb▸h))
end
end TL
/-
  TlMap: maps that the call makes.
  By an AI agent.
-/
set_option linter.all false
namespace TL
open Go
class Ky (K:Type) where
  val:K->Value
structure rT(P:Program)(kt:TypeId)(K:Type)[DecidableEq K][Ky K]:Prop where
 check:∀(b:Bool) (k:K) (w:World),(Instr.checkKey b 10000 kt (Ky.val k)).run P w= .ok () w
 find:∀(k:K) (es:List MapEntry) (ks:List K) (w:World),es.map (·.key)=ks.map Ky.val->(Instr.findKey kt (Ky.val k) es).run P w= .ok ((ks.findIdx? (· =k)).bind λi=>(es[i]?).map λe=>(i,e.val)) w
 bits:∀k:K,Instr.sameBits 10000 (Ky.val k) (Ky.val k)=true
section
variable{P:Program}{f:Fr}{w:World}{dst:Option Tmp}{ty:TypeId}{pos:String}{after:Array Edge}{g:Option (Nat×Bool)}{t:TypeId}{x y z:Operand}{N:Value->World->Prop}
theorem ek{r:Nat}{es:Array MapEntry}{clock:Nat}(h:w.heap[r]? =some (.map es clock)):(getObj r).run P w= .ok (.map es clock) w:=by
 simp[getObj,Sem.run,h]
theorem gp{r:Nat}{es:Array MapEntry}{clock:Nat}{o:Obj}(h:w.heap[r]? =some (.map es clock)):(setObj r o).run P w= .ok () {w with heap:=w.heap.setIfInBounds r o}:=by
 simp[setObj,Sem.run,h]
theorem ju(γ:aK){r:Nat}(o:Obj){J:cx->Prop}(hJ:J (γ r)):bj J γ w γ {w with heap:=w.heap.setIfInBounds r o}:=
 ⟨rfl,rfl,rfl,by simp,λ_ _ _=>rfl,λk _ hk=>by
   have:r≠k:=λh=>hk (h▸hJ)
   simp[Array.getElem?_setIfInBounds_ne this],Nat.le_refl _⟩
theorem iR{r:Nat}{o o':Obj}(h:w.heap[r]? =some o'):({w with heap:=w.heap.setIfInBounds r o}:World).heap[r]? =some o:=by
 have:=dg h
 simp[this]
end
instance:Ky Int where
 val k:=.int .i64 k
instance:Ky (Int×Int) where
 val k:=.agg (List.toArray [.int .i64 k.1,.int .i64 k.2])
end TL
namespace TL
open Go
end TL
/-
  TlStill: in a region that draws its order: an operation before which only reading ones may come is taken first.
  By an AI agent.
-/
set_option linter.all false
namespace TL
open Go
theorem aL.asBool(v:Value):aL (Go.asBool v):=by
 unfold Go.asBool
 repeat' (first|exact aL.pure _|exact aL.stuck _|exact aL.unsupported _|split)
theorem kQ(op:BinOp)(x y:ByteArray):aL (Op.stringOp op x y):=by
 unfold Op.stringOp
 dsimp only
 repeat' (first|exact aL.pure _|exact aL.stuck _|exact aL.unsupported _|split)
theorem qJ(x y:Value):aL (Builtin.min2 x y):=by
 unfold Builtin.min2
 repeat' (first|exact aL.pure _|exact aL.stuck _|exact aL.unsupported _|exact aL.bind (aL.choose _) λ_=>aL.pure _|exact aL.bind (kQ _ _ _) λ_=>aL.bind (aL.asBool _) λ_=>aL.pure _|split)
theorem qh(x y:Value):aL (Builtin.max2 x y):=by
 unfold Builtin.max2
 repeat' (first|exact aL.pure _|exact aL.stuck _|exact aL.unsupported _|exact aL.bind (aL.choose _) λ_=>aL.pure _|exact aL.bind (kQ _ _ _) λ_=>aL.bind (aL.asBool _) λ_=>aL.pure _|split)
theorem jx{f:Value->Value->Sem Value}(hf:∀x y,aL (f x y)):∀(l:List Value) (x:Value),aL (l.foldlM f x)
 |[],x=>by simp only[List.foldlM_nil];exact aL.pure _
 |y::l,x=>by simp only[List.foldlM_cons];exact aL.bind (hf x y) λz=>jx hf l z
def fw:Op->Bool
 | .call c=>match c.callee with
   | .builtin .min| .builtin .max=>true
   |_=>false
 |o=>gk o
theorem oa{ρ:Operand->Value}{o:Oper}(h:fw o.op=true):aL (execOp ρ o)/\∀P w nx w',(execOp ρ o).run P w= .ok nx w'->∃u,nx= .value u:=by
 obtain⟨dst,op,ty,pos,after,g⟩:=o
 cases op
 case call c=>
   obtain⟨callee,args,at_⟩:=c
   cases callee with
   |builtin b=>
     cases b<;>simp only[fw,Bool.false_eq_true] at h
     case min=>
       have e:execOp ρ ⟨dst,.call {callee:=.builtin .min,args:=args,argTypes:=at_},ty,pos,after,g⟩=(do pure (Next.value (<-Builtin.min_ at_ ty (args.map ρ)))):=by
         simp[execOp,resolve,invoke,builtin]
       rw[e]
       refine⟨aL.bind ?_ λ_=>aL.pure _,λP w nx w' hr=>kh hr⟩
       unfold Builtin.min_
       split
       · exact aL.stuck _
       · exact jx qJ _ _
     case max=>
       have e:execOp ρ ⟨dst,.call {callee:=.builtin .max,args:=args,argTypes:=at_},ty,pos,after,g⟩=(do pure (Next.value (<-Builtin.max_ at_ ty (args.map ρ)))):=by
         simp[execOp,resolve,invoke,builtin]
       rw[e]
       refine⟨aL.bind ?_ λ_=>aL.pure _,λP w nx w' hr=>kh hr⟩
       unfold Builtin.max_
       split
       · exact aL.stuck _
       · exact jx qh _ _
   |_=>simp only[fw,Bool.false_eq_true] at h
 all_goals
   first
   |(simp only[fw,gk,Bool.false_eq_true] at h;done)
   |exact⟨mh (by simpa[fw] using h),λP w nx w' hr=>kh hr⟩
section
variable{P:Program}{ops:Array Oper}{Q:Exit->Act->World->Prop}{md:Region.Mode}{S:World->Prop}
def AQ(P:Program)(ops:Array Oper)(w:World)(o:Oper)(v:Value)(a:Act):Prop:=Region.wanted o (yielded ops a.tmps)=true/\(execOp a.eval o).run P w= .ok (.value v) w
theorem AQ.wpOp{i:Nat}{o:Oper}{v:Value}{a:Act}{w:World}(hi:ops[i]? =some o)(hy:AQ P ops w o v a){K:Act->World->Prop}(h:K (a.put o.dst v) w):wpOp P ops Q i K a w:=by
 unfold Go.wpOp
 simp only[hi,hy.1,if_true,Oper.wp,hy.2,Oper.upon]
 exact .inl h
theorem qc{i:Nat}{oi:Oper}{v:Value}{w0:World}{M D:Array Bool}(hi:ops[i]? =some oi)(hsel:∀(j:Nat) (o:Oper) cs b,ops[j]? =some o->o.op≠ .select cs b)
   (hQ:∀c a w,Q (.panic c) (a.put oi.dst v) w->Q (.panic c) a w)
   (hM:∀j oj,ops[j]? =some oj->M.getD j false=false->j≠i->∃e∈oj.after,Region.binds md e=true/\M.getD e.on false=false)
   (hMq:∀j oj,ops[j]? =some oj->M.getD j false=true->D.getD j true=false->j≠i->fw oj.op=true):
   ∀(fuel:Nat) (listed:Array Bool) (a:Act) (w:World),cE w0.heap.size w0 w->S w->(∀j,listed.getD j false=true->M.getD j false=true)->(∀j,listed.getD j true=false->D.getD j true=false)->
     (∀j oj,ops[j]? =some oj->j≠i->listed.getD j true=false->(∀e∈oj.after,Region.binds md e=true->e.on≠i)->oi.apart ops oj=true)->
     i∈Region.ready md ops listed->(∀w,cE w0.heap.size w0 w->AQ P ops w oi v a)->
     wpAnyH P md ops Q S fuel (listed.setIfInBounds i true) (a.put oi.dst v) w->wpAnyH P md ops Q S (fuel+1) listed a w:=by
 intro fuel
 induction fuel with
 |zero=>
   intro listed a w hw hS _ _ _ hr hy H
   refine⟨λh=>(by rw[h] at hr;cases hr),λj hj=>?_⟩
   by_cases hji:j=i
   · subst hji;exact(hy w hw).wpOp hi ⟨hS,H⟩
   · have:=ready_mono hj hji
     rw[H.1] at this
     cases this
 |succ fuel ih=>
   intro listed a w hw hS hsub hD hfree hr hy H
   refine⟨λh=>(by rw[h] at hr;cases hr),λj hj=>?_⟩
   by_cases hji:j=i
   · subst hji;exact(hy w hw).wpOp hi ⟨hS,H⟩
   · obtain⟨hjun,oj,hoj,hall⟩:=mem_ready.1 hj
     have hMj:M.getD j false=true:=by
       cases hm:M.getD j false with
       |true=>rfl
       |false=>
         obtain⟨e,he,hb,hn⟩:=hM j oj hoj hm hji
         have:=hsub _ (hall e he hb)
         rw[hn] at this;cases this
     have hkk:=hMq j oj hoj hMj (hD j hjun) hji
     have h1:=H.2 j (ready_mono hj hji)
     have hnot:∀e∈oj.after,Region.binds md e=true->e.on≠i:=λe he hb heq=>by
       have h1:=hall e he hb
       have h0:=(mem_ready.1 hr).1
       rw[heq] at h1
       rw[getD_both h0] at h1
       cases h1
     have hap:=hfree j oj hoj hji hjun hnot
     have hfree':∀k ok,ops[k]? =some ok->k≠i->(listed.setIfInBounds j true).getD k true=false->
         (∀e∈ok.after,Region.binds md e=true->e.on≠i)->oi.apart ops ok=true:=λk ok hk hki hun hno=>by
       refine hfree k ok hk hki ?_ hno
       by_cases hjk:j=k
       · subst hjk;exact hjun
       · rw[getD_set_ne true hjk] at hun;exact hun
     have hsub':∀k,(listed.setIfInBounds j true).getD k false=true->M.getD k false=true:=λk hk=>by
       by_cases hjk:j=k
       · subst hjk;exact hMj
       · rw[getD_set_ne false hjk] at hk;exact hsub k hk
     have hD':∀k,(listed.setIfInBounds j true).getD k true=false->D.getD k true=false:=λk hk=>by
       by_cases hjk:j=k
       · subst hjk;exact hD j hjun
       · rw[getD_set_ne true hjk] at hk;exact hD k hk
     obtain⟨g1,g2,g3⟩:=Oper.apart_spec hap
     have keep:∀u w,cE w0.heap.size w0 w->AQ P ops w oi v (a.put oj.dst u):=λu w hw=>by
       obtain⟨k1,k2⟩:=hy w hw
       refine⟨by rw[wanted_put oi a oj.dst u g3];exact k1,?_⟩
       rw[execOp_put oi (λcs b=>hsel i oi cs b hi) a oj.dst u g3];exact k2
     unfold Go.wpOp at h1 ⊢
     simp only[hoj] at h1 ⊢
     rw[wanted_put oj a oi.dst v g1] at h1
     cases hwt:Region.wanted oj (yielded ops a.tmps) with
     |false=>
       simp only[hwt,Bool.false_eq_true,if_false] at h1 ⊢
       refine⟨h1.1,ih (listed.setIfInBounds j true) (a.put oj.dst undef) w hw h1.1 hsub' hD' hfree' (ready_mono hr (Ne.symm hji)) (keep undef) ?_⟩
       rw[<-Act.put_comm a v undef g2,Array.setIfInBounds_comm _ _ hji]
       exact h1.2
     |true=>
       simp only[hwt,if_true] at h1 ⊢
       obtain⟨hke,hval⟩:=oa (ρ:=a.eval) hkk
       rcases h1 with h1|⟨h1,h2⟩
       · left
         unfold Oper.wp at h1 ⊢
         rw[execOp_put oj (λcs b=>hsel j oj cs b hoj) a oi.dst v g1] at h1
         obtain⟨dst,op,ty,pos,after,gd⟩:=oj
         cases hrun:(execOp a.eval ⟨dst,op,ty,pos,after,gd⟩).run P w with
         |halt x w'=>
           rw[hrun] at h1
           cases x<;>simp only[Oper.upon] at h1 ⊢
           case panic u=>exact hQ _ _ _ h1
         |ok nx w'=>
           rw[hrun] at h1
           have hb:=hke P w nx w' hrun
           have hw':cE w0.heap.size w0 w':=hw.trans (hb.mono hw.size)
           obtain⟨u,rfl⟩:=hval P w nx w' hrun
           simp only[Oper.upon] at h1 ⊢
           refine⟨h1.1,ih (listed.setIfInBounds j true) (a.put dst u) w' hw' h1.1 hsub' hD' hfree' (ready_mono hr (Ne.symm hji)) (keep u) ?_⟩
           have h3:=h1.2
           rw[show(a.put oi.dst v).put dst u=(a.put dst u).put oi.dst v from Act.put_comm a v u g2,Array.setIfInBounds_comm _ _ (Ne.symm hji)] at h3
           exact h3
       · right
         refine⟨?_,h2⟩
         unfold Oper.asks at*
         rw[execOp_put oj (λcs b=>hsel j oj cs b hoj) a oi.dst v g1] at h1
         exact h1
end
end TL
namespace TL
open Go
section
variable{P:Program}{n:Nat}{l:List Oper}{S:World->Prop}{K:Fr->World->Prop}{f:Fr}{w:World}{done:List Nat}{fuel:Nat}
variable{dst:Option Tmp}{op:Op}{ty:TypeId}{pos:String}{after:Array Edge}{g:Option (Nat×Bool)}{v:Value}
def rx(l:List Oper)(done M:List Nat)(i:Nat):Bool:=
 ((List.range l.length).all λj=>M.contains j||j==i||match l[j]? with
     |some oj=>oj.after.any λe=>Region.binds .any e&& !M.contains e.on
     |none=>true)&&
 (M.all λj=>j==i||done.contains j||match l[j]? with
     |some oj=>fw oj.op
     |none=>false)&&(done.all λj=>M.contains j&&decide (j<l.length))&&M.all λj=>decide (j<l.length)
theorem lf(i:Nat)(M:List Nat)(hi:l[i]? =some ⟨dst,op,ty,pos,after,g⟩)(hn:g7 l=true)(hc:(fJ l done i&&ij l done i&&rx l done M i&&lz n ⟨dst,op,ty,pos,after,g⟩)=true)
    (hw:d6 l ⟨dst,op,ty,pos,after,g⟩ f=true)(hS:S w)(h:∀w',cE w.heap.size w w'->(execOp (ev f) ⟨dst,op,ty,pos,after,g⟩).run P w'= .ok (.value v) w')(hk:rQ P n l S K fuel (i::done) (gN f dst v) w):rQ P n l S K (fuel+1) done f w:=by
  simp only[Bool.and_eq_true] at hc
  obtain⟨⟨⟨hr,hf⟩,hb⟩,hd⟩:=hc
  obtain⟨hlt,hr'⟩:=eV hr
  intro a ha
  unfold rx at hb
  simp only[Bool.and_eq_true,List.all_eq_true,List.mem_range] at hb
  obtain⟨⟨⟨b1,b2⟩,b3⟩,b4⟩:=hb
  have hgM:∀j,(cu l.length M).getD j false=true↔j∈M:=λj=>by
    rw[cP]
    by_cases hjl:j<l.length
    · simp[hjl]
    · simp only[hjl,if_false,Bool.false_eq_true,false_iff]
      exact λhm=>hjl (by simpa using b4 j hm)
  refine qc (v:=v) (w0:=w) (M:=cu l.length M) (D:=cu l.length done) (by simpa using hi) (gR hn) (λc a w h=>by cases h.1) (λj oj hj hm hne=>?_) (λj oj hj hm hD hne=>?_) fuel _ a w (cE.refl _ _) hS (λj hj=>?_) (λj hj=>hj) (fx hi hf) hr' (λw' hw'=>?_) ?_
  · have hj':l[j]? =some oj:=by simpa using hj
    have hjl:j<l.length:=(List.getElem?_eq_some_iff.1 hj').1
    have h1:=b1 j hjl
    have hmM:M.contains j=false:=by
      cases hc:M.contains j with
      |false=>rfl
      |true=>have h9:=(hgM j).2 (by simpa using hc);rw[hm] at h9;cases h9
    simp only[hmM,hj',Bool.false_or,Bool.or_eq_true,beq_iff_eq,hne,false_or] at h1
    obtain⟨e,he,hbb⟩:=Array.any_eq_true'.1 h1
    simp only[Bool.and_eq_true,Bool.not_eq_true'] at hbb
    refine⟨e,he,hbb.1,?_⟩
    cases hc:(cu l.length M).getD e.on false with
    |false=>rfl
    |true=>
      have:=(hgM _).1 hc
      have h2:=hbb.2
      simp[this] at h2
  · have h1:=b2 j ((hgM j).1 hm)
    have hj':l[j]? =some oj:=by simpa using hj
    have hjl:j<l.length:=(List.getElem?_eq_some_iff.1 hj').1
    rw[cP,if_pos hjl] at hD
    have hd:done.contains j=false:=by simpa using hD
    simp only[hj',Bool.or_eq_true,beq_iff_eq,hne,hd,false_or,Bool.false_eq_true] at h1
    exact h1
  · rw[cP] at hj
    split at hj
    · have h1:=b3 j (by simpa using hj)
      exact(hgM j).2 (by simpa using h1.1)
    · cases hj
  · refine⟨?_,?_⟩
    · rw[ha.yielded];exact hw
    · rw[ha.eval];exact h w' hw'
  · rw[dl done hlt]
    exact hk _ (ha.put hd v)
end
end TL
namespace TL
open Go
def sF:List Nat->List Item->List Item
  |[],k=>k
  |1::c,.code (.seq x y)::k=>sF c (.code x:: .code y::k)
  |2::c,.code (.cond _ _ y)::k=>sF c (.code y::k)
  |3::c,.code (.cond _ x _)::k=>sF c (.code x::k)
  |0::c,_::k=>sF c k
  |_,k=>k
theorem oC(c:List Nat){P:Program}{fid n:Nat}{R:Ending->World->Prop}{k:List Item}{f:Fr}{w:World}{σ:Type}(Mid:σ->Fr->World->Prop)
    (h:(∀s f w,Mid s f w->fo P fid n R (sF c k) f w)->fo P fid n R k f w)(hk:∀s f w,Mid s f w->fo P fid n R (sF c k) f w):fo P fid n R k f w:=h hk
end TL
/-
  TlGeomF: the document's way to tell how two segments meet: by the ends that both have.
  By an AI agent.
-/
set_option linter.all false
namespace TL
def eC(a b c d:Pt)(ends:List Pt):Nat->List Pt
 |0=>[]
 |k+1=>if cG a b c d (gI ends (k:Int))/\gI ends (k:Int)∉eC a b c d ends k then eC a b c d ends k++[gI ends (k:Int)] else eC a b c d ends k
def cd(a b c d:Pt):Int:=if fK a b c d then 1 else if(eC a b c d [a,b,c,d] 4).length=0 then 0 else if(eC a b c d [a,b,c,d] 4).length=1 then 2 else 3
section
variable{a b c d:Pt}{ends:List Pt}
theorem nZ:∀k:Nat,(eC a b c d ends k).length<=k
 |0=>by simp[eC]
 |k+1=>by
   have:=nZ k
   unfold eC
   split
   · simp;omega
   · omega
theorem lp:∀k:Nat,(eC a b c d ends k).Nodup
 |0=>by simp[eC]
 |k+1=>by
   have:=lp k
   unfold eC
   split
   · rename_i h
     rw[List.nodup_append]
     refine⟨this,by simp,λx hx y hy e=>?_⟩
     obtain rfl:=List.mem_singleton.1 hy
     rw[e] at hx;exact h.2 hx
   · exact this
theorem o9:∀{k:Nat} {e:Pt},e∈eC a b c d ends k↔(∃j:Nat,j<k/\gI ends (j:Int)=e)/\cG a b c d e
 |0,e=>by simp[eC]
 |k+1,e=>by
   have ih:=o9 (k:=k) (e:=e)
   unfold eC
   constructor
   · intro h
     split at h
     · rename_i hc
       rcases List.mem_append.1 h with h|h
       · obtain⟨⟨j,hj,e1⟩,h2⟩:=ih.1 h
         exact⟨⟨j,by omega,e1⟩,h2⟩
       · obtain rfl:=List.mem_singleton.1 h
         exact⟨⟨k,by omega,rfl⟩,hc.1⟩
     · obtain⟨⟨j,hj,e1⟩,h2⟩:=ih.1 h
       exact⟨⟨j,by omega,e1⟩,h2⟩
   · rintro⟨⟨j,hj,e1⟩,h2⟩
     by_cases hk:j=k
     · subst hk
       by_cases hm:gI ends (j:Int)∈eC a b c d ends j
       · rw[if_neg (λh=>h.2 hm),<-e1];exact hm
       · rw[if_pos ⟨by rw[e1];exact h2,hm⟩,<-e1];simp
     · have:=ih.2 ⟨⟨j,by omega,e1⟩,h2⟩
       split
       · simp[this]
       · exact this
theorem xg{e:Pt}:(∃j:Nat,j<4/\gI [a,b,c,d] (j:Int)=e)↔e∈[a,b,c,d]:=by
 constructor
 · rintro⟨j,hj,rfl⟩
   exact bk (by omega) (by simp;omega)
 · intro h
   obtain⟨j,hj,rfl⟩:=List.mem_iff_getElem.1 h
   exact⟨j,by simpa using hj,by unfold gI;rw[Int.toNat_natCast,List.getD_eq_getElem?_getD,List.getElem?_eq_getElem hj];rfl⟩
theorem sN{k:Nat}{l:List Pt}(h:l=eC a b c d ends k)(h1:cG a b c d (gI ends (k:Int)))(h2:gI ends (k:Int)∉l):l++[gI ends (k:Int)]=eC a b c d ends (k+1):=by
 rw[eC,if_pos ⟨h1,by rw[<-h];exact h2⟩,h]
theorem oz{k:Nat}{l:List Pt}(h:l=eC a b c d ends k)(h1:¬cG a b c d (gI ends (k:Int))):l=eC a b c d ends (k+1):=by
 rw[eC,if_neg (λh'=>h1 h'.1),h]
theorem ui{k:Nat}{l:List Pt}(h:l=eC a b c d ends k)(h2:gI ends (k:Int)∈l):l=eC a b c d ends (k+1):=by
 rw[eC,if_neg (λh'=>h'.2 (by rw[<-h];exact h2)),h]
theorem pD(ha:dH a)(hb:dH b)(hc:dH c)(hd:dH d):cd a b c d=bx a b c d:=by
  have hm:∀e,e∈eC a b c d [a,b,c,d] 4↔e∈[a,b,c,d]/\cG a b c d e:=λe=>by rw[o9,xg]
  have hn:=lp (a:=a) (b:=b) (c:=c) (d:=d) (ends:=[a,b,c,d]) 4
  generalize hL:eC a b c d [a,b,c,d] 4=L at hm hn
  unfold cd
  rw[hL]
  rcases kF ha hb hc hd with⟨h1,h2,h3⟩|⟨h1,h2⟩|⟨h1,h2,⟨e,he,hbe⟩,h4⟩|⟨h1,h2,e,he,e',he',hbb,hne⟩
  · have:L=[]:=List.eq_nil_iff_forall_not_mem.2 λe he=>h3 e ((hm e).1 he).1 ((hm e).1 he).2
    rw[if_neg h2,this,h1];rfl
  · rw[if_pos h2,h1]
  · have hL1:L.length=1:=by
      have p1:=List.length_pos_of_mem ((hm e).2 ⟨he,hbe⟩)
      match L,hm,hn,p1 with
      |[x],_,_,_=>rfl
      |x::y::l,hm,hn,_=>
        have mx:=(hm x).1 (by simp)
        have my:=(hm y).1 (by simp)
        have:=h4 x mx.1 y my.1 mx.2 my.2
        rw[this] at hn
        simp at hn
    rw[if_neg h2,hL1,h1];rfl
  · have hL2:2<=L.length:=by
      have m1:=(hm e).2 ⟨he,hbb.1⟩
      have m2:=(hm e').2 ⟨he',hbb.2⟩
      match L,m1,m2 with
      |[x],m1,m2=>
        have k1:=List.mem_singleton.1 m1
        have k2:=List.mem_singleton.1 m2
        exact absurd (k1.trans k2.symm) hne
      |x::y::l,_,_=>simp
    rw[if_neg h2,if_neg (by omega),if_neg (by omega),h1]
theorem pV(h1:bG a b c*bG a b d<0)(h2:bG c d a*bG c d b<0):1=cd a b c d:=by unfold cd;rw[if_pos ⟨h1,h2⟩]
theorem xO{l:List Pt}(h:l=eC a b c d [a,b,c,d] 4)(hc:¬fK a b c d):(l.length=0->0=cd a b c d)/\(l.length=1->2=cd a b c d)/\(l.length≠0->l.length≠1->3=cd a b c d):=by
 unfold cd
 rw[if_neg hc,<-h]
 refine⟨λh=>by rw[if_pos h],λh=>by rw[if_neg (by omega),if_pos h],λh1 h2=>by rw[if_neg h1,if_neg h2]⟩
end
end TL
namespace TL
def vX(l:List Pt)(e:Pt):Nat->Bool
  |0=>true
  |k+1=>vX l e k&& !decide (gI l (k:Int)=e)
theorem rF{l:List Pt}{e:Pt}:∀k:Nat,vX l e k=true↔∀j:Nat,j<k->gI l (j:Int)≠e
 |0=>by simp[vX]
 |k+1=>by
   unfold vX
   rw[Bool.and_eq_true,rF k]
   constructor
   · rintro⟨h1,h2⟩ j hj
     by_cases c:j=k
     · subst c;simpa using h2
     · exact h1 j (by omega)
   · intro h
     exact⟨λj hj=>h j (by omega),by simpa using h k (by omega)⟩
theorem yU{l:List Pt}{e:Pt}{k:Nat}(hk:¬(k:Int)<l.length)(hk2:k<=l.length):vX l e k=true↔e∉l:=by
 rw[rF]
 constructor
 · intro h hm
   obtain⟨j,hj,rfl⟩:=List.mem_iff_getElem.1 hm
   exact h j (by omega) (by simp[gI,hj])
 · intro h j hj e0
   exact h (by rw[<-e0];exact bk (by omega) (by omega))
section
variable{a b c d:Pt}
end
end TL
namespace TL
theorem s7{a b c d:Pt}(ha:dH a)(hb:dH b)(hc:dH c)(hd:dH d){i:Nat}(hi:(i:Int)<4):dH (gI [a,b,c,d] (i:Int)):=by
 have hm:gI [a,b,c,d] (i:Int)∈[a,b,c,d]:=bk (by omega) (by simp;omega)
 simp only[List.mem_cons,List.not_mem_nil,or_false] at hm
 rcases hm with hm|hm|hm|hm<;>rw[hm]<;>assumption
end TL
/-
  TlJudge2: what is told of a plot; its rotation.
  By an AI agent.
-/
set_option linter.all false
namespace TL
def aX(p:dS):List Pt:=p.1++p.2.flatten
theorem oY{p:dS}{l:List Pt}{k:Nat}(h:l=p.1++(p.2.take k).flatten/\(l.length:Int)<=1024+4096*(k:Int))(hk:(k:Int)<p.2.length)(hl:(gI p.2 (k:Int)).length<=4096):l++gI p.2 (k:Int)=p.1++(p.2.take (k+1)).flatten/\((l++gI p.2 (k:Int)).length:Int)<=1024+4096*((k+1:Nat):Int):=by
 refine⟨by rw[bB hk,h.1];simp,?_⟩
 rw[List.length_append];have:=h.2;omega
theorem s3{p:dS}{l:List Pt}{k:Nat}(h:l=p.1++(p.2.take k).flatten)(hk:¬(k:Int)<p.2.length):l=aX p:=by
 rw[List.take_of_length_le (by omega)] at h;exact h
def gG(p:dS):Nat->Int
 |0=>0
 |k+1=>gG p k+(((gI p.2 (k:Int)).length:Int)-2)
theorem lm{p:dS}(h:∀e:Int,0<=e->e<p.2.length->2<=((gI p.2 e).length:Int)/\dy (gI p.2 e)):∀k:Nat,(k:Int)<=p.2.length->0<=gG p k/\gG p k<=4096*(k:Int)
 |0,_=>by simp[gG]
 |k+1,hk=>by
   have h1:=lm h k (by omega)
   obtain⟨h2,h3,_⟩:=h (k:Int) (by omega) (by omega)
   unfold gG;omega
def eP(f:Nat->Bool):Nat->Bool
 |0=>true
 |k+1=>eP f k&&f k
def kS(l:List Pt)(j:Nat):Bool:=decide ((gI l (j:Int)).1=(gI l ((j:Int)+1)).1\/(gI l (j:Int)).2=(gI l ((j:Int)+1)).2)
def AU(p:dS)(e:Nat):Bool:=eP (kS (gI p.2 (e:Int))) ((gI p.2 (e:Int)).length-1)
def iu(p:dS)(k:Nat):Bool:=eP (AU p) k
section
variable{p:dS}{l:List Pt}{a b:Bool}{i k:Nat}
theorem xT(h:a=iu p k):1<=(1:Nat)/\a=(iu p k&&eP (kS l) (1-1)):=⟨Nat.le_refl _,by rw[h];simp[eP]⟩
theorem Ar(h:1<=i/\a=(iu p k&&eP (kS l) (i-1)))(ha:a=true)(hx:(gI l ((i:Int)-1)).1=(gI l (i:Int)).1):1<=i+1/\true=(iu p k&&eP (kS l) (i+1-1)):=by
 obtain⟨h1,h2⟩:=h
 refine⟨by omega,?_⟩
 obtain⟨j,rfl⟩:∃j,i=j+1:=⟨i-1,by omega⟩
 have e:(((j+1:Nat):Int)-1)=(j:Int):=by omega
 have e2:((j+1:Nat):Int)=(j:Int)+1:=by omega
 rw[e,e2] at hx
 rw[Nat.add_sub_cancel,eP,<-Bool.and_assoc]
 rw[Nat.add_sub_cancel] at h2
 rw[<-h2,ha]
 unfold kS
 rw[decide_eq_true (.inl hx)];rfl
theorem Al(h:1<=i/\a=(iu p k&&eP (kS l) (i-1)))(ha:a=true)(hx:¬(gI l ((i:Int)-1)).1=(gI l (i:Int)).1):1<=i+1/\decide ((gI l ((i:Int)-1)).2=(gI l (i:Int)).2)=(iu p k&&eP (kS l) (i+1-1)):=by
 obtain⟨h1,h2⟩:=h
 refine⟨by omega,?_⟩
 obtain⟨j,rfl⟩:∃j,i=j+1:=⟨i-1,by omega⟩
 have e:(((j+1:Nat):Int)-1)=(j:Int):=by omega
 have e2:((j+1:Nat):Int)=(j:Int)+1:=by omega
 rw[e,e2] at hx ⊢
 rw[Nat.add_sub_cancel,eP,<-Bool.and_assoc]
 rw[Nat.add_sub_cancel] at h2
 rw[<-h2,ha]
 unfold kS
 rw[Bool.true_and,decide_eq_decide]
 exact⟨.inr,λh=>h.resolve_left hx⟩
theorem Ap(h:1<=i/\a=(iu p k&&eP (kS l) (i-1)))(ha:¬a=true):1<=i+1/\false=(iu p k&&eP (kS l) (i+1-1)):=by
 obtain⟨h1,h2⟩:=h
 refine⟨by omega,?_⟩
 obtain⟨j,rfl⟩:∃j,i=j+1:=⟨i-1,by omega⟩
 rw[Nat.add_sub_cancel,eP,<-Bool.and_assoc]
 rw[Nat.add_sub_cancel] at h2
 rw[<-h2,Bool.eq_false_iff.2 ha];rfl
theorem tI(hb:b=iu p k)(h:1<=i/\a=(iu p k&&eP (kS (gI p.2 (k:Int))) (i-1)))(hi:¬(i:Int)<(gI p.2 (k:Int)).length)(hi2:(i:Int)<=(gI p.2 (k:Int)).length):a=iu p (k+1):=by
 have:i=(gI p.2 (k:Int)).length:=by omega
 rw[h.2,this];rfl
end
def ry(p:dS):Int×Int:=
 if 0<((aX p).length:Int) then((gO (aX p) (aX p).length).1-(gL (aX p) (aX p).length).1,(gO (aX p) (aX p).length).2-(gL (aX p) (aX p).length).2) else(0,0)
def mF(p:dS):Int×Int×Int×Bool×Bool:=(gG p p.2.length,(ry p).1,(ry p).2,decide (gG p p.2.length=0),iu p p.2.length)
def aC(g:d5)(p:dS):(Int×Int×Int×Bool×Bool)×Int:=
 if c8 g then if bL g p=[] then(mF p,0) else((0,0,0,false,false),24) else((0,0,0,false,false),1)
section
variable{g:d5}{p:dS}
theorem vv(h:vY g p):∀q∈aX p,cC q:=by
 intro q hq
 unfold aX at hq
 rcases List.mem_append.1 hq with hq|hq
 · obtain⟨i,hi,rfl⟩:=List.mem_iff_getElem.1 hq
   have:=h.pt (i:Int) (by omega) (by omega)
   rwa[show gI p.1 (i:Int)=p.1[i] by simp[gI,hi]] at this
 · obtain⟨l,hl,hq⟩:=List.mem_flatten.1 hq
   obtain⟨i,hi,rfl⟩:=List.mem_iff_getElem.1 hl
   have:=(h.ln (i:Int) (by omega) (by omega)).2.2
   rw[show gI p.2 (i:Int)=p.2[i] by simp[gI,hi]] at this
   exact this q hq
theorem uq{l:List Pt}(h:∀q∈l,cC q)(h0:0<l.length):∀k:Nat,k<=l.length->cC (gL l k)/\cC (gO l k)
 |0,_=>⟨h _ (bk (by omega) (by omega)),h _ (bk (by omega) (by omega))⟩
 |k+1,hk=>by
   obtain⟨h1,h2⟩:=uq h h0 k (by omega)
   have h3:=h _ (bk (xs:=l) (i:=(k:Int)) (by omega) (by omega))
   unfold gL gO
   unfold cC at*
   simp only
   omega
theorem ng(h:¬c8 g):aC g p=((0,0,0,false,false),1):=by unfold aC;rw[if_neg h]
theorem l7(h:c8 g){F:List bX}(hF:F=bL g p)(h1:0<(F.length:Int)):aC g p=((0,0,0,false,false),24):=by
 unfold aC
 rw[if_pos h,if_neg]
 intro e
 rw[hF,e] at h1
 simp at h1
theorem iN(h:c8 g)(h1:bL g p=[]):aC g p=(mF p,0):=by unfold aC;rw[if_pos h,if_pos h1]
theorem uR{n:Int}{a:Bool}{k q:Nat}{x1 x2 y1 y2:Int}(hn:n=gG p k)(ha:a=iu p k)(hk:k=p.2.length)(h0:0<((aX p).length:Int))(hb:(x1=(gL (aX p) q).1/\x2=(gL (aX p) q).2)/\y1=(gO (aX p) q).1/\y2=(gO (aX p) q).2)(hq:q=(aX p).length):
   (n,y1-x1,y2-x2,decide (n=0),a)=mF p:=by
 obtain⟨⟨e1,e2⟩,e3,e4⟩:=hb
 subst hk hq
 unfold mF ry
 rw[if_pos h0,hn,ha,e1,e2,e3,e4]
theorem uP{n:Int}{a:Bool}{k:Nat}(hn:n=gG p k)(ha:a=iu p k)(hk:k=p.2.length)(h0:¬0<((aX p).length:Int)):(n,0,0,decide (n=0),a)=mF p:=by
 subst hk
 unfold mF ry
 rw[if_neg h0,hn,ha]
end
def fb(p:dS)(l:List Int):List Pt:=l.map (dJ p)
noncomputable def tuL (p:dS) (o:Pt) (l:List Int):List Int:=(arL o (fb p l)).map (gI l)
def nV(p:dS)(o:Pt)(l:List Int):Prop:=∃j:Nat,j<l.length/\0<j/\eB (aY (gI (fb p l) (gI (arL o (fb p l)) ((j:Int)-1))) o) (aY (gI (fb p l) (gI (arL o (fb p l)) (j:Int))) o)
noncomputable instance (p:dS) (o:Pt) (l:List Int):Decidable (nV p o l):=by unfold nV;infer_instance
noncomputable def tuS (g:d5) (p:dS):cT:=(List.range g.1.toNat).map λ(v:Nat)=>tuL p (gI p.1 (v:Int)) (cU g (v:Int))
def lE(g:d5)(p:dS):Prop:=∃v:Nat,v<g.1.toNat/\nV p (gI p.1 (v:Int)) (cU g (v:Int))
noncomputable instance (g:d5) (p:dS):Decidable (lE g p):=by unfold lE;infer_instance
noncomputable def turnsR (g:d5) (p:dS):cT×Int:=
 if c8 g then if bT g p=[] then if lE g p then([],24) else(aU (tuS g p),0) else([],24) else([],1)
end TL
/-
  TlCyc: lists gone round: what stands behind what; rotations turned, and moved.
  By an AI agent.
-/
set_option linter.all false
namespace TL
theorem mI(l:List Int):List.Perm (fq l) l:=by
 unfold fq
 split
 · rename_i h;rw[h]
 · exact List.perm_append_comm.trans (by rw[List.take_append_drop])
theorem oq{r:cT}{v:Nat}(hv:(v:Int)<r.length):gI (aU r) (v:Int)=fq (gI r (v:Int)):=by
 unfold aU
 rw[zD _ (by omega) hv]
theorem j5(r:cT):(aU r).length=r.length:=by simp[aU]
theorem je.canon{g:d5}{r:cT}(hr:je g r):je g (aU r):=by
 have hp:=mE (aU r) r (j5 r) (λq hq=>by rw[oq (by omega)];exact mI _)
 refine⟨by rw[j5];exact hr.1,λv hv h hh=>?_,hp.nodup_iff.2 hr.2.2.1,by rw[hp.length_eq];exact hr.2.2.2⟩
 rw[j5] at hv
 rw[oq (by omega)] at hh
 exact hr.2.1 v hv h ((mI _).mem_iff.1 hh)
section
variable{g:d5}{r:cT}{to:List Int}
end
theorem qn{g:d5}{r:cT}(hm:c8 g)(hrp:je g r):dM g r=(aU r,0):=by unfold dM;rw[if_pos (jH hm hrp)]
end TL
/-
  TlJudge3: a plot's rotation: the half-edges of each node, turned.
  By an AI agent.
-/
set_option linter.all false
namespace TL
theorem wI{α β:Type}[Inhabited α][Inhabited β]{f:α->β}{l:List α}{i:Int}(h0:0<=i)(h1:i<l.length):gI (l.map f) i=f (gI l i):=by
 have h:i.toNat<l.length:=by omega
 unfold gI
 rw[List.getD_eq_getElem?_getD,List.getD_eq_getElem?_getD,List.getElem?_map,List.getElem?_eq_getElem h];rfl
theorem qH{α:Type}[Inhabited α]{l:List α}{x:α}(h:x∈l):∃j:Nat,j<l.length/\gI l (j:Int)=x:=by
 obtain⟨j,hj,rfl⟩:=List.mem_iff_getElem.1 h
 exact⟨j,hj,by simp[gI,hj]⟩
section
variable{g:d5}{p:dS}
theorem rA{v h:Int}:h∈cU g v↔(0<=h/\h<2*(g.2.length:Int))/\bv g h=v:=by
 unfold cU jk
 rw[List.mem_filter,List.mem_map]
 constructor
 · rintro⟨⟨i,hi,rfl⟩,hf⟩
   have:=List.mem_range.1 hi
   exact⟨by omega,of_decide_eq_true hf⟩
 · rintro⟨h1,h2⟩
   exact⟨⟨h.toNat,List.mem_range.2 (by omega),by omega⟩,decide_eq_true h2⟩
theorem sD{v:Int}:(cU g v).Nodup:=by
 unfold cU jk
 refine List.Nodup.sublist List.filter_sublist ?_
 unfold List.Nodup
 rw[List.pairwise_map]
 refine List.Pairwise.imp ?_ List.nodup_range
 intro a b h e
 exact h (by omega)
theorem nm{v:Int}:((cU g v).length:Int)<=2*(g.2.length:Int):=by
 have:=mM g v g.2.length
 unfold cU;omega
theorem sC{r:cT}(hm:c8 g)(hl:(r.length:Int)=g.1)(hrow:∀v:Nat,v<r.length->(gI r (v:Int)).Nodup/\∀h,h∈gI r (v:Int)↔(0<=h/\h<2*(g.2.length:Int))/\bv g h=v):je g r:=by
 have hn:r.flatten.Nodup:=by
   unfold List.Nodup
   rw[List.pairwise_flatten]
   refine⟨λl hl=>?_,?_⟩
   · obtain⟨v,hv,rfl⟩:=qH hl
     exact(hrow v hv).1
   · rw[List.pairwise_iff_getElem]
     intro i j hi hj hij x hx y hy e
     subst e
     have e1:gI r (i:Int)=r[i]:=by simp[gI,hi]
     have e2:gI r (j:Int)=r[j]:=by simp[gI,hj]
     have h1:=((hrow i hi).2 x).1 (by rw[e1];exact hx)
     have h2:=((hrow j hj).2 x).1 (by rw[e2];exact hy)
     have:=h1.2.symm.trans h2.2
     omega
 refine⟨hl,λv hv h hh=>((hrow v hv).2 h).1 hh,hn,?_⟩
 have hp:r.flatten.Perm (jl (2*g.2.length)):=by
   rw[List.perm_ext_iff_of_nodup hn (qf _)]
   intro h
   rw[List.mem_flatten,oM]
   constructor
   · rintro⟨l,hl,hh⟩
     obtain⟨v,hv,rfl⟩:=qH hl
     have:=(((hrow v hv).2 h).1 hh).1
     omega
   · intro hh
     have hf:=ot hm (h:=h) (by omega) (by omega)
     have hv:(bv g h).toNat<r.length:=by omega
     refine⟨gI r (((bv g h).toNat:Nat):Int),bk (by omega) (by omega),((hrow _ hv).2 h).2 ⟨by omega,by omega⟩⟩
 have:=hp.length_eq
 rw[tO] at this
 omega
structure AR(g:d5)(p:dS):Prop where
  sh:vY g p
  pl:∀v w:Nat,v<w->w<p.1.length->gI p.1 (v:Int)≠gI p.1 (w:Int)
  en:∀e:Int,0<=e->e<p.2.length->lV g p e
  si:∀e:Int,0<=e->e<p.2.length->fp (gI p.2 e)
  nd:∀e v:Nat,e<p.2.length->v<p.1.length->(v:Int)≠(gI g.2 (e:Int)).1->(v:Int)≠(gI g.2 (e:Int)).2->¬e9 (gI p.2 (e:Int)) (gI p.1 (v:Int))
  ap:∀e f:Nat,e<f->f<p.2.length->ke (gI p.2 (e:Int)) (gI p.2 (f:Int)) (ko g p (e:Int) (f:Int))
theorem lA:bT g p=[]↔AR g p:=by
 unfold bT
 by_cases hs:bL g p=[]
 · rw[if_pos hs]
   have hsh:=kx.1 hs
   rw[List.append_eq_nil_iff,List.append_eq_nil_iff]
   constructor
   · rintro⟨⟨h1,h2⟩,h3⟩
     rw[if_pos h2,List.append_eq_nil_iff] at h3
     unfold fj at h2
     rw[List.append_eq_nil_iff,cR,cR] at h2
     refine⟨hsh,λv w hvw hw e=>?_,λe h0 h4=>?_,λe h0 h4=>?_,λe v he hv hn1 hn2 ho=>?_,λe f hef hf=>?_⟩
     · have k1:=cR.1 h1 v (by omega)
       have k2:=cR.1 k1 w hw
       exact i9.1 k2 ⟨hvw,e⟩
     · have k1:=h2.1 e.toNat (by omega)
       have k2:=i9.1 k1
       rw[Int.toNat_of_nonneg h0] at k2
       exact Classical.not_not.1 k2
     · have k1:=h2.2 e.toNat (by omega)
       have k2:=i9.1 k1
       rw[Int.toNat_of_nonneg h0] at k2
       exact Classical.not_not.1 k2
     · have k1:=cR.1 h3.1 e he
       have k2:=cR.1 k1 v hv
       exact i9.1 k2 ⟨⟨hn1,hn2⟩,ho⟩
     · have k1:=cR.1 h3.2 e (by omega)
       have k2:=cR.1 k1 f hf
       exact Classical.not_not.1 λc=>i9.1 k2 ⟨hef,c⟩
   · intro h
     have hL:fj g p=[]:=by
       unfold fj
       rw[List.append_eq_nil_iff]
       exact⟨fy λe he=>dx (Classical.not_not.2 (h.en _ (by omega) (by omega))),fy λe he=>dx (Classical.not_not.2 (h.si _ (by omega) (by omega)))⟩
     refine⟨⟨fy λv hv=>fy λw hw=>dx λc=>h.pl v w c.1 hw c.2,hL⟩,?_⟩
     rw[if_pos hL,List.append_eq_nil_iff]
     exact⟨fy λe he=>fy λv hv=>dx λc=>h.nd e v he hv c.1.1 c.1.2 c.2,fy λe he=>fy λf hf=>dx λc=>c.2 (h.ap e f c.1 hf)⟩
 · rw[if_neg hs]
   exact⟨λh=>absurd h hs,λh=>absurd (kx.2 h.sh) hs⟩
theorem l4(hm:c8 g)(hc:AR g p){v h:Int}(hh:h∈cU g v):((0<=h/\h<2*(p.2.length:Int))/\2<=((gI p.2 (h/2)).length:Int))/\cC (dJ p h)/\dJ p h≠gI p.1 v:=by
  obtain⟨⟨h0,h1⟩,hf⟩:=rA.1 hh
  have hs:=hc.sh
  have hm2:=hs.m
  have e0:0<=h/2:=by omega
  have e1:h/2<p.2.length:=by omega
  obtain⟨l1,l2,l3⟩:=hs.ln _ e0 e1
  have hen:=hc.en _ e0 e1
  have hsi:=hc.si _ e0 e1
  refine⟨⟨⟨h0,by omega⟩,l1⟩,?_⟩
  unfold dJ
  unfold lV at hen
  unfold bv pI at hf
  rcases(by omega:h%2=0\/h%2=1) with c|c
  · rw[if_pos c]
    rw[c] at hf
    refine⟨l3 _ (bk (by omega) (by omega)),λe=>?_⟩
    have k1:=(hsi 0 (by omega) (by omega)).1
    have hf':(gI g.2 (h/2)).1=v:=by simpa using hf
    rw[<-hf',<-hen.1] at e
    exact k1 e.symm
  · rw[if_neg (by omega)]
    rw[c] at hf
    refine⟨l3 _ (bk (by omega) (by omega)),λe=>?_⟩
    have k1:=(hsi ((gI p.2 (h/2)).length-2) (by omega) (by omega)).1
    have hf':(gI g.2 (h/2)).2=v:=by simpa using hf
    rw[<-hf',<-hen.2] at e
    rw[show(((gI p.2 (h/2)).length-2:Nat):Int)=((gI p.2 (h/2)).length:Int)-2 by omega,show((gI p.2 (h/2)).length:Int)-2+1=((gI p.2 (h/2)).length:Int)-1 by omega] at k1
    exact k1 e
theorem nF(hm:c8 g)(hc:AR g p)(hfew:(g.2.length:Int)<=2000)(v:Int):dy (fb p (cU g v))/\jn (gI p.1 v) (fb p (cU g v)):=by
 have hl:=nm (g:=g) (v:=v)
 refine⟨⟨by unfold fb;rw[List.length_map];omega,λq hq=>?_⟩,λi hi=>?_⟩
 · obtain⟨h,hh,rfl⟩:=List.mem_map.1 hq
   exact(l4 hm hc hh).2.1
 · unfold fb at hi ⊢
   rw[List.length_map] at hi
   rw[wI (by omega) (by omega)]
   exact(l4 hm hc (bk (by omega) (by omega))).2.2
theorem xQ{o:Pt}{ps:List Pt}(hz:jn o ps):(arL o ps).Perm (gx ps.length):=by
 obtain⟨h1,h2⟩:=kw hz
 have n1:(arL o ps).Nodup:=List.Pairwise.imp (λ {a b} h e=>by subst e;exact i6 _ _ h) h1
 have n2:(gx ps.length).Nodup:=by
   unfold gx List.Nodup
   rw[List.pairwise_map]
   refine List.Pairwise.imp ?_ List.nodup_range
   intro a b h e
   exact h (by omega)
 rw[List.perm_ext_iff_of_nodup n1 n2]
 intro x
 rw[h2 x]
 unfold gx
 rw[List.mem_map]
 constructor
 · intro h
   exact⟨x.toNat,List.mem_range.2 (by omega),by omega⟩
 · rintro⟨i,hi,rfl⟩
   have:=List.mem_range.1 hi
   omega
theorem yo(l:List Int):(gx l.length).map (gI l)=l:=by
 apply List.ext_getElem
 · simp[gx]
 · intro i h1 h2
   simp[gx,gI,h2]
theorem wq{o:Pt}{l:List Int}(hz:jn o (fb p l)):(tuL p o l).Perm l:=by
 have h:=(xQ hz).map (gI l)
 have e:(fb p l).length=l.length:=by simp[fb]
 rw[e,yo] at h
 exact h
theorem yK(hm:c8 g){v:Nat}(hv:(v:Int)<g.1):gI (tuS g p) (v:Int)=tuL p (gI p.1 (v:Int)) (cU g (v:Int)):=by
 unfold tuS
 have:v<g.1.toNat:=by omega
 simp[gI,this]
theorem j7:(tuS g p).length=g.1.toNat:=by simp[tuS]
theorem qU(hm:c8 g)(hc:AR g p)(hfew:(g.2.length:Int)<=2000):je g (tuS g p):=by
 have h0:=hm.1
 refine sC hm (by rw[j7];omega) λv hv=>?_
 rw[j7] at hv
 have hp:=wq (p:=p) (nF hm hc hfew (v:Int)).2
 rw[yK hm (by omega)]
 exact⟨hp.nodup_iff.2 sD,λh=>by rw[hp.mem_iff];exact rA⟩
structure jd(g:d5)(p:dS)(first:cT)(v:Nat):Prop where
 len:first.length=g.1.toNat
 row:∀j:Nat,j<g.1.toNat->gI first (j:Int)=if j<v then tuL p (gI p.1 (j:Int)) (cU g (j:Int)) else cU g (j:Int)
 ok:∀j:Nat,j<v->¬nV p (gI p.1 (j:Int)) (cU g (j:Int))
theorem jd.start(hm:c8 g):jd g p (bM g) 0:=by
 have h0:=hm.1
 refine⟨by simp[bM],λj hj=>?_,λj hj=>by omega⟩
 rw[if_neg (by omega)]
 unfold bM
 simp[gI,hj]
theorem jd.start'(hm:c8 g){r:cT}(h:r=bM g):jd g p r 0:=h▸jd.start hm
theorem jd.now{first:cT}{v:Nat}(h:jd g p first v)(hv:v<g.1.toNat):gI first (v:Int)=cU g (v:Int):=by
 rw[h.row v hv,if_neg (by omega)]
theorem jd.next{first:cT}{v:Nat}{X:List Int}(h:jd g p first v)(hv:v<g.1.toNat)(hX:X=tuL p (gI p.1 (v:Int)) (cU g (v:Int)))(hn:¬nV p (gI p.1 (v:Int)) (cU g (v:Int))):jd g p (first.set (Int.toNat (v:Int)) X) (v+1):=by
 have hl:=h.len
 refine⟨by simpa using hl,λj hj=>?_,λj hj=>?_⟩
 · rw[fu (by omega) (by omega) (by omega)]
   by_cases e:(j:Int)=(v:Int)
   · have:j=v:=by omega
     subst this
     rw[if_pos rfl,if_pos (by omega),hX]
   · rw[if_neg e,h.row j hj]
     by_cases c:j<v
     · rw[if_pos c,if_pos (by omega)]
     · rw[if_neg c,if_neg (by omega)]
 · by_cases e:j=v
   · subst e;exact hn
   · exact h.ok j (by omega)
theorem jd.fin{first:cT}{v:Nat}(h:jd g p first v)(hv:v=g.1.toNat):first=tuS g p/\¬lE g p:=by
 subst hv
 refine⟨?_,λ⟨v,hv,hb⟩=>h.ok v hv hb⟩
 apply List.ext_getElem
 · rw[h.len,j7]
 · intro i h1 h2
   have hi:i<g.1.toNat:=by rw[<-h.len];exact h1
   have:=h.row i hi
   rw[if_pos hi] at this
   have e1:gI first (i:Int)=first[i]:=by simp[gI,h1]
   rw[<-e1,this]
   simp[tuS]
theorem s9{to_:List Pt}{l:List Int}{k:Nat}(h:to_=(l.take k).map (dJ p))(hk:(k:Int)<l.length):to_++[dJ p (gI l (k:Int))]=(l.take (k+1)).map (dJ p):=by
 rw[bB hk,List.map_append,h];rfl
theorem tx{to_:List Pt}{l:List Int}{k:Nat}(h:to_=(l.take k).map (dJ p))(hk:¬(k:Int)<l.length):to_=fb p l:=by
 rw[h,List.take_of_length_le (by omega)];rfl
def nw(p:dS)(o:Pt)(l T:List Int)(i:Nat):Prop:=T=((arL o (fb p l)).take i).map (gI l)/\∀j:Nat,j<i->0<j->¬eB (aY (gI (fb p l) (gI (arL o (fb p l)) ((j:Int)-1))) o) (aY (gI (fb p l) (gI (arL o (fb p l)) (j:Int))) o)
theorem nw.start{o:Pt}{l:List Int}:nw p o l [] 0:=⟨rfl,λj hj=>by omega⟩
theorem nw.next{o:Pt}{l T:List Int}{i:Nat}(h:nw p o l T i)(hi:(i:Int)<(arL o (fb p l)).length)(hs:¬0<(i:Int)\/¬decide (eB (aY (gI (fb p l) (gI (arL o (fb p l)) ((i:Int)-1))) o) (aY (gI (fb p l) (gI (arL o (fb p l)) (i:Int))) o))=true):
   nw p o l (T++[gI l (gI (arL o (fb p l)) (i:Int))]) (i+1):=by
 refine⟨by rw[bB hi,List.map_append,h.1];rfl,λj hj h0 hb=>?_⟩
 by_cases e:j=i
 · subst e
   rcases hs with hs|hs
   · omega
   · exact hs (decide_eq_true hb)
 · exact h.2 j (by omega) h0 hb
theorem nw.fin{o:Pt}{l T:List Int}{i:Nat}(hz:jn o (fb p l))(h:nw p o l T i)(hi:¬(i:Int)<(arL o (fb p l)).length):T=tuL p o l/\¬nV p o l:=by
 have hl:=iV hz
 have e:(fb p l).length=l.length:=by simp[fb]
 refine⟨by rw[h.1,List.take_of_length_le (by omega)];rfl,λ⟨j,hj,h0,hb⟩=>h.2 j (by omega) h0 hb⟩
theorem nw.bad{v:Nat}{i:Nat}(hv:v<g.1.toNat)(hz:jn (gI p.1 (v:Int)) (fb p (cU g (v:Int))))(hi:(i:Int)<(arL (gI p.1 (v:Int)) (fb p (cU g (v:Int)))).length)(h0:0<(i:Int))
   (hs:decide (eB (aY (gI (fb p (cU g (v:Int))) (gI (arL (gI p.1 (v:Int)) (fb p (cU g (v:Int)))) ((i:Int)-1))) (gI p.1 (v:Int))) (aY (gI (fb p (cU g (v:Int))) (gI (arL (gI p.1 (v:Int)) (fb p (cU g (v:Int)))) (i:Int))) (gI p.1 (v:Int))))=true):lE g p:=by
 have hl:=iV hz
 have e:(fb p (cU g (v:Int))).length=(cU g (v:Int)).length:=by simp[fb]
 exact⟨v,hv,i,by omega,by omega,of_decide_eq_true hs⟩
theorem jI(h:¬c8 g):turnsR g p=([],1):=by unfold turnsR;rw[if_neg h]
theorem gW(h:c8 g)(h1:¬bT g p=[]):turnsR g p=([],24):=by unfold turnsR;rw[if_pos h,if_neg h1]
theorem fV(h:c8 g)(h1:bT g p=[])(h2:lE g p):turnsR g p=([],24):=by unfold turnsR;rw[if_pos h,if_pos h1,if_pos h2]
theorem gY(h:c8 g)(h1:bT g p=[])(h2:¬lE g p):turnsR g p=(aU (tuS g p),0):=by unfold turnsR;rw[if_pos h,if_pos h1,if_neg h2]
theorem kN(h:c8 g)(h1:bT g p=[])(hfew:(g.2.length:Int)<=2000){first:cT}{v:Nat}(ht:jd g p first v)(hv:v=g.1.toNat):dM g first=turnsR g p:=by
 obtain⟨e,hb⟩:=ht.fin hv
 rw[e,gY h h1 hb,qn h (qU h (lA.1 h1) hfew)]
end
end TL
/-
  TlJudge4: directions around a point; a plot turned by a quarter; the example's rotation.
  By an AI agent.
-/
set_option linter.all false
namespace TL
section
variable{u v w:Pt}
theorem nB(hu:Up u)(hv:Up v)(hc:dQ u v=0):0<ka u v:=by
 unfold dQ at hc
 unfold ka
 unfold Up at hu hv
 rcases hu with hu|⟨hu1,hu2⟩
 · rcases hv with hv|⟨hv1,hv2⟩
   · have h1:=Int.mul_pos hu hv
     have h2:0<=u.2*v.2:=by
       refine Classical.byContradiction λhn=>?_
       have h3:=Int.mul_neg_of_pos_of_neg hv (show u.2*v.2<0 by omega)
       have h4:v.1*(u.2*v.2)=u.1*(v.2*v.2):=by
         have:u.1*v.2=u.2*v.1:=by omega
         calc v.1*(u.2*v.2)=(u.2*v.1)*v.2:=by grind
           _=(u.1*v.2)*v.2:=by rw[this]
           _=u.1*(v.2*v.2):=by grind
       have h5:0<=v.2*v.2:=by
         rcases Int.le_total 0 v.2 with h|h
         · exact Int.mul_nonneg h h
         · exact Int.mul_nonneg_of_nonpos_of_nonpos h h
       have h6:=Int.mul_nonneg (Int.le_of_lt hu) h5
       omega
     omega
   · rw[hv1] at hc
     have:=Int.mul_pos hu hv2
     omega
 · rw[hu1] at hc
   have h0:u.2*v.1=0:=by omega
   have hv1:v.1=0:=by
     rcases Int.mul_eq_zero.1 h0 with h|h
     · omega
     · exact h
   have hv2:0<v.2:=by omega
   have:=Int.mul_pos hu2 hv2
   rw[hu1,hv1];omega
theorem wm(u v:Pt):ka (pL u) (pL v)=ka u v:=by unfold ka pL;grind
theorem xo(hu:nz u)(hv:nz v)(h:bm u=bm v)(hc:dQ u v=0):eB u v:=by
 refine⟨hc,?_⟩
 rcases ll hu with⟨a1,a2⟩|⟨a1,a2⟩<;>rcases ll hv with⟨b1,b2⟩|⟨b1,b2⟩<;>try (exfalso;omega)
 · exact nB a2 b2 hc
 · have:=nB a2 b2 (by rw[l5];exact hc)
   rwa[wm] at this
theorem sR(hu:nz u)(hv:nz v)(h:eB u v):bm u=bm v:=by
 obtain⟨hc,hd⟩:=h
 have e1:dQ u (pL v)= -dQ u v:=by unfold dQ pL;grind
 have e2:ka u (pL v)= -ka u v:=by unfold ka pL;grind
 have e3:dQ (pL u) v= -dQ u v:=by unfold dQ pL;grind
 have e4:ka (pL u) v= -ka u v:=by unfold ka pL;grind
 rcases ll hu with⟨a1,a2⟩|⟨a1,a2⟩<;>rcases ll hv with⟨b1,b2⟩|⟨b1,b2⟩
 · omega
 · have:=nB a2 b2 (by omega);omega
 · have:=nB a2 b2 (by omega);omega
 · omega
end
section
variable{p:dS}{o:Pt}{l:List Int}
theorem vr(hz:jn o (fb p l))(h:nV p o l):∃i k:Int,((0<=i/\i<((fb p l).length:Int))/\0<=k/\k<((fb p l).length:Int))/\i≠k/\eB (vA o (fb p l) i) (vA o (fb p l) k):=by
 obtain⟨j,hj,h0,hs⟩:=h
 have e:(fb p l).length=l.length:=by simp[fb]
 exact⟨_,_,⟨nL hz (i:=(j:Int)-1) (by omega) (by omega),nL hz (i:=(j:Int)) (by omega) (by omega)⟩,zk hz (by omega) (by omega) (by omega),hs⟩
end
def tm:d5:=(3,[(0,1),(1,2)])
def y8:dS:=([(0,0),(2,0),(1,0)],[[(0,0),(1,1),(2,0)],[(2,0),(1,0)]])
theorem uc:c8 tm:=by decide
theorem pF:bT tm y8=[]:=by decide+kernel
def tR(p:dS)(o:Pt)(l:List Int):Bool:=(List.range l.length).all λi=>(List.range l.length).all λk=>i==k|| !decide (eB (vA o (fb p l) (i:Int)) (vA o (fb p l) (k:Int)))
theorem tE:(List.range 3).all (λv=>tR y8 (gI y8.1 ((v:Nat):Int)) (cU tm ((v:Nat):Int)))=true:=by decide+kernel
theorem y9:¬lE tm y8:=by
 rintro⟨v,hv,hb⟩
 have hv3:v<3:=hv
 have hz:=(nF uc (lA.1 pF) (by decide) (v:Int)).2
 obtain⟨i,k,⟨hi,hk⟩,hne,hs⟩:=vr hz hb
 have e:(fb y8 (cU tm (v:Int))).length=(cU tm (v:Int)).length:=by simp[fb]
 have h1:=List.all_eq_true.1 tE v (List.mem_range.2 hv3)
 unfold tR at h1
 have i1:i.toNat∈List.range (cU tm (v:Int)).length:=List.mem_range.2 (by omega)
 have k1:k.toNat∈List.range (cU tm (v:Int)).length:=List.mem_range.2 (by omega)
 have h2:=List.all_eq_true.1 (List.all_eq_true.1 h1 _ i1) _ k1
 rw[Int.toNat_of_nonneg hi.1,Int.toNat_of_nonneg hk.1,decide_eq_true hs] at h2
 simp at h2
 omega
theorem ox:turnsR tm y8=(aU (tuS tm y8),0):=gY uc pF y9
theorem uA:(List.length (turnsR tm y8).1:Int)=3:=by
 rw[ox]
 simp[aU,j7];rfl
theorem tV:(turnsR tm y8).2=0:=by rw[ox]
section
variable{u v:Pt}{i k:Int}
def AH(u:Pt):Prop:=0<=u.1/\0<u.2
instance (u:Pt):Decidable (AH u):=by unfold AH;infer_instance
end
section
variable{o:Pt}{ps:List Pt}
end
end TL
/-
  TlJStr: straight lines between points: which two are told.
  By an AI agent.
-/
set_option linter.all false
namespace TL
def AE(g:d5)(i k:Int)(q:Int):Prop:=pI (gI g.2 i) q=(gI g.2 k).1\/pI (gI g.2 i) q=(gI g.2 k).2
instance (g:d5)(i k q:Int):Decidable (AE g i k q):=by unfold AE;infer_instance
section
variable{g:d5}{p:dS}{i k c m:Int}{j:Nat}
theorem Av(hm:c8 g)(h0:0<=i)(h1:i<g.2.length)(q:Int):0<=pI (gI g.2 i) q/\pI (gI g.2 i) q<g.1:=by
 obtain⟨⟨a,b⟩,c,d⟩:=iX hm h0 h1
 unfold pI
 split
 · exact⟨a,b⟩
 · exact⟨c,d⟩
def B9(g:d5)(p:dS)(i k:Int):Prop:=∃x∈ko g p i k,cG (gI (gI p.2 i) 0) (gI (gI p.2 i) 1) (gI (gI p.2 k) 0) (gI (gI p.2 k) 1) x
instance (g:d5)(p:dS)(i k:Int):Decidable (B9 g p i k):=by unfold B9;infer_instance
end
section
variable{g:d5}{at_:List Pt}{Ls:List (List Pt)}{e:Nat}
variable{i k:Int}
end
section
variable{t:Bool}{A S:Prop}[Decidable A][Decidable S]{m c:Int}
end
end TL
/-
  TlJAll: the document of layer 11 says what the judge says.
  By an AI agent.
-/
set_option linter.all false
namespace TL
section
variable{g:d5}{p:dS}{v w e f i k:Nat}{F G:List bX}
theorem AT{b:Bool}(h:¬b=true):(!b)=true:=by cases b<;>simp_all
theorem AY{b:Bool}(h:b=true):¬(!b)=true:=by cases b<;>simp_all
theorem wW(h:decide (cC (gI p.1 (v:Int)))=true):jc p v=[]:=dx (Classical.not_not.2 (of_decide_eq_true h))
theorem wi(h:¬decide (cC (gI p.1 (v:Int)))=true):jc p v=[(2,(v:Int),0)]:=dF λc=>h (decide_eq_true c)
def nT(g:d5)(p:dS)(e f:Int)(i k:Nat):List Pt:=fl (pI (gI g.2 e) (i:Int)=pI (gI g.2 f) (k:Int)) (gI p.1 (pI (gI g.2 e) (i:Int)))
def jB(g:d5)(p:dS)(e f:Int)(i:Nat):List Pt:=bt (nT g p e f i) 2
def ei(g:d5)(p:dS)(e f:Int):List Pt:=bt (jB g p e f) 2
theorem pa{e f:Int}:(jB g p e f i).length<=2:=cY λ_=>fv
theorem vI{e f:Int}:(ei g p e f).length<=4:=jT (c:=2) λ_ _=>pa
theorem wB{e f:Int}{L:List Pt}(h:L=bt (jB g p e f) i++bt (nT g p e f i) k)(hi:i<=2)(hk:k<=2):L.length<=6:=by
 have h1:=jT (f:=jB g p e f) (c:=2) (k:=i) λ_ _=>pa
 have h2:=cY (f:=nT g p e f i) (k:=k) λ_=>fv
 rw[h,List.length_append];omega
theorem vJ{e f:Int}{L:List Pt}(h:L=bt (jB g p e f) i):L=bt (jB g p e f) i++bt (nT g p e f i) 0:=by rw[h];simp[bt]
theorem wK{e f:Int}{L:List Pt}(h:L=bt (jB g p e f) i++bt (nT g p e f i) k)(hk:k=2):L=bt (jB g p e f) (i+1):=by subst hk;exact h
theorem x7{e f:Int}{L:List Pt}(h:L=bt (jB g p e f) i)(hk:i=2):L=ei g p e f:=by subst hk;exact h
theorem lY{e f:Int}{x:Pt}:x∈ei g p e f↔x∈ko g p e f:=by
 rw[tZ]
 unfold ei
 rw[kd]
 unfold jB nT
 constructor
 · rintro⟨i,hi,hx⟩
   obtain⟨k,hk,hx⟩:=kd.1 hx
   obtain⟨h1,rfl⟩:=jw.1 hx
   have a:i=0\/i=1:=by omega
   have b:k=0\/k=1:=by omega
   refine⟨_,?_,?_,rfl⟩
   · rcases a with rfl|rfl
     · exact .inl rfl
     · exact .inr rfl
   · rw[h1]
     rcases b with rfl|rfl
     · exact .inl rfl
     · exact .inr rfl
 · rintro⟨v,h1,h2,rfl⟩
   rcases h1 with rfl|rfl
   · refine⟨0,by omega,kd.2 ?_⟩
     rcases h2 with h2|h2
     · exact⟨0,by omega,jw.2 ⟨h2,rfl⟩⟩
     · exact⟨1,by omega,jw.2 ⟨h2,rfl⟩⟩
   · refine⟨1,by omega,kd.2 ?_⟩
     rcases h2 with h2|h2
     · exact⟨0,by omega,jw.2 ⟨h2,rfl⟩⟩
     · exact⟨1,by omega,jw.2 ⟨h2,rfl⟩⟩
theorem j4{e f:Int}(hm:c8 g)(hs:vY g p)(h0:0<=e)(h1:e<g.2.length):∀x∈ei g p e f,cC x:=λx hx=>yO hm hs h0 h1 x (lY.1 hx)
theorem rc{B C:List Pt}(hB:∀x,x∈B↔x∈C){s t:Sg}(ha:dH s.1)(hb:dH s.2)(hc:dH t.1)(hd:dH t.2):lI B s t↔¬di s t C:=by
 have hX:(∃x∈B,cG s.1 s.2 t.1 t.2 x)↔∃x∈C,cG s.1 s.2 t.1 t.2 x:=⟨λ⟨x,h1,h2⟩=>⟨x,(hB x).1 h1,h2⟩,λ⟨x,h1,h2⟩=>⟨x,(hB x).2 h1,h2⟩⟩
 unfold lI di
 rw[hX]
 rcases kF ha hb hc hd with⟨h1,_⟩|⟨h1,_⟩|⟨h1,_,⟨e,he,hbe⟩,_⟩|⟨h1,_⟩
 · rw[h1];simp
 · rw[h1];simp
 · rw[h1]
   constructor
   · rintro(h|h|⟨_,q,hq,hbq,hqn⟩)
     · exact absurd h (by decide)
     · exact absurd h.1 (by decide)
     · rintro(h|⟨_,x,hx,hbx⟩)
       · exact absurd h (by decide)
       · have h5:=sr ha hb hc hd h1 hq hbq hbx
         rw[h5] at hx
         exact hqn ((hB _).2 hx)
   · intro h
     refine .inr (.inr ⟨⟨by decide,by decide⟩,e,he,hbe,λhc=>h (.inr ⟨.inr rfl,e,(hB _).1 hc,hbe⟩)⟩)
 · rw[h1];simp
theorem rB{a b B C:List Pt}(ha:2<=(a.length:Int))(hb:2<=(b.length:Int))(hoa:dy a)(hob:dy b)(hB:∀x,x∈B↔x∈C):eG a b B↔¬ke a b C:=by
 have hbd:∀{a:List Pt},dy a->∀s∈jP a (a.length-1),dH s.1/\dH s.2:=λ {a} h s hs=>by
   obtain⟨i,hi,rfl⟩:=fk.1 hs
   exact⟨(h.2 _ (bk (by omega) (by omega))).bd,(h.2 _ (bk (by omega) (by omega))).bd⟩
 unfold eG aE
 rw[if_neg (by omega),if_neg (by omega)]
 constructor
 · rintro⟨s,hs,t,ht,h⟩ hA
   obtain⟨h1,h2⟩:=hbd hoa s hs
   obtain⟨h3,h4⟩:=hbd hob t ht
   exact(rc hB h1 h2 h3 h4).1 h (hA s hs t ht)
 · intro h
   refine Classical.byContradiction λhn=>h λs hs t ht=>?_
   obtain⟨h1,h2⟩:=hbd hoa s hs
   obtain⟨h3,h4⟩:=hbd hob t ht
   exact Classical.not_not.1 λc=>hn ⟨s,hs,t,ht,(rc hB h1 h2 h3 h4).2 c⟩
theorem oQ{b:Bool}(hm:c8 g)(hs:vY g p)(he:(e:Int)<p.2.length)(hf:(f:Int)<p.2.length)(hef:e<f)(hb:b=decide (eG (gI p.2 (e:Int)) (gI p.2 (f:Int)) (ei g p (e:Int) (f:Int))))(h:b=true):dX g p e f=[(8,(e:Int),(f:Int))]:=by
 obtain⟨a1,a2,a3⟩:=hs.ln (e:Int) (by omega) he
 obtain⟨b1,b2,b3⟩:=hs.ln (f:Int) (by omega) hf
 exact dF ⟨hef,(rB a1 b1 ⟨a2,a3⟩ ⟨b2,b3⟩ λx=>lY).1 (of_decide_eq_true (hb▸h))⟩
theorem pP{b:Bool}(hm:c8 g)(hs:vY g p)(he:(e:Int)<p.2.length)(hf:(f:Int)<p.2.length)(hb:b=decide (eG (gI p.2 (e:Int)) (gI p.2 (f:Int)) (ei g p (e:Int) (f:Int))))(h:¬b=true):dX g p e f=[]:=by
 obtain⟨a1,a2,a3⟩:=hs.ln (e:Int) (by omega) he
 obtain⟨b1,b2,b3⟩:=hs.ln (f:Int) (by omega) hf
 exact dx λc=>h (hb.trans (decide_eq_true ((rB a1 b1 ⟨a2,a3⟩ ⟨b2,b3⟩ λx=>lY).2 c.2)))
theorem xb{l:List Pt}{q:Pt}(hi:(i:Int)+1<l.length)(h:decide (cF (gI l (i:Int)) (gI l ((i:Int)+1)) q)=true):true=decide (e9 l q):=(decide_eq_true (jZ.2 ⟨i,by omega,of_decide_eq_true h⟩)).symm
theorem zd{l:List Pt}{q:Pt}(h:∀j:Nat,j<i->¬cF (gI l (j:Int)) (gI l ((j:Int)+1)) q)(hi:¬(i:Int)+1<l.length):false=decide (e9 l q):=
 (decide_eq_false λc=>by
   obtain⟨j,hj,hq⟩:=jZ.1 c
   exact h j (by omega) hq).symm
theorem wA(hF:F=bt (el p) v):F=bt (el p) v++bt (iI p v) (v+1)/\v<v+1:=by
 refine⟨?_,by omega⟩
 rw[fy (f:=iI p v) (k:=v+1) λj hj=>dx λh=>by omega,List.append_nil];exact hF
theorem zi(hG:G=bt (el p) v++bt (iI p v) w)(hw:w=p.1.length):G=bt (el p) (v+1):=by subst hw;exact hG
theorem zO(hn:p.1.length<=1024)(hv:v<=1024)(hw:w<=1024)(hG:G=bt (el p) v++bt (iI p v) w):G.length<=9450000:=by
 have h1:=ul hn hv (G:=bt (el p) v) rfl
 have h2:=cY (f:=iI p v) (k:=w) (pf v)
 rw[hG,List.length_append];omega
theorem zn(hG:G=bt (el p) v++bt (iI p v) w)(hvw:v<w)(h:gI p.1 (v:Int)=gI p.1 (w:Int)):G++[(4,(v:Int),(w:Int))]=bt (el p) v++bt (iI p v) (w+1):=ew hG (dF ⟨hvw,h⟩)
theorem At(hG:G=bt (el p) v++bt (iI p v) w)(h:¬gI p.1 (v:Int)=gI p.1 (w:Int)):G=bt (el p) v++bt (iI p v) (w+1):=ff hG (dx λc=>h c.2)
theorem mc{u v:Pt}(hu:nz u)(hv:nz v):eJ u v=0↔eB u v:=by
 unfold eJ
 constructor
 · intro h
   by_cases e:bm u=bm v
   · rw[if_pos e,eA] at h
     exact xo hu hv e h
   · rw[if_neg e,eA] at h
     omega
 · intro h
   rw[if_pos (sR hu hv h),eA]
   exact h.1
section
variable{a:Bool}{l:List Pt}
theorem Aw(h:a=(iu p k&&eP (kS l) i))(ha:a=true)(hx:(gI l (i:Int)).1=(gI l ((i:Int)+1)).1):true=(iu p k&&eP (kS l) (i+1)):=by
 have h1:=Ar (p:=p) (k:=k) (l:=l) (i:=i+1) (a:=a) ⟨by omega,by simpa using h⟩ ha (by rw[show((i+1:Nat):Int)-1=(i:Int) by omega,show((i+1:Nat):Int)=(i:Int)+1 by omega];exact hx)
 simpa using h1.2
theorem AN(h:a=(iu p k&&eP (kS l) i))(ha:a=true)(hx:¬(gI l (i:Int)).1=(gI l ((i:Int)+1)).1):decide ((gI l (i:Int)).2=(gI l ((i:Int)+1)).2)=(iu p k&&eP (kS l) (i+1)):=by
 have h1:=Al (p:=p) (k:=k) (l:=l) (i:=i+1) (a:=a) ⟨by omega,by simpa using h⟩ ha (by rw[show((i+1:Nat):Int)-1=(i:Int) by omega,show((i+1:Nat):Int)=(i:Int)+1 by omega];exact hx)
 rw[show((i+1:Nat):Int)-1=(i:Int) by omega,show((i+1:Nat):Int)=(i:Int)+1 by omega] at h1
 simpa using h1.2
theorem Ai(h:a=(iu p k&&eP (kS l) i))(ha:¬a=true):false=(iu p k&&eP (kS l) (i+1)):=by
 have h1:=Ap (p:=p) (k:=k) (l:=l) (i:=i+1) (a:=a) ⟨by omega,by simpa using h⟩ ha
 simpa using h1.2
theorem xW{b:Bool}(hb:b=iu p k)(h:a=(iu p k&&eP (kS (gI p.2 (k:Int))) i))(hi:¬(i:Int)+1<(gI p.2 (k:Int)).length)(hi2:(i:Int)+1<=(gI p.2 (k:Int)).length):a=iu p (k+1):=
 tI (i:=i+1) hb ⟨by omega,by simpa using h⟩ (by omega) (by omega)
end
structure mu(g:d5)(p:dS)(r:cT)(v:Nat):Prop where
 len:(r.length:Int)=g.1
 done:∀j:Nat,j<v->gI r (j:Int)=tuL p (gI p.1 (j:Int)) (cU g (j:Int))/\¬nV p (gI p.1 (j:Int)) (cU g (j:Int))
 rest:∀j:Nat,v<=j->(j:Int)<g.1->gI r (j:Int)=[]
structure nC(g:d5)(p:dS)(r:cT)(v k:Nat):Prop where
 len:(r.length:Int)=g.1
 done:∀j:Nat,j<v->gI r (j:Int)=tuL p (gI p.1 (j:Int)) (cU g (j:Int))/\¬nV p (gI p.1 (j:Int)) (cU g (j:Int))
 now:nw p (gI p.1 (v:Int)) (cU g (v:Int)) (gI r (v:Int)) k
 rest:∀j:Nat,v<j->(j:Int)<g.1->gI r (j:Int)=[]
theorem mu.start(h:0<=g.1):mu g p (List.replicate g.1.toNat []) 0:=⟨by simp;omega,λj hj=>by omega,λj _ hj=>ns (by omega) (by omega)⟩
theorem mu.row{r:cT}(h:mu g p r v)(hv:(v:Int)<g.1):nC g p r v 0:=⟨h.len,h.done,by rw[h.rest v (Nat.le_refl _) hv];exact nw.start,λj hj=>h.rest j (by omega)⟩
theorem nC.next{r:cT}(h:nC g p r v k)(hv:(v:Int)<g.1)(hk:(k:Int)<(arL (gI p.1 (v:Int)) (fb p (cU g (v:Int)))).length)
   (hs:¬0<(k:Int)\/¬decide (eB (aY (gI (fb p (cU g (v:Int))) (gI (arL (gI p.1 (v:Int)) (fb p (cU g (v:Int)))) ((k:Int)-1))) (gI p.1 (v:Int))) (aY (gI (fb p (cU g (v:Int))) (gI (arL (gI p.1 (v:Int)) (fb p (cU g (v:Int)))) (k:Int))) (gI p.1 (v:Int))))=true):
   nC g p (r.set (Int.toNat (v:Int)) (gI r (v:Int)++[gI (cU g (v:Int)) (gI (arL (gI p.1 (v:Int)) (fb p (cU g (v:Int)))) (k:Int))])) v (k+1):=by
 have hl:=h.len
 refine⟨by simpa using hl,λj hj=>?_,?_,λj hj h1=>?_⟩
 · rw[fu (by omega) (by omega) (by omega),if_neg (by omega)];exact h.done j hj
 · rw[fu (by omega) (by omega) (by omega),if_pos rfl];exact h.now.next hk hs
 · rw[fu (by omega) (by omega) (by omega),if_neg (by omega)];exact h.rest j hj h1
theorem nC.fin{r:cT}(h:nC g p r v k)(hz:jn (gI p.1 (v:Int)) (fb p (cU g (v:Int))))(hk:¬(k:Int)<(arL (gI p.1 (v:Int)) (fb p (cU g (v:Int)))).length):mu g p r (v+1):=by
 refine⟨h.len,λj hj=>?_,λj hj h1=>h.rest j (by omega) h1⟩
 by_cases e0:j=v
 · subst e0;exact h.now.fin hz hk
 · exact h.done j (by omega)
theorem mu.fin{r:cT}(hm:c8 g)(h:mu g p r v)(hv:¬(v:Int)<g.1):r=tuS g p/\¬lE g p:=by
 have hl:=h.len
 refine⟨?_,λ⟨j,hj,hb⟩=>(h.done j (by omega)).2 hb⟩
 apply List.ext_getElem
 · rw[j7];omega
 · intro i h1 h2
   have k1:=(h.done i (by omega)).1
   rw[<-yK (p:=p) hm (by omega)] at k1
   have e1:gI r (i:Int)=r[i]:=by simp[gI,h1]
   have e2:gI (tuS g p) (i:Int)=(tuS g p)[i]:=by simp[gI,h2]
   rw[<-e1,<-e2];exact k1
theorem Aq{a:Bool}{r:cT}(h:(turnsR g p).2=0)(ha:a=decide (aU r=aU (turnsR g p).1)):a=decide ((turnsR g p).2=0/\aU r=aU (turnsR g p).1):=by
 rw[ha];simp[h]
theorem AK{r:cT}(h:¬(turnsR g p).2=0):false=decide ((turnsR g p).2=0/\aU r=aU (turnsR g p).1):=(decide_eq_false λc=>h c.1).symm
noncomputable def fitsR (g:d5) (r:cT) (p:dS):Bool×Int:=
 if bg g r=0 then if(turnsR g p).2=0 then cW g r (turnsR g p).1 else(false,0) else(false,bg g r)
end
end TL
namespace TL
section
variable{g:d5}{p:dS}{r:cT}
theorem d3(h:∀e:Int,0<=e->e<p.2.length->((gI p.2 e).length:Int)<=400):∀l_∈p.2,l_.length<=1000000:=λl hl=>by
 obtain⟨j,hj,rfl⟩:=qH hl
 have:=h (j:Int) (by omega) (by omega)
 omega
theorem qT(hm:c8 g)(hfew:(g.2.length:Int)<=2000)(h:(turnsR g p).2=0):bg g (turnsR g p).1=0:=by
 by_cases h1:bT g p=[]
 · by_cases h2:lE g p
   · rw[fV hm h1 h2] at h;simp at h
   · rw[gY hm h1 h2]
     exact jH hm (qU hm (lA.1 h1) hfew).canon
 · rw[gW hm h1] at h;simp at h
theorem AX(hm:c8 g):(b9 g p).2=0:=by unfold b9;rw[if_pos hm]
theorem B6(hm:c8 g):(b9 g p).1=bT g p:=by unfold b9;rw[if_pos hm]
theorem B1(hm:c8 g)(hfew:c8 g->(g.2.length:Int)<=2000):(fitsR g r p).2=bg g r:=by
 unfold fitsR
 by_cases h:bg g r=0
 · rw[if_pos h]
   by_cases h2:(turnsR g p).2=0
   · rw[if_pos h2]
     unfold cW
     rw[if_pos h,if_pos (qT hm (hfew hm) h2)];exact h.symm
   · rw[if_neg h2];exact h.symm
 · rw[if_neg h]
theorem B0(hm:c8 g)(hfew:c8 g->(g.2.length:Int)<=2000)(h:bg g r=0):(fitsR g r p).1=decide ((turnsR g p).2=0/\aU r=aU (turnsR g p).1):=by
 unfold fitsR
 rw[if_pos h]
 by_cases h2:(turnsR g p).2=0
 · rw[if_pos h2]
   unfold cW
   rw[if_pos h,if_pos (qT hm (hfew hm) h2)]
   simp[h2]
 · rw[if_neg h2]
   exact(decide_eq_false λc=>h2 c.1).symm
theorem B5(h:¬bg g r=0):(fitsR g r p).1=false:=by unfold fitsR;rw[if_neg h]
theorem AF(hn:¬c8 g):bg g r=1:=by unfold bg;rw[if_neg hn]
theorem yI(hn:¬c8 g):b9 g p=([],1):=by unfold b9;rw[if_neg hn]
theorem yT(hn:¬c8 g):fitsR g r p=(false,1):=by
 have h1:=AF (r:=r) hn
 unfold fitsR
 rw[if_neg (by omega),h1]
end
end TL
namespace TL
theorem sv(g:d5)(p:dS):((turnsR g p).1.length:Int)<=1024:=by
 by_cases hm:c8 g
 · by_cases h1:bT g p=[]
   · by_cases h2:lE g p
     · rw[fV hm h1 h2];simp
     · rw[gY hm h1 h2]
       have h3:(aU (tuS g p)).length=g.1.toNat:=by rw[j5,j7]
       have:=hm.2.1
       simp only[h3];omega
   · rw[gW hm h1];simp
 · rw[jI hm];simp
end TL
/-
  TlOrb: going round by a permutation; two places changed; what that does to the numbers of rounds.
  By an AI agent.
-/
set_option linter.all false
namespace TL
def tr(a b x:Int):Int:=if x=a then b else if x=b then a else x
end TL
/-
  TlDfs: components found by a stack: the document's way.
  By an AI agent.
-/
set_option linter.all false
namespace TL
theorem tp{g:d5}{v:Int}(h0:0<=v)(h1:v<g.1):gI (bM g) v=cU g v:=by
 unfold bM gI
 have:v.toNat<g.1.toNat:=by omega
 simp[List.getD_eq_getElem?_getD,this]
 congr 1
 omega
theorem sV(g:d5)(h:0<=g.1):((bM g).length:Int)=g.1:=by simp[bM];omega
section
variable{g:d5}{c0 c todo x:List Int}{n s:Int}
variable{v:Int}{k M:Nat}
end
end TL
set_option linter.unusedVariables false
namespace TL
variable{a b c d:Int×Int}
theorem o1{A B C D:Prop}[Decidable A](h:decide A=true):A\/B\/C\/D:=.inl (of_decide_eq_true h)
theorem o2{A B C D:Prop}[Decidable B](h:decide B=true):A\/B\/C\/D:=.inr (.inl (of_decide_eq_true h))
theorem o3{A B C D:Prop}[Decidable C](h:decide C=true):A\/B\/C\/D:=.inr (.inr (.inl (of_decide_eq_true h)))
theorem o4{A B C D:Prop}[Decidable D](h:decide D=true):A\/B\/C\/D:=.inr (.inr (.inr (of_decide_eq_true h)))
theorem o5{A B C D:Prop}[Decidable A][Decidable B][Decidable C][Decidable D](h1:¬decide A=true)(h2:¬decide B=true)(h3:¬decide C=true)(h4:¬decide D=true):¬(A\/B\/C\/D):=by
 rintro(h|h|h|h)
 · exact h1 (decide_eq_true h)
 · exact h2 (decide_eq_true h)
 · exact h3 (decide_eq_true h)
 · exact h4 (decide_eq_true h)
end TL
/-
  TlSort: the library's sort by a function, met in this frame.
  By an AI agent.
-/
set_option linter.all false
namespace TL
open Go Go.Proofs Go.Shelf Go.Sort Go.Lib
theorem cE.grown{w w':World}(h:cE w.heap.size w w'):∃q os,w'=grow (w.drewN q) os:=by
 obtain⟨h1,h2,h3,h4,h5,h6⟩:=h
 refine⟨w'.drawn-w.drawn,w'.heap.extract w.heap.size w'.heap.size,?_⟩
 have hh:w'.heap=w.heap++w'.heap.extract w.heap.size w'.heap.size:=by
   apply Array.ext_getElem?
   intro k
   rw[Array.getElem?_append]
   by_cases hk:k<w.heap.size
   · rw[if_pos hk];exact h5 k hk
   · rw[if_neg hk,Array.getElem?_extract]
     split
     · rw[show w.heap.size+(k-w.heap.size)=k by omega]
     · exact Array.getElem?_eq_none (by omega)
 have hd:w'.drawn=w.drawn+(w'.drawn-w.drawn):=by omega
 cases w with
 |mk a b c d e=>
   cases w' with
   |mk a' b' c' d' e'=>
     simp only[grow,World.drewN] at*
     subst h1 h2 h3
     simp only[World.mk.injEq,true_and,and_true]
     exact⟨hh,hd⟩
section
variable{α:Type}[Inhabited α]{γ:aK}{w:World}{j b:Nat}
theorem om(enc:α->Value)(hb:is j (γ b))(m:Nat)(d:Array α)(os:Array Obj):bj (is j) γ w γ (sortWorld enc w b 0 m d os):=by
 refine⟨rfl,rfl,rfl,?_,λ_ _ _=>rfl,λk hk hn=>?_,?_⟩
 · unfold sortWorld;rw[size_grow,Go.Sort.size_putRow];simp only[heap_ahead];omega
 · unfold sortWorld
   rw[heap_grow_old _ _ (by rw[Go.Sort.size_putRow];exact hk)]
   have:b≠k:=λe=>hn (by subst e;exact hb)
   simp[putRow,mapBlock,Array.getElem?_modify,this]
 · show w.drawn<=w.drawn+m
   omega
theorem sU(enc:α->Value){c:Array Value}{e:TypeId}{fr:Nat×Nat}(h:w.heap[b]? =some (.cells c e fr))(m:Nat)(d:Array α)(os:Array Obj):(sortWorld enc w b 0 m d os).heap[b]? =some (.cells (putCells enc 0 d c) e fr):=by
 unfold sortWorld
 rw[heap_grow_old _ _ (by rw[Go.Sort.size_putRow];exact dg h)]
 simp[putRow,mapBlock,Array.getElem?_modify,h,onCells]
theorem ou(enc:α->Value){d:Array α}{c:Array Value}{k:Nat}(h:k<d.size)(hc:k<c.size):(putCells enc 0 d c)[k]? =some (enc d[k]!):=by
 simp[putCells,h,hc]
end
theorem sZ{P:Program}{ρ:Ren}(L:SlLaysF.n6 P ρ){α:Type}[Inhabited α](fe:α->Int)(cf:α->α->Int)(hO:SWO (ltOf cf))(g:Nat)(cb:Array Value)(eg:∀args w,(callFunc g args).run P w= .ok (.enter g args) w)
   {γ:aK}{w:World}{j:Nat}{v:Value}{ds:List α}(hne:ds≠[])(hl:Ow γ (is j) (is j) w v (ds.map fe))
   (hc:∀W,bj (is j) γ w γ W->∀x y,Calls P g (#[.int .i64 (fe x),.int .i64 (fe y)]++cb) W λe w'=>e= .returned (.int .i64 (cf x y))/\cE W.heap.size W w'):
   Calls P (ρ.f 6) #[v,.func (.func g) #[] cb] w λe w'=>e= .returned (.tuple #[])/\∃ds':List α,ds'.Perm ds/\ds'.Pairwise (λx y=>ltOf cf y x=false)/\bj (is j) γ w γ w'/\Ow γ (is j) (is j) w' v (ds'.map fe):=by
 rcases hl with⟨_,h⟩|⟨b,cap,c,e,rfl,hcap,hm,hJ,hb,hcs,hx⟩
 · simp at h;exact absurd h hne
 · simp only[List.length_map] at hcap
   have hsz1:Rp.sz Int=1:=rfl
   rw[hsz1,Nat.mul_one] at hcs
   have hbs:=dg hb
   have hlen:(ds.map fe).length=ds.toArray.size:=by simp
   have hget:∀i,i<ds.length->c[i]? =some (Value.int .i64 (fe ds.toArray[i]!)):=λi hi=>by
     obtain⟨cs,h1,h2⟩:=hx i (fe ds[i]) (by simp[hi])
     have h2:cs=[Value.int .i64 (fe ds[i])]:=h2
     have h1:=h1 0 (by decide)
     rw[h2] at h1
     simp only[hsz1,Nat.mul_one,Nat.add_zero] at h1
     rw[h1]
     simp[hi]
   have hH:Holds (λx:α=>Value.int .i64 (fe x)) w b 0 ds.toArray:=λi hi=>by
     have hi:i<ds.length:=by simpa using hi
     constructor
     · have:=hget i hi
       simp only[World.cell?,hb,Nat.zero_add]
       exact this
     · simp[World.frozen?,hb]
   have hcmp:CmpLays1 P g cb (λx:α=>Value.int .i64 (fe x)) cf b 0 ds.toArray.size w:=λm os dk hs x y=>
     (hc _ (om _ hJ m dk os) x y).mono λe w' ⟨h1,h2⟩=>⟨h1,h2.grown⟩
   have key:=Any.slices_SortFunc L (λx:α=>Value.int .i64 (fe x)) (λ_=>rfl) cf hO g cb b 0 cap ds.toArray w eg hcmp hH hbs (by simp;omega)
   rw[hlen]
   refine key.mono λe' w' ⟨h1,d',n,os,hp,hs,hw⟩=>⟨h1,d'.toList,?_,?_,?_,?_⟩
   · obtain⟨q1,_,q3⟩:=hp
     rw[<-q1] at q3
     have e1:(d'.extract 0 d'.size)=d':=by simp
     rw[e1,q1] at q3
     have e2:(ds.toArray.extract 0 ds.toArray.size)=ds.toArray:=Array.extract_size
     rw[e2] at q3
     simpa using q3
   · rw[List.pairwise_iff_getElem]
     intro i k hi hk hik
     have hi:i<d'.size:=by simpa using hi
     have hk:k<d'.size:=by simpa using hk
     have:=hs i k (Nat.zero_le _) hik (by rw[<-hp.1];exact hk)
     rw[getElem!_pos d' k hk,getElem!_pos d' i hi] at this
     simpa using this
   · rw[hw];exact om _ hJ n d' os
   · have hs':d'.size=ds.length:=by rw[hp.1];simp
     have hd:d'.toList.length=ds.length:=by simpa using hs'
     refine .inr ⟨b,cap,_,e,by rw[List.length_map,hd];simp,by rw[List.length_map,hd];exact hcap,hm,hJ,by rw[hw];exact sU _ hb n d' os,by rw[hsz1,Nat.mul_one];simpa[putCells] using hcs,λi x hi=>?_⟩
     have hi':i<d'.size:=by
       have:=(List.getElem?_eq_some_iff.1 hi).1
       simpa using this
     refine⟨[Value.int .i64 x],λq hq=>?_,rfl⟩
     have:q=0:=by have:q<1:=hq;omega
     subst this
     rw[hsz1,Nat.mul_one,Nat.add_zero,ou _ hi' (by rw[hcs];omega),getElem!_pos d' _ hi']
     simp[hi'] at hi
     simp[hi]
end TL
