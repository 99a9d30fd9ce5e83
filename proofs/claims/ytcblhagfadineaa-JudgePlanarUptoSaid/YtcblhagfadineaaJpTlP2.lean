/- Plain texts of this claim, part 2. By an AI agent. -/
import Derived.Test.YtcblhagfadineaaJpTlP1
/-
  TlJudge: plots: their flaws, as the code and the document gather them.
  By an AI agent.
-/
set_option linter.all false
namespace TL
abbrev cv:=Int×Int×Int
abbrev dp:=List Pt×List (List Pt)
def bg{β:Type}(f:Nat->List β):Nat->List β
  |0=>[]
  |k+1=>bg f k++f k
section
variable{β:Type}{f h:Nat->List β}{k n:Nat}{x:β}{F B:List β}
theorem c8:∀{k:Nat},bg f k=[]↔∀j,j<k->f j=[]
 |0=>by simp[bg]
 |k+1=>by
   rw[bg,List.append_eq_nil_iff,c8]
   constructor
   · rintro⟨h1,h2⟩ j hj
     by_cases e:j=k
     · subst e;exact h2
     · exact h1 j (by omega)
   · intro h
     exact⟨λj hj=>h j (by omega),h k (by omega)⟩
theorem fw(hf:∀j,j<k->f j=[]):bg f k=[]:=c8.2 hf
theorem jV:∀{k:Nat},x∈bg f k↔∃j,j<k/\x∈f j
 |0=>by simp[bg]
 |k+1=>by
   rw[bg,List.mem_append,jV]
   constructor
   · rintro(⟨j,hj,hx⟩|hx)
     · exact⟨j,by omega,hx⟩
     · exact⟨k,by omega,hx⟩
   · rintro⟨j,hj,hx⟩
     by_cases e:j=k
     · subst e;exact .inr hx
     · exact .inl ⟨j,by omega,hx⟩
theorem nw{c:Nat}:∀{k:Nat},(∀j,j<k->(f j).length<=c)->(bg f k).length<=k*c
 |0,_=>by simp[bg]
 |k+1,e=>by
   have h1:=nw (k:=k) λj hj=>e j (by omega)
   have h2:=e k (by omega)
   rw[bg,List.length_append,Nat.succ_mul]
   omega
theorem d4(e:∀j,(f j).length<=1):(bg f k).length<=k:=by
 have:=nw (f:=f) (k:=k) (c:=1) λj _=>e j
 omega
theorem ic{c:Nat}(hk:k<=3072)(hc:c<=3072)(e:∀j,(f j).length<=c):(bg f k).length<=9437184:=by
 have h1:=nw (f:=f) (k:=k) (c:=c) λj _=>e j
 have h2:k*c<=3072*3072:=Nat.mul_le_mul hk hc
 omega
theorem gL(hF:F=B++bg f k)(hf:f k=[x]):F++[x]=B++bg f (k+1):=by rw[hF,bg,hf,List.append_assoc]
theorem iU(hF:F=B++bg f k)(hf:f k=[]):F=B++bg f (k+1):=by rw[hF,bg,hf,List.append_nil]
theorem nN(hF:F=bg f k)(hf:f k=[x]):F++[x]=bg f (k+1):=by rw[hF,bg,hf]
theorem qF(hF:F=bg f k)(hf:f k=[]):F=bg f (k+1):=by rw[hF,bg,hf,List.append_nil]
theorem r7(hF:F=(B++bg f k)++f k):F=B++bg f (k+1):=by rw[hF,bg,List.append_assoc]
end
def fl{β:Type}(p:Prop)[Decidable p](x:β):List β:=if p then[x] else[]
section
variable{β:Type}{p:Prop}[Decidable p]{x:β}
theorem dX(h:p):fl p x=[x]:=if_pos h
theorem dG(h:¬p):fl p x=[]:=if_neg h
theorem fL:(fl p x).length<=1:=by unfold fl;split<;>simp
theorem gO:fl p x=[]↔¬p:=by unfold fl;split<;>simp_all
theorem uj{y:β}:y∈fl p x↔p/\y=x:=by unfold fl;split<;>simp_all
end
def Aj(l:List Pt):Prop:=2<=(l.length:Int)/\dW l
instance (l:List Pt):Decidable (Aj l):=by unfold Aj;infer_instance
def kX(p:dp)(v:Nat):List cv:=fl (¬cI (gI p.1 (v:Int))) (2,(v:Int),0)
def nJ(p:dp)(e:Nat):List cv:=fl (¬Aj (gI p.2 (e:Int))) (3,(e:Int),0)
def bZ(g:bG)(p:dp):List cv:=
 if(p.1.length:Int)=g.1/\(p.2.length:Int)=g.2.length then bg (kX p) p.1.length++bg (nJ p) p.2.length else[(1,0,0)]
def ub(p:dp)(v w:Nat):List cv:=fl (v<w/\gI p.1 (v:Int)=gI p.1 (w:Int)) (4,(v:Int),(w:Int))
def c9(p:dp):List cv:=bg (λv=>bg (ub p v) p.1.length) p.1.length
def lH(g:bG)(p:dp)(e:Int):Prop:=gI (gI p.2 e) 0=gI p.1 (gI g.2 e).1/\gI (gI p.2 e) (((gI p.2 e).length:Int)-1)=gI p.1 (gI g.2 e).2
instance (g:bG)(p:dp)(e:Int):Decidable (lH g p e):=by unfold lH;infer_instance
def cT(g:bG)(p:dp)(e:Nat):List cv:=fl (¬lH g p (e:Int)) (5,(e:Int),0)
def fB(p:dp)(e:Nat):List cv:=fl (¬kP (gI p.2 (e:Int))) (6,(e:Int),0)
def eI(g:bG)(p:dp):List cv:=bg (cT g p) p.2.length++bg (fB p) p.2.length
def fp(l:List Pt)(q:Pt):Prop:=∃s∈nX l (l.length-1),dc s.1 s.2 q
instance (l:List Pt)(q:Pt):Decidable (fp l q):=by unfold fp;infer_instance
def fS(g:bG)(p:dp)(e v:Nat):List cv:=fl (((v:Int)≠(gI g.2 (e:Int)).1/\(v:Int)≠(gI g.2 (e:Int)).2)/\fp (gI p.2 (e:Int)) (gI p.1 (v:Int))) (7,(e:Int),(v:Int))
def eo(g:bG)(p:dp):List cv:=bg (λe=>bg (fS g p e) p.1.length) p.2.length
def jF(g:bG)(p:dp)(e f:Int):List Pt:=
  fl ((gI g.2 e).1∈[(gI g.2 f).1,(gI g.2 f).2]) (gI p.1 (gI g.2 e).1)++fl ((gI g.2 e).2∈[(gI g.2 f).1,(gI g.2 f).2]) (gI p.1 (gI g.2 e).2)
def cV(s t:Sg)(but:List Pt):Prop:=aZ s.1 s.2 t.1 t.2=0\/(aZ s.1 s.2 t.1 t.2=1\/aZ s.1 s.2 t.1 t.2=2)/\∃x∈but,di s.1 s.2 t.1 t.2 x
instance (s t:Sg)(but:List Pt):Decidable (cV s t but):=by unfold cV;infer_instance
def kg(a b but:List Pt):Prop:=∀s∈nX a (a.length-1),∀t∈nX b (b.length-1),cV s t but
instance (a b but:List Pt):Decidable (kg a b but):=by unfold kg;infer_instance
def eW(g:bG)(p:dp)(e f:Nat):List cv:=fl (e<f/\¬kg (gI p.2 (e:Int)) (gI p.2 (f:Int)) (jF g p (e:Int) (f:Int))) (8,(e:Int),(f:Int))
def z8(g:bG)(p:dp):List cv:=bg (λe=>bg (eW g p e) p.2.length) p.2.length
def cl(g:bG)(p:dp):List cv:=
 if bZ g p=[] then c9 p++eI g p++(if eI g p=[] then eo g p++z8 g p else[]) else bZ g p
def aU(g:bG)(p:dp):List cv×Int:=if bF g then(cl g p,0) else([],1)
section
variable{g:bG}{p:dp}
structure zW(g:bG)(p:dp):Prop where
  n:(p.1.length:Int)=g.1
  m:(p.2.length:Int)=g.2.length
  pt:∀v:Int,0<=v->v<p.1.length->cI (gI p.1 v)
  ln:∀e:Int,0<=e->e<p.2.length->2<=((gI p.2 e).length:Int)/\dW (gI p.2 e)
theorem km:bZ g p=[]↔zW g p:=by
 unfold bZ
 by_cases c:(p.1.length:Int)=g.1/\(p.2.length:Int)=g.2.length
 · rw[if_pos c,List.append_eq_nil_iff,c8,c8]
   constructor
   · rintro⟨h1,h2⟩
     refine⟨c.1,c.2,λv h0 hv=>?_,λe h0 he=>?_⟩
     · have:=h1 v.toNat (by omega)
       unfold kX at this
       rw[gO,Int.toNat_of_nonneg h0] at this
       exact Classical.not_not.1 this
     · have:=h2 e.toNat (by omega)
       unfold nJ at this
       rw[gO,Int.toNat_of_nonneg h0] at this
       exact Classical.not_not.1 this
   · intro h
     exact⟨λv hv=>gO.2 (Classical.not_not.2 (h.pt _ (by omega) (by omega))),λe he=>gO.2 (Classical.not_not.2 (h.ln _ (by omega) (by omega)))⟩
 · rw[if_neg c]
   exact⟨λh=>by simp at h,λh=>absurd ⟨h.n,h.m⟩ c⟩
theorem na(v:Nat):(kX p v).length<=1:=fL
theorem rd(v:Nat):(nJ p v).length<=1:=fL
theorem tg(u v:Nat):(ub p u v).length<=1:=fL
theorem oP(v:Nat):(cT g p v).length<=1:=fL
theorem un(v:Nat):(fB p v).length<=1:=fL
theorem mb(u v:Nat):(fS g p u v).length<=1:=fL
theorem lR(u v:Nat):(eW g p u v).length<=1:=fL
theorem lL(hm:bF g):((bZ g p).length:Int)<=5000:=by
 obtain⟨_,h2,h3,_⟩:=hm
 unfold bZ
 split
 · rename_i c
   have l1:=d4 (f:=kX p) (k:=p.1.length) na
   have l2:=d4 (f:=nJ p) (k:=p.2.length) rd
   rw[List.length_append];omega
 · simp
end
end TL
namespace TL
theorem lV{a b p:Pt}(ha:cI a)(hb:cI b)(hp:cI p):(eO a b p).1=decide (dc a b p):=by
 unfold eO;rw[if_pos ⟨ha,hb,hp⟩]
theorem sQ{a b c d:Pt}(ha:cI a)(hb:cI b)(hc:cI c)(hd:cI d):(db a b c d).1=aZ a b c d:=by
 unfold db;rw[if_pos ⟨⟨ha,hb⟩,hc,hd⟩]
section
variable{l:List Pt}{p:Pt}{i:Nat}
theorem jv:fp l p↔∃j:Nat,j+1<l.length/\dc (gI l (j:Int)) (gI l ((j:Int)+1)) p:=by
 unfold fp
 constructor
 · rintro⟨s,hs,h⟩
   obtain⟨j,hj,rfl⟩:=fO.1 hs
   exact⟨j,by omega,h⟩
 · rintro⟨j,hj,h⟩
   exact⟨_,fO.2 ⟨j,by omega,rfl⟩,h⟩
theorem rZ{b:Bool}(h:1<=i/\∀j:Nat,j+1<i->¬dc (gI l (j:Int)) (gI l ((j:Int)+1)) p)(he:b=decide (dc (gI l ((i:Int)-1)) (gI l (i:Int)) p))(hb:¬b=true):1<=i+1/\∀j:Nat,j+1<i+1->¬dc (gI l (j:Int)) (gI l ((j:Int)+1)) p:=by
 refine⟨by omega,λj hj=>?_⟩
 by_cases e:j+1=i
 · rw[he] at hb
   have e1:(j:Int)=(i:Int)-1:=by omega
   have e2:(j:Int)+1=(i:Int):=by omega
   rw[e2,e1]
   simpa using hb
 · exact h.2 j (by omega)
theorem uL{b:Bool}(h1:1<=i)(hi:(i:Int)<l.length)(he:b=decide (dc (gI l ((i:Int)-1)) (gI l (i:Int)) p))(hb:b=true):true=decide (fp l p):=by
 refine(decide_eq_true (jv.2 ⟨i-1,by omega,?_⟩)).symm
 rw[he] at hb
 have e1:((i-1:Nat):Int)=(i:Int)-1:=by omega
 rw[e1,show(i:Int)-1+1=(i:Int) by omega]
 exact of_decide_eq_true hb
theorem wb(h:1<=i/\∀j:Nat,j+1<i->¬dc (gI l (j:Int)) (gI l ((j:Int)+1)) p)(hi:¬(i:Int)<l.length):false=decide (fp l p):=by
 refine(decide_eq_false λho=>?_).symm
 obtain⟨j,hj,hb⟩:=jv.1 ho
 exact h.2 j (by omega) hb
end
section
variable{a b c d:Pt}{but:List Pt}{k:Nat}{m:Int}
theorem je{x:Pt}{u v:Bool}(h1:u=decide (dc a b x))(h2:v=decide (dc c d x))(h:¬u=true\/¬v=true):¬di a b c d x:=by
 rintro⟨q1,q2⟩
 rcases h with h|h
 · exact h (h1.trans (decide_eq_true q1))
 · exact h (h2.trans (decide_eq_true q2))
theorem rP(hm:m=aZ a b c d)(h:m=0):true=decide (cV (a,b) (c,d) but):=(decide_eq_true (.inl (hm.symm.trans h))).symm
theorem ow{u v:Bool}(hm:m=aZ a b c d)(h:m=1\/m=2)(hk:(k:Int)<but.length)(h1:u=decide (dc a b (gI but (k:Int))))(h2:v=decide (dc c d (gI but (k:Int))))(q1:u=true)(q2:v=true):true=decide (cV (a,b) (c,d) but):=
 (decide_eq_true (.inr ⟨by rw[<-hm];exact h,_,aR (by omega) hk,of_decide_eq_true (h1▸q1),of_decide_eq_true (h2▸q2)⟩)).symm
theorem mN(hm:m=aZ a b c d)(h0:¬m=0)(h:∀j:Nat,j<k->¬di a b c d (gI but (j:Int)))(hk:¬(k:Int)<but.length):false=decide (cV (a,b) (c,d) but):=by
 refine(decide_eq_false ?_).symm
 rintro(e|⟨_,x,hx,hb⟩)
 · exact h0 (hm.trans e)
 · obtain⟨j,hj,rfl⟩:=List.mem_iff_getElem.1 hx
   refine h j (by omega) ?_
   have e:gI but (j:Int)=but[j]:=by unfold gI;rw[Int.toNat_natCast,List.getD_eq_getElem?_getD,List.getElem?_eq_getElem hj];rfl
   rw[e];exact hb
theorem wS(hm:m=aZ a b c d)(h0:¬m=0)(h1:¬m=1)(h2:¬m=2):false=decide (cV (a,b) (c,d) but):=by
 refine(decide_eq_false ?_).symm
 rintro(e|⟨e|e,_⟩)
 · exact h0 (hm.trans e)
 · exact h1 (hm.trans e)
 · exact h2 (hm.trans e)
end
def dn(p:dp)(h:Int):Pt:=if h%2=0 then gI (gI p.2 (h/2)) 1 else gI (gI p.2 (h/2)) (((gI p.2 (h/2)).length:Int)-2)
def j7(u v:Pt):Int:=u.1*v.1+u.2*v.2
def d8(u v:Pt):Prop:=co u v=0/\0<j7 u v
instance (u v:Pt):Decidable (d8 u v):=by unfold d8;infer_instance
theorem uH{o a:Pt}(ho:cI o)(ha:cI a):(-2097152<=a.1-o.1/\a.1-o.1<=2097152)/\ -2097152<=a.2-o.2/\a.2-o.2<=2097152:=by
 unfold cI at ho ha;omega
end TL
namespace TL
theorem yH{o a b:Pt}(h:(a.1-o.1)*(b.2-o.2)=(a.2-o.2)*(b.1-o.1)):decide (0<(a.1-o.1)*(b.1-o.1)+(a.2-o.2)*(b.2-o.2))=decide (d8 (aG a o) (aG b o)):=by
 rw[decide_eq_decide]
 unfold d8 co j7 aG
 simp only
 omega
theorem yn{o a b:Pt}(h:¬(a.1-o.1)*(b.2-o.2)=(a.2-o.2)*(b.1-o.1)):false=decide (d8 (aG a o) (aG b o)):=by
 refine(decide_eq_false ?_).symm
 unfold d8 co j7 aG
 simp only
 omega
end TL
namespace TL
section
variable{g:bG}{p:dp}{F G B:List cv}{v e k i:Nat}
theorem sY(h:decide (dW [gI p.1 (v:Int)])=true):kX p v=[]:=dG (Classical.not_not.2 ((of_decide_eq_true h).2 _ (by simp)))
theorem u5(h:¬decide (dW [gI p.1 (v:Int)])=true):kX p v=[(2,(v:Int),0)]:=
 dX λho=>h (decide_eq_true ⟨by simp,λx hx=>by obtain rfl:=List.mem_singleton.1 hx;exact ho⟩)
theorem y3(h:(((gI p.2 (e:Int)).length:Nat):Int)<2):nJ p e=[(3,(e:Int),0)]:=dX λho=>by have:=ho.1;omega
theorem xL(h:¬decide (dW (gI p.2 (e:Int)))=true):nJ p e=[(3,(e:Int),0)]:=dX λho=>h (decide_eq_true ho.2)
theorem xS(h0:¬(((gI p.2 (e:Int)).length:Nat):Int)<2)(h:decide (dW (gI p.2 (e:Int)))=true):nJ p e=[]:=dG λho=>ho ⟨by omega,of_decide_eq_true h⟩
theorem og{β:Type}{f h:Nat->List β}{F:List β}{k n:Nat}(hF:F=bg f k)(hk:k=n):F=bg f n++bg h 0:=by
 subst hk;rw[hF];simp[bg]
theorem xP(h:¬((p.1.length:Nat):Int)=g.1):[(1,0,0)]=bZ g p:=by unfold bZ;rw[if_neg λc=>h c.1]
theorem xW(h:¬((p.2.length:Nat):Int)=(g.2.length:Int)):[(1,0,0)]=bZ g p:=by unfold bZ;rw[if_neg λc=>h c.2]
theorem xI(h1:((p.1.length:Nat):Int)=g.1)(h2:((p.2.length:Nat):Int)=(g.2.length:Int))(hG:G=bg (kX p) p.1.length++bg (nJ p) e)(he:e=p.2.length):G=bZ g p:=by
 unfold bZ;rw[if_pos ⟨h1,h2⟩,hG,he]
theorem rf(hF:F=bg (kX p) v):F.length<=v:=by rw[hF];exact d4 na
theorem qU(hF:F=bg (kX p) v++bg (nJ p) e):F.length<=v+e:=by
 rw[hF,List.length_append]
 have l1:=d4 (f:=kX p) (k:=v) na
 have l2:=d4 (f:=nJ p) (k:=e) rd
 omega
theorem uJ(hF:F=bZ g p)(h:0<(F.length:Int)):F=cl g p:=by
 unfold cl
 rw[<-hF,if_neg]
 intro e;subst e;simp at h
theorem tO(hF:F=bZ g p)(h:¬0<(F.length:Int)):F=[]/\bZ g p=[]/\zW g p:=by
 have:F=[]:=List.eq_nil_of_length_eq_zero (by omega)
 have h2:bZ g p=[]:=hF▸this
 exact⟨this,h2,km.1 h2⟩
def m6(l:List Pt)(q:Pt)(k:Nat):List Int:=bg (λj=>fl (gI l (j:Int)=q) (j:Int)) k
theorem r3(l:List Pt)(q:Pt)(k:Nat):(m6 l q k).length<=k:=d4 λj=>fL
theorem th{l:List Pt}{first:Pt->List Int}{k:Nat}(h:first=λq=>m6 l q k):(λq=>if q=gI l (k:Int) then first (gI l (k:Int))++[(k:Int)] else first q)=λq=>m6 l q (k+1):=by
 funext q
 rw[h]
 simp only[m6,bg]
 by_cases e:q=gI l (k:Int)
 · subst e
   rw[if_pos rfl,dX rfl]
 · rw[if_neg e,dG (λh=>e h.symm),List.append_nil]
def iH(v:Nat)(u:Int):List cv:=fl ((v:Int)<u) (4,(v:Int),u)
theorem wV{k:Nat}:(m6 p.1 (gI p.1 (v:Int)) k).flatMap (iH v)=bg (ub p v) k:=by
 induction k with
 |zero=>rfl
 |succ k ih=>
   have e1:m6 p.1 (gI p.1 (v:Int)) (k+1)=m6 p.1 (gI p.1 (v:Int)) k++fl (gI p.1 (k:Int)=gI p.1 (v:Int)) (k:Int):=rfl
   rw[e1,List.flatMap_append,ih,bg]
   congr 1
   unfold ub iH
   by_cases c:gI p.1 (k:Int)=gI p.1 (v:Int)
   · rw[dX c,List.flatMap_cons]
     simp only[List.flatMap_nil,List.append_nil]
     by_cases c2:v<k
     · rw[dX (by omega),dX ⟨c2,c.symm⟩]
     · rw[dG (by omega),dG (λh=>c2 h.1)]
   · rw[dG c,dG (λh=>c h.2.symm)];rfl
def gw(p:dp)(v:Nat):List cv:=bg (ub p v) p.1.length
theorem tP{l:List Int}(hF:F=bg (gw p) v):F=bg (gw p) v++(l.take 0).flatMap (iH v):=by rw[hF];simp
theorem xe{l:List Int}(hG:G=bg (gw p) v++(l.take i).flatMap (iH v))(hi:(i:Int)<l.length)(h:(v:Int)<gI l (i:Int)):G++[(4,(v:Int),gI l (i:Int))]=bg (gw p) v++(l.take (i+1)).flatMap (iH v):=by
 rw[bC hi,List.flatMap_append,hG]
 simp[iH,dX h]
theorem yx{l:List Int}(hG:G=bg (gw p) v++(l.take i).flatMap (iH v))(hi:(i:Int)<l.length)(h:¬(v:Int)<gI l (i:Int)):G=bg (gw p) v++(l.take (i+1)).flatMap (iH v):=by
 rw[bC hi,List.flatMap_append,hG]
 simp[iH,dG h]
theorem sV{first:Pt->List Int}{n:Nat}(hf:first=λq=>m6 p.1 q n)(hn:n=p.1.length)(hG:G=bg (gw p) v++((first (gI p.1 (v:Int))).take i).flatMap (iH v))(hi:¬(i:Int)<(first (gI p.1 (v:Int))).length):G=bg (gw p) (v+1):=by
 rw[List.take_of_length_le (by omega),hf] at hG
 simp only at hG
 rw[wV,hn] at hG
 exact hG
theorem nR(v:Nat):(gw p v).length<=p.1.length:=d4 (tg v)
theorem x7{l:List Int}(hn:p.1.length<=1024)(hv:v<=1024)(hG:G=bg (gw p) v++(l.take i).flatMap (iH v))(hl:l.length<=1024):G.length<=9440000:=by
 have l1:=ic (f:=gw p) (k:=v) (c:=1024) (by omega) (by omega) λj=>Nat.le_trans (nR j) hn
 have l2:∀m:List Int,(m.flatMap (iH v)).length<=m.length:=λm=>by
   induction m with
   |nil=>simp
   |cons a m ih=>
     have h1:(iH v a).length<=1:=fL
     rw[List.flatMap_cons,List.length_append,List.length_cons];omega
 have l3:=l2 (l.take i)
 rw[List.length_take] at l3
 rw[hG,List.length_append];omega
theorem yp(hn:p.1.length<=1024)(hv:v<=1024)(hG:G=bg (gw p) v):G.length<=9440000:=by
 have l1:=ic (f:=gw p) (k:=v) (c:=1024) (by omega) (by omega) λj=>Nat.le_trans (nR j) hn
 rw[hG];omega
theorem vf:c9 p=bg (gw p) p.1.length:=rfl
theorem mT(hn:p.1.length<=1024):(c9 p).length<=9440000:=yp hn hn rfl
theorem sx(hF:F=bg (gw p) v)(hv:v=p.1.length):F=c9 p++bg (cT g p) 0/\true=decide (bg (cT g p) 0=[]):=by
 subst hv;rw[hF,vf];simp[bg]
theorem oy{b:Bool}(h:F=c9 p++bg (cT g p) e/\b=decide (bg (cT g p) e=[]))(hn:¬lH g p (e:Int)):F++[(5,(e:Int),0)]=c9 p++bg (cT g p) (e+1)/\false=decide (bg (cT g p) (e+1)=[]):=by
 have hx:cT g p e=[(5,(e:Int),0)]:=dX hn
 exact⟨gL h.1 hx,(decide_eq_false (by rw[bg,hx];simp)).symm⟩
theorem x6{b:Bool}(h:F=c9 p++bg (cT g p) e/\b=decide (bg (cT g p) e=[]))(hn:lH g p (e:Int)):F=c9 p++bg (cT g p) (e+1)/\b=decide (bg (cT g p) (e+1)=[]):=by
 have hx:cT g p e=[]:=dG (Classical.not_not.2 hn)
 refine⟨iU h.1 hx,?_⟩
 rw[h.2,bg,hx,List.append_nil]
theorem vh(hn:p.1.length<=1024)(he:e<=3072)(h:F=c9 p++bg (cT g p) e):F.length<=9500000:=by
 have l1:=mT hn
 have l2:=d4 (f:=cT g p) (k:=e) oP
 rw[h,List.length_append];omega
theorem ue{b:Bool}(h:F=c9 p++bg (cT g p) e/\b=decide (bg (cT g p) e=[]))(he:e=p.2.length):F=c9 p++(bg (cT g p) p.2.length++bg (fB p) 0)/\b=decide (bg (cT g p) p.2.length++bg (fB p) 0=[]):=by
 subst he;simpa[bg] using h
theorem sT{b:Bool}(h:F=c9 p++(bg (cT g p) p.2.length++bg (fB p) e)/\b=decide (bg (cT g p) p.2.length++bg (fB p) e=[]))(hn:¬kP (gI p.2 (e:Int))):F++[(6,(e:Int),0)]=c9 p++(bg (cT g p) p.2.length++bg (fB p) (e+1))/\false=decide (bg (cT g p) p.2.length++bg (fB p) (e+1)=[]):=by
 have hx:fB p e=[(6,(e:Int),0)]:=dX hn
 refine⟨?_,(decide_eq_false (by rw[bg,hx];simp)).symm⟩
 rw[h.1,bg,hx];simp
theorem x8{b:Bool}(h:F=c9 p++(bg (cT g p) p.2.length++bg (fB p) e)/\b=decide (bg (cT g p) p.2.length++bg (fB p) e=[]))(hn:kP (gI p.2 (e:Int))):F=c9 p++(bg (cT g p) p.2.length++bg (fB p) (e+1))/\b=decide (bg (cT g p) p.2.length++bg (fB p) (e+1)=[]):=by
 have hx:fB p e=[]:=dG (Classical.not_not.2 hn)
 rw[bg,hx,List.append_nil];exact h
theorem qw(hn:p.1.length<=1024)(hm:p.2.length<=3072)(he:e<=3072)(h:F=c9 p++(bg (cT g p) p.2.length++bg (fB p) e)):F.length<=9500000:=by
 have l1:=mT hn
 have l2:=d4 (f:=cT g p) (k:=p.2.length) oP
 have l3:=d4 (f:=fB p) (k:=e) un
 rw[h,List.length_append,List.length_append];omega
theorem mx{b:Bool}(h:F=c9 p++(bg (cT g p) p.2.length++bg (fB p) e)/\b=decide (bg (cT g p) p.2.length++bg (fB p) e=[]))(he:e=p.2.length):F=c9 p++eI g p/\b=decide (eI g p=[]):=by
 subst he;exact h
def dm(g:bG)(p:dp):List cv:=c9 p++eI g p
theorem oe(hn:p.1.length<=1024)(hm:p.2.length<=3072):(dm g p).length<=9500000:=qw hn hm hm rfl
def iZ(g:bG)(p:dp)(e:Nat):List cv:=bg (fS g p e) p.1.length
def jl(g:bG)(p:dp)(e:Nat):List cv:=bg (eW g p e) p.2.length
theorem oT(e:Nat):(iZ g p e).length<=p.1.length:=d4 (mb e)
theorem tp(e:Nat):(jl g p e).length<=p.2.length:=d4 (lR e)
theorem pF(h:F=c9 p++eI g p):F=dm g p++bg (iZ g p) 0:=by rw[h];simp[bg,dm]
theorem sA(hn:p.1.length<=1024)(hm:p.2.length<=3072)(he:e<=3072)(hv:v<=1024)(h:G=(dm g p++bg (iZ g p) e)++bg (fS g p e) v):G.length<=20000000:=by
 have l1:=oe (g:=g) hn hm
 have l2:=ic (f:=iZ g p) (k:=e) (c:=1024) he (by omega) λj=>Nat.le_trans (oT j) hn
 have l3:=d4 (f:=fS g p e) (k:=v) (mb e)
 rw[h,List.length_append,List.length_append];omega
theorem rS(h:G=(dm g p++bg (iZ g p) e)++bg (fS g p e) v)(hv:v=p.1.length):G=dm g p++bg (iZ g p) (e+1):=by
 subst hv;exact r7 h
theorem pm(h:F=dm g p++bg (iZ g p) e)(he:e=p.2.length):F=(dm g p++eo g p)++bg (jl g p) 0:=by
 subst he;rw[h];simp[bg,eo];rfl
theorem pY(h:F=(dm g p++eo g p)++bg (jl g p) e):F=((dm g p++eo g p)++bg (jl g p) e)++bg (eW g p e) (e+1)/\e<e+1:=by
 refine⟨?_,by omega⟩
 rw[fw (f:=eW g p e) (k:=e+1) λj hj=>dG λh=>by omega,List.append_nil];exact h
theorem rO(hn:p.1.length<=1024)(hm:p.2.length<=3072):(eo g p).length<=9437184:=
 ic (f:=iZ g p) (k:=p.2.length) (c:=1024) (by omega) (by omega) λj=>Nat.le_trans (oT j) hn
theorem rV{f:Nat}(hn:p.1.length<=1024)(hm:p.2.length<=3072)(he:e<=3072)(hf:f<=3072)(h:G=((dm g p++eo g p)++bg (jl g p) e)++bg (eW g p e) f):G.length<=40000000:=by
 have l1:=oe (g:=g) hn hm
 have l0:=rO (g:=g) hn hm
 have l2:=ic (f:=jl g p) (k:=e) (c:=3072) he (by omega) λj=>Nat.le_trans (tp j) hm
 have l3:=d4 (f:=eW g p e) (k:=f) (lR e)
 rw[h,List.length_append,List.length_append,List.length_append];omega
theorem sG{f:Nat}(h:G=((dm g p++eo g p)++bg (jl g p) e)++bg (eW g p e) f)(hf:f=p.2.length):G=(dm g p++eo g p)++bg (jl g p) (e+1):=by
 subst hf;exact r7 h
theorem wd(h:(v:Int)=(gI g.2 (e:Int)).1):fS g p e v=[]:=dG λc=>c.1.1 h
theorem wq(h:(v:Int)=(gI g.2 (e:Int)).2):fS g p e v=[]:=dG λc=>c.1.2 h
theorem vX(h:¬decide (fp (gI p.2 (e:Int)) (gI p.1 (v:Int)))=true):fS g p e v=[]:=dG λc=>h (decide_eq_true c.2)
theorem wF(h1:¬(v:Int)=(gI g.2 (e:Int)).1)(h2:¬(v:Int)=(gI g.2 (e:Int)).2)(h:decide (fp (gI p.2 (e:Int)) (gI p.1 (v:Int)))=true):fS g p e v=[(7,(e:Int),(v:Int))]:=dX ⟨⟨h1,h2⟩,of_decide_eq_true h⟩
theorem uQ{b:Bool}(hs:bZ g p=[])(hF:F=c9 p++eI g p)(hb:b=decide (eI g p=[]))(h:¬b=true):F=cl g p:=by
 have:¬eI g p=[]:=λe=>h (hb.trans (decide_eq_true e))
 unfold cl
 rw[if_pos hs,if_neg this,List.append_nil];exact hF
theorem sy{b:Bool}(hs:bZ g p=[])(hb:b=decide (eI g p=[]))(h:b=true)(hF:F=(dm g p++eo g p)++bg (jl g p) e)(he:e=p.2.length):F=cl g p:=by
 have:eI g p=[]:=of_decide_eq_true (hb▸h)
 subst he
 unfold cl
 rw[if_pos hs,if_pos this,hF]
 unfold dm
 rw[List.append_assoc];rfl
end
section
variable{g:bG}{p:dp}{e f:Int}
theorem zH(h1:¬decide ((gI g.2 e).1∈[(gI g.2 f).1,(gI g.2 f).2])=true)(h2:¬decide ((gI g.2 e).2∈[(gI g.2 f).1,(gI g.2 f).2])=true):[]=jF g p e f:=by
 unfold jF;rw[dG λh=>h1 (decide_eq_true h),dG λh=>h2 (decide_eq_true h)];rfl
theorem A0(h1:decide ((gI g.2 e).1∈[(gI g.2 f).1,(gI g.2 f).2])=true)(h2:¬decide ((gI g.2 e).2∈[(gI g.2 f).1,(gI g.2 f).2])=true):[gI p.1 (gI g.2 e).1]=jF g p e f:=by
 unfold jF;rw[dX (of_decide_eq_true h1),dG λh=>h2 (decide_eq_true h)];rfl
theorem zR(h1:¬decide ((gI g.2 e).1∈[(gI g.2 f).1,(gI g.2 f).2])=true)(h2:decide ((gI g.2 e).2∈[(gI g.2 f).1,(gI g.2 f).2])=true):[gI p.1 (gI g.2 e).2]=jF g p e f:=by
 unfold jF;rw[dX (of_decide_eq_true h2),dG λh=>h1 (decide_eq_true h)];rfl
theorem A1(h1:decide ((gI g.2 e).1∈[(gI g.2 f).1,(gI g.2 f).2])=true)(h2:decide ((gI g.2 e).2∈[(gI g.2 f).1,(gI g.2 f).2])=true):[gI p.1 (gI g.2 e).1]++[gI p.1 (gI g.2 e).2]=jF g p e f:=by
 unfold jF;rw[dX (of_decide_eq_true h2),dX (of_decide_eq_true h1)]
theorem yc:(jF g p e f).length<=2:=by
 unfold jF
 rw[List.length_append]
 have h1:(fl ((gI g.2 e).1∈[(gI g.2 f).1,(gI g.2 f).2]) (gI p.1 (gI g.2 e).1)).length<=1:=fL
 have h2:(fl ((gI g.2 e).2∈[(gI g.2 f).1,(gI g.2 f).2]) (gI p.1 (gI g.2 e).2)).length<=1:=fL
 omega
theorem tM{x:Pt}:x∈jF g p e f↔∃v,(v=(gI g.2 e).1\/v=(gI g.2 e).2)/\(v=(gI g.2 f).1\/v=(gI g.2 f).2)/\x=gI p.1 v:=by
 unfold jF
 rw[List.mem_append,uj,uj]
 simp only[List.mem_cons,List.not_mem_nil,or_false]
 constructor
 · rintro(⟨h1,h2⟩|⟨h1,h2⟩)
   · exact⟨_,.inl rfl,h1,h2⟩
   · exact⟨_,.inr rfl,h1,h2⟩
 · rintro⟨v,rfl|rfl,h1,h2⟩
   · exact .inl ⟨h1,h2⟩
   · exact .inr ⟨h1,h2⟩
theorem l7(hm:bF g)(h0:0<=e)(h1:e<g.2.length):(0<=(gI g.2 e).1/\(gI g.2 e).1<g.1)/\0<=(gI g.2 e).2/\(gI g.2 e).2<g.1:=hm.2.2.2 _ (aR h0 h1)
theorem zN(hm:bF g)(hs:zW g p)(h0:0<=e)(h1:e<g.2.length):∀x∈jF g p e f,cI x:=by
 intro x hx
 obtain⟨v,hv,_,rfl⟩:=tM.1 hx
 obtain⟨⟨a1,a2⟩,a3,a4⟩:=l7 hm h0 h1
 have:=hs.n
 rcases hv with rfl|rfl
 · exact hs.pt _ a1 (by omega)
 · exact hs.pt _ a3 (by omega)
end
section
variable{a b but:List Pt}{i k:Nat}
theorem nf:kg a b but↔∀j:Nat,j+1<a.length->∀q:Nat,q+1<b.length->cV (gI a (j:Int),gI a ((j:Int)+1)) (gI b (q:Int),gI b ((q:Int)+1)) but:=by
 unfold kg
 constructor
 · intro h j hj q hq
   exact h _ (fO.2 ⟨j,by omega,rfl⟩) _ (fO.2 ⟨q,by omega,rfl⟩)
 · intro h s hs t ht
   obtain⟨j,hj,rfl⟩:=fO.1 hs
   obtain⟨q,hq,rfl⟩:=fO.1 ht
   exact h j (by omega) q (by omega)
theorem wj(h:1<=i/\∀j:Nat,j+1<i->∀q:Nat,q+1<b.length->cV (gI a (j:Int),gI a ((j:Int)+1)) (gI b (q:Int),gI b ((q:Int)+1)) but)
   (h2:1<=k/\∀q:Nat,q+1<k->cV (gI a ((i:Int)-1),gI a (i:Int)) (gI b (q:Int),gI b ((q:Int)+1)) but)(hk:¬(k:Int)<b.length):
   1<=i+1/\∀j:Nat,j+1<i+1->∀q:Nat,q+1<b.length->cV (gI a (j:Int),gI a ((j:Int)+1)) (gI b (q:Int),gI b ((q:Int)+1)) but:=by
 refine⟨by omega,λj hj q hq=>?_⟩
 by_cases e:j+1=i
 · have h3:=h2.2 q (by omega)
   rw[show(j:Int)=(i:Int)-1 by omega,show(i:Int)-1+1=(i:Int) by omega]
   exact h3
 · exact h.2 j (by omega) q hq
theorem tE(h:1<=k/\∀q:Nat,q+1<k->cV (gI a ((i:Int)-1),gI a (i:Int)) (gI b (q:Int),gI b ((q:Int)+1)) but)(ho:decide (cV (gI a ((i:Int)-1),gI a (i:Int)) (gI b ((k:Int)-1),gI b (k:Int)) but)=true):
   1<=k+1/\∀q:Nat,q+1<k+1->cV (gI a ((i:Int)-1),gI a (i:Int)) (gI b (q:Int),gI b ((q:Int)+1)) but:=by
 refine⟨by omega,λq hq=>?_⟩
 by_cases e:q+1=k
 · rw[show(q:Int)=(k:Int)-1 by omega,show(k:Int)-1+1=(k:Int) by omega]
   exact of_decide_eq_true ho
 · exact h.2 q (by omega)
theorem yS(h1:1<=i)(hi:(i:Int)<a.length)(h2:1<=k)(hk:(k:Int)<b.length)(ho:¬decide (cV (gI a ((i:Int)-1),gI a (i:Int)) (gI b ((k:Int)-1),gI b (k:Int)) but)=true):false=decide (kg a b but):=by
 refine(decide_eq_false λh=>ho (decide_eq_true ?_)).symm
 have:=nf.1 h (i-1) (by omega) (k-1) (by omega)
 rwa[show((i-1:Nat):Int)=(i:Int)-1 by omega,show((k-1:Nat):Int)=(k:Int)-1 by omega,show(i:Int)-1+1=(i:Int) by omega,show(k:Int)-1+1=(k:Int) by omega] at this
theorem vz(h:1<=i/\∀j:Nat,j+1<i->∀q:Nat,q+1<b.length->cV (gI a (j:Int),gI a ((j:Int)+1)) (gI b (q:Int),gI b ((q:Int)+1)) but)(hi:¬(i:Int)<a.length):true=decide (kg a b but):=
 (decide_eq_true (nf.2 λj hj=>h.2 j (by omega))).symm
end
section
variable{g:bG}{p:dp}{e f:Nat}{b:Bool}
theorem qk(hef:e<f)(hb:b=decide (kg (gI p.2 (e:Int)) (gI p.2 (f:Int)) (jF g p (e:Int) (f:Int))))(h:¬b=true):eW g p e f=[(8,(e:Int),(f:Int))]:=
 dX ⟨hef,λc=>h (hb.trans (decide_eq_true c))⟩
theorem rY(hb:b=decide (kg (gI p.2 (e:Int)) (gI p.2 (f:Int)) (jF g p (e:Int) (f:Int))))(h:b=true):eW g p e f=[]:=
 dG λc=>c.2 (of_decide_eq_true (hb▸h))
end
end TL
/-
  TlTr: one of each class, how many classes there are; the components of a net.
  By an AI agent.
-/
set_option linter.all false
namespace TL
structure Tr(D:Int->Prop)(R:Int->Int->Prop)(l:List Int):Prop where
  nd:l.Nodup
  dom:∀x∈l,D x
  all:∀x,D x->∃y∈l,R x y
  one:∀x∈l,∀y∈l,R x y->x=y
structure qK(D:Int->Prop)(R:Int->Int->Prop):Prop where
 rfl:∀x,D x->R x x
 symm:∀x y,D x->D y->R x y->R y x
 trans:∀x y z,D x->D y->D z->R x y->R y z->R x z
theorem r8{P:Int->Int->Prop}:∀(l l':List Int),l.Nodup->(∀x∈l,∃y∈l',P x y)->(∀x∈l,∀x'∈l,∀y,y∈l'->P x y->P x' y->x=x')->l.length<=l'.length
 |[],l',_,_,_=>by simp
 |a::l,l',hn,h1,h2=>by
   obtain⟨y,hy,hp⟩:=h1 a (by simp)
   have hn':=List.nodup_cons.1 hn
   have h3:=r8 (P:=P) l (l'.erase y) hn'.2 (λx hx=>by
     obtain⟨z,hz,hq⟩:=h1 x (by simp[hx])
     refine⟨z,(List.mem_erase_of_ne (λe=>?_)).2 hz,hq⟩
     subst e
     have:=h2 a (by simp) x (by simp[hx]) z hz hp hq
     subst this
     exact hn'.1 hx) (λx hx x' hx' z hz=>h2 x (by simp[hx]) x' (by simp[hx']) z (List.mem_of_mem_erase hz))
   have h4:=List.length_erase_of_mem hy
   have h5:=List.length_pos_of_mem hy
   simp;omega
theorem Tr.len{D:Int->Prop}{R:Int->Int->Prop}{l l':List Int}(he:qK D R)(h:Tr D R l)(h':Tr D R l'):l.length=l'.length:=by
 have key:∀{l l':List Int},Tr D R l->Tr D R l'->l.length<=l'.length:=λ {l l'} h h'=>r8 (P:=R) l l' h.nd (λx hx=>h'.all x (h.dom x hx)) (λx hx x' hx' y hy h1 h2=>h.one x hx x' hx' (he.trans _ _ _ (h.dom x hx) (h'.dom y hy) (h.dom x' hx') h1 (he.symm _ _ (h.dom x' hx') (h'.dom y hy) h2)))
 exact Nat.le_antisymm (key h h') (key h' h)
theorem dS{f:Int->Int}:∀{l:List Int},l.Nodup->(∀x∈l,∀y∈l,f x=f y->x=y)->(l.map f).Nodup
 |[],_,_=>by simp
 |a::l,hn,h=>by
   have hn':=List.nodup_cons.1 hn
   rw[List.map_cons,List.nodup_cons]
   refine⟨λhm=>?_,dS hn'.2 (λx hx y hy=>h x (by simp[hx]) y (by simp[hy]))⟩
   obtain⟨y,hy,e⟩:=List.mem_map.1 hm
   have:=h a (by simp) y (by simp[hy]) e.symm
   subst this
   exact hn'.1 hy
theorem Tr.map{D D':Int->Prop}{R R':Int->Int->Prop}{l:List Int}(f:Int->Int)(h:Tr D R l)(he':qK D' R')(hd:∀x,D x->D' (f x))(hr:∀x y,D x->D y->R x y->R' (f x) (f y))(hb:∀x y,D x->D y->R' (f x) (f y)->R x y)(hs:∀z,D' z->∃x,D x/\R' z (f x)):Tr D' R' (l.map f):=by
  refine⟨dS h.nd λx hx y hy e=>?_,λz hz=>?_,λz hz=>?_,λz hz w hw hzw=>?_⟩
  · have hx':=h.dom x hx
    have hy':=h.dom y hy
    exact h.one x hx y hy (hb x y hx' hy' (by rw[<-e];exact he'.rfl _ (hd x hx')))
  · obtain⟨x,hx,rfl⟩:=List.mem_map.1 hz
    exact hd x (h.dom x hx)
  · obtain⟨x,hx,hzx⟩:=hs z hz
    obtain⟨y,hy,hxy⟩:=h.all x hx
    exact⟨f y,List.mem_map.2 ⟨y,hy,rfl⟩,he'.trans _ _ _ hz (hd x hx) (hd y (h.dom y hy)) hzx (hr x y hx (h.dom y hy) hxy)⟩
  · obtain⟨x,hx,rfl⟩:=List.mem_map.1 hz
    obtain⟨y,hy,rfl⟩:=List.mem_map.1 hw
    rw[h.one x hx y hy (hb x y (h.dom x hx) (h.dom y hy) hzw)]
def gY(D:Int->Prop)(R:Int->Int->Prop)(k:Nat):Prop:=∃l,Tr D R l/\l.length=k
theorem gY.eq{D:Int->Prop}{R:Int->Int->Prop}{k k':Nat}(he:qK D R)(h:gY D R k)(h':gY D R k'):k=k':=by
 obtain⟨l,h1,rfl⟩:=h
 obtain⟨l',h2,rfl⟩:=h'
 exact h1.len he h2
theorem gY.iff{D:Int->Prop}{R R':Int->Int->Prop}{k:Nat}(h:gY D R k)(hi:∀x y,D x->D y->(R x y↔R' x y)):gY D R' k:=by
 obtain⟨l,h1,h2⟩:=h
 refine⟨l,⟨h1.nd,h1.dom,λx hx=>?_,λx hx y hy hxy=>h1.one x hx y hy ((hi x y (h1.dom x hx) (h1.dom y hy)).2 hxy)⟩,h2⟩
 obtain⟨y,hy,hxy⟩:=h1.all x hx
 exact⟨y,hy,(hi x y hx (h1.dom y hy)).1 hxy⟩
theorem gY.map{D D':Int->Prop}{R R':Int->Int->Prop}{k:Nat}(f:Int->Int)(h:gY D R k)(he':qK D' R')(hd:∀x,D x->D' (f x))(hr:∀x y,D x->D y->R x y->R' (f x) (f y))(hb:∀x y,D x->D y->R' (f x) (f y)->R x y)(hs:∀z,D' z->∃x,D x/\R' z (f x)):gY D' R' k:=by
 obtain⟨l,h1,h2⟩:=h
 exact⟨l.map f,h1.map f he' hd hr hb hs,by rw[List.length_map,h2]⟩
def ke(g:bG)(v:Int):Prop:=0<=v/\v<g.1
def Cn(g:bG)(u v:Int):Prop:=∀R:Int->Int->Prop,qK (ke g) R->(∀e∈g.2,R e.1 e.2)->R u v
theorem Cn.eqv(g:bG):qK (ke g) (Cn g):=
 ⟨λx hx R hR _=>hR.rfl x hx,λx y hx hy h R hR he=>hR.symm x y hx hy (h R hR he),λx y z hx hy hz h1 h2 R hR he=>hR.trans x y z hx hy hz (h1 R hR he) (h2 R hR he)⟩
theorem Cn.edge{g:bG}{e:Int×Int}(h:e∈g.2):Cn g e.1 e.2:=λR _ he=>he e h
theorem Cn.half{g:bG}(hm:bF g){h:Int}(h0:0<=h)(h1:h<2*(g.2.length:Int)):Cn g (aL g h) (dV g h):=by
 have hin:=aR (xs:=g.2) (i:=h/2) (by omega) (by omega)
 have hok:=hm.2.2.2 _ hin
 have hc:=Cn.edge hin
 unfold aL dV pI
 have h2:h%2=0\/h%2=1:=by omega
 rcases h2 with e|e
 · rw[e];simpa using hc
 · rw[e]
   exact(Cn.eqv g).symm _ _ hok.1 hok.2 (by simpa using hc)
theorem tG{g:bG}{i:Nat}(hi:(i:Int)<g.2.length):2*(i:Int)∈bP g (gI g.2 (i:Int)).1/\2*(i:Int)+1∈bP g (gI g.2 (i:Int)).2/\dV g (2*(i:Int))=(gI g.2 (i:Int)).2/\dV g (2*(i:Int)+1)=(gI g.2 (i:Int)).1:=by
 have e1:(2*(i:Int))/2=i:=by omega
 have e2:(2*(i:Int))%2=0:=by omega
 have e3:(2*(i:Int)+1)/2=i:=by omega
 have e4:(2*(i:Int)+1)%2=1:=by omega
 refine⟨?_,?_,by unfold dV;rw[e1,e2];simp[pI],by unfold dV;rw[e3,e4];simp[pI]⟩
 · unfold bP gA
   refine List.mem_filter.2 ⟨List.mem_map.2 ⟨2*i,List.mem_range.2 (by omega),by push_cast;rfl⟩,?_⟩
   simp only[decide_eq_true_eq]
   unfold aL;rw[e1,e2];simp[pI]
 · unfold bP gA
   refine List.mem_filter.2 ⟨List.mem_map.2 ⟨2*i+1,List.mem_range.2 (by omega),by push_cast;rfl⟩,?_⟩
   simp only[decide_eq_true_eq]
   unfold aL;rw[e3,e4];simp[pI]
theorem mo{g:bG}{S:Int->Prop}(hS:∀x h,S x->h∈bP g x->S (dV g h)){u v:Int}(hc:Cn g u v):S u->S v:=by
 refine(hc (λu v=>S u↔S v) ⟨λ_ _=>Iff.rfl,λ_ _ _ _ h=>h.symm,λ_ _ _ _ _ _ h1 h2=>h1.trans h2⟩ (λe he=>?_)).1
 obtain⟨i,hi,rfl⟩:=List.mem_iff_getElem.1 he
 have e:gI g.2 (i:Int)=g.2[i]:=by simp[gI,hi]
 obtain⟨a,b,c,d⟩:=tG (g:=g) (i:=i) (by omega)
 rw[e] at a b c d
 exact⟨λh=>by rw[<-c];exact hS _ _ h a,λh=>by rw[<-d];exact hS _ _ h b⟩
theorem s7(g:bG)(v:Int)(s:Bf)(h:Int):∀x∈(gg g v s h).order,x∈s.order\/x=dV g h:=by
 intro x hx
 unfold gg at hx
 split at hx
 · rcases List.mem_append.1 hx with hx|hx
   · exact .inl hx
   · exact .inr (List.mem_singleton.1 hx)
 · exact .inl hx
theorem mp{g:bG}(hm:bF g){v:Int}:∀(l:List Int) (s:Bf),(∀h∈l,h∈bP g v)->kJ g s->v∈s.order->
   kJ g (l.foldl (gg g v) s)/\(∃t,(l.foldl (gg g v) s).order=s.order++t)/\(∀x∈(l.foldl (gg g v) s).order,x∈s.order\/∃h∈bP g v,x=dV g h)/\∀h∈l,dV g h∈(l.foldl (gg g v) s).order
 |[],s,_,hs,hv=>⟨hs,⟨[],by simp⟩,λx hx=>.inl hx,by simp⟩
 |a::l,s,hl,hs,hv=>by
   have hin:=(fv (hl a (by simp))).1
   have ht:=i2 hm hin.1 hin.2
   have h1:=hs.one (v:=v) (h:=a) hv ht.1 ht.2
   obtain⟨t,ht1⟩:=st g v s a
   have ha:dV g a∈(gg g v s a).order:=by
     by_cases c:gI s.far (dV g a)<0
     · unfold gg;rw[if_pos c];simp
     · rw[ht1]
       have:dV g a∈s.order:=Classical.byContradiction λhn=>c ((hs.iff _ ht.1 ht.2).2 hn)
       simp[this]
   obtain⟨k1,⟨t2,k2⟩,k3,k4⟩:=mp hm l (gg g v s a) (λh hh=>hl h (by simp[hh])) h1 (by rw[ht1];simp[hv])
   rw[List.foldl_cons]
   refine⟨k1,⟨t++t2,by rw[k2,ht1,List.append_assoc]⟩,λx hx=>?_,λh hh=>?_⟩
   · rcases k3 x hx with hx|hx
     · rcases s7 g v s a x hx with hx|hx
       · exact .inl hx
       · exact .inr ⟨a,hl a (by simp),hx⟩
     · exact .inr hx
   · rcases List.mem_cons.1 hh with rfl|hh
     · rw[k2];simp[ha]
     · exact k4 h hh
theorem qC{g:bG}(hm:bF g){s0:Int}:∀(n i:Nat) (s:Bf),kJ g s->(∀x∈s.order,Cn g s0 x)->s0∈s.order->ke g s0->(∀q:Nat,q<i->(q:Int)<s.order.length->∀h∈bP g (gI s.order (q:Int)),dV g h∈s.order)->(g.1:Int)<=n+i->
   kJ g (n9 g n i s)/\(∀x∈(n9 g n i s).order,Cn g s0 x)/\s0∈(n9 g n i s).order/\∀x∈(n9 g n i s).order,∀h∈bP g x,dV g h∈(n9 g n i s).order
 |0,i,s,hs,hc,h0,hd,hq,hn=>by
   refine⟨hs,hc,h0,λx hx h hh=>?_⟩
   obtain⟨q,hq1,e⟩:=List.mem_iff_getElem.1 hx
   have hl:=hs.len hm.1
   change q<s.order.length at hq1
   have eq1:gI s.order (q:Int)=x:=by simp only[n9] at e;simp[gI,hq1,e]
   exact hq q (by omega) (by omega) h (by rw[eq1];exact hh)
 |n+1,i,s,hs,hc,h0,hd,hq,hn=>by
   simp only[n9]
   by_cases c:i<s.order.length
   · rw[if_pos c]
     have hv:=aR (xs:=s.order) (i:=(i:Int)) (by omega) (by omega)
     obtain⟨k1,⟨t,k2⟩,k3,k4⟩:=mp hm (v:=gI s.order (i:Int)) (bP g (gI s.order (i:Int))) s (λh hh=>hh) hs hv
     have hvd:=hs.rng _ hv
     have hpre:∀q:Nat,(q:Int)<s.order.length->gI (mq g (gI s.order (i:Int)) s).order (q:Int)=gI s.order (q:Int):=λq hq'=>by
       unfold mq;rw[k2];unfold gI
       have:((q:Int)).toNat<s.order.length:=by omega
       simp only[Int.toNat_natCast] at this ⊢
       simp[List.getD_eq_getElem?_getD,List.getElem?_append_left this]
     refine qC hm n (i+1) (mq g (gI s.order (i:Int)) s) k1 (λx hx=>?_) (by unfold mq;rw[k2];simp[h0]) hd (λq hq1 hq2 h hh=>?_) (by omega)
     · rcases k3 x hx with hx|⟨h,hh,rfl⟩
       · exact hc x hx
       · have hin:=fv hh
         have h1:=Cn.half hm hin.1.1 hin.1.2
         rw[hin.2] at h1
         exact(Cn.eqv g).trans _ _ _ hd hvd (i2 hm hin.1.1 hin.1.2) (hc _ hv) h1
     · by_cases e:q=i
       · subst e
         rw[hpre q (by omega)] at hh
         exact k4 h hh
       · have hq3:(q:Int)<s.order.length:=by omega
         rw[hpre q hq3] at hh
         have:=hq q (by omega) hq3 h hh
         unfold mq;rw[k2];simp[this]
   · rw[if_neg c]
     refine⟨hs,hc,h0,λx hx h hh=>?_⟩
     obtain⟨q,hq1,e⟩:=List.mem_iff_getElem.1 hx
     have eq1:gI s.order (q:Int)=x:=by simp[gI,hq1,e]
     exact hq q (by omega) (by omega) h (by rw[eq1];exact hh)
theorem kz{g:bG}(hm:bF g){s0:Int}(h0:ke g s0):(∀x∈(fM g s0).order,ke g x)/\∀x,x∈(fM g s0).order↔Cn g s0 x:=by
 obtain⟨k1,k2,k3,k4⟩:=qC hm (s0:=s0) g.1.toNat 0 (eG g s0) (kJ.start h0.1 h0.2) (by simp[eG];exact(Cn.eqv g).rfl s0 h0) (by simp[eG]) h0 (λq hq=>by omega) (by have:=hm.1;omega)
 refine⟨k1.rng,λx=>⟨k2 x,λhc=>?_⟩⟩
 exact mo (S:=λx=>x∈(fM g s0).order) (λx h hx hh=>k4 x hx h hh) hc k3
theorem nE{n:Int}:∀(O p:List Int) (v:Int),0<=v->v<p.length->(∀x∈O,0<=x/\x<p.length)->gI (O.foldl (λl w=>l.set w.toNat n) p) v=if v∈O then n else gI p v
 |[],p,v,h0,h1,_=>by simp
 |a::O,p,v,h0,h1,ho=>by
   have ha:=ho a (by simp)
   rw[List.foldl_cons,nE O _ v h0 (by simpa using h1) (λx hx=>by simpa using ho x (by simp[hx])),dN ha.1 ha.2 h0]
   by_cases e:v=a
   · subst e;simp
   · by_cases hv:v∈O
     · simp[hv]
     · simp[hv,e]
structure sP(g:bG)(p:List Int×Int)(l:List Int)(k:Nat):Prop where
  len:(p.1.length:Int)=g.1
  num:p.2=(l.length:Int)
  nd:l.Nodup
  dom:∀x∈l,ke g x
  one:∀x∈l,∀y∈l,Cn g x y->x=y
  iff:∀v,ke g v->(0<=gI p.1 v↔∃y∈l,Cn g v y)
  all:∀v:Nat,v<k->(v:Int)<g.1->∃y∈l,Cn g (v:Int) y
theorem iV{g:bG}(hm:bF g):∀k:Nat,(k:Int)<=g.1->∃l,sP g (bl g k) l k
 |0,_=>⟨[],by simp[bl,bI];have:=hm.1;omega,by simp[bl,bI],by simp,by simp,by simp,λv hv=>by
     have e:(bl g 0).1=List.replicate g.1.toNat (-1):=by simp[bl,bI]
     rw[e,ku hv.1 (by have:=hv.2;omega)];simp,λv hv=>by omega⟩
 |k+1,hk=>by
   obtain⟨l,h⟩:=iV hm k (by omega)
   have hkd:ke g (k:Int):=⟨by omega,by omega⟩
   obtain⟨hb1,hb2⟩:=kz hm hkd
   rw[gj]
   unfold iv
   by_cases c:0<=gI (bl g k).1 (k:Int)
   · rw[if_pos c]
     refine⟨l,h.len,h.num,h.nd,h.dom,h.one,h.iff,λv hv hg=>?_⟩
     by_cases e:v=k
     · subst e;exact(h.iff _ hkd).1 c
     · exact h.all v (by omega) hg
   · rw[if_neg c]
     have hno:∀y∈l,¬Cn g (k:Int) y:=λy hy hc=>c ((h.iff _ hkd).2 ⟨y,hy,hc⟩)
     have hlen:=h.len
     have hnn:0<=(bl g k).2:=by rw[h.num];omega
     refine⟨l++[(k:Int)],?_,?_,?_,?_,?_,?_,?_⟩
     · simp only;rw[gR];exact hlen
     · simp only[h.num];simp
     · rw[List.nodup_append]
       refine⟨h.nd,by simp,λa ha b hb e=>?_⟩
       obtain rfl:=List.mem_singleton.1 hb
       subst e
       exact hno _ ha ((Cn.eqv g).rfl _ hkd)
     · intro x hx
       rcases List.mem_append.1 hx with hx|hx
       · exact h.dom x hx
       · obtain rfl:=List.mem_singleton.1 hx;exact hkd
     · intro x hx y hy hc
       rcases List.mem_append.1 hx with hx|hx
       · rcases List.mem_append.1 hy with hy|hy
         · exact h.one x hx y hy hc
         · obtain rfl:=List.mem_singleton.1 hy
           exact absurd ((Cn.eqv g).symm _ _ (h.dom x hx) hkd hc) (hno x hx)
       · obtain rfl:=List.mem_singleton.1 hx
         rcases List.mem_append.1 hy with hy|hy
         · exact absurd hc (hno y hy)
         · obtain rfl:=List.mem_singleton.1 hy;rfl
     · intro v hv
       simp only
       rw[nE _ _ v hv.1 (by have:=hv.2;omega) (λx hx=>by have:=hb1 x hx;exact⟨this.1,by have:=this.2;omega⟩)]
       by_cases hvo:v∈(fM g (k:Int)).order
       · rw[if_pos hvo]
         exact⟨λ_=>⟨(k:Int),by simp,(Cn.eqv g).symm _ _ hkd hv ((hb2 v).1 hvo)⟩,λ_=>hnn⟩
       · rw[if_neg hvo,h.iff v hv]
         constructor
         · rintro⟨y,hy,hc⟩;exact⟨y,by simp[hy],hc⟩
         · rintro⟨y,hy,hc⟩
           rcases List.mem_append.1 hy with hy|hy
           · exact⟨y,hy,hc⟩
           · obtain rfl:=List.mem_singleton.1 hy
             exact absurd ((hb2 v).2 ((Cn.eqv g).symm _ _ hv hkd hc)) hvo
     · intro v hv hg
       by_cases e:v=k
       · subst e;exact⟨(v:Int),by simp,(Cn.eqv g).rfl _ hkd⟩
       · obtain⟨y,hy,hc⟩:=h.all v (by omega) hg
         exact⟨y,by simp[hy],hc⟩
theorem rG{g:bG}(hm:bF g):∃k:Nat,(bE g).2.1=(k:Int)/\gY (ke g) (Cn g) k:=by
  have h0:=hm.1
  obtain⟨l,h⟩:=iV hm g.1.toNat (by omega)
  refine⟨l.length,by unfold bE;rw[if_pos hm];exact h.num,l,⟨h.nd,h.dom,λx hx=>?_,h.one⟩,rfl⟩
  have:=h.all x.toNat (by have:=hx.1;have:=hx.2;omega) (by have:=hx.1;have:=hx.2;omega)
  rwa[show((x.toNat:Nat):Int)=x by have:=hx.1;omega] at this
end TL
/-
  TlCyc: lists gone round: what stands behind what; rotations turned, and moved.
  By an AI agent.
-/
set_option linter.all false
namespace TL
def mm(l:List Int)(h:Int):Int:=gI l ((((l.idxOf h:Nat):Int)+1)%(l.length:Int))
theorem dE{u w:List Int}{x:Int}(hx:x∉u):mm (u++x::w) x=gI (w++u++[x]) 0:=by
 have hi:(u++x::w).idxOf x=u.length:=by
   rw[List.idxOf_append,if_neg hx];simp
 unfold mm
 rw[hi]
 cases w with
 |nil=>
   have h1:((u.length:Int)+1)%((u++[x]).length:Int)=0:=by simp
   rw[h1];simp
 |cons b w=>
   have h1:((u.length:Int)+1)%((u++x::b::w).length:Int)=(u.length:Int)+1:=Int.emod_eq_of_lt (by omega) (by simp;omega)
   rw[h1]
   unfold gI
   rw[show((u.length:Int)+1).toNat=u.length+1 by omega]
   simp[List.getD_eq_getElem?_getD]
theorem kW{s t:List Int}{y:Int}(hn:(s++t).Nodup)(hy:y∈s++t):mm (s++t) y=mm (t++s) y:=by
 have hn2:=List.nodup_append.1 hn
 rcases List.mem_append.1 hy with h|h
 · obtain⟨s1,s2,rfl⟩:=List.append_of_mem h
   have h1:y∉s1:=λhm=>(List.nodup_append.1 hn2.1).2.2 y hm y (by simp) rfl
   have h2:y∉t:=λhm=>hn2.2.2 y h y hm rfl
   have e1:(s1++y::s2)++t=s1++y::(s2++t):=by simp
   have e2:t++(s1++y::s2)=(t++s1)++y::s2:=by simp
   rw[e1,e2,dE h1,dE (by simp[h1,h2])]
   simp[List.append_assoc]
 · obtain⟨t1,t2,rfl⟩:=List.append_of_mem h
   have h1:y∉t1:=λhm=>(List.nodup_append.1 hn2.2.1).2.2 y hm y (by simp) rfl
   have h2:y∉s:=λhm=>hn2.2.2 y hm y h rfl
   have e1:s++(t1++y::t2)=(s++t1)++y::t2:=by simp
   have e2:(t1++y::t2)++s=t1++y::(t2++s):=by simp
   rw[e1,e2,dE h1,dE (by simp[h1,h2])]
   simp[List.append_assoc]
theorem iz(l:List Int):List.Perm (gS l) l:=by
 unfold gS
 split
 · rename_i h;rw[h]
 · exact List.perm_append_comm.trans (by rw[List.take_append_drop])
theorem tB{l:List Int}(hn:l.Nodup){y:Int}(hy:y∈l):mm (gS l) y=mm l y:=by
 unfold gS
 split
 · rename_i h;rw[h] at hy;cases hy
 · have h:=kW (s:=l.take (l.idxOf (dI l))) (t:=l.drop (l.idxOf (dI l))) (y:=y) (by rw[List.take_append_drop];exact hn) (by rw[List.take_append_drop];exact hy)
   rw[List.take_append_drop] at h
   exact h.symm
theorem ir{g:bG}{r:bY}(hr:cM g r){v:Nat}(hv:(v:Int)<r.length){h:Int}(hh:h∈gI r (v:Int)):eJ r h=mm (gI r (v:Int)) h:=by
 unfold eJ;rw[rv hr hv hh];rfl
theorem jI{r:bY}{v:Nat}(hv:(v:Int)<r.length):gI (cG r) (v:Int)=gS (gI r (v:Int)):=by
 unfold cG
 rw[sR _ (by omega) hv]
theorem iy(r:bY):(cG r).length=r.length:=by simp[cG]
theorem cM.canon{g:bG}{r:bY}(hr:cM g r):cM g (cG r):=by
 have hp:=mP (cG r) r (iy r) (λq hq=>by rw[jI (by omega)];exact iz _)
 refine⟨by rw[iy];exact hr.1,λv hv h hh=>?_,hp.nodup_iff.2 hr.2.2.1,by rw[hp.length_eq];exact hr.2.2.2⟩
 rw[iy] at hv
 rw[jI (by omega)] at hh
 exact hr.2.1 v hv h ((iz _).mem_iff.1 hh)
theorem lW{g:bG}{r:bY}(hr:cM g r){h:Int}(h0:0<=h)(h1:h<2*(g.2.length:Int)):∃v:Nat,(v:Int)<r.length/\h∈gI r (v:Int):=by
 obtain⟨v,i,hv,hi,e⟩:=iG hr h0 h1
 exact⟨v,hv,by rw[<-e];exact aR (by omega) hi⟩
theorem ob{g:bG}{r:bY}(hr:cM g r){h:Int}(h0:0<=h)(h1:h<2*(g.2.length:Int)):eJ (cG r) h=eJ r h:=by
 obtain⟨v,hv,hh⟩:=lW hr h0 h1
 rw[ir hr hv hh,ir hr.canon (v:=v) (by rw[iy];exact hv) (by rw[jI hv];exact(iz _).mem_iff.2 hh),jI hv,tB (mK hr hv) hh]
theorem oq(r:bY):((cG r).filter λl=>decide (l.length=0)).length=(r.filter λl=>decide (l.length=0)).length:=by
 unfold cG
 rw[List.filter_map,List.length_map]
 congr 1
 apply List.filter_congr
 intro l hl
 simp only[Function.comp,(iz l).length_eq]
section
variable{g:bG}{r:bY}{to:List Int}
end
theorem py{g:bG}{r:bY}(hm:bF g)(hrp:cM g r):du g r=(cG r,0):=by unfold du;rw[if_pos (jy hm hrp)]
end TL
/-
  TlOrb: going round by a permutation; two places changed; what that does to the numbers of rounds.
  By an AI agent.
-/
set_option linter.all false
namespace TL
def Jn(R:Int->Int->Prop)(a b x y:Int):Prop:=R x y\/(R x a/\R b y)\/(R x b/\R a y)
theorem Jn.eqv{D:Int->Prop}{R:Int->Int->Prop}(h:qK D R){a b:Int}(ha:D a)(hb:D b):qK D (Jn R a b):=by
 refine⟨λx hx=>.inl (h.rfl x hx),λx y hx hy hxy=>?_,λx y z hx hy hz h1 h2=>?_⟩
 · rcases hxy with e|⟨e1,e2⟩|⟨e1,e2⟩
   · exact .inl (h.symm _ _ hx hy e)
   · exact .inr (.inr ⟨h.symm _ _ hb hy e2,h.symm _ _ hx ha e1⟩)
   · exact .inr (.inl ⟨h.symm _ _ ha hy e2,h.symm _ _ hx hb e1⟩)
 · rcases h1 with e|⟨e1,e2⟩|⟨e1,e2⟩
   · rcases h2 with f|⟨f1,f2⟩|⟨f1,f2⟩
     · exact .inl (h.trans _ _ _ hx hy hz e f)
     · exact .inr (.inl ⟨h.trans _ _ _ hx hy ha e f1,f2⟩)
     · exact .inr (.inr ⟨h.trans _ _ _ hx hy hb e f1,f2⟩)
   · rcases h2 with f|⟨f1,f2⟩|⟨f1,f2⟩
     · exact .inr (.inl ⟨e1,h.trans _ _ _ hb hy hz e2 f⟩)
     · exact .inr (.inl ⟨e1,f2⟩)
     · exact .inl (h.trans _ _ _ hx ha hz e1 f2)
   · rcases h2 with f|⟨f1,f2⟩|⟨f1,f2⟩
     · exact .inr (.inr ⟨e1,h.trans _ _ _ ha hy hz e2 f⟩)
     · exact .inl (h.trans _ _ _ hx hb hz e1 f2)
     · exact .inr (.inr ⟨e1,f2⟩)
theorem gY.join{D:Int->Prop}{R:Int->Int->Prop}(he:qK D R){a b:Int}(ha:D a)(hb:D b)(hab:¬R a b){k:Nat}(h:gY D R k):∃k',gY D (Jn R a b) k'/\k'+1=k:=by
 obtain⟨l,h,rfl⟩:=h
 obtain⟨z,hz,hbz⟩:=h.all b hb
 have hzd:=h.dom z hz
 refine⟨(l.erase z).length,⟨l.erase z,⟨h.nd.erase z,λx hx=>h.dom x (List.mem_of_mem_erase hx),λx hx=>?_,λx hx y hy hxy=>?_⟩,rfl⟩,?_⟩
 · obtain⟨y,hy,hxy⟩:=h.all x hx
   by_cases e:y=z
   · subst e
     obtain⟨w,hw,haw⟩:=h.all a ha
     refine⟨w,(List.mem_erase_of_ne λe=>hab ?_).2 hw,.inr (.inr ⟨he.trans _ _ _ hx hzd hb hxy (he.symm _ _ hb hzd hbz),haw⟩)⟩
     subst e
     exact he.trans _ _ _ ha hzd hb haw (he.symm _ _ hb hzd hbz)
   · exact⟨y,(List.mem_erase_of_ne e).2 hy,.inl hxy⟩
 · have hx':=h.nd.mem_erase_iff.1 hx
   have hy':=h.nd.mem_erase_iff.1 hy
   have hxd:=h.dom x hx'.2
   have hyd:=h.dom y hy'.2
   rcases hxy with e|⟨_,e⟩|⟨e,_⟩
   · exact h.one x hx'.2 y hy'.2 e
   · exact absurd (h.one y hy'.2 z hz (he.trans _ _ _ hyd hb hzd (he.symm _ _ hb hyd e) hbz)) hy'.1
   · exact absurd (h.one x hx'.2 z hz (he.trans _ _ _ hxd hb hzd e hbz)) hx'.1
 · have h1:=List.length_erase_of_mem hz
   have h2:=List.length_pos_of_mem hz
   omega
def In(n x:Int):Prop:=0<=x/\x<n
theorem gY.ex{n:Int}{R:Int->Int->Prop}(he:qK (In n) R):∃k,gY (In n) R k:=by
 have key:∀m:Nat,(m:Int)<=n->∃l:List Int,l.Nodup/\(∀x∈l,0<=x/\x<m)/\(∀x:Int,0<=x->x<m->∃y∈l,R x y)/\∀x∈l,∀y∈l,R x y->x=y:=by
   intro m
   induction m with
   |zero=>exact λ_=>⟨[],by simp,by simp,λx h0 h1=>by omega,by simp⟩
   |succ m ih=>
     intro hm
     obtain⟨l,h1,h2,h3,h4⟩:=ih (by omega)
     have hmd:In n (m:Int):=⟨by omega,by omega⟩
     by_cases c:∃y∈l,R (m:Int) y
     · refine⟨l,h1,λx hx=>by have:=h2 x hx;omega,λx h0 hx=>?_,h4⟩
       by_cases e:x=(m:Int)
       · subst e;exact c
       · exact h3 x h0 (by omega)
     · refine⟨(m:Int)::l,List.nodup_cons.2 ⟨λhm=>by have:=h2 _ hm;omega,h1⟩,λx hx=>?_,λx h0 hx=>?_,λx hx y hy hxy=>?_⟩
       · rcases List.mem_cons.1 hx with rfl|hx
         · omega
         · have:=h2 x hx;omega
       · by_cases e:x=(m:Int)
         · subst e;exact⟨(m:Int),by simp,he.rfl _ hmd⟩
         · obtain⟨y,hy,hxy⟩:=h3 x h0 (by omega)
           exact⟨y,by simp[hy],hxy⟩
       · have hlt:∀z∈l,In n z:=λz hz=>by have:=h2 z hz;exact⟨by omega,by omega⟩
         rcases List.mem_cons.1 hx with rfl|hx
         · rcases List.mem_cons.1 hy with rfl|hy
           · rfl
           · exact absurd ⟨y,hy,hxy⟩ c
         · rcases List.mem_cons.1 hy with rfl|hy
           · exact absurd ⟨x,hx,he.symm _ _ (hlt x hx) hmd hxy⟩ c
           · exact h4 x hx y hy hxy
 by_cases hn:0<=n
 · obtain⟨l,h1,h2,h3,h4⟩:=key n.toNat (by omega)
   exact⟨l.length,l,⟨h1,λx hx=>by have:=h2 x hx;exact⟨by omega,by omega⟩,λx hx=>h3 x hx.1 (by have:=hx.2;omega),h4⟩,rfl⟩
 · exact⟨0,[],⟨by simp,by simp,λx hx=>by have:=hx.1;have:=hx.2;omega,by simp⟩,rfl⟩
def it(p:Int->Int):Nat->Int->Int
 |0,x=>x
 |k+1,x=>it p k (p x)
theorem iY(p:Int->Int):∀(a b:Nat) (x:Int),it p (a+b) x=it p b (it p a x)
 |0,b,x=>by simp[it]
 |a+1,b,x=>by
   rw[show a+1+b=(a+b)+1 by omega]
   simp only[it]
   exact iY p a b (p x)
theorem vr(p:Int->Int)(k:Nat)(x:Int):it p (k+1) x=p (it p k x):=iY p k 1 x
structure Pm(n:Int)(p:Int->Int):Prop where
 rng:∀x,In n x->In n (p x)
 inj:∀x y,In n x->In n y->p x=p y->x=y
theorem Pm.it{n:Int}{p:Int->Int}(h:Pm n p):∀(k:Nat) {x:Int},In n x->In n (it p k x)
 |0,x,hx=>hx
 |k+1,x,hx=>h.it k (h.rng x hx)
theorem Pm.itinj{n:Int}{p:Int->Int}(h:Pm n p):∀(k:Nat) {x y:Int},In n x->In n y->TL.it p k x=TL.it p k y->x=y
 |0,x,y,hx,hy,e=>e
 |k+1,x,y,hx,hy,e=>h.inj x y hx hy (h.itinj k (h.rng x hx) (h.rng y hy) e)
theorem Pm.back{n:Int}{p:Int->Int}(h:Pm n p){x:Int}(hx:In n x):∃k,TL.it p (k+1) x=x:=by
 refine Classical.byContradiction λhno=>?_
 have hnd:((List.range (n.toNat+1)).map λk=>TL.it p k x).Nodup:=by
   refine List.pairwise_map.2 (List.Pairwise.imp (R:=λa b=>a<b) (λ {a b} (hab:a<b)=>λ(e:TL.it p a x=TL.it p b x)=>hno ⟨b-a-1,?_⟩) List.pairwise_lt_range)
   have e2:TL.it p b x=TL.it p a (TL.it p (b-a-1+1) x):=by rw[<-iY];congr 1;omega
   rw[e2] at e
   exact(h.itinj a hx (h.it _ hx) e).symm
 have:=ig (n:=n) (by have:=hx.1;have:=hx.2;omega) hnd (λy hy=>by
   obtain⟨k,_,rfl⟩:=List.mem_map.1 hy
   exact h.it k hx)
 simp at this
 have:=hx.1;have:=hx.2
 omega
def cJ(p:Int->Int)(x y:Int):Prop:=∃k,TL.it p k x=y
theorem cJ.step(p:Int->Int)(x:Int):cJ p x (p x):=⟨1,rfl⟩
theorem cJ.refl(p:Int->Int)(x:Int):cJ p x x:=⟨0,rfl⟩
theorem cJ.trans{p:Int->Int}{x y z:Int}(h1:cJ p x y)(h2:cJ p y z):cJ p x z:=by
 obtain⟨a,rfl⟩:=h1
 obtain⟨b,rfl⟩:=h2
 exact⟨a+b,iY p a b x⟩
theorem cJ.ind{p:Int->Int}{S:Int->Prop}(hS:∀x,S x->S (p x)){x y:Int}(h:cJ p x y):S x->S y:=by
 obtain⟨k,rfl⟩:=h
 induction k generalizing x with
 |zero=>exact λh=>h
 |succ k ih=>exact λh=>ih (hS x h)
theorem cJ.mem{n:Int}{p:Int->Int}(hp:Pm n p){x y:Int}(h:cJ p x y)(hx:In n x):In n y:=cJ.ind (S:=In n) hp.rng h hx
theorem Pm.eqv{n:Int}{p:Int->Int}(h:Pm n p):qK (In n) (cJ p):=by
 refine⟨λx _=>cJ.refl p x,λx y hx hy hxy=>?_,λx y z _ _ _ h1 h2=>h1.trans h2⟩
 obtain⟨k,rfl⟩:=hxy
 obtain⟨c,hc⟩:=h.back hx
 have hm:∀m:Nat,TL.it p (m*(c+1)) x=x:=by
   intro m
   induction m with
   |zero=>simp[TL.it]
   |succ m ih=>rw[show(m+1)*(c+1)=m*(c+1)+(c+1) by rw[Nat.add_mul];omega,iY,ih,hc]
 refine⟨k*c,?_⟩
 rw[<-iY,show k+k*c=k*(c+1) by rw[Nat.mul_succ];omega]
 exact hm k
theorem cJ.congr{n:Int}{p q:Int->Int}(hp:Pm n p)(h:∀x,In n x->p x=q x){x y:Int}(hx:In n x)(ho:cJ p x y):cJ q x y:=by
 obtain⟨k,rfl⟩:=ho
 refine⟨k,?_⟩
 induction k generalizing x with
 |zero=>rfl
 |succ k ih=>
   show TL.it q k (q x)=TL.it p k (p x)
   rw[<-h x hx]
   exact ih (hp.rng x hx)
theorem Pm.congr{n:Int}{p q:Int->Int}(hp:Pm n p)(h:∀x,In n x->p x=q x):Pm n q:=
 ⟨λx hx=>by rw[<-h x hx];exact hp.rng x hx,λx y hx hy e=>hp.inj x y hx hy (by rw[h x hx,h y hy];exact e)⟩
theorem cJ.iff{n:Int}{p q:Int->Int}(hp:Pm n p)(h:∀x,In n x->p x=q x){x y:Int}(hx:In n x):cJ p x y↔cJ q x y:=
 ⟨cJ.congr hp h hx,cJ.congr (hp.congr h) (λx hx=>(h x hx).symm) hx⟩
def tr(a b x:Int):Int:=if x=a then b else if x=b then a else x
theorem tN(a b x:Int):tr a b (tr a b x)=x:=by
 unfold tr
 by_cases h1:x=a
 · subst h1
   by_cases h2:b=x<;>simp[h2]
 · by_cases h3:x=b
   · subst h3;simp[h1]
   · simp[h1,h3]
theorem t8{n a b x:Int}(ha:In n a)(hb:In n b)(hx:In n x):In n (tr a b x):=by
 unfold tr
 split
 · exact hb
 · split
   · exact ha
   · exact hx
def sw(p:Int->Int)(a b x:Int):Int:=p (tr a b x)
theorem zB(p:Int->Int)(a b:Int):sw (sw p a b) a b=p:=funext λx=>by unfold sw;rw[tN]
theorem uA(p:Int->Int)(a b:Int):sw p a b a=p b:=by simp[sw,tr]
theorem zr(p:Int->Int){a b:Int}:sw p a b b=p a:=by
 unfold sw tr
 by_cases h:b=a
 · subst h;simp
 · simp[h]
theorem uF(p:Int->Int){a b x:Int}(h1:x≠a)(h2:x≠b):sw p a b x=p x:=by simp[sw,tr,h1,h2]
theorem Pm.sw{n:Int}{p:Int->Int}(h:Pm n p){a b:Int}(ha:In n a)(hb:In n b):Pm n (sw p a b):=
 ⟨λx hx=>h.rng _ (t8 ha hb hx),λx y hx hy e=>by
   have:=h.inj _ _ (t8 ha hb hx) (t8 ha hb hy) e
   have:=congrArg (tr a b) this
   rwa[tN,tN] at this⟩
theorem rD{n:Int}{p:Int->Int}(h:Pm n p){a b:Int}(ha:In n a)(hb:In n b)(hab:¬cJ p a b):cJ (sw p a b) a b:=by
 have key:∀(k:Nat) (z:Int),In n z->TL.it p k z=b->cJ (sw p a b) z b:=by
   intro k
   induction k with
   |zero=>intro z _ e;rw[show z=b from e];exact cJ.refl _ _
   |succ k ih=>
     intro z hz e
     by_cases hzb:z=b
     · rw[hzb];exact cJ.refl _ _
     · have hza:z≠a:=λh=>hab (by rw[<-h];exact⟨k+1,e⟩)
       have h1:=ih (p z) (h.rng z hz) e
       have h2:=cJ.step (sw p a b) z
       rw[uF p hza hzb] at h2
       exact h2.trans h1
 obtain⟨k,hk⟩:=h.eqv.symm _ _ hb (h.rng b hb) (cJ.step p b)
 have h1:=key k (p b) (h.rng b hb) hk
 have h2:=cJ.step (sw p a b) a
 rw[uA] at h2
 exact h2.trans h1
theorem lI{n:Int}{p:Int->Int}(h:Pm n p){a b:Int}(ha:In n a)(hb:In n b)(hab:¬cJ p a b){x y:Int}(hx:In n x)(hy:In n y):cJ (sw p a b) x y↔Jn (cJ p) a b x y:=by
 have hj:=Jn.eqv h.eqv ha hb
 have hq:=h.sw ha hb
 have hq':=hq.eqv
 constructor
 · intro ho
   refine(cJ.ind (S:=λz=>In n z/\Jn (cJ p) a b x z) (λz hz=>?_) ho ⟨hx,hj.rfl x hx⟩).2
   refine⟨hq.rng z hz.1,hj.trans _ _ _ hx hz.1 (hq.rng z hz.1) hz.2 ?_⟩
   by_cases e1:z=a
   · rw[e1,uA];exact .inr (.inl ⟨cJ.refl _ _,cJ.step p b⟩)
   · by_cases e2:z=b
     · rw[e2,zr];exact .inr (.inr ⟨cJ.refl _ _,cJ.step p a⟩)
     · rw[uF p e1 e2];exact .inl (cJ.step p z)
 · have h1:=rD h ha hb hab
   have h2:=hq'.symm _ _ ha hb h1
   have key:∀{u v:Int},In n u->cJ p u v->cJ (sw p a b) u v:=by
     intro u v hu ho
     refine(cJ.ind (S:=λz=>In n z/\cJ (sw p a b) u z) (λz hz=>⟨h.rng z hz.1,hz.2.trans ?_⟩) ho ⟨hu,cJ.refl _ _⟩).2
     by_cases e1:z=a
     · rw[e1]
       have h3:=cJ.step (sw p a b) b
       rw[zr] at h3
       exact h1.trans h3
     · by_cases e2:z=b
       · rw[e2]
         have h3:=cJ.step (sw p a b) a
         rw[uA] at h3
         exact h2.trans h3
       · have h3:=cJ.step (sw p a b) z
         rwa[uF p e1 e2] at h3
   rintro(e|⟨e1,e2⟩|⟨e1,e2⟩)
   · exact key hx e
   · exact(key hx e1).trans (h1.trans (key hb e2))
   · exact(key hx e1).trans (h2.trans (key ha e2))
theorem xU{P:Nat->Prop}:∀(k:Nat),P k->∃m,P m/\∀j,j<m->¬P j:=by
 intro k
 induction k using Nat.strongRecOn with
 |ind k ih=>
   intro hk
   by_cases c:∃j,j<k/\P j
   · obtain⟨j,hj,hp⟩:=c
     exact ih j hj hp
   · exact⟨k,hk,λj hj hp=>c ⟨j,hj,hp⟩⟩
theorem tH{n:Int}{p:Int->Int}(h:Pm n p){a b:Int}(ha:In n a)(hb:In n b)(hne:a≠b)(hab:cJ p a b):¬cJ (sw p a b) a b:=by
 have h1:cJ p (p b) a:=h.eqv.symm _ _ ha (h.rng b hb) (hab.trans (cJ.step p b))
 obtain⟨k0,hk0⟩:=h1
 obtain⟨k,hk,hmin⟩:=xU (P:=λk=>TL.it p k (p b)=a) k0 hk0
 have hno:∀j,j<=k->TL.it p j (p b)≠b:=by
   intro j hj e
   have hjk:j≠k:=λe2=>hne (by rw[<-hk,<-e2];exact e)
   have e3:TL.it p (k-j-1) (p b)=a:=by
     have:TL.it p k (p b)=TL.it p (k-j) (TL.it p j (p b)):=by rw[<-iY];congr 1;omega
     rw[e,show k-j=(k-j-1)+1 by omega] at this
     rw[<-hk,this];rfl
   exact hmin (k-j-1) (by omega) e3
 intro ho
 obtain⟨j,hj,e⟩:=cJ.ind (S:=λz=>∃j,j<=k/\TL.it p j (p b)=z) (λz hz=>by
   obtain⟨j,hj,e⟩:=hz
   by_cases c:j=k
   · have:z=a:=by rw[<-e,c];exact hk
     rw[this,uA]
     exact⟨0,by omega,rfl⟩
   · rw[uF p (λe2=>hmin j (by omega) (by rw[e,e2])) (λe2=>hno j hj (by rw[e,e2]))]
     exact⟨j+1,by omega,by rw[vr,e]⟩) ho ⟨k,Nat.le_refl _,hk⟩
 exact hno j hj e
def Lk(n:Int)(s t:Int->Int)(x y:Int):Prop:=∀R:Int->Int->Prop,qK (In n) R->(∀x,In n x->R x (s x))->(∀x,In n x->R x (t x))->R x y
theorem Lk.eqv(n:Int)(s t:Int->Int):qK (In n) (Lk n s t):=
 ⟨λx hx R hR _ _=>hR.rfl x hx,λx y hx hy h R hR h1 h2=>hR.symm x y hx hy (h R hR h1 h2),λx y z hx hy hz h1 h2 R hR h3 h4=>hR.trans x y z hx hy hz (h1 R hR h3 h4) (h2 R hR h3 h4)⟩
theorem Lk.s{n:Int}{s t:Int->Int}{x:Int}(hx:In n x):Lk n s t x (s x):=λR _ h _=>h x hx
theorem Lk.t{n:Int}{s t:Int->Int}{x:Int}(hx:In n x):Lk n s t x (t x):=λR _ _ h=>h x hx
theorem Lk.orb{n:Int}{s t:Int->Int}(hs:Pm n s){x y:Int}(hx:In n x)(h:cJ s x y):Lk n s t x y:=
 (cJ.ind (S:=λz=>In n z/\Lk n s t x z) (λz hz=>⟨hs.rng z hz.1,(Lk.eqv n s t).trans _ _ _ hx hz.1 (hs.rng z hz.1) hz.2 (Lk.s hz.1)⟩) h ⟨hx,(Lk.eqv n s t).rfl x hx⟩).2
def Ec(n:Int)(t s:Int->Int)(d:Int):Prop:=∃V F C:Nat,gY (In n) (cJ s) V/\gY (In n) (cJ λx=>s (t x)) F/\gY (In n) (Lk n s t) C/\d=2*(C:Int)-V-F
structure Tw(n:Int)(t:Int->Int):Prop where
 rng:∀x,In n x->In n (t x)
 inv:∀x,In n x->t (t x)=x
theorem Tw.comp{n:Int}{t s:Int->Int}(ht:Tw n t)(hs:Pm n s):Pm n (λx=>s (t x)):=
 ⟨λx hx=>hs.rng _ (ht.rng x hx),λx y hx hy e=>by
   have:=hs.inj _ _ (ht.rng x hx) (ht.rng y hy) e
   have:=congrArg t this
   rwa[ht.inv x hx,ht.inv y hy] at this⟩
theorem Ec.uniq{n:Int}{t s:Int->Int}(ht:Tw n t)(hs:Pm n s){d d':Int}(h:Ec n t s d)(h':Ec n t s d'):d=d':=by
 obtain⟨V,F,C,h1,h2,h3,rfl⟩:=h
 obtain⟨V',F',C',k1,k2,k3,rfl⟩:=h'
 rw[h1.eq hs.eqv k1,h2.eq (ht.comp hs).eqv k2,h3.eq (Lk.eqv n s t) k3]
theorem Ec.ex{n:Int}{t s:Int->Int}(ht:Tw n t)(hs:Pm n s):∃d,Ec n t s d:=by
 obtain⟨V,h1⟩:=gY.ex hs.eqv
 obtain⟨F,h2⟩:=gY.ex (ht.comp hs).eqv
 obtain⟨C,h3⟩:=gY.ex (Lk.eqv n s t)
 exact⟨_,V,F,C,h1,h2,h3,rfl⟩
theorem Ec.sw{n:Int}{t s:Int->Int}(ht:Tw n t)(hs:Pm n s){a b:Int}(ha:In n a)(hb:In n b)(hab:¬cJ s a b){d:Int}(h:Ec n t s d):∃d',Ec n t (sw s a b) d'/\(d'=d\/d'=d+2):=by
 obtain⟨V,F,C,h1,h2,h3,rfl⟩:=h
 have hs':=hs.sw ha hb
 have hne:a≠b:=λe=>hab (by rw[e];exact cJ.refl _ _)
 have hta:=ht.rng a ha
 have htb:=ht.rng b hb
 have htne:t a≠t b:=λe=>hne (by have:=congrArg t e;rwa[ht.inv a ha,ht.inv b hb] at this)
 -- nodes
 obtain⟨V',hV,eV⟩:=h1.join hs.eqv ha hb hab
 have hV':gY (In n) (cJ (TL.sw s a b)) V':=hV.iff λx y hx hy=>(lI hs ha hb hab hx hy).symm
 -- faces
 have hf:=ht.comp hs
 have hfx:∀x,In n x->TL.sw (λx=>s (t x)) (t a) (t b) x=TL.sw s a b (t x):=by
   intro x hx
   unfold TL.sw tr
   by_cases e1:x=t a
   · rw[if_pos e1,if_pos (by rw[e1,ht.inv a ha])]
     show s (t (t b))=s b
     rw[ht.inv b hb]
   · have e1':¬t x=a:=λe=>e1 (by rw[<-e,ht.inv x hx])
     rw[if_neg e1,if_neg e1']
     by_cases e2:x=t b
     · rw[if_pos e2,if_pos (by rw[e2,ht.inv b hb])]
       show s (t (t a))=s a
       rw[ht.inv a ha]
     · have e2':¬t x=b:=λe=>e2 (by rw[<-e,ht.inv x hx])
       rw[if_neg e2,if_neg e2']
 have hF:∃F':Nat,gY (In n) (cJ λx=>TL.sw s a b (t x)) F'/\((¬cJ (λx=>s (t x)) (t a) (t b)/\F'+1=F)\/(cJ (λx=>s (t x)) (t a) (t b)/\F'=F+1)):=by
   have hsw:=hf.sw hta htb
   by_cases c:cJ (λx=>s (t x)) (t a) (t b)
   · obtain⟨k,hk⟩:=gY.ex hsw.eqv
     have hap:=tH hf hta htb htne c
     obtain⟨k',hk',e⟩:=hk.join hsw.eqv hta htb hap
     have hk2:gY (In n) (cJ λx=>s (t x)) k':=hk'.iff λx y hx hy=>by
       rw[<-lI hsw hta htb hap hx hy,zB]
     have:=hk2.eq hf.eqv h2
     exact⟨k,hk.iff λx y hx hy=>cJ.iff hsw hfx hx,.inr ⟨c,by omega⟩⟩
   · obtain⟨k',hk',e⟩:=h2.join hf.eqv hta htb c
     exact⟨k',(hk'.iff λx y hx hy=>(lI hf hta htb c hx hy).symm).iff λx y hx hy=>cJ.iff hsw hfx hx,.inl ⟨c,e⟩⟩
 obtain⟨F',hF1,hF2⟩:=hF
 -- what is joined
 have hle:=Lk.eqv n s t
 have hle':=Lk.eqv n (TL.sw s a b) t
 have hL:∀x y,In n x->In n y->(Jn (Lk n s t) a b x y↔Lk n (TL.sw s a b) t x y):=by
   intro x y hx hy
   have hup:∀{u v:Int},Lk n s t u v->Lk n (TL.sw s a b) t u v:=λ {u v} huv=>huv _ hle' (λz hz=>Lk.orb hs' hz ((lI hs ha hb hab hz (hs.rng z hz)).2 (.inl (cJ.step s z)))) (λz hz=>Lk.t hz)
   have hab':Lk n (TL.sw s a b) t a b:=Lk.orb hs' ha (rD hs ha hb hab)
   constructor
   · rintro(e|⟨e1,e2⟩|⟨e1,e2⟩)
     · exact hup e
     · exact hle'.trans _ _ _ hx ha hy (hup e1) (hle'.trans _ _ _ ha hb hy hab' (hup e2))
     · exact hle'.trans _ _ _ hx hb hy (hup e1) (hle'.trans _ _ _ hb ha hy (hle'.symm _ _ ha hb hab') (hup e2))
   · intro h
     refine h _ (Jn.eqv hle ha hb) (λz hz=>?_) (λz hz=>.inl (Lk.t hz))
     rcases(lI hs ha hb hab hz (hs'.rng z hz)).1 (cJ.step _ z) with e|⟨e1,e2⟩|⟨e1,e2⟩
     · exact .inl (Lk.orb hs hz e)
     · exact .inr (.inl ⟨Lk.orb hs hz e1,Lk.orb hs hb e2⟩)
     · exact .inr (.inr ⟨Lk.orb hs hz e1,Lk.orb hs ha e2⟩)
 by_cases c:Lk n s t a b
 · have hC:gY (In n) (Lk n (TL.sw s a b) t) C:=h3.iff λx y hx hy=>by
     rw[<-hL x y hx hy]
     constructor
     · exact λe=>.inl e
     · rintro(e|⟨e1,e2⟩|⟨e1,e2⟩)
       · exact e
       · exact hle.trans _ _ _ hx ha hy e1 (hle.trans _ _ _ ha hb hy c e2)
       · exact hle.trans _ _ _ hx hb hy e1 (hle.trans _ _ _ hb ha hy (hle.symm _ _ ha hb c) e2)
   refine⟨_,⟨V',F',C,hV',hF1,hC,rfl⟩,?_⟩
   omega
 · obtain⟨C',hC,eC⟩:=h3.join hle ha hb c
   have hn:¬cJ (λx=>s (t x)) (t a) (t b):=by
     intro ho
     apply c
     have h4:Lk n s t (t a) (t b):=(cJ.ind (S:=λz=>In n z/\Lk n s t (t a) z) (λz hz=>⟨hf.rng z hz.1,hle.trans _ _ _ hta hz.1 (hf.rng z hz.1) hz.2 (hle.trans _ _ _ hz.1 (ht.rng z hz.1) (hf.rng z hz.1) (Lk.t hz.1) (Lk.s (ht.rng z hz.1)))⟩) ho ⟨hta,hle.rfl _ hta⟩).2
     exact hle.trans _ _ _ ha hta hb (Lk.t ha) (hle.trans _ _ _ hta htb hb h4 (hle.symm _ _ hb htb (Lk.t hb)))
   refine⟨_,⟨V',F',C',hV',hF1,hC.iff hL,rfl⟩,?_⟩
   rcases hF2 with⟨_,e⟩|⟨e,_⟩
   · omega
   · exact absurd e hn
end TL
/-
  TlEul: Euler's count of a rotation.
  By an AI agent.
-/
set_option linter.all false
namespace TL
def cy(r:bY)(x:Int):Int:=match r.find? (λl=>decide (x∈l)) with
  |some l=>mm l x
  |none=>x
theorem kh{F:bY}(hn:F.flatten.Nodup){f f':List Int}(hf:f∈F)(hf':f'∈F){x:Int}(hx:x∈f)(hx':x∈f'):f=f':=by
 obtain⟨A,B,rfl⟩:=List.append_of_mem hf
 rw[List.flatten_append,List.flatten_cons] at hn
 have h1:=List.nodup_append.1 hn
 have h2:=List.nodup_append.1 h1.2.1
 rcases List.mem_append.1 hf' with h|h
 · exact absurd rfl (h1.2.2 x (List.mem_flatten.2 ⟨f',h,hx'⟩) x (List.mem_append.2 (.inl hx)))
 · rcases List.mem_cons.1 h with h|h
   · exact h.symm
   · exact absurd rfl (h2.2.2 x hx x (List.mem_flatten.2 ⟨f',h,hx'⟩))
theorem go{r:bY}(hn:r.flatten.Nodup){l:List Int}(hl:l∈r){x:Int}(hx:x∈l):cy r x=mm l x:=by
 unfold cy
 cases h:r.find? (λl=>decide (x∈l)) with
 |none=>
   have:=List.find?_eq_none.1 h l hl
   simp[hx] at this
 |some l'=>
   have h1:=List.mem_of_find?_eq_some h
   have h2:=List.find?_some h
   simp only[decide_eq_true_eq] at h2
   simp only
   rw[kh hn hl h1 hx h2]
theorem kb{r:bY}{x:Int}(hx:x∉r.flatten):cy r x=x:=by
 unfold cy
 rw[List.find?_eq_none.2 (λl hl=>by
   simp only[decide_eq_true_eq]
   exact λhm=>hx (List.mem_flatten.2 ⟨l,hl,hm⟩))]
theorem vQ{u w:List Int}{x:Int}(hn:(u++x::w).Nodup)(hne:u++w≠[]):∃a∈u++w,mm (u++x::w) x=mm (u++w) a/\mm (u++x::w) a=x/\∀y∈u++w,y≠a->mm (u++x::w) y=mm (u++w) y:=by
 have hne':w++u≠[]:=λe=>hne (by
   have:=List.append_eq_nil_iff.1 e
   rw[this.1,this.2];rfl)
 obtain⟨z,a,hz⟩:∃z a,w++u=z++[a]:=⟨(w++u).dropLast,(w++u).getLast hne',(List.dropLast_concat_getLast hne').symm⟩
 have hmem:∀y,y∈u++w↔y∈z++[a]:=λy=>by rw[<-hz,List.mem_append,List.mem_append];exact Or.comm
 have hsub:List.Sublist (u++w) (u++x::w):=List.Sublist.append_left (List.sublist_cons_self _ _) _
 have hn1:(u++w).Nodup:=hn.sublist hsub
 have hp:List.Perm (u++x::w) (x::(w++u)):=List.perm_append_comm
 have hn2:(x::(w++u)).Nodup:=hp.nodup_iff.1 hn
 rw[hz] at hn2
 have hn3:=List.nodup_cons.1 hn2
 have hn4:=List.nodup_append.1 hn3.2
 have r1:∀y,y∈u++x::w->mm (u++x::w) y=mm ((z++[a])++[x]) y:=λy hy=>by
   have h1:=kW hn hy
   have h2:(x::w)++u=[x]++(z++[a]):=by rw[<-hz];rfl
   rw[h1,h2]
   exact kW (by rw[<-h2];exact(List.perm_append_comm.nodup_iff).1 hn) (by rw[<-h2];exact List.perm_append_comm.mem_iff.1 hy)
 have r2:∀y,y∈u++w->mm (u++w) y=mm (z++[a]) y:=λy hy=>by rw[kW hn1 hy,hz]
 have hxz:x∉z++[a]:=hn3.1
 have haz:a∉z:=λh=>hn4.2.2 a h a (by simp) rfl
 have ha:a∈u++w:=(hmem a).2 (by simp)
 refine⟨a,ha,?_,?_,λy hy hya=>?_⟩
 · rw[r1 x (by simp),r2 a ha]
   rw[show(z++[a])++[x]=(z++[a])++x::[] from rfl,dE hxz,show z++[a]=z++a::[] from rfl,dE haz]
   cases z<;>simp[gI]
 · rw[r1 a (hsub.subset ha),List.append_assoc,show z++([a]++[x])=z++a::[x] from rfl,dE haz]
   simp[gI]
 · rw[r1 y (hsub.subset hy),r2 y hy]
   have hyz:y∈z:=by
     rcases List.mem_append.1 ((hmem y).1 hy) with h|h
     · exact h
     · exact absurd (List.mem_singleton.1 h) hya
   obtain⟨z1,z2,rfl⟩:=List.append_of_mem hyz
   have hy1:y∉z1:=λh=>(List.nodup_append.1 hn4.1).2.2 y h y (by simp) rfl
   rw[show(z1++y::z2)++[a]++[x]=z1++y::(z2++[a]++[x]) by simp,dE hy1,show(z1++y::z2)++[a]=z1++y::(z2++[a]) by simp,dE hy1]
   cases z2<;>simp[gI]
theorem zP{A B:bY}{u w:List Int}{x:Int}(hn:(A++(u++x::w)::B).flatten.Nodup):
   cy (A++(u++x::w)::B)=cy (A++(u++w)::B)\/∃a,a∈u++w/\a≠x/\cy (A++(u++w)::B) x=x/\cy (A++(u++x::w)::B)=sw (cy (A++(u++w)::B)) x a:=by
 have hsub:List.Sublist (A++(u++w)::B).flatten (A++(u++x::w)::B).flatten:=by
   rw[List.flatten_append,List.flatten_append,List.flatten_cons,List.flatten_cons]
   exact List.Sublist.append_left (List.Sublist.append_right (List.Sublist.append_left (List.sublist_cons_self _ _) _) _) _
 have hn':=hn.sublist hsub
 have hl:(u++x::w)∈A++(u++x::w)::B:=by simp
 have hl':(u++w)∈A++(u++w)::B:=by simp
 have hrow:=hn.sublist (gu hl)
 have hxuw:x∉u++w:=by
   have hp:List.Perm (u++x::w) (x::(u++w)):=List.perm_middle
   exact(List.nodup_cons.1 (hp.nodup_iff.1 hrow)).1
 have hx':x∉(A++(u++w)::B).flatten:=by
   intro hm
   obtain⟨f,hf,hxf⟩:=List.mem_flatten.1 hm
   rcases List.mem_append.1 hf with h|h
   · have:=kh hn (f:=f) (f':=u++x::w) (by simp[h]) hl hxf (by simp)
     rw[List.flatten_append] at hn
     exact(List.nodup_append.1 hn).2.2 x (List.mem_flatten.2 ⟨f,h,hxf⟩) x (by simp) rfl
   · rcases List.mem_cons.1 h with h|h
     · rw[h] at hxf;exact hxuw hxf
     · rw[List.flatten_append,List.flatten_cons] at hn
       exact(List.nodup_append.1 (List.nodup_append.1 hn).2.1).2.2 x (by simp) x (List.mem_flatten.2 ⟨f,h,hxf⟩) rfl
 -- everything but the one row
 have other:∀y,y∉u++x::w->cy (A++(u++x::w)::B) y=cy (A++(u++w)::B) y:=by
   intro y hy
   by_cases hm:y∈(A++(u++x::w)::B).flatten
   · obtain⟨f,hf,hyf⟩:=List.mem_flatten.1 hm
     have hf':f∈A++(u++w)::B:=by
       rcases List.mem_append.1 hf with h|h
       · simp[h]
       · rcases List.mem_cons.1 h with h|h
         · rw[h] at hyf;exact absurd hyf hy
         · simp[h]
     rw[go hn hf hyf,go hn' hf' hyf]
   · rw[kb hm,kb λh=>hm (hsub.subset h)]
 by_cases he:u++w=[]
 · refine .inl (funext λy=>?_)
   by_cases hy:y∈u++x::w
   · have hu:=List.append_eq_nil_iff.1 he
     have hyx:y=x:=by
       rw[hu.1,hu.2] at hy;simpa using hy
     rw[hyx,kb hx',go hn hl (by simp),hu.1,hu.2]
     simp[mm,gI]
   · exact other y hy
 · obtain⟨a,ha,k1,k2,k3⟩:=vQ hrow he
   have hax:a≠x:=λe=>hxuw (by rw[<-e];exact ha)
   have ha2:a∈u++x::w:=(List.Sublist.append_left (List.sublist_cons_self _ _) _).subset ha
   refine .inr ⟨a,ha,hax,kb hx',funext λy=>?_⟩
   by_cases hyx:y=x
   · rw[hyx,uA,go hn hl (by simp),go hn' hl' ha,k1]
   · by_cases hya:y=a
     · rw[hya,zr,kb hx',go hn hl ha2,k2]
     · rw[uF _ hyx hya]
       by_cases hy:y∈u++x::w
       · have hy2:y∈u++w:=by
           rcases List.mem_append.1 hy with h|h
           · simp[h]
           · rcases List.mem_cons.1 h with h|h
             · exact absurd h hyx
             · simp[h]
         rw[go hn hl hy,go hn' hl' hy2,k3 y hy2 hya]
       · exact other y hy
def wG(x:Int)(r:bY):bY:=r.map λl=>l.filter λy=>decide (y≠x)
def sv(L:List Int)(r:bY):bY:=r.map λl=>l.filter λy=>decide (y∉L)
theorem um(x:Int)(L:List Int)(r:bY):sv (x::L) r=wG x (sv L r):=by
 unfold sv wG
 rw[List.map_map]
 apply List.map_congr_left
 intro l _
 simp only[Function.comp]
 rw[List.filter_filter]
 apply List.filter_congr
 intro y _
 simp
theorem wP(L:List Int)(r:bY):List.Sublist (sv L r).flatten r.flatten:=by
 induction r with
 |nil=>simp[sv]
 |cons l r ih=>
   have:sv L (l::r)=(l.filter λy=>decide (y∉L))::sv L r:=rfl
   rw[this,List.flatten_cons,List.flatten_cons]
   exact List.Sublist.append List.filter_sublist ih
theorem pZ{x:Int}{A:bY}(h:∀l∈A,x∉l):wG x A=A:=by
 unfold wG
 conv=>rhs;rw[<-List.map_id A]
 apply List.map_congr_left
 intro l hl
 refine List.filter_eq_self.2 λy hy=>?_
 simp only[decide_eq_true_eq]
 exact λe=>h l hl (by rw[<-e];exact hy)
theorem tf{x:Int}{A:List Int}(h:x∉A):(A.filter λy=>decide (y≠x))=A:=
 List.filter_eq_self.2 λy hy=>by
   simp only[decide_eq_true_eq]
   exact λe=>h (by rw[<-e];exact hy)
theorem we{n:Int}{t:Int->Int}(ht:Tw n t){r:bY}{x:Int}(hn:r.flatten.Nodup)(hin:∀y∈r.flatten,In n y)(hp:Pm n (cy (wG x r))):
   Pm n (cy r)/\∀d,Ec n t (cy (wG x r)) d->∃d',Ec n t (cy r) d'/\(d'=d\/d'=d+2):=by
 by_cases hx:x∈r.flatten
 · obtain⟨l,hl,hxl⟩:=List.mem_flatten.1 hx
   obtain⟨A,B,rfl⟩:=List.append_of_mem hl
   obtain⟨u,w,rfl⟩:=List.append_of_mem hxl
   have hn0:=hn
   rw[List.flatten_append,List.flatten_cons] at hn0
   have n1:=List.nodup_append.1 hn0
   have n2:=List.nodup_append.1 n1.2.1
   have hrow:=n2.1
   have hxuw:x∉u++w:=by
     have hp:List.Perm (u++x::w) (x::(u++w)):=List.perm_middle
     exact(List.nodup_cons.1 (hp.nodup_iff.1 hrow)).1
   have e1:wG x (A++(u++x::w)::B)=A++(u++w)::B:=by
     have eA:=pZ (x:=x) (A:=A) (λl hl hm=>n1.2.2 x (List.mem_flatten.2 ⟨l,hl,hm⟩) x (by simp) rfl)
     have eB:=pZ (x:=x) (A:=B) (λl hl hm=>n2.2.2 x (by simp) x (List.mem_flatten.2 ⟨l,hl,hm⟩) rfl)
     unfold wG at eA eB ⊢
     rw[List.map_append,List.map_cons,eA,eB,List.filter_append,List.filter_cons,if_neg (by simp),tf (λh=>hxuw (by simp[h])),tf (λh=>hxuw (by simp[h]))]
   rw[e1] at hp ⊢
   have hxi:=hin x hx
   rcases zP hn with e|⟨a,ha,hax,hxx,e⟩
   · rw[e];exact⟨hp,λd hd=>⟨d,hd,.inl rfl⟩⟩
   · have hai:In n a:=hin a (by
       rw[List.flatten_append,List.flatten_cons]
       rcases List.mem_append.1 ha with h|h<;>simp[h])
     rw[e]
     refine⟨hp.sw hxi hai,λd hd=>hd.sw ht hp hxi hai λho=>hax ?_⟩
     exact(cJ.ind (S:=λz=>z=x) (λz hz=>by rw[hz];exact hxx) ho rfl)
 · have e1:wG x r=r:=pZ λl hl hm=>hx (List.mem_flatten.2 ⟨l,hl,hm⟩)
   rw[e1] at hp ⊢
   exact⟨hp,λd hd=>⟨d,hd,.inl rfl⟩⟩
theorem oJ{n:Int}{t:Int->Int}(ht:Tw n t){r:bY}(hn:r.flatten.Nodup)(hin:∀y∈r.flatten,In n y):∀L:List Int,Pm n (cy (sv L r))->
   Pm n (cy r)/\∀d,Ec n t (cy (sv L r)) d->∃d',Ec n t (cy r) d'/\d<=d'/\(d'-d)%2=0
 |[],hp=>by
   have e:sv [] r=r:=by
     unfold sv
     conv=>rhs;rw[<-List.map_id r]
     apply List.map_congr_left
     intro l _
     exact List.filter_eq_self.2 λy _=>by simp
   rw[e] at hp ⊢
   exact⟨hp,λd hd=>⟨d,hd,Int.le_refl _,by omega⟩⟩
 |x::L,hp=>by
   rw[um] at hp ⊢
   have hs:=wP L r
   obtain⟨h1,h2⟩:=we ht (hn.sublist hs) (λy hy=>hin y (hs.subset hy)) hp
   obtain⟨h3,h4⟩:=oJ ht hn hin L h1
   refine⟨h3,λd hd=>?_⟩
   obtain⟨d1,k1,k2⟩:=h2 d hd
   obtain⟨d2,k3,k4,k5⟩:=h4 d1 k1
   exact⟨d2,k3,by omega,by omega⟩
theorem iq(m:Nat):Tw (2*(m:Int)) bX:=
 ⟨λx hx=>jE hx.1 hx.2,λx hx=>rN hx.1⟩
theorem ki{x:Int}(h:0<=x):bX x/2=x/2:=by
 unfold bX;split<;>omega
theorem wJ(m:Nat):Pm (2*(m:Int)) (λx=>x)/\Ec (2*(m:Int)) bX (λx=>x) (-(m:Int)):=by
 have hpid:Pm (2*(m:Int)) (λx=>x):=⟨λx hx=>hx,λx y _ _ e=>e⟩
 have ht:=iq m
 have hpt:Pm (2*(m:Int)) (λx=>(λx=>x) (bX x)):=ht.comp hpid
 refine⟨hpid,2*m,m,m,⟨bI (2*m),⟨eU _,λx hx=>by have:=cY.1 hx;exact⟨by omega,by omega⟩,λx hx=>⟨x,cY.2 ⟨hx.1,by have:=hx.2;omega⟩,cJ.refl _ _⟩,λx hx y hy h=>?_⟩,e9 _⟩,?_,?_,by omega⟩
 · exact(cJ.ind (S:=λz=>z=x) (λz hz=>hz) h rfl).symm
 · refine⟨(bI m).map λi=>2*i,⟨dS (eU _) (λx _ y _ e=>by omega),λx hx=>?_,λx hx=>?_,λx hx y hy h=>?_⟩,by rw[List.length_map,e9]⟩
   · obtain⟨i,hi,rfl⟩:=List.mem_map.1 hx
     have:=cY.1 hi
     exact⟨by omega,by omega⟩
   · have hx1:=hx.1
     have hx2:=hx.2
     refine⟨2*(x/2),List.mem_map.2 ⟨x/2,cY.2 ⟨by omega,by omega⟩,rfl⟩,?_⟩
     by_cases e:x%2=0
     · rw[show 2*(x/2)=x by omega];exact cJ.refl _ _
     · have h1:=cJ.step (λx=>(λx=>x) (bX x)) x
       have h2:bX x=2*(x/2):=by unfold bX;rw[if_neg e];omega
       simp only at h1
       rwa[h2] at h1
   · obtain⟨i,hi,rfl⟩:=List.mem_map.1 hx
     obtain⟨j,hj,rfl⟩:=List.mem_map.1 hy
     have:=cY.1 hi
     have:=(cJ.ind (S:=λz=>0<=z/\z/2=i) (λz hz=>⟨by show 0<=bX z;unfold bX;split<;>omega,by show bX z/2=i;rw[ki hz.1];exact hz.2⟩) h ⟨by omega,by omega⟩).2
     omega
 · refine⟨(bI m).map λi=>2*i,⟨dS (eU _) (λx _ y _ e=>by omega),λx hx=>?_,λx hx=>?_,λx hx y hy h=>?_⟩,by rw[List.length_map,e9]⟩
   · obtain⟨i,hi,rfl⟩:=List.mem_map.1 hx
     have:=cY.1 hi
     exact⟨by omega,by omega⟩
   · have hx1:=hx.1
     have hx2:=hx.2
     refine⟨2*(x/2),List.mem_map.2 ⟨x/2,cY.2 ⟨by omega,by omega⟩,rfl⟩,?_⟩
     by_cases e:x%2=0
     · rw[show 2*(x/2)=x by omega];exact(Lk.eqv _ _ _).rfl x hx
     · have h1:Lk (2*(m:Int)) (λx=>x) bX x (bX x):=Lk.t hx
       have h2:bX x=2*(x/2):=by unfold bX;rw[if_neg e];omega
       rwa[h2] at h1
   · obtain⟨i,hi,rfl⟩:=List.mem_map.1 hx
     obtain⟨j,hj,rfl⟩:=List.mem_map.1 hy
     have:=h (λu v=>u/2=v/2) ⟨λ_ _=>rfl,λ_ _ _ _ e=>e.symm,λ_ _ _ _ _ _ e f=>e.trans f⟩ (λx _=>rfl) (λx hx=>(ki hx.1).symm)
     omega
theorem v7{m:Nat}{r:bY}(hn:r.flatten.Nodup)(hin:∀y∈r.flatten,In (2*(m:Int)) y):
   Pm (2*(m:Int)) (cy r)/\∃d,Ec (2*(m:Int)) bX (cy r) d/\ -(m:Int)<=d/\(d+m)%2=0:=by
 have e0:cy (sv r.flatten r)=λx=>x:=funext λx=>kb λhm=>by
   obtain⟨l,hl,hx⟩:=List.mem_flatten.1 hm
   unfold sv at hl
   obtain⟨l',hl',rfl⟩:=List.mem_map.1 hl
   obtain⟨h1,h2⟩:=List.mem_filter.1 hx
   simp only[decide_eq_true_eq] at h2
   exact h2 (List.mem_flatten.2 ⟨l',hl',h1⟩)
 obtain⟨b1,b2⟩:=wJ m
 obtain⟨h1,h2⟩:=oJ (iq m) hn hin r.flatten (by rw[e0];exact b1)
 obtain⟨d,k1,k2,k3⟩:=h2 (-(m:Int)) (by rw[e0];exact b2)
 exact⟨h1,d,k1,k2,by omega⟩
end TL
/-
  TlEul2: faces, each half-edge on one; the genus by Euler's count.
  By an AI agent.
-/
set_option linter.all false
namespace TL
theorem mQ{nx:List Int}(hp:Pm nx.length (gI nx)):∀(n:Nat) (seen:List Int) (k:Int),seen.Nodup->(∀x∈seen,In nx.length x)->seen.length+n=nx.length->In nx.length k->
   (seen++gv nx n seen k).Nodup/\(∀x∈gv nx n seen k,In nx.length x)/\k∈seen++gv nx n seen k/\(∀x∈gv nx n seen k,cJ (gI nx) k x)/\(∀x∈gv nx n seen k,gI nx x∈seen++gv nx n seen k)/\
   (∀i:Nat,i+1<(gv nx n seen k).length->gI (gv nx n seen k) ((i:Int)+1)=gI nx (gI (gv nx n seen k) (i:Int)))/\(gv nx n seen k≠[]->gI (gv nx n seen k) 0=k)
 |0,seen,k,hn,hin,hl,hk=>by
   have hm:=me hn (n:=nx.length) hin (by omega) hk.1 hk.2
   simp[gv,hn,hm]
 |n+1,seen,k,hn,hin,hl,hk=>by
   simp only[gv]
   by_cases c:k∈seen
   · rw[if_pos c];simp[hn,c]
   · rw[if_neg c]
     have hk':=hp.rng k hk
     obtain⟨a1,a2,a3,a4,a5,a6,a7⟩:=mQ hp n (seen++[k]) (gI nx k) (List.nodup_append.2 ⟨hn,by simp,λa ha b hb e=>by
       obtain rfl:=List.mem_singleton.1 hb
       rw[e] at ha;exact c ha⟩) (λx hx=>by
       rcases List.mem_append.1 hx with h|h
       · exact hin x h
       · obtain rfl:=List.mem_singleton.1 h;exact hk) (by simp;omega) hk'
     rw[List.append_assoc] at a1 a3 a5
     refine⟨a1,λx hx=>?_,by simp,λx hx=>?_,λx hx=>?_,λi hi=>?_,λ_=>by simp[gI]⟩
     · rcases List.mem_cons.1 hx with rfl|hx
       · exact hk
       · exact a2 x hx
     · rcases List.mem_cons.1 hx with rfl|hx
       · exact cJ.refl _ _
       · exact(cJ.step (gI nx) k).trans (a4 x hx)
     · rcases List.mem_cons.1 hx with rfl|hx
       · exact a3
       · exact a5 x hx
     · have e0:∀j:Nat,gI (k::gv nx n (seen++[k]) (gI nx k)) ((j:Int)+1)=gI (gv nx n (seen++[k]) (gI nx k)) (j:Int):=λj=>by
         unfold gI
         rw[show((j:Int)+1).toNat=j+1 by omega]
         simp
       rw[e0]
       cases i with
       |zero=>
         have hne:gv nx n (seen++[k]) (gI nx k)≠[]:=λe=>by rw[e] at hi;simp at hi
         have:=a7 hne
         simpa[gI] using this
       |succ i=>
         simp only[List.length_cons] at hi
         have:=a6 i (by omega)
         rw[show(((i+1:Nat):Int))=(i:Int)+1 by omega,this,e0]
structure ym(nx S:List Int)(f:List Int):Prop where
  ne:f≠[]
  notS:∀x∈f,x∉S
  inn:∀x∈f,In nx.length x
  orb:∀x∈f,cJ (gI nx) (gI f 0) x
  cls:∀x∈f,gI nx x∈f
  chain:∀i:Nat,i+1<f.length->gI f ((i:Int)+1)=gI nx (gI f (i:Int))
theorem xy{nx S:List Int}(hp:Pm nx.length (gI nx))(hn:S.Nodup)(hin:∀x∈S,In nx.length x)(hc:∀x∈S,gI nx x∈S){h:Int}(hh:In nx.length h)(hS:h∉S):
   ym nx S (eD nx S h)/\gI (eD nx S h) 0=h/\(S++eD nx S h).Nodup/\h∈eD nx S h:=by
 have hlen:=ig (n:=(nx.length:Int)) (by omega) hn hin
 obtain⟨a1,a2,a3,a4,a5,a6,a7⟩:=mQ hp (nx.length-S.length) S h hn hin (by omega) hh
 change (S++eD nx S h).Nodup at a1
 change∀x∈eD nx S h,In nx.length x at a2
 change h∈S++eD nx S h at a3
 change∀x∈eD nx S h,cJ (gI nx) h x at a4
 change∀x∈eD nx S h,gI nx x∈S++eD nx S h at a5
 change∀i:Nat,i+1<(eD nx S h).length->gI (eD nx S h) ((i:Int)+1)=gI nx (gI (eD nx S h) (i:Int)) at a6
 change eD nx S h≠[]->gI (eD nx S h) 0=h at a7
 have hmem:h∈eD nx S h:=(List.mem_append.1 a3).resolve_left hS
 have hne:eD nx S h≠[]:=λe=>by rw[e] at hmem;cases hmem
 have h0:=a7 hne
 have hd:∀x∈eD nx S h,x∉S:=λx hx hxS=>(List.nodup_append.1 a1).2.2 x hxS x hx rfl
 refine⟨⟨hne,hd,a2,λx hx=>by rw[h0];exact a4 x hx,λx hx=>?_,a6⟩,h0,a1,hmem⟩
 rcases List.mem_append.1 (a5 x hx) with hs|hs
 · have hb:=hp.eqv.symm _ _ (a2 x hx) (hp.rng x (a2 x hx)) (cJ.step (gI nx) x)
   exact absurd (cJ.ind (S:=λz=>z∈S) hc hb hs) (hd x hx)
 · exact hs
theorem ij{nx:List Int}(hp:Pm nx.length (gI nx)):∀(l S:List Int),S.Nodup->(∀x∈S,In nx.length x)->(∀x∈S,gI nx x∈S)->(∀x∈l,In nx.length x)->
   (∀f∈c4 nx l S,ym nx S f/\gI f 0∈l)/\(S++(c4 nx l S).flatten).Nodup/\∀h∈l,h∈S++(c4 nx l S).flatten
 |[],S,hn,_,_,_=>by simp[c4,hn]
 |a::l,S,hn,hin,hc,hl=>by
   have ha:=hl a (by simp)
   simp only[c4]
   by_cases c:a∈S
   · rw[if_pos c]
     obtain⟨h1,h2,h3⟩:=ij hp l S hn hin hc (λx hx=>hl x (by simp[hx]))
     refine⟨λf hf=>⟨(h1 f hf).1,by simp[(h1 f hf).2]⟩,h2,λh hh=>?_⟩
     rcases List.mem_cons.1 hh with rfl|hh
     · simp[c]
     · exact h3 h hh
   · rw[if_neg c]
     obtain⟨k1,k2,k3,k4⟩:=xy hp hn hin hc ha c
     obtain⟨h1,h2,h3⟩:=ij hp l (S++eD nx S a) k3 (λx hx=>by
       rcases List.mem_append.1 hx with h|h
       · exact hin x h
       · exact k1.inn x h) (λx hx=>by
       rcases List.mem_append.1 hx with h|h
       · simp[hc x h]
       · simp[k1.cls x h]) (λx hx=>hl x (by simp[hx]))
     rw[List.append_assoc] at h2 h3
     refine⟨λf hf=>?_,by rw[List.flatten_cons];exact h2,λh hh=>?_⟩
     · rcases List.mem_cons.1 hf with rfl|hf
       · exact⟨k1,by rw[k2];simp⟩
       · have:=h1 f hf
         exact⟨⟨this.1.ne,λx hx hxS=>this.1.notS x hx (by simp[hxS]),this.1.inn,this.1.orb,this.1.cls,this.1.chain⟩,by simp[this.2]⟩
     · rw[List.flatten_cons]
       rcases List.mem_cons.1 hh with rfl|hh
       · simp[k4]
       · exact h3 h hh
theorem jf{f:List Int}(h:f≠[]):gI f 0∈f:=by
 cases f with
 |nil=>exact absurd rfl h
 |cons a l=>simp[gI]
theorem mJ:∀(F:bY),(∀f∈F,f≠[])->List.Sublist (F.map λf=>gI f 0) F.flatten
 |[],_=>by simp
 |f::F,h=>by
   rw[List.map_cons,List.flatten_cons]
   have ih:=mJ F (λx hx=>h x (by simp[hx]))
   cases f with
   |nil=>exact absurd rfl (h [] (by simp))
   |cons a l=>
     have:gI (a::l) 0=a:=by simp[gI]
     rw[this,List.cons_append]
     exact(ih.trans (List.sublist_append_right _ _)).cons₂ a
theorem mM{nx:List Int}(hp:Pm nx.length (gI nx)):(∀f∈c4 nx (bI nx.length) [],ym nx [] f)/\(c4 nx (bI nx.length) []).flatten.Nodup/\(∀h,In nx.length h->h∈(c4 nx (bI nx.length) []).flatten)/\Tr (In nx.length) (cJ (gI nx)) ((c4 nx (bI nx.length) []).map λf=>gI f 0):=by
  obtain⟨h1,h2,h3⟩:=ij hp (bI nx.length) [] (by simp) (by simp) (by simp) (λx hx=>by have:=cY.1 hx;exact⟨by omega,by omega⟩)
  rw[List.nil_append] at h2 h3
  have h3':∀h,In nx.length h->h∈(c4 nx (bI nx.length) []).flatten:=λh hh=>h3 h (cY.2 ⟨hh.1,by have:=hh.2;omega⟩)
  refine⟨λf hf=>(h1 f hf).1,h2,h3',⟨h2.sublist (mJ _ λf hf=>(h1 f hf).1.ne),λx hx=>?_,λx hx=>?_,λx hx y hy hxy=>?_⟩⟩
  · obtain⟨f,hf,rfl⟩:=List.mem_map.1 hx
    exact(h1 f hf).1.inn _ (jf (h1 f hf).1.ne)
  · obtain⟨f,hf,hxf⟩:=List.mem_flatten.1 (h3' x hx)
    exact⟨_,List.mem_map.2 ⟨f,hf,rfl⟩,hp.eqv.symm _ _ ((h1 f hf).1.inn _ (jf (h1 f hf).1.ne)) hx ((h1 f hf).1.orb x hxf)⟩
  · obtain⟨f,hf,rfl⟩:=List.mem_map.1 hx
    obtain⟨f',hf',rfl⟩:=List.mem_map.1 hy
    have hy':=cJ.ind (S:=λz=>z∈f) (h1 f hf).1.cls hxy (jf (h1 f hf).1.ne)
    rw[kh h2 hf hf' hy' (jf (h1 f' hf').1.ne)]
section
variable{g:bG}{r:bY}
theorem tK(hr:cM g r):∀y∈r.flatten,In (2*(g.2.length:Int)) y:=λy hy=>by
 obtain⟨l,hl,hyl⟩:=List.mem_flatten.1 hy
 obtain⟨v,hv,e⟩:=List.mem_iff_getElem.1 hl
 have ev:gI r (v:Int)=l:=by rw[<-e];simp[gI,hv]
 exact(hr.2.1 v hv y (by rw[ev];exact hyl)).1
theorem qG(hr:cM g r){x:Int}(hx:In (2*(g.2.length:Int)) x):cy r x=eJ r x:=by
 obtain⟨v,hv,hh⟩:=lW hr hx.1 hx.2
 rw[ir hr hv hh,go hr.2.2.1 (aR (xs:=r) (i:=(v:Int)) (by omega) hv) hh]
theorem kf(hr:cM g r):Pm (2*(g.2.length:Int)) (cy r):=(v7 hr.2.2.1 (tK hr)).1
theorem kV(hr:cM g r){v:Nat}(hv:(v:Int)<r.length):∀i:Nat,(i:Int)<(gI r (v:Int)).length->cJ (cy r) (gI (gI r (v:Int)) 0) (gI (gI r (v:Int)) (i:Int))
 |0,_=>cJ.refl _ _
 |i+1,hi=>by
   have hi':(i:Int)<(gI r (v:Int)).length:=by omega
   refine(kV hr hv i hi').trans ?_
   have hx:=(hr.2.1 v (by omega) _ (aR (xs:=gI r (v:Int)) (i:=(i:Int)) (by omega) hi')).1
   have h1:=cJ.step (cy r) (gI (gI r (v:Int)) (i:Int))
   rw[qG hr hx,lJ hr hv hi',Int.emod_eq_of_lt (by omega) (by omega)] at h1
   exact h1
theorem ta(hr:cM g r){x y:Int}(hx:In (2*(g.2.length:Int)) x)(hy:In (2*(g.2.length:Int)) y)(h:aL g x=aL g y):cJ (cy r) x y:=by
 obtain⟨v,i,hv,hi,rfl⟩:=iG hr hx.1 hx.2
 obtain⟨w,j,hw,hj,rfl⟩:=iG hr hy.1 hy.2
 have e1:=(hr.2.1 v (by omega) _ (aR (xs:=gI r (v:Int)) (i:=(i:Int)) (by omega) hi)).2
 have e2:=(hr.2.1 w (by omega) _ (aR (xs:=gI r (w:Int)) (i:=(j:Int)) (by omega) hj)).2
 have e:v=w:=by omega
 subst e
 have h0:=(hr.2.1 v (by omega) _ (aR (xs:=gI r (v:Int)) (i:=0) (by omega) (by omega))).1
 exact((kf hr).eqv.symm _ _ h0 hx (kV hr hv i hi)).trans (kV hr hv j hj)
theorem rC(hr:cM g r){x:Int}(hx:In (2*(g.2.length:Int)) x):aL g (cy r x)=aL g x:=by
 obtain⟨v,hv,hh⟩:=lW hr hx.1 hx.2
 rw[go hr.2.2.1 (aR (xs:=r) (i:=(v:Int)) (by omega) hv) hh]
 have hlen:(0:Int)<(gI r (v:Int)).length:=by have:=List.length_pos_of_mem hh;omega
 have hm:=aR (xs:=gI r (v:Int)) (i:=((((gI r (v:Int)).idxOf x:Nat):Int)+1)%((gI r (v:Int)).length:Int)) (Int.emod_nonneg _ (by omega)) (Int.emod_lt_of_pos _ hlen)
 rw[(hr.2.1 v (by omega) x hh).2]
 exact(hr.2.1 v (by omega) _ hm).2
theorem sg{α:Type}(p:α->Bool)(l:List α):(l.filter p).length+(l.filter λx=> !p x).length=l.length:=by
 induction l with
 |nil=>rfl
 |cons a l ih=>
   rw[List.filter_cons,List.filter_cons]
   by_cases h:p a
   · simp[h];omega
   · simp[h];omega
theorem lc(r:bY)(p:List Int->Bool):(r.filter p).length=((bI r.length).filter λv=>p (gI r v)).length:=by
 conv=>lhs;rw[<-uk r]
 rw[List.filter_map,List.length_map];rfl
theorem zY(hr:cM g r):∃V:Nat,gY (In (2*(g.2.length:Int))) (cJ (cy r)) V/\(V:Int)+((r.filter λl=>decide (l.length=0)).length:Nat)=g.1:=by
  have hrl:=hr.1
  have hin:∀v,v∈(bI r.length).filter (λv=> !decide ((gI r v).length=0))↔(0<=v/\v<r.length)/\(gI r v).length≠0:=λv=>by
    rw[List.mem_filter,cY];simp
  refine⟨_,gY.map (D:=λv=>(0<=v/\v<r.length)/\(gI r v).length≠0) (R:=λa b=>a=b) (λv=>gI (gI r v) 0) ⟨_,⟨(eU r.length).filter _,λx hx=>(hin x).1 hx,λx hx=>⟨x,(hin x).2 hx,rfl⟩,λx _ y _ e=>e⟩,rfl⟩ (kf hr).eqv (λv hv=>?_) (λv w hv hw e=>by rw[e];exact cJ.refl _ _) (λv w hv hw ho=>?_) (λz hz=>?_),?_⟩
  · have h1:=hr.2.1 v.toNat (by omega) (gI (gI r v) 0) (by rw[show((v.toNat:Nat):Int)=v by omega];exact aR (by omega) (by omega))
    exact h1.1
  · have key:∀v:Int,(0<=v/\v<r.length)/\(gI r v).length≠0->In (2*(g.2.length:Int)) (gI (gI r v) 0)/\aL g (gI (gI r v) 0)=v:=λv hv=>by
      have h1:=hr.2.1 v.toNat (by omega) (gI (gI r v) 0) (by rw[show((v.toNat:Nat):Int)=v by omega];exact aR (by omega) (by omega))
      exact⟨h1.1,by rw[h1.2];omega⟩
    obtain⟨a1,a2⟩:=key v hv
    obtain⟨b1,b2⟩:=key w hw
    have:=(cJ.ind (S:=λz=>In (2*(g.2.length:Int)) z/\aL g z=v) (λz hz=>⟨(kf hr).rng z hz.1,by rw[rC hr hz.1];exact hz.2⟩) ho ⟨a1,a2⟩).2
    omega
  · obtain⟨v,i,hv,hi,e⟩:=iG hr hz.1 hz.2
    have h0:=(hr.2.1 v (by omega) _ (aR (xs:=gI r (v:Int)) (i:=0) (by omega) (by omega))).1
    refine⟨(v:Int),⟨⟨by omega,hv⟩,by omega⟩,(kf hr).eqv.symm _ _ h0 hz ?_⟩
    rw[<-e];exact kV hr hv i hi
  · have h1:=sg (λv=>decide ((gI r v).length=0)) (bI r.length)
    have h2:=lc r (λl=>decide (l.length=0))
    rw[e9] at h1
    omega
theorem zA(hm:bF g)(hr:cM g r):∃C:Nat,gY (In (2*(g.2.length:Int))) (Lk (2*(g.2.length:Int)) (cy r) bX) C/\(C:Int)+((r.filter λl=>decide (l.length=0)).length:Nat)=(bE g).2.1:=by
  obtain⟨C,hC⟩:=gY.ex (Lk.eqv (2*(g.2.length:Int)) (cy r) bX)
  refine⟨C,hC,?_⟩
  obtain⟨k,ek,hk⟩:=rG hm
  rw[ek]
  obtain⟨lC,hT,rfl⟩:=hC
  have hrl:=hr.1
  have hcn:=Cn.eqv g
  have hle:=Lk.eqv (2*(g.2.length:Int)) (cy r) bX
  have hpm:=kf hr
  have hfin:∀x,In (2*(g.2.length:Int)) x->ke g (aL g x):=λx hx=>lF hm hx.1 hx.2
  have hsame:∀x y,In (2*(g.2.length:Int)) x->In (2*(g.2.length:Int)) y->aL g x=aL g y->Lk (2*(g.2.length:Int)) (cy r) bX x y:=λx y hx hy e=>Lk.orb hpm hx (ta hr hx hy e)
  have htw:∀x,In (2*(g.2.length:Int)) x->aL g (bX x)=dV g x:=λx hx=>by
    unfold aL dV
    rw[ki hx.1]
    congr 1
    unfold bX;split<;>omega
  have hup:∀x y,Lk (2*(g.2.length:Int)) (cy r) bX x y->Cn g (aL g x) (aL g y):=λx y h=>h (λx y=>Cn g (aL g x) (aL g y)) ⟨λx hx=>hcn.rfl _ (hfin x hx),λx y hx hy h=>hcn.symm _ _ (hfin x hx) (hfin y hy) h,λx y z hx hy hz h1 h2=>hcn.trans _ _ _ (hfin x hx) (hfin y hy) (hfin z hz) h1 h2⟩ (λx hx=>by rw[rC hr hx];exact hcn.rfl _ (hfin x hx)) (λx hx=>by rw[htw x hx];exact Cn.half hm hx.1 hx.2)
  have hdn:∀u v,ke g u->ke g v->Cn g u v->u=v\/∃x y,(In (2*(g.2.length:Int)) x/\In (2*(g.2.length:Int)) y)/\(aL g x=u/\aL g y=v)/\Lk (2*(g.2.length:Int)) (cy r) bX x y:=λu v _ _ h=>h (λu v=>u=v\/∃x y,(In (2*(g.2.length:Int)) x/\In (2*(g.2.length:Int)) y)/\(aL g x=u/\aL g y=v)/\Lk (2*(g.2.length:Int)) (cy r) bX x y) ⟨λu _=>.inl rfl,λu v _ _ h=>by
      rcases h with e|⟨x,y,⟨hx,hy⟩,⟨ex,ey⟩,hl⟩
      · exact .inl e.symm
      · exact .inr ⟨y,x,⟨hy,hx⟩,⟨ey,ex⟩,hle.symm _ _ hx hy hl⟩,λu v w _ _ _ h1 h2=>by
      rcases h1 with e|⟨x,y,⟨hx,hy⟩,⟨ex,ey⟩,hl⟩
      · rw[e];exact h2
      · rcases h2 with e|⟨x',y',⟨hx',hy'⟩,⟨ex',ey'⟩,hl'⟩
        · rw[<-e];exact .inr ⟨x,y,⟨hx,hy⟩,⟨ex,ey⟩,hl⟩
        · exact .inr ⟨x,y',⟨hx,hy'⟩,⟨ex,ey'⟩,hle.trans _ _ _ hx hy hy' hl (hle.trans _ _ _ hy hx' hy' (hsame y x' hy hx' (by rw[ey,ex'])) hl')⟩⟩ (λe he=>by
      obtain⟨i,hi,rfl⟩:=List.mem_iff_getElem.1 he
      have e0:gI g.2 (i:Int)=g.2[i]:=by simp[gI,hi]
      have h1:In (2*(g.2.length:Int)) (2*(i:Int)):=⟨by omega,by omega⟩
      have h2:=(iq g.2.length).rng _ h1
      obtain⟨a,b,c,d⟩:=tG (g:=g) (i:=i) (by omega)
      refine .inr ⟨2*(i:Int),bX (2*(i:Int)),⟨h1,h2⟩,⟨by rw[(fv a).2,e0],by rw[htw _ h1,c,e0]⟩,Lk.t h1⟩)
  have hiso:∀v,v∈(bI r.length).filter (λv=>decide ((gI r v).length=0))↔(0<=v/\v<r.length)/\(gI r v).length=0:=λv=>by
    rw[List.mem_filter,cY];simp
  have hnoin:∀v,(gI r v).length=0->∀x,In (2*(g.2.length:Int)) x->aL g x≠v:=λv hv x hx e=>by
    obtain⟨w,hw,hh⟩:=lW hr hx.1 hx.2
    have:=(hr.2.1 w (by omega) x hh).2
    rw[e] at this
    rw[this] at hv
    have:=List.length_pos_of_mem hh
    omega
  have hTn:Tr (ke g) (Cn g) (lC.map (aL g)++(bI r.length).filter (λv=>decide ((gI r v).length=0))):=by
    refine⟨List.nodup_append.2 ⟨dS hT.nd (λx hx y hy e=>hT.one x hx y hy (hsame x y (hT.dom x hx) (hT.dom y hy) e)),(eU _).filter _,λa ha b hb e=>?_⟩,λv hv=>?_,λv hv=>?_,λu hu v hv huv=>?_⟩
    · obtain⟨x,hx,rfl⟩:=List.mem_map.1 ha
      exact hnoin b ((hiso b).1 hb).2 x (hT.dom x hx) e
    · rcases List.mem_append.1 hv with h|h
      · obtain⟨x,hx,rfl⟩:=List.mem_map.1 h
        exact hfin x (hT.dom x hx)
      · have:=((hiso v).1 h).1
        exact⟨this.1,by omega⟩
    · have hv1:=hv.1
      have hv2:=hv.2
      by_cases c:(gI r v).length=0
      · exact⟨v,List.mem_append.2 (.inr ((hiso v).2 ⟨⟨hv1,by omega⟩,c⟩)),hcn.rfl v hv⟩
      · have h1:=hr.2.1 v.toNat (by omega) (gI (gI r v) 0) (by rw[show((v.toNat:Nat):Int)=v by omega];exact aR (by omega) (by omega))
        obtain⟨y,hy,hxy⟩:=hT.all _ h1.1
        refine⟨aL g y,List.mem_append.2 (.inl (List.mem_map.2 ⟨y,hy,rfl⟩)),?_⟩
        have h2:=hup _ _ hxy
        rw[h1.2,show((v.toNat:Nat):Int)=v by omega] at h2
        exact h2
    · have hud:∀u∈lC.map (aL g)++(bI r.length).filter (λv=>decide ((gI r v).length=0)),ke g u:=λu hu=>by
        rcases List.mem_append.1 hu with h|h
        · obtain⟨x,hx,rfl⟩:=List.mem_map.1 h
          exact hfin x (hT.dom x hx)
        · have:=((hiso u).1 h).1
          exact⟨this.1,by omega⟩
      rcases hdn u v (hud u hu) (hud v hv) huv with e|⟨x,y,⟨hx,hy⟩,⟨ex,ey⟩,hl⟩
      · exact e
      · rcases List.mem_append.1 hu with h|h
        · obtain⟨x',hx',rfl⟩:=List.mem_map.1 h
          rcases List.mem_append.1 hv with h'|h'
          · obtain⟨y',hy',rfl⟩:=List.mem_map.1 h'
            have hxd:=hT.dom x' hx'
            have hyd:=hT.dom y' hy'
            rw[hT.one x' hx' y' hy' (hle.trans _ _ _ hxd hx hyd (hsame _ _ hxd hx ex.symm) (hle.trans _ _ _ hx hy hyd hl (hsame _ _ hy hyd ey)))]
          · exact absurd ey (hnoin v ((hiso v).1 h').2 y hy)
        · exact absurd ex (hnoin u ((hiso u).1 h).2 x hx)
  have:=gY.eq hcn ⟨_,hTn,rfl⟩ hk
  rw[List.length_append,List.length_map] at this
  have h2:=lc r (λl=>decide (l.length=0))
  omega
theorem qX(hr:cM g r):Pm (bb g r).length (gI (bb g r))/\∀x,In (2*(g.2.length:Int)) x->gI (bb g r) x=cy r (bX x):=by
 have hl:=eT g r
 have h1:∀x,In (2*(g.2.length:Int)) x->gI (bb g r) x=cy r (bX x):=λx hx=>by
   rw[jn hx.1 hx.2,qG hr ((iq g.2.length).rng x hx)]
 refine⟨?_,h1⟩
 rw[hl]
 exact((iq g.2.length).comp (kf hr)).congr λx hx=>(h1 x hx).symm
theorem zG(hr:cM g r):∃F:Nat,gY (In (2*(g.2.length:Int))) (cJ λx=>cy r (bX x)) F/\F+(r.filter λl=>decide (l.length=0)).length=(cx (bb g r) r).length:=by
  obtain⟨h1,h2⟩:=qX hr
  have h3:=(mM h1).2.2.2
  refine⟨_,gY.iff ⟨_,by rw[eT] at h3;exact h3,rfl⟩ (λx y hx hy=>cJ.iff (by rw[eT] at h1;exact h1) h2 hx),?_⟩
  unfold cx
  rw[List.length_append,List.length_map,List.length_map]
theorem uo(hm:bF g)(hr:cM g r):Ec (2*(g.2.length:Int)) bX (cy r) (2*(bE g).2.1-g.1-((cx (bb g r) r).length:Int)):=by
  obtain⟨V,hV,eV⟩:=zY hr
  obtain⟨C,hC,eC⟩:=zA hm hr
  obtain⟨F,hF,eF⟩:=zG hr
  refine⟨V,F,C,hV,hF,hC,?_⟩
  omega
theorem tY(hm:bF g)(hr:cM g r):0<=2*(bE g).2.1-g.1+(g.2.length:Int)-((cx (bb g r) r).length:Int)/\(2*(bE g).2.1-g.1+(g.2.length:Int)-((cx (bb g r) r).length:Int))%2=0:=by
  obtain⟨hp,d,h1,h2,h3⟩:=v7 hr.2.2.1 (tK hr)
  have:=h1.uniq (iq g.2.length) hp (uo hm hr)
  omega
end
end TL
/-
  TlDfs: components found by a stack: the document's way.
  By an AI agent.
-/
set_option linter.all false
namespace TL
def ly(c:List Int):Nat:=(c.filter λx=>decide (x<0)).length
theorem ur{c:List Int}{w n:Int}(h0:0<=w)(h1:w<c.length)(hc:gI c w<0)(hn:0<=n):ly (c.set w.toNat n)+1=ly c:=by
 have hlt:w.toNat<c.length:=by omega
 have e0:gI c w=c[w.toNat]:=by simp[gI,hlt]
 have e1:c=c.take w.toNat++c[w.toNat]::c.drop (w.toNat+1):=by
   rw[<-List.drop_eq_getElem_cons hlt,List.take_append_drop]
 have e2:c.set w.toNat n=c.take w.toNat++n::c.drop (w.toNat+1):=List.set_eq_take_append_cons_drop.trans (if_pos hlt)
 rw[e2]
 conv=>rhs;rw[e1]
 unfold ly
 rw[List.filter_append,List.filter_append,List.filter_cons,List.filter_cons,if_neg (by simp;omega),if_pos (by rw[<-e0];simpa using hc)]
 simp
 omega
theorem vj{g:bG}{v:Int}(h0:0<=v)(h1:v<g.1):gI (bh g) v=bP g v:=by
 unfold bh gI
 have:v.toNat<g.1.toNat:=by omega
 simp[List.getD_eq_getElem?_getD,this]
 congr 1
 omega
theorem rM(g:bG)(h:0<=g.1):((bh g).length:Int)=g.1:=by simp[bh];omega
structure eE(g:bG)(c0 c todo x:List Int)(n s:Int):Prop where
  len:(c.length:Int)=g.1
  n0:0<=n
  sd:ke g s
  pre:∀w,ke g w->Cn g s w->gI c0 w<0
  cmp:∀w,ke g w->(Cn g s w/\gI c w=n)\/gI c w=gI c0 w
  nd:todo.Nodup
  tds:∀t∈todo,ke g t/\Cn g s t/\gI c t=n
  clo:∀v,ke g v->Cn g s v->gI c v=n->v∉todo->v∉x->∀h∈bP g v,0<=gI c (dV g h)
  src:gI c s=n
theorem eE.start{g:bG}(hm:bF g){c0:List Int}{n:Int}{q:Nat}(hq:(q:Int)<g.1)(h:c0=(bl g q).1/\n=(bl g q).2)(c:¬0<=gI c0 (q:Int)):eE g c0 (c0.set (q:Int).toNat n) [(q:Int)] [] n (q:Int):=by
 obtain⟨l,hi⟩:=iV hm q (by omega)
 obtain⟨rfl,rfl⟩:=h
 have hqd:ke g (q:Int):=⟨by omega,hq⟩
 have hn:0<=(bl g q).2:=by rw[hi.num];omega
 have hlen:=hi.len
 have hcn:=Cn.eqv g
 have hpre:∀w,ke g w->Cn g (q:Int) w->gI (bl g q).1 w<0:=λw hw hc=>by
   refine Int.not_le.1 λh0=>c ?_
   obtain⟨y,hy,hwy⟩:=(hi.iff w hw).1 h0
   exact(hi.iff _ hqd).2 ⟨y,hy,hcn.trans _ _ _ hqd hw (hi.dom y hy) hc hwy⟩
 have hset:∀w,ke g w->gI ((bl g q).1.set (q:Int).toNat (bl g q).2) w=if w=q then(bl g q).2 else gI (bl g q).1 w:=λw hw=>dN (by omega) (by omega) hw.1
 refine⟨by simpa using hlen,hn,hqd,hpre,λw hw=>?_,by simp,λt ht=>?_,λv hv hc e hnt _=>?_,?_⟩
 · rw[hset w hw]
   by_cases e:w=q
   · subst e;exact .inl ⟨hcn.rfl _ hqd,if_pos rfl⟩
   · rw[if_neg e];exact .inr rfl
 · obtain rfl:=List.mem_singleton.1 ht
   exact⟨hqd,hcn.rfl _ hqd,by rw[hset _ hqd,if_pos rfl]⟩
 · have hne:v≠q:=λe=>hnt (by simp[e])
   rw[hset v hv,if_neg hne] at e
   have:=hpre v hv hc
   omega
 · rw[hset _ hqd,if_pos rfl]
section
variable{g:bG}{c0 c todo x:List Int}{n s:Int}
theorem eE.bd(h:eE g c0 c todo x n s):(todo.length:Int)<=g.1:=by
 have h1:=h.sd.1
 have h2:=h.sd.2
 exact ig (by omega) h.nd (λt ht=>(h.tds t ht).1)
theorem eE.pop(h:eE g c0 c todo [] n s)(ht:0<todo.length):eE g c0 c (todo.take (todo.length-1)) [gI todo ((todo.length:Int)-1)] n s/\ke g (gI todo ((todo.length:Int)-1))/\Cn g s (gI todo ((todo.length:Int)-1))/\gI c (gI todo ((todo.length:Int)-1))=n:=by
 have hm:=aR (xs:=todo) (i:=(todo.length:Int)-1) (by omega) (by omega)
 have hs:=bC (xs:=todo) (k:=todo.length-1) (by omega)
 rw[List.take_of_length_le (by omega),show((todo.length-1:Nat):Int)=(todo.length:Int)-1 by omega] at hs
 refine⟨⟨h.len,h.n0,h.sd,h.pre,h.cmp,h.nd.sublist (List.take_sublist _ _),λt ht=>h.tds t (List.mem_of_mem_take ht),λv hv hc e hnt hnx=>h.clo v hv hc e (λhm=>?_) (by simp),h.src⟩,h.tds _ hm⟩
 rw[hs] at hm
 rcases List.mem_append.1 hm with hm|hm
 · exact hnt hm
 · exact hnx hm
theorem eE.push(hm:bF g)(h:eE g c0 c todo x n s){v:Int}(hv:ke g v)(hc:Cn g s v){hh:Int}(hh0:hh∈bP g v)(hw:gI c (dV g hh)<0):eE g c0 (c.set (dV g hh).toNat n) (todo++[dV g hh]) x n s/\∀u,0<=u->0<=gI c u->0<=gI (c.set (dV g hh).toNat n) u:=by
 obtain⟨⟨a1,a2⟩,a3⟩:=fv hh0
 have hto:=i2 hm a1 a2
 have hlen:=h.len
 have hn:=h.n0
 have hcw:Cn g s (dV g hh):=(Cn.eqv g).trans _ _ _ h.sd hv hto hc (by have:=Cn.half hm a1 a2;rwa[a3] at this)
 have hset:∀u,0<=u->gI (c.set (dV g hh).toNat n) u=if u=dV g hh then n else gI c u:=λu h0=>dN hto.1 (by omega) h0
 have hmono:∀u,0<=u->0<=gI c u->0<=gI (c.set (dV g hh).toNat n) u:=λu h0 h1=>by
   rw[hset u h0];split<;>omega
 refine⟨⟨by simpa using hlen,hn,h.sd,h.pre,λw hwd=>?_,?_,λt ht=>?_,λv' hv' hc' e hnt hnx h' hh'=>?_,?_⟩,hmono⟩
 · rw[hset w hwd.1]
   by_cases e:w=dV g hh
   · subst e;exact .inl ⟨hcw,if_pos rfl⟩
   · rw[if_neg e];exact h.cmp w hwd
 · rw[List.nodup_append]
   refine⟨h.nd,by simp,λa ha b hb e=>?_⟩
   obtain rfl:=List.mem_singleton.1 hb
   have:=(h.tds a ha).2.2
   rw[e] at this
   omega
 · rcases List.mem_append.1 ht with ht|ht
   · obtain⟨b1,b2,b3⟩:=h.tds t ht
     refine⟨b1,b2,?_⟩
     rw[hset t b1.1];split
     · rfl
     · exact b3
   · obtain rfl:=List.mem_singleton.1 ht
     exact⟨hto,hcw,by rw[hset _ hto.1,if_pos rfl]⟩
 · have hne:v'≠dV g hh:=λe=>hnt (by simp[e])
   rw[hset v' hv'.1,if_neg hne] at e
   have b:=fv hh'
   exact hmono _ (i2 hm b.1.1 b.1.2).1 (h.clo v' hv' hc' e (λhm=>hnt (by simp[hm])) hnx h' hh')
 · rw[hset s h.sd.1];split
   · rfl
   · exact h.src
structure gU(g:bG)(c0 c todo:List Int)(n s v:Int)(k M:Nat):Prop where
  inv:eE g c0 c todo [v] n s
  vd:ke g v
  vc:Cn g s v
  row:∀i:Nat,i<k->(i:Int)<(bP g v).length->0<=gI c (dV g (gI (bP g v) (i:Int)))
  meas:todo.length+2*ly c<M
theorem eE.row(h:eE g c0 c todo [] n s)(ht:0<todo.length):gU g c0 c (todo.take (todo.length-1)) n s (gI todo ((todo.length:Int)-1)) 0 (todo.length+2*ly c):=by
 obtain⟨h1,h2,h3,h4⟩:=h.pop ht
 exact⟨h1,h2,h3,λi hi=>by omega,by rw[List.length_take];omega⟩
variable{v:Int}{k M:Nat}
theorem gU.skip(h:gU g c0 c todo n s v k M)(hk:0<=gI c (dV g (gI (bP g v) (k:Int)))):gU g c0 c todo n s v (k+1) M:=
 ⟨h.inv,h.vd,h.vc,λi hi hl=>by
   by_cases e:i=k
   · subst e;exact hk
   · exact h.row i (by omega) hl,h.meas⟩
theorem gU.push(hm:bF g)(h:gU g c0 c todo n s v k M)(hl:(k:Int)<(bP g v).length)(hk:¬0<=gI c (dV g (gI (bP g v) (k:Int)))):gU g c0 (c.set (dV g (gI (bP g v) (k:Int))).toNat n) (todo++[dV g (gI (bP g v) (k:Int))]) n s v (k+1) M:=by
 have hmem:=aR (xs:=bP g v) (i:=(k:Int)) (by omega) hl
 obtain⟨h1,h2⟩:=h.inv.push hm h.vd h.vc hmem (by omega)
 have b:=fv hmem
 have hto:=i2 hm b.1.1 b.1.2
 have hlen:=h.inv.len
 have hn:=h.inv.n0
 have hme:=h.meas
 have hcn:=ur (c:=c) (w:=dV g (gI (bP g v) (k:Int))) (n:=n) hto.1 (by omega) (by omega) hn
 refine⟨h1,h.vd,h.vc,λi hi hil=>?_,?_⟩
 · by_cases e:i=k
   · subst e
     rw[dN hto.1 (by omega) hto.1,if_pos rfl];exact hn
   · have bi:=fv (aR (xs:=bP g v) (i:=(i:Int)) (by omega) hil)
     exact h2 _ (i2 hm bi.1.1 bi.1.2).1 (h.row i (by omega) hil)
 · rw[List.length_append,List.length_singleton];omega
theorem gU.done(h:gU g c0 c todo n s v k M)(hl:¬(k:Int)<(bP g v).length):eE g c0 c todo [] n s:=
 ⟨h.inv.len,h.inv.n0,h.inv.sd,h.inv.pre,h.inv.cmp,h.inv.nd,h.inv.tds,λu hu hc e hnt _ hh hhu=>by
   by_cases e2:u=v
   · subst e2
     obtain⟨i,hi,rfl⟩:=List.mem_iff_getElem.1 hhu
     have e3:gI (bP g u) (i:Int)=(bP g u)[i]:=by simp[gI,hi]
     rw[<-e3]
     exact h.row i (by omega) (by omega)
   · exact h.inv.clo u hu hc e hnt (by simp[e2]) hh hhu,h.inv.src⟩
theorem eE.done(hm:bF g){q:Nat}(h:eE g c0 c todo [] n (q:Int))(ht:¬0<todo.length)(h0:c0=(bl g q).1/\n=(bl g q).2)(hc:¬0<=gI c0 (q:Int)):c=(bl g (q+1)).1/\n+1=(bl g (q+1)).2:=by
 have hnil:todo=[]:=List.eq_nil_of_length_eq_zero (by omega)
 subst hnil
 obtain⟨hb1,hb2⟩:=kz hm h.sd
 have hpl:=kd g q
 have hall:∀w,Cn g (q:Int) w->gI c w=n:=λw hw=>
   (mo (S:=λw=>(ke g w/\Cn g (q:Int) w)/\gI c w=n) (λx hh hx hhx=>by
     have b:=fv hhx
     have hto:=i2 hm b.1.1 b.1.2
     have hcx:Cn g (q:Int) (dV g hh):=(Cn.eqv g).trans _ _ _ h.sd hx.1.1 hto hx.1.2 (by have:=Cn.half hm b.1.1 b.1.2;rwa[b.2] at this)
     have h1:=h.clo x hx.1.1 hx.1.2 hx.2 (by simp) (by simp) hh hhx
     refine⟨⟨hto,hcx⟩,?_⟩
     rcases h.cmp _ hto with e|e
     · exact e.2
     · have:=h.pre _ hto hcx
       omega) hw ⟨⟨h.sd,(Cn.eqv g).rfl _ h.sd⟩,h.src⟩).2
 have h1:bl g (q+1)=((fM g (q:Int)).order.foldl (λl w=>l.set w.toNat (bl g q).2) (bl g q).1,(bl g q).2+1):=by
   rw[gj]
   unfold iv
   rw[if_neg (by rw[<-h0.1];exact hc)]
 have hlen:=h.len
 have hsd:=h.sd
 have hsd2:=hsd.2
 rw[h1]
 refine⟨?_,by rw[h0.2]⟩
 simp only
 have hl2:(((fM g (q:Int)).order.foldl (λl w=>l.set w.toNat (bl g q).2) (bl g q).1).length:Int)=g.1:=by rw[gR,hpl.1];omega
 apply gk
 · omega
 · intro w hw
   have hwd:ke g (w:Int):=⟨by omega,by omega⟩
   rw[nE _ _ (w:Int) (by omega) (by rw[hpl.1];omega) (λx hx=>by
     have:=hb1 x hx
     rw[hpl.1]
     have h2:=this.1
     have h3:=this.2
     omega)]
   by_cases hc':Cn g (q:Int) (w:Int)
   · rw[if_pos ((hb2 _).2 hc'),hall _ hc',h0.2]
   · rw[if_neg (λhm=>hc' ((hb2 _).1 hm)),<-h0.1]
     rcases h.cmp _ hwd with e|e
     · exact absurd e.1 hc'
     · exact e
end
end TL
/-
  TlNil: a list that is none, compared.
  By an AI agent.
-/
set_option linter.all false
namespace TL
open Go
section
variable{P:Program}{w:World}{t t':TypeId}{f:Fr}{x y:Operand}{dst:Option Tmp}{ty:TypeId}{pos:String}{after:Array Edge}{g:Option (Nat×Bool)}
theorem lO{e:TypeId}(ht:P.underlying t=some (.slice e)):(Op.equal t (.slice none 0 0) (.slice none 0 0)).run P w= .ok true w:=by
 unfold Op.equal
 rw[show Op.maxDepth=9999+1 from rfl]
 unfold Op.equalIn
 simp[aS ht]
theorem iR{e:TypeId}(ht:P.underlying t=some (.slice e))(hx:ev f x= .slice none 0 0)(hy:ev f y= .slice none 0 0):(execOp (ev f) ⟨dst,.binOp .neq t x y t',ty,pos,after,g⟩).run P w= .ok (.value (.bool false)) w:=
 uI .neq hx hy (by simp[eqGuard]) (by simp[binOp,lO ht])
end
theorem yz{α:Type}[Rp α]{γ:aH}{J S:cd->Prop}{w:World}{v:Value}{xs:List α}{hi:Nat}(h:Ow γ J S w v xs)(h2:hi<=xs.length):Ow γ J S w (jX v (Rp.sz α) 0 hi) (xs.take hi):=by
  rcases h with⟨rfl,rfl⟩|⟨b,cap,c,e,rfl,hc,hm,hJ,hb,hcs,hx⟩
  · simp only[List.length_nil] at h2
    have:hi=0:=by omega
    subst this
    exact .inl ⟨rfl,rfl⟩
  · have hl:(xs.take hi).length=hi:=by simp;omega
    refine .inr ⟨b,cap,c,e,?_,⟨by omega,by omega⟩,hm,hJ,hb,hcs,λi x hi'=>hx i x ?_⟩
    · rw[sa]
      simp only[hl]
    · rw[List.getElem?_take] at hi'
      split at hi'
      · exact hi'
      · cases hi'
end TL
/-
  TlRef9: the document's own answer for rotations: what stands behind each half-edge, next ones.
  By an AI agent.
-/
set_option linter.all false
namespace TL
structure fH(l:List Int)(g:bG)(r:bY)(k i:Nat):Prop where
 len:(l.length:Int)=2*(g.2.length:Int)
 old:∀v j:Nat,v<k->(v:Int)<r.length->(j:Int)<(gI r (v:Int)).length->gI l (gI (gI r (v:Int)) (j:Int))=eJ r (gI (gI r (v:Int)) (j:Int))
 row:∀j:Nat,j<i->(j:Int)<(gI r (k:Int)).length->gI l (gI (gI r (k:Int)) (j:Int))=eJ r (gI (gI r (k:Int)) (j:Int))
theorem fH.start(g:bG)(r:bY):fH (List.replicate (2*(g.2.length:Int)).toNat 0) g r 0 0:=⟨by simp;omega,λv j hv=>by omega,λj hj=>by omega⟩
theorem fH.next{l:List Int}{g:bG}{r:bY}{k i:Nat}(h:fH l g r k i)(hr:cM g r)(hk:(k:Int)<r.length)(hi:(i:Int)<(gI r (k:Int)).length):
   fH (l.set (gI (gI r (k:Int)) (i:Int)).toNat (gI (gI r (k:Int)) (((i:Int)+1)%((gI r (k:Int)).length:Int)))) g r k (i+1):=by
 have hl:=h.len
 have hin:=(hr.2.1 k (by omega) _ (aR (xs:=gI r (k:Int)) (i:=(i:Int)) (by omega) hi)).1
 have key:∀x:Int,0<=x->x<2*(g.2.length:Int)->gI l x=eJ r x\/x=gI (gI r (k:Int)) (i:Int)->gI (l.set (gI (gI r (k:Int)) (i:Int)).toNat (gI (gI r (k:Int)) (((i:Int)+1)%((gI r (k:Int)).length:Int)))) x=eJ r x:=by
   intro x hx0 hx1 hx
   rw[dN hin.1 (by omega) hx0]
   by_cases e:x=gI (gI r (k:Int)) (i:Int)
   · rw[if_pos e,e,lJ hr hk hi]
   · rw[if_neg e]
     exact hx.resolve_right e
 refine⟨by simpa using hl,λv j hv hvr hj=>?_,λj hj hjr=>?_⟩
 · have hx:=(hr.2.1 v (by omega) _ (aR (xs:=gI r (v:Int)) (i:=(j:Int)) (by omega) hj)).1
   exact key _ hx.1 hx.2 (.inl (h.old v j hv hvr hj))
 · have hx:=(hr.2.1 k (by omega) _ (aR (xs:=gI r (k:Int)) (i:=(j:Int)) (by omega) hjr)).1
   refine key _ hx.1 hx.2 ?_
   by_cases e:j=i
   · subst e;exact .inr rfl
   · exact .inl (h.row j (by omega) hjr)
theorem fH.row_done{l:List Int}{g:bG}{r:bY}{k i:Nat}(h:fH l g r k i)(hi:¬(i:Int)<(gI r (k:Int)).length):fH l g r (k+1) 0:=by
 refine⟨h.len,λv j hv hvr hj=>?_,λj hj=>by omega⟩
 by_cases e:v=k
 · subst e;exact h.row j (by omega) hj
 · exact h.old v j (by omega) hvr hj
theorem fH.done{l:List Int}{g:bG}{r:bY}{k i:Nat}(h:fH l g r k i)(hr:cM g r)(hk:¬(k:Int)<r.length){x:Int}(h0:0<=x)(h1:x<2*(g.2.length:Int)):gI l x=eJ r x:=by
 obtain⟨v,j,hv,hj,e⟩:=iG hr h0 h1
 have:=h.old v j (by omega) hv hj
 rw[e] at this
 exact this
def iQ(l:List Int)(g:bG)(r:bY)(h:Nat):Prop:=(l.length:Int)=2*(g.2.length:Int)/\∀j:Nat,j<h->(j:Int)<2*(g.2.length:Int)->gI l (j:Int)=eJ r (bX (j:Int))
theorem iQ.start{g:bG}{r:bY}{n:Int}(h:n=2*(g.2.length:Int)):iQ (List.replicate n.toNat 0) g r 0:=⟨by simp;omega,λj hj=>by omega⟩
theorem iQ.next{l:List Int}{g:bG}{r:bY}{h:Nat}{x:Int}(hi:iQ l g r h)(hh:(h:Int)<2*(g.2.length:Int))(hx:x=eJ r (bX (h:Int))):iQ (l.set (Int.toNat (h:Int)) x) g r (h+1):=by
 obtain⟨h1,h2⟩:=hi
 refine⟨by simpa using h1,λj hj hjl=>?_⟩
 rw[dN (by omega) (by omega) (by omega)]
 by_cases e:j=h
 · subst e;rw[if_pos rfl,hx]
 · rw[if_neg (by omega)];exact h2 j (by omega) hjl
theorem iQ.done{l:List Int}{g:bG}{r:bY}{h:Nat}(hi:iQ l g r h)(hh:¬(h:Int)<l.length):l=bb g r:=by
 obtain⟨h1,h2⟩:=hi
 have hn:=eT g r
 apply gk
 · omega
 · intro q hq
   rw[jn (by omega) (by omega)]
   exact h2 q (by omega) (by omega)
theorem eM.yes'{seen0 seen:List Bool}{l:List (List Int)}{nx S f:List Int}{q:Nat}{k:Int}(h:eM seen0 l nx S q)(ho:gc seen f nx S q k)(hs:gI seen k=true)(h0:¬gI seen0 (q:Int)=true)(hq:(q:Int)<nx.length):eM seen (l++[f]) nx (S++f) (q+1):=by
 refine h.yes ho hs ?_ hq
 have e:=ho.done hs
 have hq2:=h.rm.low (by omega) hq h0
 have hb:=(h.rm.next (h:=(q:Int)) (by omega) hq (Bool.eq_false_iff.2 h0)).bd
 simp only[List.length_append,List.length_cons,List.length_nil] at hb
 rw[px hq2 (by omega)] at e
 rw[e];simp
def fk(g:bG)(r:bY):Int:=Int.tdiv (2*(bE g).2.1-g.1+(g.2.length:Int)-((cx (bb g r) r).length:Int)) 2
end TL
/-
  TlConv: whole numbers turned to another kind, a string's byte, functions that bear values.
  By an AI agent.
-/
set_option linter.all false
namespace TL
open Go
section
variable{P:Program}{w:World}{f:Fr}{dst:Option Tmp}{ty:TypeId}{pos:String}{after:Array Edge}{g:Option (Nat×Bool)}{x y:Operand}{s d t:TypeId}{m:Int}{k k0:IntKind}
theorem pu{fid:Nat}{cs:List Operand}{vals:List Value}(h:cs.map (ev f)=vals):(execOp (ev f) ⟨dst,.makeFunc (.func fid) #[] cs.toArray,ty,pos,after,g⟩).run P w= .ok (.value (.func (.func fid) #[] vals.toArray)) w:=by
 have h:cs.toArray.map (ev f)=vals.toArray:=by rw[<-h];simp
 simp[execOp,Instr.makeFunc,h]
end
end TL
namespace TL
open Go
section
variable{P:Program}{w:World}{f:Fr}{dst:Option Tmp}{ty:TypeId}{pos:String}{after:Array Edge}{g:Option (Nat×Bool)}{x y:Operand}{t t':TypeId}
theorem jS{fs:Array Field}{xs ys:List Value}{bs:List Bool}{q:Bool}(ht:P.underlying t=some (.struct fs))(hp:P.stoodInHeld t=false)(hg:P.eqGuardType P.depth t=false)(hx:ev f x= .agg xs.toArray)(hy:ev f y= .agg ys.toArray)(h:EqF P xs.toArray ys.toArray fs.toList bs)(hq:bs.all id=q):
   (execOp (ev f) ⟨dst,.binOp .neq t x y t',ty,pos,after,g⟩).run P w= .ok (.value (.bool !q)) w:=by
 have e1:P.fieldsOf t=fs:=by simp[Program.fieldsOf,ht]
 have hr:(Op.equal t (.agg xs.toArray) (.agg ys.toArray)).run P w= .ok q w:=by
   have:=run_equalIn_struct (P:=P) w 9999 t xs.toArray ys.toArray (by rw[e1];exact ht) hp
   rw[e1,gP h 9998,hq] at this
   exact this
 exact uI .neq hx hy (by simp[eqGuard,hg]) (by simp[binOp,hr])
end
end TL
namespace TL
open Go
section
variable{P:Program}{w:World}{f:Fr}{dst:Option Tmp}{ty:TypeId}{pos:String}{after:Array Edge}{g:Option (Nat×Bool)}{x y:Operand}{t t':TypeId}
end
end TL
/-
  TlStill: in a region that draws its order: an operation before which only reading ones may come is taken first.
  By an AI agent.
-/
set_option linter.all false
namespace TL
open Go
theorem az.asBool(v:Value):az (Go.asBool v):=by
 unfold Go.asBool
 repeat' (first|exact az.pure _|exact az.stuck _|exact az.unsupported _|split)
theorem kF(op:BinOp)(x y:ByteArray):az (Op.stringOp op x y):=by
 unfold Op.stringOp
 dsimp only
 repeat' (first|exact az.pure _|exact az.stuck _|exact az.unsupported _|split)
theorem pp(x y:Value):az (Builtin.min2 x y):=by
 unfold Builtin.min2
 repeat' (first|exact az.pure _|exact az.stuck _|exact az.unsupported _|exact az.bind (az.choose _) λ_=>az.pure _|exact az.bind (kF _ _ _) λ_=>az.bind (az.asBool _) λ_=>az.pure _|split)
theorem pv(x y:Value):az (Builtin.max2 x y):=by
 unfold Builtin.max2
 repeat' (first|exact az.pure _|exact az.stuck _|exact az.unsupported _|exact az.bind (az.choose _) λ_=>az.pure _|exact az.bind (kF _ _ _) λ_=>az.bind (az.asBool _) λ_=>az.pure _|split)
theorem j8{f:Value->Value->Sem Value}(hf:∀x y,az (f x y)):∀(l:List Value) (x:Value),az (l.foldlM f x)
 |[],x=>by simp only[List.foldlM_nil];exact az.pure _
 |y::l,x=>by simp only[List.foldlM_cons];exact az.bind (hf x y) λz=>j8 hf l z
def eX:Op->Bool
 | .call c=>match c.callee with
   | .builtin .min| .builtin .max=>true
   |_=>false
 |o=>jC o
theorem nO{ρ:Operand->Value}{o:Oper}(h:eX o.op=true):az (execOp ρ o)/\∀P w nx w',(execOp ρ o).run P w= .ok nx w'->∃u,nx= .value u:=by
 obtain⟨dst,op,ty,pos,after,g⟩:=o
 cases op
 case call c=>
   obtain⟨callee,args,at_⟩:=c
   cases callee with
   |builtin b=>
     cases b<;>simp only[eX,Bool.false_eq_true] at h
     case min=>
       have e:execOp ρ ⟨dst,.call {callee:=.builtin .min,args:=args,argTypes:=at_},ty,pos,after,g⟩=(do pure (Next.value (<-Builtin.min_ at_ ty (args.map ρ)))):=by
         simp[execOp,resolve,invoke,builtin]
       rw[e]
       refine⟨az.bind ?_ λ_=>az.pure _,λP w nx w' hr=>lE hr⟩
       unfold Builtin.min_
       split
       · exact az.stuck _
       · exact j8 pp _ _
     case max=>
       have e:execOp ρ ⟨dst,.call {callee:=.builtin .max,args:=args,argTypes:=at_},ty,pos,after,g⟩=(do pure (Next.value (<-Builtin.max_ at_ ty (args.map ρ)))):=by
         simp[execOp,resolve,invoke,builtin]
       rw[e]
       refine⟨az.bind ?_ λ_=>az.pure _,λP w nx w' hr=>lE hr⟩
       unfold Builtin.max_
       split
       · exact az.stuck _
       · exact j8 pv _ _
   |_=>simp only[eX,Bool.false_eq_true] at h
 all_goals
   first
   |(simp only[eX,jC,Bool.false_eq_true] at h;done)
   |exact⟨qf (by simpa[eX] using h),λP w nx w' hr=>lE hr⟩
section
variable{P:Program}{ops:Array Oper}{Q:Exit->Act->World->Prop}{md:Region.Mode}{S:World->Prop}
def A8(P:Program)(ops:Array Oper)(w:World)(o:Oper)(v:Value)(a:Act):Prop:=Region.wanted o (yielded ops a.tmps)=true/\(execOp a.eval o).run P w= .ok (.value v) w
theorem A8.wpOp{i:Nat}{o:Oper}{v:Value}{a:Act}{w:World}(hi:ops[i]? =some o)(hy:A8 P ops w o v a){K:Act->World->Prop}(h:K (a.put o.dst v) w):wpOp P ops Q i K a w:=by
 unfold Go.wpOp
 simp only[hi,hy.1,if_true,Oper.wp,hy.2,Oper.upon]
 exact .inl h
theorem qj{i:Nat}{oi:Oper}{v:Value}{w0:World}{M D:Array Bool}(hi:ops[i]? =some oi)(hsel:∀(j:Nat) (o:Oper) cs b,ops[j]? =some o->o.op≠ .select cs b)
   (hQ:∀c a w,Q (.panic c) (a.put oi.dst v) w->Q (.panic c) a w)
   (hM:∀j oj,ops[j]? =some oj->M.getD j false=false->j≠i->∃e∈oj.after,Region.binds md e=true/\M.getD e.on false=false)
   (hMq:∀j oj,ops[j]? =some oj->M.getD j false=true->D.getD j true=false->j≠i->eX oj.op=true):
   ∀(fuel:Nat) (listed:Array Bool) (a:Act) (w:World),dd w0.heap.size w0 w->S w->(∀j,listed.getD j false=true->M.getD j false=true)->(∀j,listed.getD j true=false->D.getD j true=false)->
     (∀j oj,ops[j]? =some oj->j≠i->listed.getD j true=false->(∀e∈oj.after,Region.binds md e=true->e.on≠i)->oi.apart ops oj=true)->
     i∈Region.ready md ops listed->(∀w,dd w0.heap.size w0 w->A8 P ops w oi v a)->
     wpAnyH P md ops Q S fuel (listed.setIfInBounds i true) (a.put oi.dst v) w->wpAnyH P md ops Q S (fuel+1) listed a w:=by
 intro fuel
 induction fuel with
 |zero=>
   intro listed a w hw hS _ _ _ hr hy H
   refine⟨λh=>(by rw[h] at hr;cases hr),λj hj=>?_⟩
   by_cases hji:j=i
   · subst hji;exact(hy w hw).wpOp hi ⟨hS,H⟩
   · have:=ready_mono hj hji
     rw[H.1] at this
     cases this
 |succ fuel ih=>
   intro listed a w hw hS hsub hD hfree hr hy H
   refine⟨λh=>(by rw[h] at hr;cases hr),λj hj=>?_⟩
   by_cases hji:j=i
   · subst hji;exact(hy w hw).wpOp hi ⟨hS,H⟩
   · obtain⟨hjun,oj,hoj,hall⟩:=mem_ready.1 hj
     have hMj:M.getD j false=true:=by
       cases hm:M.getD j false with
       |true=>rfl
       |false=>
         obtain⟨e,he,hb,hn⟩:=hM j oj hoj hm hji
         have:=hsub _ (hall e he hb)
         rw[hn] at this;cases this
     have hkk:=hMq j oj hoj hMj (hD j hjun) hji
     have h1:=H.2 j (ready_mono hj hji)
     have hnot:∀e∈oj.after,Region.binds md e=true->e.on≠i:=λe he hb heq=>by
       have h1:=hall e he hb
       have h0:=(mem_ready.1 hr).1
       rw[heq] at h1
       rw[getD_both h0] at h1
       cases h1
     have hap:=hfree j oj hoj hji hjun hnot
     have hfree':∀k ok,ops[k]? =some ok->k≠i->(listed.setIfInBounds j true).getD k true=false->
         (∀e∈ok.after,Region.binds md e=true->e.on≠i)->oi.apart ops ok=true:=λk ok hk hki hun hno=>by
       refine hfree k ok hk hki ?_ hno
       by_cases hjk:j=k
       · subst hjk;exact hjun
       · rw[getD_set_ne true hjk] at hun;exact hun
     have hsub':∀k,(listed.setIfInBounds j true).getD k false=true->M.getD k false=true:=λk hk=>by
       by_cases hjk:j=k
       · subst hjk;exact hMj
       · rw[getD_set_ne false hjk] at hk;exact hsub k hk
     have hD':∀k,(listed.setIfInBounds j true).getD k true=false->D.getD k true=false:=λk hk=>by
       by_cases hjk:j=k
       · subst hjk;exact hD j hjun
       · rw[getD_set_ne true hjk] at hk;exact hD k hk
     obtain⟨g1,g2,g3⟩:=Oper.apart_spec hap
     have keep:∀u w,dd w0.heap.size w0 w->A8 P ops w oi v (a.put oj.dst u):=λu w hw=>by
       obtain⟨k1,k2⟩:=hy w hw
       refine⟨by rw[wanted_put oi a oj.dst u g3];exact k1,?_⟩
       rw[execOp_put oi (λcs b=>hsel i oi cs b hi) a oj.dst u g3];exact k2
     unfold Go.wpOp at h1 ⊢
     simp only[hoj] at h1 ⊢
     rw[wanted_put oj a oi.dst v g1] at h1
     cases hwt:Region.wanted oj (yielded ops a.tmps) with
     |false=>
       simp only[hwt,Bool.false_eq_true,if_false] at h1 ⊢
       refine⟨h1.1,ih (listed.setIfInBounds j true) (a.put oj.dst undef) w hw h1.1 hsub' hD' hfree' (ready_mono hr (Ne.symm hji)) (keep undef) ?_⟩
       rw[<-Act.put_comm a v undef g2,Array.setIfInBounds_comm _ _ hji]
       exact h1.2
     |true=>
       simp only[hwt,if_true] at h1 ⊢
       obtain⟨hke,hval⟩:=nO (ρ:=a.eval) hkk
       rcases h1 with h1|⟨h1,h2⟩
       · left
         unfold Oper.wp at h1 ⊢
         rw[execOp_put oj (λcs b=>hsel j oj cs b hoj) a oi.dst v g1] at h1
         obtain⟨dst,op,ty,pos,after,gd⟩:=oj
         cases hrun:(execOp a.eval ⟨dst,op,ty,pos,after,gd⟩).run P w with
         |halt x w'=>
           rw[hrun] at h1
           cases x<;>simp only[Oper.upon] at h1 ⊢
           case panic u=>exact hQ _ _ _ h1
         |ok nx w'=>
           rw[hrun] at h1
           have hb:=hke P w nx w' hrun
           have hw':dd w0.heap.size w0 w':=hw.trans (hb.mono hw.size)
           obtain⟨u,rfl⟩:=hval P w nx w' hrun
           simp only[Oper.upon] at h1 ⊢
           refine⟨h1.1,ih (listed.setIfInBounds j true) (a.put dst u) w' hw' h1.1 hsub' hD' hfree' (ready_mono hr (Ne.symm hji)) (keep u) ?_⟩
           have h3:=h1.2
           rw[show(a.put oi.dst v).put dst u=(a.put dst u).put oi.dst v from Act.put_comm a v u g2,Array.setIfInBounds_comm _ _ (Ne.symm hji)] at h3
           exact h3
       · right
         refine⟨?_,h2⟩
         unfold Oper.asks at*
         rw[execOp_put oj (λcs b=>hsel j oj cs b hoj) a oi.dst v g1] at h1
         exact h1
end
end TL
namespace TL
open Go
section
variable{P:Program}{n:Nat}{l:List Oper}{S:World->Prop}{K:Fr->World->Prop}{f:Fr}{w:World}{done:List Nat}{fuel:Nat}
variable{dst:Option Tmp}{op:Op}{ty:TypeId}{pos:String}{after:Array Edge}{g:Option (Nat×Bool)}{v:Value}
def qA(l:List Oper)(done M:List Nat)(i:Nat):Bool:=
 ((List.range l.length).all λj=>M.contains j||j==i||match l[j]? with
     |some oj=>oj.after.any λe=>Region.binds .any e&& !M.contains e.on
     |none=>true)&&
 (M.all λj=>j==i||done.contains j||match l[j]? with
     |some oj=>eX oj.op
     |none=>false)&&(done.all λj=>M.contains j&&decide (j<l.length))&&M.all λj=>decide (j<l.length)
theorem l8(i:Nat)(M:List Nat)(hi:l[i]? =some ⟨dst,op,ty,pos,after,g⟩)(hn:hU l=true)(hc:(gM l done i&&jM l done i&&qA l done M i&&nI n ⟨dst,op,ty,pos,after,g⟩)=true)
    (hw:cU l ⟨dst,op,ty,pos,after,g⟩ f=true)(hS:S w)(h:∀w',dd w.heap.size w w'->(execOp (ev f) ⟨dst,op,ty,pos,after,g⟩).run P w'= .ok (.value v) w')(hk:r4 P n l S K fuel (i::done) (gX f dst v) w):r4 P n l S K (fuel+1) done f w:=by
  simp only[Bool.and_eq_true] at hc
  obtain⟨⟨⟨hr,hf⟩,hb⟩,hd⟩:=hc
  obtain⟨hlt,hr'⟩:=ga hr
  intro a ha
  unfold qA at hb
  simp only[Bool.and_eq_true,List.all_eq_true,List.mem_range] at hb
  obtain⟨⟨⟨b1,b2⟩,b3⟩,b4⟩:=hb
  have hgM:∀j,(bW l.length M).getD j false=true↔j∈M:=λj=>by
    rw[cZ]
    by_cases hjl:j<l.length
    · simp[hjl]
    · simp only[hjl,if_false,Bool.false_eq_true,false_iff]
      exact λhm=>hjl (by simpa using b4 j hm)
  refine qj (v:=v) (w0:=w) (M:=bW l.length M) (D:=bW l.length done) (by simpa using hi) (jJ hn) (λc a w h=>by cases h.1) (λj oj hj hm hne=>?_) (λj oj hj hm hD hne=>?_) fuel _ a w (dd.refl _ _) hS (λj hj=>?_) (λj hj=>hj) (gC hi hf) hr' (λw' hw'=>?_) ?_
  · have hj':l[j]? =some oj:=by simpa using hj
    have hjl:j<l.length:=(List.getElem?_eq_some_iff.1 hj').1
    have h1:=b1 j hjl
    have hmM:M.contains j=false:=by
      cases hc:M.contains j with
      |false=>rfl
      |true=>have h9:=(hgM j).2 (by simpa using hc);rw[hm] at h9;cases h9
    simp only[hmM,hj',Bool.false_or,Bool.or_eq_true,beq_iff_eq,hne,false_or] at h1
    obtain⟨e,he,hbb⟩:=Array.any_eq_true'.1 h1
    simp only[Bool.and_eq_true,Bool.not_eq_true'] at hbb
    refine⟨e,he,hbb.1,?_⟩
    cases hc:(bW l.length M).getD e.on false with
    |false=>rfl
    |true=>
      have:=(hgM _).1 hc
      have h2:=hbb.2
      simp[this] at h2
  · have h1:=b2 j ((hgM j).1 hm)
    have hj':l[j]? =some oj:=by simpa using hj
    have hjl:j<l.length:=(List.getElem?_eq_some_iff.1 hj').1
    rw[cZ,if_pos hjl] at hD
    have hd:done.contains j=false:=by simpa using hD
    simp only[hj',Bool.or_eq_true,beq_iff_eq,hne,hd,false_or,Bool.false_eq_true] at h1
    exact h1
  · rw[cZ] at hj
    split at hj
    · have h1:=b3 j (by simpa using hj)
      exact(hgM j).2 (by simpa using h1.1)
    · cases hj
  · refine⟨?_,?_⟩
    · rw[ha.yielded];exact hw
    · rw[ha.eval];exact h w' hw'
  · rw[ew done hlt]
    exact hk _ (ha.put hd v)
end
end TL
namespace TL
open Go
def rI:List Nat->List Item->List Item
  |[],k=>k
  |1::c,.code (.seq x y)::k=>rI c (.code x:: .code y::k)
  |2::c,.code (.cond _ _ y)::k=>rI c (.code y::k)
  |3::c,.code (.cond _ x _)::k=>rI c (.code x::k)
  |0::c,_::k=>rI c k
  |_,k=>k
theorem pd(c:List Nat){P:Program}{fid n:Nat}{R:Ending->World->Prop}{k:List Item}{f:Fr}{w:World}{σ:Type}(Mid:σ->Fr->World->Prop)
    (h:(∀s f w,Mid s f w->fh P fid n R (rI c k) f w)->fh P fid n R k f w)(hk:∀s f w,Mid s f w->fh P fid n R (rI c k) f w):fh P fid n R k f w:=h hk
end TL
set_option linter.unusedVariables false
namespace TL
variable{a b c d:Int×Int}
theorem o1{A B C D:Prop}[Decidable A](h:decide A=true):A\/B\/C\/D:=.inl (of_decide_eq_true h)
theorem o2{A B C D:Prop}[Decidable B](h:decide B=true):A\/B\/C\/D:=.inr (.inl (of_decide_eq_true h))
theorem o3{A B C D:Prop}[Decidable C](h:decide C=true):A\/B\/C\/D:=.inr (.inr (.inl (of_decide_eq_true h)))
theorem o4{A B C D:Prop}[Decidable D](h:decide D=true):A\/B\/C\/D:=.inr (.inr (.inr (of_decide_eq_true h)))
theorem o5{A B C D:Prop}[Decidable A][Decidable B][Decidable C][Decidable D](h1:¬decide A=true)(h2:¬decide B=true)(h3:¬decide C=true)(h4:¬decide D=true):¬(A\/B\/C\/D):=by
 rintro(h|h|h|h)
 · exact h1 (decide_eq_true h)
 · exact h2 (decide_eq_true h)
 · exact h3 (decide_eq_true h)
 · exact h4 (decide_eq_true h)
end TL
/-
  TlArr: the whole of an array that lies in a list, as a list.
  By an AI agent.
-/
set_option linter.all false
namespace TL
open Go
def sK(v:Value)(i:Nat):Value:=.slice (some (bu v 2 i)) 2 2
section
variable{P:Program}{f:Fr}{w:World}{dst:Option Tmp}{ty:TypeId}{pos:String}{after:Array Edge}{g:Option (Nat×Bool)}{t e:TypeId}{x y:Operand}
theorem hZ{v:Value}{i:Nat}(ht:P.underlying t=some (.array 2 e))(hs:(P.info? e).map (·.size)=some 1)(hx:ev f x= .pointer (some (bu v 2 i))):
   (execOp (ev f) ⟨dst,.slice t x none none none,ty,pos,after,g⟩).run P w= .ok (.value (sK v i)) w:=by
 cases hq:P.info? e with
 |none=>simp[hq] at hs
 |some q=>
   have hsub:execOp (ev f) ⟨dst,.slice t x none none none,ty,pos,after,g⟩=(do pure (.value (<-Instr.sliceAt t (.pointer (some (bu v 2 i))) none none none))):=by
     simp[execOp,hx]
   rw[hsub]
   have ha:(bu v 2 i).add 0=bu v 2 i:=by rw[ko,Nat.add_zero,<-k8]
   simp[Instr.sliceAt,Instr.sureAddr,Instr.sliceBounds,aS ht,cF hq,sK,ha]
theorem pk{γ:aH}{S:cd->Prop}{v:Value}{xs:List (Int×Int)}{i:Int}(hs:Sl γ S w v xs)(h0:0<=i)(h1:i<xs.length):Sl γ S w (sK v i.toNat) [(gI xs i).1,(gI xs i).2]:=by
 have hg:=i9 h0 h1
 rcases hs with⟨⟨_,rfl⟩,rfl⟩|⟨b,off,cap,rfl,_,hx⟩
 · simp at h1;omega
 · obtain⟨hb,hS,cs,hcs,hr⟩:=hx _ _ hg
   have hr':cs=[.int .i64 (gI xs i).1,.int .i64 (gI xs i).2]:=by
     have:=Fl.rep_iff.1 hr
     simpa[Fl.cells] using this
   refine .inr ⟨b,off+i.toNat*2,2,rfl,⟨by simp,by simp⟩,λj x hj=>?_⟩
   have hc0:=hcs 0 (by decide)
   have hc1:=hcs 1 (by decide)
   rw[hr'] at hc0 hc1
   have hlt:j<2:=by have:=(List.getElem?_eq_some_iff.1 hj).1;simpa using this
   rcases(by omega:j=0\/j=1) with rfl|rfl
   · have hx0:(gI xs i).1=x:=by simpa using hj
     refine⟨hb,hS,[.int .i64 (gI xs i).1],λq hq=>?_,by rw[hx0];rfl⟩
     have:q=0:=by have h9:q<1:=hq;omega
     subst this
     exact hc0
   · have hx0:(gI xs i).2=x:=by simpa using hj
     refine⟨hb,hS,[.int .i64 (gI xs i).2],λq hq=>?_,by rw[hx0];rfl⟩
     have:q=0:=by have h9:q<1:=hq;omega
     subst this
     exact hc1
end
end TL
/-
  TlLess: edges taken away never raise the genus.
  By an AI agent.
-/
set_option linter.all false
namespace TL
theorem gY.ext{D D':Int->Prop}{R R':Int->Int->Prop}{k:Nat}(f:Int->Int)(E:List Int)(h:gY D' R' k)(he:qK D R)(hd:∀x,D' x->D (f x))(hr:∀x y,D' x->D' y->(R' x y↔R (f x) (f y)))(hEn:E.Nodup)(hE:∀e∈E,D e)(h1:∀e∈E,∀x,D' x->¬R (f x) e)(h2:∀a∈E,∀b∈E,R a b->a=b)(hs:∀z,D z->(∃x,D' x/\R z (f x))\/∃e∈E,R z e):gY D R (k+E.length):=by
  obtain⟨l,hl,rfl⟩:=h
  refine⟨l.map f++E,⟨List.nodup_append.2 ⟨dS hl.nd (λx hx y hy e=>hl.one x hx y hy ((hr x y (hl.dom x hx) (hl.dom y hy)).2 (by rw[e];exact he.rfl _ (hd y (hl.dom y hy))))),hEn,λa ha b hb e=>?_⟩,λx hx=>?_,λz hz=>?_,λa ha b hb hab=>?_⟩,by simp⟩
  · obtain⟨x,hx,rfl⟩:=List.mem_map.1 ha
    exact h1 b hb x (hl.dom x hx) (by rw[e];exact he.rfl b (hE b hb))
  · rcases List.mem_append.1 hx with h|h
    · obtain⟨y,hy,rfl⟩:=List.mem_map.1 h;exact hd y (hl.dom y hy)
    · exact hE x h
  · rcases hs z hz with⟨x,hx,hzx⟩|⟨e,he',hze⟩
    · obtain⟨y,hy,hxy⟩:=hl.all x hx
      exact⟨f y,by simp;exact .inl ⟨y,hy,rfl⟩,he.trans _ _ _ hz (hd x hx) (hd y (hl.dom y hy)) hzx ((hr x y hx (hl.dom y hy)).1 hxy)⟩
    · exact⟨e,by simp[he'],hze⟩
  · rcases List.mem_append.1 ha with h|h
    · obtain⟨x,hx,rfl⟩:=List.mem_map.1 h
      have hxd:=hl.dom x hx
      rcases List.mem_append.1 hb with h'|h'
      · obtain⟨y,hy,rfl⟩:=List.mem_map.1 h'
        rw[hl.one x hx y hy ((hr x y hxd (hl.dom y hy)).2 hab)]
      · exact absurd hab (h1 b h' x hxd)
    · rcases List.mem_append.1 hb with h'|h'
      · obtain⟨y,hy,rfl⟩:=List.mem_map.1 h'
        exact absurd (he.symm _ _ (hE a h) (hd y (hl.dom y hy)) hab) (h1 a h y (hl.dom y hy))
      · exact h2 a h b h' hab
section
variable{m K:Nat}{f s s':Int->Int}{E:List Int}
end
end TL
/-
  TlDual: faces as nodes: the dual, corners' faces, edges laid, taken and split, ways over faces, as plain functions.
  By an AI agent.
-/
set_option linter.all false
namespace TL
def xG(g:bG)(r:bY)(c:Int×Int):Prop:=(0<=c.1/\c.1<g.1)/\if((gI r c.1).length:Int)=0 then c.2= -1 else c.2∈gI r c.1
instance (g:bG)(r:bY)(c:Int×Int):Decidable (xG g r c):=by unfold xG;infer_instance
theorem tu{l:List Int}{x:Int}:decide (0<=dy l x)=decide (x∈l):=by
 unfold dy
 by_cases h:x∈l
 · rw[if_pos h,decide_eq_true h,decide_eq_true (by omega)]
 · rw[if_neg h,decide_eq_false h];rfl
end TL
namespace TL
end TL
namespace TL
end TL
namespace TL
section
variable{g:bG}{r:bY}{a b:Int×Int}
end
end TL
