/- Plain texts of this claim, part 3. By an AI agent. -/
import Derived.Test.YtmaclbnodbcniaaFmTlP2
import Derived.RowKit
/-
  TlFlv: what Why tells, as the walk goes through it.
  By an AI agent.
-/
set_option linter.all false
namespace TL
variable{T:gZ}{k:Nat}{W:List cb}{P F Nx:List Int}{fl ak:Int}{O:List (List Int)}{W0:List cb}
def ki(F:List Int)(k:Nat):List Int:=(dm k).filter λv=>decide (gI F v<dh)
theorem mU(h:gI F (k:Int)<1152921504606846976):ki F k++[(k:Int)]=ki F (k+1):=by
 unfold ki
 rw[kg,List.filter_append,List.filter_cons_of_pos (by simpa using h)];rfl
theorem nU(h:¬gI F (k:Int)<1152921504606846976):ki F k=ki F (k+1):=by
 unfold ki
 rw[kg,List.filter_append,List.filter_cons_of_neg (by simpa using h),List.filter_nil,List.append_nil]
theorem n4:(ki F k).length<=k:=by
 unfold ki
 refine Nat.le_trans (List.length_filter_le _ _) ?_
 simp[dm]
theorem kI(h:¬cB T):aS T=([],1):=by unfold aS;rw[if_neg h]
theorem iJ(hm:cB T)(h:¬dd T.2.2=0):aS T=([],0):=by unfold aS;rw[if_pos hm,if_neg h]
theorem lI(hm:cB T)(hR:dx T.1 T.2.1 T.2.2=(W,P,F,Nx,fl))(hWO:(W0,O)=lf T.1 T.2.1 T.2.2/\ak=dH T.2.2 T.1.toNat)(hb:dd T.2.2=0)(h:fl=ak):aS T=([],14):=by
 unfold aS;rw[if_pos hm,if_pos hb,if_pos (by rw[hR,<-hWO.2];exact h)]
theorem lY(hm:cB T)(hR:dx T.1 T.2.1 T.2.2=(W,P,F,Nx,fl))(hWO:(W0,O)=lf T.1 T.2.1 T.2.2/\ak=dH T.2.2 T.1.toNat)(hb:dd T.2.2=0)(h:¬fl=ak)(h0:(k:Int)<=T.1)(hk:¬(k:Int)<T.1):aS T=(ki F k,0):=by
 unfold aS;rw[if_pos hm,if_pos hb,if_neg (by rw[hR,<-hWO.2];exact h)]
 have e:k=T.1.toNat:=by omega
 unfold iF ki
 rw[hR,e]
end TL
/-
  TlFlu: what proves a flow, and what cuts one off, as the walks go through it.
  By an AI agent.
-/
set_option linter.all false
namespace TL
variable{T:gZ}{f:kQ}{k j:Nat}{ov o1 o2 l:List Int}{c d:Int}
def iy(T:gZ)(f:kQ)(i:Nat):Prop:=(0<=gI f.1 (i:Int)/\gI f.1 (i:Int)<=(gI T.2.1 (i:Int)).2.2.1)/\(gI f.1 (i:Int)<(gI T.2.1 (i:Int)).2.2.1->0<=(gI T.2.1 (i:Int)).2.2.2+gI f.2.1 (gI T.2.1 (i:Int)).1-gI f.2.1 (gI T.2.1 (i:Int)).2.1)/\(0<gI f.1 (i:Int)->(gI T.2.1 (i:Int)).2.2.2+gI f.2.1 (gI T.2.1 (i:Int)).1-gI f.2.1 (gI T.2.1 (i:Int)).2.1<=0)
instance {i:Nat}:Decidable (iy T f i):=by unfold iy;infer_instance
def s6(T:gZ)(f:kQ):Prop:=cB T/\f.1.length=T.2.1.length/\(f.2.1.length:Int)=T.1
instance:Decidable (s6 T f):=by unfold s6;infer_instance
def kv(p:Int):Prop:= -1099511627776<=p/\p<=1099511627776
instance {p:Int}:Decidable (kv p):=by unfold kv;infer_instance
def sJ(T:gZ)(f:kQ):Prop:=s6 T f/\(∀p∈f.2.1,kv p)/\(∀i:Nat,i<T.2.1.length->iy T f i)/\(∀v:Nat,v<T.2.2.length->j3 T.2.1 (λi=>gI f.1 (i:Int)) (v:Int)=gI T.2.2 (v:Int))/\sK T.2.1 f.1=f.2.2
instance:Decidable (sJ T f):=by unfold sJ;infer_instance
def et(T:gZ)(f:kQ):Bool:=decide (sJ T f)
theorem km(h:¬sJ T f):et T f=false:=decide_eq_false h
theorem fN(h:¬s6 T f):et T f=false:=km λq=>h q.1
theorem mf(h1:(k:Int)<(f.2.1.length:Int))(h:¬kv (gI f.2.1 (k:Int))):et T f=false:=km λq=>h (q.2.1 _ (bx (by omega) h1))
theorem eX(h1:(k:Int)<(T.2.1.length:Int))(h:¬iy T f k):et T f=false:=km λq=>h (q.2.2.1 k (by omega))
theorem lX{D:List Int}(h:∀x∈D.take k,kv x)(h1:(k:Int)<(D.length:Int))(hk:kv (gI D (k:Int))):∀x∈D.take (k+1),kv x:=by
 rw[cy h1]
 intro a ha
 rcases List.mem_append.1 ha with q|q
 · exact h a q
 · rw[List.mem_singleton.1 q];exact hk
theorem oK{D:List Int}{n:Int}(h:∀x∈D.take k,kv x)(hk:¬(k:Int)<n)(hn:(D.length:Int)=n)(v:Int)(v0:0<=v)(v1:v<n): -1099511627776<=gI D v/\gI D v<=1099511627776:=by
 rw[List.take_of_length_le (by omega)] at h
 exact h _ (bx v0 (by omega))
def sF(T:gZ)(f:kQ)(k:Nat)(v:Int):Int:=SP k λi=>(if(gI T.2.1 (i:Int)).1=v then gI f.1 (i:Int) else 0)-(if(gI T.2.1 (i:Int)).2.1=v then gI f.1 (i:Int) else 0)
structure jL(T:gZ)(f:kQ)(k:Nat)(ov:List Int)(c:Int):Prop where
 ln:(ov.length:Int)=T.1
 at_:∀v:Nat,(v:Int)<T.1->gI ov (v:Int)=sF T f k (v:Int)
 ok:∀i:Nat,i<k->iy T f i
 cs:c=SP k λi=>gI f.1 (i:Int)*(gI T.2.1 (i:Int)).2.2.2
theorem jL.start(hm:cB T):jL T f 0 (List.replicate T.1.toNat 0) 0:=by
 have:=hm.1.1
 refine⟨by rw[List.length_replicate];omega,λv hv=>?_,λi hi=>by omega,rfl⟩
 rw[dP (by omega) (by omega)];rfl
theorem sR(hm:cB T)(ha:iy T f k)(hk:(k:Int)<(T.2.1.length:Int)):(0<=gI f.1 (k:Int)/\gI f.1 (k:Int)<=1048576)/\0<=gI f.1 (k:Int)*(gI T.2.1 (k:Int)).2.2.2/\gI f.1 (k:Int)*(gI T.2.1 (k:Int)).2.2.2<=1099511627776:=by
 obtain⟨_,_,⟨h3,h4⟩,h5,h6⟩:=hm.2.2.2.1 _ (bx (xs:=T.2.1) (i:=(k:Int)) (by omega) hk)
 obtain⟨⟨h1,h2⟩,_⟩:=ha
 have h7:=Int.mul_nonneg h1 h5
 have h8:gI f.1 (k:Int)*(gI T.2.1 (k:Int)).2.2.2<=1048576*1048576:=Int.le_trans (Int.mul_le_mul_of_nonneg_right (show gI f.1 (k:Int)<=1048576 by omega) h5) (Int.mul_le_mul_of_nonneg_left h6 (by decide))
 exact⟨⟨h1,by omega⟩,h7,by omega⟩
theorem lF(hm:cB T)(h1:0<=gI f.1 (k:Int))(h2:gI f.1 (k:Int)<=(gI T.2.1 (k:Int)).2.2.1)(hk:(k:Int)<(T.2.1.length:Int)):(0<=gI f.1 (k:Int)/\gI f.1 (k:Int)<=1048576)/\0<=gI f.1 (k:Int)*(gI T.2.1 (k:Int)).2.2.2/\gI f.1 (k:Int)*(gI T.2.1 (k:Int)).2.2.2<=1099511627776:=by
 obtain⟨_,_,⟨h3,h4⟩,h5,h6⟩:=hm.2.2.2.1 _ (bx (xs:=T.2.1) (i:=(k:Int)) (by omega) hk)
 have h7:=Int.mul_nonneg h1 h5
 have h8:gI f.1 (k:Int)*(gI T.2.1 (k:Int)).2.2.2<=1048576*1048576:=Int.le_trans (Int.mul_le_mul_of_nonneg_right (show gI f.1 (k:Int)<=1048576 by omega) h5) (Int.mul_le_mul_of_nonneg_left h6 (by decide))
 exact⟨⟨h1,by omega⟩,h7,by omega⟩
theorem lJ(hm:cB T)(hl:(ov.length:Int)=T.1)(hb:∀v,0<=v->v<T.1-> -17179869184<=gI ov v/\gI ov v<=17179869184){x:Int}(x0:0<=x)(x1:x<=1048576)(hk:(k:Int)<(T.2.1.length:Int)): -17180917760<=gI (ov.set (gI T.2.1 (k:Int)).1.toNat (gI ov (gI T.2.1 (k:Int)).1+x)) (gI T.2.1 (k:Int)).2.1/\gI (ov.set (gI T.2.1 (k:Int)).1.toNat (gI ov (gI T.2.1 (k:Int)).1+x)) (gI T.2.1 (k:Int)).2.1<=17180917760:=by
 obtain⟨⟨a0,a1⟩,⟨b0,b1⟩,_⟩:=hm.2.2.2.1 _ (bx (xs:=T.2.1) (i:=(k:Int)) (by omega) hk)
 rw[cJ a0 (by omega) b0]
 have h1:=hb _ a0 a1
 have h2:=hb _ b0 b1
 split<;>omega
theorem oX(hm:cB T)(hok:∀i:Nat,i<k->iy T f i)(hk:(k:Int)<=(T.2.1.length:Int))(v:Int):∀n:Nat,n<=k-> -(n:Int)*1048576<=sF T f n v/\sF T f n v<=(n:Int)*1048576
 |0,_=>⟨Int.le_refl _,Int.le_refl _⟩
 |n+1,h=>by
   have h1:=oX hm hok hk v n (by omega)
   obtain⟨⟨h2,h3⟩,_⟩:=sR hm (hok n (by omega)) (by omega)
   show _<=sF T f n v+((if(gI T.2.1 (n:Int)).1=v then gI f.1 (n:Int) else 0)-(if(gI T.2.1 (n:Int)).2.1=v then gI f.1 (n:Int) else 0))/\sF T f n v+((if(gI T.2.1 (n:Int)).1=v then gI f.1 (n:Int) else 0)-(if(gI T.2.1 (n:Int)).2.1=v then gI f.1 (n:Int) else 0))<=_
   split<;>split<;>omega
theorem jL.bd(h:jL T f k ov c)(hm:cB T)(hk:(k:Int)<=(T.2.1.length:Int)):(∀v,0<=v->v<T.1-> -17179869184<=gI ov v/\gI ov v<=17179869184)/\0<=c/\c<=18014398509481984:=by
 have hl:=hm.2.1
 refine⟨λv v0 v1=>?_,?_⟩
 · have:=h.at_ v.toNat (by omega)
   rw[Int.toNat_of_nonneg v0] at this
   have:=oX hm h.ok hk v k (Nat.le_refl _)
   omega
 · have:∀n:Nat,n<=k->0<=SP n (λi=>gI f.1 (i:Int)*(gI T.2.1 (i:Int)).2.2.2)/\SP n (λi=>gI f.1 (i:Int)*(gI T.2.1 (i:Int)).2.2.2)<=(n:Int)*1099511627776:=by
     intro n
     induction n with
     |zero=>intro _;exact⟨Int.le_refl _,Int.le_refl _⟩
     |succ n ih=>
       intro hn
       have h1:=ih (by omega)
       obtain⟨_,h2,h3⟩:=sR hm (h.ok n (by omega)) (by omega)
       show 0<=SP n (λi=>gI f.1 (i:Int)*(gI T.2.1 (i:Int)).2.2.2)+gI f.1 (n:Int)*(gI T.2.1 (n:Int)).2.2.2/\SP n (λi=>gI f.1 (i:Int)*(gI T.2.1 (i:Int)).2.2.2)+gI f.1 (n:Int)*(gI T.2.1 (n:Int)).2.2.2<=_
       omega
   have:=this k (Nat.le_refl _)
   rw[h.cs]
   omega
theorem jL.next(h:jL T f k ov c)(hm:cB T)(hk:(k:Int)<(T.2.1.length:Int))(ha:iy T f k)(h1:o1=ov.set (gI T.2.1 (k:Int)).1.toNat (gI ov (gI T.2.1 (k:Int)).1+gI f.1 (k:Int)))(h2:o2=o1.set (gI T.2.1 (k:Int)).2.1.toNat (gI o1 (gI T.2.1 (k:Int)).2.1-gI f.1 (k:Int)))(hd:d=c+gI f.1 (k:Int)*(gI T.2.1 (k:Int)).2.2.2):jL T f (k+1) o2 d:=by
 obtain⟨⟨a0,a1⟩,⟨b0,b1⟩,_⟩:=hm.2.2.2.1 _ (bx (xs:=T.2.1) (i:=(k:Int)) (by omega) hk)
 have hl:=h.ln
 have hl1:(o1.length:Int)=T.1:=by rw[h1,List.length_set];exact hl
 refine⟨by rw[h2,List.length_set];exact hl1,λv hv=>?_,λi hi=>?_,by rw[hd,h.cs];rfl⟩
 · have hv0:=h.at_ v hv
   have g1:∀u,0<=u->gI o1 u=if u=(gI T.2.1 (k:Int)).1 then gI ov (gI T.2.1 (k:Int)).1+gI f.1 (k:Int) else gI ov u:=λu u0=>by rw[h1];exact cJ a0 (by omega) u0
   have g2:gI o2 (v:Int)=if(v:Int)=(gI T.2.1 (k:Int)).2.1 then gI o1 (gI T.2.1 (k:Int)).2.1-gI f.1 (k:Int) else gI o1 (v:Int):=by rw[h2];exact cJ b0 (by omega) (by omega)
   rw[g2,g1 _ b0,g1 (v:Int) (by omega)]
   show _=sF T f k (v:Int)+((if(gI T.2.1 (k:Int)).1=(v:Int) then gI f.1 (k:Int) else 0)-(if(gI T.2.1 (k:Int)).2.1=(v:Int) then gI f.1 (k:Int) else 0))
   rw[<-hv0]
   by_cases q1:(v:Int)=(gI T.2.1 (k:Int)).2.1
   · rw[if_pos q1,<-q1,if_pos rfl]
     by_cases q2:(v:Int)=(gI T.2.1 (k:Int)).1
     · rw[if_pos q2,<-q2,if_pos rfl];omega
     · rw[if_neg q2,if_neg (λe=>q2 e.symm)];omega
   · rw[if_neg q1,if_neg (λe:(gI T.2.1 (k:Int)).2.1=(v:Int)=>q1 e.symm)]
     by_cases q2:(v:Int)=(gI T.2.1 (k:Int)).1
     · rw[if_pos q2,<-q2,if_pos rfl];omega
     · rw[if_neg q2,if_neg (λe=>q2 e.symm)];omega
 · by_cases q:i=k
   · rw[q];exact ha
   · exact h.ok i (by omega)
theorem nf(h:jL T f k ov c)(hm:cB T)(hk:(k:Int)<=(T.2.1.length:Int))(hn:¬(k:Int)<(T.2.1.length:Int))(hj:(j:Int)<(T.2.2.length:Int))(hne:¬gI ov (j:Int)=gI T.2.2 (j:Int)):et T f=false:=by
 have e:k=T.2.1.length:=by omega
 subst e
 have hD:=hm.2.2.1
 refine km λq=>hne ?_
 rw[h.at_ j (by omega)]
 exact q.2.2.2.1 j (by omega)
theorem nY(h:jL T f k ov c)(hk:(k:Int)<=(T.2.1.length:Int))(hn:¬(k:Int)<(T.2.1.length:Int))(hh:s6 T f){i:Nat}(hp:∀x∈f.2.1.take i,kv x)(hi:¬(i:Int)<(f.2.1.length:Int))(hnd:∀v:Nat,v<j->gI ov (v:Int)=gI T.2.2 (v:Int))(hj:¬(j:Int)<(T.2.2.length:Int)):et T f=decide (c=f.2.2):=by
 have e:k=T.2.1.length:=by omega
 subst e
 have hD:=hh.1.2.2.1
 rw[List.take_of_length_le (by omega)] at hp
 unfold et
 rw[decide_eq_decide]
 constructor
 · intro q;rw[h.cs];exact q.2.2.2.2
 · intro q
   refine⟨hh,hp,h.ok,λv hv=>?_,by rw[<-q,h.cs];rfl⟩
   rw[<-hnd v (by omega),h.at_ v (by omega)];rfl
theorem sJ.of(hm:cB T)(hx:q6 T.1 T.2.1 T.2.2 f.1)(hp:tO T.2.1 f.1 f.2.1)(hl:(f.2.1.length:Int)=T.1)(hb:∀p∈f.2.1,0<=p/\p<=1099511627776)(hc:sK T.2.1 f.1=f.2.2):et T f=true:=by
 have hD:=hm.2.2.1
 exact decide_eq_true ⟨⟨hm,hx.ln,hl⟩,λp q=>by have:=hb p q;unfold kv;omega,λi hi=>⟨hx.cap i hi,hp i hi⟩,λv hv=>hx.net v (by omega) (by omega),hc⟩
theorem pk(hm:cB T)(hok:jS T.1 T.2.1 T.2.2):et T (ax T).1=true:=by
  unfold ax;rw[if_pos hm,if_pos hok]
  exact sJ.of hm (rA hm.my hok) (t6 hm.my) (ml hm.my) (sX hm.my) rfl
def kH(T:gZ)(l:List Int)(k:Nat):Int:=SP k λi=>gI T.2.2 (gI l (i:Int))
def gY(T:gZ)(l:List Int)(k:Nat):Int:=SP k λi=>if(gI T.2.1 (i:Int)).1∈l/\(gI T.2.1 (i:Int)).2.1∉l then(gI T.2.1 (i:Int)).2.2.1 else 0
def sH(N:Int)(l:List Int):Prop:=∀i:Nat,i<l.length->(0<=gI l (i:Int)/\gI l (i:Int)<N)/\(0<i->gI l ((i:Int)-1)<gI l (i:Int))
structure mc(T:gZ)(l:List Int)(k:Nat)(bs:List Bool)(c:Int):Prop where
 ln:(bs.length:Int)=T.1
 at_:∀v,0<=v->v<T.1->gI bs v=decide (v∈l.take k)
 cs:c=kH T l k
variable{bs:List Bool}{F:List Int}
theorem mc.start(hm:cB T):mc T l 0 (List.replicate T.1.toNat false) 0:=by
 have:=hm.1.1
 refine⟨by rw[List.length_replicate];omega,λv v0 v1=>?_,rfl⟩
 rw[dP (by omega) (by omega)];simp
theorem mc.next(h:mc T l k bs c)(hk:(k:Int)<(l.length:Int))(hr:sH T.1 l)(hd:d=c+gI T.2.2 (gI l (k:Int))):mc T l (k+1) (bs.set (gI l (k:Int)).toNat true) d:=by
 have hl:=h.ln
 obtain⟨⟨a0,a1⟩,_⟩:=hr k (by omega)
 refine⟨by rw[List.length_set];exact hl,λv v0 v1=>?_,by rw[hd,h.cs];rfl⟩
 rw[cJ a0 (by omega) v0,cy hk]
 by_cases q:v=gI l (k:Int)
 · rw[if_pos q];exact(decide_eq_true (List.mem_append.2 (.inr (by rw[q];exact List.mem_singleton.2 rfl)))).symm
 · rw[if_neg q,h.at_ v v0 v1,decide_eq_decide,List.mem_append,List.mem_singleton]
   exact⟨.inl,λz=>z.resolve_right q⟩
theorem ru(hm:cB T)(hr:sH T.1 l):∀n:Nat,(n:Int)<=(l.length:Int)-> -(n:Int)*1048576<=kH T l n/\kH T l n<=(n:Int)*1048576
 |0,_=>⟨Int.le_refl _,Int.le_refl _⟩
 |n+1,h=>by
   have h1:=ru hm hr n (by omega)
   obtain⟨⟨a0,a1⟩,_⟩:=hr n (by omega)
   have hD:=hm.2.2.1
   have h2:=hm.2.2.2.2 _ (bx (xs:=T.2.2) (i:=gI l (n:Int)) a0 (by omega))
   show _<=kH T l n+gI T.2.2 (gI l (n:Int))/\kH T l n+gI T.2.2 (gI l (n:Int))<=_
   omega
theorem rF(hm:cB T):∀n:Nat,(n:Int)<=(T.2.1.length:Int)->0<=gY T l n/\gY T l n<=(n:Int)*1048576
 |0,_=>⟨Int.le_refl _,Int.le_refl _⟩
 |n+1,h=>by
   have h1:=rF hm n (by omega)
   obtain⟨_,_,⟨h3,h4⟩,h5,h6⟩:=hm.2.2.2.1 _ (bx (xs:=T.2.1) (i:=(n:Int)) (by omega) (by omega))
   show 0<=gY T l n+(if(gI T.2.1 (n:Int)).1∈l/\(gI T.2.1 (n:Int)).2.1∉l then(gI T.2.1 (n:Int)).2.2.1 else 0)/\gY T l n+(if(gI T.2.1 (n:Int)).1∈l/\(gI T.2.1 (n:Int)).2.1∉l then(gI T.2.1 (n:Int)).2.2.1 else 0)<=_
   split<;>omega
theorem rO:iF T.1 T.2.1 T.2.2=ki (dx T.1 T.2.1 T.2.2).2.2.1 T.1.toNat:=rfl
theorem mc.bd(h:mc T l k bs c)(hm:cB T)(hr:sH T.1 l)(hk:(k:Int)<=(l.length:Int)): -(k:Int)*1048576<=c/\c<=(k:Int)*1048576:=by
 rw[h.cs];exact ru hm hr k hk
theorem sC(hm:cB T)(hd:d=gY T l j)(hj:(j:Int)<=(T.2.1.length:Int)):0<=d/\d<=(j:Int)*1048576:=by
 rw[hd];exact rF hm j hj
theorem oh(hm:cB T):((iF T.1 T.2.1 T.2.2).length:Int)<=T.1:=by
 have h:=n4 (F:=(dx T.1 T.2.1 T.2.2).2.2.1) (k:=T.1.toNat)
 rw[<-rO] at h
 have:=hm.1.1
 omega
theorem mc.at_all(h:mc T l k bs c)(hk:¬(k:Int)<(l.length:Int)){v:Int}(v0:0<=v)(v1:v<T.1):gI bs v=decide (v∈l):=by
 rw[h.at_ v v0 v1,List.take_of_length_le (by omega)]
theorem sr(h:mc T l k bs c)(hk:¬(k:Int)<(l.length:Int))(hm:cB T)(hj:(j:Int)<(T.2.1.length:Int))(hd:d=gY T l j)(h1:gI bs (gI T.2.1 (j:Int)).1=true)(h2:gI bs (gI T.2.1 (j:Int)).2.1=false):d+(gI T.2.1 (j:Int)).2.2.1=gY T l (j+1):=by
 obtain⟨⟨a0,a1⟩,⟨b0,b1⟩,_⟩:=hm.2.2.2.1 _ (bx (xs:=T.2.1) (i:=(j:Int)) (by omega) hj)
 rw[h.at_all hk a0 a1] at h1
 rw[h.at_all hk b0 b1] at h2
 show _=gY T l j+(if(gI T.2.1 (j:Int)).1∈l/\(gI T.2.1 (j:Int)).2.1∉l then(gI T.2.1 (j:Int)).2.2.1 else 0)
 rw[if_pos ⟨of_decide_eq_true h1,of_decide_eq_false h2⟩,hd]
theorem rH(h:mc T l k bs c)(hk:¬(k:Int)<(l.length:Int))(hm:cB T)(hj:(j:Int)<(T.2.1.length:Int))(hd:d=gY T l j)(h1:gI bs (gI T.2.1 (j:Int)).1=false\/gI bs (gI T.2.1 (j:Int)).2.1=true):d=gY T l (j+1):=by
 obtain⟨⟨a0,a1⟩,⟨b0,b1⟩,_⟩:=hm.2.2.2.1 _ (bx (xs:=T.2.1) (i:=(j:Int)) (by omega) hj)
 rw[h.at_all hk a0 a1,h.at_all hk b0 b1] at h1
 show _=gY T l j+(if(gI T.2.1 (j:Int)).1∈l/\(gI T.2.1 (j:Int)).2.1∉l then(gI T.2.1 (j:Int)).2.2.1 else 0)
 rw[if_neg,hd]
 · omega
 · rintro⟨q1,q2⟩
   rcases h1 with z|z
   · exact of_decide_eq_false z q1
   · exact q2 (of_decide_eq_true z)
theorem mb(n:Nat):(dm n).Pairwise (· < ·):=by
 unfold dm
 rw[List.pairwise_map]
 exact(List.pairwise_lt_range).imp λh=>by omega
theorem nN{q t:List Int}{a:Nat}(h:(a:Int)<q.length):gI (q++t) (a:Int)=gI q (a:Int):=by
 have h:a<q.length:=by omega
 simp[gI,List.getElem?_append_left h]
theorem ou(q:List Int)(x:Int){i:Int}(h:i=q.length):gI (q++[x]) i=x:=by subst h;simp[gI]
theorem pB{q:List Int}{i:Nat}(h:i<q.length):q.getD i default=q[i]:=by simp[h]
theorem nD:(ki F k).Pairwise (· < ·):=List.Pairwise.filter _ (mb k)
theorem re(T:gZ):kH T (ki F k) (ki F k).length=SP k λv=>if gI F (v:Int)<dh then gI T.2.2 (v:Int) else 0:=by
 induction k with
 |zero=>rfl
 |succ k ih=>
   show _=SP k (λv=>if gI F (v:Int)<dh then gI T.2.2 (v:Int) else 0)+(if gI F (k:Int)<dh then gI T.2.2 (k:Int) else 0)
   rw[<-ih]
   by_cases q:gI F (k:Int)<dh
   · rw[if_pos q,<-mU q,List.length_append]
     show SP (ki F k).length _+gI T.2.2 (gI (ki F k++[(k:Int)]) ((ki F k).length:Int))=_
     rw[ou _ _ rfl]
     exact congrArg (· +_) (bJ _ λi hi=>by rw[nN (by omega)])
   · rw[if_neg q,<-nU q];omega
theorem sW(hm:cB T):sH T.1 (iF T.1 T.2.1 T.2.2):=λi hi=>by
 have h1:=(kO hm.my).1 (bx (xs:=iF T.1 T.2.1 T.2.2) (i:=(i:Int)) (by omega) (by omega))
 refine⟨h1.1,λh0=>?_⟩
 have hs:(iF T.1 T.2.1 T.2.2).Pairwise (· < ·):=nD
 have:=List.pairwise_iff_getElem.1 hs (i-1) i (by omega) hi (by omega)
 have e1:gI (iF T.1 T.2.1 T.2.2) ((i:Int)-1)=(iF T.1 T.2.1 T.2.2)[i-1]:=by
   rw[show((i:Int)-1)=((i-1:Nat):Int) by omega,oS,pB (by omega)]
 rw[e1,oS,pB hi];exact this
theorem s8(hm:cB T)(hb:dd T.2.2=0)(hno:¬jS T.1 T.2.1 T.2.2):gY T (iF T.1 T.2.1 T.2.2) T.2.1.length<kH T (iF T.1 T.2.1 T.2.2) (iF T.1 T.2.1 T.2.2).length:=by
  have h:=oP hm.my hb hno
  have h1:gY T (iF T.1 T.2.1 T.2.2) T.2.1.length=SP T.2.1.length (λi=>jy (nM T.1 T.2.1 T.2.2) (gI T.2.1 (i:Int))):=by
    refine bJ _ λi hi=>?_
    obtain⟨ha,hb,_⟩:=hm.2.2.2.1 _ (bx (xs:=T.2.1) (i:=(i:Int)) (by omega) (by omega))
    have e1:=kO (v:=(gI T.2.1 (i:Int)).1) hm.my
    have e2:=kO (v:=(gI T.2.1 (i:Int)).2.1) hm.my
    have e3:nM T.1 T.2.1 T.2.2 (gI T.2.1 (i:Int)).2.1=0\/nM T.1 T.2.1 T.2.2 (gI T.2.1 (i:Int)).2.1=1:=by unfold nM;split<;>simp
    unfold jy
    by_cases q:(gI T.2.1 (i:Int)).1∈iF T.1 T.2.1 T.2.2/\(gI T.2.1 (i:Int)).2.1∉iF T.1 T.2.1 T.2.2
    · rw[if_pos q,if_pos ⟨(e1.1 q.1).2,e3.resolve_right λz=>q.2 (e2.2 ⟨hb,z⟩)⟩]
    · rw[if_neg q,if_neg]
      rintro⟨z1,z2⟩
      exact q ⟨e1.2 ⟨ha,z1⟩,λz=>by have:=(e2.1 z).2;omega⟩
  have h2:kH T (iF T.1 T.2.1 T.2.2) (iF T.1 T.2.1 T.2.2).length=SP T.1.toNat λv=>if nM T.1 T.2.1 T.2.2 (v:Int)=1 then gI T.2.2 (v:Int) else 0:=by
    rw[rO,re]
    have hn:=hm.1.1
    refine bJ _ λv hv=>?_
    have e1:=kO (v:=(v:Int)) hm.my
    have e4:(v:Int)∈iF T.1 T.2.1 T.2.2↔gI (dx T.1 T.2.1 T.2.2).2.2.1 (v:Int)<dh:=by
      unfold iF
      rw[List.mem_filter,fv,decide_eq_true_eq]
      exact⟨λz=>z.2,λz=>⟨⟨by omega,by omega⟩,z⟩⟩
    by_cases q:gI (dx T.1 T.2.1 T.2.2).2.2.1 (v:Int)<dh
    · rw[if_pos q,if_pos (e1.1 (e4.2 q)).2]
    · rw[if_neg q,if_neg λz=>q (e4.1 (e1.2 ⟨⟨by omega,by omega⟩,z⟩))]
  rw[h1,h2];exact h
theorem mp:cB ct/\jS ct.1 ct.2.1 ct.2.2:=by decide+kernel
theorem sy:bQ ct=true/\((ax ct).1.1.length:Int)=3/\(ax ct).1.2.2=9/\(ax ct).2=0/\et ct (ax ct).1=true/\(0<((aS tp).1.length:Int))/\(aS tp).2=0:=by
 refine⟨dI mp.1,?_,?_,?_,pk mp.1 mp.2,?_,?_⟩
 · obtain⟨p,h⟩:=kx;rw[h];rfl
 · obtain⟨p,h⟩:=kx;rw[h]
 · obtain⟨p,h⟩:=kx;rw[h]
 · rcases na with h|h<;>rw[h]<;>decide
 · rcases na with h|h<;>rw[h]
end TL
/-
  TlFls: flows that are handed in, tasks with other costs, in another order, with more room.
  By an AI agent.
-/
set_option linter.all false
namespace TL
variable{T U:gZ}{f:kQ}{k j n a:Nat}{ov o1 o2 l on:List Int}{c d q:Int}
theorem kj(hm:cB T)(hok:jS T.1 T.2.1 T.2.2):ax T=((ng T.1 T.2.1 T.2.2,pY T.1 T.2.1 T.2.2,sK T.2.1 (ng T.1 T.2.1 T.2.2)),0):=by unfold ax;rw[if_pos hm,if_pos hok]
theorem oY(hm:cB T):((ax T).2=0↔∃x,q6 T.1 T.2.1 T.2.2 x)/\((ax T).2=0\/(ax T).2=20):=by
 by_cases h:jS T.1 T.2.1 T.2.2
 · rw[kj hm h];exact⟨⟨λ_=>(m9 hm.my).1 h,λ_=>rfl⟩,.inl rfl⟩
 · rw[eR hm h];exact⟨⟨λz=>absurd z (by decide),λz=>absurd ((m9 hm.my).2 z) h⟩,.inr rfl⟩
end TL
/-
  TlOrb: going round by a permutation; two places changed; what that does to the numbers of rounds.
  By an AI agent.
-/
set_option linter.all false
namespace TL
def tr(a b x:Int):Int:=if x=a then b else if x=b then a else x
end TL
/-
  TlKru: edges of the least weight that join all that is joined (package path's Least): Kruskal's way by labels, and a forest of parents that agrees with the labels.
  By an AI agent.
-/
set_option linter.all false
namespace TL
def tf(ws:List Nat)(i:Int):Pl:=(zf (gI ws i),i)
def tS(ws:List Nat)(i k:Int):Prop:=t9 (tf ws i) (tf ws k)
instance (ws:List Nat)(i k:Int):Decidable (tS ws i k):=by unfold tS;infer_instance
-- by labels
variable{n:Int}{of0 of c:List Int}{rho:Int->Nat}{v v0:Int}
end TL
namespace TL
variable{g:eq}{ws:List Nat}{of l:List Int}{k:Nat}
end TL
namespace TL
end TL
namespace TL
end TL
/-
  TlPathA: bounds of what package path tells: ways and sets of edges are short, half-edges are numbers of a machine.
  By an AI agent.
-/
set_option linter.all false
namespace TL
variable{g:eq}{ws:List Nat}{s t:Int}
end TL
namespace TL
theorem cA.one{n:Int}{l:List Int}(h0:0<n)(h1:0+n<=1048576)(hl:(l.length:Int)<=n):cA [l] (0+n):=by
 have:=cA.nil.add (l:=l) h0 h1 hl
 exact this
end TL
/-
  TlFlm: FlowMin's law, case by case.
  By an AI agent.
-/
set_option linter.all false
namespace TL
variable{T:gZ}
theorem pg(h:¬cB T):((ax T).2=1/\(aS T).2=1)/\((ax T).1.1.length:Int)=0/\((ax T).1.2.1.length:Int)=0/\((aS T).1.length:Int)=0/\(ax T).1.2.2=0:=by
 rw[kB h,kI h];exact⟨⟨rfl,rfl⟩,rfl,rfl,rfl,rfl⟩
theorem pa(hm:cB T)(h:jS T.1 T.2.1 T.2.2):aS T=([],14):=by
 unfold aS;rw[if_pos hm,if_pos h.1,if_pos h.2]
theorem td(hm:cB T)(h:(ax T).2=0):et T (ax T).1=true/\(aS T).2=14/\((aS T).1.length:Int)=0:=by
 have hok:jS T.1 T.2.1 T.2.2:=(m9 hm.my).2 ((oY hm).1.1 h)
 rw[pa hm hok]
 exact⟨pk hm hok,rfl,rfl⟩
theorem nT(hm:cB T)(h:¬(ax T).2=0):(ax T).2=20/\((ax T).1.1.length:Int)=0/\((ax T).1.2.1.length:Int)=0/\(ax T).1.2.2=0:=by
 have hno:¬jS T.1 T.2.1 T.2.2:=λq=>h (by rw[kj hm q])
 rw[eR hm hno]
 exact⟨rfl,rfl,rfl,rfl⟩
theorem qt(h:¬(ax T).2=0):((ax T).1.1.length:Int)=0/\((ax T).1.2.1.length:Int)=0/\(ax T).1.2.2=0:=by
 by_cases hm:cB T
 · exact(nT hm h).2
 · obtain⟨_,a,b,_,c⟩:=pg hm;exact⟨a,b,c⟩
theorem rQ(hm:cB T)(hs:¬dd T.2.2=0):(aS T).2=0/\((aS T).1.length:Int)=0:=by
 rw[iJ hm hs];exact⟨rfl,rfl⟩
theorem rT(hm:cB T)(h:¬(ax T).2=0)(hs:dd T.2.2=0):(aS T).2=0/\sH T.1 (aS T).1/\((aS T).1.length:Int)<=T.1/\gY T (aS T).1 T.2.1.length<kH T (aS T).1 (aS T).1.length:=by
 have hno:¬jS T.1 T.2.1 T.2.2:=λq=>h (by rw[kj hm q])
 have e:aS T=(iF T.1 T.2.1 T.2.2,0):=by
   unfold aS;rw[if_pos hm,if_pos hs,if_neg λq=>hno ⟨hs,q⟩]
 rw[e]
 exact⟨rfl,sW hm,oh hm,s8 hm hs hno⟩
theorem sc(hl:T.2.1.length<=200)(hN:T.1<=60\/¬cB T):((ax T).1.1.length:Int)<=200/\((ax T).1.2.1.length:Int)<=60/\((aS T).1.length:Int)<=60:=by
 by_cases hm:cB T
 · have hN:=hN.resolve_right λh=>h hm
   have h0:=hm.1.1
   by_cases hok:jS T.1 T.2.1 T.2.2
   · rw[kj hm hok,pa hm hok]
     have h1:=ml hm.my
     refine⟨?_,?_,by decide⟩
     · show((ng T.1 T.2.1 T.2.2).length:Int)<=200;rw[ku];omega
     · show((pY T.1 T.2.1 T.2.2).length:Int)<=60;omega
   · rw[eR hm hok]
     refine⟨by decide,by show(0:Int)<=60;decide,?_⟩
     by_cases hs:dd T.2.2=0
     · have e:aS T=(iF T.1 T.2.1 T.2.2,0):=by
         unfold aS;rw[if_pos hm,if_pos hs,if_neg λq=>hok ⟨hs,q⟩]
       rw[e];have:=oh hm;show((iF T.1 T.2.1 T.2.2).length:Int)<=60;omega
     · rw[iJ hm hs];show(0:Int)<=60;decide
 · obtain⟨_,a,b,c,_⟩:=pg hm
   omega
end TL
/-
  TlNil: a list that is none, compared.
  By an AI agent.
-/
set_option linter.all false
namespace TL
open Go
section
variable{P:Program}{w:World}{t t':TypeId}{f:Fr}{x y:Operand}{dst:Option Tmp}{ty:TypeId}{pos:String}{after:Array Edge}{g:Option (Nat×Bool)}
end
theorem pF{α:Type}[Rp α]{γ:aG}{J S:cv->Prop}{w:World}{v:Value}{xs:List α}{hi:Nat}(h:Ow γ J S w v xs)(h2:hi<=xs.length):Ow γ J S w (bu v (Rp.sz α) 0 hi) (xs.take hi):=by
  rcases h with⟨rfl,rfl⟩|⟨b,cap,c,e,rfl,hc,hm,hJ,hb,hcs,hx⟩
  · simp only[List.length_nil] at h2
    have:hi=0:=by omega
    subst this
    exact .inl ⟨rfl,rfl⟩
  · have hl:(xs.take hi).length=hi:=by simp;omega
    refine .inr ⟨b,cap,c,e,?_,⟨by omega,by omega⟩,hm,hJ,hb,hcs,λi x hi'=>hx i x ?_⟩
    · rw[jV]
      simp only[hl]
    · rw[List.getElem?_take] at hi'
      split at hi'
      · exact hi'
      · cases hi'
end TL
/-
  TlConv: whole numbers turned to another kind, a string's byte, functions that bear values.
  By an AI agent.
-/
set_option linter.all false
namespace TL
open Go
section
variable{P:Program}{w:World}{f:Fr}{dst:Option Tmp}{ty:TypeId}{pos:String}{after:Array Edge}{g:Option (Nat×Bool)}{x y:Operand}{s d t:TypeId}{m:Int}{k k0:IntKind}
end
end TL
namespace TL
open Go
section
variable{P:Program}{w:World}{f:Fr}{dst:Option Tmp}{ty:TypeId}{pos:String}{after:Array Edge}{g:Option (Nat×Bool)}{x y:Operand}{t t':TypeId}
theorem l3{fs:Array Field}{xs ys:List Value}{bs:List Bool}{q:Bool}(ht:P.underlying t=some (.struct fs))(hp:P.stoodInHeld t=false)(hg:P.eqGuardType P.depth t=false)(hx:ev f x= .agg xs.toArray)(hy:ev f y= .agg ys.toArray)(h:EqF P xs.toArray ys.toArray fs.toList bs)(hq:bs.all id=q):
   (execOp (ev f) ⟨dst,.binOp .neq t x y t',ty,pos,after,g⟩).run P w= .ok (.value (.bool !q)) w:=by
 have e1:P.fieldsOf t=fs:=by simp[Program.fieldsOf,ht]
 have hr:(Op.equal t (.agg xs.toArray) (.agg ys.toArray)).run P w= .ok q w:=by
   have:=run_equalIn_struct (P:=P) w 9999 t xs.toArray ys.toArray (by rw[e1];exact ht) hp
   rw[e1,kR h 9998,hq] at this
   exact this
 exact rK .neq hx hy (by simp[eqGuard,hg]) (by simp[binOp,hr])
end
end TL
namespace TL
open Go
section
variable{P:Program}{w:World}{f:Fr}{dst:Option Tmp}{ty:TypeId}{pos:String}{after:Array Edge}{g:Option (Nat×Bool)}{x y:Operand}{t t':TypeId}
end
end TL
/-
  TlBlk: blocks by a walk depth first with a stack of edges, as the program does it, and what its walk may rely on.
  By an AI agent.
-/
set_option linter.all false
namespace TL
structure Bs where
 place:List Int
 low:List Int
 by_:List Int
 next:List Int
 found:Int
 edges:List Int
 laid:List Bool
 block:List Int
 count:Int
variable{g:eq}{s:Bs}{path:List Int}{e v w u hh:Int}
end TL
/-
  TlBlk4: the walk that finds blocks, one way of a step at a time; the loop that looks for an edge on the stack.
  By an AI agent.
-/
set_option linter.all false
namespace TL
variable{g:eq}{R:Bs}{pl lo by_ nx:List Int}{fo:Int}{ed:List Int}{la:List Bool}{bl:List Int}{co:Int}{path:List Int}{u hh:Int}
abbrev bs(pl lo by_ nx:List Int)(fo:Int)(ed:List Int)(la:List Bool)(bl:List Int)(co:Int):Bs:=⟨pl,lo,by_,nx,fo,ed,la,bl,co⟩
end TL
namespace TL
open Go
theorem pv(n:Nat):n^^^1=if n%2=0 then n+1 else n-1:=by
 have h1:(n^^^1)%2=(n+1)%2:=by
   have:= @Nat.xor_mod_two_eq_one n 1
   by_cases c:(n^^^1)%2=1
   · have:=this.1 c;omega
   · have h3:¬¬(n%2=1↔1%2=1):=λk=>c (this.2 k)
     have h4:=Decidable.not_not.1 h3
     have:n%2=1:=h4.2 rfl
     omega
 have h2:(n^^^1)/2=n/2:=by rw[Nat.xor_div_two];simp
 split<;>omega
theorem k9{m:Int}(t:TypeId)(h0:0<=m)(h1:m<4611686018427387904):binOp .xor t (.int .i64 m) (.int .i64 1)=pure (.int .i64 (cj m)):=by
 obtain⟨n,rfl⟩:=Int.eq_ofNat_of_zero_le h0
 have hn:n<4611686018427387904:=by omega
 have e:(BitVec.ofInt 64 (n:Int)^^^BitVec.ofInt 64 1).toNat=n^^^1:=by
   rw[BitVec.toNat_xor]
   have e1:(BitVec.ofInt 64 (n:Int)).toNat=n:=by
     rw[BitVec.toNat_ofInt];omega
   have e2:(BitVec.ofInt 64 (1:Int)).toNat=1:=by decide
   rw[e1,e2]
 have h3:(((n^^^1:Nat)):Int)=cj (n:Int):=by
   rw[pv];unfold cj
   split<;>split<;>omega
 show(pure (Value.int .i64 (IntKind.i64.wrap ((BitVec.ofInt 64 (n:Int)^^^BitVec.ofInt 64 1).toNat:Int))):Sem Value)=_
 rw[e,h3,fP]
 unfold cj;unfold rD;split<;>omega
end TL
namespace TL
variable{g:eq}{s:Bs}{path:List Int}
end TL
namespace TL
variable{g:eq}{of o:List Int}{c:List Bool}{k:Nat}
end TL
namespace TL
variable{g:eq}
end TL
/-
  TlIface: a method of an interface value that holds a pointer; values in an interface.
  By an AI agent.
-/
set_option linter.all false
namespace TL
open Go
def gH(P:Program)(T:TypeId)(name:String):Option (Nat×Bool×TypeId):=
  match P.info? T,P.underlying T with
  |some i,some (.pointer e)=>
    match i.methods.find? (·.name==name) with
    |some m=>if m.path.isEmpty then m.func.map (λq=>(q.1,q.2,e)) else none
    |none=>none
  |_,_=>none
theorem pe{P:Program}{T e:TypeId}{name:String}{f:Nat}{b:Bool}(h:gH P T name=some (f,b,e)):∃i m,P.info? T=some i/\P.underlying T=some (.pointer e)/\i.methods.find? (·.name==name)=some m/\m.path= #[]/\m.func=some (f,b):=by
 unfold gH at h
 split at h
 · rename_i i e' hi hu
   split at h
   · rename_i m hm
     split at h
     · rename_i hp
       cases hf:m.func with
       |none=>rw[hf] at h;cases h
       |some q=>
         rw[hf] at h
         simp only[Option.map_some,Option.some.injEq,Prod.mk.injEq] at h
         obtain⟨h1,h2,h3⟩:=h
         refine⟨i,m,hi,h3▸hu,hm,by simpa using hp,?_⟩
         rw[hf,<-h1,<-h2]
     · cases h
   · cases h
 · cases h
section
variable{P:Program}{f:Fr}{w:World}{dst:Option Tmp}{ty:TypeId}{pos:String}{after:Array Edge}{g:Option (Nat×Bool)}{T e:TypeId}{name:String}{fid n:Nat}{a:Addr}{v u:Value}
theorem lA{i:TypeInfo}{t:TypeId}(h:P.info? t=some i):(typeInfo t).run P w= .ok i w:=by simp[typeInfo,h]
theorem ea(h:gH P T name=some (fid,true,e)):(method (n+1) T v name).run P w= .ok (fid,v) w:=by
 obtain⟨i,m,hi,hu,hm,hp,hf⟩:=pe h
 simp[method,lA hi,hm,hp,hf,follow,receiverAt,bn hu,Place.get]
theorem qg(t:TypeId)(nm:String):(Builtin.ssaWrapNilChk_ #[t] t #[.pointer (some a),strVal "",strVal nm]).run P w= .ok (.pointer (some a)) w:=rfl
theorem bk(h:gH P T name=some (fid,false,e))(hl:(loadVar e a).run P w= .ok u w):(method (n+1) T (.pointer (some a)) name).run P w= .ok (fid,u) w:=by
 obtain⟨i,m,hi,hu,hm,hp,hf⟩:=pe h
 simp[method,lA hi,hm,hp,hf,follow,receiverAt,bn hu,Place.get,qg,asAddr,hl]
theorem oa:∃n,P.types.size+Made.depth=n+1:=by
 have h:0<Made.depth:=by decide
 exact⟨P.types.size+Made.depth-1,by omega⟩
variable{x:Operand}{args:List Operand}{at_:Array TypeId}{vals:List Value}{fn:Func}
theorem bK(hx:ev f x= .iface T v)(hm:∀n,(method (n+1) T v name).run P w= .ok (fid,u) w)(hf:P.funcs[fid]? =some fn)(hb:fn.body.isNone=false)(hn:(fn.name== "runtime.NumGoroutine")=false)(ha:args.map (ev f)=vals):
   (execOp (ev f) ⟨dst,.call {callee:=.invoke x name,args:=args.toArray,argTypes:=at_},ty,pos,after,g⟩).run P w= .ok (.enter fid (u::vals).toArray) w:=by
 have ha:args.toArray.map (ev f)=vals.toArray:=by rw[<-ha];simp
 obtain⟨n,hn2⟩:=oa (P:=P)
 have hm':=hm n
 rw[<-hn2] at hm'
 have h1:fn.name≠ "runtime.NumGoroutine" :=by simpa using hn
 have h2:fn.body≠none:=λe=>by rw[e] at hb;cases hb
 simp[execOp,resolve,invoke,callMethod,callFunc,hx,ha,hm',hf,h1,h2]
theorem fD{t:TypeId}{us:TypeDesc}(hs:P.underlying t=some us)(hi:(match us with| .interface _=>true|_=>false)=false)(hx:ev f x=v):(execOp (ev f) ⟨dst,.makeInterface t x,ty,pos,after,g⟩).run P w= .ok (.value (.iface t v)) w:=by
 subst hx
 cases us<;>first|(cases hi;done)|simp[execOp,Instr.makeInterface,bn hs]
theorem gU{s t:TypeId}{us:TypeDesc}(hs:P.underlying t=some us)(hi:(match us with| .interface _=>true|_=>false)=false)(hx:ev f x= .iface t v):(execOp (ev f) ⟨dst,.typeAssert x s t false,ty,pos,after,g⟩).run P w= .ok (.value v) w:=by
 cases us<;>first|(cases hi;done)|simp[execOp,Instr.typeAssert,bn hs,hx]
end
end TL
/-
  TlDual: faces as nodes: the dual, corners' faces, edges laid, taken and split, ways over faces, as plain functions.
  By an AI agent.
-/
set_option linter.all false
namespace TL
def rG(g:eq)(r:eZ)(c:Int×Int):Prop:=(0<=c.1/\c.1<g.1)/\if((gI r c.1).length:Int)=0 then c.2= -1 else c.2∈gI r c.1
instance (g:eq)(r:eZ)(c:Int×Int):Decidable (rG g r c):=by unfold rG;infer_instance
end TL
namespace TL
end TL
namespace TL
end TL
namespace TL
section
variable{g:eq}{r:eZ}{a b:Int×Int}
end
end TL
/-
  TlOnes: ways of weights 1, 0 and of none: as a walk breadth first goes.
  By an AI agent.
-/
set_option linter.all false
namespace TL
variable{g g1 g2:eq}{ws w1 w2:List Nat}{s v:Int}{f1 f2 far:List Nat}{b1 b2 by_:List Int}{r1 r2 rk:Int->Nat}{C:Nat}
end TL
namespace TL
variable{g:eq}{s:Int}
end TL
namespace TL
open Go
theorem pN{P:Program}{f:Fr}{w:World}{dst:Option Tmp}{ty:TypeId}{pos:String}{after:Array Edge}{g:Option (Nat×Bool)}{t t':TypeId}{x y:Operand}{op:BinOp}{k:IntKind}{m n r:Int}(hx:ev f x= .int k m)(hy:ev f y= .int k n)(h:binOp op t (.int k m) (.int k n)=pure (.int k r)):(execOp (ev f) ⟨dst,.binOp op t x y t',ty,pos,after,g⟩).run P w= .ok (.value (.int k r)) w:=
 cu op x y hx hy (by rw[h];rfl)
end TL
namespace TL
variable{g:eq}{s v:Int}{on ze so:List Nat}{op:List Int}{i:Nat}
end TL
/-
  TlPerm: several new objects that are made in whatever order is drawn: all orders end alike.
  By an AI agent.
-/
set_option linter.all false
namespace TL
open Go
def jJ(f:Fr)(val:Nat->Value)(S:List Nat):Fr:=λt=>bif S.contains t then val t else f t
theorem nz{f:Fr}{val:Nat->Value}{S S':List Nat}(h:∀t,t∈S↔t∈S'):jJ f val S=jJ f val S':=by
 funext t
 unfold jJ
 have:S.contains t=S'.contains t:=by
   rw[Bool.eq_iff_iff]
   simp only[List.contains_iff_mem];exact h t
 rw[this]
theorem qc{f:Fr}{val:Nat->Value}{S:List Nat}{d:Nat}{v:Value}(hd:d∉S):ep (jJ f val S) (some d) v=jJ f (λt=>if t=d then v else val t) (d::S):=by
 funext t
 unfold ep jJ
 simp only
 by_cases c:t=d
 · subst c
   have e1:(t::S).contains t=true:=by simp
   rw[e1,Nat.beq_refl];simp
 · have e1:Nat.beq t d=false:=by
     cases h:Nat.beq t d with
     |false=>rfl
     |true=>exact absurd (Nat.eq_of_beq_eq_true h) c
   have e2:(d::S).contains t=S.contains t:=by
     rw[Bool.eq_iff_iff]
     simp[c]
   rw[e1,e2,if_neg c];rfl
def lE{α:Type}:List α->List (List α)
 |[]=>[[]]
 |a::l=>lE l++(lE l).map (a:: ·)
theorem ig{α:Type}(p:α->Bool):∀l:List α,l.filter p∈lE l
 |[]=>List.mem_singleton.2 rfl
 |a::l=>by
   have ih:=ig p l
   unfold lE
   rw[List.filter_cons]
   split
   · exact List.mem_append_right _ (List.mem_map.2 ⟨_,ih,rfl⟩)
   · exact List.mem_append_left _ ih
theorem gi:∀(D A:List (Nat×Nat)),D.Nodup->(∀p∈D,p∈A)->D.length<=A.length
 |[],A,_,_=>Nat.zero_le _
 |a::D,A,hn,hs=>by
   have hn':=List.nodup_cons.1 hn
   have ha:=hs a (List.mem_cons_self ..)
   have h3:=gi D (A.erase a) hn'.2 (λx hx=>by
     have hne:x≠a:=λe=>hn'.1 (by rw[<-e];exact hx)
     exact(List.mem_erase_of_ne hne).2 (hs x (List.mem_cons_of_mem _ hx)))
   have h4:=List.length_erase_of_mem ha
   have h5:=List.length_pos_of_mem ha
   rw[List.length_cons];omega
theorem jr:∀{A:List (Nat×Nat)},(A.map Prod.fst).Nodup->A.Nodup
 |[],_=>List.nodup_nil
 |a::A,h=>by
   rw[List.map_cons,List.nodup_cons] at h
   exact List.nodup_cons.2 ⟨λk=>h.1 (List.mem_map.2 ⟨a,k,rfl⟩),jr h.2⟩
theorem jI{A:List (Nat×Nat)}(h:(A.map Prod.snd).Nodup){p q:Nat×Nat}(hp:p∈A)(hq:q∈A)(e:p.2=q.2):p=q:=by
 induction A with
 |nil=>exact absurd hp List.not_mem_nil
 |cons a A ih=>
   rw[List.map_cons,List.nodup_cons] at h
   rcases List.mem_cons.1 hp with e1|e1
   · rcases List.mem_cons.1 hq with e2|e2
     · rw[e1,e2]
     · exact absurd (List.mem_map.2 ⟨q,e2,by rw[<-e,e1]⟩) h.1
   · rcases List.mem_cons.1 hq with e2|e2
     · exact absurd (List.mem_map.2 ⟨p,e1,by rw[e,e2]⟩) h.1
     · exact ih h.2 e1 e2
section
variable{P:Program}{n:Nat}{l:List Oper}{qs:List Nat}{K:Fr->World->Prop}{f:Fr}{w:World}{done:List Nat}{fuel:Nat}
theorem js{n:Nat}{d d':List Nat}(h:∀t,t∈d↔t∈d'):bO n d=bO n d':=by
 unfold bO
 congr 1
 apply List.map_congr_left
 intro t _
 rw[decide_eq_decide];exact h t
theorem nF{done':List Nat}(h:∀t,t∈done↔t∈done')(hw:hE P n l qs K fuel done f w):hE P n l qs K fuel done' f w:=by
 unfold hE at*
 rw[<-js h];exact hw
def pc(dep:Nat->List Nat)(D:List (Nat×Nat)):Bool:=D.all λp=>(dep p.2).all λt=>(D.map Prod.snd).contains t
def lG(dep:Nat->List Nat)(A D:List (Nat×Nat)):List (Nat×Nat):=A.filter λp=> !(D.map Prod.fst).contains p.1&&(dep p.2).all λt=>(D.map Prod.snd).contains t
def tN(l:List Oper)(done:List Nat)(dep:Nat->List Nat)(A:List (Nat×Nat)):Bool:=(lE A).all λD=>decide (D.length=A.length)||(pc dep D).not||(decide (Region.ready .any l.toArray (bO l.length (D.map Prod.fst++done))=(lG dep A D).map Prod.fst)&& !(lG dep A D).isEmpty)
theorem rY(A:List (Nat×Nat))(dep:Nat->List Nat)(Φ:Nat->List Value->aG->World->Value->Prop)(γ:aG)
    (hst:∀p∈A,∀vs γ w γ' w' v,bZ no γ w γ' w'->Φ p.2 vs γ w v->Φ p.2 vs γ' w' v)
    (hnd:(A.map Prod.snd).Nodup)(hnf:(A.map Prod.fst).Nodup)
    (hrd:tN l done dep A=true)
    (hop:∀p∈A,qs.contains p.1=false/\∃o,l[p.1]? =some o/\o.dst=some p.2/\iv n o=true/\∀(f':Fr) (val:Nat->Value),(∀t,(A.map Prod.snd).contains t=false->f' t=f t)->(∀t∈dep p.2,f' t=val t)->cm l o f'=true/\∀γ w,(∀t∈dep p.2,Φ t ((dep t).map val) γ w (val t))->eH P o f' w λv w'=>∃γ',bZ no γ w γ' w'/\Φ p.2 ((dep p.2).map val) γ' w' v)
    (hk:∀val γ' w',bZ no γ w γ' w'->(∀p∈A,Φ p.2 ((dep p.2).map val) γ' w' (val p.2))->hE P n l qs K fuel (A.map Prod.fst++done) (jJ f val (A.map Prod.snd)) w'):hE P n l qs K (fuel+A.length) done f w:=by
  have main:∀(m:Nat) (D:List (Nat×Nat)) (val:Nat->Value) (γ':aG) (w':World),D.Nodup->(∀p∈D,p∈A)->(∀p∈D,∀t∈dep p.2,t∈D.map Prod.snd)->D.length+m=A.length->bZ no γ w γ' w'->(∀p∈D,Φ p.2 ((dep p.2).map val) γ' w' (val p.2))->hE P n l qs K (fuel+m) (D.map Prod.fst++done) (jJ f val (D.map Prod.snd)) w':=by
    have hAn:A.Nodup:=jr hnf
    intro m
    induction m with
    |zero=>
      intro D val γ' w' hD hsub hcl hl hc hF
      have hmem:∀p,p∈A↔p∈D:=by
        intro p
        refine⟨λhp=>?_,hsub p⟩
        by_cases c:p∈D
        · exact c
        · exfalso
          have:=gi (p::D) A (List.nodup_cons.2 ⟨c,hD⟩) (λq hq=>(List.mem_cons.1 hq).elim (λe=>by rw[e];exact hp) (hsub q))
          rw[List.length_cons] at this;omega
      have h1:=hk val γ' w' hc (λp hp=>hF p ((hmem p).1 hp))
      have e1:∀t,t∈A.map Prod.fst++done↔t∈D.map Prod.fst++done:=λt=>by
        simp only[List.mem_append,List.mem_map]
        constructor
        · rintro(⟨p,hp,rfl⟩|h)
          · exact .inl ⟨p,(hmem p).1 hp,rfl⟩
          · exact .inr h
        · rintro(⟨p,hp,rfl⟩|h)
          · exact .inl ⟨p,(hmem p).2 hp,rfl⟩
          · exact .inr h
      have e2:jJ f val (A.map Prod.snd)=jJ f val (D.map Prod.snd):=nz λt=>by
        simp only[List.mem_map]
        constructor
        · rintro⟨p,hp,rfl⟩;exact⟨p,(hmem p).1 hp,rfl⟩
        · rintro⟨p,hp,rfl⟩;exact⟨p,(hmem p).2 hp,rfl⟩
      rw[e2] at h1
      exact nF e1 h1
    |succ m ih=>
      intro D val γ' w' hD hsub hcl hl hc hF
      let D':=A.filter λp=>decide (p∈D)
      have hD':∀p,p∈D'↔p∈D:=λp=>by
        show p∈A.filter _↔_
        rw[List.mem_filter,decide_eq_true_iff]
        exact⟨λh=>h.2,λh=>⟨hsub p h,h⟩⟩
      have hD1:∀t,t∈D'.map Prod.fst↔t∈D.map Prod.fst:=λt=>by
        simp only[List.mem_map]
        exact⟨λ⟨p,hp,e⟩=>⟨p,(hD' p).1 hp,e⟩,λ⟨p,hp,e⟩=>⟨p,(hD' p).2 hp,e⟩⟩
      have hD2:∀t,t∈D'.map Prod.snd↔t∈D.map Prod.snd:=λt=>by
        simp only[List.mem_map]
        exact⟨λ⟨p,hp,e⟩=>⟨p,(hD' p).1 hp,e⟩,λ⟨p,hp,e⟩=>⟨p,(hD' p).2 hp,e⟩⟩
      have hlD:D'.length≠A.length:=by
        have h1:=gi D' D (hAn.filter _) (λp hp=>(hD' p).1 hp)
        omega
      have hcD:pc dep D'=true:=by
        unfold pc
        simp only[List.all_eq_true,List.contains_iff_mem]
        exact λp hp t ht=>(hD2 t).2 (hcl p ((hD' p).1 hp) t ht)
      have hr0:=List.all_eq_true.1 hrd D' (ig _ A)
      rw[decide_eq_false hlD,hcD] at hr0
      simp only[Bool.not_true,Bool.or_false,Bool.false_or,Bool.and_eq_true] at hr0
      obtain⟨hr1,hne⟩:=hr0
      have hr:=of_decide_eq_true hr1
      have em:bO l.length (D'.map Prod.fst++done)=bO l.length (D.map Prod.fst++done):=js λt=>by
        simp only[List.mem_append];rw[hD1 t]
      rw[em] at hr
      have hnx:∀p,p∈lG dep A D'->p∈A/\p∉D/\∀t∈dep p.2,t∈D.map Prod.snd:=λp hp=>by
        unfold lG at hp
        rw[List.mem_filter,Bool.and_eq_true,List.all_eq_true] at hp
        obtain⟨h1,h2,h3⟩:=hp
        refine⟨h1,λk=>?_,λt ht=>(hD2 t).1 (List.contains_iff_mem.1 (h3 t ht))⟩
        have:p.1∈D'.map Prod.fst:=List.mem_map.2 ⟨p,(hD' p).2 k,rfl⟩
        simp[this] at h2
      intro a ha
      refine⟨λh0=>?_,λk hk2=>?_⟩
      · rw[hr] at h0
        have h5:lG dep A D'=[]:=List.map_eq_nil_iff.1 h0
        rw[h5] at hne;cases hne
      · rw[hr] at hk2
        obtain⟨p,hp0,rfl⟩:=List.mem_map.1 hk2
        obtain⟨hp,hpD,hdp⟩:=hnx p hp0
        obtain⟨hq,o,hi,hdst,hdk,ho⟩:=hop p hp
        have hlt:p.1<l.length:=(List.getElem?_eq_some_iff.1 hi).1
        have hq':decide (p.1∈qs)=false:=by simpa using hq
        have hd2:p.2∉D.map Prod.snd:=by
          intro k
          obtain⟨q,hq2,e⟩:=List.mem_map.1 k
          have:q=p:=jI hnd (hsub q hq2) hp e
          rw[this] at hq2;exact hpD hq2
        obtain⟨hw1,hw2⟩:=ho (jJ f val (D.map Prod.snd)) val (λt ht=>by
          unfold jJ
          have:(D.map Prod.snd).contains t=false:=by
            cases hc2:(D.map Prod.snd).contains t with
            |false=>rfl
            |true=>
              obtain⟨q,hq2,e⟩:=List.mem_map.1 (List.contains_iff_mem.1 hc2)
              have:(A.map Prod.snd).contains t=true:=List.contains_iff_mem.2 (List.mem_map.2 ⟨q,hsub q hq2,e⟩)
              rw[this] at ht;cases ht
          rw[this];rfl) (λt ht=>by
          unfold jJ
          rw[List.contains_iff_mem.2 (hdp t ht)];rfl)
        simp only[hq',Bool.false_eq_true,if_false]
        refine dY ha hi hw1 (hw2 γ' w' (λt ht=>?_)) λv w2 ⟨γ2,c2,h2⟩=>?_
        · obtain⟨q,hq2,e⟩:=List.mem_map.1 (hdp t ht)
          rw[<-e];exact hF q hq2
        rw[cG _ hlt]
        have hc2:bZ no γ w γ2 w2:=hc.trans c2 (λ_ _ h=>h.elim id id)
        have hval:∀q:Nat×Nat,(∀t∈dep q.2,t∈D.map Prod.snd)->(dep q.2).map (λt=>if t=p.2 then v else val t)=(dep q.2).map val:=λq hq2=>List.map_congr_left λt ht=>by
          rw[if_neg]
          intro e
          exact hd2 (by rw[<-e];exact hq2 t ht)
        have hnext:=ih (p::D) (λt=>if t=p.2 then v else val t) γ2 w2 (List.nodup_cons.2 ⟨hpD,hD⟩) (λq hq2=>(List.mem_cons.1 hq2).elim (λe=>by rw[e];exact hp) (hsub q)) (λq hq2 t ht=>by
          rw[List.map_cons]
          rcases List.mem_cons.1 hq2 with e|e
          · rw[e] at ht;exact List.mem_cons_of_mem _ (hdp t ht)
          · exact List.mem_cons_of_mem _ (hcl q e t ht)) (by rw[List.length_cons];omega) hc2 (λq hq2=>by
          rcases List.mem_cons.1 hq2 with e|e
          · rw[e,if_pos rfl,hval p hdp];exact h2
          · have hne:q.2≠p.2:=λk=>hd2 (by rw[<-k];exact List.mem_map.2 ⟨q,e,rfl⟩)
            rw[if_neg hne,hval q (hcl q e)]
            exact hst q (hsub q e) _ _ _ _ _ _ c2 (hF q e))
        have ef:ep (jJ f val (D.map Prod.snd)) o.dst v=jJ f (λt=>if t=p.2 then v else val t) ((p::D).map Prod.snd):=by
          rw[hdst,qc hd2];rfl
        have:=hnext (a.put o.dst v) (by rw[<-ef];exact ha.put hdk v)
        exact this
  have h0:=main A.length [] (λ_=>undef) γ w List.nodup_nil (λp hp=>absurd hp List.not_mem_nil) (λp hp=>absurd hp List.not_mem_nil) (by simp) (bZ.refl _ _ _) (λp hp=>absurd hp List.not_mem_nil)
  have e0:jJ f (λ_=>undef) (([]:List (Nat×Nat)).map Prod.snd)=f:=by
    funext t;rfl
  rw[e0] at h0
  exact h0
end
end TL
namespace TL
open Go
structure Mk where
  op:Nat
  slot:Nat
  dep:List Nat
  ok:List Value->aG->World->Value->Prop
def qp:List Mk->Prop
 |[]=>True
 |p::r=>(∀vs γ w γ' w' v,bZ no γ w γ' w'->p.ok vs γ w v->p.ok vs γ' w' v)/\qp r
def eJ:List Mk->Nat->List Nat
 |[],_=>[]
 |p::r,t=>bif Nat.beq t p.slot then p.dep else eJ r t
def iw:List Mk->Nat->List Value->aG->World->Value->Prop
 |[],_=>λ_ _ _ _=>False
 |p::r,t=>bif Nat.beq t p.slot then p.ok else iw r t
def r9(P:Program)(n:Nat)(l:List Oper)(qs:List Nat)(f:Fr)(L:List Mk)(S:List Nat):List Mk->Prop
  |[]=>True
  |p::r=>(qs.contains p.op=false/\∃o,l[p.op]? =some o/\o.dst=some p.slot/\iv n o=true/\∀(f':Fr) (val:Nat->Value),(∀t,S.contains t=false->f' t=f t)->(∀t∈p.dep,f' t=val t)->cm l o f'=true/\∀γ w,(∀t∈p.dep,iw L t ((eJ L t).map val) γ w (val t))->eH P o f' w λv w'=>∃γ',bZ no γ w γ' w'/\p.ok (p.dep.map val) γ' w' v)/\r9 P n l qs f L S r
theorem qp.mem{L:List Mk}(h:qp L):∀p∈L,∀vs γ w γ' w' v,bZ no γ w γ' w'->p.ok vs γ w v->p.ok vs γ' w' v:=by
 induction L with
 |nil=>intro p hp;exact absurd hp List.not_mem_nil
 |cons a L ih=>
   intro p hp
   rcases List.mem_cons.1 hp with e|e
   · rw[e];exact h.1
   · exact ih h.2 p e
theorem kf{a b:Nat}(h:a≠b):Nat.beq a b=false:=by
 cases k:Nat.beq a b with
 |false=>rfl
 |true=>exact absurd (Nat.eq_of_beq_eq_true k) h
theorem hT:∀{L:List Mk},(L.map Mk.slot).Nodup->∀p∈L,eJ L p.slot=p.dep/\iw L p.slot=p.ok
 |[],_,p,hp=>absurd hp List.not_mem_nil
 |a::L,h,p,hp=>by
   rw[List.map_cons,List.nodup_cons] at h
   rcases List.mem_cons.1 hp with e|e
   · rw[e];unfold eJ iw;rw[Nat.beq_refl];exact⟨rfl,rfl⟩
   · have hne:p.slot≠a.slot:=λk=>h.1 (by rw[<-k];exact List.mem_map.2 ⟨p,e,rfl⟩)
     unfold eJ iw
     rw[kf hne];exact hT h.2 p e
def kD(K:Fr->Prop)(γ:aG)(w:World):List Mk->List (Nat×Value)->Fr->Prop
  |[],_,f=>K f
  |p::r,env,f=>∀v,p.ok (p.dep.map λt=>(env.lookup t).getD undef) γ w v->kD K γ w r ((p.slot,v)::env) (ep f (some p.slot) v)
def mI:List Mk->List Nat->Bool
 |[],_=>true
 |p::r,S=>(p.dep.all λt=>S.contains t)&&mI r (p.slot::S)
theorem pC{f:Fr}{val:Nat->Value}{d:Nat}{S:List Nat}:jJ (ep f (some d) (val d)) val S=jJ f val (d::S):=by
 funext t
 unfold jJ ep
 simp only
 by_cases c:t=d
 · subst c
   have e1:(t::S).contains t=true:=by simp
   rw[e1,Nat.beq_refl];cases S.contains t<;>rfl
 · have e1:Nat.beq t d=false:=kf c
   have e2:(d::S).contains t=S.contains t:=by
     rw[Bool.eq_iff_iff]
     simp[c]
   rw[e1,e2];rfl
theorem kD.use{K:Fr->Prop}{γ:aG}{w:World}{val:Nat->Value}:∀{L:List Mk} {env:List (Nat×Value)} {f:Fr},kD K γ w L env f->(∀t∈env.map Prod.fst,(env.lookup t).getD undef=val t)->mI L (env.map Prod.fst)=true->(∀p∈L,p.ok (p.dep.map val) γ w (val p.slot))->K (jJ f val (L.map Mk.slot))
 |[],_,f,h,_,_,_=>by
   have:jJ f val (([]:List Mk).map Mk.slot)=f:=by funext t;rfl
   rw[this];exact h
 |p::L,env,f,h,he,ht,hF=>by
   unfold mI at ht
   rw[Bool.and_eq_true,List.all_eq_true] at ht
   have e1:p.dep.map (λt=>(env.lookup t).getD undef)=p.dep.map val:=List.map_congr_left λt h1=>he t (List.contains_iff_mem.1 (ht.1 t h1))
   have h2:=h (val p.slot) (by rw[e1];exact hF p (List.mem_cons_self ..))
   have:=kD.use h2 (λt h3=>by
     rw[List.lookup_cons]
     by_cases c:t=p.slot
     · rw[c];simp
     · have:(t==p.slot)=false:=by simpa using c
       rw[this]
       exact he t ((List.mem_cons.1 h3).resolve_left c)) ht.2 (λq hq=>hF q (List.mem_cons_of_mem _ hq))
   rw[pC] at this;exact this
section
variable{P:Program}{n:Nat}{l:List Oper}{qs:List Nat}{K:Fr->World->Prop}{f:Fr}{w:World}{done:List Nat}{fuel:Nat}{S:List Nat}
theorem r9.mem{L M:List Mk}(h:r9 P n l qs f M S L):∀p∈L,qs.contains p.op=false/\∃o,l[p.op]? =some o/\o.dst=some p.slot/\iv n o=true/\∀(f':Fr) (val:Nat->Value),(∀t,S.contains t=false->f' t=f t)->(∀t∈p.dep,f' t=val t)->cm l o f'=true/\∀γ w,(∀t∈p.dep,iw M t ((eJ M t).map val) γ w (val t))->eH P o f' w λv w'=>∃γ',bZ no γ w γ' w'/\p.ok (p.dep.map val) γ' w' v:=by
 induction L with
 |nil=>intro p hp;exact absurd hp List.not_mem_nil
 |cons a L ih=>
   intro p hp
   rcases List.mem_cons.1 hp with e|e
   · rw[e];exact h.1
   · exact ih h.2 p e
theorem eH.mono{o:Oper}{N N':Value->World->Prop}(h:eH P o f w N)(hN:∀v w,N v w->N' v w):eH P o f w N':=by
 unfold eH at*
 generalize(execOp (ev f) o).run P w=r at*
 cases r with
 |halt x w'=>exact h.elim
 |ok nx w'=>
   cases nx<;>simp only[mL] at h ⊢
   case value v=>exact hN _ _ h
   case skip=>exact hN _ _ h
   case enter g args=>
     refine h.mono λe w'' he=>?_
     cases e with
     |returned v=>exact hN _ _ he
     |panicked c=>exact he.elim
     |outgrown=>exact he.elim
theorem n7(γ:aG)(L:List Mk)(A:List (Nat×Nat))(fu:Nat)(hA:L.map (λp=>(p.op,p.slot))=A)(hst:qp L)(hnd0:(A.map Prod.snd).Nodup)(hnf:(A.map Prod.fst).Nodup)
    (hrd:tN l done (eJ L) A=true)(htp:mI L []=true)
    (hfu:fu=fuel+A.length)(hop:r9 P n l qs f L (A.map Prod.snd) L)
    (hk:∀γ' w',bZ no γ w γ' w'->kD (λf'=>hE P n l qs K fuel (A.map Prod.fst++done) f' w') γ' w' L [] f):hE P n l qs K fu done f w:=by
  subst hfu
  have e1:A.map Prod.snd=L.map Mk.slot:=by rw[<-hA,List.map_map];rfl
  have hnd:(L.map Mk.slot).Nodup:=by rw[<-e1];exact hnd0
  refine rY A (eJ L) (iw L) γ (λq hq=>?_) hnd0 hnf hrd (λq hq=>?_) (λval γ' w' hc hF=>?_)
  · rw[<-hA] at hq
    obtain⟨p,hp,rfl⟩:=List.mem_map.1 hq
    intro vs γ w γ' w' v hc
    show iw L p.slot vs γ w v->iw L p.slot vs γ' w' v
    rw[(hT hnd p hp).2];exact hst.mem p hp vs γ w γ' w' v hc
  · rw[<-hA] at hq
    obtain⟨p,hp,rfl⟩:=List.mem_map.1 hq
    obtain⟨a,o,b,c,d,e⟩:=hop.mem p hp
    show qs.contains p.op=false/\∃o,l[p.op]? =some o/\o.dst=some p.slot/\iv n o=true/\∀(f':Fr) (val:Nat->Value),(∀t,(A.map Prod.snd).contains t=false->f' t=f t)->(∀t∈eJ L p.slot,f' t=val t)->cm l o f'=true/\∀γ w,(∀t∈eJ L p.slot,iw L t ((eJ L t).map val) γ w (val t))->eH P o f' w λv w'=>∃γ',bZ no γ w γ' w'/\iw L p.slot ((eJ L p.slot).map val) γ' w' v
    rw[(hT hnd p hp).1,(hT hnd p hp).2]
    exact⟨a,o,b,c,d,e⟩
  · have h1:=(hk γ' w' hc).use (val:=val) (λt ht=>absurd ht List.not_mem_nil) htp (λp hp=>by
      have:=hF (p.op,p.slot) (by rw[<-hA];exact List.mem_map.2 ⟨p,hp,rfl⟩)
      have h2:iw L p.slot ((eJ L p.slot).map val) γ' w' (val p.slot):=this
      rw[(hT hnd p hp).1,(hT hnd p hp).2] at h2;exact h2)
    rw[e1];exact h1
end
end TL
/-
  TlPost: what is owed behind a law that returns true and writes nothing of the caller's.
  By an AI agent.
-/
namespace TL
open Go Go.Proofs Go.ChangeShapes Go.WideShapes Go.RowKit
def n9(P:Program)(ts:List TypeId):Bool:=ts.all λt=>P.readableRec t&&decide (t<P.types.size)
theorem kb{H:Type}{enc:TypeId×Value->H}{P:Program}(hl:laidOutB P=true){W W':World}(hb:Below W.heap.size W W')(sp:Nat->Bool):
   ∀{ts:List TypeId} {vs:List Value} {ds:List (DataW H)} {ps:List MemPlace},n9 P ts=true->DataW.TrodAll enc P W 0 (λ_=>true) true ts vs ds ps->(∀p∈ps,p.block<W.heap.size)->(∀p∈ps,sp p.block=true)->DataW.TrodAll enc P W' 0 sp true ts vs ds ps
 |[],[],[],_,_,h,_,_=>h
 |[],[],_::_,_,_,h,_,_=>h.elim
 |[],_::_,_,_,_,h,_,_=>by cases‹List (DataW H)›<;>exact h.elim
 |_::_,[],_,_,_,h,_,_=>by cases‹List (DataW H)›<;>exact h.elim
 |_::_,_::_,[],_,_,h,_,_=>h.elim
 |t::ts,v::vs,d::ds,ps,hr,h,hlt,hsp=>by
   obtain⟨p,q,h1,h2,rfl⟩:=h
   simp only[n9,List.all_cons,Bool.and_eq_true,decide_eq_true_eq] at hr
   exact⟨p,q,WideElems.Trod_stays hl hr.1.1 hr.1.2 h1 (λx hx=>hb.same (hlt x (by simp[hx]))) (λx hx=>hsp x (by simp[hx])),
     kb hl hb sp hr.2 h2 (λx hx=>hlt x (by simp[hx])) (λx hx=>hsp x (by simp[hx])),rfl⟩
theorem oW{H:Type}{enc:TypeId×Value->H}{P:Program}{f:Func}{s:ChangeSpec}{W W':World}{args:Array Value}{ds gs:List (DataW H)}{before:List MemPlace}{tb:TypeId}
   (hl:laidOutB P=true)(hr:n9 P f.params.toList=true)(hv:s.vars=[])(hrt:f.resultTypes= #[tb])(htb:P.underlying tb=some .bool)
   (hW:DataW.Whole enc P f.params.toList s.vars false W args.toList ds gs before)(hfn:s.fn H (ds++gs)={results:=[.lit (.bool true)],args:=ds})(hB:Below W.heap.size W W'):
   s.post enc P f false true false false W args (.bool true) W':=by
 have hlt:=hW.lt
 have hW0:=hW
 obtain⟨p,q,hA,hV,rfl,hfz,_⟩:=hW
 rw[hv] at hV
 obtain⟨rfl,rfl⟩:=trodVars_none hV
 simp only[List.append_nil] at hlt hfz hW0 hfn
 have hres:∀(b:Nat) (sp:Nat->Bool) (hd:Bool),DataW.TrodAll enc P W' b sp hd f.resultTypes.toList ((Value.bool true).resultList f.resultTypes.size) (s.fn H (ds++[])).results []:=λb sp hd=>by
   rw[hrt,List.append_nil,hfn]
   exact trodAll_cons_mk (shut_bool htb true) trodAll_mk0
 have hargs:∀sp:Nat->Bool,(∀x∈p,sp x.block=true)->DataW.TrodAll enc P W' 0 sp true f.params.toList args.toList (s.fn H (ds++[])).args p:=λsp hsp=>by
   rw[List.append_nil,hfn]
   exact kb hl hB sp hr hA hlt hsp
 have hvars:∀sp:Nat->Bool,DataW.TrodVars enc P W' sp s.vars (s.fn H (ds++[])).vars []:=λsp=>by
   rw[List.append_nil,hfn,hv]
   rfl
 refine⟨ds,[],p,[],p,[],hW0,hres _ _ _,hargs _ (λx hx=>by simpa using hlt x hx),hvars _,World.keptBut_mono (λx hx=>⟨hx,Or.inr (by simpa using hx)⟩) (hB.frame _),λ_=>?_⟩
 refine⟨?_,_,_,([]++p)++[],⟨[]++p,[],trodAll_append (hargs _ (λ_ _=>rfl)) (hres _ _ _),hvars _,rfl,?_,?_⟩,?_⟩
 · exact ok_one hrt rfl (okWide_bool_mk htb true)
 · intro b off hp
   have hp':MemPlace.cell b off∈p:=by simpa using hp
   rw[hB.frozen (p:=⟨b,off,none⟩) (hlt _ hp')]
   exact hfz b off hp'
 · intro ha;cases ha
 · intro x hx _
   simpa using hx
end TL
/-
  TlOpenT: arguments that are tasks, or flows.
  By an AI agent.
-/
set_option linter.all false
namespace TL
open Go Go.Proofs Go.ChangeShapes Go.WideShapes Go.Joins Go.Deep
theorem qi{P:Program}{t e:TypeId}{f0 f1 f2 f3:Field}(hs:P.underlying t=some (.struct #[f0,f1,f2,f3]))(hone:oneCellFields P #[f0,f1,f2,f3]=true)(hC:P.cellsOf t=4)(h0:f0.type=e)(h1:f1.type=e)(h2:f2.type=e)(h3:f3.type=e)(he:P.underlying e=some (.int .i64)):ra (Int×Int×Int×Int) P t:=by
 intro H enc w fuel cs x h
 obtain⟨y0,y1,y2,y3,n,_,hl,k0,k1,k2,k3⟩:=trod_struct4 hs h
 obtain⟨o0,c0⟩:=hone_of hone 0 f0 rfl
 obtain⟨o1,c1⟩:=hone_of hone 1 f1 rfl
 obtain⟨o2,c2⟩:=hone_of hone 2 f2 rfl
 obtain⟨o3,c3⟩:=hone_of hone 3 f3 rfl
 rw[hC] at hl
 match cs,hl with
 |[v0,v1,v2,v3],_=>
   have k0':DataW.trod enc P w 0 (λ_=>true) true n f0.type [v0]=some y0:=by simpa[o0,c0] using k0
   have k1':DataW.trod enc P w 0 (λ_=>true) true n f1.type [v1]=some y1:=by simpa[o1,c1] using k1
   have k2':DataW.trod enc P w 0 (λ_=>true) true n f2.type [v2]=some y2:=by simpa[o2,c2] using k2
   have k3':DataW.trod enc P w 0 (λ_=>true) true n f3.type [v3]=some y3:=by simpa[o3,c3] using k3
   rw[h0] at k0'
   rw[h1] at k1'
   rw[h2] at k2'
   rw[h3] at k3'
   obtain⟨a,ha⟩:=gR he enc w n [v0] y0 k0'
   obtain⟨b,hb⟩:=gR he enc w n [v1] y1 k1'
   obtain⟨c,hc⟩:=gR he enc w n [v2] y2 k2'
   obtain⟨d,hd⟩:=gR he enc w n [v3] y3 k3'
   exact⟨(a,b,c,d),[v0],[v1,v2,v3],rfl,ha,[v1],[v2,v3],rfl,hb,[v2],[v3],rfl,hc,hd⟩
theorem om{α:Type}[Rp α][Inhabited α]{P:Program}{t t0 t1 t2 e q:TypeId}{f0 f1 f2:Field}(hs:P.underlying t=some (.struct #[f0,f1,f2]))(hone:oneCellFields P #[f0,f1,f2]=true)(hC:P.cellsOf t=3)(hts:P.cellTypes P.depth t=some [t0,t1,t2])
    (h0:f0.type=t0)(h1:f1.type=t1)(h2:f2.type=t2)(hi:P.underlying t0=some (.int .i64))(ht:P.underlying t1=some (.slice e))(hc:P.cellsOf e=Rp.sz α)(hz:0<Rp.sz α)(he:ra α P e)
    (ht2:P.underlying t2=some (.slice q))(hcq:P.cellsOf q=1)(hq:P.underlying q=some (.int .i64))
    {H:Type}{enc:TypeId×Value->H}{w:World}{f:DataW H->Nat}(hf:mx f){base:Nat}{v:Value}{d:DataW H}{p:List MemPlace}
    (hval:Value.okWide P w .any base t v)(h:DataW.Trod enc P w 0 (λ_=>true) true t v d p)(hb:f d<=1048576):∃(n:Int) (u u2:Value) (xs:List α) (ys:List Int),v= .agg #[.int .i64 n,u,u2]/\Ro w u xs/\Ro w u2 ys:=by
  obtain⟨v0,v1,v2,y0,y1,y2,n,rfl,rfl,rfl,r0,r1,r2⟩:=open_agg3 hs hone hC hval h
  subst h0 h1 h2
  obtain⟨k,hk,_,_⟩:=DataW.trod_int hi r0
  obtain rfl:v0= .int .i64 k:=by simpa using hk
  simp only[Value.okWide,hs] at hval
  obtain⟨cs,hcs,_,ts,h3,_,h4⟩:=hval
  rw[hts] at h3
  obtain rfl:=Option.some.inj h3
  obtain rfl: #[Value.int .i64 k,v1,v2]=cs:=by simpa using hcs
  obtain⟨a1,hu1,hk1⟩:=h4 1 v1 rfl
  obtain⟨a2,hu2,hk2⟩:=h4 2 v2 rfl
  simp at hu1 hu2
  subst hu1 hu2
  obtain⟨xs,hx⟩:=ka ht hc hz he hf (gB ht hk1) (x:=y1) r1 (Nat.le_trans (hf.part _ _ (by simp)) hb)
  obtain⟨ys,hy⟩:=ka (α:=Int) ht2 hcq (by decide) (gR hq) hf (gB ht2 hk2) (x:=y2) r2 (Nat.le_trans (hf.part _ _ (by simp)) hb)
  exact⟨k,v1,v2,xs,ys,rfl,hx,hy⟩
end TL
