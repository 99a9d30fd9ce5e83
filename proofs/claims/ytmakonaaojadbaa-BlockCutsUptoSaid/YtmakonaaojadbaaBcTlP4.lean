/- Plain texts of this claim, part 4. By an AI agent. -/
import Derived.Test.YtmakonaaojadbaaBcTlP3
import Derived.RowKit
/-
  TlTre2: the tree of blocks has as many components as the net has with edges.
  By an AI agent.
-/
set_option linter.all false
namespace TL
variable{g:bw}{a b v w h i j x y z e c r:Int}{k m q:Nat}{l l':List Int}
def sJ(g:bw)(z:Int):Prop:=dA g z/\∃h,hf g h/\aq g h=z
def ic(g:bw)(x:Int):Int:=if x<bJ g then aq g (2*(((dl g).idxOf x:Nat):Int)) else gI (bR g) (x-bJ g)
theorem jn(h0:0<=x)(h1:x<bJ g):∃h,hf g h/\gI (dl g) (h/2)=x/\ic g x=aq g h:=by
 obtain⟨k,hk,he⟩:=qU g h0 h1
 have hol:=iy g
 have hin:x∈dl g:=by rw[<-he];exact bP (eY hk) (by have:=dI hk;omega)
 have hlt:=List.idxOf_lt_length_of_mem hin
 refine⟨2*(((dl g).idxOf x:Nat):Int),⟨by omega,by omega⟩,?_,by unfold ic;rw[if_pos h1]⟩
 rw[show 2*(((dl g).idxOf x:Nat):Int)/2=(((dl g).idxOf x:Nat):Int) by omega]
 have e3:gI (dl g) (((dl g).idxOf x:Nat):Int)=(dl g)[(dl g).idxOf x]:=by simp[gI,hlt]
 rw[e3,List.getElem_idxOf hlt]
theorem kN{j:Nat}(hj:j<(bR g).length):ic g (bJ g+(j:Int))=gI (bR g) (j:Int):=by
 unfold ic
 rw[if_neg (by omega),show bJ g+(j:Int)-bJ g=(j:Int) by omega]
theorem nj(hx:dA (bZ g) x):(0<=x/\x<bJ g)\/∃j:Nat,j<(bR g).length/\x=bJ g+(j:Int):=by
 have h0:=hx.1
 have h1:x<bJ g+((bR g).length:Int):=hx.2
 by_cases c:x<bJ g
 · exact .inl ⟨h0,c⟩
 · exact .inr ⟨(x-bJ g).toNat,by omega,by omega⟩
theorem ll(hm:aV g)(hx:dA (bZ g) x):sJ g (ic g x):=by
 rcases nj hx with⟨a,b⟩|⟨j,j1,rfl⟩
 · obtain⟨h,h1,_,h3⟩:=jn a b
   rw[h3]
   exact⟨bW hm h1,h,h1,rfl⟩
 · rw[kN j1]
   have hin:gI (bR g) (j:Int)∈bR g:=bP (by omega) (by omega)
   exact⟨((fZ hm).1 hin).1,qO hm hin⟩
theorem pb(hm:aV g){h k:Int}(hh:hf g h)(hk:hf g k)(he:gI (dl g) (h/2)=gI (dl g) (k/2)):Cn (cq g [] []) (aq g h) (aq g k):=by
  have hq:=Cn.eqv (cq g [] [])
  have same:∀p q,hf g p->hf g q->p/2=q/2->Cn (cq g [] []) (aq g p) (aq g q):=λp q hp hq' e=>by
    rcases e7 hp.1 hq'.1 e with r|r
    · rw[r];exact hq.rfl _ (bW hm hq')
    · obtain⟨_,_,s3,_⟩:=cH (g:=g) hq'
      rw[r,s3]
      exact hq.symm _ _ (bW hm hq') (dY hm hq') (kM hm hq')
  rw[iB hm (eY hh) (dI hh) (eY hk) (dI hk)] at he
  have main:∀e f,EqB g e f->∀p q,hf g p->hf g q->p/2=e->q/2=f->Cn (cq g [] []) (aq g p) (aq g q):=by
    intro e f hr
    induction hr with
    |refl=>exact λp q hp hq' e1 e2=>same p q hp hq' (by rw[e1,e2])
    |rel hr=>
      intro p q hp hq' e1 e2
      obtain⟨p',q',hp',hq'',e3,e4,e5,_⟩:=hr
      have c1:=same p p' hp hp' (by rw[e1,e3])
      have c2:=same q' q hq'' hq' (by rw[e2,e4])
      rw[<-e5] at c2
      exact hq.trans _ _ _ (bW hm hp) (bW hm hp') (bW hm hq') c1 c2
    |symm _ ih=>exact λp q hp hq' e1 e2=>hq.symm _ _ (bW hm hq') (bW hm hp) (ih q p hq' hp e2 e1)
    | @trans e f k h1 h2 i1 i2=>
      intro p q hp hq' e1 e2
      by_cases hfr:0<=f/\f<(g.2.length:Int)
      · have hm2:hf g (2*f):=⟨by omega,by omega⟩
        exact hq.trans _ _ _ (bW hm hp) (bW hm hm2) (bW hm hq') (i1 p (2*f) hp hm2 e1 (by omega)) (i2 (2*f) q hm2 hq' (by omega) e2)
      · rcases jx h1 with r|⟨_,⟨p',p1,p2,_⟩,_⟩
        · have:=eY hp
          have:=dI hp
          omega
        · have:=eY p1
          have:=dI p1
          omega
  exact main _ _ he h k hh hk rfl rfl
theorem py(hm:aV g){h k:Int}(hh:hf g h)(hk:hf g k)(he:aq g h=aq g k):Cn (bZ g) (gI (dl g) (h/2)) (gI (dl g) (k/2)):=by
  have hq:=Cn.eqv (bZ g)
  have nd:∀p,hf g p->dA (bZ g) (gI (dl g) (p/2)):=λp hp=>by
    have:=eV g (eY hp) (dI hp)
    exact⟨this.1,by show _<bJ g+((bR g).length:Int);omega⟩
  by_cases c:gI (dl g) (h/2)=gI (dl g) (k/2)
  · rw[c];exact hq.rfl _ (nd k hk)
  · have hcut:=rF hm hh hk he c
    obtain⟨j,hj,e⟩:=List.mem_iff_getElem.1 hcut
    have ej:gI (bR g) (j:Int)=aq g h:=by rw[<-e];simp[gI,hj]
    have e1:(gI (dl g) (h/2),bJ g+(j:Int))∈(bZ g).2:=(fl hm).2 ⟨h,hh,rfl,j,hj,ej,rfl⟩
    have e2:(gI (dl g) (k/2),bJ g+(j:Int))∈(bZ g).2:=(fl hm).2 ⟨k,hk,rfl,j,hj,by rw[ej,he],rfl⟩
    have hj2:dA (bZ g) (bJ g+(j:Int)):=by
      have:=gr g
      exact⟨by omega,by show _<bJ g+((bR g).length:Int);omega⟩
    exact hq.trans _ _ _ (nd h hh) hj2 (nd k hk) (Cn.edge e1) (hq.symm _ _ (nd k hk) hj2 (Cn.edge e2))
theorem qt(hm:aV g)(hx:dA (bZ g) x){h:Int}(hh:hf g h)(he:aq g h=ic g x):Cn (bZ g) x (gI (dl g) (h/2)):=by
  rcases nj hx with⟨a,b⟩|⟨j,j1,rfl⟩
  · obtain⟨k,k1,k2,k3⟩:=jn a b
    have:=py hm k1 hh (by rw[he,k3])
    rwa[k2] at this
  · rw[kN j1] at he
    have e1:(gI (dl g) (h/2),bJ g+(j:Int))∈(bZ g).2:=(fl hm).2 ⟨h,hh,rfl,j,j1,he.symm,rfl⟩
    have:=eV g (eY hh) (dI hh)
    have hnd:dA (bZ g) (gI (dl g) (h/2)):=⟨this.1,by show gI (dl g) (h/2)<bJ g+((bR g).length:Int);omega⟩
    exact(Cn.eqv (bZ g)).symm _ _ hnd hx (Cn.edge e1)
theorem rA(hm:aV g)(hx:dA (bZ g) x)(hy:dA (bZ g) y)(hc:Cn (bZ g) x y):Cn (cq g [] []) (ic g x) (ic g y):=by
 have hq:=Cn.eqv (cq g [] [])
 have nd:∀x,dA (bZ g) x->dA (cq g [] []) (ic g x):=λx hx=>(ll hm hx).1
 refine hc (λx y=>Cn (cq g [] []) (ic g x) (ic g y)) ⟨λx hx=>hq.rfl _ (nd x hx),λx y hx hy h=>hq.symm _ _ (nd x hx) (nd y hy) h,λx y z hx hy hz h1 h2=>hq.trans _ _ _ (nd x hx) (nd y hy) (nd z hz) h1 h2⟩ (λK hK=>?_)
 obtain⟨h,hh,e1,j,j1,j2,j3⟩:=(fl hm).1 hK
 have hr:=eV g (eY hh) (dI hh)
 obtain⟨k,k1,k2,k3⟩:=jn (g:=g) (x:=K.1) (by omega) (by omega)
 rw[k3,j3,kN j1,j2]
 exact pb hm k1 hh (by rw[k2,e1])
theorem rM(hm:aV g)(hx:dA (bZ g) x)(hy:dA (bZ g) y)(hc:Cn (cq g [] []) (ic g x) (ic g y)):Cn (bZ g) x y:=by
 have hq:=Cn.eqv (bZ g)
 have nd:∀p,hf g p->dA (bZ g) (gI (dl g) (p/2)):=λp hp=>by
   have:=eV g (eY hp) (dI hp)
   exact⟨this.1,by show _<bJ g+((bR g).length:Int);omega⟩
 have hS:=pz hm (S:=λu=>∀h,hf g h->aq g h=u->Cn (bZ g) x (gI (dl g) (h/2))) (λh hh hs k hk e=>by
   obtain⟨t1,t2,t3,t4⟩:=cH (g:=g) hh
   have h1:=hs h hh rfl
   have h2:=py hm t1 hk (by rw[t3,e])
   rw[t2] at h2
   exact hq.trans _ _ _ hx (nd h hh) (nd k hk) h1 h2) hc (λh hh e=>qt hm hx hh e)
 obtain⟨_,h,hh,he⟩:=ll hm hy
 exact hq.trans _ _ _ hx (nd h hh) hy (hS h hh he) (hq.symm _ _ hy (nd h hh) (qt hm hy hh he))
def dj(g:bw)(k:Nat):List Int:=(bN k).filter λv=>decide ((cG g v).length=0)
theorem oK(hm:aV g)(ht:aV (bZ g)):(bf (bZ g) [] []).2=(bf g [] []).2-((dj g g.1.toNat).length:Int):=by
  have h0:=hm.1
  obtain⟨k,e1,h1⟩:=fQ ht
  obtain⟨n,e2,h2⟩:=fQ hm
  have hg:cq g [] []=g:=mc
  have hq:=Cn.eqv g
  have hT:jS (sJ g) (Cn g) k:=h1.map (ic g) ⟨λx hx=>hq.rfl x hx.1,λx y hx hy h=>hq.symm x y hx.1 hy.1 h,λx y z hx hy hz a b=>hq.trans x y z hx.1 hy.1 hz.1 a b⟩ (λx hx=>ll hm hx) (λx y hx hy hc=>by have:=rA hm hx hy hc;rwa[hg] at this) (λx y hx hy hc=>rM hm hx hy (by rw[hg];exact hc)) (λz hz=>by
    obtain⟨_,h,hh,he⟩:=hz
    have hr:=eV g (eY hh) (dI hh)
    have hx:dA (bZ g) (gI (dl g) (h/2)):=⟨hr.1,by show _<bJ g+((bR g).length:Int);omega⟩
    refine⟨_,hx,?_⟩
    obtain⟨k,k1,k2,k3⟩:=jn (g:=g) hr.1 hr.2
    rw[k3,<-he]
    have:=pb hm hh k1 k2.symm
    rwa[hg] at this)
  have hal:∀v,v∈dj g g.1.toNat↔dA g v/\∀h,hf g h->aq g h≠v:=λv=>by
    unfold dj
    rw[List.mem_filter,ec,decide_eq_true_iff]
    constructor
    · rintro⟨⟨a,b⟩,c⟩
      refine⟨⟨a,by omega⟩,λh hh e=>?_⟩
      have:=List.length_pos_of_mem (e8 hh)
      rw[e] at this;omega
    · rintro⟨⟨a,b⟩,c⟩
      refine⟨⟨a,by omega⟩,?_⟩
      cases hO:cG g v with
      |nil=>rfl
      |cons x t=>
        have:=cW (g:=g) (v:=v) (h:=x) (by rw[hO];simp)
        exact absurd this.2 (c x this.1)
  have hiso:∀v w,(∀h,hf g h->aq g h≠v)->Cn g v w->w=v:=λv w hv hc=>by
    rw[<-hg] at hc
    exact pz hm (S:=λz=>z=v) (λh hh e=>absurd e (hv h hh)) hc rfl
  have hN:jS (dA g) (Cn g) (k+(dj g g.1.toNat).length):=hT.ext id (dj g g.1.toNat) hq (λx hx=>hx.1) (λx y _ _=>Iff.rfl) ((g5 _).filter _) (λe he=>((hal e).1 he).1) (λe he x hx hc=>by
    have h3:=(hal e).1 he
    have:=hiso e x h3.2 (hq.symm _ _ hx.1 h3.1 hc)
    rw[this] at hx
    obtain⟨_,h,hh,hf⟩:=hx
    exact h3.2 h hh hf) (λa ha b hb hc=>((hiso a b ((hal a).1 ha).2 hc)).symm) (λz hz=>by
    by_cases c:∃h,hf g h/\aq g h=z
    · exact .inl ⟨z,⟨hz,c⟩,hq.rfl z hz⟩
    · exact .inr ⟨z,(hal z).2 ⟨hz,λh hh e=>c ⟨h,hh,e⟩⟩,hq.rfl z hz⟩)
  have:=hN.eq hq h2
  rw[gY ht,gY hm,e1,e2]
  omega
end TL
/-
  TlCutB: BlockCuts, as its loops go.
  By an AI agent.
-/
set_option linter.all false
namespace TL
variable{g:bw}{a b v w h i j x y z e c r:Int}{k m q:Nat}{cut loops:List Bool}
theorem my(hm:aV g)(hn:g.1<=40)(he:g.2.length<=60):aV (bZ g)/\(aT g).1=bZ g/\(aT g).2=0:=by
 have ht:aV (bZ g):=qg hm (by omega) (by omega)
 refine⟨ht,?_⟩
 unfold aT
 rw[if_pos hm,if_pos ht]
 exact⟨rfl,rfl⟩
theorem rd(hm:aV g)(hj:(k:Int)<((b7 g).1.2.1.length:Int)):0<=gI (b7 g).1.2.1 (k:Int)/\gI (b7 g).1.2.1 (k:Int)<g.1:=by
 rw[jD hm] at hj ⊢
 exact((fZ hm).1 (bP (xs:=bR g) (by omega) hj)).1
theorem mr(hm:aV g)(hc:cut=fm (b7 g).1.2.1 (Int.toNat g.1) k)(hk:¬(k:Int)<((b7 g).1.2.1.length:Int))(v0:0<=v)(v1:v<g.1):gI cut v=gI (ly g) v:=by
 rw[jD hm] at hc hk
 have hk:¬(k:Int)<((bR g).length:Int):=hk
 have hc:cut=fm (bR g) (Int.toNat g.1) k:=hc
 have e:cut=fm (bR g) (Int.toNat g.1) (bR g).length:=by
   rw[hc]
   unfold fm
   rw[List.take_of_length_le (by omega),List.take_length]
 have h:=nU (l:=bR g) (n:=Int.toNat g.1) (λx hx=>by
   have:=((fZ hm).1 hx).1
   exact⟨this.1,by omega⟩) v0 (by omega) (bR g).length (Int.le_refl _)
 rw[List.take_length,fZ hm] at h
 rw[e,Bool.eq_iff_iff,h]
 exact⟨λq=>q.2,λq=>⟨⟨v0,v1⟩,q⟩⟩
structure mx(g:bw)(loops:List Bool)(k:Nat):Prop where
 lo:(loops.length:Int)=g.1
 at_:∀x,0<=x->x<g.1->(gI loops x=true↔∃j:Nat,j<k/\(gI g.2 (j:Int)).1=x/\(gI g.2 (j:Int)).2=x)
theorem mx.start(hm:aV g):mx g (List.replicate (Int.toNat g.1) false) 0:=by
 have h0:=hm.1
 refine⟨by simp;omega,λx a b=>?_⟩
 rw[ff a (by omega)]
 exact⟨λq=>absurd q (by decide),λ⟨j,q,_⟩=>absurd q (Nat.not_lt_zero j)⟩
theorem mx.yes(hm:aV g)(h:mx g loops k)(hk:(k:Int)<g.2.length)(he:(gI g.2 (k:Int)).1=(gI g.2 (k:Int)).2):mx g (loops.set (Int.toNat (gI g.2 (k:Int)).1) true) (k+1):=by
 have hl:=h.lo
 obtain⟨⟨a0,a1⟩,_⟩:=hm.2.2.2 _ (bP (xs:=g.2) (i:=(k:Int)) (by omega) hk)
 refine⟨by rw[List.length_set];exact hl,λx p q=>?_⟩
 rw[dm a0 (by omega) p]
 by_cases d:x=(gI g.2 (k:Int)).1
 · rw[if_pos d]
   exact⟨λ_=>⟨k,by omega,d.symm,by rw[<-he];exact d.symm⟩,λ_=>rfl⟩
 · rw[if_neg d,h.at_ x p q]
   constructor
   · rintro⟨j,j1,j2⟩;exact⟨j,by omega,j2⟩
   · rintro⟨j,j1,j2,j3⟩
     by_cases f:j=k
     · rw[f] at j2;exact absurd j2.symm d
     · exact⟨j,by omega,j2,j3⟩
theorem mx.no(h:mx g loops k)(he:¬(gI g.2 (k:Int)).1=(gI g.2 (k:Int)).2):mx g loops (k+1):=by
 refine⟨h.lo,λx p q=>?_⟩
 rw[h.at_ x p q]
 constructor
 · rintro⟨j,j1,j2⟩;exact⟨j,by omega,j2⟩
 · rintro⟨j,j1,j2,j3⟩
   by_cases f:j=k
   · rw[f] at j2 j3;exact absurd (j2.trans j3.symm) he
   · exact⟨j,by omega,j2,j3⟩
theorem mx.none(hm:aV g)(h:mx g loops k)(hk:¬(k:Int)<g.2.length)(v0:0<=v)(v1:v<g.1)(hn:¬gI loops v=true):∀h,hf g h->aq g h=v->b9 g h≠v:=λx hx hf ht=>by
 refine hn ((h.at_ v v0 v1).2 ⟨(x/2).toNat,?_,?_⟩)
 · have:=eY hx
   have:=dI hx
   omega
 · rw[show(((x/2).toNat:Nat):Int)=x/2 by have:=eY hx;omega]
   rcases jY (g:=g) hx.1 with⟨p,q⟩|⟨p,q⟩
   · exact⟨by rw[<-p,hf],by rw[<-q,ht]⟩
   · exact⟨by rw[<-q,ht],by rw[<-p,hf]⟩
theorem kQ(v0:0<=v)(v1:v<g.1):gI (dX g) v=((cG g v).length:Int):=s8 v0 v1
theorem tE(hm:aV g)(hc:cut=fm (b7 g).1.2.1 (Int.toNat g.1) k)(hk:¬(k:Int)<((b7 g).1.2.1.length:Int))(hl:mx g loops m)(h2:¬(m:Int)<g.2.length)(v0:0<=v)(v1:v<g.1)(hn:¬gI loops v=true)(hd:0<gI (dX g) v):gI cut v=decide ((bf g [] []).2<(bf g (List.set (List.replicate (Int.toNat g.1) false) (Int.toNat v) true) []).2):=by
  rw[mr hm hc hk v0 v1]
  rw[kQ v0 v1] at hd
  have:=nI hm v0 v1 (hl.none hm h2 v0 v1 hn)
  rw[Bool.eq_iff_iff,decide_eq_true_iff,this]
  exact⟨λq=>q.2,λq=>⟨by omega,q⟩⟩
theorem tt(hm:aV g)(hc:cut=fm (b7 g).1.2.1 (Int.toNat g.1) k)(hk:¬(k:Int)<((b7 g).1.2.1.length:Int))(hl:mx g loops m)(h2:¬(m:Int)<g.2.length)(v0:0<=v)(v1:v<g.1)(hn:¬gI loops v=true)(hd:¬0<gI (dX g) v):gI cut v=false:=by
 rw[mr hm hc hk v0 v1]
 rw[kQ v0 v1] at hd
 have:=nI hm v0 v1 (hl.none hm h2 v0 v1 hn)
 exact Bool.eq_false_iff.2 λq=>by have:=(this.1 q).1;omega
theorem mX(hv:(k:Int)<g.1)(h:a=((dj g k).length:Int))(hd:gI (dX g) (k:Int)=0):a+1=((dj g (k+1)).length:Int):=by
 rw[kQ (by omega) hv] at hd
 unfold dj at*
 rw[ck,List.filter_append,List.length_append,h]
 have:(cG g (k:Int)).length=0:=by omega
 rw[List.filter_cons,if_pos (decide_eq_true this),List.filter_nil,List.length_singleton]
 omega
theorem ph(hv:(k:Int)<g.1)(h:a=((dj g k).length:Int))(hd:¬gI (dX g) (k:Int)=0):a=((dj g (k+1)).length:Int):=by
 rw[kQ (by omega) hv] at hd
 unfold dj at*
 rw[ck,List.filter_append,List.length_append,h]
 have:¬(cG g (k:Int)).length=0:=by omega
 rw[List.filter_cons,if_neg (λq=>this (of_decide_eq_true q)),List.filter_nil,List.length_nil]
 omega
theorem sM(h:a=((dj g k).length:Int)):0<=a/\a<=(k:Int):=by
 have:(dj g k).length<=(bN k).length:=List.length_filter_le ..
 have h2:(bN k).length=k:=by simp[bN]
 omega
theorem th(hm:aV g)(ht:aV (bZ g))(h1:(aT g).1=bZ g)(ha:a=((dj g k).length:Int))(hk:(k:Int)=g.1):(bf (aT g).1 [] []).2=(bf g [] []).2-a:=by
 have:k=g.1.toNat:=by omega
 rw[h1,ha,this]
 exact oK hm ht
theorem tw(hm:aV g)(ht:aV (bZ g))(h1:(aT g).1=bZ g):((aT g).1.2.length:Int)=(aT g).1.1-(bf (aT g).1 [] []).2:=by
 rw[h1];exact oI hm ht
end TL
/-
  TlPost: what is owed behind a law that returns true and writes nothing of the caller's.
  By an AI agent.
-/
namespace TL
open Go Go.Proofs Go.ChangeShapes Go.WideShapes Go.RowKit
def o1(P:Program)(ts:List TypeId):Bool:=ts.all λt=>P.readableRec t&&decide (t<P.types.size)
theorem kr{H:Type}{enc:TypeId×Value->H}{P:Program}(hl:laidOutB P=true){W W':World}(hb:Below W.heap.size W W')(sp:Nat->Bool):
   ∀{ts:List TypeId} {vs:List Value} {ds:List (DataW H)} {ps:List MemPlace},o1 P ts=true->DataW.TrodAll enc P W 0 (λ_=>true) true ts vs ds ps->(∀p∈ps,p.block<W.heap.size)->(∀p∈ps,sp p.block=true)->DataW.TrodAll enc P W' 0 sp true ts vs ds ps
 |[],[],[],_,_,h,_,_=>h
 |[],[],_::_,_,_,h,_,_=>h.elim
 |[],_::_,_,_,_,h,_,_=>by cases‹List (DataW H)›<;>exact h.elim
 |_::_,[],_,_,_,h,_,_=>by cases‹List (DataW H)›<;>exact h.elim
 |_::_,_::_,[],_,_,h,_,_=>h.elim
 |t::ts,v::vs,d::ds,ps,hr,h,hlt,hsp=>by
   obtain⟨p,q,h1,h2,rfl⟩:=h
   simp only[o1,List.all_cons,Bool.and_eq_true,decide_eq_true_eq] at hr
   exact⟨p,q,WideElems.Trod_stays hl hr.1.1 hr.1.2 h1 (λx hx=>hb.same (hlt x (by simp[hx]))) (λx hx=>hsp x (by simp[hx])),
     kr hl hb sp hr.2 h2 (λx hx=>hlt x (by simp[hx])) (λx hx=>hsp x (by simp[hx])),rfl⟩
theorem pO{H:Type}{enc:TypeId×Value->H}{P:Program}{f:Func}{s:ChangeSpec}{W W':World}{args:Array Value}{ds gs:List (DataW H)}{before:List MemPlace}{tb:TypeId}
   (hl:laidOutB P=true)(hr:o1 P f.params.toList=true)(hv:s.vars=[])(hrt:f.resultTypes= #[tb])(htb:P.underlying tb=some .bool)
   (hW:DataW.Whole enc P f.params.toList s.vars false W args.toList ds gs before)(hfn:s.fn H (ds++gs)={results:=[.lit (.bool true)],args:=ds})(hB:Below W.heap.size W W'):
   s.post enc P f false true false false W args (.bool true) W':=by
 have hlt:=hW.lt
 have hW0:=hW
 obtain⟨p,q,hA,hV,rfl,hfz,_⟩:=hW
 rw[hv] at hV
 obtain⟨rfl,rfl⟩:=trodVars_none hV
 simp only[List.append_nil] at hlt hfz hW0 hfn
 have hres:∀(b:Nat) (sp:Nat->Bool) (hd:Bool),DataW.TrodAll enc P W' b sp hd f.resultTypes.toList ((Value.bool true).resultList f.resultTypes.size) (s.fn H (ds++[])).results []:=λb sp hd=>by
   rw[hrt,List.append_nil,hfn]
   exact trodAll_cons_mk (shut_bool htb true) trodAll_mk0
 have hargs:∀sp:Nat->Bool,(∀x∈p,sp x.block=true)->DataW.TrodAll enc P W' 0 sp true f.params.toList args.toList (s.fn H (ds++[])).args p:=λsp hsp=>by
   rw[List.append_nil,hfn]
   exact kr hl hB sp hr hA hlt hsp
 have hvars:∀sp:Nat->Bool,DataW.TrodVars enc P W' sp s.vars (s.fn H (ds++[])).vars []:=λsp=>by
   rw[List.append_nil,hfn,hv]
   rfl
 refine⟨ds,[],p,[],p,[],hW0,hres _ _ _,hargs _ (λx hx=>by simpa using hlt x hx),hvars _,World.keptBut_mono (λx hx=>⟨hx,Or.inr (by simpa using hx)⟩) (hB.frame _),λ_=>?_⟩
 refine⟨?_,_,_,([]++p)++[],⟨[]++p,[],trodAll_append (hargs _ (λ_ _=>rfl)) (hres _ _ _),hvars _,rfl,?_,?_⟩,?_⟩
 · exact ok_one hrt rfl (okWide_bool_mk htb true)
 · intro b off hp
   have hp':MemPlace.cell b off∈p:=by simpa using hp
   rw[hB.frozen (p:=⟨b,off,none⟩) (hlt _ hp')]
   exact hfz b off hp'
 · intro ha;cases ha
 · intro x hx _
   simpa using hx
end TL
