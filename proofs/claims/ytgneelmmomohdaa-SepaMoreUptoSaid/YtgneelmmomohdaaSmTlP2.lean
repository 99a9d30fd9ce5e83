/- Plain texts of this claim, part 2. By an AI agent. -/
import Derived.Test.YtgneelmmomohdaaSmTlP1
import Derived.Carry
import Derived.Deep.Slices
import Derived.Laws.Externs
import Derived.Laws.FloatArith
import Derived.Laws.FloatBits
import Derived.Laws.NewFold
import Derived.Lib.SmallJoins
/-
  TlTr: one of each class, how many classes there are; the components of a net.
  By an AI agent.
-/
set_option linter.all false
namespace TL
structure xC(D:Int->Prop)(R:Int->Int->Prop):Prop where
 rfl:∀x,D x->R x x
 symm:∀x y,D x->D y->R x y->R y x
 trans:∀x y z,D x->D y->D z->R x y->R y z->R x z
theorem mw{P:Int->Int->Prop}:∀(l l':List Int),l.Nodup->(∀x∈l,∃y∈l',P x y)->(∀x∈l,∀x'∈l,∀y,y∈l'->P x y->P x' y->x=x')->l.length<=l'.length
 |[],l',_,_,_=>by simp
 |a::l,l',hn,h1,h2=>by
   obtain⟨y,hy,hp⟩:=h1 a (by simp)
   have hn':=List.nodup_cons.1 hn
   have h3:=mw (P:=P) l (l'.erase y) hn'.2 (λx hx=>by
     obtain⟨z,hz,hq⟩:=h1 x (by simp[hx])
     refine⟨z,(List.mem_erase_of_ne (λe=>?_)).2 hz,hq⟩
     subst e
     have:=h2 a (by simp) x (by simp[hx]) z hz hp hq
     subst this
     exact hn'.1 hx) (λx hx x' hx' z hz=>h2 x (by simp[hx]) x' (by simp[hx']) z (List.mem_of_mem_erase hz))
   have h4:=List.length_erase_of_mem hy
   have h5:=List.length_pos_of_mem hy
   simp;omega
def im(g:bh)(v:Int):Prop:=0<=v/\v<g.1
def Cn(g:bh)(u v:Int):Prop:=∀R:Int->Int->Prop,xC (im g) R->(∀e∈g.2,R e.1 e.2)->R u v
theorem Cn.eqv(g:bh):xC (im g) (Cn g):=
 ⟨λx hx R hR _=>hR.rfl x hx,λx y hx hy h R hR he=>hR.symm x y hx hy (h R hR he),λx y z hx hy hz h1 h2 R hR he=>hR.trans x y z hx hy hz (h1 R hR he) (h2 R hR he)⟩
theorem Cn.edge{g:bh}{e:Int×Int}(h:e∈g.2):Cn g e.1 e.2:=λR _ he=>he e h
theorem Cn.half{g:bh}(hm:aV g){h:Int}(h0:0<=h)(h1:h<2*(g.2.length:Int)):Cn g (aK g h) (bC g h):=by
 have hin:=bF (xs:=g.2) (i:=h/2) (by omega) (by omega)
 have hok:=hm.2.2.2 _ hin
 have hc:=Cn.edge hin
 unfold aK bC pI
 have h2:h%2=0\/h%2=1:=by omega
 rcases h2 with e|e
 · rw[e];simpa using hc
 · rw[e]
   exact(Cn.eqv g).symm _ _ hok.1 hok.2 (by simpa using hc)
theorem tL{g:bh}{i:Nat}(hi:(i:Int)<g.2.length):2*(i:Int)∈dQ g (gI g.2 (i:Int)).1/\2*(i:Int)+1∈dQ g (gI g.2 (i:Int)).2/\bC g (2*(i:Int))=(gI g.2 (i:Int)).2/\bC g (2*(i:Int)+1)=(gI g.2 (i:Int)).1:=by
 have e1:(2*(i:Int))/2=i:=by omega
 have e2:(2*(i:Int))%2=0:=by omega
 have e3:(2*(i:Int)+1)/2=i:=by omega
 have e4:(2*(i:Int)+1)%2=1:=by omega
 refine⟨?_,?_,by unfold bC;rw[e1,e2];simp[pI],by unfold bC;rw[e3,e4];simp[pI]⟩
 · unfold dQ gK
   refine List.mem_filter.2 ⟨List.mem_map.2 ⟨2*i,List.mem_range.2 (by omega),by push_cast;rfl⟩,?_⟩
   simp only[decide_eq_true_eq]
   unfold aK;rw[e1,e2];simp[pI]
 · unfold dQ gK
   refine List.mem_filter.2 ⟨List.mem_map.2 ⟨2*i+1,List.mem_range.2 (by omega),by push_cast;rfl⟩,?_⟩
   simp only[decide_eq_true_eq]
   unfold aK;rw[e3,e4];simp[pI]
theorem r6{g:bh}{S:Int->Prop}(hS:∀x h,S x->h∈dQ g x->S (bC g h)){u v:Int}(hc:Cn g u v):S u->S v:=by
 refine(hc (λu v=>S u↔S v) ⟨λ_ _=>Iff.rfl,λ_ _ _ _ h=>h.symm,λ_ _ _ _ _ _ h1 h2=>h1.trans h2⟩ (λe he=>?_)).1
 obtain⟨i,hi,rfl⟩:=List.mem_iff_getElem.1 he
 have e:gI g.2 (i:Int)=g.2[i]:=by simp[gI,hi]
 obtain⟨a,b,c,d⟩:=tL (g:=g) (i:=i) (by omega)
 rw[e] at a b c d
 exact⟨λh=>by rw[<-c];exact hS _ _ h a,λh=>by rw[<-d];exact hS _ _ h b⟩
theorem qJ(g:bh)(v:Int)(s:Bf)(h:Int):∀x∈(eU g v s h).order,x∈s.order\/x=bC g h:=by
 intro x hx
 unfold eU at hx
 split at hx
 · rcases List.mem_append.1 hx with hx|hx
   · exact .inl hx
   · exact .inr (List.mem_singleton.1 hx)
 · exact .inl hx
theorem me{g:bh}(hm:aV g){v:Int}:∀(l:List Int) (s:Bf),(∀h∈l,h∈dQ g v)->iv g s->v∈s.order->
   iv g (l.foldl (eU g v) s)/\(∃t,(l.foldl (eU g v) s).order=s.order++t)/\(∀x∈(l.foldl (eU g v) s).order,x∈s.order\/∃h∈dQ g v,x=bC g h)/\∀h∈l,bC g h∈(l.foldl (eU g v) s).order
 |[],s,_,hs,hv=>⟨hs,⟨[],by simp⟩,λx hx=>.inl hx,by simp⟩
 |a::l,s,hl,hs,hv=>by
   have hin:=(eP (hl a (by simp))).1
   have ht:=gF hm hin.1 hin.2
   have h1:=hs.one (v:=v) (h:=a) hv ht.1 ht.2
   obtain⟨t,ht1⟩:=lV g v s a
   have ha:bC g a∈(eU g v s a).order:=by
     by_cases c:gI s.far (bC g a)<0
     · unfold eU;rw[if_pos c];simp
     · rw[ht1]
       have:bC g a∈s.order:=Classical.byContradiction λhn=>c ((hs.iff _ ht.1 ht.2).2 hn)
       simp[this]
   obtain⟨k1,⟨t2,k2⟩,k3,k4⟩:=me hm l (eU g v s a) (λh hh=>hl h (by simp[hh])) h1 (by rw[ht1];simp[hv])
   rw[List.foldl_cons]
   refine⟨k1,⟨t++t2,by rw[k2,ht1,List.append_assoc]⟩,λx hx=>?_,λh hh=>?_⟩
   · rcases k3 x hx with hx|hx
     · rcases qJ g v s a x hx with hx|hx
       · exact .inl hx
       · exact .inr ⟨a,hl a (by simp),hx⟩
     · exact .inr hx
   · rcases List.mem_cons.1 hh with rfl|hh
     · rw[k2];simp[ha]
     · exact k4 h hh
theorem pv{g:bh}(hm:aV g){s0:Int}:∀(n i:Nat) (s:Bf),iv g s->(∀x∈s.order,Cn g s0 x)->s0∈s.order->im g s0->(∀q:Nat,q<i->(q:Int)<s.order.length->∀h∈dQ g (gI s.order (q:Int)),bC g h∈s.order)->(g.1:Int)<=n+i->
   iv g (k8 g n i s)/\(∀x∈(k8 g n i s).order,Cn g s0 x)/\s0∈(k8 g n i s).order/\∀x∈(k8 g n i s).order,∀h∈dQ g x,bC g h∈(k8 g n i s).order
 |0,i,s,hs,hc,h0,hd,hq,hn=>by
   refine⟨hs,hc,h0,λx hx h hh=>?_⟩
   obtain⟨q,hq1,e⟩:=List.mem_iff_getElem.1 hx
   have hl:=hs.len hm.1
   change q<s.order.length at hq1
   have eq1:gI s.order (q:Int)=x:=by simp only[k8] at e;simp[gI,hq1,e]
   exact hq q (by omega) (by omega) h (by rw[eq1];exact hh)
 |n+1,i,s,hs,hc,h0,hd,hq,hn=>by
   simp only[k8]
   by_cases c:i<s.order.length
   · rw[if_pos c]
     have hv:=bF (xs:=s.order) (i:=(i:Int)) (by omega) (by omega)
     obtain⟨k1,⟨t,k2⟩,k3,k4⟩:=me hm (v:=gI s.order (i:Int)) (dQ g (gI s.order (i:Int))) s (λh hh=>hh) hs hv
     have hvd:=hs.rng _ hv
     have hpre:∀q:Nat,(q:Int)<s.order.length->gI (lf g (gI s.order (i:Int)) s).order (q:Int)=gI s.order (q:Int):=λq hq'=>by
       unfold lf;rw[k2];unfold gI
       have:((q:Int)).toNat<s.order.length:=by omega
       simp only[Int.toNat_natCast] at this ⊢
       simp[List.getD_eq_getElem?_getD,List.getElem?_append_left this]
     refine pv hm n (i+1) (lf g (gI s.order (i:Int)) s) k1 (λx hx=>?_) (by unfold lf;rw[k2];simp[h0]) hd (λq hq1 hq2 h hh=>?_) (by omega)
     · rcases k3 x hx with hx|⟨h,hh,rfl⟩
       · exact hc x hx
       · have hin:=eP hh
         have h1:=Cn.half hm hin.1.1 hin.1.2
         rw[hin.2] at h1
         exact(Cn.eqv g).trans _ _ _ hd hvd (gF hm hin.1.1 hin.1.2) (hc _ hv) h1
     · by_cases e:q=i
       · subst e
         rw[hpre q (by omega)] at hh
         exact k4 h hh
       · have hq3:(q:Int)<s.order.length:=by omega
         rw[hpre q hq3] at hh
         have:=hq q (by omega) hq3 h hh
         unfold lf;rw[k2];simp[this]
   · rw[if_neg c]
     refine⟨hs,hc,h0,λx hx h hh=>?_⟩
     obtain⟨q,hq1,e⟩:=List.mem_iff_getElem.1 hx
     have eq1:gI s.order (q:Int)=x:=by simp[gI,hq1,e]
     exact hq q (by omega) (by omega) h (by rw[eq1];exact hh)
theorem nA{g:bh}(hm:aV g){s0:Int}(h0:im g s0):(∀x∈(cF g s0).order,im g x)/\∀x,x∈(cF g s0).order↔Cn g s0 x:=by
 obtain⟨k1,k2,k3,k4⟩:=pv hm (s0:=s0) g.1.toNat 0 (eo g s0) (iv.start h0.1 h0.2) (by simp[eo];exact(Cn.eqv g).rfl s0 h0) (by simp[eo]) h0 (λq hq=>by omega) (by have:=hm.1;omega)
 refine⟨k1.rng,λx=>⟨k2 x,λhc=>?_⟩⟩
 exact r6 (S:=λx=>x∈(cF g s0).order) (λx h hx hh=>k4 x hx h hh) hc k3
theorem pD{n:Int}:∀(O p:List Int) (v:Int),0<=v->v<p.length->(∀x∈O,0<=x/\x<p.length)->gI (O.foldl (λl w=>l.set w.toNat n) p) v=if v∈O then n else gI p v
 |[],p,v,h0,h1,_=>by simp
 |a::O,p,v,h0,h1,ho=>by
   have ha:=ho a (by simp)
   rw[List.foldl_cons,pD O _ v h0 (by simpa using h1) (λx hx=>by simpa using ho x (by simp[hx])),c5 ha.1 ha.2 h0]
   by_cases e:v=a
   · subst e;simp
   · by_cases hv:v∈O
     · simp[hv]
     · simp[hv,e]
end TL
/-
  TlDfs: components found by a stack: the document's way.
  By an AI agent.
-/
set_option linter.all false
namespace TL
theorem g5{g:bh}{v:Int}(h0:0<=v)(h1:v<g.1):gI (bg g) v=dQ g v:=by
 unfold bg gI
 have:v.toNat<g.1.toNat:=by omega
 simp[List.getD_eq_getElem?_getD,this]
 congr 1
 omega
section
variable{g:bh}{c0 c todo x:List Int}{n s:Int}
variable{v:Int}{k M:Nat}
end
end TL
/-
  TlFloat: floating numbers that are no NaN and have no sign: their bits, as a natural number, stand as they do; sums, roots and quotients of such.
  By an AI agent.
-/
set_option linter.all false
namespace TL
open Ieee
def pl(x:Nat):Nat:=x/4503599627370496-1
end TL
/-
  TlFl: floating numbers in a walk: what each operation comes to.
  By an AI agent.
-/
set_option linter.all false
namespace TL
open Go
instance:Rp Nat where
 sz:=1
 rep _ _ _ cs x:=cs=[.float .f64 x]
 len h:=by subst h;rfl
 one h:=by subst h;simp[Value.oneCell']
 tr _ _ h:=h
instance:Fl Nat where
 cells x:=[.float .f64 x]
 rep_iff:=Iff.rfl
section
variable{P:Program}{f:Fr}{w:World}{dst:Option Tmp}{ty:TypeId}{pos:String}{after:Array Edge}{g:Option (Nat×Bool)}{t t' s d:TypeId}{x y:Operand}{a b r:Nat}
variable{N:Value->World->Prop}
end
end TL
/-
  TlGeom: points with whole coordinates: turns, segments, how they meet.
  By an AI agent.
-/
set_option linter.all false
namespace TL
abbrev Pt:=Int×Int
def ec(x y:Int):Int:=if x<y then-1 else if y<x then 1 else 0
def x9(a b:Pt):Int:=a.1*b.2-a.2*b.1
def wL(b a:Pt):Pt:=(b.1-a.1,b.2-a.2)
def qS(a b c:Pt):Int:=ec (x9 (wL b a) (wL c a)) 0
def vO(a b p:Pt):Prop:=(min a.1 b.1<=p.1/\p.1<=max a.1 b.1)/\min a.2 b.2<=p.2/\p.2<=max a.2 b.2
instance (a b p:Pt):Decidable (vO a b p):=by unfold vO;infer_instance
def sY(a b p:Pt):Prop:=qS a b p=0/\vO a b p
instance (a b p:Pt):Decidable (sY a b p):=by unfold sY;infer_instance
def nn(a b:Pt):Int:=if ec a.1 b.1≠0 then ec a.1 b.1 else ec a.2 b.2
def wJ(a b c d:Pt):Int:=
 let a':=if 0<nn a b then b else a
 let b':=if 0<nn a b then a else b
 let c':=if 0<nn c d then d else c
 let d':=if 0<nn c d then c else d
 let low:=if 0<nn c' a' then c' else a'
 let high:=if nn d' b'<0 then d' else b'
 if 0<nn low high then 0 else if nn low high=0 then 2 else 3
def gM(a b c d:Pt):Int:=
 if qS a b c=0/\qS a b d=0/\qS c d a=0/\qS c d b=0 then wJ a b c d
 else if qS a b c*qS a b d<0/\qS c d a*qS c d b<0 then 1
 else if sY a b c\/sY a b d\/sY c d a\/sY c d b then 2 else 0
def key(p:Pt):Int:=p.1*1073741824+p.2
def xA(p:Pt):Prop:=(-4194304<=p.1/\p.1<=4194304)/\ -4194304<=p.2/\p.2<=4194304
end TL
namespace TL
def wF(p:Pt):Prop:=(-1048576<=p.1/\p.1<=1048576)/\ -1048576<=p.2/\p.2<=1048576
instance (p:Pt):Decidable (wF p):=by unfold wF;infer_instance
theorem wF.bd{p:Pt}(h:wF p):xA p:=by unfold wF at h;unfold xA;omega
def xc(ps:List Pt):Prop:=ps.length<=4096/\∀p∈ps,wF p
instance (ps:List Pt):Decidable (xc ps):=by unfold xc;infer_instance
def pd:List Int->Int
 |[]=>0
 |x::l=>if x=0 then pd l else x
theorem sd{l:List Int}{k:Nat}(h:∀j:Nat,j<k->gI l (j:Int)=0)(hk:(k:Int)<l.length)(hx:gI l (k:Int)≠0):gI l (k:Int)=pd l:=by
 induction l generalizing k with
 |nil=>simp at hk;omega
 |cons a l ih=>
   cases k with
   |zero=>
     have e:gI (a::l) ((0:Nat):Int)=a:=by simp[gI]
     rw[e] at hx ⊢
     unfold pd;rw[if_neg hx]
   |succ k=>
     have e:∀j:Nat,gI (a::l) ((j+1:Nat):Int)=gI l (j:Int):=λj=>by simp[gI]
     have e0:gI (a::l) ((0:Nat):Int)=a:=by simp[gI]
     have h0:=h 0 (by omega)
     rw[e0] at h0
     rw[e] at hx ⊢
     unfold pd;rw[if_pos h0]
     exact ih (λj hj=>by rw[<-e];exact h (j+1) (by omega)) (by simp at hk;omega) hx
theorem sN{l:List Int}{k:Nat}(h:∀j:Nat,j<k->gI l (j:Int)=0)(hk:¬(k:Int)<l.length):0=pd l:=by
 induction l generalizing k with
 |nil=>rfl
 |cons a l ih=>
   have e:∀j:Nat,gI (a::l) ((j+1:Nat):Int)=gI l (j:Int):=λj=>by simp[gI]
   have e0:gI (a::l) ((0:Nat):Int)=a:=by simp[gI]
   simp at hk
   have h0:=h 0 (by omega)
   rw[e0] at h0
   unfold pd;rw[if_pos h0]
   exact ih (k:=k-1) (λj hj=>by rw[<-e];exact h (j+1) (by omega)) (by omega)
def py(p:Pt):Int:=if 0<p.1\/p.1=0/\0<p.2 then 0 else 1
section
variable{a b c d:Pt}
end
end TL
/-
  TlGeomM: meeting segments: moved, turned, named another way about; what ends they share.
  By an AI agent.
-/
set_option linter.all false
namespace TL
section
variable{a b c d:Pt}
def lh(a b c d e:Pt):Prop:=sY a b e/\sY c d e
instance (a b c d e:Pt):Decidable (lh a b c d e):=by unfold lh;infer_instance
def tc(a b c d:Pt):Prop:=qS a b c*qS a b d<0/\qS c d a*qS c d b<0
instance (a b c d:Pt):Decidable (tc a b c d):=by unfold tc;infer_instance
end
end TL
/-
  TlGeomR: what is told of many points: areas, boxes, whether a polyline is simple.
  By an AI agent.
-/
set_option linter.all false
namespace TL
def mO(ps:List Pt):Prop:=4<=(ps.length:Int)/\gI ps 0=gI ps ((ps.length:Int)-1)
instance (ps:List Pt):Decidable (mO ps):=by unfold mO;infer_instance
def qg(ps:List Pt)(i k:Nat):Prop:=k=i+1\/i=0/\(k:Int)=(ps.length:Int)-2/\mO ps
instance (ps:List Pt)(i k:Nat):Decidable (qg ps i k):=by unfold qg;infer_instance
def xG(ps:List Pt)(i k:Nat):Int:=gM (gI ps (i:Int)) (gI ps ((i:Int)+1)) (gI ps (k:Int)) (gI ps ((k:Int)+1))
def wl(ps:List Pt)(i k:Nat):Prop:=qg ps i k/\xG ps i k=3\/¬qg ps i k/\xG ps i k≠0
instance (ps:List Pt)(i k:Nat):Decidable (wl ps i k):=by unfold wl;infer_instance
def wr(ps:List Pt)(i:Nat):Prop:=gI ps (i:Int)≠gI ps ((i:Int)+1)/\∀k<ps.length,i<k->(k:Int)<=(ps.length:Int)-2->¬wl ps i k
instance (ps:List Pt)(i:Nat):Decidable (wr ps i):=by unfold wr;infer_instance
def wU(ps:List Pt):Prop:=∀i<ps.length,(i:Int)<=(ps.length:Int)-2->wr ps i
instance (ps:List Pt):Decidable (wU ps):=by unfold wU;infer_instance
section
variable{ps:List Pt}
variable{i k:Nat}
end
end TL
/-
  TlGeomS: polylines gone back, and two of them named the other way about.
  By an AI agent.
-/
set_option linter.all false
namespace TL
abbrev Sg:=Pt×Pt
def rR(ps:List Pt):Nat->List Sg
 |0=>[]
 |k+1=>rR ps k++[(gI ps (k:Int),gI ps ((k:Int)+1))]
def ug(ps:List Pt):List Sg:=if ps.length=1 then[(gI ps 0,gI ps 0)] else rR ps (ps.length-1)
def vq(ps:List Pt):Pt:=gI ps ((ps.length:Int)-1)
def wj(ps:List Pt)(p:Pt):Prop:=p=gI ps 0\/p=vq ps
instance (ps:List Pt)(p:Pt):Decidable (wj ps p):=by unfold wj;infer_instance
def u7(q:List Pt)(s t:Sg)(x:Pt):Prop:=wj q x/\sY s.1 s.2 x/\sY t.1 t.2 x
instance (q:List Pt)(s t:Sg)(x:Pt):Decidable (u7 q s t x):=by unfold u7;infer_instance
def tI(p q:List Pt)(s t:Sg):Prop:=u7 q s t (gI p 0)\/u7 q s t (vq p)
instance (p q:List Pt)(s t:Sg):Decidable (tI p q s t):=by unfold tI;infer_instance
def wa(p q:List Pt)(s t:Sg):Prop:=gM s.1 s.2 t.1 t.2=3\/gM s.1 s.2 t.1 t.2≠0/\¬tI p q s t
instance (p q:List Pt)(s t:Sg):Decidable (wa p q s t):=by unfold wa;infer_instance
def wR(p q:List Pt):Prop:=∀s∈ug p,∀t∈ug q,¬wa p q s t
instance (p q:List Pt):Decidable (wR p q):=by unfold wR;infer_instance
section
variable{p q:List Pt}
end
end TL
namespace TL
section
variable{p q:List Pt}{i k:Nat}
variable{s t:Sg}
end
end TL
namespace TL
section
variable{p q:List Pt}{s t:Sg}{i:Nat}
end
end TL
/-
  TlGeomB: a box holds all points, and each of its sides has one; how many ends two segments share.
  By an AI agent.
-/
set_option linter.all false
namespace TL
def wz(p:Pt->Bool)(ps:List Pt):Nat->Bool
 |0=>false
 |k+1=>wz p ps k||p (gI ps (k:Int))
theorem om{p:Pt->Bool}{ps:List Pt}:∀{k:Nat} {j:Nat},j<k->p (gI ps (j:Int))=true->wz p ps k=true
 |0,j,hj,_=>by omega
 |k+1,j,hj,h=>by
   unfold wz
   by_cases e:j=k
   · subst e;rw[h];simp
   · rw[om (by omega) h];simp
section
variable{a b c d:Pt}{ends:List Pt}{k:Nat}
end
end TL
namespace TL
end TL
/-
  TlGeomX: polylines: the document's way and the code's.
  By an AI agent.
-/
set_option linter.all false
namespace TL
section
variable{a b c d:Pt}
end
section
variable{ps:List Pt}{i k:Nat}
end
def wD(but:List Pt)(s t:Sg):Prop:=gM s.1 s.2 t.1 t.2=3\/(gM s.1 s.2 t.1 t.2=1/\¬∃x∈but,lh s.1 s.2 t.1 t.2 x)\/((gM s.1 s.2 t.1 t.2≠0/\gM s.1 s.2 t.1 t.2≠1)/\∃e∈[s.1,s.2,t.1,t.2],lh s.1 s.2 t.1 t.2 e/\e∉but)
instance (but:List Pt)(s t:Sg):Decidable (wD but s t):=by unfold wD;infer_instance
def wO(p q but:List Pt):Prop:=∃s∈ug p,∃t∈ug q,wD but s t
instance (p q but:List Pt):Decidable (wO p q but):=by unfold wO;infer_instance
section
variable{p q B:List Pt}
end
end TL
namespace TL
section
variable{p q but:List Pt}{i k:Nat}
variable{s t:Sg}
def vW(s t:Sg)(but:List Pt)(k:Nat):Bool:=wz (λx=>decide (lh s.1 s.2 t.1 t.2 x)) but k
theorem tt{f:Pt->Bool}{ps:List Pt}:∀{k:Nat},wz f ps k=true->∃j:Nat,j<k/\f (gI ps (j:Int))=true
 |0,h=>by simp[wz] at h
 |k+1,h=>by
   unfold wz at h
   rcases Bool.or_eq_true _ _▸h with h|h
   · obtain⟨j,hj,e⟩:=tt h
     exact⟨j,by omega,e⟩
   · exact⟨k,by omega,h⟩
theorem uK{j:Nat}(hj:¬(j:Int)<but.length)(hj2:j<=but.length):vW s t but j=true↔∃x∈but,lh s.1 s.2 t.1 t.2 x:=by
 unfold vW
 constructor
 · intro h
   obtain⟨i,hi,e⟩:=tt h
   exact⟨_,bF (by omega) (by omega),of_decide_eq_true e⟩
 · rintro⟨x,hx,h⟩
   obtain⟨i,hi,rfl⟩:=List.mem_iff_getElem.1 hx
   have e:gI but (i:Int)=but[i]:=by unfold gI;rw[Int.toNat_natCast,List.getD_eq_getElem?_getD,List.getElem?_eq_getElem hi];rfl
   exact om (j:=i) (by omega) (by rw[e];exact decide_eq_true h)
theorem xH(h:gM s.1 s.2 t.1 t.2=0):¬wD but s t:=by
 unfold wD;rw[h];simp
theorem xB(h:gM s.1 s.2 t.1 t.2=1){j:Nat}(hj:¬(j:Int)<but.length)(hj2:j<=but.length){b:Bool}(hb:b=vW s t but j)(h1:¬b=true):wD but s t:=
 .inr (.inl ⟨h,λhe=>h1 (hb.trans ((uK hj hj2).2 he))⟩)
end
end TL
/-
  TlAround: points round another one: the order, its laws, the list that is sorted by it.
  By an AI agent.
-/
set_option linter.all false
namespace TL
def x6(p:Pt):Int:=p.1*p.1+p.2*p.2
def xJ(a b:Pt)(i k:Int):Prop:=py a<py b\/py a=py b/\(x9 a b<0\/x9 a b=0/\(x6 a<x6 b\/x6 a=x6 b/\i<k))
def vA(o:Pt)(ps:List Pt)(i:Int):Pt:=wL (gI ps i) o
def xO(o:Pt)(ps:List Pt)(i k:Int):Prop:=xJ (vA o ps i) (vA o ps k) i k
def xI(o:Pt)(ps:List Pt)(k:Nat)(l:List Int):Prop:=l.Pairwise (xO o ps)/\∀x,x∈l↔0<=x/\x<(k:Int)
section
variable{o:Pt}{ps:List Pt}{k:Nat}{l l':List Int}
open Classical in
noncomputable def arL (o:Pt) (ps:List Pt):List Int:=if h:∃l,xI o ps ps.length l then choose h else[]
end
section
variable{o:Pt}{ps:List Pt}{k:Nat}{l:List Int}{q:Int}
end
section
variable{o:Pt}{ps:List Pt}
end
end TL
/-
  TlJudge: plots: their flaws, as the code and the document gather them.
  By an AI agent.
-/
set_option linter.all false
namespace TL
abbrev xK:=Int×Int×Int
abbrev lE:=List Pt×List (List Pt)
section
variable{β:Type}{f h:Nat->List β}{k n:Nat}{x:β}{F B:List β}
end
section
variable{β:Type}{p:Prop}[Decidable p]{x:β}
end
def xD(l:List Pt):Prop:=2<=(l.length:Int)/\xc l
instance (l:List Pt):Decidable (xD l):=by unfold xD;infer_instance
def vy(g:bh)(p:lE)(e:Int):Prop:=gI (gI p.2 e) 0=gI p.1 (gI g.2 e).1/\gI (gI p.2 e) (((gI p.2 e).length:Int)-1)=gI p.1 (gI g.2 e).2
instance (g:bh)(p:lE)(e:Int):Decidable (vy g p e):=by unfold vy;infer_instance
def vD(l:List Pt)(q:Pt):Prop:=∃s∈rR l (l.length-1),sY s.1 s.2 q
instance (l:List Pt)(q:Pt):Decidable (vD l q):=by unfold vD;infer_instance
def sx(s t:Sg)(but:List Pt):Prop:=gM s.1 s.2 t.1 t.2=0\/(gM s.1 s.2 t.1 t.2=1\/gM s.1 s.2 t.1 t.2=2)/\∃x∈but,lh s.1 s.2 t.1 t.2 x
instance (s t:Sg)(but:List Pt):Decidable (sx s t but):=by unfold sx;infer_instance
def wZ(a b but:List Pt):Prop:=∀s∈rR a (a.length-1),∀t∈rR b (b.length-1),sx s t but
instance (a b but:List Pt):Decidable (wZ a b but):=by unfold wZ;infer_instance
section
variable{g:bh}{p:lE}
end
end TL
namespace TL
section
variable{l:List Pt}{p:Pt}{i:Nat}
end
section
variable{a b c d:Pt}{but:List Pt}{k:Nat}{m:Int}
end
def xb(p:lE)(h:Int):Pt:=if h%2=0 then gI (gI p.2 (h/2)) 1 else gI (gI p.2 (h/2)) (((gI p.2 (h/2)).length:Int)-2)
def xj(u v:Pt):Int:=u.1*v.1+u.2*v.2
def sk(u v:Pt):Prop:=x9 u v=0/\0<xj u v
instance (u v:Pt):Decidable (sk u v):=by unfold sk;infer_instance
end TL
namespace TL
end TL
namespace TL
section
variable{g:bh}{p:lE}{F G B:List xK}{v e k i:Nat}
end
section
variable{g:bh}{p:lE}{e f:Int}
end
section
variable{a b but:List Pt}{i k:Nat}
end
section
variable{g:bh}{p:lE}{e f:Nat}{b:Bool}
end
end TL
/-
  TlJudge2: what is told of a plot; its rotation.
  By an AI agent.
-/
set_option linter.all false
namespace TL
section
variable{p:lE}{l:List Pt}{a b:Bool}{i k:Nat}
end
section
variable{g:bh}{p:lE}
end
def x8(p:lE)(l:List Int):List Pt:=l.map (xb p)
def wt(p:lE)(o:Pt)(l:List Int):Prop:=∃j:Nat,j<l.length/\0<j/\sk (wL (gI (x8 p l) (gI (arL o (x8 p l)) ((j:Int)-1))) o) (wL (gI (x8 p l) (gI (arL o (x8 p l)) (j:Int))) o)
noncomputable instance (p:lE) (o:Pt) (l:List Int):Decidable (wt p o l):=by unfold wt;infer_instance
def wS(g:bh)(p:lE):Prop:=∃v:Nat,v<g.1.toNat/\wt p (gI p.1 (v:Int)) (dQ g (v:Int))
noncomputable instance (g:bh) (p:lE):Decidable (wS g p):=by unfold wS;infer_instance
end TL
/-
  TlZf: weights: floating numbers that are at gg 0, of either sign of 0: in sums and comparisons such a one stands for its magnitude (zf).
  By an AI agent.
-/
set_option linter.all false
namespace TL
open Ieee
def zf(x:Nat):Nat:=x%9223372036854775808
open Go
end TL
/-
  TlPq: a heap of places (how far, which node), as container/heap keeps it: what is taken is the gg, and nothing else is lost.
  By an AI agent.
-/
set_option linter.all false
namespace TL
abbrev Pl:=Nat×Int
def qc(a b:Pl):Prop:=a.1<b.1\/a.1=b.1/\a.2<b.2
instance (a b:Pl):Decidable (qc a b):=by unfold qc;infer_instance
theorem pu(a:Pl):¬qc a a:=by unfold qc;omega
theorem wu{a b:Pl}(h:qc a b):¬qc b a:=by unfold qc at*;omega
theorem uf{a b:Pl}(h1:¬qc a b)(h2:¬qc b a):a=b:=by
 unfold qc at*
 exact Prod.ext (by omega) (by omega)
end TL
namespace TL
end TL
/-
  TlWay: ways of the gg weight (package path): what From tells, as the document does it (the nearest node that is not settled, again and again), and that a heap of waiting nodes finds the same.
  By an AI agent.
-/
set_option linter.all false
namespace TL
abbrev FS:=List Nat×List Int
-- what is picked
-- once all are settled no more rounds matter
end TL
namespace TL
end TL
/-
  TlBlk: blocks by a walk depth first with a stack of edges, as the program does it, and what its walk may rely on.
  By an AI agent.
-/
set_option linter.all false
namespace TL
structure Bs where
 place:List Int
 low:List Int
 by_:List Int
 next:List Int
 found:Int
 edges:List Int
 laid:List Bool
 block:List Int
 count:Int
def mX(l:List Int)(x:Int):Nat:=l.length-1-l.reverse.idxOf x
def dq(s:Bs)(first:Int):Bs:=
 {s with block:=(s.edges.drop (mX s.edges first)).foldl (λb e=>b.set e.toNat s.count) s.block,edges:=s.edges.take (mX s.edges first),count:=s.count+1}
def fF(s:Bs)(v:Int):Bs:={s with found:=s.found+1,place:=s.place.set v.toNat (s.found+1),low:=s.low.set v.toNat (s.found+1)}
def gC(s:Bs)(e:Int):Bs:={s with laid:=s.laid.set e.toNat true,edges:=s.edges++[e]}
def dG(g:bh)(s:Bs)(v h:Int):Bs×Int×Bool:=
 if gI s.laid (h/2)=true then(s,0,false)
 else if bC g h=v then(dq (gC s (h/2)) (h/2),0,false)
 else if gI s.place (bC g h)=0 then(fF {gC s (h/2) with by_:=s.by_.set (bC g h).toNat h} (bC g h),bC g h,true)
 else({gC s (h/2) with low:=s.low.set v.toNat (min (gI s.low v) (gI s.place (bC g h)))},0,false)
def dg(g:bh)(s:Bs)(v:Int):Bs:=
 if gI s.by_ v<0 then s
 else
   let u:=aK g (gI s.by_ v)
   let s1:Bs:={s with low:=s.low.set u.toNat (min (gI s.low u) (gI s.low v))}
   if gI s1.place u<=gI s1.low v then dq s1 (gI s.by_ v/2) else s1
def da(g:bh)(s:Bs)(path:List Int)(u:Int):Bs×List Int:=
 if gI s.next u=((gI (bg g) u).length:Int) then(dg g s u,path.dropLast)
 else
   let h:=gI (gI (bg g) u) (gI s.next u)
   let t:=dG g {s with next:=s.next.set u.toNat (gI s.next u+1)} u h
   (t.1,if t.2.2=true then path++[t.2.1] else path)
def rm(g:bh):Nat->Bs->List Int->Bs
 |0,s,_=>s
 |n+1,s,path=>if path=[] then s else rm g n (da g s path (gI path ((path.length:Int)-1))).1 (da g s path (gI path ((path.length:Int)-1))).2
def bQ(g:bh)(s:Bs)(path:List Int):Nat:=2*(((bG g.1.toNat).map λv=>((gI (bg g) v).length-(gI s.next v).toNat)).sum)+path.length
def fm(g:bh)(s:Bs)(v:Int):Bs:=rm g (bQ g (fF s v) [v]) (fF s v) [v]
def fY(g:bh):Bs:=⟨List.replicate g.1.toNat 0,List.replicate g.1.toNat 0,List.replicate g.1.toNat (-1),List.replicate g.1.toNat 0,0,[],List.replicate g.2.length false,List.replicate g.2.length 0,0⟩
def dH(g:bh)(k:Nat):Bs:=(bG k).foldl (λs v=>if gI s.place v=0 then fm g s v else s) (fY g)
def eW(by_:List Int)(path:List Int):List Int:=path.tail.map λv=>gI by_ v/2
structure dY(g:bh)(s:Bs)(path:List Int):Prop where
  l1:(s.place.length:Int)=g.1
  l2:(s.low.length:Int)=g.1
  l3:(s.by_.length:Int)=g.1
  l4:(s.next.length:Int)=g.1
  l5:(s.laid.length:Int)=g.2.length
  l6:(s.block.length:Int)=g.2.length
  nx:∀v,0<=v->v<g.1->0<=gI s.next v/\gI s.next v<=((gI (bg g) v).length:Int)
  pl:∀v,0<=v->v<g.1->0<=gI s.place v/\gI s.place v<=s.found
  f0:0<=s.found
  fn:s.found+(s.place.count 0:Int)=g.1
  by_:∀v,0<=v->v<g.1->gI s.by_ v= -1\/((0<=gI s.by_ v/\gI s.by_ v<2*(g.2.length:Int))/\bC g (gI s.by_ v)=v/\gI s.place v≠0)
  en:s.edges.Nodup
  el:∀e∈s.edges,(0<=e/\e<(g.2.length:Int))/\gI s.laid e=true
  ct:0<=s.count
  cl:s.count+(s.edges.length:Int)<=(s.laid.count true:Int)
  pn:path.Nodup
  pr:∀v∈path,(0<=v/\v<g.1)/\gI s.place v≠0
  p0:∀v,path.head? =some v->gI s.by_ v= -1
  pt:∀v∈path.tail,0<=gI s.by_ v
  pe:(eW s.by_ path).Sublist s.edges
variable{g:bh}{s:Bs}{path:List Int}{e v w u hh:Int}
theorem n3{x:Int}{n:Nat}{v:Int}(h0:0<=v)(h1:v<n):gI (List.replicate n x) v=x:=by
 obtain⟨k,rfl⟩:∃k:Nat,v=(k:Int):=⟨v.toNat,by omega⟩
 have:k<n:=by omega
 simp[gI,this]
theorem iI{l:List Int}{i:Nat}(hi:i<l.length){x:Int}(h0:l[i]=0)(hx:x≠0):(l.set i x).count 0+1=l.count 0:=by
 have hp:0<l.count 0:=List.count_pos_iff.2 (h0▸List.getElem_mem hi)
 rw[List.count_set hi,h0]
 simp[hx]
 omega
theorem kO{l:List Bool}{i:Nat}(hi:i<l.length)(h0:l[i]=false):(l.set i true).count true=l.count true+1:=by
 rw[List.count_set hi,h0]
 simp
theorem tZ{l:List Bool}{i:Int}(h0:0<=i)(h1:i<l.length):∃h:i.toNat<l.length,gI l i=l[i.toNat]:=⟨by omega,by
 have:i.toNat<l.length:=by omega
 simp[gI,this]⟩
theorem pS{l:List Int}{i:Int}(h0:0<=i)(h1:i<l.length):∃h:i.toNat<l.length,gI l i=l[i.toNat]:=⟨by omega,by
 have:i.toNat<l.length:=by omega
 simp[gI,this]⟩
theorem dY.start(hm:aV g):dY g (fY g) []:=by
 have h0:=hm.1
 have r0:∀{x:Int} {v:Int},0<=v->v<g.1->gI (List.replicate g.1.toNat x) v=x:=λa b=>n3 a (by omega)
 refine⟨by simp[fY];omega,by simp[fY];omega,by simp[fY];omega,by simp[fY];omega,by simp[fY],by simp[fY],λv a b=>?_,λv a b=>?_,Int.le_refl _,?_,λv a b=>.inl (r0 a b),List.nodup_nil,λe he=>absurd he List.not_mem_nil,Int.le_refl _,?_,List.nodup_nil,λv hv=>absurd hv List.not_mem_nil,λv hv=>by simp at hv,λv hv=>absurd hv List.not_mem_nil,List.Sublist.refl _⟩
 · show 0<=gI (List.replicate g.1.toNat (0:Int)) v/\_<=_
   rw[show gI (fY g).next v=gI (List.replicate g.1.toNat (0:Int)) v from rfl,r0 a b];omega
 · show 0<=gI (List.replicate g.1.toNat (0:Int)) v/\gI (List.replicate g.1.toNat (0:Int)) v<=0
   rw[r0 a b];omega
 · show(0:Int)+((List.replicate g.1.toNat (0:Int)).count 0:Int)=g.1
   rw[List.count_replicate];simp;omega
 · show(0:Int)+((([]:List Int)).length:Int)<=((List.replicate g.2.length false).count true:Int)
   simp
theorem dY.lay(h:dY g s path)(e0:0<=e)(e1:e<(g.2.length:Int))(hl:¬gI s.laid e=true):dY g (gC s e) path/\e∉s.edges:=by
  have hl5:=h.l5
  obtain⟨hi,hg⟩:=tZ (l:=s.laid) e0 (by omega)
  have hne:e∉s.edges:=λk=>hl (h.el e k).2
  have hf:s.laid[e.toNat]=false:=by rw[<-hg];simpa using hl
  have hc:=kO hi hf
  refine⟨⟨h.l1,h.l2,h.l3,h.l4,by show((s.laid.set e.toNat true).length:Int)=_;rw[List.length_set];exact hl5,h.l6,h.nx,h.pl,h.f0,h.fn,h.by_,?_,λx hx=>?_,h.ct,?_,h.pn,h.pr,h.p0,h.pt,h.pe.trans (List.sublist_append_left ..)⟩,hne⟩
  · show(s.edges++[e]).Nodup
    rw[List.nodup_append]
    exact⟨h.en,by simp,λa ha b hb=>by rw[List.mem_singleton.1 hb];exact λk=>hne (by rw[<-k];exact ha)⟩
  · show(0<=x/\x<_)/\gI (s.laid.set e.toNat true) x=true
    rcases List.mem_append.1 hx with k|k
    · obtain⟨a,b⟩:=h.el x k
      refine⟨a,?_⟩
      rw[c5 e0 (by omega) a.1]
      split
      · rfl
      · exact b
    · rw[List.mem_singleton.1 k]
      exact⟨⟨e0,e1⟩,by rw[c5 e0 (by omega) e0,if_pos rfl]⟩
  · show s.count+((s.edges++[e]).length:Int)<=((s.laid.set e.toNat true).count true:Int)
    rw[hc,List.length_append,List.length_singleton]
    have:=h.cl;omega
theorem oO{A B:List Int}{x:Int}(hB:x∉B):mX (A++x::B) x=A.length:=by
 unfold mX
 rw[List.reverse_append,List.reverse_cons,List.append_assoc,List.idxOf_append]
 rw[if_neg (by simpa using hB)]
 simp
theorem pf{l:List Int}{x:Int}(hn:l.Nodup)(hx:x∈l):∃A B,l=A++x::B/\x∉A/\x∉B/\mX l x=A.length:=by
 obtain⟨A,B,e⟩:=List.append_of_mem hx
 have hn':=hn
 rw[e,List.nodup_append] at hn'
 have h1:x∉B:=(List.nodup_cons.1 hn'.2.1).1
 have h2:x∉A:=λk=>hn'.2.2 x k x (List.mem_cons_self ..) rfl
 exact⟨A,B,e,h2,h1,by rw[e];exact oO h1⟩
theorem lb(c:Int):∀(l b:List Int),(l.foldl (λb e=>b.set e.toNat c) b).length=b.length
 |[],b=>rfl
 |x::l,b=>by rw[List.foldl_cons,lb c l,List.length_set]
theorem dY.close(h:dY g s path)(he:e∈s.edges)(hp:(eW s.by_ path).Sublist (s.edges.take (mX s.edges e))):dY g (dq s e) path:=by
  obtain⟨A,B,e1,_,_,e2⟩:=pf h.en he
  have hlt:mX s.edges e<s.edges.length:=by rw[e2,e1];simp
  have hs:(s.edges.take (mX s.edges e)).Sublist s.edges:=List.take_sublist _ _
  refine⟨h.l1,h.l2,h.l3,h.l4,h.l5,?_,h.nx,h.pl,h.f0,h.fn,h.by_,hs.nodup h.en,λx hx=>h.el x (hs.subset hx),by show 0<=s.count+1;have:=h.ct;omega,?_,h.pn,h.pr,h.p0,h.pt,hp⟩
  · show(((s.edges.drop (mX s.edges e)).foldl (λb x=>b.set x.toNat s.count) s.block).length:Int)=_
    rw[lb];exact h.l6
  · show s.count+1+((s.edges.take (mX s.edges e)).length:Int)<=(s.laid.count true:Int)
    rw[List.length_take]
    have:=h.cl;omega
theorem dY.lows(h:dY g s path)(x:Int)(k:Nat):dY g {s with low:=s.low.set k x} path:=
  {h with l2:=by show((s.low.set k x).length:Int)=_;rw[List.length_set];exact h.l2}
theorem dY.nexts(h:dY g s path)(u0:0<=u)(u1:u<g.1)(hn:¬gI s.next u=((gI (bg g) u).length:Int)):dY g {s with next:=s.next.set u.toNat (gI s.next u+1)} path:=
  {h with
    l4:=by show((s.next.set u.toNat _).length:Int)=_;rw[List.length_set];exact h.l4
    nx:=λx a b=>by
      show 0<=gI (s.next.set u.toNat (gI s.next u+1)) x/\gI (s.next.set u.toNat (gI s.next u+1)) x<=_
      rw[c5 u0 (by have:=h.l4;omega) a]
      obtain⟨c,d⟩:=h.nx x a b
      split
      · rename_i k
        subst k
        obtain⟨c,d⟩:=h.nx x u0 u1
        omega
      · exact⟨c,d⟩}
theorem mf{b b':List Int}{p:List Int}(h:∀x∈p.tail,gI b x=gI b' x):eW b p=eW b' p:=by
 unfold eW
 exact List.map_congr_left λx hx=>by rw[h x hx]
theorem k6{b:List Int}{p:List Int}(hp:p≠[])(x:Int):eW b (p++[x])=eW b p++[gI b x/2]:=by
 unfold eW
 cases p with
 |nil=>exact absurd rfl hp
 |cons a l=>simp
theorem dY.grow(h:dY g s path)(hp:path≠[])(w0:0<=w)(w1:w<g.1)(hw:gI s.place w=0)(h0:0<=hh)(h1:hh<2*(g.2.length:Int))(ht:bC g hh=w)(he:(eW s.by_ path++[hh/2]).Sublist s.edges):
    dY g (fF {s with by_:=s.by_.set w.toNat hh} w) (path++[w]):=by
  have l1:=h.l1
  have l2:=h.l2
  have l3:=h.l3
  have f0:=h.f0
  have hwp:w∉path:=λk=>(h.pr w k).2 hw
  have gp:∀x,0<=x->gI (s.place.set w.toNat (s.found+1)) x=if x=w then s.found+1 else gI s.place x:=λx a=>c5 w0 (by omega) a
  have gb:∀x,0<=x->gI (s.by_.set w.toNat hh) x=if x=w then hh else gI s.by_ x:=λx a=>c5 w0 (by omega) a
  obtain⟨hi,hg⟩:=pS (l:=s.place) w0 (by omega)
  have hc:=iI hi (x:=s.found+1) (by rw[<-hg];exact hw) (by omega)
  refine⟨by show((s.place.set _ _).length:Int)=_;rw[List.length_set];exact l1,by show((s.low.set _ _).length:Int)=_;rw[List.length_set];exact l2,by show((s.by_.set _ _).length:Int)=_;rw[List.length_set];exact l3,h.l4,h.l5,h.l6,h.nx,λx a b=>?_,by show 0<=s.found+1;omega,?_,λx a b=>?_,h.en,h.el,h.ct,h.cl,?_,λx hx=>?_,λx hx=>?_,λx hx=>?_,?_⟩
  · show 0<=gI (s.place.set w.toNat (s.found+1)) x/\gI (s.place.set w.toNat (s.found+1)) x<=s.found+1
    rw[gp x a]
    have:=h.pl x a b
    split<;>omega
  · show s.found+1+((s.place.set w.toNat (s.found+1)).count 0:Int)=g.1
    have:=h.fn;omega
  · show gI (s.by_.set w.toNat hh) x= -1\/(0<=gI (s.by_.set w.toNat hh) x/\gI (s.by_.set w.toNat hh) x<_)/\bC g (gI (s.by_.set w.toNat hh) x)=x/\gI (s.place.set w.toNat (s.found+1)) x≠0
    rw[gb x a,gp x a]
    by_cases k:x=w
    · rw[if_pos k,if_pos k]
      exact .inr ⟨⟨h0,h1⟩,by rw[ht,k],by omega⟩
    · rw[if_neg k,if_neg k];exact h.by_ x a b
  · rw[List.nodup_append]
    exact⟨h.pn,by simp,λa ha b hb=>by rw[List.mem_singleton.1 hb];exact λk=>hwp (by rw[<-k];exact ha)⟩
  · show(0<=x/\x<g.1)/\gI (s.place.set w.toNat (s.found+1)) x≠0
    rcases List.mem_append.1 hx with k|k
    · obtain⟨a,b⟩:=h.pr x k
      refine⟨a,?_⟩
      rw[gp x a.1];split
      · omega
      · exact b
    · rw[List.mem_singleton.1 k]
      exact⟨⟨w0,w1⟩,by rw[gp w w0,if_pos rfl];omega⟩
  · show gI (s.by_.set w.toNat hh) x= -1
    cases hpe:path with
    |nil=>exact absurd hpe hp
    |cons a l=>
      rw[hpe] at hx
      have hxa:a=x:=by simpa using hx
      have hxp:x∈path:=by rw[hpe,<-hxa];exact List.mem_cons_self ..
      rw[gb x (h.pr x hxp).1.1,if_neg (λk=>hwp (by rw[<-k];exact hxp))]
      exact h.p0 x (by rw[hpe,hxa];rfl)
  · show 0<=gI (s.by_.set w.toNat hh) x
    have hx2:x∈path.tail\/x=w:=by
      cases hpe:path with
      |nil=>exact absurd hpe hp
      |cons a l=>
        rw[hpe] at hx
        simpa using hx
    rcases hx2 with k|k
    · have hxp:x∈path:=List.mem_of_mem_tail k
      rw[gb x (h.pr x hxp).1.1,if_neg (λj=>hwp (by rw[<-j];exact hxp))]
      exact h.pt x k
    · rw[k,gb w w0,if_pos rfl];exact h0
  · show(eW (s.by_.set w.toNat hh) (path++[w])).Sublist s.edges
    rw[k6 hp,gb w w0,if_pos rfl,mf (b':=s.by_) (λx hx=>?_)]
    · exact he
    · have hxp:x∈path:=List.mem_of_mem_tail hx
      rw[gb x (h.pr x hxp).1.1,if_neg (λj=>hwp (by rw[<-j];exact hxp))]
theorem dY.first(h:dY g s [])(v0:0<=v)(v1:v<g.1)(hv:gI s.place v=0):dY g (fF s v) [v]:=by
  have l1:=h.l1
  have l2:=h.l2
  have f0:=h.f0
  have gp:∀x,0<=x->gI (s.place.set v.toNat (s.found+1)) x=if x=v then s.found+1 else gI s.place x:=λx a=>c5 v0 (by omega) a
  obtain⟨hi,hg⟩:=pS (l:=s.place) v0 (by omega)
  have hc:=iI hi (x:=s.found+1) (by rw[<-hg];exact hv) (by omega)
  refine⟨by show((s.place.set _ _).length:Int)=_;rw[List.length_set];exact l1,by show((s.low.set _ _).length:Int)=_;rw[List.length_set];exact l2,h.l3,h.l4,h.l5,h.l6,h.nx,λx a b=>?_,by show 0<=s.found+1;omega,?_,λx a b=>?_,h.en,h.el,h.ct,h.cl,by simp,λx hx=>?_,λx hx=>?_,λx hx=>absurd hx List.not_mem_nil,List.nil_sublist _⟩
  · show 0<=gI (s.place.set v.toNat (s.found+1)) x/\gI (s.place.set v.toNat (s.found+1)) x<=s.found+1
    rw[gp x a]
    have:=h.pl x a b
    split<;>omega
  · show s.found+1+((s.place.set v.toNat (s.found+1)).count 0:Int)=g.1
    have:=h.fn;omega
  · show gI s.by_ x= -1\/(0<=gI s.by_ x/\gI s.by_ x<_)/\bC g (gI s.by_ x)=x/\gI (s.place.set v.toNat (s.found+1)) x≠0
    rcases h.by_ x a b with k|⟨k1,k2,k3⟩
    · exact .inl k
    · refine .inr ⟨k1,k2,?_⟩
      rw[gp x a];split
      · omega
      · exact k3
  · rw[List.mem_singleton.1 hx]
    exact⟨⟨v0,v1⟩,by show gI (s.place.set v.toNat (s.found+1)) v≠0;rw[gp v v0,if_pos rfl];omega⟩
  · have:v=x:=by simpa using hx
    rw[<-this]
    rcases h.by_ v v0 v1 with k|⟨_,_,k⟩
    · exact k
    · exact absurd hv k
theorem iu(hp:path≠[]):path=path.dropLast++[gI path ((path.length:Int)-1)]:=by
 have e:gI path ((path.length:Int)-1)=path.getLast hp:=by
   have h:0<path.length:=List.length_pos_iff.2 hp
   have e1:((path.length:Int)-1).toNat=path.length-1:=by omega
   have h2:path.length-1<path.length:=by omega
   unfold gI
   rw[e1,List.getLast_eq_getElem,List.getD_eq_getElem?_getD,List.getElem?_eq_getElem h2]
   rfl
 rw[e];exact(List.dropLast_concat_getLast hp).symm
theorem dY.drop(h:dY g s path):dY g s path.dropLast:=by
  have hs:(path.dropLast).Sublist path:=List.dropLast_sublist _
  have ht:(path.dropLast.tail).Sublist path.tail:=hs.tail
  refine {h with pn:=hs.nodup h.pn,pr:=λv hv=>h.pr v (hs.subset hv),p0:=λv hv=>h.p0 v ?_,pt:=λv hv=>h.pt v (ht.subset hv),pe:=?_}
  · cases hp:path with
    |nil=>rw[hp] at hv;simp at hv
    |cons a l=>
      rw[hp] at hv
      cases l with
      |nil=>simp at hv
      |cons b l=>simpa using hv
  · unfold eW
    exact(ht.map _).trans h.pe
theorem sv{X A B:List Int}{x:Int}(h:(X++[x]).Sublist (A++x::B))(hA:x∉A)(hB:x∉B):X.Sublist A:=by
 obtain⟨l1,l2,e,h1,h2⟩:=List.sublist_append_iff.1 h
 by_cases hl2:l2=[]
 · subst hl2
   rw[List.append_nil] at e
   exact absurd (h1.subset (by rw[<-e];simp)) hA
 · obtain⟨l,y,rfl⟩:∃l y,l2=l++[y]:=⟨l2.dropLast,l2.getLast hl2,(List.dropLast_concat_getLast hl2).symm⟩
   have e2:X++[x]=(l1++l)++[y]:=by rw[e,List.append_assoc]
   obtain⟨e3,e4⟩:=List.append_inj' e2 rfl
   have ey:y=x:=by simpa using e4.symm
   subst ey
   cases l with
   |nil=>rw[e3,List.append_nil];exact h1
   |cons z l=>
     exfalso
     rw[List.cons_append] at h2
     rcases List.sublist_cons_iff.1 h2 with k|⟨r,k1,k2⟩
     · exact hB (k.subset (by simp))
     · have:r=l++[y]:=by
         injection k1 with _ q
         exact q.symm
       rw[this] at k2
       exact hB (k2.subset (by simp))
theorem dY.top(h:dY g s path)(hp:path≠[])(hv:v=gI path ((path.length:Int)-1))(hb:¬gI s.by_ v<0):gI s.by_ v/2∈s.edges/\(eW s.by_ path.dropLast).Sublist (s.edges.take (mX s.edges (gI s.by_ v/2))):=by
  have e0:=iu hp
  rw[<-hv] at e0
  have hd:path.dropLast≠[]:=by
    intro k
    rw[k] at e0
    have:=h.p0 v (by rw[e0];rfl)
    omega
  have pe:=h.pe
  rw[e0,k6 hd] at pe
  have hm:gI s.by_ v/2∈s.edges:=pe.subset (by simp)
  obtain⟨A,B,e1,hA,hB,e2⟩:=pf h.en hm
  refine⟨hm,?_⟩
  have:s.edges.take (mX s.edges (gI s.by_ v/2))=A:=by
    rw[e2]
    conv=>lhs;rw[e1]
    simp
  rw[this]
  rw[e1] at pe
  exact sv pe hA hB
theorem dY.leave(hm:aV g)(h:dY g s path)(hp:path≠[])(hv:v=gI path ((path.length:Int)-1)):dY g (dg g s v) path.dropLast:=by
 unfold dg
 by_cases c:gI s.by_ v<0
 · rw[if_pos c];exact h.drop
 · rw[if_neg c]
   obtain⟨h1,h2⟩:=h.top hp hv c
   simp only
   have hl:=h.lows (min (gI s.low (aK g (gI s.by_ v))) (gI s.low v)) (aK g (gI s.by_ v)).toNat
   split
   · exact hl.drop.close (s:={s with low:=s.low.set (aK g (gI s.by_ v)).toNat (min (gI s.low (aK g (gI s.by_ v))) (gI s.low v))}) h1 h2
   · exact hl.drop
theorem dY.take(hm:aV g)(h:dY g s path)(hp:path≠[])(h0:0<=hh)(h1:hh<2*(g.2.length:Int)):dY g (dG g s v hh).1 (if(dG g s v hh).2.2=true then path++[(dG g s v hh).2.1] else path):=by
 have ht:=gF hm h0 h1
 unfold dG
 by_cases c:gI s.laid (hh/2)=true
 · rw[if_pos c];exact h
 · rw[if_neg c]
   obtain⟨hl,hn⟩:=h.lay (e:=hh/2) (by omega) (by omega) c
   by_cases c2:bC g hh=v
   · rw[if_pos c2]
     show dY g (dq (gC s (hh/2)) (hh/2)) path
     refine hl.close (by show hh/2∈s.edges++[hh/2];simp) ?_
     have e:mX (s.edges++[hh/2]) (hh/2)=s.edges.length:=oO (A:=s.edges) (B:=[]) List.not_mem_nil
     show(eW s.by_ path).Sublist ((s.edges++[hh/2]).take (mX (s.edges++[hh/2]) (hh/2)))
     rw[e,List.take_left']
     · exact h.pe
     · rfl
   · rw[if_neg c2]
     by_cases c3:gI s.place (bC g hh)=0
     · rw[if_pos c3]
       show dY g (fF {gC s (hh/2) with by_:=s.by_.set (bC g hh).toNat hh} (bC g hh)) (path++[bC g hh])
       exact hl.grow hp ht.1 ht.2 c3 h0 h1 rfl (h.pe.append (List.Sublist.refl _))
     · rw[if_neg c3]
       show dY g {gC s (hh/2) with low:=s.low.set v.toNat (min (gI s.low v) (gI s.place (bC g hh)))} path
       exact hl.lows _ _
theorem dY.step(hm:aV g)(h:dY g s path)(hp:path≠[])(hu:u=gI path ((path.length:Int)-1)):dY g (da g s path u).1 (da g s path u).2:=by
 have hup:u∈path:=by
   have:=iu hp
   rw[<-hu] at this
   rw[this];simp
 obtain⟨⟨u0,u1⟩,_⟩:=h.pr u hup
 unfold da
 by_cases c:gI s.next u=((gI (bg g) u).length:Int)
 · rw[if_pos c];exact h.leave hm hp hu
 · rw[if_neg c]
   obtain⟨n0,n1⟩:=h.nx u u0 u1
   have hin:gI (gI (bg g) u) (gI s.next u)∈gI (bg g) u:=bF n0 (by omega)
   rw[g5 u0 u1] at hin
   have ho:=(eP hin).1
   rw[<-g5 u0 u1] at ho
   exact(h.nexts u0 u1 c).take hm hp ho.1 ho.2
end TL
/-
  TlBlk2: the walk that finds blocks: it ends; all of it.
  By an AI agent.
-/
set_option linter.all false
namespace TL
variable{g:bh}{s:Bs}{path:List Int}{e v w u hh:Int}
theorem ns{f f':Int->Nat}{u:Int}:∀{l:List Int},l.Nodup->u∈l->(∀x∈l,x≠u->f x=f' x)->f u=f' u+1->(l.map f).sum=(l.map f').sum+1
 |[],_,hu,_,_=>absurd hu List.not_mem_nil
 |a::l,hn,hu,hx,he=>by
   have hn':=List.nodup_cons.1 hn
   simp only[List.map_cons,List.sum_cons]
   by_cases c:a=u
   · subst c
     have:l.map f=l.map f':=List.map_congr_left λx hxl=>hx x (List.mem_cons_of_mem _ hxl) (λk=>hn'.1 (by rw[<-k];exact hxl))
     rw[this,he];omega
   · have h2:=ns hn'.2 ((List.mem_cons.1 hu).resolve_left (λk=>c k.symm)) (λx hxl=>hx x (List.mem_cons_of_mem _ hxl)) he
     rw[h2,hx a (List.mem_cons_self ..) c];omega
theorem qB(h:dY g s path)(u0:0<=u)(u1:u<g.1)(hn:¬gI s.next u=((gI (bg g) u).length:Int))(p:List Int):bQ g s p=bQ g {s with next:=s.next.set u.toNat (gI s.next u+1)} p+2:=by
 have e1:bQ g {s with next:=s.next.set u.toNat (gI s.next u+1)} p=2*(((bG g.1.toNat).map λv=>((gI (bg g) v).length-(gI (s.next.set u.toNat (gI s.next u+1)) v).toNat)).sum)+p.length:=rfl
 rw[e1]
 unfold bQ
 have hl:=h.l4
 obtain⟨n0,n1⟩:=h.nx u u0 u1
 have:=ns (f:=λv=>(gI (bg g) v).length-(gI s.next v).toNat) (f':=λv=>(gI (bg g) v).length-(gI (s.next.set u.toNat (gI s.next u+1)) v).toNat) (u:=u) (gG g.1.toNat) (ck.2 ⟨u0,by omega⟩) (λx hx hxu=>by
   show _=(gI (bg g) x).length-(gI (s.next.set u.toNat (gI s.next u+1)) x).toNat
   rw[c5 u0 (by omega) (ck.1 hx).1,if_neg hxu]) (by
   show(gI (bg g) u).length-(gI s.next u).toNat=(gI (bg g) u).length-(gI (s.next.set u.toNat (gI s.next u+1)) u).toNat+1
   rw[c5 u0 (by omega) u0,if_pos rfl]
   omega)
 rw[this];omega
theorem iO:(dg g s v).next=s.next:=by
 unfold dg
 split
 · rfl
 · simp only;split<;>rfl
theorem qK:(dG g s v hh).1.next=s.next:=by
 unfold dG
 split
 · rfl
 · split
   · rfl
   · split<;>rfl
theorem l7{s':Bs}(h:s'.next=s.next)(p:List Int):bQ g s' p=bQ g s p:=by unfold bQ;rw[h]
theorem jr(h:dY g s path)(hp:path≠[])(hu:u=gI path ((path.length:Int)-1)):bQ g (da g s path u).1 (da g s path u).2<bQ g s path:=by
 have hup:u∈path:=by
   have:=iu hp
   rw[<-hu] at this
   rw[this];simp
 obtain⟨⟨u0,u1⟩,_⟩:=h.pr u hup
 have hl:0<path.length:=List.length_pos_iff.2 hp
 unfold da
 by_cases c:gI s.next u=((gI (bg g) u).length:Int)
 · rw[if_pos c]
   show bQ g (dg g s u) path.dropLast<_
   rw[l7 iO]
   unfold bQ
   rw[List.length_dropLast];omega
 · rw[if_neg c]
   simp only
   rw[l7 qK]
   have h2:=qB h u0 u1 c path
   have h3:∀p:List Int,p.length<=path.length+1->bQ g {s with next:=s.next.set u.toNat (gI s.next u+1)} p<=bQ g {s with next:=s.next.set u.toNat (gI s.next u+1)} path+1:=λp hp=>by unfold bQ;omega
   have h4:=h3 (if(dG g {s with next:=s.next.set u.toNat (gI s.next u+1)} u (gI (gI (bg g) u) (gI s.next u))).2.2=true then path++[(dG g {s with next:=s.next.set u.toNat (gI s.next u+1)} u (gI (gI (bg g) u) (gI s.next u))).2.1] else path) (by split<;>simp)
   omega
structure fA(g:bh)(R s:Bs)(path:List Int):Prop where
  i:dY g s path
  res:∃f,bQ g s path<=f/\rm g f s path=R
theorem fA.start(h:dY g s [])(v0:0<=v)(v1:v<g.1)(hv:gI s.place v=0):fA g (fm g s v) (fF s v) [v]:=⟨h.first v0 v1 hv,_,Nat.le_refl _,rfl⟩
theorem fA.step(hm:aV g){R:Bs}(h:fA g R s path)(hp:path≠[])(hu:u=gI path ((path.length:Int)-1)):fA g R (da g s path u).1 (da g s path u).2/\bQ g (da g s path u).1 (da g s path u).2<bQ g s path:=by
 have hl:=jr h.i hp hu
 refine⟨⟨h.i.step hm hp hu,?_⟩,hl⟩
 obtain⟨f,f1,f2⟩:=h.res
 cases f with
 |zero=>omega
 |succ f=>
   refine⟨f,by omega,?_⟩
   unfold rm at f2
   rw[if_neg hp,<-hu] at f2
   exact f2
theorem fA.done{R:Bs}(h:fA g R s []):s=R:=by
 obtain⟨f,_,e⟩:=h.res
 rw[<-e]
 cases f with
 |zero=>rfl
 |succ f=>unfold rm;rw[if_pos rfl]
theorem wH(hm:aV g):∀(f:Nat) (s:Bs) (path:List Int),dY g s path->bQ g s path<=f->dY g (rm g f s path) []
 |0,s,path,h,hf=>by
   have:path=[]:=List.length_eq_zero_iff.1 (by unfold bQ at hf;omega)
   subst this
   exact h
 |f+1,s,path,h,hf=>by
   unfold rm
   by_cases c:path=[]
   · rw[if_pos c];rw[c] at h;exact h
   · rw[if_neg c]
     have:=jr h c rfl
     exact wH hm f _ _ (h.step hm c rfl) (by omega)
theorem wx(hm:aV g)(h:dY g s [])(v0:0<=v)(v1:v<g.1)(hv:gI s.place v=0):dY g (fm g s v) []:=wH hm _ _ _ (h.first v0 v1 hv) (Nat.le_refl _)
theorem ib(g:bh)(k:Nat):dH g (k+1)=if gI (dH g k).place (k:Int)=0 then fm g (dH g k) (k:Int) else dH g k:=by
 unfold dH
 rw[cY,List.foldl_append];rfl
theorem vF(hm:aV g):∀k:Nat,(k:Int)<=g.1->dY g (dH g k) []
 |0,_=>dY.start hm
 |k+1,h=>by
   have ih:=vF hm k (by omega)
   rw[ib]
   split
   · exact wx hm ih (by omega) (by omega) ‹_›
   · exact ih
end TL
/-
  TlWayH: From with a heap: what holds while it runs.
  By an AI agent.
-/
set_option linter.all false
namespace TL
-- down
-- up
-- all of it
theorem pV{α:Type}[Inhabited α]{n:Nat}{x:α}{v:Int}(h0:0<=v)(h1:v<n):gI (List.replicate n x) v=x:=by
 obtain⟨k,rfl⟩:∃k:Nat,v=(k:Int):=⟨v.toNat,by omega⟩
 have:k<n:=by omega
 simp[gI,this]
end TL
/-
  TlBlk3: blocks by the numbers of their gg edges, cut nodes, bridges: what package block tells; a bridge is alone in its block.
  By an AI agent.
-/
set_option linter.all false
namespace TL
variable{g:bh}{l:List Int}{k:Nat}{b e:Int}
def aJ(l:List Int):Nat->List Int×List Int
  |0=>([],[])
  |k+1=>
    let sn:=if gI l (k:Int)∈(aJ l k).1 then(aJ l k).1 else(aJ l k).1++[gI l (k:Int)]
    (sn,(aJ l k).2++[((sn.idxOf (gI l (k:Int)):Nat):Int)])
theorem j8(l:List Int):∀k,(aJ l k).2.length=k/\(aJ l k).1.length<=k
 |0=>⟨rfl,Nat.le_refl _⟩
 |k+1=>by
   obtain⟨a,b⟩:=j8 l k
   unfold aJ
   refine⟨by simp[a],?_⟩
   simp only
   split
   · omega
   · rw[List.length_append,List.length_singleton];omega
theorem rO(l:List Int)(k:Nat):(aJ l k).1.length<=(aJ l (k+1)).1.length:=by
 conv=>rhs;unfold aJ
 simp only
 split
 · exact Nat.le_refl _
 · rw[List.length_append];omega
theorem pN(l:List Int):∀k,∀x∈(aJ l k).2,0<=x/\x<((aJ l k).1.length:Int)
 |0,x,hx=>absurd hx List.not_mem_nil
 |k+1,x,hx=>by
   have hg:=rO l k
   have hx2:x∈(aJ l k).2++[(((if gI l (k:Int)∈(aJ l k).1 then(aJ l k).1 else(aJ l k).1++[gI l (k:Int)]).idxOf (gI l (k:Int)):Nat):Int)]:=hx
   rcases List.mem_append.1 hx2 with c|c
   · have:=pN l k x c;omega
   · rw[List.mem_singleton.1 c]
     have hm:gI l (k:Int)∈(if gI l (k:Int)∈(aJ l k).1 then(aJ l k).1 else(aJ l k).1++[gI l (k:Int)]):=by
       split
       · assumption
       · simp
     have:=List.idxOf_lt_length_of_mem hm
     refine⟨by omega,?_⟩
     show((_:Nat):Int)<(((if gI l (k:Int)∈(aJ l k).1 then(aJ l k).1 else(aJ l k).1++[gI l (k:Int)]).length:Nat):Int)
     omega
def tM(of:List Int)(g:bh)(s:List Int×List Bool)(h:Int):List Int×List Bool:=
  (s.1.set (aK g h).toNat (gI of (h/2)+1),s.2.set (aK g h).toNat (gI s.2 (aK g h)||(decide (0<gI s.1 (aK g h))&& !decide (gI s.1 (aK g h)=gI of (h/2)+1))))
def eG(of:List Int)(g:bh)(k:Nat):List Int×List Bool:=(bG k).foldl (tM of g) (List.replicate g.1.toNat 0,List.replicate g.1.toNat false)
def iy(g:bh):List Int:=(aJ (dH g g.1.toNat).block g.2.length).2
def iN(g:bh):Int:=((aJ (dH g g.1.toNat).block g.2.length).1.length:Int)
def jT(g:bh):List Int:=(bG g.1.toNat).filter λv=>gI (eG (iy g) g (2*g.2.length)).2 v
def cv(g:bh):(List Int×List Int×Int)×Int:=if aV g then((iy g,jT g,iN g),0) else(([],[],0),1)
theorem pw(g:bh):(iy g).length=g.2.length:=(j8 _ _).1
theorem rQ(g:bh){i:Int}(h0:0<=i)(h1:i<(g.2.length:Int)):0<=gI (iy g) i/\gI (iy g) i<iN g:=by
 have hl:=pw g
 exact pN _ _ _ (bF (xs:=iy g) h0 (by omega))
end TL
namespace TL
structure pA(l:List Int)(mp:(Int->Int)×List Int)(out:List Int)(k:Nat):Prop where
  dom:mp.2=(aJ l k).1
  val:∀b∈mp.2,mp.1 b=((mp.2.idxOf b:Nat):Int)
  eq:out=(aJ l k).2++List.replicate (l.length-k) 0
  lo:(out.length:Int)=l.length
variable{l:List Int}{mp:(Int->Int)×List Int}{out:List Int}{k:Nat}
theorem pA.start:pA l (λ_=>0,[]) (List.replicate (Int.toNat (l.length:Int)) 0) 0:=
 ⟨rfl,λb hb=>absurd hb List.not_mem_nil,by simp[aJ],by simp⟩
theorem pG{x:Int}(h:out=(aJ l k).2++List.replicate (l.length-k) 0)(hk:(k:Int)<l.length):out.set (Int.toNat (k:Int)) x=((aJ l k).2++[x])++List.replicate (l.length-(k+1)) 0:=by
 have hl:=(j8 l k).1
 rw[h,Int.toNat_natCast,List.set_append_right _ _ (by omega),hl,Nat.sub_self]
 rw[show l.length-k=(l.length-(k+1))+1 by omega,List.replicate_succ]
 simp
theorem pA.old(h:pA l mp out k)(hk:(k:Int)<l.length)(hm:gI l (k:Int)∈mp.2):pA l mp (out.set (Int.toNat (k:Int)) (mp.1 (gI l (k:Int)))) (k+1):=by
 have hd:=h.dom
 have e:aJ l (k+1)=((aJ l k).1,(aJ l k).2++[(((aJ l k).1.idxOf (gI l (k:Int)):Nat):Int)]):=by
   conv=>lhs;unfold aJ
   simp only[if_pos (show gI l (k:Int)∈(aJ l k).1 by rw[<-hd];exact hm)]
 refine⟨by rw[e];exact hd,h.val,?_,by rw[List.length_set];exact h.lo⟩
 rw[pG h.eq hk,e,h.val _ hm,hd]
theorem pA.new(h:pA l mp out k)(hk:(k:Int)<l.length)(hm:¬gI l (k:Int)∈mp.2){mp':(Int->Int)×List Int}{x:Int}(em:mp'=((λq=>if q=gI l (k:Int) then(mp.2.length:Int) else mp.1 q),if gI l (k:Int)∈mp.2 then mp.2 else mp.2++[gI l (k:Int)]))(ex:x=mp'.1 (gI l (k:Int))):
   pA l mp' (out.set (Int.toNat (k:Int)) x) (k+1):=by
 subst em
 have hd:=h.dom
 rw[if_neg hm]
 have e:aJ l (k+1)=((aJ l k).1++[gI l (k:Int)],(aJ l k).2++[((((aJ l k).1++[gI l (k:Int)]).idxOf (gI l (k:Int)):Nat):Int)]):=by
   conv=>lhs;unfold aJ
   simp only[if_neg (show¬gI l (k:Int)∈(aJ l k).1 by rw[<-hd];exact hm)]
 have ei:(mp.2++[gI l (k:Int)]).idxOf (gI l (k:Int))=mp.2.length:=by
   rw[List.idxOf_append,if_neg hm];simp
 refine⟨by rw[e,<-hd],λb hb=>?_,?_,by rw[List.length_set];exact h.lo⟩
 · show(if b=gI l (k:Int) then(mp.2.length:Int) else mp.1 b)=(((mp.2++[gI l (k:Int)]).idxOf b:Nat):Int)
   by_cases c:b=gI l (k:Int)
   · rw[if_pos c,c,ei]
   · have hb2:b∈mp.2:=(List.mem_append.1 hb).resolve_right (λz=>c (List.mem_singleton.1 z))
     rw[if_neg c,List.idxOf_append,if_pos hb2];exact h.val b hb2
 · rw[pG h.eq hk,e,ex]
   show _=_
   rw[<-hd,ei]
   simp
theorem pA.done(h:pA l mp out k)(hk:k=l.length):out=(aJ l l.length).2/\(mp.2.length:Int)=((aJ l l.length).1.length:Int):=by
 subst hk
 have:=h.eq
 rw[Nat.sub_self,List.replicate_zero,List.append_nil] at this
 exact⟨this,by rw[h.dom]⟩
end TL
/-
  TlWayT: the way that leads to a node, from how the nodes were reached (package path's To), as the document has it.
  By an AI agent.
-/
set_option linter.all false
namespace TL
def s6(fs:FS)(g:bh):Prop:=aV g/\(fs.1.length:Int)=g.1/\(fs.2.length:Int)=g.1
instance (fs:FS)(g:bh):Decidable (s6 fs g):=by unfold s6;infer_instance
variable{fs:FS}{g:bh}{t v:Int}{l:List Int}{n:Nat}
variable{by_:List Int}
end TL
/-
  TlDij: what the document's From comes to: each length is that of the way found; no half-edge of a reached node leads nearer.
  By an AI agent.
-/
set_option linter.all false
namespace TL
abbrev hf(g:bh)(h:Int):Prop:=0<=h/\h<2*(g.2.length:Int)
abbrev nd(g:bh)(v:Int):Prop:=0<=v/\v<g.1
variable{g:bh}{ws:List Nat}{s p:Int}{far:List Nat}{by_:List Int}{se:List Bool}{rk:Int->Nat}{n:Nat}{done:List Int}
end TL
/-
  TlOpen: arguments opened: what a law's reader says of a slice is what a walk wants of it.
  By an AI agent.
-/
namespace TL
open Go Go.Proofs Go.ChangeShapes Go.WideShapes Go.Joins Go.Deep
structure oY{H:Type}(f:DataW H->Nat):Prop where
 slice:∀l s:List (DataW H),l.length<=f (.slice l s)
 elem:∀l s:List (DataW H),∀d∈l,f d<=f (.slice l s)
 part:∀l:List (DataW H),∀d∈l,f d<=f (.agg l)
def uo(α:Type)[Rp α](P:Program)(t:TypeId):Prop:=
  ∀{H:Type} (enc:TypeId×Value->H) (w:World) (fuel:Nat) (cs:List Value) (x:DataW H×List MemPlace),DataW.trod enc P w 0 (λ_=>true) true fuel t cs=some x->∃y:α,Rp.rep c0 any w cs y
theorem qi{P:Program}{t:TypeId}(ht:P.underlying t=some (.int .i64)):uo Int P t:=by
 intro H enc w fuel cs x h
 obtain⟨n,rfl,_,_⟩:=DataW.trod_int ht h
 exact⟨n,rfl⟩
theorem np{H:Type}{enc:TypeId×Value->H}{P:Program}{w:World}{base:Nat}{spare:Nat->Bool}{held:Bool}{t e:TypeId}{fuel:Nat}{cs:List Value}{x:DataW H×List MemPlace}(ht:P.underlying t=some (.array 2 e))(hce:P.cellsOf e=1)(hct:P.cellsOf t=2)
   (h:DataW.trod enc P w base spare held fuel t cs=some x):
   ∃v0 v1 y0 y1 n,cs=[v0,v1]/\x=(.agg [y0.1,y1.1],y0.2++y1.2)/\DataW.trod enc P w base spare held n e [v0]=some y0/\DataW.trod enc P w base spare held n e [v1]=some y1:=by
 cases fuel with
 |zero=>simp[DataW.trod] at h
 |succ n=>
   unfold DataW.trod at h
   rw[ht] at h
   have r2:List.range 2=[0,1]:=rfl
   simp only[hct] at h
   by_cases hl:cs.length=2
   · rw[if_pos hl] at h
     match cs,hl with
     |[v0,v1],_=>
       simp[r2,hce] at h
       cases h0:DataW.trod enc P w base spare held n e [v0] with
       |none=>simp[h0] at h
       |some y0=>
         cases h1:DataW.trod enc P w base spare held n e [v1] with
         |none=>simp[h0,h1] at h
         |some y1=>
           simp[h0,h1] at h
           exact⟨v0,v1,y0,y1,n,rfl,h.symm,h0,h1⟩
   · rw[if_neg hl] at h;cases h
theorem uy{P:Program}{t e:TypeId}(ht:P.underlying t=some (.array 2 e))(he:P.underlying e=some (.int .i64))(hce:P.cellsOf e=1)(hct:P.cellsOf t=2):uo (Int×Int) P t:=by
 intro H enc w fuel cs x h
 obtain⟨v0,v1,y0,y1,n,rfl,_,h0,h1⟩:=np ht hce hct h
 obtain⟨a,ha⟩:=qi he enc w n [v0] y0 h0
 obtain⟨b,hb⟩:=qi he enc w n [v1] y1 h1
 exact⟨(a,b),[v0],[v1],rfl,ha,hb⟩
theorem qN{α:Type}[Rp α][Inhabited α]{P:Program}{t e:TypeId}(ht:P.underlying t=some (.slice e))(hc:P.cellsOf e=Rp.sz α)(hz:0<Rp.sz α)(he:uo α P e)
    {H:Type}{enc:TypeId×Value->H}{w:World}{f:DataW H->Nat}(hf:oY f){fuel:Nat}{v:Value}{x:DataW H×List MemPlace}
    (hs:∀a len cap,v= .slice (some a) len cap->a.spot=none)(h:DataW.trod enc P w 0 (λ_=>true) true fuel t [v]=some x)(hb:f x.1<=1048576):∃xs:List α,Ro w v xs:=by
  rcases Deep.open_slice ht h with⟨h0,_⟩|⟨a,len,cap,m,n,D,Pl,h0,_,hlc,_,hm,rfl,hx⟩
  · obtain rfl:v= .slice none 0 0:=by simpa using h0
    exact⟨[],.inl ⟨⟨_,rfl⟩,rfl⟩⟩
  · obtain rfl:v= .slice (some a) len cap:=by simpa using h0
    have hsp:=hs a len cap rfl
    obtain⟨b,off,spot⟩:=a
    obtain rfl:spot=none:=hsp
    simp only[if_true] at hm
    subst hm
    obtain⟨Y,hY⟩:=Deep.choose_lt (α:=α) (n:=len) (p:=λi y=>∃cs,(∀j,j<Rp.sz α->w.cell? ⟨b,off+i*Rp.sz α+j,none⟩=cs[j]?)/\Rp.rep c0 any w cs y) (λi hi=>by
      obtain⟨cs',h1,h2⟩:=hx i (by omega)
      obtain⟨y,hy⟩:=he enc w n cs' _ h2
      refine⟨y,cs',λj hj=>?_,hy⟩
      obtain⟨_,hl,hcell⟩:=World.cells?_some h1
      have:=hcell j (by omega)
      rw[Deep.add_add,hc] at this
      rw[<-this]
      unfold Addr.add
      by_cases hij:i*Rp.sz α+j=0
      · rw[if_pos hij,Nat.add_assoc,hij];rfl
      · rw[if_neg hij,Nat.add_assoc])
    have hlen:((List.range len).map Y).length=len:=by simp
    have hbound:=Nat.le_trans (hf.slice _ _) hb
    refine⟨(List.range len).map Y,.inr ⟨b,off,m,by rw[hlen],⟨by omega,by simp at hbound;omega⟩,λi y hi=>?_⟩⟩
    have hil:i<len:=by
      have:=(List.getElem?_eq_some_iff.1 hi).1
      omega
    obtain rfl:Y i=y:=by simpa[hil] using hi
    obtain⟨cs,h1,h2⟩:=hY i hil
    refine⟨?_,trivial,cs,h1,h2⟩
    have h3:=h1 0 hz
    have h4:=Rp.len h2
    have h5:0<cs.length:=by omega
    rw[List.getElem?_eq_getElem h5] at h3
    by_cases hbl:b<w.heap.size
    · exact hbl
    · have:w.heap[b]? =none:=Array.getElem?_eq_none (by omega)
      simp[World.cell?,this] at h3
theorem mV{P:Program}{w:World}{base:Nat}{t e:TypeId}{v:Value}(ht:P.underlying t=some (.slice e))(h:Cell.okWide P w .any base t v):∀a len cap,v= .slice (some a) len cap->a.spot=none:=by
 rintro a len cap rfl
 simp only[Cell.okWide,Cell.ok,ht] at h
 exact h.2.2.2.1
theorem uF{α:Type}[Rp α][Inhabited α]{P:Program}{t t0 t1 e:TypeId}{f0 f1:Field}(hs:P.underlying t=some (.struct #[f0,f1]))(hone:oneCellFields P #[f0,f1]=true)(hC:P.cellsOf t=2)(hts:P.cellTypes P.depth t=some [t0,t1])
    (h0:f0.type=t0)(h1:f1.type=t1)(hi:P.underlying t0=some (.int .i64))(ht:P.underlying t1=some (.slice e))(hc:P.cellsOf e=Rp.sz α)(hz:0<Rp.sz α)(he:uo α P e)
    {H:Type}{enc:TypeId×Value->H}{w:World}{f:DataW H->Nat}(hf:oY f){base:Nat}{v:Value}{d:DataW H}{p:List MemPlace}
    (hval:Value.okWide P w .any base t v)(h:DataW.Trod enc P w 0 (λ_=>true) true t v d p)(hb:f d<=1048576):∃(n:Int) (u:Value) (xs:List α),v= .agg #[.int .i64 n,u]/\Ro w u xs:=by
  obtain⟨v0,v1,y0,y1,n,rfl,rfl,rfl,r0,r1⟩:=open_agg2 hs hone hC hval h
  subst h0 h1
  obtain⟨k,hk,_,_⟩:=DataW.trod_int hi r0
  obtain rfl:v0= .int .i64 k:=by simpa using hk
  have hcell:Cell.okWide P w .any base f1.type v1:=by
    simp only[Value.okWide,hs] at hval
    obtain⟨cs,hcs,_,ts,h3,_,h4⟩:=hval
    rw[hts] at h3
    obtain rfl:=Option.some.inj h3
    obtain rfl: #[Value.int .i64 k,v1]=cs:=by simpa using hcs
    obtain⟨u,hu,hk⟩:=h4 1 v1 rfl
    simp at hu
    subst hu
    exact hk
  obtain⟨xs,hx⟩:=qN ht hc hz he hf (mV ht hcell) (x:=y1) r1 (Nat.le_trans (hf.part _ _ (by simp)) hb)
  exact⟨k,v1,xs,rfl,hx⟩
end TL
/-
  TlCyc: lists gone round: what stands behind what; rotations turned, and moved.
  By an AI agent.
-/
set_option linter.all false
namespace TL
def xS(l:List Int)(h:Int):Int:=gI l ((((l.idxOf h:Nat):Int)+1)%(l.length:Int))
section
variable{g:bh}{r:ip}{to:List Int}
end
end TL
/-
  TlJudge4: directions around a point; a plot turned by a quarter; the example's rotation.
  By an AI agent.
-/
set_option linter.all false
namespace TL
section
variable{u v w:Pt}
end
section
variable{p:lE}{o:Pt}{l:List Int}
end
section
variable{u v:Pt}{i k:Int}
def wX(u:Pt):Prop:=0<=u.1/\0<u.2
instance (u:Pt):Decidable (wX u):=by unfold wX;infer_instance
end
section
variable{o:Pt}{ps:List Pt}
end
end TL
/-
  TlJTr: plots moved as a whole: their flaws.
  By an AI agent.
-/
set_option linter.all false
namespace TL
section
variable{T:Pt->Pt}{D:Pt->Prop}{g:bh}{p:lE}{l a b but:List Pt}{q:Pt}{i k:Nat}
end
section
variable{g:bh}{p:lE}
end
def wW(p:lE):Nat->Int
 |0=>(p.1.length:Int)
 |k+1=>wW p k+((gI p.2 (k:Int)).length:Int)+1
def sc(g:bh)(p:lE):Prop:=wW p p.2.length<=400/\(¬aV g\/g.1<=30/\(g.2.length:Int)<=40)
instance (g:bh)(p:lE):Decidable (sc g p):=by unfold sc;infer_instance
end TL
namespace TL
section
variable{g:bh}{p:lE}{l r:List Pt}{L:List (List Pt)}{k e:Nat}
end
end TL
namespace TL
section
variable{α:Type}[Inhabited α][DecidableEq α]{a b:List α}{k:Nat}
end
section
variable{g:bh}{p:lE}{n:Int}{e:Nat}
end
end TL
/-
  TlWord: words and bytes in memory (a list of uint64, a list of uint8), and how a statement's argument of them is opened.
  By an AI agent.
-/
set_option linter.all false
namespace TL
open Go Go.Proofs Go.ChangeShapes Go.WideShapes Go.Joins Go.Deep
structure Wd where
  n:Nat
  lt:n<18446744073709551616
instance:Inhabited Wd:=⟨⟨0,by decide⟩⟩
instance:Rp Wd where
 sz:=1
 rep _ _ _ cs x:=cs=[.int .u64 (x.n:Int)]
 len h:=by subst h;rfl
 one h:=by subst h;simp[Value.oneCell']
 tr _ _ h:=h
instance:Fl Wd where
 cells x:=[.int .u64 (x.n:Int)]
 rep_iff:=Iff.rfl
structure Bt where
  n:Nat
  lt:n<256
instance:Inhabited Bt:=⟨⟨0,by decide⟩⟩
instance:Rp Bt where
 sz:=1
 rep _ _ _ cs x:=cs=[.int .u8 (x.n:Int)]
 len h:=by subst h;rfl
 one h:=by subst h;simp[Value.oneCell']
 tr _ _ h:=h
instance:Fl Bt where
 cells x:=[.int .u8 (x.n:Int)]
 rep_iff:=Iff.rfl
end TL
namespace TL
open Go Go.Proofs Go.ChangeShapes Go.WideShapes Go.Joins Go.Deep
end TL
namespace TL
open Go
end TL
/-
  TlDij3: lengths of small whole weights: one way and another compared.
  By an AI agent.
-/
set_option linter.all false
namespace TL
variable{g g1 g2:bh}{ws w1 w2:List Nat}{s s1 s2:Int}{far f1 f2:List Nat}{by_ b1 b2:List Int}{rk r1 r2:Int->Nat}{C:Nat}
def gx(h:Int):Int:=if h%2=0 then h+1 else h-1
theorem dN{h:Int}(hh:hf g h):hf g (gx h)/\gx h/2=h/2/\aK g (gx h)=bC g h/\bC g (gx h)=aK g h:=by
 have h0:=hh.1
 have h1:=hh.2
 have e1:gx h/2=h/2:=by unfold gx;split<;>omega
 have e2:gx h%2=1-h%2:=by unfold gx;split<;>omega
 refine⟨⟨by unfold gx;split<;>omega,by unfold gx;split<;>omega⟩,e1,?_,?_⟩
 · unfold aK bC;rw[e1,e2]
 · unfold aK bC;rw[e1,e2,show 1-(1-h%2)=h%2 by omega]
end TL
namespace TL
end TL
/-
  TlBlk4: the walk that finds blocks, one way of a step at a time; the loop that looks for an edge on the stack.
  By an AI agent.
-/
set_option linter.all false
namespace TL
variable{g:bh}{R:Bs}{pl lo by_ nx:List Int}{fo:Int}{ed:List Int}{la:List Bool}{bl:List Int}{co:Int}{path:List Int}{u hh:Int}
theorem fA.via{s s':Bs}{path path':List Int}(hm:aV g)(h:fA g R s path)(hp:0<(path.length:Int))(hu:u=gI path ((path.length:Int)-1))(e:da g s path u=(s',path')):fA g R s' path'/\bQ g s' path'<bQ g s path:=by
 have:=h.step hm (λk=>by rw[k] at hp;simp at hp) hu
 rw[e] at this;exact this
abbrev bs(pl lo by_ nx:List Int)(fo:Int)(ed:List Int)(la:List Bool)(bl:List Int)(co:Int):Bs:=⟨pl,lo,by_,nx,fo,ed,la,bl,co⟩
theorem fA.skip(hm:aV g)(h:fA g R (bs pl lo by_ nx fo ed la bl co) path)(hp:0<(path.length:Int))(hu:u=gI path ((path.length:Int)-1))(hn:¬gI nx u=((gI (bg g) u).length:Int))(eh:gI (gI (bg g) u) (gI nx u)=hh)(hl:gI la (hh/2)=true):
    fA g R (bs pl lo by_ (nx.set u.toNat (gI nx u+1)) fo ed la bl co) path/\bQ g (bs pl lo by_ (nx.set u.toNat (gI nx u+1)) fo ed la bl co) path<bQ g (bs pl lo by_ nx fo ed la bl co) path:=by
  refine h.via hm hp hu ?_
  unfold da
  rw[if_neg hn]
  simp only[eh]
  unfold dG
  rw[if_pos hl];rfl
theorem fA.loop(hm:aV g)(h:fA g R (bs pl lo by_ nx fo ed la bl co) path)(hp:0<(path.length:Int))(hu:u=gI path ((path.length:Int)-1))(hn:¬gI nx u=((gI (bg g) u).length:Int))(eh:gI (gI (bg g) u) (gI nx u)=hh)(hl:¬gI la (hh/2)=true)(hw:bC g hh=u):
    fA g R (dq (bs pl lo by_ (nx.set u.toNat (gI nx u+1)) fo (ed++[hh/2]) (la.set (hh/2).toNat true) bl co) (hh/2)) path/\bQ g (dq (bs pl lo by_ (nx.set u.toNat (gI nx u+1)) fo (ed++[hh/2]) (la.set (hh/2).toNat true) bl co) (hh/2)) path<bQ g (bs pl lo by_ nx fo ed la bl co) path:=by
  refine h.via hm hp hu ?_
  unfold da
  rw[if_neg hn]
  simp only[eh]
  unfold dG
  rw[if_neg hl,if_pos hw];rfl
theorem fA.new(hm:aV g)(h:fA g R (bs pl lo by_ nx fo ed la bl co) path)(hp:0<(path.length:Int))(hu:u=gI path ((path.length:Int)-1))(hn:¬gI nx u=((gI (bg g) u).length:Int))(eh:gI (gI (bg g) u) (gI nx u)=hh)(hl:¬gI la (hh/2)=true){w:Int}(ew:bC g hh=w)(hw:¬w=u)(hz:gI pl w=0):
    fA g R (bs (pl.set w.toNat (fo+1)) (lo.set w.toNat (fo+1)) (by_.set w.toNat hh) (nx.set u.toNat (gI nx u+1)) (fo+1) (ed++[hh/2]) (la.set (hh/2).toNat true) bl co) (path++[w])/\bQ g (bs (pl.set w.toNat (fo+1)) (lo.set w.toNat (fo+1)) (by_.set w.toNat hh) (nx.set u.toNat (gI nx u+1)) (fo+1) (ed++[hh/2]) (la.set (hh/2).toNat true) bl co) (path++[w])<bQ g (bs pl lo by_ nx fo ed la bl co) path:=by
  subst ew
  refine h.via hm hp hu ?_
  unfold da
  rw[if_neg hn]
  simp only[eh]
  unfold dG
  rw[if_neg hl,if_neg hw,if_pos hz];rfl
theorem fA.back(hm:aV g)(h:fA g R (bs pl lo by_ nx fo ed la bl co) path)(hp:0<(path.length:Int))(hu:u=gI path ((path.length:Int)-1))(hn:¬gI nx u=((gI (bg g) u).length:Int))(eh:gI (gI (bg g) u) (gI nx u)=hh)(hl:¬gI la (hh/2)=true){w:Int}(ew:bC g hh=w)(hw:¬w=u)(hz:¬gI pl w=0):
    fA g R (bs pl (lo.set u.toNat (min (gI lo u) (gI pl w))) by_ (nx.set u.toNat (gI nx u+1)) fo (ed++[hh/2]) (la.set (hh/2).toNat true) bl co) path/\bQ g (bs pl (lo.set u.toNat (min (gI lo u) (gI pl w))) by_ (nx.set u.toNat (gI nx u+1)) fo (ed++[hh/2]) (la.set (hh/2).toNat true) bl co) path<bQ g (bs pl lo by_ nx fo ed la bl co) path:=by
  subst ew
  refine h.via hm hp hu ?_
  unfold da
  rw[if_neg hn]
  simp only[eh]
  unfold dG
  rw[if_neg hl,if_neg hw,if_neg hz];rfl
theorem fA.off0(hm:aV g)(h:fA g R (bs pl lo by_ nx fo ed la bl co) path)(hp:0<(path.length:Int))(hu:u=gI path ((path.length:Int)-1))(hn:gI nx u=((gI (bg g) u).length:Int))(hb:gI by_ u<0):
    fA g R (bs pl lo by_ nx fo ed la bl co) path.dropLast/\bQ g (bs pl lo by_ nx fo ed la bl co) path.dropLast<bQ g (bs pl lo by_ nx fo ed la bl co) path:=by
  refine h.via hm hp hu ?_
  unfold da
  rw[if_pos hn]
  unfold dg
  rw[if_pos hb]
theorem fA.off1(hm:aV g)(h:fA g R (bs pl lo by_ nx fo ed la bl co) path)(hp:0<(path.length:Int))(hu:u=gI path ((path.length:Int)-1))(hn:gI nx u=((gI (bg g) u).length:Int))(hb:¬gI by_ u<0){q:Int}(eq:aK g (gI by_ u)=q){lo':List Int}(el:lo'=lo.set q.toNat (min (gI lo q) (gI lo u)))(hc:¬gI pl q<=gI lo' u):
    fA g R (bs pl lo' by_ nx fo ed la bl co) path.dropLast/\bQ g (bs pl lo' by_ nx fo ed la bl co) path.dropLast<bQ g (bs pl lo by_ nx fo ed la bl co) path:=by
  subst eq el
  refine h.via hm hp hu ?_
  unfold da
  rw[if_pos hn]
  unfold dg
  rw[if_neg hb]
  simp only
  rw[if_neg hc]
theorem fA.off2(hm:aV g)(h:fA g R (bs pl lo by_ nx fo ed la bl co) path)(hp:0<(path.length:Int))(hu:u=gI path ((path.length:Int)-1))(hn:gI nx u=((gI (bg g) u).length:Int))(hb:¬gI by_ u<0){q:Int}(eq:aK g (gI by_ u)=q){lo':List Int}(el:lo'=lo.set q.toNat (min (gI lo q) (gI lo u)))(hc:gI pl q<=gI lo' u):
    fA g R (dq (bs pl lo' by_ nx fo ed la bl co) (gI by_ u/2)) path.dropLast/\bQ g (dq (bs pl lo' by_ nx fo ed la bl co) (gI by_ u/2)) path.dropLast<bQ g (bs pl lo by_ nx fo ed la bl co) path:=by
  subst eq el
  refine h.via hm hp hu ?_
  unfold da
  rw[if_pos hn]
  unfold dg
  rw[if_neg hb]
  simp only
  rw[if_pos hc]
theorem fA.loop1(hm:aV g)(h:fA g R (bs pl lo by_ nx fo ed la bl co) path)(hp:0<(path.length:Int))(hu:u=gI path ((path.length:Int)-1))(hn:¬gI nx u=((gI (bg g) u).length:Int))(eh:gI (gI (bg g) u) (gI nx u)=hh)(hl:¬gI la (hh/2)=true)(hw:bC g hh=u){s':Bs}(hc:dq (bs pl lo by_ (nx.set u.toNat (gI nx u+1)) fo (ed++[hh/2]) (la.set (hh/2).toNat true) bl co) (hh/2)=s'):
   fA g R s' path/\bQ g s' path<bQ g (bs pl lo by_ nx fo ed la bl co) path:=by
 subst hc;exact h.loop hm hp hu hn eh hl hw
theorem fA.off3(hm:aV g)(h:fA g R (bs pl lo by_ nx fo ed la bl co) path)(hp:0<(path.length:Int))(hu:u=gI path ((path.length:Int)-1))(hn:gI nx u=((gI (bg g) u).length:Int))(hb:¬gI by_ u<0){q:Int}(eq:aK g (gI by_ u)=q){lo':List Int}(el:lo'=lo.set q.toNat (min (gI lo q) (gI lo u)))(hc:gI pl q<=gI lo' u){s':Bs}(hcl:dq (bs pl lo' by_ nx fo ed la bl co) (gI by_ u/2)=s'):
   fA g R s' path.dropLast/\bQ g s' path.dropLast<bQ g (bs pl lo by_ nx fo ed la bl co) path:=by
 subst hcl;exact h.off2 hm hp hu hn hb eq el hc
structure qk(ed:List Int)(x at_:Int):Prop where
  mem:x∈ed
  nd:ed.Nodup
  lo:0<=at_
  hi:at_<ed.length
  no:∀j:Int,at_<j->j<ed.length->gI ed j≠x
theorem qk.start{x:Int}(hn:ed.Nodup)(hx:x∈ed):qk ed x ((ed.length:Int)-1):=by
 have:0<ed.length:=List.length_pos_of_mem hx
 exact⟨hx,hn,by omega,by omega,λj a b=>by omega⟩
theorem qk.next{x at_:Int}(h:qk ed x at_)(hne:¬gI ed at_=x):qk ed x (at_-1)/\1<=at_:=by
 have h1:=h.lo
 have h2:=h.hi
 have hp:1<=at_:=by
   by_cases c:1<=at_
   · exact c
   · exfalso
     obtain⟨i,hi,e⟩:=List.mem_iff_getElem.1 h.mem
     have e2:gI ed (i:Int)=x:=by rw[<-e];simp[gI,hi]
     by_cases k:(i:Int)=at_
     · rw[k] at e2;exact hne e2
     · exact h.no i (by omega) (by omega) e2
 refine⟨⟨h.mem,h.nd,by omega,by omega,λj a b=>?_⟩,hp⟩
 by_cases k:j=at_
 · rw[k];exact hne
 · exact h.no j (by omega) b
theorem qk.done{x at_:Int}(h:qk ed x at_)(he:gI ed at_=x):at_=(mX ed x:Int):=by
 obtain⟨A,B,e1,hA,hB,e2⟩:=pf h.nd h.mem
 have h1:=h.lo
 have h2:=h.hi
 rw[e2]
 have hl:ed.length=A.length+1+B.length:=by rw[e1];simp;omega
 have hA2:gI ed (A.length:Int)=x:=by rw[e1];simp[gI]
 rcases Int.lt_trichotomy at_ A.length with c|c|c
 · exact absurd hA2 (h.no _ c (by omega))
 · exact c
 · exfalso
   obtain⟨k,rfl⟩:∃k:Nat,at_=k:=⟨at_.toNat,by omega⟩
   have hk:k<ed.length:=by omega
   have e3:gI ed (k:Int)=ed[k]:=by simp[gI,hk]
   have:ed[k]∈B:=by
     have hk2:k-(A.length+1)<B.length:=by omega
     have e4:ed[k]=B[k-(A.length+1)]:=by
       have:ed[k]? =B[k-(A.length+1)]? :=by
         rw[e1,List.getElem?_append_right (by omega),List.getElem?_cons,if_neg (by omega)]
         congr 1
       rw[List.getElem?_eq_getElem hk,List.getElem?_eq_getElem hk2] at this
       exact Option.some.inj this
     rw[e4];exact List.getElem_mem hk2
   rw[e3] at he
   rw[he] at this
   exact hB this
end TL
namespace TL
open Go
theorem rF(n:Nat):n^^^1=if n%2=0 then n+1 else n-1:=by
 have h1:(n^^^1)%2=(n+1)%2:=by
   have:= @Nat.xor_mod_two_eq_one n 1
   by_cases c:(n^^^1)%2=1
   · have:=this.1 c;omega
   · have h3:¬¬(n%2=1↔1%2=1):=λk=>c (this.2 k)
     have h4:=Decidable.not_not.1 h3
     have:n%2=1:=h4.2 rfl
     omega
 have h2:(n^^^1)/2=n/2:=by rw[Nat.xor_div_two];simp
 split<;>omega
theorem qY{m:Int}(t:TypeId)(h0:0<=m)(h1:m<4611686018427387904):binOp .xor t (.int .i64 m) (.int .i64 1)=pure (.int .i64 (gx m)):=by
 obtain⟨n,rfl⟩:=Int.eq_ofNat_of_zero_le h0
 have hn:n<4611686018427387904:=by omega
 have e:(BitVec.ofInt 64 (n:Int)^^^BitVec.ofInt 64 1).toNat=n^^^1:=by
   rw[BitVec.toNat_xor]
   have e1:(BitVec.ofInt 64 (n:Int)).toNat=n:=by
     rw[BitVec.toNat_ofInt];omega
   have e2:(BitVec.ofInt 64 (1:Int)).toNat=1:=by decide
   rw[e1,e2]
 have h3:(((n^^^1:Nat)):Int)=gx (n:Int):=by
   rw[rF];unfold gx
   split<;>split<;>omega
 show(pure (Value.int .i64 (IntKind.i64.wrap ((BitVec.ofInt 64 (n:Int)^^^BitVec.ofInt 64 1).toNat:Int))):Sem Value)=_
 rw[e,h3,j5]
 unfold gx;unfold u4;split<;>omega
end TL
namespace TL
variable{g:bh}{s:Bs}{path:List Int}
theorem rL(h:dY g s path):0<=s.found/\s.found<=g.1/\0<=s.count/\s.count+(s.edges.length:Int)<=(g.2.length:Int):=by
  have h1:=h.fn
  have h2:=h.cl
  have h3:s.laid.count true<=s.laid.length:=List.count_le_length
  have h4:=h.l5
  exact⟨h.f0,by omega,h.ct,by omega⟩
theorem uC{l:List Int}{n q:Nat}(h:l=List.replicate q (-1)++List.replicate (n-q) 0)(hq:q<=n):l.length=n:=by
 rw[h];simp;omega
theorem sf{l:List Int}{n q:Nat}(h:l=List.replicate q (-1)++List.replicate (n-q) 0)(hq:q<n):l.set (Int.toNat (q:Int)) (-1)=List.replicate (q+1) (-1)++List.replicate (n-(q+1)) 0:=by
 rw[h,Int.toNat_natCast,List.set_append_right _ _ (by simp)]
 simp only[List.length_replicate,Nat.sub_self]
 rw[show n-q=(n-(q+1))+1 by omega,List.replicate_succ,List.set_cons_zero,List.replicate_succ',List.append_assoc]
 rfl
def rp(L bl:List Int)(co:Int)(k:Nat):List Int:=(L.take k).foldl (λb x=>b.set x.toNat co) bl
theorem vI{L bl:List Int}{co:Int}:bl=rp L bl co 0:=rfl
theorem ql{L bl b:List Int}{co:Int}{k:Nat}(h:b=rp L bl co k):b.length=bl.length:=by rw[h];unfold rp;exact lb _ _ _
theorem nR{L bl b:List Int}{co:Int}{k:Nat}(h:b=rp L bl co k)(hk:(k:Int)<L.length):b.set (gI L (k:Int)).toNat co=rp L bl co (k+1):=by
 have hk':k<L.length:=by omega
 unfold rp at*
 rw[List.take_succ_eq_append_getElem hk',List.foldl_append,<-h]
 have e:gI L (k:Int)=L[k]:=by simp[gI,hk']
 rw[e];rfl
theorem iZ{pl lo by_ nx:List Int}{fo:Int}{ed:List Int}{la:List Bool}{bl:List Int}{co x at_:Int}{bk:List Int}{k:Nat}(ha:qk ed x at_)(he:gI ed at_=x)(hb:bk=rp (List.drop (Int.toNat at_) (List.take (Int.toNat (ed.length:Int)) ed)) bl co k)
   (hk:¬(k:Int)<((List.drop (Int.toNat at_) (List.take (Int.toNat (ed.length:Int)) ed)).length:Int))(hk2:(k:Int)<=((List.drop (Int.toNat at_) (List.take (Int.toNat (ed.length:Int)) ed)).length:Int)):
   dq (bs pl lo by_ nx fo ed la bl co) x=bs pl lo by_ nx fo (ed.take (Int.toNat at_)) la bk (co+1):=by
 have e:=ha.done he
 have el:List.drop (Int.toNat at_) (List.take (Int.toNat (ed.length:Int)) ed)=ed.drop (mX ed x):=by
   rw[e,Int.toNat_natCast,Int.toNat_natCast,List.take_length]
 rw[el] at hb hk hk2
 have hk3:k=(ed.drop (mX ed x)).length:=by omega
 unfold dq
 rw[hb]
 unfold rp
 rw[hk3,List.take_length,e,Int.toNat_natCast]
theorem fy{path:List Int}:List.take (Int.toNat ((path.length:Int)-1)) path=path.dropLast:=by
 rw[List.dropLast_eq_take];congr 1;omega
theorem uX{s s':Bs}{v:Nat}(h:s=dH g v)(hp:gI s.place (v:Int)=0)(hR:s'=fm g s (v:Int)):s'=dH g (v+1):=by
 rw[ib,<-h,if_pos hp];exact hR
theorem wq{s:Bs}{v:Nat}(h:s=dH g v)(hp:¬gI s.place (v:Int)=0):s=dH g (v+1):=by
 rw[ib,<-h,if_neg hp]
end TL
namespace TL
variable{g:bh}{of o:List Int}{c:List Bool}{k:Nat}
structure gf(of:List Int)(g:bh)(o:List Int)(c:List Bool)(k:Nat):Prop where
  eq:(o,c)=eG of g k
  lo:(o.length:Int)=g.1
  lc:(c.length:Int)=g.1
theorem u3{pl lo by_ nx:List Int}{fo:Int}{ed:List Int}{la:List Bool}{bl:List Int}{co:Int}{path:List Int}{O:List (List Int)}{u:Int}(h:dY g (bs pl lo by_ nx fo ed la bl co) path)(hO:O=bg g)(hp:0<(path.length:Int))(hu:gI path ((path.length:Int)-1)=u):
    ((0<=u/\u<g.1)/\(0<=gI nx u/\gI nx u<=((gI O u).length:Int)))/\(gI by_ u= -1\/(0<=gI by_ u/\gI by_ u<2*(g.2.length:Int))):=by
  have hm:=h.pr _ (bF (xs:=path) (i:=(path.length:Int)-1) (by omega) (by omega))
  rw[hu] at hm
  rw[hO]
  refine⟨⟨hm.1,h.nx _ hm.1.1 hm.1.2⟩,?_⟩
  rcases h.by_ _ hm.1.1 hm.1.2 with k|k
  · exact .inl k
  · exact .inr k.1
theorem uh{pl lo by_ nx:List Int}{fo:Int}{ed:List Int}{la:List Bool}{bl:List Int}{co:Int}{path:List Int}{O:List (List Int)}{u:Int}(hm:aV g)(h:dY g (bs pl lo by_ nx fo ed la bl co) path)(hO:O=bg g)(u0:0<=u)(u1:u<g.1)(hn:¬gI nx u=((gI O u).length:Int)):
   (0<=gI (gI O u) (gI nx u)/\gI (gI O u) (gI nx u)<2*(g.2.length:Int))/\(0<=bC g (gI (gI O u) (gI nx u))/\bC g (gI (gI O u) (gI nx u))<g.1):=by
 obtain⟨n0,n1⟩:=h.nx u u0 u1
 rw[hO] at hn ⊢
 have hin:gI (gI (bg g) u) (gI nx u)∈gI (bg g) u:=bF n0 (by
   have n1':gI nx u<=((gI (bg g) u).length:Int):=n1
   omega)
 rw[g5 u0 u1] at hin
 have ho:=(eP hin).1
 rw[<-g5 u0 u1] at ho
 exact⟨ho,gF hm ho.1 ho.2⟩
theorem gf.start(h0:0<=g.1):gf of g (List.replicate (Int.toNat g.1) 0) (List.replicate (Int.toNat g.1) false) 0:=⟨rfl,by simp;omega,by simp;omega⟩
theorem gf.next(h:gf of g o c k){v e b:Int}{bb:Bool}(hv:aK g (k:Int)=v)(he:(k:Int)/2=e)(hb:b=gI of e+1)(hbb:bb=(gI c v||(decide (0<gI o v)&& !decide (gI o v=gI of e+1)))):gf of g (o.set (Int.toNat v) b) (c.set (Int.toNat v) bb) (k+1):=by
 subst hv he hb hbb
 refine⟨?_,by rw[List.length_set];exact h.lo,by rw[List.length_set];exact h.lc⟩
 unfold eG
 rw[cY,List.foldl_append]
 show _=tM of g (eG of g k) (k:Int)
 rw[<-h.eq];rfl
theorem gf.two(h:gf of g o c (2*k)){v v2 b b2:Int}{bb bb2:Bool}(hv:(gI g.2 (k:Int)).1=v)(hv2:(gI g.2 (k:Int)).2=v2)(hb:b=gI of (k:Int)+1)(hbb:bb=(gI c v||(decide (0<gI o v)&& !decide (gI o v=gI of (k:Int)+1))))(hb2:b2=gI of (k:Int)+1)(hbb2:bb2=(gI (c.set (Int.toNat v) bb) v2||(decide (0<gI (o.set (Int.toNat v) b) v2)&& !decide (gI (o.set (Int.toNat v) b) v2=gI of (k:Int)+1)))):
   gf of g ((o.set (Int.toNat v) b).set (Int.toNat v2) b2) ((c.set (Int.toNat v) bb).set (Int.toNat v2) bb2) (2*(k+1)):=by
 have e1:((2*k:Nat):Int)/2=(k:Int):=by omega
 have e2:((2*k+1:Nat):Int)/2=(k:Int):=by omega
 have f1:aK g ((2*k:Nat):Int)=v:=by
   rw[<-hv];unfold aK;rw[e1,show((2*k:Nat):Int)%2=0 by omega];rfl
 have f2:aK g ((2*k+1:Nat):Int)=v2:=by
   rw[<-hv2];unfold aK;rw[e2,show((2*k+1:Nat):Int)%2=1 by omega];rfl
 exact(h.next f1 e1 hb hbb).next f2 e2 hb2 hbb2
theorem jz{x y:Bool}(h:x=true):true=(x||y):=by rw[h];rfl
theorem jl{x:Bool}{y:Int}{q:Prop}[Decidable q](h:¬x=true)(hp:¬0<y):false=(x||(decide (0<y)&& !decide q)):=by
 rw[decide_eq_false hp];simpa using h
theorem jk{x:Bool}{y:Int}{q:Prop}[Decidable q](h:¬x=true)(hp:0<y):(!decide q)=(x||(decide (0<y)&& !decide q)):=by
 have:x=false:=by simpa using h
 rw[this,decide_eq_true hp];simp
theorem te{a:List Int}{l:List Bool}{k:Nat}(h:a=(bG k).filter λv=>gI l v):(a.length:Int)<=(k:Int):=by
 have h1:=List.length_filter_le (λv=>gI l v) (bG k)
 have h2:(bG k).length=k:=by simp[bG]
 rw[h];omega
theorem sT{a:List Int}{l:List Bool}{k:Nat}(h:a=(bG k).filter λv=>gI l v)(hk:gI l (k:Int)=true):a++[(k:Int)]=(bG (k+1)).filter λv=>gI l v:=by
 rw[h,cY,List.filter_append];simp[hk]
theorem ua{a:List Int}{l:List Bool}{k:Nat}(h:a=(bG k).filter λv=>gI l v)(hk:¬gI l (k:Int)=true):a=(bG (k+1)).filter λv=>gI l v:=by
 rw[h,cY,List.filter_append];simp[hk]
end TL
namespace TL
variable{g:bh}
theorem u5{pl lo by_ nx:List Int}{fo:Int}{ed:List Int}{la:List Bool}{bl:List Int}{co:Int}{path:List Int}(h0:0<=g.1)(h:dY g (bs pl lo by_ nx fo ed la bl co) path):(path.length:Int)<=g.1:=by
 have:=ox g.1.toNat path h.pn (λx hx=>by have:=(h.pr x hx).1;omega)
 omega
theorem wY{b:List Int}{q:Nat}(hb:b=List.replicate q (-1)++List.replicate (Int.toNat g.1-q) 0)(hq:(q:Int)=g.1):
   bs (List.replicate (Int.toNat g.1) 0) (List.replicate (Int.toNat g.1) 0) b (List.replicate (Int.toNat g.1) 0) 0 [] (List.replicate (Int.toNat (g.2.length:Int)) false) (List.replicate (Int.toNat (g.2.length:Int)) 0) 0=dH g 0:=by
 have e:q=Int.toNat g.1:=by omega
 subst e
 rw[hb,Nat.sub_self,List.replicate_zero,List.append_nil,Int.toNat_natCast];rfl
theorem sL(g:bh):0<=iN g/\iN g<=(g.2.length:Int):=by
 have:=(j8 (dH g g.1.toNat).block g.2.length).2
 unfold iN;omega
theorem rJ{b:List Int}(hb:b=(dH g (Int.toNat g.1)).block)(hl:(b.length:Int)=g.2.length):aJ b b.length=(aJ (dH g g.1.toNat).block g.2.length):=by
 have:b.length=g.2.length:=by omega
 rw[this,hb]
theorem fA.fin{R s:Bs}{path:List Int}(h:fA g R s path)(hp:¬0<(path.length:Int)):s=R:=by
 have e:path=[]:=List.eq_nil_of_length_eq_zero (by omega)
 subst e
 exact h.done
def cz(g:bh):List Int×List Int×Int:=(iy g,jT g,iN g)
theorem oT{b cu oo:List Int}{cc:List Bool}{j k:Nat}(hnam:aJ b b.length=aJ (dH g g.1.toNat).block g.2.length)(hcu:cu=(bG j).filter λv=>gI cc v)(hj:(j:Int)=(cc.length:Int))(hci:gf (iy g) g oo cc (2*k))(hk:(k:Int)=(g.2.length:Int)):
   ((aJ b b.length).2,cu,((aJ b b.length).1.length:Int))=cz g:=by
 have e1:k=g.2.length:=by omega
 have e2:j=g.1.toNat:=by have:=hci.lc;omega
 have e3:cc=(eG (iy g) g (2*g.2.length)).2:=by rw[<-e1,<-hci.eq]
 rw[hnam,hcu,e2,e3];rfl
end TL
/-
  TlBfs: a walk breadth first tells the numbers of edges: it is as ways of weights 1.
  By an AI agent.
-/
set_option linter.all false
namespace TL
variable{g:bh}{s v c hh:Int}{st:Bf}{dh:Int->Prop}
theorem i3{x:Int}(hx:hf g x):x∈dQ g (aK g x):=by
 unfold dQ gK
 exact List.mem_filter.2 ⟨List.mem_map.2 ⟨x.toNat,List.mem_range.2 (by have:=hx.1;have:=hx.2;omega),Int.toNat_of_nonneg hx.1⟩,decide_eq_true rfl⟩
end TL
/-
  TlCls: what a walk depth first over blocks may rely on: which edges belong together, and what parts them.
  By an AI agent.
-/
set_option linter.all false
namespace TL
inductive Wy (g:bh) (A:Int->Prop):Int->Int->Prop
  |refl {x:Int}:A x->Wy g A x x
  |step {x:Int} {h:Int}:Wy g A x (aK g h)->hf g h->A (bC g h)->Wy g A x (bC g h)
variable{g:bh}{A B:Int->Prop}{x y z:Int}
theorem Wy.right(h:Wy g A x y):A y:=by cases h<;>assumption
theorem Wy.left(h:Wy g A x y):A x:=by
 induction h with
 |refl h=>exact h
 |step _ _ _ ih=>exact ih
theorem Wy.mono(h:Wy g A x y)(hAB:∀z,A z->B z):Wy g B x y:=by
 induction h with
 |refl h=>exact .refl (hAB _ h)
 |step _ b c ih=>exact .step ih b (hAB _ c)
theorem Wy.trans(h:Wy g A x y)(k:Wy g A y z):Wy g A x z:=by
 induction k with
 |refl _=>exact h
 |step _ b c ih=>exact .step ih b c
theorem Wy.one{h:Int}(hh:hf g h)(a:A (aK g h))(b:A (bC g h)):Wy g A (aK g h) (bC g h):=.step (.refl a) hh b
theorem Wy.symm(h:Wy g A x y):Wy g A y x:=by
 induction h with
 |refl h=>exact .refl h
 |step p b c ih=>
   rename_i h'
   obtain⟨t1,_,t3,t4⟩:=dN (g:=g) b
   have q:Wy g A (bC g h') (aK g h'):=by
     have:=Wy.one (g:=g) (A:=A) t1 (by rw[t3];exact c) (by rw[t4];exact p.right)
     rwa[t3,t4] at this
   exact q.trans ih
def nf(g:bh)(e f:Int):Prop:=∃h k,hf g h/\hf g k/\h/2=e/\k/2=f/\aK g h=aK g k/\bC g h≠aK g h/\bC g k≠aK g k/\Wy g (λz=>z≠aK g h) (bC g h) (bC g k)
inductive EqB (g:bh):Int->Int->Prop
 |refl (e:Int):EqB g e e
 |rel {e f:Int}:nf g e f->EqB g e f
 |symm {e f:Int}:EqB g e f->EqB g f e
 |trans {e f k:Int}:EqB g e f->EqB g f k->EqB g e k
def jR(g:bh)(la:List Bool)(ed:List Int)(e:Int):Prop:=(0<=e/\e<(g.2.length:Int))/\gI la e=true/\e∉ed
def uI(g:bh)(la:List Bool)(ed bl:List Int)(b:Int):Prop:=
  (∃e0,(gI g.2 e0).1=(gI g.2 e0).2/\∀e,jR g la ed e->gI bl e=b->e=e0)\/
  ∃(T:Int->Prop) (u:Int),¬T u/\(∀h,hf g h->T (aK g h)->(T (bC g h)\/bC g h=u)/\jR g la ed (h/2)/\gI bl (h/2)<=b)/\
    (∀e,jR g la ed e->gI bl e=b->∃h,hf g h/\h/2=e/\T (aK g h))/\∀e f,jR g la ed e->jR g la ed f->gI bl e=b->gI bl f=b->EqB g e f
abbrev Fm:=List (Int×List Int)
structure rr(g:bh)(pl lo by_:List Int)(la:List Bool)(path:List Int)(A:Fm)(v:Int)(S:List Int)(B:Fm):Prop where
  own:(A=[]/\S=[]/\gI by_ v= -1)\/(∃A' u U S',A=A'++[(u,U)]/\S=gI by_ v/2::S'/\aK g (gI by_ v)=u/\0<=gI by_ v)
  asc:∀p∈A,gI pl p.1<gI pl v
  eqb:∀e∈S,EqB g e (gI by_ v/2)
  end_:∀e∈S,∃h,hf g h/\h/2=e/\gI pl v<=gI pl (aK g h)
  low:∀p∈A,∀e∈p.2,∀h,hf g h->h/2=e->gI pl (aK g h)<gI pl v
  cross:∀h,hf g h->gI pl (aK g h)≠0->aK g h∉path->gI pl (aK g h)<gI pl v->gI pl (bC g h)<gI pl v
  conn:∀x,0<=x->x<g.1->gI pl v<=gI pl x->Wy g (λz=>(0<=z/\z<g.1)/\gI pl v<=gI pl z) v x
  l1:∀h,hf g h->gI la (h/2)=true->gI pl v<=gI pl (aK g h)->gI pl (bC g h)<gI pl v->h/2≠gI by_ v/2->∃w∈v::B.map Prod.fst,gI lo w<=gI pl (bC g h)
  l2:gI lo v<=gI pl v
  l3:gI lo v<gI pl v->∃h,hf g h/\gI la (h/2)=true/\gI pl v<=gI pl (aK g h)/\gI pl (bC g h)=gI lo v
structure fN(g:bh)(s:Bs)(fr:Fm):Prop where
 se:dY g s (fr.map Prod.fst)
 stk:s.edges=(fr.map Prod.snd).flatten
 inj:∀x y,0<=x->x<g.1->0<=y->y<g.1->gI s.place x≠0->gI s.place x=gI s.place y->x=y
 lof:∀h,hf g h->gI s.laid (h/2)=true->gI s.place (aK g h)≠0
 fra:∀A v S B,fr=A++(v,S)::B->rr g s.place s.low s.by_ s.laid (fr.map Prod.fst) A v S B
 clr:∀e,jR g s.laid s.edges e->0<=gI s.block e/\gI s.block e<s.count
 clb:∀b,0<=b->b<s.count->uI g s.laid s.edges s.block b
theorem uI.congr{la la':List Bool}{ed ed' bl bl':List Int}{b:Int}(h:uI g la ed bl b)(hc:∀e,jR g la' ed' e->gI bl' e=b->jR g la ed e/\gI bl e=b)(hc':∀e,jR g la ed e->jR g la' ed' e/\gI bl' e=gI bl e):uI g la' ed' bl' b:=by
 rcases h with⟨e0,h1,h2⟩|⟨T,u,h1,h2,h3,h4⟩
 · exact .inl ⟨e0,h1,λe a c=>h2 e (hc e a c).1 (hc e a c).2⟩
 · refine .inr ⟨T,u,h1,λh hh ht=>?_,λe a c=>h3 e (hc e a c).1 (hc e a c).2,λe f a c d k=>h4 e f (hc e a d).1 (hc f c k).1 (hc e a d).2 (hc f c k).2⟩
   obtain⟨a,c,d⟩:=h2 h hh ht
   exact⟨a,(hc' _ c).1,by rw[(hc' _ c).2];exact d⟩
theorem dz{la:List Bool}{e x:Int}{c:Bool}(e0:0<=e)(e1:e<(la.length:Int))(x0:0<=x):gI (la.set e.toNat c) x=if x=e then c else gI la x:=c5 e0 e1 x0
theorem ji{la:List Bool}{ed:List Int}{e x:Int}(e0:0<=e)(e1:e<(la.length:Int))(hl:¬gI la e=true):jR g (la.set e.toNat true) (ed++[e]) x↔jR g la ed x:=by
 unfold jR
 constructor
 · rintro⟨a,b,c⟩
   have hne:x≠e:=λk=>c (by rw[k];simp)
   rw[dz e0 e1 a.1,if_neg hne] at b
   exact⟨a,b,λk=>c (List.mem_append_left _ k)⟩
 · rintro⟨a,b,c⟩
   have hne:x≠e:=λk=>hl (by rw[<-k];exact b)
   refine⟨a,by rw[dz e0 e1 a.1,if_neg hne];exact b,λk=>?_⟩
   rcases List.mem_append.1 k with k|k
   · exact c k
   · exact hne (List.mem_singleton.1 k)
theorem q7(c:Int):∀(P bl:List Int) (x:Int),0<=x->x<(bl.length:Int)->(∀e∈P,0<=e/\e<(bl.length:Int))->gI (P.foldl (λb e=>b.set e.toNat c) bl) x=if x∈P then c else gI bl x
 |[],bl,x,_,_,_=>by simp
 |e::P,bl,x,h0,h1,hP=>by
   have he:=hP e (List.mem_cons_self ..)
   rw[List.foldl_cons,q7 c P (bl.set e.toNat c) x h0 (by rw[List.length_set];exact h1) (λy hy=>by rw[List.length_set];exact hP y (List.mem_cons_of_mem _ hy)),c5 he.1 he.2 h0]
   by_cases k1:x∈P
   · rw[if_pos k1,if_pos (List.mem_cons_of_mem _ k1)]
   · rw[if_neg k1]
     by_cases k2:x=e
     · rw[if_pos k2,if_pos (by rw[k2];exact List.mem_cons_self ..)]
     · rw[if_neg k2,if_neg (λk=>(List.mem_cons.1 k).elim k2 k1)]
theorem oe{s:Bs}{pre rest:List Int}{e:Int}(he:s.edges=pre++e::rest)(hn:s.edges.Nodup):dq s e={s with block:=(e::rest).foldl (λb x=>b.set x.toNat s.count) s.block,edges:=pre,count:=s.count+1}:=by
  have hr:e∉rest:=by
    rw[he,List.nodup_append] at hn
    exact(List.nodup_cons.1 hn.2.1).1
  have ha:mX s.edges e=pre.length:=by rw[he];exact oO hr
  unfold dq
  rw[ha,he]
  simp
structure m8(g:bh)(s:Bs)(path:List Int):Prop where
  use:∀x,0<=x->x<g.1->∀j:Int,0<=j->j<gI s.next x->gI s.laid (gI (gI (bg g) x) j/2)=true
  exh:∀x,0<=x->x<g.1->gI s.place x≠0->x∉path->gI s.next x=((gI (bg g) x).length:Int)
theorem cT(hm:aV g){h:Int}(hh:hf g h):0<=aK g h/\aK g h<g.1:=by
 obtain⟨t1,_,t3,t4⟩:=dN (g:=g) hh
 have:=gF hm t1.1 t1.2
 rwa[t4] at this
theorem eK(hm:aV g){h:Int}(hh:hf g h):0<=bC g h/\bC g h<g.1:=gF hm hh.1 hh.2
theorem m8.all{s:Bs}{path:List Int}(hm:aV g)(h:m8 g s path){k:Int}(hk:hf g k)(h1:gI s.place (aK g k)≠0)(h2:aK g k∉path):gI s.laid (k/2)=true:=by
  obtain⟨f0,f1⟩:=cT hm hk
  have he:=h.exh _ f0 f1 h1 h2
  have hin:k∈gI (bg g) (aK g k):=by
    rw[g5 f0 f1]
    exact i3 hk
  obtain⟨i,hi,e⟩:=List.mem_iff_getElem.1 hin
  have:=h.use _ f0 f1 (i:Int) (by omega) (by rw[he];omega)
  have e2:∀(L:List Int) (hL:i<L.length),gI L (i:Int)=L[i]:=λL hL=>by simp[gI,hL]
  rw[e2 _ hi,e] at this
  exact this
end TL
/-
  TlPg: components without some nodes and edges, found by a stack: the document's way.
  By an AI agent.
-/
set_option linter.all false
namespace TL
structure ng(g g':bh)(gone:List Bool)(ps:Int->Prop):Prop where
  hm:aV g
  hm':aV g'
  n:g'.1=g.1
  pg:∀h,ps h->¬gI gone (aK g h)=true/\¬gI gone (bC g h)=true
  one:∀h,hf g h->ps h->Cn g' (aK g h) (bC g h)
  cl:∀S:Int->Prop,(∀h,hf g h->ps h->S (aK g h)->S (bC g h))->∀u v,Cn g' u v->S u->S v
def j7(g':bh)(gone:List Bool)(p:List Int×Int)(v:Int):List Int×Int:=
 if 0<=gI p.1 v\/gI gone v=true then p else((cF g' v).order.foldl (λl w=>l.set w.toNat p.2) p.1,p.2+1)
def cU(g':bh)(gone:List Bool)(k:Nat):List Int×Int:=(bG k).foldl (j7 g' gone) (List.replicate g'.1.toNat (-1),0)
section
variable{g g':bh}{gone:List Bool}{ps:Int->Prop}{u v x y:Int}
theorem mn(g':bh)(gone:List Bool)(k:Nat):cU g' gone (k+1)=j7 g' gone (cU g' gone k) (k:Int):=by
 unfold cU
 rw[cY,List.foldl_append];rfl
theorem ng.nd(hP:ng g g' gone ps):im g' v↔im g v:=by unfold im;rw[hP.n]
structure vG(g g':bh)(gone:List Bool)(p:List Int×Int)(l:List Int)(k:Nat):Prop where
  len:(p.1.length:Int)=g.1
  num:p.2=(l.length:Int)
  nd:l.Nodup
  dom:∀x∈l,im g x/\¬gI gone x=true
  one:∀x∈l,∀y∈l,Cn g' x y->x=y
  iff:∀v,im g v->(0<=gI p.1 v↔∃y∈l,Cn g' v y)
  all:∀v:Nat,v<k->(v:Int)<g.1->¬gI gone (v:Int)=true->∃y∈l,Cn g' (v:Int) y
  top:∀v,im g v->gI p.1 v<p.2
  lab:∀u v,im g u->im g v->0<=gI p.1 u->(gI p.1 u=gI p.1 v↔Cn g' u v)
  le:l.length<=k
theorem ng.inv(hP:ng g g' gone ps):∀k:Nat,(k:Int)<=g.1->∃l,vG g g' gone (cU g' gone k) l k
 |0,_=>by
   have h0:=hP.hm.1
   have e:(cU g' gone 0).1=List.replicate g.1.toNat (-1):=by simp[cU,bG,hP.n]
   have r:∀v,im g v->gI (cU g' gone 0).1 v= -1:=λv hv=>by rw[e,fZ hv.1 (by have:=hv.2;omega)]
   have e2:(cU g' gone 0).2=0:=by simp[cU,bG]
   refine⟨[],by rw[e];simp;omega,by rw[e2];rfl,by simp,by simp,by simp,λv hv=>by rw[r v hv];simp,λv hv=>by omega,λv hv=>by rw[r v hv,e2];omega,λu v hu _ h=>by rw[r u hu] at h;omega,Nat.le_refl _⟩
 |k+1,hk=>by
   obtain⟨l,h⟩:=hP.inv k (by omega)
   have hkd:im g (k:Int):=⟨by omega,by omega⟩
   have hkd':=hP.nd.2 hkd
   obtain⟨hb1,hb2⟩:=nA hP.hm' hkd'
   have hq:=Cn.eqv g'
   rw[mn]
   unfold j7
   by_cases c:0<=gI (cU g' gone k).1 (k:Int)\/gI gone (k:Int)=true
   · rw[if_pos c]
     refine⟨l,h.len,h.num,h.nd,h.dom,h.one,h.iff,λv hv hg hn=>?_,h.top,h.lab,by have:=h.le;omega⟩
     by_cases e:v=k
     · subst e;exact(h.iff _ hkd).1 (c.resolve_right hn)
     · exact h.all v (by omega) hg hn
   · rw[if_neg c]
     have c1:¬0<=gI (cU g' gone k).1 (k:Int):=λj=>c (.inl j)
     have c2:¬gI gone (k:Int)=true:=λj=>c (.inr j)
     have hno:∀y∈l,¬Cn g' (k:Int) y:=λy hy hc=>c1 ((h.iff _ hkd).2 ⟨y,hy,hc⟩)
     have hlen:=h.len
     have hnn:0<=(cU g' gone k).2:=by rw[h.num];omega
     have hset:∀v,im g v->gI ((cF g' (k:Int)).order.foldl (λl w=>l.set w.toNat (cU g' gone k).2) (cU g' gone k).1) v=if v∈(cF g' (k:Int)).order then(cU g' gone k).2 else gI (cU g' gone k).1 v:=λv hv=>pD _ _ v hv.1 (by have:=hv.2;omega) (λx hx=>by have:=hb1 x hx;exact⟨this.1,by have:=this.2;rw[hP.n] at this;omega⟩)
     have hmem:∀v,v∈(cF g' (k:Int)).order->im g v:=λv hv=>hP.nd.1 (hb1 v hv)
     have hnew:∀v,v∈(cF g' (k:Int)).order->gI (cU g' gone k).1 v<0:=λv hv=>by
       refine Int.not_le.1 λj=>?_
       obtain⟨y,hy,hc⟩:=(h.iff v (hmem v hv)).1 j
       exact hno y hy (hq.trans _ _ _ hkd' (hb1 v hv) (hP.nd.2 (h.dom y hy).1) ((hb2 v).1 hv) hc)
     refine⟨l++[(k:Int)],?_,?_,?_,?_,?_,?_,?_,?_,?_,by rw[List.length_append,List.length_singleton];have:=h.le;omega⟩
     · simp only;rw[gH];exact hlen
     · simp only[h.num];simp
     · rw[List.nodup_append]
       refine⟨h.nd,by simp,λa ha b hb e=>?_⟩
       obtain rfl:=List.mem_singleton.1 hb
       subst e
       exact hno _ ha (hq.rfl _ hkd')
     · intro x hx
       rcases List.mem_append.1 hx with hx|hx
       · exact h.dom x hx
       · obtain rfl:=List.mem_singleton.1 hx;exact⟨hkd,c2⟩
     · intro x hx y hy hc
       rcases List.mem_append.1 hx with hx|hx
       · rcases List.mem_append.1 hy with hy|hy
         · exact h.one x hx y hy hc
         · obtain rfl:=List.mem_singleton.1 hy
           exact absurd (hq.symm _ _ (hP.nd.2 (h.dom x hx).1) hkd' hc) (hno x hx)
       · obtain rfl:=List.mem_singleton.1 hx
         rcases List.mem_append.1 hy with hy|hy
         · exact absurd hc (hno y hy)
         · obtain rfl:=List.mem_singleton.1 hy;rfl
     · intro v hv
       simp only
       rw[hset v hv]
       by_cases hvo:v∈(cF g' (k:Int)).order
       · rw[if_pos hvo]
         exact⟨λ_=>⟨(k:Int),by simp,hq.symm _ _ hkd' (hP.nd.2 hv) ((hb2 v).1 hvo)⟩,λ_=>hnn⟩
       · rw[if_neg hvo,h.iff v hv]
         constructor
         · rintro⟨y,hy,hc⟩;exact⟨y,by simp[hy],hc⟩
         · rintro⟨y,hy,hc⟩
           rcases List.mem_append.1 hy with hy|hy
           · exact⟨y,hy,hc⟩
           · obtain rfl:=List.mem_singleton.1 hy
             exact absurd ((hb2 v).2 (hq.symm _ _ (hP.nd.2 hv) hkd' hc)) hvo
     · intro v hv hg hn
       by_cases e:v=k
       · subst e;exact⟨(v:Int),by simp,hq.rfl _ hkd'⟩
       · obtain⟨y,hy,hc⟩:=h.all v (by omega) hg hn
         exact⟨y,by simp[hy],hc⟩
     · intro v hv
       simp only
       rw[hset v hv]
       have:=h.top v hv
       split<;>omega
     · intro u v hu hv h0
       simp only at h0 ⊢
       rw[hset u hu] at h0 ⊢
       rw[hset v hv]
       have tu:=h.top u hu
       have tv:=h.top v hv
       by_cases a:u∈(cF g' (k:Int)).order
       · rw[if_pos a]
         by_cases b:v∈(cF g' (k:Int)).order
         · rw[if_pos b]
           exact⟨λ_=>hq.trans _ _ _ (hP.nd.2 hu) hkd' (hP.nd.2 hv) (hq.symm _ _ hkd' (hP.nd.2 hu) ((hb2 u).1 a)) ((hb2 v).1 b),λ_=>rfl⟩
         · rw[if_neg b]
           exact⟨λj=>by omega,λj=>absurd ((hb2 v).2 (hq.trans _ _ _ hkd' (hP.nd.2 hu) (hP.nd.2 hv) ((hb2 u).1 a) j)) b⟩
       · rw[if_neg a] at h0 ⊢
         by_cases b:v∈(cF g' (k:Int)).order
         · rw[if_pos b]
           exact⟨λj=>by omega,λj=>absurd ((hb2 u).2 (hq.trans _ _ _ hkd' (hP.nd.2 hv) (hP.nd.2 hu) ((hb2 v).1 b) (hq.symm _ _ (hP.nd.2 hu) (hP.nd.2 hv) j))) a⟩
         · rw[if_neg b]
           exact h.lab u v hu hv h0
end
section
variable{g g':bh}{gone:List Bool}{ps:Int->Prop}{c0 c todo x:List Int}{n s:Int}
variable{v:Int}{k M:Nat}
end
def kp(g:bh)(gone cut:List Bool):List Int:=(bG g.2.length).filter λe=> !(gI gone (gI g.2 e).1||gI gone (gI g.2 e).2||gI cut e)
def e7(g:bh)(gone cut:List Bool):bh:=(g.1,(kp g gone cut).map (gI g.2))
def cZ(g:bh)(gone cut:List Bool):List Int×Int:=cU (e7 g gone cut) gone g.1.toNat
def xN(g:bh)(gone cut:List Bool)(h:Int):Prop:=¬gI gone (aK g h)=true/\¬gI gone (bC g h)=true/\¬gI cut (h/2)=true
section
variable{g:bh}{gone cut:List Bool}{h e:Int}
theorem gn:e∈kp g gone cut↔(0<=e/\e<(g.2.length:Int))/\¬gI gone (gI g.2 e).1=true/\¬gI gone (gI g.2 e).2=true/\¬gI cut e=true:=by
 unfold kp
 rw[List.mem_filter,ck]
 refine and_congr Iff.rfl ?_
 simp[and_assoc]
theorem kW(h0:0<=h):(aK g h=(gI g.2 (h/2)).1/\bC g h=(gI g.2 (h/2)).2)\/(aK g h=(gI g.2 (h/2)).2/\bC g h=(gI g.2 (h/2)).1):=by
 unfold aK bC pI
 have:h%2=0\/h%2=1:=by omega
 rcases this with q|q
 · rw[q];left;simp
 · rw[q];right;simp
theorem rN(hm:aV g):aV (e7 g gone cut):=by
 obtain⟨m1,m2,m3,m4⟩:=hm
 refine⟨m1,m2,?_,λe he=>?_⟩
 · unfold e7
   rw[List.length_map]
   have:(kp g gone cut).length<=(bG g.2.length).length:=List.length_filter_le ..
   have h2:(bG g.2.length).length=g.2.length:=by simp[bG]
   omega
 · obtain⟨i,hi,rfl⟩:=List.mem_map.1 he
   have:=(gn.1 hi).1
   exact m4 _ (bF this.1 this.2)
theorem l9(hm:aV g):ng g (e7 g gone cut) gone (xN g gone cut):=by
 refine⟨hm,rN hm,rfl,λh hp=>⟨hp.1,hp.2.1⟩,λh hh hp=>?_,λS hS u v hc hu=>?_⟩
 · obtain⟨p1,p2,p3⟩:=hp
   have hin:=bF (xs:=g.2) (i:=h/2) (by have:=hh.1;omega) (by have:=hh.2;omega)
   have hok:=hm.2.2.2 _ hin
   have hk:h/2∈kp g gone cut:=by
     refine gn.2 ⟨⟨by have:=hh.1;omega,by have:=hh.2;omega⟩,?_⟩
     rcases kW (g:=g) hh.1 with⟨a,b⟩|⟨a,b⟩
     · rw[<-a,<-b];exact⟨p1,p2,p3⟩
     · rw[<-a,<-b];exact⟨p2,p1,p3⟩
   have he:gI g.2 (h/2)∈(e7 g gone cut).2:=List.mem_map.2 ⟨_,hk,rfl⟩
   have hc:=Cn.edge he
   rcases kW (g:=g) hh.1 with⟨a,b⟩|⟨a,b⟩
   · rw[a,b];exact hc
   · rw[a,b];exact(Cn.eqv (e7 g gone cut)).symm _ _ hok.1 hok.2 hc
 · refine(hc (λu v=>S u↔S v) ⟨λ_ _=>Iff.rfl,λ_ _ _ _ h=>h.symm,λ_ _ _ _ _ _ h1 h2=>h1.trans h2⟩ (λe he=>?_)).1 hu
   obtain⟨i,hi,rfl⟩:=List.mem_map.1 he
   obtain⟨⟨i0,i1⟩,k1,k2,k3⟩:=gn.1 hi
   have e0:(2*i)/2=i:=by omega
   have e1:(2*i+1)/2=i:=by omega
   have f0:aK g (2*i)=(gI g.2 i).1/\bC g (2*i)=(gI g.2 i).2:=by
     unfold aK bC pI
     rw[e0,show(2*i)%2=0 by omega];simp
   have f1:aK g (2*i+1)=(gI g.2 i).2/\bC g (2*i+1)=(gI g.2 i).1:=by
     unfold aK bC pI
     rw[e1,show(2*i+1)%2=1 by omega];simp
   constructor
   · have:=hS (2*i) ⟨by omega,by omega⟩ ⟨by rw[f0.1];exact k1,by rw[f0.2];exact k2,by rw[e0];exact k3⟩
     rw[f0.1,f0.2] at this;exact this
   · have:=hS (2*i+1) ⟨by omega,by omega⟩ ⟨by rw[f1.1];exact k2,by rw[f1.2];exact k1,by rw[e1];exact k3⟩
     rw[f1.1,f1.2] at this;exact this
theorem dW(hm:aV g):∃l,vG g (e7 g gone cut) gone (cZ g gone cut) l g.1.toNat:=(l9 hm).inv g.1.toNat (by have:=hm.1;omega)
theorem oy(hm:aV g):((cZ g gone cut).1.length:Int)=g.1/\0<=(cZ g gone cut).2/\(cZ g gone cut).2<=g.1:=by
 have h0:=hm.1
 obtain⟨l,h⟩:=dW (gone:=gone) (cut:=cut) hm
 have:=h.num
 have:=h.le
 exact⟨h.len,by omega,by omega⟩
end
end TL
namespace TL
section
variable{g g':bh}{gone cut:List Bool}{ps:Int->Prop}{c0 c todo:List Int}{n s v:Int}{k M q:Nat}
end
end TL
/-
  TlCls2: the steps of the walk keep what it relies on.
  By an AI agent.
-/
set_option linter.all false
namespace TL
variable{g:bh}{s:Bs}{fr:Fm}{path:List Int}{A B:Fm}{S:List Int}{v e b:Int}{pl lo by_:List Int}{la:List Bool}{ed bl:List Int}
theorem gv{h k:Int}(h0:0<=h)(k0:0<=k)(e:h/2=k/2):h=k\/h=gx k:=by
 unfold gx
 split<;>omega
theorem kf{pre P:List Int}{x:Int}(he:ed=pre++P)(hn:ed.Nodup)(hP:∀x∈ed,(0<=x/\x<(g.2.length:Int))/\gI la x=true):jR g la pre x↔jR g la ed x\/x∈P:=by
 subst he
 unfold jR
 constructor
 · rintro⟨a,c,d⟩
   by_cases k:x∈P
   · exact .inr k
   · exact .inl ⟨a,c,λj=>(List.mem_append.1 j).elim d k⟩
 · rintro(⟨a,c,d⟩|k)
   · exact⟨a,c,λj=>d (List.mem_append_left _ j)⟩
   · obtain⟨a,c⟩:=hP x (List.mem_append_right _ k)
     exact⟨a,c,λj=>(List.nodup_append.1 hn).2.2 x j x k rfl⟩
theorem rM{pre P:List Int}{c:Int}(he:ed=pre++P)(hn:ed.Nodup)(hP:∀x∈ed,(0<=x/\x<(g.2.length:Int))/\gI la x=true)(hbl:(bl.length:Int)=(g.2.length:Int))(hc:0<=c)
    (hr:∀e,jR g la ed e->0<=gI bl e/\gI bl e<c)(hb:∀b,0<=b->b<c->uI g la ed bl b)(hnew:(∀x,jR g la pre x->gI (P.foldl (λb e=>b.set e.toNat c) bl) x=c->x∈P)->(∀x,jR g la pre x->gI (P.foldl (λb e=>b.set e.toNat c) bl) x<=c)->uI g la pre (P.foldl (λb e=>b.set e.toNat c) bl) c):
    (∀e,jR g la pre e->0<=gI (P.foldl (λb e=>b.set e.toNat c) bl) e/\gI (P.foldl (λb e=>b.set e.toNat c) bl) e<c+1)/\∀b,0<=b->b<c+1->uI g la pre (P.foldl (λb e=>b.set e.toNat c) bl) b:=by
  have hg:∀x,0<=x->x<(g.2.length:Int)->gI (P.foldl (λb e=>b.set e.toNat c) bl) x=if x∈P then c else gI bl x:=λx a d=>q7 c P bl x a (by omega) (λy hy=>by have:=(hP y (by rw[he];exact List.mem_append_right _ hy)).1;omega)
  have hnP:∀x,jR g la ed x->x∉P:=λx hx k=>hx.2.2 (by rw[he];exact List.mem_append_right _ k)
  have h1:∀e,jR g la pre e->0<=gI (P.foldl (λb e=>b.set e.toNat c) bl) e/\gI (P.foldl (λb e=>b.set e.toNat c) bl) e<c+1:=λe hx=>by
    rw[hg e hx.1.1 hx.1.2]
    rcases(kf he hn hP).1 hx with k|k
    · rw[if_neg (hnP e k)];have:=hr e k;omega
    · rw[if_pos k];omega
  refine⟨h1,λb b0 b1=>?_⟩
  by_cases k:b=c
  · rw[k]
    refine hnew (λx hx hxc=>?_) (λx hx=>by have:=h1 x hx;omega)
    rcases(kf he hn hP).1 hx with j|j
    · rw[hg x hx.1.1 hx.1.2,if_neg (hnP x j)] at hxc
      have:=hr x j;omega
    · exact j
  · refine(hb b b0 (by omega)).congr (λx hx hxb=>?_) (λx hx=>⟨(kf he hn hP).2 (.inl hx),by rw[hg x hx.1.1 hx.1.2,if_neg (hnP x hx)]⟩)
    rw[hg x hx.1.1 hx.1.2] at hxb
    by_cases j:x∈P
    · rw[if_pos j] at hxb;exact absurd hxb.symm k
    · rw[if_neg j] at hxb
      exact⟨((kf he hn hP).1 hx).resolve_right j,hxb⟩
theorem pb(e0:0<=e)(e1:e<(la.length:Int))(hl:¬gI la e=true)(h:uI g la ed bl b):uI g (la.set e.toNat true) (ed++[e]) bl b:=
  h.congr (λx hx hb=>⟨(ji e0 e1 hl).1 hx,hb⟩) (λx hx=>⟨(ji e0 e1 hl).2 hx,rfl⟩)
theorem rr.lay(h:rr g pl lo by_ la path A v S B)(e0:0<=e)(e1:e<(la.length:Int))(hm2:∀x:Int,hf g x->0<=x/2)(hw:∀h,hf g h->h/2=e->gI pl v<=gI pl (aK g h)->gI pl (bC g h)<gI pl v->h/2≠gI by_ v/2->∃w∈v::B.map Prod.fst,gI lo w<=gI pl (bC g h)):rr g pl lo by_ (la.set e.toNat true) path A v S B:=
  {h with
    l1:=λk hk hl a c d=>by
      by_cases q:k/2=e
      · exact hw k hk q a c d
      · rw[dz e0 e1 (hm2 k hk),if_neg q] at hl
        exact h.l1 k hk hl a c d
    l3:=λk=>by
      obtain⟨x,a,c,d⟩:=h.l3 k
      refine⟨x,a,?_,d⟩
      rw[dz e0 e1 (hm2 x a)]
      split
      · rfl
      · exact c}
theorem kE{x:Int}(h:hf g x):0<=x/2:=by have:=h.1;omega
theorem je{x:Int}(h:hf g x):x/2<(g.2.length:Int):=by have:=h.2;omega
theorem um(hf0:∀A v S B,fr=A++(v,S)::B->(A=[]/\S=[]/\gI by_ v= -1)\/(∃A' u U S',A=A'++[(u,U)]/\S=gI by_ v/2::S'/\aK g (gI by_ v)=u/\0<=gI by_ v))(hto:∀p∈fr,0<=gI by_ p.1->hf g (gI by_ p.1)/\bC g (gI by_ p.1)=p.1):
    ∀(n:Nat) (A B:Fm),A.length=n->fr=A++B->∀x∈A.map Prod.fst,∀y∈A.map Prod.fst,Wy g (λz=>z∈A.map Prod.fst) x y:=by
  intro n
  induction n with
  |zero=>
    intro A B hl _ x hx
    rw[List.length_eq_zero_iff.1 hl] at hx;exact absurd hx List.not_mem_nil
  |succ n ih=>
    intro A B hl he x hx y hy
    obtain⟨A',p,rfl⟩:∃A' p,A=A'++[p]:=⟨A.dropLast,A.getLast (by intro k;rw[k] at hl;simp at hl),(List.dropLast_concat_getLast _).symm⟩
    have hl':A'.length=n:=by simpa using hl
    have he':fr=A'++p::B:=by rw[he];simp
    have ih':=ih A' (p::B) hl' he'
    have key:∀x∈(A'++[p]).map Prod.fst,Wy g (λz=>z∈(A'++[p]).map Prod.fst) x p.1:=by
      intro x hx
      have hp:p.1∈(A'++[p]).map Prod.fst:=by simp
      rw[List.map_append,List.mem_append] at hx
      rcases hx with hx|hx
      · rcases hf0 A' p.1 p.2 B he' with⟨q,_⟩|⟨A2,u,U,S',q1,_,q3,q4⟩
        · rw[q] at hx;exact absurd hx List.not_mem_nil
        · have hu:u∈A'.map Prod.fst:=by rw[q1];simp
          have hh:=hto p (by rw[he'];simp) q4
          have w1:=(ih' x hx u hu).mono (B:=λz=>z∈(A'++[p]).map Prod.fst) (λz hz=>by rw[List.map_append];exact List.mem_append_left _ hz)
          have w2:Wy g (λz=>z∈(A'++[p]).map Prod.fst) u p.1:=by
            have:=Wy.one (g:=g) (A:=λz=>z∈(A'++[p]).map Prod.fst) hh.1 (by rw[q3,List.map_append];exact List.mem_append_left _ hu) (by rw[hh.2];exact hp)
            rwa[q3,hh.2] at this
          exact w1.trans w2
      · have:x=p.1:=by simpa using hx
        rw[this];exact .refl hp
    exact(key x hx).trans (key y hy).symm
end TL
/-
  TlCls3: each step of the walk keeps what it relies on: a loop, an edge back.
  By an AI agent.
-/
set_option linter.all false
namespace TL
variable{g:bh}{s:Bs}{fr:Fm}{path:List Int}{A B A0:Fm}{S U:List Int}{u v w e b h:Int}{pl lo by_:List Int}{la:List Bool}{ed bl:List Int}
theorem fN.mem(hd:fN g s fr){p:Int×List Int}(hp:p∈fr):(0<=p.1/\p.1<g.1)/\gI s.place p.1≠0:=hd.se.pr _ (List.mem_map.2 ⟨p,hp,rfl⟩)
theorem fN.to(hd:fN g s fr):∀p∈fr,0<=gI s.by_ p.1->hf g (gI s.by_ p.1)/\bC g (gI s.by_ p.1)=p.1:=λp hp h0=>by
 have h1:=(hd.mem hp).1
 rcases hd.se.by_ p.1 h1.1 h1.2 with k|⟨k,j,_⟩
 · omega
 · exact⟨k,j⟩
theorem fN.wy(hd:fN g s fr){A B:Fm}(he:fr=A++B):∀x∈A.map Prod.fst,∀y∈A.map Prod.fst,Wy g (λz=>z∈A.map Prod.fst) x y:=
 um (λA v S B k=>(hd.fra A v S B k).own) hd.to A.length A B rfl he
theorem fN.el(hd:fN g s fr):∀p∈fr,∀e∈p.2,(0<=e/\e<(g.2.length:Int))/\gI s.laid e=true:=λp hp e he=>hd.se.el e (by
 rw[hd.stk];exact List.mem_flatten.2 ⟨p.2,List.mem_map.2 ⟨p,hp,rfl⟩,he⟩)
theorem fN.lot(hd:fN g s fr){k:Int}(hk:hf g k)(hl:gI s.laid (k/2)=true):gI s.place (bC g k)≠0:=by
  obtain⟨t1,t2,t3,t4⟩:=dN (g:=g) hk
  have:=hd.lof _ t1 (by rw[t2];exact hl)
  rwa[t3] at this
theorem kG{x y:Int}(h:gI pl x<gI pl y):x≠y:=λe=>by rw[e] at h;omega
theorem fH{X A:List (Int×List Int)}{a x:Int×List Int}{B:List (Int×List Int)}(h:X++[a]=A++x::B):(A=X/\x=a/\B=[])\/∃B0,X=A++x::B0/\B=B0++[a]:=by
 rcases List.eq_nil_or_concat B with k|⟨B0,y,k⟩
 · subst k
   have:=List.append_inj' h rfl
   exact .inl ⟨this.1.symm,by simpa using this.2.symm,rfl⟩
 · rw[List.concat_eq_append] at k
   subst k
   have h2:X++[a]=(A++x::B0)++[y]:=by rw[h];simp
   have:=List.append_inj' h2 rfl
   exact .inr ⟨B0,this.1,by rw[show a=y by simpa using this.2]⟩
theorem fN.nexts(hd:fN g s fr)(u0:0<=u)(u1:u<g.1)(hn:¬gI s.next u=((gI (bg g) u).length:Int)):fN g {s with next:=s.next.set u.toNat (gI s.next u+1)} fr:=
 ⟨hd.se.nexts u0 u1 hn,hd.stk,hd.inj,hd.lof,hd.fra,hd.clr,hd.clb⟩
theorem fN.loop(hm:aV g)(hd:fN g s fr)(hh:hf g h)(hl:¬gI s.laid (h/2)=true)(hv:gI s.place (aK g h)≠0)(hw:bC g h=aK g h)(hse:dY g (dq (gC s (h/2)) (h/2)) (fr.map Prod.fst)):fN g (dq (gC s (h/2)) (h/2)) fr:=by
  have e0:=kE hh
  have e1:=je hh
  have hl5:=hd.se.l5
  obtain⟨hlay,hne⟩:=hd.se.lay e0 e1 hl
  have hen:(s.edges++[h/2]).Nodup:=hlay.en
  have hel:∀x∈s.edges++[h/2],(0<=x/\x<(g.2.length:Int))/\gI (s.laid.set (h/2).toNat true) x=true:=hlay.el
  rw[oe (s:=gC s (h/2)) (pre:=s.edges) (rest:=[]) (e:=h/2) rfl hen] at hse ⊢
  have hends:∀k,hf g k->k/2=h/2->aK g k=aK g h/\bC g k=aK g h:=λk hk he=>by
    rcases gv hk.1 hh.1 he with q|q
    · rw[q];exact⟨rfl,hw⟩
    · obtain⟨_,_,t3,t4⟩:=dN (g:=g) hh
      rw[q,t3,t4];exact⟨hw,rfl⟩
  have hcl:=rM (g:=g) (la:=s.laid.set (h/2).toNat true) (ed:=s.edges++[h/2]) (bl:=s.block) (pre:=s.edges) (P:=[h/2]) (c:=s.count) rfl hen hel hd.se.l6 hd.se.ct
    (λx hx=>hd.clr x ((ji e0 (by omega) hl).1 hx)) (λb b0 b1=>pb e0 (by omega) hl (hd.clb b b0 b1)) (λhin _=>.inl ⟨h/2,by
      have hf1:(gI g.2 (h/2)).1=(gI g.2 (h/2)).2:=by
        have h1:=hw
        unfold bC aK at h1
        have h2:h%2=0\/h%2=1:=by omega
        rcases h2 with q|q
        · rw[q] at h1;exact h1.symm
        · rw[q] at h1;exact h1
      exact hf1,λx hx hb=>List.mem_singleton.1 (hin x hx hb)⟩)
  refine⟨hse,hd.stk,hd.inj,λk hk hlk=>?_,λA v S B he=>(hd.fra A v S B he).lay e0 (by omega) (λ_=>kE) (λk hk hke a c _=>?_),hcl.1,hcl.2⟩
  · have hlk:gI (s.laid.set (h/2).toNat true) (k/2)=true:=hlk
    show gI s.place (aK g k)≠0
    by_cases q:k/2=h/2
    · rw[(hends k hk q).1];exact hv
    · rw[dz e0 (by omega) (kE hk),if_neg q] at hlk
      exact hd.lof k hk hlk
  · obtain⟨p,q⟩:=hends k hk hke
    rw[p] at a;rw[q] at c
    exfalso
    have a:gI s.place v<=gI s.place (aK g h):=a
    have c:gI s.place (aK g h)<gI s.place v:=c
    omega
theorem fN.back(hm:aV g)(hd:fN g s (A0++[(v,S)]))(hall:∀k,hf g k->gI s.place (aK g k)≠0->aK g k∉(A0++[(v,S)]).map Prod.fst->gI s.laid (k/2)=true)(hh:hf g h)(hv:aK g h=v)(hl:¬gI s.laid (h/2)=true)(hne:bC g h≠v)(hw:gI s.place (bC g h)≠0)
    (hse:dY g {gC s (h/2) with low:=s.low.set v.toNat (min (gI s.low v) (gI s.place (bC g h)))} ((A0++[(v,S++[h/2])]).map Prod.fst)):
    fN g {gC s (h/2) with low:=s.low.set v.toNat (min (gI s.low v) (gI s.place (bC g h)))} (A0++[(v,S++[h/2])]):=by
  have e0:=kE hh
  have e1:=je hh
  have hl5:=hd.se.l5
  have hl2:=hd.se.l2
  have hvm:=hd.mem (p:=(v,S)) (by simp)
  have hlast:=hd.fra A0 v S [] rfl
  obtain⟨t1,t2,t3,t4⟩:=dN (g:=g) hh
  -- the other end is on the path, ahead
  have hwp:bC g h∈A0.map Prod.fst:=by
    by_cases c:bC g h∈(A0++[(v,S)]).map Prod.fst
    · rw[List.map_append,List.mem_append] at c
      exact c.resolve_right (λk=>hne (by simpa using k))
    · exfalso
      have:=hall _ t1 (by rw[t3];exact hw) (by rw[t3];exact c)
      rw[t2] at this;exact hl this
  have hpw:gI s.place (bC g h)<gI s.place v:=by
    obtain⟨p,hp,e⟩:=List.mem_map.1 hwp
    rw[<-e];exact hlast.asc p hp
  have hlo:∀x,0<=x->gI (s.low.set v.toNat (min (gI s.low v) (gI s.place (bC g h)))) x=if x=v then min (gI s.low v) (gI s.place (bC g h)) else gI s.low x:=λx a=>c5 hvm.1.1 (by omega) a
  have hlv:gI (s.low.set v.toNat (min (gI s.low v) (gI s.place (bC g h)))) v=min (gI s.low v) (gI s.place (bC g h)):=by rw[hlo v hvm.1.1,if_pos rfl]
  have hle:∀x,0<=x->gI (s.low.set v.toNat (min (gI s.low v) (gI s.place (bC g h)))) x<=gI s.low x:=λx a=>by
    rw[hlo x a];split
    · rename_i k;rw[k];omega
    · omega
  have hends:∀k,hf g k->k/2=h/2->(aK g k=v/\bC g k=bC g h)\/(aK g k=bC g h/\bC g k=v):=λk hk he=>by
    rcases gv hk.1 hh.1 he with q|q
    · rw[q];exact .inl ⟨hv,rfl⟩
    · rw[q,t3,t4];exact .inr ⟨rfl,hv⟩
  have hmap:(A0++[(v,S++[h/2])]).map Prod.fst=(A0++[(v,S)]).map Prod.fst:=by simp
  -- the edge belongs to the edge by which v was found
  have hrel:∃A' q Q S',A0=A'++[(q,Q)]/\S=gI s.by_ v/2::S'/\aK g (gI s.by_ v)=q/\0<=gI s.by_ v:=by
    rcases hlast.own with⟨k,_⟩|k
    · rw[k] at hwp;exact absurd hwp List.not_mem_nil
    · exact k
  obtain⟨A',q,Q,S',ha1,ha2,ha3,ha4⟩:=hrel
  have hbv:=hd.to (v,S) (by simp) ha4
  have hvA:v∉A0.map Prod.fst:=λk=>by
    obtain⟨p,hp,e⟩:=List.mem_map.1 k
    have:=hlast.asc p hp
    rw[e] at this;omega
  have hqA:q∈A0.map Prod.fst:=by rw[ha1];simp
  have heq:EqB g (h/2) (gI s.by_ v/2):=by
    obtain⟨b1,b2,b3,b4⟩:=dN (g:=g) hbv.1
    refine .rel ⟨h,gx (gI s.by_ v),hh,b1,rfl,b2,?_,?_,?_,?_⟩
    · rw[b3,hbv.2,hv]
    · rw[hv];exact hne
    · rw[b4,b3,hbv.2,ha3];exact λk=>hvA (by have k:q=v:=k;rw[<-k];exact hqA)
    · rw[b4,ha3,hv]
      exact(hd.wy (A:=A0) (B:=[(v,S)]) rfl _ hwp _ hqA).mono (λz hz k=>hvA (by rw[<-k];exact hz))
  have hclo:∀x,jR g (s.laid.set (h/2).toNat true) (s.edges++[h/2]) x↔jR g s.laid s.edges x:=λx=>ji e0 (by omega) hl
  refine⟨hse,?_,hd.inj,λk hk hlk=>?_,λA x Sx B he=>?_,λx hx=>hd.clr x ((hclo x).1 hx),λb b0 b1=>pb e0 (by omega) hl (hd.clb b b0 b1)⟩
  · show s.edges++[h/2]=_
    rw[hd.stk];simp
  · have hlk:gI (s.laid.set (h/2).toNat true) (k/2)=true:=hlk
    show gI s.place (aK g k)≠0
    by_cases c:k/2=h/2
    · rcases hends k hk c with⟨r,_⟩|⟨r,_⟩
      · rw[r];exact hvm.2
      · rw[r];exact hw
    · rw[dz e0 (by omega) (kE hk),if_neg c] at hlk
      exact hd.lof k hk hlk
  · rw[hmap]
    rcases fH he with⟨k1,k2,k3⟩|⟨B0,k1,k2⟩
    · -- the last one
      obtain⟨rfl,rfl⟩:x=v/\Sx=S++[h/2]:=by simpa using k2
      subst k1 k3
      refine {hlast with own:=.inr ⟨A',q,Q,S'++[h/2],ha1,by rw[ha2];rfl,ha3,ha4⟩,eqb:=λy hy=>?_,end_:=λy hy=>?_,l1:=λk hk hlk a c d=>?_,l2:=?_,l3:=λhlt=>?_}
      · rcases List.mem_append.1 hy with j|j
        · exact hlast.eqb y j
        · rw[List.mem_singleton.1 j];exact heq
      · rcases List.mem_append.1 hy with j|j
        · exact hlast.end_ y j
        · exact⟨h,hh,(List.mem_singleton.1 j).symm,by rw[hv];exact Int.le_refl _⟩
      · have hlk:gI (s.laid.set (h/2).toNat true) (k/2)=true:=hlk
        have a:gI s.place x<=gI s.place (aK g k):=a
        have c:gI s.place (bC g k)<gI s.place x:=c
        refine⟨x,by simp,?_⟩
        show gI (s.low.set x.toNat _) x<=gI s.place (bC g k)
        rw[hlv]
        by_cases j:k/2=h/2
        · rcases hends k hk j with⟨r,r2⟩|⟨r,r2⟩
          · rw[r2];omega
          · rw[r2] at c;omega
        · rw[dz e0 (by omega) (kE hk),if_neg j] at hlk
          obtain⟨y,hy,hy2⟩:=hlast.l1 k hk hlk a c d
          have:y=x:=by simpa using hy
          rw[this] at hy2;omega
      · show gI (s.low.set x.toNat _) x<=gI s.place x
        rw[hlv];have:=hlast.l2;omega
      · have hlt:gI (s.low.set x.toNat (min (gI s.low x) (gI s.place (bC g h)))) x<gI s.place x:=hlt
        show∃k,hf g k/\gI (s.laid.set (h/2).toNat true) (k/2)=true/\gI s.place x<=gI s.place (aK g k)/\gI s.place (bC g k)=gI (s.low.set x.toNat _) x
        rw[hlv] at hlt ⊢
        by_cases j:gI s.place (bC g h)<=gI s.low x
        · refine⟨h,hh,?_,by rw[hv];exact Int.le_refl _,by omega⟩
          rw[dz e0 (by omega) e0,if_pos rfl]
        · obtain⟨k,c1,c2,c3,c4⟩:=hlast.l3 (by omega)
          refine⟨k,c1,?_,c3,by omega⟩
          rw[dz e0 (by omega) (kE c1)];split
          · rfl
          · exact c2
    · -- one ahead of it
      have hold:=hd.fra A x Sx (B0++[(v,S)]) (by rw[k1];simp)
      have hx:=hd.mem (p:=(x,Sx)) (by rw[k1];simp)
      have hxv:gI s.place x<gI s.place v:=hlast.asc (x,Sx) (by rw[k1];simp)
      have hxne:x≠v:=kG hxv
      have hlx:gI (s.low.set v.toNat (min (gI s.low v) (gI s.place (bC g h)))) x=gI s.low x:=by rw[hlo x hx.1.1,if_neg hxne]
      subst k2
      refine {hold with l1:=λk hk hlk a c d=>?_,l2:=?_,l3:=λhlt=>?_}
      · have hlk:gI (s.laid.set (h/2).toNat true) (k/2)=true:=hlk
        have a:gI s.place x<=gI s.place (aK g k):=a
        have c:gI s.place (bC g k)<gI s.place x:=c
        show∃y∈x::(B0++[(v,S++[h/2])]).map Prod.fst,gI (s.low.set v.toNat _) y<=gI s.place (bC g k)
        by_cases j:k/2=h/2
        · rcases hends k hk j with⟨r,r2⟩|⟨r,r2⟩
          · exact⟨v,by simp,by rw[hlv,r2];omega⟩
          · rw[r2] at c;omega
        · rw[dz e0 (by omega) (kE hk),if_neg j] at hlk
          obtain⟨y,hy,hy2⟩:=hold.l1 k hk hlk a c d
          refine⟨y,by simpa using hy,?_⟩
          have hy0:0<=y:=by
            have:y∈(A0++[(v,S)]).map Prod.fst:=by
              rw[k1]
              simp only[List.map_append,List.map_cons,List.mem_append,List.mem_cons] at hy ⊢
              rcases hy with q|q|q|q
              · exact .inl (.inr (.inl q))
              · exact .inl (.inr (.inr q))
              · exact .inr (.inl q)
              · exact absurd q List.not_mem_nil
            exact(hd.se.pr y this).1.1
          have:=hle y hy0
          omega
      · show gI (s.low.set v.toNat _) x<=gI s.place x
        rw[hlx];exact hold.l2
      · have hlt:gI (s.low.set v.toNat (min (gI s.low v) (gI s.place (bC g h)))) x<gI s.place x:=hlt
        show∃k,hf g k/\gI (s.laid.set (h/2).toNat true) (k/2)=true/\gI s.place x<=gI s.place (aK g k)/\gI s.place (bC g k)=gI (s.low.set v.toNat _) x
        rw[hlx] at hlt ⊢
        obtain⟨k,c1,c2,c3,c4⟩:=hold.l3 hlt
        refine⟨k,c1,?_,c3,c4⟩
        rw[dz e0 (by omega) (kE c1)];split
        · rfl
        · exact c2
end TL
/-
  TlCls4: each step of the walk keeps what it relies on: a node found, a node left.
  By an AI agent.
-/
set_option linter.all false
namespace TL
variable{g:bh}{s:Bs}{fr:Fm}{path:List Int}{A B A0:Fm}{S U:List Int}{u v w e b h:Int}
theorem fN.new(hm:aV g)(hd:fN g s (A0++[(v,S)]))(hall:∀k,hf g k->gI s.place (aK g k)≠0->aK g k∉(A0++[(v,S)]).map Prod.fst->gI s.laid (k/2)=true)(hh:hf g h)(hv:aK g h=v)(hl:¬gI s.laid (h/2)=true)(hw:gI s.place (bC g h)=0)
    (hse:dY g (fF {gC s (h/2) with by_:=s.by_.set (bC g h).toNat h} (bC g h)) ((A0++[(v,S)]++[(bC g h,[h/2])]).map Prod.fst)):
    fN g (fF {gC s (h/2) with by_:=s.by_.set (bC g h).toNat h} (bC g h)) (A0++[(v,S)]++[(bC g h,[h/2])]):=by
  have e0:=kE hh
  have e1:=je hh
  have hl5:=hd.se.l5
  have hl1:=hd.se.l1
  have hl2:=hd.se.l2
  have hl3:=hd.se.l3
  have hf0:=hd.se.f0
  obtain⟨w0,w1⟩:=eK hm hh
  have hvm:=hd.mem (p:=(v,S)) (by simp)
  have hlast:=hd.fra A0 v S [] rfl
  obtain⟨t1,t2,t3,t4⟩:=dN (g:=g) hh
  generalize hwe:bC g h=w at*
  have hpl:∀x,0<=x->gI (s.place.set w.toNat (s.found+1)) x=if x=w then s.found+1 else gI s.place x:=λx a=>c5 w0 (by omega) a
  have hlo:∀x,0<=x->gI (s.low.set w.toNat (s.found+1)) x=if x=w then s.found+1 else gI s.low x:=λx a=>c5 w0 (by omega) a
  have hby:∀x,0<=x->gI (s.by_.set w.toNat h) x=if x=w then h else gI s.by_ x:=λx a=>c5 w0 (by omega) a
  have hla:∀x,0<=x->gI (s.laid.set (h/2).toNat true) x=if x=h/2 then true else gI s.laid x:=λx a=>dz e0 (by omega) a
  have hfd:∀x,0<=x->gI s.place x≠0->gI (s.place.set w.toNat (s.found+1)) x=gI s.place x:=λx a c=>by
    rw[hpl x a,if_neg (λk=>c (by rw[k];exact hw))]
  have hub:∀x,0<=x->x<g.1->gI s.place x<=s.found:=λx a c=>(hd.se.pl x a c).2
  have hge:∀x,0<=x->x<g.1->gI s.place x<=gI (s.place.set w.toNat (s.found+1)) x:=λx a c=>by
    rw[hpl x a];have:=hub x a c;split<;>omega
  have hends:∀k,hf g k->k/2=h/2->(aK g k=v/\bC g k=w)\/(aK g k=w/\bC g k=v):=λk hk he=>by
    rcases gv hk.1 hh.1 he with q|q
    · rw[q];exact .inl ⟨hv,hwe⟩
    · rw[q,t3,t4];exact .inr ⟨rfl,hv⟩
  have hlaf:∀k,hf g k->gI (s.laid.set (h/2).toNat true) (k/2)=true->k/2≠h/2->gI s.laid (k/2)=true:=λk hk hlk j=>by
    rw[hla _ (kE hk),if_neg j] at hlk;exact hlk
  have hlam:∀k,hf g k->gI s.laid (k/2)=true->gI (s.laid.set (h/2).toNat true) (k/2)=true:=λk hk hlk=>by
    rw[hla _ (kE hk)];split
    · rfl
    · exact hlk
  have hvf:=hfd v hvm.1.1 hvm.2
  -- a done node's other ends are found
  have hdone:∀k,hf g k->gI s.place (aK g k)≠0->aK g k∉(A0++[(v,S)]).map Prod.fst->gI s.place (bC g k)≠0:=λk hk a c=>hd.lot hk (hall k hk a c)
  have hwpath:w∉(A0++[(v,S)]).map Prod.fst:=λk=>(hd.se.pr w k).2 hw
  -- the stack's edges are laid
  have hstk:∀p∈A0++[(v,S)],∀e∈p.2,∀k,hf g k->k/2=e->gI s.place (aK g k)≠0:=λp hp e he k hk hke=>hd.lof k hk (by rw[hke];exact(hd.el p hp e he).2)
  refine⟨hse,?_,λx y x0 x1 y0 y1 hx hxy=>?_,λk hk hlk=>?_,λA x Sx B he=>?_,λx hx=>hd.clr x ((ji e0 (by omega) hl).1 hx),λb b0 b1=>pb e0 (by omega) hl (hd.clb b b0 b1)⟩
  · show s.edges++[h/2]=_
    rw[hd.stk];simp
  · have hx:gI (s.place.set w.toNat (s.found+1)) x≠0:=hx
    have hxy:gI (s.place.set w.toNat (s.found+1)) x=gI (s.place.set w.toNat (s.found+1)) y:=hxy
    rw[hpl x x0,hpl y y0] at hxy
    rw[hpl x x0] at hx
    have h1:=hub x x0 x1
    have h2:=hub y y0 y1
    by_cases c1:x=w
    · by_cases c2:y=w
      · rw[c1,c2]
      · rw[if_pos c1,if_neg c2] at hxy;omega
    · by_cases c2:y=w
      · rw[if_neg c1,if_pos c2] at hxy;omega
      · rw[if_neg c1,if_neg c2] at hxy
        rw[if_neg c1] at hx
        exact hd.inj x y x0 x1 y0 y1 hx hxy
  · have hlk:gI (s.laid.set (h/2).toNat true) (k/2)=true:=hlk
    show gI (s.place.set w.toNat (s.found+1)) (aK g k)≠0
    obtain⟨f0,f1⟩:=cT hm hk
    by_cases c:k/2=h/2
    · rcases hends k hk c with⟨r,_⟩|⟨r,_⟩
      · rw[r,hvf];exact hvm.2
      · rw[r,hpl w w0,if_pos rfl];omega
    · have:=hd.lof k hk (hlaf k hk hlk c)
      rw[hfd _ f0 this];exact this
  · show rr g (s.place.set w.toNat (s.found+1)) (s.low.set w.toNat (s.found+1)) (s.by_.set w.toNat h) (s.laid.set (h/2).toNat true) _ A x Sx B
    rcases fH he with⟨k1,k2,k3⟩|⟨B0,k1,k2⟩
    · obtain⟨rfl,rfl⟩:x=w/\Sx=[h/2]:=by simpa using k2
      subst k1 k3
      have hxp:gI (s.place.set x.toNat (s.found+1)) x=s.found+1:=by rw[hpl x w0,if_pos rfl]
      have hxb:gI (s.by_.set x.toNat h) x=h:=by rw[hby x w0,if_pos rfl]
      refine⟨.inr ⟨A0,v,S,[],rfl,by rw[hxb],by rw[hxb];exact hv,by rw[hxb];exact hh.1⟩,λp hp=>?_,λy hy=>?_,λy hy=>?_,λp hp y hy k hk hke=>?_,λk hk a c d=>?_,λy y0 y1 hy=>?_,λk hk hlk a c d=>?_,?_,λhlt=>?_⟩
      · have:=hd.mem hp
        rw[hxp,hfd _ this.1.1 this.2];have:=hub _ this.1.1 this.1.2;omega
      · rw[List.mem_singleton.1 hy,hxb];exact .refl _
      · refine⟨gx h,t1,by rw[t2];exact(List.mem_singleton.1 hy).symm,?_⟩
        rw[t3];exact Int.le_refl _
      · have h1:=hstk p hp y hy k hk hke
        obtain⟨f0,f1⟩:=cT hm hk
        rw[hxp,hfd _ f0 h1];have:=hub _ f0 f1;omega
      · obtain⟨f0,f1⟩:=cT hm hk
        obtain⟨q0,q1⟩:=eK hm hk
        have hne:aK g k≠x:=λj=>c (by rw[j];simp)
        rw[hpl _ f0,if_neg hne] at a
        have h1:=hdone k hk a (λj=>c (by rw[List.map_append];exact List.mem_append_left _ j))
        rw[hxp,hfd _ q0 h1];have:=hub _ q0 q1;omega
      · rw[hxp,hpl y y0] at hy
        have:y=x:=by
          by_cases c:y=x
          · exact c
          · rw[if_neg c] at hy;have:=hub y y0 y1;omega
        subst this
        exact .refl ⟨⟨w0,w1⟩,Int.le_refl _⟩
      · obtain⟨f0,f1⟩:=cT hm hk
        rw[hxp,hpl _ f0] at a
        have hfx:aK g k=x:=by
          by_cases j:aK g k=x
          · exact j
          · rw[if_neg j] at a;have:=hub _ f0 f1;omega
        exfalso
        rw[hxb] at d
        exact hd.lof k hk (hlaf k hk hlk d) (by rw[hfx];exact hw)
      · rw[hxp,hlo x w0,if_pos rfl];exact Int.le_refl _
      · rw[hxp,hlo x w0,if_pos rfl] at hlt;omega
    · have hold:=hd.fra A x Sx B0 k1
      have hx:=hd.mem (p:=(x,Sx)) (by rw[k1];simp)
      have hxne:x≠w:=λk=>hx.2 (by rw[k];exact hw)
      have hxp:gI (s.place.set w.toNat (s.found+1)) x=gI s.place x:=hfd x hx.1.1 hx.2
      have hxl:gI (s.low.set w.toNat (s.found+1)) x=gI s.low x:=by rw[hlo x hx.1.1,if_neg hxne]
      have hxb:gI (s.by_.set w.toNat h) x=gI s.by_ x:=by rw[hby x hx.1.1,if_neg hxne]
      have hxv:gI s.place x<=gI s.place v:=by
        rcases fH k1 with⟨_,j,_⟩|⟨B1,j,_⟩
        · have:x=v:=by have:=congrArg Prod.fst j;exact this
          rw[this];exact Int.le_refl _
        · have:=hlast.asc (x,Sx) (by rw[j];simp)
          exact Int.le_of_lt this
      have hinA:∀p∈A,p∈A0++[(v,S)]:=λp hp=>by rw[k1];exact List.mem_append_left _ hp
      subst k2
      refine⟨?_,λp hp=>?_,λy hy=>?_,λy hy=>?_,λp hp y hy k hk hke=>?_,λk hk a c d=>?_,λy y0 y1 hy=>?_,λk hk hlk a c d=>?_,?_,λhlt=>?_⟩
      · rw[hxb];exact hold.own
      · have:=hd.mem (hinA p hp)
        rw[hxp,hfd _ this.1.1 this.2];exact hold.asc p hp
      · rw[hxb];exact hold.eqb y hy
      · obtain⟨k,c1,c2,c3⟩:=hold.end_ y hy
        obtain⟨f0,f1⟩:=cT hm c1
        exact⟨k,c1,c2,by rw[hxp];exact Int.le_trans c3 (hge _ f0 f1)⟩
      · have h1:=hstk p (hinA p hp) y hy k hk hke
        rw[hxp,hfd _ (cT hm hk).1 h1];exact hold.low p hp y hy k hk hke
      · obtain⟨f0,f1⟩:=cT hm hk
        have hne:aK g k≠w:=λj=>c (by rw[j];simp)
        rw[hpl _ f0,if_neg hne] at a
        have hnp:aK g k∉(A0++[(v,S)]).map Prod.fst:=λj=>c (by rw[List.map_append];exact List.mem_append_left _ j)
        have h1:=hdone k hk a hnp
        rw[hxp,hfd _ f0 a] at d
        rw[hxp,hfd _ (eK hm hk).1 h1]
        exact hold.cross k hk a hnp d
      · rw[hxp]
        by_cases c:y=w
        · subst c
          have h1:=(hold.conn v hvm.1.1 hvm.1.2 hxv).mono (B:=λz=>(0<=z/\z<g.1)/\gI s.place x<=gI (s.place.set y.toNat (s.found+1)) z) (λz hz=>⟨hz.1,Int.le_trans hz.2 (hge z hz.1.1 hz.1.2)⟩)
          have h2:(0<=y/\y<g.1)/\gI s.place x<=gI (s.place.set y.toNat (s.found+1)) y:=⟨⟨w0,w1⟩,by rw[hpl y w0,if_pos rfl];have:=hub x hx.1.1 hx.1.2;omega⟩
          have h3:=Wy.one (g:=g) (A:=λz=>(0<=z/\z<g.1)/\gI s.place x<=gI (s.place.set y.toNat (s.found+1)) z) hh (by rw[hv];exact h1.right) (by rw[hwe];exact h2)
          rw[hv,hwe] at h3
          exact h1.trans h3
        · rw[hxp,hpl y y0,if_neg c] at hy
          exact(hold.conn y y0 y1 hy).mono (λz hz=>⟨hz.1,Int.le_trans hz.2 (hge z hz.1.1 hz.1.2)⟩)
      · obtain⟨f0,f1⟩:=cT hm hk
        obtain⟨q0,q1⟩:=eK hm hk
        by_cases j:k/2=h/2
        · exfalso
          rcases hends k hk j with⟨r,r2⟩|⟨r,r2⟩
          · rw[r2,hxp,hpl w w0,if_pos rfl] at c;have:=hub x hx.1.1 hx.1.2;omega
          · rw[r2,hxp,hvf] at c;omega
        · have hlk':=hlaf k hk hlk j
          have h1:=hd.lof k hk hlk'
          have h2:=hd.lot hk hlk'
          rw[hxp,hfd _ f0 h1] at a
          rw[hxp,hfd _ q0 h2] at c
          rw[hxb] at d
          obtain⟨y,hy,hy2⟩:=hold.l1 k hk hlk' a c d
          have hyp:y∈(A0++[(v,S)]).map Prod.fst:=by
            rw[k1];simp only[List.map_append,List.map_cons,List.mem_append];exact .inr hy
          have hym:=hd.se.pr y hyp
          refine⟨y,?_,?_⟩
          · simp only[List.map_append,List.mem_cons,List.mem_append] at hy ⊢
            rcases hy with r|r
            · exact .inl r
            · exact .inr (.inl r)
          · rw[hlo y hym.1.1,if_neg (λr=>hym.2 (by rw[r];exact hw)),hfd _ q0 h2];exact hy2
      · rw[hxl,hxp];exact hold.l2
      · rw[hxl,hxp] at hlt
        obtain⟨k,c1,c2,c3,c4⟩:=hold.l3 hlt
        have h2:=hd.lot c1 c2
        exact⟨k,c1,hlam k c1 c2,by rw[hxp,hfd _ (cT hm c1).1 (hd.lof k c1 c2)];exact c3,by rw[hxl,hfd _ (eK hm c1).1 h2];exact c4⟩
end TL
