/- Plain texts of this claim, part 2. By an AI agent. -/
import Derived.Test.YtgneelmmomohdaaSqTlP1
import Derived.Carry
import Derived.Deep.Slices
import Derived.Laws.Externs
import Derived.Laws.FloatArith
import Derived.Laws.FloatBits
import Derived.Laws.NewFold
import Derived.Lib.SmallJoins
/-
  TlWalk: going through a net breadth first, and its components, as the program does.
  By an AI agent.
-/
set_option linter.all false
namespace TL
def bM(g:bh)(h:Int):Int:=pI (gI g.2 (h/2)) (1-h%2)
theorem gX{g:bh}(hm:b7 g){h:Int}(h0:0<=h)(h1:h<2*(g.2.length:Int)):0<=bM g h/\bM g h<g.1:=by
 have hok:=hm.2.2.2 _ (bv (xs:=g.2) (i:=h/2) (by omega) (by omega))
 unfold nP at hok
 unfold bM pI
 split<;>omega
structure Bf where
 order:List Int
 by_:List Int
 far:List Int
def fj(g:bh)(v:Int)(s:Bf)(h:Int):Bf:=
 if gI s.far (bM g h)<0 then⟨s.order++[bM g h],s.by_.set (bM g h).toNat h,s.far.set (bM g h).toNat (gI s.far v+1)⟩ else s
def lP(g:bh)(v:Int)(s:Bf):Bf:=(dM g v).foldl (fj g v) s
def kU(g:bh):Nat->Nat->Bf->Bf
 |0,_,s=>s
 |n+1,i,s=>if i<s.order.length then kU g n (i+1) (lP g (gI s.order (i:Int)) s) else s
def eN(g:bh)(s0:Int):Bf:=⟨[s0],List.replicate g.1.toNat (-1),(List.replicate g.1.toNat (-1)).set s0.toNat 0⟩
def cT(g:bh)(s0:Int):Bf:=kU g g.1.toNat 0 (eN g s0)
structure iS(g:bh)(s:Bf):Prop where
 far:(s.far.length:Int)=g.1
 by_:(s.by_.length:Int)=g.1
 nodup:s.order.Nodup
 rng:∀x∈s.order,0<=x/\x<g.1
 iff:∀w,0<=w->w<g.1->(gI s.far w<0↔w∉s.order)
 le:∀w,0<=w->w<g.1->gI s.far w<=s.order.length
theorem iS.start{g:bh}{s0:Int}(h0:0<=s0)(h1:s0<g.1):iS g (eN g s0):=by
 refine⟨by simp[eN];omega,by simp[eN];omega,by simp[eN],by simp[eN];omega,λw hw0 hw1=>?_,λw hw0 hw1=>?_⟩
 · simp only[eN]
   rw[c5 h0 (by simp;omega) hw0]
   by_cases e:w=s0
   · subst e;simp
   · rw[if_neg e,fI hw0 (by omega)];simp[e]
 · simp only[eN]
   rw[c5 h0 (by simp;omega) hw0]
   by_cases e:w=s0
   · subst e;simp
   · rw[if_neg e,fI hw0 (by omega)];simp
theorem iS.len{g:bh}{s:Bf}(h:iS g s)(hg:0<=g.1):(s.order.length:Int)<=g.1:=tA hg h.nodup h.rng
theorem iS.one{g:bh}{s:Bf}{v h:Int}(hs:iS g s)(hv:v∈s.order)(h0:0<=bM g h)(h1:bM g h<g.1):iS g (fj g v s h):=by
 obtain⟨hv0,hv1⟩:=hs.rng v hv
 unfold fj
 by_cases c:gI s.far (bM g h)<0
 · rw[if_pos c]
   have hn:=(hs.iff _ h0 h1).1 c
   have hf:=hs.far
   have hlv:=hs.le v hv0 hv1
   refine⟨by simpa using hs.far,by simpa using hs.by_,?_,λx hx=>?_,λw hw0 hw1=>?_,λw hw0 hw1=>?_⟩
   · rw[List.nodup_append]
     refine⟨hs.nodup,by simp,λa ha b hb=>?_⟩
     obtain rfl:=List.mem_singleton.1 hb
     intro e;subst e;exact hn ha
   · rcases List.mem_append.1 hx with hx|hx
     · exact hs.rng x hx
     · obtain rfl:=List.mem_singleton.1 hx;exact⟨h0,h1⟩
   · simp only
     rw[c5 h0 (by omega) hw0]
     by_cases e:w=bM g h
     · subst e
       rw[if_pos rfl]
       have hx:¬gI s.far v<0:=λhh=>(hs.iff v hv0 hv1).1 hh hv
       constructor
       · intro hh;omega
       · intro hh;simp at hh
     · rw[if_neg e,hs.iff w hw0 hw1];simp[e]
   · simp only
     rw[c5 h0 (by omega) hw0]
     by_cases e:w=bM g h
     · subst e;rw[if_pos rfl];simp;omega
     · rw[if_neg e]
       have:=hs.le w hw0 hw1
       simp;omega
 · rw[if_neg c];exact hs
end TL
namespace TL
theorem eZ{g:bh}{v h:Int}(hh:h∈dM g v):(0<=h/\h<2*(g.2.length:Int))/\aI g h=v:=by
 unfold dM i9 at hh
 obtain⟨h1,h2⟩:=List.mem_filter.1 hh
 obtain⟨k,hk,rfl⟩:=List.mem_map.1 h1
 have:=List.mem_range.1 hk
 exact⟨by omega,by simpa using h2⟩
theorem mR(g:bh)(v:Int)(s:Bf)(h:Int):∃t,(fj g v s h).order=s.order++t:=by
 unfold fj
 split
 · exact⟨_,rfl⟩
 · exact⟨[],by simp⟩
structure dz(s:Bf)(g:bh)(s0:Bf)(v:Int)(j:Nat):Prop where
  eq:s=((dM g v).take j).foldl (fj g v) s0
  ok:iS g s
  mem:v∈s.order
  pre:∃t,s.order=s0.order++t
theorem dz.start{g:bh}{s0:Bf}{v:Int}(h:iS g s0)(hv:v∈s0.order):dz s0 g s0 v 0:=⟨rfl,h,hv,[],by simp⟩
theorem dz.next{s s0:Bf}{g:bh}{v:Int}{j:Nat}(h:dz s g s0 v j)(hm:b7 g)(hj:(j:Int)<(dM g v).length):dz (fj g v s (gI (dM g v) (j:Int))) g s0 v (j+1):=by
 have hin:=(eZ (bv (xs:=dM g v) (i:=(j:Int)) (by omega) hj)).1
 have ht:=gX hm hin.1 hin.2
 obtain⟨t,ht2⟩:=h.pre
 obtain⟨t',ht3⟩:=mR g v s (gI (dM g v) (j:Int))
 refine⟨by rw[bO hj,List.foldl_append,<-h.eq];rfl,h.ok.one h.mem ht.1 ht.2,by rw[ht3];simp[h.mem],t++t',by rw[ht3,ht2,List.append_assoc]⟩
theorem dz.done{s s0:Bf}{g:bh}{v:Int}{j:Nat}(h:dz s g s0 v j)(hj:¬(j:Int)<(dM g v).length):s=lP g v s0:=by
 rw[h.eq,List.take_of_length_le (by omega)];rfl
structure fy(s:Bf)(g:bh)(s0:Int)(i:Nat):Prop where
  ok:iS g s
  le:(i:Int)<=s.order.length
  eq:kU g (g.1.toNat-i) i s=cT g s0
theorem fy.start{g:bh}{s0:Int}(h0:0<=s0)(h1:s0<g.1):fy (eN g s0) g s0 0:=⟨iS.start h0 h1,by omega,rfl⟩
theorem fy.next{s s':Bf}{g:bh}{s0:Int}{i j:Nat}(h:fy s g s0 i)(hg:0<=g.1)(hi:(i:Int)<s.order.length)(hr:dz s' g s (gI s.order (i:Int)) j)(hj:¬(j:Int)<(dM g (gI s.order (i:Int))).length):fy s' g s0 (i+1):=by
 obtain⟨t,ht⟩:=hr.pre
 have hl:=h.ok.len hg
 refine⟨hr.ok,by rw[ht];simp;omega,?_⟩
 rw[<-h.eq,show g.1.toNat-i=(g.1.toNat-(i+1))+1 by omega]
 simp only[kU]
 rw[if_pos (by omega),hr.done hj]
theorem fy.done{s:Bf}{g:bh}{s0:Int}{i:Nat}(h:fy s g s0 i)(hi:¬(i:Int)<s.order.length):s=cT g s0:=by
 rw[<-h.eq]
 cases g.1.toNat-i with
 |zero=>rfl
 |succ n=>simp only[kU];rw[if_neg (by omega)]
def iM(g:bh)(p:List Int×Int)(v:Int):List Int×Int:=
 if 0<=gI p.1 v then p else((cT g v).order.foldl (λl w=>l.set w.toNat p.2) p.1,p.2+1)
def cB(g:bh)(k:Nat):List Int×Int:=(bG k).foldl (iM g) (List.replicate g.1.toNat (-1),0)
def aH(g:bh):List Int×Int×Int:=if b7 g then((cB g g.1.toNat).1,(cB g g.1.toNat).2,0) else([],0,1)
theorem im(g:bh)(k:Nat):cB g (k+1)=iM g (cB g k) (k:Int):=by
 unfold cB
 rw[cV,List.foldl_append];rfl
theorem mU(g:bh):∀k:Nat,(cB g k).1.length=g.1.toNat/\0<=(cB g k).2/\(cB g k).2<=k:=by
 intro k
 induction k with
 |zero=>simp[cB,bG]
 |succ k ih=>
   rw[im]
   unfold iM
   have key:∀(l:List Int) (p:List Int) (x:Int),(l.foldl (λl w=>l.set w.toNat x) p).length=p.length:=by
     intro l
     induction l with
     |nil=>intro p x;rfl
     |cons a l ih=>intro p x;rw[List.foldl_cons,ih];simp
   split
   · exact⟨ih.1,ih.2.1,by omega⟩
   · simp only
     rw[key]
     exact⟨ih.1,by omega,by omega⟩
theorem mJ{l p:List Int}{x:Int}{k:Nat}(hk:(k:Int)<l.length):(l.take (k+1)).foldl (λl w=>l.set w.toNat x) p=((l.take k).foldl (λl w=>l.set w.toNat x) p).set (gI l (k:Int)).toNat x:=by
 rw[bO hk,List.foldl_append];rfl
theorem i3(x:Int):∀(l p:List Int),(l.foldl (λl w=>l.set w.toNat x) p).length=p.length
 |[],p=>rfl
 |a::l,p=>by rw[List.foldl_cons,i3 x l];simp
end TL
namespace TL
theorem sE{k n:Nat}{x:Int}(hk:k<n):(List.replicate k x++List.replicate (n-k) 0).set (k:Int).toNat x=List.replicate (k+1) x++List.replicate (n-(k+1)) (0:Int):=by
 have e:n-k=(n-(k+1))+1:=by omega
 rw[e,List.replicate_succ]
 simp only[Int.toNat_natCast]
 rw[List.set_append_right _ _ (by simp)]
 simp only[List.length_replicate,Nat.sub_self,List.set_cons_zero]
 rw[List.replicate_succ']
 simp
theorem dD.rl{out:List (List Int)}{g:bh}{k:Nat}(h:dD out g k){v:Int}(h0:0<=v)(h1:v<g.1):((gI out v).length:Int)<=2*(k:Int):=by
 rw[h.at_ v h0 h1]
 have:=sM g v k
 omega
theorem dD.rl2{out:List (List Int)}{g:bh}{k:Nat}(h:dD out g k){u v:Int}(h2:0<=u)(h3:u<g.1)(h0:0<=v)(h1:v<g.1)(a:Int):((gI (out.set u.toNat (gI out u++[a])) v).length:Int)<=2*(k:Int)+1:=by
 have hl:=h.len
 rw[c5 h2 (by omega) h0]
 split
 · have:=h.rl h2 h3;simp;omega
 · have:=h.rl h0 h1;omega
theorem dD.done{out:List (List Int)}{g:bh}{k:Nat}(h:dD out g k)(hk:k=g.2.length):∀v,0<=v->v<g.1->gI out v=dM g v:=λv h0 h1=>by
 subst hk;exact h.at_ v h0 h1
theorem dz.yes{O B F:List Int}{s0:Bf}{g:bh}{v h:Int}{j:Nat}(hr:dz ⟨O,B,F⟩ g s0 v j)(hm:b7 g)(hj:(j:Int)<(dM g v).length)(hh:h=gI (dM g v) (j:Int))(c:gI F (bM g h)<0):dz ⟨O++[bM g h],B.set (bM g h).toNat h,F.set (bM g h).toNat (gI F v+1)⟩ g s0 v (j+1):=by
 have h1:=hr.next hm hj
 rw[<-hh] at h1
 unfold fj at h1
 rw[if_pos (show gI (Bf.mk O B F).far (bM g h)<0 from c)] at h1
 exact h1
theorem dz.no{O B F:List Int}{s0:Bf}{g:bh}{v h:Int}{j:Nat}(hr:dz ⟨O,B,F⟩ g s0 v j)(hm:b7 g)(hj:(j:Int)<(dM g v).length)(hh:h=gI (dM g v) (j:Int))(c:¬gI F (bM g h)<0):dz ⟨O,B,F⟩ g s0 v (j+1):=by
 have h1:=hr.next hm hj
 rw[<-hh] at h1
 unfold fj at h1
 rw[if_neg (show¬gI (Bf.mk O B F).far (bM g h)<0 from c)] at h1
 exact h1
theorem dz.facts{O B F:List Int}{s0:Bf}{g:bh}{v:Int}{j:Nat}(hr:dz ⟨O,B,F⟩ g s0 v j)(hg:0<=g.1):(F.length:Int)=g.1/\(B.length:Int)=g.1/\(O.length:Int)<=g.1/\(0<=v/\v<g.1)/\gI F v<=O.length/\¬gI F v<0:=by
 have h1:=hr.ok
 have hv:=h1.rng v hr.mem
 exact⟨h1.far,h1.by_,h1.len hg,hv,h1.le v hv.1 hv.2,λhh=>(h1.iff v hv.1 hv.2).1 hh hr.mem⟩
theorem fy.facts{O B F:List Int}{g:bh}{s0:Int}{i:Nat}(hr:fy ⟨O,B,F⟩ g s0 i)(hg:0<=g.1):(F.length:Int)=g.1/\(B.length:Int)=g.1/\(O.length:Int)<=g.1/\(i:Int)<=O.length:=⟨hr.ok.far,hr.ok.by_,hr.ok.len hg,hr.le⟩
theorem fy.node{O B F:List Int}{g:bh}{s0:Int}{i:Nat}(hr:fy ⟨O,B,F⟩ g s0 i)(hi:(i:Int)<O.length):0<=gI O (i:Int)/\gI O (i:Int)<g.1:=hr.ok.rng _ (bv (by omega) hi)
theorem fy.row{O B F:List Int}{g:bh}{s0:Int}{i:Nat}(hr:fy ⟨O,B,F⟩ g s0 i)(hi:(i:Int)<O.length):dz ⟨O,B,F⟩ g ⟨O,B,F⟩ (gI O (i:Int)) 0:=dz.start hr.ok (bv (by omega) hi)
theorem qI{g:bh}{s0:Int}{O B F:List Int}{i:Nat}(h:fy ⟨O,B,F⟩ g s0 i)(hi:¬(i:Int)<O.length):O=(cT g s0).order/\∀x∈O,0<=x/\x<g.1:=⟨congrArg Bf.order (h.done hi),h.ok.rng⟩
end TL
namespace TL
theorem qw{g:bh}{part:List Int}{n:Int}{q:Nat}(h:part=(cB g q).1/\n=(cB g q).2)(c:0<=gI part (q:Int)):part=(cB g (q+1)).1/\n=(cB g (q+1)).2:=by
 have h1:cB g (q+1)=cB g q:=by
   rw[im]
   unfold iM
   rw[if_pos (by rw[<-h.1];exact c)]
 rw[h1];exact h
theorem uz{g:bh}{part part2 O:List Int}{n:Int}{q j:Nat}(h:part=(cB g q).1/\n=(cB g q).2)(c:¬0<=gI part (q:Int))(hO:O=(cT g (q:Int)).order)(hp:part2=(O.take j).foldl (λl w=>l.set w.toNat n) part)(hj:¬(j:Int)<O.length):part2=(cB g (q+1)).1/\n+1=(cB g (q+1)).2:=by
 rw[List.take_of_length_le (by omega)] at hp
 have h1:cB g (q+1)=((cT g (q:Int)).order.foldl (λl w=>l.set w.toNat (cB g q).2) (cB g q).1,(cB g q).2+1):=by
   rw[im]
   unfold iM
   rw[if_neg (by rw[<-h.1];exact c)]
 rw[h1]
 exact⟨by rw[hp,hO,h.1,h.2],by rw[h.2]⟩
theorem je{g:bh}(hm:b7 g){q:Nat}(hq:(q:Int)=g.1){part:List Int}{n:Int}(h:part=(cB g q).1/\n=(cB g q).2):part=(aH g).1/\n=(aH g).2.1/\0=(aH g).2.2:=by
 have e:q=g.1.toNat:=by omega
 subst e
 unfold aH
 rw[if_pos hm]
 exact⟨h.1,h.2,rfl⟩
end TL
namespace TL
end TL
/-
  TlRot2: rotations: faces of half-edges, first ones, parts, moved ones.
  By an AI agent.
-/
set_option linter.all false
namespace TL
def bt(g:bh):iN:=(List.range g.1.toNat).map λ(v:Nat)=>dM g (v:Int)
theorem dD.first{out:iN}{g:bh}{k:Nat}(h:dD out g k)(hk:k=g.2.length):out=bt g:=by
 have hl:=h.len
 apply kA
 · simp[bt];omega
 · intro i hi
   rw[h.done hk _ (by omega) (by omega)]
   have:i<g.1.toNat:=by omega
   simp[bt,gI,this]
end TL
/-
  TlTr: one of each class, how many classes there are; the components of a net.
  By an AI agent.
-/
set_option linter.all false
namespace TL
structure zJ(D:Int->Prop)(R:Int->Int->Prop):Prop where
 rfl:∀x,D x->R x x
 symm:∀x y,D x->D y->R x y->R y x
 trans:∀x y z,D x->D y->D z->R x y->R y z->R x z
theorem od{P:Int->Int->Prop}:∀(l l':List Int),l.Nodup->(∀x∈l,∃y∈l',P x y)->(∀x∈l,∀x'∈l,∀y,y∈l'->P x y->P x' y->x=x')->l.length<=l'.length
 |[],l',_,_,_=>by simp
 |a::l,l',hn,h1,h2=>by
   obtain⟨y,hy,hp⟩:=h1 a (by simp)
   have hn':=List.nodup_cons.1 hn
   have h3:=od (P:=P) l (l'.erase y) hn'.2 (λx hx=>by
     obtain⟨z,hz,hq⟩:=h1 x (by simp[hx])
     refine⟨z,(List.mem_erase_of_ne (λe=>?_)).2 hz,hq⟩
     subst e
     have:=h2 a (by simp) x (by simp[hx]) z hz hp hq
     subst this
     exact hn'.1 hx) (λx hx x' hx' z hz=>h2 x (by simp[hx]) x' (by simp[hx']) z (List.mem_of_mem_erase hz))
   have h4:=List.length_erase_of_mem hy
   have h5:=List.length_pos_of_mem hy
   simp;omega
def ic(g:bh)(v:Int):Prop:=0<=v/\v<g.1
def Cn(g:bh)(u v:Int):Prop:=∀R:Int->Int->Prop,zJ (ic g) R->(∀e∈g.2,R e.1 e.2)->R u v
theorem Cn.eqv(g:bh):zJ (ic g) (Cn g):=
 ⟨λx hx R hR _=>hR.rfl x hx,λx y hx hy h R hR he=>hR.symm x y hx hy (h R hR he),λx y z hx hy hz h1 h2 R hR he=>hR.trans x y z hx hy hz (h1 R hR he) (h2 R hR he)⟩
theorem Cn.edge{g:bh}{e:Int×Int}(h:e∈g.2):Cn g e.1 e.2:=λR _ he=>he e h
theorem Cn.half{g:bh}(hm:b7 g){h:Int}(h0:0<=h)(h1:h<2*(g.2.length:Int)):Cn g (aI g h) (bM g h):=by
 have hin:=bv (xs:=g.2) (i:=h/2) (by omega) (by omega)
 have hok:=hm.2.2.2 _ hin
 have hc:=Cn.edge hin
 unfold aI bM pI
 have h2:h%2=0\/h%2=1:=by omega
 rcases h2 with e|e
 · rw[e];simpa using hc
 · rw[e]
   exact(Cn.eqv g).symm _ _ hok.1 hok.2 (by simpa using hc)
theorem vR{g:bh}{i:Nat}(hi:(i:Int)<g.2.length):2*(i:Int)∈dM g (gI g.2 (i:Int)).1/\2*(i:Int)+1∈dM g (gI g.2 (i:Int)).2/\bM g (2*(i:Int))=(gI g.2 (i:Int)).2/\bM g (2*(i:Int)+1)=(gI g.2 (i:Int)).1:=by
 have e1:(2*(i:Int))/2=i:=by omega
 have e2:(2*(i:Int))%2=0:=by omega
 have e3:(2*(i:Int)+1)/2=i:=by omega
 have e4:(2*(i:Int)+1)%2=1:=by omega
 refine⟨?_,?_,by unfold bM;rw[e1,e2];simp[pI],by unfold bM;rw[e3,e4];simp[pI]⟩
 · unfold dM i9
   refine List.mem_filter.2 ⟨List.mem_map.2 ⟨2*i,List.mem_range.2 (by omega),by push_cast;rfl⟩,?_⟩
   simp only[decide_eq_true_eq]
   unfold aI;rw[e1,e2];simp[pI]
 · unfold dM i9
   refine List.mem_filter.2 ⟨List.mem_map.2 ⟨2*i+1,List.mem_range.2 (by omega),by push_cast;rfl⟩,?_⟩
   simp only[decide_eq_true_eq]
   unfold aI;rw[e3,e4];simp[pI]
theorem sa{g:bh}{S:Int->Prop}(hS:∀x h,S x->h∈dM g x->S (bM g h)){u v:Int}(hc:Cn g u v):S u->S v:=by
 refine(hc (λu v=>S u↔S v) ⟨λ_ _=>Iff.rfl,λ_ _ _ _ h=>h.symm,λ_ _ _ _ _ _ h1 h2=>h1.trans h2⟩ (λe he=>?_)).1
 obtain⟨i,hi,rfl⟩:=List.mem_iff_getElem.1 he
 have e:gI g.2 (i:Int)=g.2[i]:=by simp[gI,hi]
 obtain⟨a,b,c,d⟩:=vR (g:=g) (i:=i) (by omega)
 rw[e] at a b c d
 exact⟨λh=>by rw[<-c];exact hS _ _ h a,λh=>by rw[<-d];exact hS _ _ h b⟩
theorem sZ(g:bh)(v:Int)(s:Bf)(h:Int):∀x∈(fj g v s h).order,x∈s.order\/x=bM g h:=by
 intro x hx
 unfold fj at hx
 split at hx
 · rcases List.mem_append.1 hx with hx|hx
   · exact .inl hx
   · exact .inr (List.mem_singleton.1 hx)
 · exact .inl hx
theorem mY{g:bh}(hm:b7 g){v:Int}:∀(l:List Int) (s:Bf),(∀h∈l,h∈dM g v)->iS g s->v∈s.order->
   iS g (l.foldl (fj g v) s)/\(∃t,(l.foldl (fj g v) s).order=s.order++t)/\(∀x∈(l.foldl (fj g v) s).order,x∈s.order\/∃h∈dM g v,x=bM g h)/\∀h∈l,bM g h∈(l.foldl (fj g v) s).order
 |[],s,_,hs,hv=>⟨hs,⟨[],by simp⟩,λx hx=>.inl hx,by simp⟩
 |a::l,s,hl,hs,hv=>by
   have hin:=(eZ (hl a (by simp))).1
   have ht:=gX hm hin.1 hin.2
   have h1:=hs.one (v:=v) (h:=a) hv ht.1 ht.2
   obtain⟨t,ht1⟩:=mR g v s a
   have ha:bM g a∈(fj g v s a).order:=by
     by_cases c:gI s.far (bM g a)<0
     · unfold fj;rw[if_pos c];simp
     · rw[ht1]
       have:bM g a∈s.order:=Classical.byContradiction λhn=>c ((hs.iff _ ht.1 ht.2).2 hn)
       simp[this]
   obtain⟨k1,⟨t2,k2⟩,k3,k4⟩:=mY hm l (fj g v s a) (λh hh=>hl h (by simp[hh])) h1 (by rw[ht1];simp[hv])
   rw[List.foldl_cons]
   refine⟨k1,⟨t++t2,by rw[k2,ht1,List.append_assoc]⟩,λx hx=>?_,λh hh=>?_⟩
   · rcases k3 x hx with hx|hx
     · rcases sZ g v s a x hx with hx|hx
       · exact .inl hx
       · exact .inr ⟨a,hl a (by simp),hx⟩
     · exact .inr hx
   · rcases List.mem_cons.1 hh with rfl|hh
     · rw[k2];simp[ha]
     · exact k4 h hh
theorem rn{g:bh}(hm:b7 g){s0:Int}:∀(n i:Nat) (s:Bf),iS g s->(∀x∈s.order,Cn g s0 x)->s0∈s.order->ic g s0->(∀q:Nat,q<i->(q:Int)<s.order.length->∀h∈dM g (gI s.order (q:Int)),bM g h∈s.order)->(g.1:Int)<=n+i->
   iS g (kU g n i s)/\(∀x∈(kU g n i s).order,Cn g s0 x)/\s0∈(kU g n i s).order/\∀x∈(kU g n i s).order,∀h∈dM g x,bM g h∈(kU g n i s).order
 |0,i,s,hs,hc,h0,hd,hq,hn=>by
   refine⟨hs,hc,h0,λx hx h hh=>?_⟩
   obtain⟨q,hq1,e⟩:=List.mem_iff_getElem.1 hx
   have hl:=hs.len hm.1
   change q<s.order.length at hq1
   have eq1:gI s.order (q:Int)=x:=by simp only[kU] at e;simp[gI,hq1,e]
   exact hq q (by omega) (by omega) h (by rw[eq1];exact hh)
 |n+1,i,s,hs,hc,h0,hd,hq,hn=>by
   simp only[kU]
   by_cases c:i<s.order.length
   · rw[if_pos c]
     have hv:=bv (xs:=s.order) (i:=(i:Int)) (by omega) (by omega)
     obtain⟨k1,⟨t,k2⟩,k3,k4⟩:=mY hm (v:=gI s.order (i:Int)) (dM g (gI s.order (i:Int))) s (λh hh=>hh) hs hv
     have hvd:=hs.rng _ hv
     have hpre:∀q:Nat,(q:Int)<s.order.length->gI (lP g (gI s.order (i:Int)) s).order (q:Int)=gI s.order (q:Int):=λq hq'=>by
       unfold lP;rw[k2];unfold gI
       have:((q:Int)).toNat<s.order.length:=by omega
       simp only[Int.toNat_natCast] at this ⊢
       simp[List.getD_eq_getElem?_getD,List.getElem?_append_left this]
     refine rn hm n (i+1) (lP g (gI s.order (i:Int)) s) k1 (λx hx=>?_) (by unfold lP;rw[k2];simp[h0]) hd (λq hq1 hq2 h hh=>?_) (by omega)
     · rcases k3 x hx with hx|⟨h,hh,rfl⟩
       · exact hc x hx
       · have hin:=eZ hh
         have h1:=Cn.half hm hin.1.1 hin.1.2
         rw[hin.2] at h1
         exact(Cn.eqv g).trans _ _ _ hd hvd (gX hm hin.1.1 hin.1.2) (hc _ hv) h1
     · by_cases e:q=i
       · subst e
         rw[hpre q (by omega)] at hh
         exact k4 h hh
       · have hq3:(q:Int)<s.order.length:=by omega
         rw[hpre q hq3] at hh
         have:=hq q (by omega) hq3 h hh
         unfold lP;rw[k2];simp[this]
   · rw[if_neg c]
     refine⟨hs,hc,h0,λx hx h hh=>?_⟩
     obtain⟨q,hq1,e⟩:=List.mem_iff_getElem.1 hx
     have eq1:gI s.order (q:Int)=x:=by simp[gI,hq1,e]
     exact hq q (by omega) (by omega) h (by rw[eq1];exact hh)
theorem oZ{g:bh}(hm:b7 g){s0:Int}(h0:ic g s0):(∀x∈(cT g s0).order,ic g x)/\∀x,x∈(cT g s0).order↔Cn g s0 x:=by
 obtain⟨k1,k2,k3,k4⟩:=rn hm (s0:=s0) g.1.toNat 0 (eN g s0) (iS.start h0.1 h0.2) (by simp[eN];exact(Cn.eqv g).rfl s0 h0) (by simp[eN]) h0 (λq hq=>by omega) (by have:=hm.1;omega)
 refine⟨k1.rng,λx=>⟨k2 x,λhc=>?_⟩⟩
 exact sa (S:=λx=>x∈(cT g s0).order) (λx h hx hh=>k4 x hx h hh) hc k3
theorem rD{n:Int}:∀(O p:List Int) (v:Int),0<=v->v<p.length->(∀x∈O,0<=x/\x<p.length)->gI (O.foldl (λl w=>l.set w.toNat n) p) v=if v∈O then n else gI p v
 |[],p,v,h0,h1,_=>by simp
 |a::O,p,v,h0,h1,ho=>by
   have ha:=ho a (by simp)
   rw[List.foldl_cons,rD O _ v h0 (by simpa using h1) (λx hx=>by simpa using ho x (by simp[hx])),c5 ha.1 ha.2 h0]
   by_cases e:v=a
   · subst e;simp
   · by_cases hv:v∈O
     · simp[hv]
     · simp[hv,e]
end TL
/-
  TlDfs: components found by a stack: the document's way.
  By an AI agent.
-/
set_option linter.all false
namespace TL
theorem gL{g:bh}{v:Int}(h0:0<=v)(h1:v<g.1):gI (bt g) v=dM g v:=by
 unfold bt gI
 have:v.toNat<g.1.toNat:=by omega
 simp[List.getD_eq_getElem?_getD,this]
 congr 1
 omega
section
variable{g:bh}{c0 c todo x:List Int}{n s:Int}
variable{v:Int}{k M:Nat}
end
end TL
/-
  TlFloat: floating numbers that are no NaN and have no sign: their bits, as a natural number, stand as they do; sums, roots and quotients of such.
  By an AI agent.
-/
set_option linter.all false
namespace TL
open Ieee
def pl(x:Nat):Nat:=x/4503599627370496-1
end TL
/-
  TlFl: floating numbers in a walk: what each operation comes to.
  By an AI agent.
-/
set_option linter.all false
namespace TL
open Go
instance:Rp Nat where
 sz:=1
 rep _ _ _ cs x:=cs=[.float .f64 x]
 len h:=by subst h;rfl
 one h:=by subst h;simp[Value.oneCell']
 tr _ _ h:=h
instance:Fl Nat where
 cells x:=[.float .f64 x]
 rep_iff:=Iff.rfl
section
variable{P:Program}{f:Fr}{w:World}{dst:Option Tmp}{ty:TypeId}{pos:String}{after:Array Edge}{g:Option (Nat×Bool)}{t t' s d:TypeId}{x y:Operand}{a b r:Nat}
variable{N:Value->World->Prop}
end
end TL
/-
  TlGeom: points with whole coordinates: turns, segments, how they meet.
  By an AI agent.
-/
set_option linter.all false
namespace TL
abbrev Pt:=Int×Int
def eG(x y:Int):Int:=if x<y then-1 else if y<x then 1 else 0
def zc(a b:Pt):Int:=a.1*b.2-a.2*b.1
def yZ(b a:Pt):Pt:=(b.1-a.1,b.2-a.2)
def s6(a b c:Pt):Int:=eG (zc (yZ b a) (yZ c a)) 0
def yh(a b p:Pt):Prop:=(min a.1 b.1<=p.1/\p.1<=max a.1 b.1)/\min a.2 b.2<=p.2/\p.2<=max a.2 b.2
instance (a b p:Pt):Decidable (yh a b p):=by unfold yh;infer_instance
def ux(a b p:Pt):Prop:=s6 a b p=0/\yh a b p
instance (a b p:Pt):Decidable (ux a b p):=by unfold ux;infer_instance
def pw(a b:Pt):Int:=if eG a.1 b.1≠0 then eG a.1 b.1 else eG a.2 b.2
def yS(a b c d:Pt):Int:=
 let a':=if 0<pw a b then b else a
 let b':=if 0<pw a b then a else b
 let c':=if 0<pw c d then d else c
 let d':=if 0<pw c d then c else d
 let low:=if 0<pw c' a' then c' else a'
 let high:=if pw d' b'<0 then d' else b'
 if 0<pw low high then 0 else if pw low high=0 then 2 else 3
def i8(a b c d:Pt):Int:=
 if s6 a b c=0/\s6 a b d=0/\s6 c d a=0/\s6 c d b=0 then yS a b c d
 else if s6 a b c*s6 a b d<0/\s6 c d a*s6 c d b<0 then 1
 else if ux a b c\/ux a b d\/ux c d a\/ux c d b then 2 else 0
def key(p:Pt):Int:=p.1*1073741824+p.2
def zG(p:Pt):Prop:=(-4194304<=p.1/\p.1<=4194304)/\ -4194304<=p.2/\p.2<=4194304
end TL
namespace TL
def yJ(p:Pt):Prop:=(-1048576<=p.1/\p.1<=1048576)/\ -1048576<=p.2/\p.2<=1048576
instance (p:Pt):Decidable (yJ p):=by unfold yJ;infer_instance
theorem yJ.bd{p:Pt}(h:yJ p):zG p:=by unfold yJ at h;unfold zG;omega
def zt(ps:List Pt):Prop:=ps.length<=4096/\∀p∈ps,yJ p
instance (ps:List Pt):Decidable (zt ps):=by unfold zt;infer_instance
def qF:List Int->Int
 |[]=>0
 |x::l=>if x=0 then qF l else x
theorem uw{l:List Int}{k:Nat}(h:∀j:Nat,j<k->gI l (j:Int)=0)(hk:(k:Int)<l.length)(hx:gI l (k:Int)≠0):gI l (k:Int)=qF l:=by
 induction l generalizing k with
 |nil=>simp at hk;omega
 |cons a l ih=>
   cases k with
   |zero=>
     have e:gI (a::l) ((0:Nat):Int)=a:=by simp[gI]
     rw[e] at hx ⊢
     unfold qF;rw[if_neg hx]
   |succ k=>
     have e:∀j:Nat,gI (a::l) ((j+1:Nat):Int)=gI l (j:Int):=λj=>by simp[gI]
     have e0:gI (a::l) ((0:Nat):Int)=a:=by simp[gI]
     have h0:=h 0 (by omega)
     rw[e0] at h0
     rw[e] at hx ⊢
     unfold qF;rw[if_pos h0]
     exact ih (λj hj=>by rw[<-e];exact h (j+1) (by omega)) (by simp at hk;omega) hx
theorem te{l:List Int}{k:Nat}(h:∀j:Nat,j<k->gI l (j:Int)=0)(hk:¬(k:Int)<l.length):0=qF l:=by
 induction l generalizing k with
 |nil=>rfl
 |cons a l ih=>
   have e:∀j:Nat,gI (a::l) ((j+1:Nat):Int)=gI l (j:Int):=λj=>by simp[gI]
   have e0:gI (a::l) ((0:Nat):Int)=a:=by simp[gI]
   simp at hk
   have h0:=h 0 (by omega)
   rw[e0] at h0
   unfold qF;rw[if_pos h0]
   exact ih (k:=k-1) (λj hj=>by rw[<-e];exact h (j+1) (by omega)) (by omega)
def rV(p:Pt):Int:=if 0<p.1\/p.1=0/\0<p.2 then 0 else 1
section
variable{a b c d:Pt}
end
end TL
/-
  TlGeomM: meeting segments: moved, turned, named another way about; what ends they share.
  By an AI agent.
-/
set_option linter.all false
namespace TL
section
variable{a b c d:Pt}
def mc(a b c d e:Pt):Prop:=ux a b e/\ux c d e
instance (a b c d e:Pt):Decidable (mc a b c d e):=by unfold mc;infer_instance
def vF(a b c d:Pt):Prop:=s6 a b c*s6 a b d<0/\s6 c d a*s6 c d b<0
instance (a b c d:Pt):Decidable (vF a b c d):=by unfold vF;infer_instance
end
end TL
/-
  TlGeomR: what is told of many points: areas, boxes, whether a polyline is simple.
  By an AI agent.
-/
set_option linter.all false
namespace TL
def nU(ps:List Pt):Prop:=4<=(ps.length:Int)/\gI ps 0=gI ps ((ps.length:Int)-1)
instance (ps:List Pt):Decidable (nU ps):=by unfold nU;infer_instance
def rE(ps:List Pt)(i k:Nat):Prop:=k=i+1\/i=0/\(k:Int)=(ps.length:Int)-2/\nU ps
instance (ps:List Pt)(i k:Nat):Decidable (rE ps i k):=by unfold rE;infer_instance
def zH(ps:List Pt)(i k:Nat):Int:=i8 (gI ps (i:Int)) (gI ps ((i:Int)+1)) (gI ps (k:Int)) (gI ps ((k:Int)+1))
def yC(ps:List Pt)(i k:Nat):Prop:=rE ps i k/\zH ps i k=3\/¬rE ps i k/\zH ps i k≠0
instance (ps:List Pt)(i k:Nat):Decidable (yC ps i k):=by unfold yC;infer_instance
def yg(ps:List Pt)(i:Nat):Prop:=gI ps (i:Int)≠gI ps ((i:Int)+1)/\∀k<ps.length,i<k->(k:Int)<=(ps.length:Int)-2->¬yC ps i k
instance (ps:List Pt)(i:Nat):Decidable (yg ps i):=by unfold yg;infer_instance
def yV(ps:List Pt):Prop:=∀i<ps.length,(i:Int)<=(ps.length:Int)-2->yg ps i
instance (ps:List Pt):Decidable (yV ps):=by unfold yV;infer_instance
section
variable{ps:List Pt}
variable{i k:Nat}
end
end TL
/-
  TlGeomS: polylines gone back, and two of them named the other way about.
  By an AI agent.
-/
set_option linter.all false
namespace TL
abbrev Sg:=Pt×Pt
def uD(ps:List Pt):Nat->List Sg
 |0=>[]
 |k+1=>uD ps k++[(gI ps (k:Int),gI ps ((k:Int)+1))]
def wG(ps:List Pt):List Sg:=if ps.length=1 then[(gI ps 0,gI ps 0)] else uD ps (ps.length-1)
def xA(ps:List Pt):Pt:=gI ps ((ps.length:Int)-1)
def xT(ps:List Pt)(p:Pt):Prop:=p=gI ps 0\/p=xA ps
instance (ps:List Pt)(p:Pt):Decidable (xT ps p):=by unfold xT;infer_instance
def w5(q:List Pt)(s t:Sg)(x:Pt):Prop:=xT q x/\ux s.1 s.2 x/\ux t.1 t.2 x
instance (q:List Pt)(s t:Sg)(x:Pt):Decidable (w5 q s t x):=by unfold w5;infer_instance
def uH(p q:List Pt)(s t:Sg):Prop:=w5 q s t (gI p 0)\/w5 q s t (xA p)
instance (p q:List Pt)(s t:Sg):Decidable (uH p q s t):=by unfold uH;infer_instance
def yE(p q:List Pt)(s t:Sg):Prop:=i8 s.1 s.2 t.1 t.2=3\/i8 s.1 s.2 t.1 t.2≠0/\¬uH p q s t
instance (p q:List Pt)(s t:Sg):Decidable (yE p q s t):=by unfold yE;infer_instance
def yY(p q:List Pt):Prop:=∀s∈wG p,∀t∈wG q,¬yE p q s t
instance (p q:List Pt):Decidable (yY p q):=by unfold yY;infer_instance
section
variable{p q:List Pt}
end
end TL
namespace TL
section
variable{p q:List Pt}{i k:Nat}
variable{s t:Sg}
end
end TL
namespace TL
section
variable{p q:List Pt}{s t:Sg}{i:Nat}
end
end TL
/-
  TlGeomB: a box holds all points, and each of its sides has one; how many ends two segments share.
  By an AI agent.
-/
set_option linter.all false
namespace TL
def y4(p:Pt->Bool)(ps:List Pt):Nat->Bool
 |0=>false
 |k+1=>y4 p ps k||p (gI ps (k:Int))
theorem pC{p:Pt->Bool}{ps:List Pt}:∀{k:Nat} {j:Nat},j<k->p (gI ps (j:Int))=true->y4 p ps k=true
 |0,j,hj,_=>by omega
 |k+1,j,hj,h=>by
   unfold y4
   by_cases e:j=k
   · subst e;rw[h];simp
   · rw[pC (by omega) h];simp
section
variable{a b c d:Pt}{ends:List Pt}{k:Nat}
end
end TL
namespace TL
end TL
/-
  TlGeomX: polylines: the document's way and the code's.
  By an AI agent.
-/
set_option linter.all false
namespace TL
section
variable{a b c d:Pt}
end
section
variable{ps:List Pt}{i k:Nat}
end
def yH(but:List Pt)(s t:Sg):Prop:=i8 s.1 s.2 t.1 t.2=3\/(i8 s.1 s.2 t.1 t.2=1/\¬∃x∈but,mc s.1 s.2 t.1 t.2 x)\/((i8 s.1 s.2 t.1 t.2≠0/\i8 s.1 s.2 t.1 t.2≠1)/\∃e∈[s.1,s.2,t.1,t.2],mc s.1 s.2 t.1 t.2 e/\e∉but)
instance (but:List Pt)(s t:Sg):Decidable (yH but s t):=by unfold yH;infer_instance
def zb(p q but:List Pt):Prop:=∃s∈wG p,∃t∈wG q,yH but s t
instance (p q but:List Pt):Decidable (zb p q but):=by unfold zb;infer_instance
section
variable{p q B:List Pt}
end
end TL
namespace TL
section
variable{p q but:List Pt}{i k:Nat}
variable{s t:Sg}
def y7(s t:Sg)(but:List Pt)(k:Nat):Bool:=y4 (λx=>decide (mc s.1 s.2 t.1 t.2 x)) but k
theorem vQ{f:Pt->Bool}{ps:List Pt}:∀{k:Nat},y4 f ps k=true->∃j:Nat,j<k/\f (gI ps (j:Int))=true
 |0,h=>by simp[y4] at h
 |k+1,h=>by
   unfold y4 at h
   rcases Bool.or_eq_true _ _▸h with h|h
   · obtain⟨j,hj,e⟩:=vQ h
     exact⟨j,by omega,e⟩
   · exact⟨k,by omega,h⟩
theorem xm{j:Nat}(hj:¬(j:Int)<but.length)(hj2:j<=but.length):y7 s t but j=true↔∃x∈but,mc s.1 s.2 t.1 t.2 x:=by
 unfold y7
 constructor
 · intro h
   obtain⟨i,hi,e⟩:=vQ h
   exact⟨_,bv (by omega) (by omega),of_decide_eq_true e⟩
 · rintro⟨x,hx,h⟩
   obtain⟨i,hi,rfl⟩:=List.mem_iff_getElem.1 hx
   have e:gI but (i:Int)=but[i]:=by unfold gI;rw[Int.toNat_natCast,List.getD_eq_getElem?_getD,List.getElem?_eq_getElem hi];rfl
   exact pC (j:=i) (by omega) (by rw[e];exact decide_eq_true h)
theorem zK(h:i8 s.1 s.2 t.1 t.2=0):¬yH but s t:=by
 unfold yH;rw[h];simp
theorem zD(h:i8 s.1 s.2 t.1 t.2=1){j:Nat}(hj:¬(j:Int)<but.length)(hj2:j<=but.length){b:Bool}(hb:b=y7 s t but j)(h1:¬b=true):yH but s t:=
 .inr (.inl ⟨h,λhe=>h1 (hb.trans ((xm hj hj2).2 he))⟩)
end
end TL
/-
  TlAround: points round another one: the order, its laws, the list that is sorted by it.
  By an AI agent.
-/
set_option linter.all false
namespace TL
def zh(p:Pt):Int:=p.1*p.1+p.2*p.2
def nz(p:Pt):Prop:=¬(p.1=0/\p.2=0)
def zM(a b:Pt)(i k:Int):Prop:=rV a<rV b\/rV a=rV b/\(zc a b<0\/zc a b=0/\(zh a<zh b\/zh a=zh b/\i<k))
def vA(o:Pt)(ps:List Pt)(i:Int):Pt:=yZ (gI ps i) o
def zP(o:Pt)(ps:List Pt)(i k:Int):Prop:=zM (vA o ps i) (vA o ps k) i k
def zN(o:Pt)(ps:List Pt)(k:Nat)(l:List Int):Prop:=l.Pairwise (zP o ps)/\∀x,x∈l↔0<=x/\x<(k:Int)
section
variable{o:Pt}{ps:List Pt}{k:Nat}{l l':List Int}
open Classical in
noncomputable def arL (o:Pt) (ps:List Pt):List Int:=if h:∃l,zN o ps ps.length l then choose h else[]
end
section
variable{o:Pt}{ps:List Pt}{k:Nat}{l:List Int}{q:Int}
end
section
variable{o:Pt}{ps:List Pt}
end
end TL
/-
  TlJudge: plots: their flaws, as the code and the document gather them.
  By an AI agent.
-/
set_option linter.all false
namespace TL
abbrev zR:=Int×Int×Int
abbrev mB:=List Pt×List (List Pt)
section
variable{β:Type}{f h:Nat->List β}{k n:Nat}{x:β}{F B:List β}
end
section
variable{β:Type}{p:Prop}[Decidable p]{x:β}
end
def zI(l:List Pt):Prop:=2<=(l.length:Int)/\zt l
instance (l:List Pt):Decidable (zI l):=by unfold zI;infer_instance
def xR(g:bh)(p:mB)(e:Int):Prop:=gI (gI p.2 e) 0=gI p.1 (gI g.2 e).1/\gI (gI p.2 e) (((gI p.2 e).length:Int)-1)=gI p.1 (gI g.2 e).2
instance (g:bh)(p:mB)(e:Int):Decidable (xR g p e):=by unfold xR;infer_instance
def xD(l:List Pt)(q:Pt):Prop:=∃s∈uD l (l.length-1),ux s.1 s.2 q
instance (l:List Pt)(q:Pt):Decidable (xD l q):=by unfold xD;infer_instance
def tB(s t:Sg)(but:List Pt):Prop:=i8 s.1 s.2 t.1 t.2=0\/(i8 s.1 s.2 t.1 t.2=1\/i8 s.1 s.2 t.1 t.2=2)/\∃x∈but,mc s.1 s.2 t.1 t.2 x
instance (s t:Sg)(but:List Pt):Decidable (tB s t but):=by unfold tB;infer_instance
def z8(a b but:List Pt):Prop:=∀s∈uD a (a.length-1),∀t∈uD b (b.length-1),tB s t but
instance (a b but:List Pt):Decidable (z8 a b but):=by unfold z8;infer_instance
section
variable{g:bh}{p:mB}
end
end TL
namespace TL
section
variable{l:List Pt}{p:Pt}{i:Nat}
end
section
variable{a b c d:Pt}{but:List Pt}{k:Nat}{m:Int}
end
def zp(p:mB)(h:Int):Pt:=if h%2=0 then gI (gI p.2 (h/2)) 1 else gI (gI p.2 (h/2)) (((gI p.2 (h/2)).length:Int)-2)
def zr(u v:Pt):Int:=u.1*v.1+u.2*v.2
def vG(u v:Pt):Prop:=zc u v=0/\0<zr u v
instance (u v:Pt):Decidable (vG u v):=by unfold vG;infer_instance
end TL
namespace TL
end TL
namespace TL
section
variable{g:bh}{p:mB}{F G B:List zR}{v e k i:Nat}
end
section
variable{g:bh}{p:mB}{e f:Int}
end
section
variable{a b but:List Pt}{i k:Nat}
end
section
variable{g:bh}{p:mB}{e f:Nat}{b:Bool}
end
end TL
/-
  TlJudge2: what is told of a plot; its rotation.
  By an AI agent.
-/
set_option linter.all false
namespace TL
section
variable{p:mB}{l:List Pt}{a b:Bool}{i k:Nat}
end
section
variable{g:bh}{p:mB}
end
def zg(p:mB)(l:List Int):List Pt:=l.map (zp p)
def yj(p:mB)(o:Pt)(l:List Int):Prop:=∃j:Nat,j<l.length/\0<j/\vG (yZ (gI (zg p l) (gI (arL o (zg p l)) ((j:Int)-1))) o) (yZ (gI (zg p l) (gI (arL o (zg p l)) (j:Int))) o)
noncomputable instance (p:mB) (o:Pt) (l:List Int):Decidable (yj p o l):=by unfold yj;infer_instance
def yT(g:bh)(p:mB):Prop:=∃v:Nat,v<g.1.toNat/\yj p (gI p.1 (v:Int)) (dM g (v:Int))
noncomputable instance (g:bh) (p:mB):Decidable (yT g p):=by unfold yT;infer_instance
end TL
/-
  TlZf: weights: floating numbers that are at gK 0, of either sign of 0: in sums and comparisons such a one stands for its magnitude (zf).
  By an AI agent.
-/
set_option linter.all false
namespace TL
open Ieee
def zf(x:Nat):Nat:=x%9223372036854775808
open Go
end TL
/-
  TlPq: a heap of places (how far, which node), as container/heap keeps it: what is taken is the gK, and nothing else is lost.
  By an AI agent.
-/
set_option linter.all false
namespace TL
abbrev Pl:=Nat×Int
def rG(a b:Pl):Prop:=a.1<b.1\/a.1=b.1/\a.2<b.2
instance (a b:Pl):Decidable (rG a b):=by unfold rG;infer_instance
theorem qk(a:Pl):¬rG a a:=by unfold rG;omega
theorem ya{a b:Pl}(h:rG a b):¬rG b a:=by unfold rG at*;omega
theorem wP{a b:Pl}(h1:¬rG a b)(h2:¬rG b a):a=b:=by
 unfold rG at*
 exact Prod.ext (by omega) (by omega)
end TL
namespace TL
end TL
/-
  TlWay: ways of the gK weight (package path): what From tells, as the document does it (the nearest node that is not settled, again and again), and that a heap of waiting nodes finds the same.
  By an AI agent.
-/
set_option linter.all false
namespace TL
abbrev FS:=List Nat×List Int
-- what is picked
-- once all are settled no more rounds matter
end TL
namespace TL
end TL
/-
  TlBlk: blocks by a walk depth first with a stack of edges, as the program does it, and what its walk may rely on.
  By an AI agent.
-/
set_option linter.all false
namespace TL
structure Bs where
 place:List Int
 low:List Int
 by_:List Int
 next:List Int
 found:Int
 edges:List Int
 laid:List Bool
 block:List Int
 count:Int
def ol(l:List Int)(x:Int):Nat:=l.length-1-l.reverse.idxOf x
def dC(s:Bs)(first:Int):Bs:=
 {s with block:=(s.edges.drop (ol s.edges first)).foldl (λb e=>b.set e.toNat s.count) s.block,edges:=s.edges.take (ol s.edges first),count:=s.count+1}
def gc(s:Bs)(v:Int):Bs:={s with found:=s.found+1,place:=s.place.set v.toNat (s.found+1),low:=s.low.set v.toNat (s.found+1)}
def hZ(s:Bs)(e:Int):Bs:={s with laid:=s.laid.set e.toNat true,edges:=s.edges++[e]}
def dP(g:bh)(s:Bs)(v h:Int):Bs×Int×Bool:=
 if gI s.laid (h/2)=true then(s,0,false)
 else if bM g h=v then(dC (hZ s (h/2)) (h/2),0,false)
 else if gI s.place (bM g h)=0 then(gc {hZ s (h/2) with by_:=s.by_.set (bM g h).toNat h} (bM g h),bM g h,true)
 else({hZ s (h/2) with low:=s.low.set v.toNat (min (gI s.low v) (gI s.place (bM g h)))},0,false)
def dA(g:bh)(s:Bs)(v:Int):Bs:=
 if gI s.by_ v<0 then s
 else
   let u:=aI g (gI s.by_ v)
   let s1:Bs:={s with low:=s.low.set u.toNat (min (gI s.low u) (gI s.low v))}
   if gI s1.place u<=gI s1.low v then dC s1 (gI s.by_ v/2) else s1
def dp(g:bh)(s:Bs)(path:List Int)(u:Int):Bs×List Int:=
 if gI s.next u=((gI (bt g) u).length:Int) then(dA g s u,path.dropLast)
 else
   let h:=gI (gI (bt g) u) (gI s.next u)
   let t:=dP g {s with next:=s.next.set u.toNat (gI s.next u+1)} u h
   (t.1,if t.2.2=true then path++[t.2.1] else path)
def td(g:bh):Nat->Bs->List Int->Bs
 |0,s,_=>s
 |n+1,s,path=>if path=[] then s else td g n (dp g s path (gI path ((path.length:Int)-1))).1 (dp g s path (gI path ((path.length:Int)-1))).2
def bW(g:bh)(s:Bs)(path:List Int):Nat:=2*(((bG g.1.toNat).map λv=>((gI (bt g) v).length-(gI s.next v).toNat)).sum)+path.length
def fM(g:bh)(s:Bs)(v:Int):Bs:=td g (bW g (gc s v) [v]) (gc s v) [v]
def gz(g:bh):Bs:=⟨List.replicate g.1.toNat 0,List.replicate g.1.toNat 0,List.replicate g.1.toNat (-1),List.replicate g.1.toNat 0,0,[],List.replicate g.2.length false,List.replicate g.2.length 0,0⟩
def dR(g:bh)(k:Nat):Bs:=(bG k).foldl (λs v=>if gI s.place v=0 then fM g s v else s) (gz g)
def fp(by_:List Int)(path:List Int):List Int:=path.tail.map λv=>gI by_ v/2
structure eB(g:bh)(s:Bs)(path:List Int):Prop where
  l1:(s.place.length:Int)=g.1
  l2:(s.low.length:Int)=g.1
  l3:(s.by_.length:Int)=g.1
  l4:(s.next.length:Int)=g.1
  l5:(s.laid.length:Int)=g.2.length
  l6:(s.block.length:Int)=g.2.length
  nx:∀v,0<=v->v<g.1->0<=gI s.next v/\gI s.next v<=((gI (bt g) v).length:Int)
  pl:∀v,0<=v->v<g.1->0<=gI s.place v/\gI s.place v<=s.found
  f0:0<=s.found
  fn:s.found+(s.place.count 0:Int)=g.1
  by_:∀v,0<=v->v<g.1->gI s.by_ v= -1\/((0<=gI s.by_ v/\gI s.by_ v<2*(g.2.length:Int))/\bM g (gI s.by_ v)=v/\gI s.place v≠0)
  en:s.edges.Nodup
  el:∀e∈s.edges,(0<=e/\e<(g.2.length:Int))/\gI s.laid e=true
  ct:0<=s.count
  cl:s.count+(s.edges.length:Int)<=(s.laid.count true:Int)
  pn:path.Nodup
  pr:∀v∈path,(0<=v/\v<g.1)/\gI s.place v≠0
  p0:∀v,path.head? =some v->gI s.by_ v= -1
  pt:∀v∈path.tail,0<=gI s.by_ v
  pe:(fp s.by_ path).Sublist s.edges
variable{g:bh}{s:Bs}{path:List Int}{e v w u hh:Int}
theorem oy{x:Int}{n:Nat}{v:Int}(h0:0<=v)(h1:v<n):gI (List.replicate n x) v=x:=by
 obtain⟨k,rfl⟩:∃k:Nat,v=(k:Int):=⟨v.toNat,by omega⟩
 have:k<n:=by omega
 simp[gI,this]
theorem j5{l:List Int}{i:Nat}(hi:i<l.length){x:Int}(h0:l[i]=0)(hx:x≠0):(l.set i x).count 0+1=l.count 0:=by
 have hp:0<l.count 0:=List.count_pos_iff.2 (h0▸List.getElem_mem hi)
 rw[List.count_set hi,h0]
 simp[hx]
 omega
theorem mr{l:List Bool}{i:Nat}(hi:i<l.length)(h0:l[i]=false):(l.set i true).count true=l.count true+1:=by
 rw[List.count_set hi,h0]
 simp
theorem xi{l:List Bool}{i:Int}(h0:0<=i)(h1:i<l.length):∃h:i.toNat<l.length,gI l i=l[i.toNat]:=⟨by omega,by
 have:i.toNat<l.length:=by omega
 simp[gI,this]⟩
theorem rz{l:List Int}{i:Int}(h0:0<=i)(h1:i<l.length):∃h:i.toNat<l.length,gI l i=l[i.toNat]:=⟨by omega,by
 have:i.toNat<l.length:=by omega
 simp[gI,this]⟩
theorem eB.start(hm:b7 g):eB g (gz g) []:=by
 have h0:=hm.1
 have r0:∀{x:Int} {v:Int},0<=v->v<g.1->gI (List.replicate g.1.toNat x) v=x:=λa b=>oy a (by omega)
 refine⟨by simp[gz];omega,by simp[gz];omega,by simp[gz];omega,by simp[gz];omega,by simp[gz],by simp[gz],λv a b=>?_,λv a b=>?_,Int.le_refl _,?_,λv a b=>.inl (r0 a b),List.nodup_nil,λe he=>absurd he List.not_mem_nil,Int.le_refl _,?_,List.nodup_nil,λv hv=>absurd hv List.not_mem_nil,λv hv=>by simp at hv,λv hv=>absurd hv List.not_mem_nil,List.Sublist.refl _⟩
 · show 0<=gI (List.replicate g.1.toNat (0:Int)) v/\_<=_
   rw[show gI (gz g).next v=gI (List.replicate g.1.toNat (0:Int)) v from rfl,r0 a b];omega
 · show 0<=gI (List.replicate g.1.toNat (0:Int)) v/\gI (List.replicate g.1.toNat (0:Int)) v<=0
   rw[r0 a b];omega
 · show(0:Int)+((List.replicate g.1.toNat (0:Int)).count 0:Int)=g.1
   rw[List.count_replicate];simp;omega
 · show(0:Int)+((([]:List Int)).length:Int)<=((List.replicate g.2.length false).count true:Int)
   simp
theorem eB.lay(h:eB g s path)(e0:0<=e)(e1:e<(g.2.length:Int))(hl:¬gI s.laid e=true):eB g (hZ s e) path/\e∉s.edges:=by
  have hl5:=h.l5
  obtain⟨hi,hg⟩:=xi (l:=s.laid) e0 (by omega)
  have hne:e∉s.edges:=λk=>hl (h.el e k).2
  have hf:s.laid[e.toNat]=false:=by rw[<-hg];simpa using hl
  have hc:=mr hi hf
  refine⟨⟨h.l1,h.l2,h.l3,h.l4,by show((s.laid.set e.toNat true).length:Int)=_;rw[List.length_set];exact hl5,h.l6,h.nx,h.pl,h.f0,h.fn,h.by_,?_,λx hx=>?_,h.ct,?_,h.pn,h.pr,h.p0,h.pt,h.pe.trans (List.sublist_append_left ..)⟩,hne⟩
  · show(s.edges++[e]).Nodup
    rw[List.nodup_append]
    exact⟨h.en,by simp,λa ha b hb=>by rw[List.mem_singleton.1 hb];exact λk=>hne (by rw[<-k];exact ha)⟩
  · show(0<=x/\x<_)/\gI (s.laid.set e.toNat true) x=true
    rcases List.mem_append.1 hx with k|k
    · obtain⟨a,b⟩:=h.el x k
      refine⟨a,?_⟩
      rw[c5 e0 (by omega) a.1]
      split
      · rfl
      · exact b
    · rw[List.mem_singleton.1 k]
      exact⟨⟨e0,e1⟩,by rw[c5 e0 (by omega) e0,if_pos rfl]⟩
  · show s.count+((s.edges++[e]).length:Int)<=((s.laid.set e.toNat true).count true:Int)
    rw[hc,List.length_append,List.length_singleton]
    have:=h.cl;omega
theorem qU{A B:List Int}{x:Int}(hB:x∉B):ol (A++x::B) x=A.length:=by
 unfold ol
 rw[List.reverse_append,List.reverse_cons,List.append_assoc,List.idxOf_append]
 rw[if_neg (by simpa using hB)]
 simp
theorem qg{l:List Int}{x:Int}(hn:l.Nodup)(hx:x∈l):∃A B,l=A++x::B/\x∉A/\x∉B/\ol l x=A.length:=by
 obtain⟨A,B,e⟩:=List.append_of_mem hx
 have hn':=hn
 rw[e,List.nodup_append] at hn'
 have h1:x∉B:=(List.nodup_cons.1 hn'.2.1).1
 have h2:x∉A:=λk=>hn'.2.2 x k x (List.mem_cons_self ..) rfl
 exact⟨A,B,e,h2,h1,by rw[e];exact qU h1⟩
theorem lR(c:Int):∀(l b:List Int),(l.foldl (λb e=>b.set e.toNat c) b).length=b.length
 |[],b=>rfl
 |x::l,b=>by rw[List.foldl_cons,lR c l,List.length_set]
theorem eB.close(h:eB g s path)(he:e∈s.edges)(hp:(fp s.by_ path).Sublist (s.edges.take (ol s.edges e))):eB g (dC s e) path:=by
  obtain⟨A,B,e1,_,_,e2⟩:=qg h.en he
  have hlt:ol s.edges e<s.edges.length:=by rw[e2,e1];simp
  have hs:(s.edges.take (ol s.edges e)).Sublist s.edges:=List.take_sublist _ _
  refine⟨h.l1,h.l2,h.l3,h.l4,h.l5,?_,h.nx,h.pl,h.f0,h.fn,h.by_,hs.nodup h.en,λx hx=>h.el x (hs.subset hx),by show 0<=s.count+1;have:=h.ct;omega,?_,h.pn,h.pr,h.p0,h.pt,hp⟩
  · show(((s.edges.drop (ol s.edges e)).foldl (λb x=>b.set x.toNat s.count) s.block).length:Int)=_
    rw[lR];exact h.l6
  · show s.count+1+((s.edges.take (ol s.edges e)).length:Int)<=(s.laid.count true:Int)
    rw[List.length_take]
    have:=h.cl;omega
theorem eB.lows(h:eB g s path)(x:Int)(k:Nat):eB g {s with low:=s.low.set k x} path:=
  {h with l2:=by show((s.low.set k x).length:Int)=_;rw[List.length_set];exact h.l2}
theorem eB.nexts(h:eB g s path)(u0:0<=u)(u1:u<g.1)(hn:¬gI s.next u=((gI (bt g) u).length:Int)):eB g {s with next:=s.next.set u.toNat (gI s.next u+1)} path:=
  {h with
    l4:=by show((s.next.set u.toNat _).length:Int)=_;rw[List.length_set];exact h.l4
    nx:=λx a b=>by
      show 0<=gI (s.next.set u.toNat (gI s.next u+1)) x/\gI (s.next.set u.toNat (gI s.next u+1)) x<=_
      rw[c5 u0 (by have:=h.l4;omega) a]
      obtain⟨c,d⟩:=h.nx x a b
      split
      · rename_i k
        subst k
        obtain⟨c,d⟩:=h.nx x u0 u1
        omega
      · exact⟨c,d⟩}
theorem nR{b b':List Int}{p:List Int}(h:∀x∈p.tail,gI b x=gI b' x):fp b p=fp b' p:=by
 unfold fp
 exact List.map_congr_left λx hx=>by rw[h x hx]
theorem ky{b:List Int}{p:List Int}(hp:p≠[])(x:Int):fp b (p++[x])=fp b p++[gI b x/2]:=by
 unfold fp
 cases p with
 |nil=>exact absurd rfl hp
 |cons a l=>simp
theorem eB.grow(h:eB g s path)(hp:path≠[])(w0:0<=w)(w1:w<g.1)(hw:gI s.place w=0)(h0:0<=hh)(h1:hh<2*(g.2.length:Int))(ht:bM g hh=w)(he:(fp s.by_ path++[hh/2]).Sublist s.edges):
    eB g (gc {s with by_:=s.by_.set w.toNat hh} w) (path++[w]):=by
  have l1:=h.l1
  have l2:=h.l2
  have l3:=h.l3
  have f0:=h.f0
  have hwp:w∉path:=λk=>(h.pr w k).2 hw
  have gp:∀x,0<=x->gI (s.place.set w.toNat (s.found+1)) x=if x=w then s.found+1 else gI s.place x:=λx a=>c5 w0 (by omega) a
  have gb:∀x,0<=x->gI (s.by_.set w.toNat hh) x=if x=w then hh else gI s.by_ x:=λx a=>c5 w0 (by omega) a
  obtain⟨hi,hg⟩:=rz (l:=s.place) w0 (by omega)
  have hc:=j5 hi (x:=s.found+1) (by rw[<-hg];exact hw) (by omega)
  refine⟨by show((s.place.set _ _).length:Int)=_;rw[List.length_set];exact l1,by show((s.low.set _ _).length:Int)=_;rw[List.length_set];exact l2,by show((s.by_.set _ _).length:Int)=_;rw[List.length_set];exact l3,h.l4,h.l5,h.l6,h.nx,λx a b=>?_,by show 0<=s.found+1;omega,?_,λx a b=>?_,h.en,h.el,h.ct,h.cl,?_,λx hx=>?_,λx hx=>?_,λx hx=>?_,?_⟩
  · show 0<=gI (s.place.set w.toNat (s.found+1)) x/\gI (s.place.set w.toNat (s.found+1)) x<=s.found+1
    rw[gp x a]
    have:=h.pl x a b
    split<;>omega
  · show s.found+1+((s.place.set w.toNat (s.found+1)).count 0:Int)=g.1
    have:=h.fn;omega
  · show gI (s.by_.set w.toNat hh) x= -1\/(0<=gI (s.by_.set w.toNat hh) x/\gI (s.by_.set w.toNat hh) x<_)/\bM g (gI (s.by_.set w.toNat hh) x)=x/\gI (s.place.set w.toNat (s.found+1)) x≠0
    rw[gb x a,gp x a]
    by_cases k:x=w
    · rw[if_pos k,if_pos k]
      exact .inr ⟨⟨h0,h1⟩,by rw[ht,k],by omega⟩
    · rw[if_neg k,if_neg k];exact h.by_ x a b
  · rw[List.nodup_append]
    exact⟨h.pn,by simp,λa ha b hb=>by rw[List.mem_singleton.1 hb];exact λk=>hwp (by rw[<-k];exact ha)⟩
  · show(0<=x/\x<g.1)/\gI (s.place.set w.toNat (s.found+1)) x≠0
    rcases List.mem_append.1 hx with k|k
    · obtain⟨a,b⟩:=h.pr x k
      refine⟨a,?_⟩
      rw[gp x a.1];split
      · omega
      · exact b
    · rw[List.mem_singleton.1 k]
      exact⟨⟨w0,w1⟩,by rw[gp w w0,if_pos rfl];omega⟩
  · show gI (s.by_.set w.toNat hh) x= -1
    cases hpe:path with
    |nil=>exact absurd hpe hp
    |cons a l=>
      rw[hpe] at hx
      have hxa:a=x:=by simpa using hx
      have hxp:x∈path:=by rw[hpe,<-hxa];exact List.mem_cons_self ..
      rw[gb x (h.pr x hxp).1.1,if_neg (λk=>hwp (by rw[<-k];exact hxp))]
      exact h.p0 x (by rw[hpe,hxa];rfl)
  · show 0<=gI (s.by_.set w.toNat hh) x
    have hx2:x∈path.tail\/x=w:=by
      cases hpe:path with
      |nil=>exact absurd hpe hp
      |cons a l=>
        rw[hpe] at hx
        simpa using hx
    rcases hx2 with k|k
    · have hxp:x∈path:=List.mem_of_mem_tail k
      rw[gb x (h.pr x hxp).1.1,if_neg (λj=>hwp (by rw[<-j];exact hxp))]
      exact h.pt x k
    · rw[k,gb w w0,if_pos rfl];exact h0
  · show(fp (s.by_.set w.toNat hh) (path++[w])).Sublist s.edges
    rw[ky hp,gb w w0,if_pos rfl,nR (b':=s.by_) (λx hx=>?_)]
    · exact he
    · have hxp:x∈path:=List.mem_of_mem_tail hx
      rw[gb x (h.pr x hxp).1.1,if_neg (λj=>hwp (by rw[<-j];exact hxp))]
theorem eB.first(h:eB g s [])(v0:0<=v)(v1:v<g.1)(hv:gI s.place v=0):eB g (gc s v) [v]:=by
  have l1:=h.l1
  have l2:=h.l2
  have f0:=h.f0
  have gp:∀x,0<=x->gI (s.place.set v.toNat (s.found+1)) x=if x=v then s.found+1 else gI s.place x:=λx a=>c5 v0 (by omega) a
  obtain⟨hi,hg⟩:=rz (l:=s.place) v0 (by omega)
  have hc:=j5 hi (x:=s.found+1) (by rw[<-hg];exact hv) (by omega)
  refine⟨by show((s.place.set _ _).length:Int)=_;rw[List.length_set];exact l1,by show((s.low.set _ _).length:Int)=_;rw[List.length_set];exact l2,h.l3,h.l4,h.l5,h.l6,h.nx,λx a b=>?_,by show 0<=s.found+1;omega,?_,λx a b=>?_,h.en,h.el,h.ct,h.cl,by simp,λx hx=>?_,λx hx=>?_,λx hx=>absurd hx List.not_mem_nil,List.nil_sublist _⟩
  · show 0<=gI (s.place.set v.toNat (s.found+1)) x/\gI (s.place.set v.toNat (s.found+1)) x<=s.found+1
    rw[gp x a]
    have:=h.pl x a b
    split<;>omega
  · show s.found+1+((s.place.set v.toNat (s.found+1)).count 0:Int)=g.1
    have:=h.fn;omega
  · show gI s.by_ x= -1\/(0<=gI s.by_ x/\gI s.by_ x<_)/\bM g (gI s.by_ x)=x/\gI (s.place.set v.toNat (s.found+1)) x≠0
    rcases h.by_ x a b with k|⟨k1,k2,k3⟩
    · exact .inl k
    · refine .inr ⟨k1,k2,?_⟩
      rw[gp x a];split
      · omega
      · exact k3
  · rw[List.mem_singleton.1 hx]
    exact⟨⟨v0,v1⟩,by show gI (s.place.set v.toNat (s.found+1)) v≠0;rw[gp v v0,if_pos rfl];omega⟩
  · have:v=x:=by simpa using hx
    rw[<-this]
    rcases h.by_ v v0 v1 with k|⟨_,_,k⟩
    · exact k
    · exact absurd hv k
theorem iF(hp:path≠[]):path=path.dropLast++[gI path ((path.length:Int)-1)]:=by
 have e:gI path ((path.length:Int)-1)=path.getLast hp:=by
   have h:0<path.length:=List.length_pos_iff.2 hp
   have e1:((path.length:Int)-1).toNat=path.length-1:=by omega
   have h2:path.length-1<path.length:=by omega
   unfold gI
   rw[e1,List.getLast_eq_getElem,List.getD_eq_getElem?_getD,List.getElem?_eq_getElem h2]
   rfl
 rw[e];exact(List.dropLast_concat_getLast hp).symm
theorem eB.drop(h:eB g s path):eB g s path.dropLast:=by
  have hs:(path.dropLast).Sublist path:=List.dropLast_sublist _
  have ht:(path.dropLast.tail).Sublist path.tail:=hs.tail
  refine {h with pn:=hs.nodup h.pn,pr:=λv hv=>h.pr v (hs.subset hv),p0:=λv hv=>h.p0 v ?_,pt:=λv hv=>h.pt v (ht.subset hv),pe:=?_}
  · cases hp:path with
    |nil=>rw[hp] at hv;simp at hv
    |cons a l=>
      rw[hp] at hv
      cases l with
      |nil=>simp at hv
      |cons b l=>simpa using hv
  · unfold fp
    exact(ht.map _).trans h.pe
theorem ud{X A B:List Int}{x:Int}(h:(X++[x]).Sublist (A++x::B))(hA:x∉A)(hB:x∉B):X.Sublist A:=by
 obtain⟨l1,l2,e,h1,h2⟩:=List.sublist_append_iff.1 h
 by_cases hl2:l2=[]
 · subst hl2
   rw[List.append_nil] at e
   exact absurd (h1.subset (by rw[<-e];simp)) hA
 · obtain⟨l,y,rfl⟩:∃l y,l2=l++[y]:=⟨l2.dropLast,l2.getLast hl2,(List.dropLast_concat_getLast hl2).symm⟩
   have e2:X++[x]=(l1++l)++[y]:=by rw[e,List.append_assoc]
   obtain⟨e3,e4⟩:=List.append_inj' e2 rfl
   have ey:y=x:=by simpa using e4.symm
   subst ey
   cases l with
   |nil=>rw[e3,List.append_nil];exact h1
   |cons z l=>
     exfalso
     rw[List.cons_append] at h2
     rcases List.sublist_cons_iff.1 h2 with k|⟨r,k1,k2⟩
     · exact hB (k.subset (by simp))
     · have:r=l++[y]:=by
         injection k1 with _ q
         exact q.symm
       rw[this] at k2
       exact hB (k2.subset (by simp))
theorem eB.top(h:eB g s path)(hp:path≠[])(hv:v=gI path ((path.length:Int)-1))(hb:¬gI s.by_ v<0):gI s.by_ v/2∈s.edges/\(fp s.by_ path.dropLast).Sublist (s.edges.take (ol s.edges (gI s.by_ v/2))):=by
  have e0:=iF hp
  rw[<-hv] at e0
  have hd:path.dropLast≠[]:=by
    intro k
    rw[k] at e0
    have:=h.p0 v (by rw[e0];rfl)
    omega
  have pe:=h.pe
  rw[e0,ky hd] at pe
  have hm:gI s.by_ v/2∈s.edges:=pe.subset (by simp)
  obtain⟨A,B,e1,hA,hB,e2⟩:=qg h.en hm
  refine⟨hm,?_⟩
  have:s.edges.take (ol s.edges (gI s.by_ v/2))=A:=by
    rw[e2]
    conv=>lhs;rw[e1]
    simp
  rw[this]
  rw[e1] at pe
  exact ud pe hA hB
theorem eB.leave(hm:b7 g)(h:eB g s path)(hp:path≠[])(hv:v=gI path ((path.length:Int)-1)):eB g (dA g s v) path.dropLast:=by
 unfold dA
 by_cases c:gI s.by_ v<0
 · rw[if_pos c];exact h.drop
 · rw[if_neg c]
   obtain⟨h1,h2⟩:=h.top hp hv c
   simp only
   have hl:=h.lows (min (gI s.low (aI g (gI s.by_ v))) (gI s.low v)) (aI g (gI s.by_ v)).toNat
   split
   · exact hl.drop.close (s:={s with low:=s.low.set (aI g (gI s.by_ v)).toNat (min (gI s.low (aI g (gI s.by_ v))) (gI s.low v))}) h1 h2
   · exact hl.drop
theorem eB.take(hm:b7 g)(h:eB g s path)(hp:path≠[])(h0:0<=hh)(h1:hh<2*(g.2.length:Int)):eB g (dP g s v hh).1 (if(dP g s v hh).2.2=true then path++[(dP g s v hh).2.1] else path):=by
 have ht:=gX hm h0 h1
 unfold dP
 by_cases c:gI s.laid (hh/2)=true
 · rw[if_pos c];exact h
 · rw[if_neg c]
   obtain⟨hl,hn⟩:=h.lay (e:=hh/2) (by omega) (by omega) c
   by_cases c2:bM g hh=v
   · rw[if_pos c2]
     show eB g (dC (hZ s (hh/2)) (hh/2)) path
     refine hl.close (by show hh/2∈s.edges++[hh/2];simp) ?_
     have e:ol (s.edges++[hh/2]) (hh/2)=s.edges.length:=qU (A:=s.edges) (B:=[]) List.not_mem_nil
     show(fp s.by_ path).Sublist ((s.edges++[hh/2]).take (ol (s.edges++[hh/2]) (hh/2)))
     rw[e,List.take_left']
     · exact h.pe
     · rfl
   · rw[if_neg c2]
     by_cases c3:gI s.place (bM g hh)=0
     · rw[if_pos c3]
       show eB g (gc {hZ s (hh/2) with by_:=s.by_.set (bM g hh).toNat hh} (bM g hh)) (path++[bM g hh])
       exact hl.grow hp ht.1 ht.2 c3 h0 h1 rfl (h.pe.append (List.Sublist.refl _))
     · rw[if_neg c3]
       show eB g {hZ s (hh/2) with low:=s.low.set v.toNat (min (gI s.low v) (gI s.place (bM g hh)))} path
       exact hl.lows _ _
theorem eB.step(hm:b7 g)(h:eB g s path)(hp:path≠[])(hu:u=gI path ((path.length:Int)-1)):eB g (dp g s path u).1 (dp g s path u).2:=by
 have hup:u∈path:=by
   have:=iF hp
   rw[<-hu] at this
   rw[this];simp
 obtain⟨⟨u0,u1⟩,_⟩:=h.pr u hup
 unfold dp
 by_cases c:gI s.next u=((gI (bt g) u).length:Int)
 · rw[if_pos c];exact h.leave hm hp hu
 · rw[if_neg c]
   obtain⟨n0,n1⟩:=h.nx u u0 u1
   have hin:gI (gI (bt g) u) (gI s.next u)∈gI (bt g) u:=bv n0 (by omega)
   rw[gL u0 u1] at hin
   have ho:=(eZ hin).1
   rw[<-gL u0 u1] at ho
   exact(h.nexts u0 u1 c).take hm hp ho.1 ho.2
end TL
/-
  TlBlk2: the walk that finds blocks: it ends; all of it.
  By an AI agent.
-/
set_option linter.all false
namespace TL
variable{g:bh}{s:Bs}{path:List Int}{e v w u hh:Int}
theorem oP{f f':Int->Nat}{u:Int}:∀{l:List Int},l.Nodup->u∈l->(∀x∈l,x≠u->f x=f' x)->f u=f' u+1->(l.map f).sum=(l.map f').sum+1
 |[],_,hu,_,_=>absurd hu List.not_mem_nil
 |a::l,hn,hu,hx,he=>by
   have hn':=List.nodup_cons.1 hn
   simp only[List.map_cons,List.sum_cons]
   by_cases c:a=u
   · subst c
     have:l.map f=l.map f':=List.map_congr_left λx hxl=>hx x (List.mem_cons_of_mem _ hxl) (λk=>hn'.1 (by rw[<-k];exact hxl))
     rw[this,he];omega
   · have h2:=oP hn'.2 ((List.mem_cons.1 hu).resolve_left (λk=>c k.symm)) (λx hxl=>hx x (List.mem_cons_of_mem _ hxl)) he
     rw[h2,hx a (List.mem_cons_self ..) c];omega
theorem su(h:eB g s path)(u0:0<=u)(u1:u<g.1)(hn:¬gI s.next u=((gI (bt g) u).length:Int))(p:List Int):bW g s p=bW g {s with next:=s.next.set u.toNat (gI s.next u+1)} p+2:=by
 have e1:bW g {s with next:=s.next.set u.toNat (gI s.next u+1)} p=2*(((bG g.1.toNat).map λv=>((gI (bt g) v).length-(gI (s.next.set u.toNat (gI s.next u+1)) v).toNat)).sum)+p.length:=rfl
 rw[e1]
 unfold bW
 have hl:=h.l4
 obtain⟨n0,n1⟩:=h.nx u u0 u1
 have:=oP (f:=λv=>(gI (bt g) v).length-(gI s.next v).toNat) (f':=λv=>(gI (bt g) v).length-(gI (s.next.set u.toNat (gI s.next u+1)) v).toNat) (u:=u) (ea g.1.toNat) (cw.2 ⟨u0,by omega⟩) (λx hx hxu=>by
   show _=(gI (bt g) x).length-(gI (s.next.set u.toNat (gI s.next u+1)) x).toNat
   rw[c5 u0 (by omega) (cw.1 hx).1,if_neg hxu]) (by
   show(gI (bt g) u).length-(gI s.next u).toNat=(gI (bt g) u).length-(gI (s.next.set u.toNat (gI s.next u+1)) u).toNat+1
   rw[c5 u0 (by omega) u0,if_pos rfl]
   omega)
 rw[this];omega
theorem j9:(dA g s v).next=s.next:=by
 unfold dA
 split
 · rfl
 · simp only;split<;>rfl
theorem sQ:(dP g s v hh).1.next=s.next:=by
 unfold dP
 split
 · rfl
 · split
   · rfl
   · split<;>rfl
theorem lk{s':Bs}(h:s'.next=s.next)(p:List Int):bW g s' p=bW g s p:=by unfold bW;rw[h]
theorem kr(h:eB g s path)(hp:path≠[])(hu:u=gI path ((path.length:Int)-1)):bW g (dp g s path u).1 (dp g s path u).2<bW g s path:=by
 have hup:u∈path:=by
   have:=iF hp
   rw[<-hu] at this
   rw[this];simp
 obtain⟨⟨u0,u1⟩,_⟩:=h.pr u hup
 have hl:0<path.length:=List.length_pos_iff.2 hp
 unfold dp
 by_cases c:gI s.next u=((gI (bt g) u).length:Int)
 · rw[if_pos c]
   show bW g (dA g s u) path.dropLast<_
   rw[lk j9]
   unfold bW
   rw[List.length_dropLast];omega
 · rw[if_neg c]
   simp only
   rw[lk sQ]
   have h2:=su h u0 u1 c path
   have h3:∀p:List Int,p.length<=path.length+1->bW g {s with next:=s.next.set u.toNat (gI s.next u+1)} p<=bW g {s with next:=s.next.set u.toNat (gI s.next u+1)} path+1:=λp hp=>by unfold bW;omega
   have h4:=h3 (if(dP g {s with next:=s.next.set u.toNat (gI s.next u+1)} u (gI (gI (bt g) u) (gI s.next u))).2.2=true then path++[(dP g {s with next:=s.next.set u.toNat (gI s.next u+1)} u (gI (gI (bt g) u) (gI s.next u))).2.1] else path) (by split<;>simp)
   omega
structure fU(g:bh)(R s:Bs)(path:List Int):Prop where
  i:eB g s path
  res:∃f,bW g s path<=f/\td g f s path=R
theorem fU.start(h:eB g s [])(v0:0<=v)(v1:v<g.1)(hv:gI s.place v=0):fU g (fM g s v) (gc s v) [v]:=⟨h.first v0 v1 hv,_,Nat.le_refl _,rfl⟩
theorem fU.step(hm:b7 g){R:Bs}(h:fU g R s path)(hp:path≠[])(hu:u=gI path ((path.length:Int)-1)):fU g R (dp g s path u).1 (dp g s path u).2/\bW g (dp g s path u).1 (dp g s path u).2<bW g s path:=by
 have hl:=kr h.i hp hu
 refine⟨⟨h.i.step hm hp hu,?_⟩,hl⟩
 obtain⟨f,f1,f2⟩:=h.res
 cases f with
 |zero=>omega
 |succ f=>
   refine⟨f,by omega,?_⟩
   unfold td at f2
   rw[if_neg hp,<-hu] at f2
   exact f2
theorem fU.done{R:Bs}(h:fU g R s []):s=R:=by
 obtain⟨f,_,e⟩:=h.res
 rw[<-e]
 cases f with
 |zero=>rfl
 |succ f=>unfold td;rw[if_pos rfl]
theorem yR(hm:b7 g):∀(f:Nat) (s:Bs) (path:List Int),eB g s path->bW g s path<=f->eB g (td g f s path) []
 |0,s,path,h,hf=>by
   have:path=[]:=List.length_eq_zero_iff.1 (by unfold bW at hf;omega)
   subst this
   exact h
 |f+1,s,path,h,hf=>by
   unfold td
   by_cases c:path=[]
   · rw[if_pos c];rw[c] at h;exact h
   · rw[if_neg c]
     have:=kr h c rfl
     exact yR hm f _ _ (h.step hm c rfl) (by omega)
theorem y8(hm:b7 g)(h:eB g s [])(v0:0<=v)(v1:v<g.1)(hv:gI s.place v=0):eB g (fM g s v) []:=yR hm _ _ _ (h.first v0 v1 hv) (Nat.le_refl _)
theorem iL(g:bh)(k:Nat):dR g (k+1)=if gI (dR g k).place (k:Int)=0 then fM g (dR g k) (k:Int) else dR g k:=by
 unfold dR
 rw[cV,List.foldl_append];rfl
theorem xH(hm:b7 g):∀k:Nat,(k:Int)<=g.1->eB g (dR g k) []
 |0,_=>eB.start hm
 |k+1,h=>by
   have ih:=xH hm k (by omega)
   rw[iL]
   split
   · exact y8 hm ih (by omega) (by omega) ‹_›
   · exact ih
end TL
/-
  TlWayH: From with a heap: what holds while it runs.
  By an AI agent.
-/
set_option linter.all false
namespace TL
-- down
-- up
-- all of it
theorem r3{α:Type}[Inhabited α]{n:Nat}{x:α}{v:Int}(h0:0<=v)(h1:v<n):gI (List.replicate n x) v=x:=by
 obtain⟨k,rfl⟩:∃k:Nat,v=(k:Int):=⟨v.toNat,by omega⟩
 have:k<n:=by omega
 simp[gI,this]
end TL
/-
  TlBlk3: blocks by the numbers of their gK edges, cut nodes, bridges: what package block tells; a bridge is alone in its block.
  By an AI agent.
-/
set_option linter.all false
namespace TL
variable{g:bh}{l:List Int}{k:Nat}{b e:Int}
def aO(l:List Int):Nat->List Int×List Int
  |0=>([],[])
  |k+1=>
    let sn:=if gI l (k:Int)∈(aO l k).1 then(aO l k).1 else(aO l k).1++[gI l (k:Int)]
    (sn,(aO l k).2++[((sn.idxOf (gI l (k:Int)):Nat):Int)])
theorem jw(l:List Int):∀k,(aO l k).2.length=k/\(aO l k).1.length<=k
 |0=>⟨rfl,Nat.le_refl _⟩
 |k+1=>by
   obtain⟨a,b⟩:=jw l k
   unfold aO
   refine⟨by simp[a],?_⟩
   simp only
   split
   · omega
   · rw[List.length_append,List.length_singleton];omega
theorem vm(l:List Int)(k:Nat):(aO l k).1.length<=(aO l (k+1)).1.length:=by
 conv=>rhs;unfold aO
 simp only
 split
 · exact Nat.le_refl _
 · rw[List.length_append];omega
theorem rL(l:List Int):∀k,∀x∈(aO l k).2,0<=x/\x<((aO l k).1.length:Int)
 |0,x,hx=>absurd hx List.not_mem_nil
 |k+1,x,hx=>by
   have hg:=vm l k
   have hx2:x∈(aO l k).2++[(((if gI l (k:Int)∈(aO l k).1 then(aO l k).1 else(aO l k).1++[gI l (k:Int)]).idxOf (gI l (k:Int)):Nat):Int)]:=hx
   rcases List.mem_append.1 hx2 with c|c
   · have:=rL l k x c;omega
   · rw[List.mem_singleton.1 c]
     have hm:gI l (k:Int)∈(if gI l (k:Int)∈(aO l k).1 then(aO l k).1 else(aO l k).1++[gI l (k:Int)]):=by
       split
       · assumption
       · simp
     have:=List.idxOf_lt_length_of_mem hm
     refine⟨by omega,?_⟩
     show((_:Nat):Int)<(((if gI l (k:Int)∈(aO l k).1 then(aO l k).1 else(aO l k).1++[gI l (k:Int)]).length:Nat):Int)
     omega
def ua(of:List Int)(g:bh)(s:List Int×List Bool)(h:Int):List Int×List Bool:=
  (s.1.set (aI g h).toNat (gI of (h/2)+1),s.2.set (aI g h).toNat (gI s.2 (aI g h)||(decide (0<gI s.1 (aI g h))&& !decide (gI s.1 (aI g h)=gI of (h/2)+1))))
def f8(of:List Int)(g:bh)(k:Nat):List Int×List Bool:=(bG k).foldl (ua of g) (List.replicate g.1.toNat 0,List.replicate g.1.toNat false)
def iV(g:bh):List Int:=(aO (dR g g.1.toNat).block g.2.length).2
def ji(g:bh):Int:=((aO (dR g g.1.toNat).block g.2.length).1.length:Int)
def kB(g:bh):List Int:=(bG g.1.toNat).filter λv=>gI (f8 (iV g) g (2*g.2.length)).2 v
def cI(g:bh):(List Int×List Int×Int)×Int:=if b7 g then((iV g,kB g,ji g),0) else(([],[],0),1)
theorem rP(g:bh):(iV g).length=g.2.length:=(jw _ _).1
theorem tW(g:bh){i:Int}(h0:0<=i)(h1:i<(g.2.length:Int)):0<=gI (iV g) i/\gI (iV g) i<ji g:=by
 have hl:=rP g
 exact rL _ _ _ (bv (xs:=iV g) h0 (by omega))
end TL
namespace TL
structure rv(l:List Int)(mp:(Int->Int)×List Int)(out:List Int)(k:Nat):Prop where
  dom:mp.2=(aO l k).1
  val:∀b∈mp.2,mp.1 b=((mp.2.idxOf b:Nat):Int)
  eq:out=(aO l k).2++List.replicate (l.length-k) 0
  lo:(out.length:Int)=l.length
variable{l:List Int}{mp:(Int->Int)×List Int}{out:List Int}{k:Nat}
theorem rv.start:rv l (λ_=>0,[]) (List.replicate (Int.toNat (l.length:Int)) 0) 0:=
 ⟨rfl,λb hb=>absurd hb List.not_mem_nil,by simp[aO],by simp⟩
theorem rT{x:Int}(h:out=(aO l k).2++List.replicate (l.length-k) 0)(hk:(k:Int)<l.length):out.set (Int.toNat (k:Int)) x=((aO l k).2++[x])++List.replicate (l.length-(k+1)) 0:=by
 have hl:=(jw l k).1
 rw[h,Int.toNat_natCast,List.set_append_right _ _ (by omega),hl,Nat.sub_self]
 rw[show l.length-k=(l.length-(k+1))+1 by omega,List.replicate_succ]
 simp
theorem rv.old(h:rv l mp out k)(hk:(k:Int)<l.length)(hm:gI l (k:Int)∈mp.2):rv l mp (out.set (Int.toNat (k:Int)) (mp.1 (gI l (k:Int)))) (k+1):=by
 have hd:=h.dom
 have e:aO l (k+1)=((aO l k).1,(aO l k).2++[(((aO l k).1.idxOf (gI l (k:Int)):Nat):Int)]):=by
   conv=>lhs;unfold aO
   simp only[if_pos (show gI l (k:Int)∈(aO l k).1 by rw[<-hd];exact hm)]
 refine⟨by rw[e];exact hd,h.val,?_,by rw[List.length_set];exact h.lo⟩
 rw[rT h.eq hk,e,h.val _ hm,hd]
theorem rv.new(h:rv l mp out k)(hk:(k:Int)<l.length)(hm:¬gI l (k:Int)∈mp.2){mp':(Int->Int)×List Int}{x:Int}(em:mp'=((λq=>if q=gI l (k:Int) then(mp.2.length:Int) else mp.1 q),if gI l (k:Int)∈mp.2 then mp.2 else mp.2++[gI l (k:Int)]))(ex:x=mp'.1 (gI l (k:Int))):
   rv l mp' (out.set (Int.toNat (k:Int)) x) (k+1):=by
 subst em
 have hd:=h.dom
 rw[if_neg hm]
 have e:aO l (k+1)=((aO l k).1++[gI l (k:Int)],(aO l k).2++[((((aO l k).1++[gI l (k:Int)]).idxOf (gI l (k:Int)):Nat):Int)]):=by
   conv=>lhs;unfold aO
   simp only[if_neg (show¬gI l (k:Int)∈(aO l k).1 by rw[<-hd];exact hm)]
 have ei:(mp.2++[gI l (k:Int)]).idxOf (gI l (k:Int))=mp.2.length:=by
   rw[List.idxOf_append,if_neg hm];simp
 refine⟨by rw[e,<-hd],λb hb=>?_,?_,by rw[List.length_set];exact h.lo⟩
 · show(if b=gI l (k:Int) then(mp.2.length:Int) else mp.1 b)=(((mp.2++[gI l (k:Int)]).idxOf b:Nat):Int)
   by_cases c:b=gI l (k:Int)
   · rw[if_pos c,c,ei]
   · have hb2:b∈mp.2:=(List.mem_append.1 hb).resolve_right (λz=>c (List.mem_singleton.1 z))
     rw[if_neg c,List.idxOf_append,if_pos hb2];exact h.val b hb2
 · rw[rT h.eq hk,e,ex]
   show _=_
   rw[<-hd,ei]
   simp
theorem rv.done(h:rv l mp out k)(hk:k=l.length):out=(aO l l.length).2/\(mp.2.length:Int)=((aO l l.length).1.length:Int):=by
 subst hk
 have:=h.eq
 rw[Nat.sub_self,List.replicate_zero,List.append_nil] at this
 exact⟨this,by rw[h.dom]⟩
end TL
/-
  TlWayT: the way that leads to a node, from how the nodes were reached (package path's To), as the document has it.
  By an AI agent.
-/
set_option linter.all false
namespace TL
def tS(fs:FS)(g:bh):Prop:=b7 g/\(fs.1.length:Int)=g.1/\(fs.2.length:Int)=g.1
instance (fs:FS)(g:bh):Decidable (tS fs g):=by unfold tS;infer_instance
variable{fs:FS}{g:bh}{t v:Int}{l:List Int}{n:Nat}
variable{by_:List Int}
end TL
/-
  TlDij: what the document's From comes to: each length is that of the way found; no half-edge of a reached node leads nearer.
  By an AI agent.
-/
set_option linter.all false
namespace TL
abbrev hf(g:bh)(h:Int):Prop:=0<=h/\h<2*(g.2.length:Int)
abbrev nd(g:bh)(v:Int):Prop:=0<=v/\v<g.1
variable{g:bh}{ws:List Nat}{s p:Int}{far:List Nat}{by_:List Int}{se:List Bool}{rk:Int->Nat}{n:Nat}{done:List Int}
end TL
/-
  TlOpen: arguments opened: what a law's reader says of a slice is what a walk wants of it.
  By an AI agent.
-/
namespace TL
open Go Go.Proofs Go.ChangeShapes Go.WideShapes Go.Joins Go.Deep
structure qf{H:Type}(f:DataW H->Nat):Prop where
 slice:∀l s:List (DataW H),l.length<=f (.slice l s)
 elem:∀l s:List (DataW H),∀d∈l,f d<=f (.slice l s)
 part:∀l:List (DataW H),∀d∈l,f d<=f (.agg l)
def xa(α:Type)[Rp α](P:Program)(t:TypeId):Prop:=
  ∀{H:Type} (enc:TypeId×Value->H) (w:World) (fuel:Nat) (cs:List Value) (x:DataW H×List MemPlace),DataW.trod enc P w 0 (λ_=>true) true fuel t cs=some x->∃y:α,Rp.rep c0 any w cs y
theorem r4{P:Program}{t:TypeId}(ht:P.underlying t=some (.int .i64)):xa Int P t:=by
 intro H enc w fuel cs x h
 obtain⟨n,rfl,_,_⟩:=DataW.trod_int ht h
 exact⟨n,rfl⟩
theorem oD{H:Type}{enc:TypeId×Value->H}{P:Program}{w:World}{base:Nat}{spare:Nat->Bool}{held:Bool}{t e:TypeId}{fuel:Nat}{cs:List Value}{x:DataW H×List MemPlace}(ht:P.underlying t=some (.array 2 e))(hce:P.cellsOf e=1)(hct:P.cellsOf t=2)
   (h:DataW.trod enc P w base spare held fuel t cs=some x):
   ∃v0 v1 y0 y1 n,cs=[v0,v1]/\x=(.agg [y0.1,y1.1],y0.2++y1.2)/\DataW.trod enc P w base spare held n e [v0]=some y0/\DataW.trod enc P w base spare held n e [v1]=some y1:=by
 cases fuel with
 |zero=>simp[DataW.trod] at h
 |succ n=>
   unfold DataW.trod at h
   rw[ht] at h
   have r2:List.range 2=[0,1]:=rfl
   simp only[hct] at h
   by_cases hl:cs.length=2
   · rw[if_pos hl] at h
     match cs,hl with
     |[v0,v1],_=>
       simp[r2,hce] at h
       cases h0:DataW.trod enc P w base spare held n e [v0] with
       |none=>simp[h0] at h
       |some y0=>
         cases h1:DataW.trod enc P w base spare held n e [v1] with
         |none=>simp[h0,h1] at h
         |some y1=>
           simp[h0,h1] at h
           exact⟨v0,v1,y0,y1,n,rfl,h.symm,h0,h1⟩
   · rw[if_neg hl] at h;cases h
theorem wq{P:Program}{t e:TypeId}(ht:P.underlying t=some (.array 2 e))(he:P.underlying e=some (.int .i64))(hce:P.cellsOf e=1)(hct:P.cellsOf t=2):xa (Int×Int) P t:=by
 intro H enc w fuel cs x h
 obtain⟨v0,v1,y0,y1,n,rfl,_,h0,h1⟩:=oD ht hce hct h
 obtain⟨a,ha⟩:=r4 he enc w n [v0] y0 h0
 obtain⟨b,hb⟩:=r4 he enc w n [v1] y1 h1
 exact⟨(a,b),[v0],[v1],rfl,ha,hb⟩
theorem sB{α:Type}[Rp α][Inhabited α]{P:Program}{t e:TypeId}(ht:P.underlying t=some (.slice e))(hc:P.cellsOf e=Rp.sz α)(hz:0<Rp.sz α)(he:xa α P e)
    {H:Type}{enc:TypeId×Value->H}{w:World}{f:DataW H->Nat}(hf:qf f){fuel:Nat}{v:Value}{x:DataW H×List MemPlace}
    (hs:∀a len cap,v= .slice (some a) len cap->a.spot=none)(h:DataW.trod enc P w 0 (λ_=>true) true fuel t [v]=some x)(hb:f x.1<=1048576):∃xs:List α,Ro w v xs:=by
  rcases Deep.open_slice ht h with⟨h0,_⟩|⟨a,len,cap,m,n,D,Pl,h0,_,hlc,_,hm,rfl,hx⟩
  · obtain rfl:v= .slice none 0 0:=by simpa using h0
    exact⟨[],.inl ⟨⟨_,rfl⟩,rfl⟩⟩
  · obtain rfl:v= .slice (some a) len cap:=by simpa using h0
    have hsp:=hs a len cap rfl
    obtain⟨b,off,spot⟩:=a
    obtain rfl:spot=none:=hsp
    simp only[if_true] at hm
    subst hm
    obtain⟨Y,hY⟩:=Deep.choose_lt (α:=α) (n:=len) (p:=λi y=>∃cs,(∀j,j<Rp.sz α->w.cell? ⟨b,off+i*Rp.sz α+j,none⟩=cs[j]?)/\Rp.rep c0 any w cs y) (λi hi=>by
      obtain⟨cs',h1,h2⟩:=hx i (by omega)
      obtain⟨y,hy⟩:=he enc w n cs' _ h2
      refine⟨y,cs',λj hj=>?_,hy⟩
      obtain⟨_,hl,hcell⟩:=World.cells?_some h1
      have:=hcell j (by omega)
      rw[Deep.add_add,hc] at this
      rw[<-this]
      unfold Addr.add
      by_cases hij:i*Rp.sz α+j=0
      · rw[if_pos hij,Nat.add_assoc,hij];rfl
      · rw[if_neg hij,Nat.add_assoc])
    have hlen:((List.range len).map Y).length=len:=by simp
    have hbound:=Nat.le_trans (hf.slice _ _) hb
    refine⟨(List.range len).map Y,.inr ⟨b,off,m,by rw[hlen],⟨by omega,by simp at hbound;omega⟩,λi y hi=>?_⟩⟩
    have hil:i<len:=by
      have:=(List.getElem?_eq_some_iff.1 hi).1
      omega
    obtain rfl:Y i=y:=by simpa[hil] using hi
    obtain⟨cs,h1,h2⟩:=hY i hil
    refine⟨?_,trivial,cs,h1,h2⟩
    have h3:=h1 0 hz
    have h4:=Rp.len h2
    have h5:0<cs.length:=by omega
    rw[List.getElem?_eq_getElem h5] at h3
    by_cases hbl:b<w.heap.size
    · exact hbl
    · have:w.heap[b]? =none:=Array.getElem?_eq_none (by omega)
      simp[World.cell?,this] at h3
theorem nY{P:Program}{w:World}{base:Nat}{t e:TypeId}{v:Value}(ht:P.underlying t=some (.slice e))(h:Cell.okWide P w .any base t v):∀a len cap,v= .slice (some a) len cap->a.spot=none:=by
 rintro a len cap rfl
 simp only[Cell.okWide,Cell.ok,ht] at h
 exact h.2.2.2.1
theorem xb{α:Type}[Rp α][Inhabited α]{P:Program}{t t0 t1 e:TypeId}{f0 f1:Field}(hs:P.underlying t=some (.struct #[f0,f1]))(hone:oneCellFields P #[f0,f1]=true)(hC:P.cellsOf t=2)(hts:P.cellTypes P.depth t=some [t0,t1])
    (h0:f0.type=t0)(h1:f1.type=t1)(hi:P.underlying t0=some (.int .i64))(ht:P.underlying t1=some (.slice e))(hc:P.cellsOf e=Rp.sz α)(hz:0<Rp.sz α)(he:xa α P e)
    {H:Type}{enc:TypeId×Value->H}{w:World}{f:DataW H->Nat}(hf:qf f){base:Nat}{v:Value}{d:DataW H}{p:List MemPlace}
    (hval:Value.okWide P w .any base t v)(h:DataW.Trod enc P w 0 (λ_=>true) true t v d p)(hb:f d<=1048576):∃(n:Int) (u:Value) (xs:List α),v= .agg #[.int .i64 n,u]/\Ro w u xs:=by
  obtain⟨v0,v1,y0,y1,n,rfl,rfl,rfl,r0,r1⟩:=open_agg2 hs hone hC hval h
  subst h0 h1
  obtain⟨k,hk,_,_⟩:=DataW.trod_int hi r0
  obtain rfl:v0= .int .i64 k:=by simpa using hk
  have hcell:Cell.okWide P w .any base f1.type v1:=by
    simp only[Value.okWide,hs] at hval
    obtain⟨cs,hcs,_,ts,h3,_,h4⟩:=hval
    rw[hts] at h3
    obtain rfl:=Option.some.inj h3
    obtain rfl: #[Value.int .i64 k,v1]=cs:=by simpa using hcs
    obtain⟨u,hu,hk⟩:=h4 1 v1 rfl
    simp at hu
    subst hu
    exact hk
  obtain⟨xs,hx⟩:=sB ht hc hz he hf (nY ht hcell) (x:=y1) r1 (Nat.le_trans (hf.part _ _ (by simp)) hb)
  exact⟨k,v1,xs,rfl,hx⟩
end TL
/-
  TlCyc: lists gone round: what stands behind what; rotations turned, and moved.
  By an AI agent.
-/
set_option linter.all false
namespace TL
def zQ(l:List Int)(h:Int):Int:=gI l ((((l.idxOf h:Nat):Int)+1)%(l.length:Int))
section
variable{g:bh}{r:iN}{to:List Int}
end
end TL
/-
  TlJudge4: directions around a point; a plot turned by a quarter; the example's rotation.
  By an AI agent.
-/
set_option linter.all false
namespace TL
section
variable{u v w:Pt}
end
section
variable{p:mB}{o:Pt}{l:List Int}
end
section
variable{u v:Pt}{i k:Int}
def yN(u:Pt):Prop:=0<=u.1/\0<u.2
instance (u:Pt):Decidable (yN u):=by unfold yN;infer_instance
end
section
variable{o:Pt}{ps:List Pt}
end
end TL
/-
  TlJTr: plots moved as a whole: their flaws.
  By an AI agent.
-/
set_option linter.all false
namespace TL
section
variable{T:Pt->Pt}{D:Pt->Prop}{g:bh}{p:mB}{l a b but:List Pt}{q:Pt}{i k:Nat}
end
section
variable{g:bh}{p:mB}
end
def yK(p:mB):Nat->Int
 |0=>(p.1.length:Int)
 |k+1=>yK p k+((gI p.2 (k:Int)).length:Int)+1
def vO(g:bh)(p:mB):Prop:=yK p p.2.length<=400/\(¬b7 g\/g.1<=30/\(g.2.length:Int)<=40)
instance (g:bh)(p:mB):Decidable (vO g p):=by unfold vO;infer_instance
end TL
namespace TL
section
variable{g:bh}{p:mB}{l r:List Pt}{L:List (List Pt)}{k e:Nat}
end
end TL
namespace TL
section
variable{α:Type}[Inhabited α][DecidableEq α]{a b:List α}{k:Nat}
end
section
variable{g:bh}{p:mB}{n:Int}{e:Nat}
end
end TL
/-
  TlWord: words and bytes in memory (a list of uint64, a list of uint8), and how a statement's argument of them is opened.
  By an AI agent.
-/
set_option linter.all false
namespace TL
open Go Go.Proofs Go.ChangeShapes Go.WideShapes Go.Joins Go.Deep
structure Wd where
  n:Nat
  lt:n<18446744073709551616
instance:Inhabited Wd:=⟨⟨0,by decide⟩⟩
instance:Rp Wd where
 sz:=1
 rep _ _ _ cs x:=cs=[.int .u64 (x.n:Int)]
 len h:=by subst h;rfl
 one h:=by subst h;simp[Value.oneCell']
 tr _ _ h:=h
instance:Fl Wd where
 cells x:=[.int .u64 (x.n:Int)]
 rep_iff:=Iff.rfl
structure Bt where
  n:Nat
  lt:n<256
instance:Inhabited Bt:=⟨⟨0,by decide⟩⟩
instance:Rp Bt where
 sz:=1
 rep _ _ _ cs x:=cs=[.int .u8 (x.n:Int)]
 len h:=by subst h;rfl
 one h:=by subst h;simp[Value.oneCell']
 tr _ _ h:=h
instance:Fl Bt where
 cells x:=[.int .u8 (x.n:Int)]
 rep_iff:=Iff.rfl
end TL
namespace TL
open Go Go.Proofs Go.ChangeShapes Go.WideShapes Go.Joins Go.Deep
end TL
namespace TL
open Go
end TL
/-
  TlDij3: lengths of small whole weights: one way and another compared.
  By an AI agent.
-/
set_option linter.all false
namespace TL
variable{g g1 g2:bh}{ws w1 w2:List Nat}{s s1 s2:Int}{far f1 f2:List Nat}{by_ b1 b2:List Int}{rk r1 r2:Int->Nat}{C:Nat}
def gW(h:Int):Int:=if h%2=0 then h+1 else h-1
theorem dZ{h:Int}(hh:hf g h):hf g (gW h)/\gW h/2=h/2/\aI g (gW h)=bM g h/\bM g (gW h)=aI g h:=by
 have h0:=hh.1
 have h1:=hh.2
 have e1:gW h/2=h/2:=by unfold gW;split<;>omega
 have e2:gW h%2=1-h%2:=by unfold gW;split<;>omega
 refine⟨⟨by unfold gW;split<;>omega,by unfold gW;split<;>omega⟩,e1,?_,?_⟩
 · unfold aI bM;rw[e1,e2]
 · unfold aI bM;rw[e1,e2,show 1-(1-h%2)=h%2 by omega]
end TL
namespace TL
end TL
/-
  TlBlk4: the walk that finds blocks, one way of a step at a time; the loop that looks for an edge on the stack.
  By an AI agent.
-/
set_option linter.all false
namespace TL
variable{g:bh}{R:Bs}{pl lo by_ nx:List Int}{fo:Int}{ed:List Int}{la:List Bool}{bl:List Int}{co:Int}{path:List Int}{u hh:Int}
theorem fU.via{s s':Bs}{path path':List Int}(hm:b7 g)(h:fU g R s path)(hp:0<(path.length:Int))(hu:u=gI path ((path.length:Int)-1))(e:dp g s path u=(s',path')):fU g R s' path'/\bW g s' path'<bW g s path:=by
 have:=h.step hm (λk=>by rw[k] at hp;simp at hp) hu
 rw[e] at this;exact this
abbrev bs(pl lo by_ nx:List Int)(fo:Int)(ed:List Int)(la:List Bool)(bl:List Int)(co:Int):Bs:=⟨pl,lo,by_,nx,fo,ed,la,bl,co⟩
theorem fU.skip(hm:b7 g)(h:fU g R (bs pl lo by_ nx fo ed la bl co) path)(hp:0<(path.length:Int))(hu:u=gI path ((path.length:Int)-1))(hn:¬gI nx u=((gI (bt g) u).length:Int))(eh:gI (gI (bt g) u) (gI nx u)=hh)(hl:gI la (hh/2)=true):
    fU g R (bs pl lo by_ (nx.set u.toNat (gI nx u+1)) fo ed la bl co) path/\bW g (bs pl lo by_ (nx.set u.toNat (gI nx u+1)) fo ed la bl co) path<bW g (bs pl lo by_ nx fo ed la bl co) path:=by
  refine h.via hm hp hu ?_
  unfold dp
  rw[if_neg hn]
  simp only[eh]
  unfold dP
  rw[if_pos hl];rfl
theorem fU.loop(hm:b7 g)(h:fU g R (bs pl lo by_ nx fo ed la bl co) path)(hp:0<(path.length:Int))(hu:u=gI path ((path.length:Int)-1))(hn:¬gI nx u=((gI (bt g) u).length:Int))(eh:gI (gI (bt g) u) (gI nx u)=hh)(hl:¬gI la (hh/2)=true)(hw:bM g hh=u):
    fU g R (dC (bs pl lo by_ (nx.set u.toNat (gI nx u+1)) fo (ed++[hh/2]) (la.set (hh/2).toNat true) bl co) (hh/2)) path/\bW g (dC (bs pl lo by_ (nx.set u.toNat (gI nx u+1)) fo (ed++[hh/2]) (la.set (hh/2).toNat true) bl co) (hh/2)) path<bW g (bs pl lo by_ nx fo ed la bl co) path:=by
  refine h.via hm hp hu ?_
  unfold dp
  rw[if_neg hn]
  simp only[eh]
  unfold dP
  rw[if_neg hl,if_pos hw];rfl
theorem fU.new(hm:b7 g)(h:fU g R (bs pl lo by_ nx fo ed la bl co) path)(hp:0<(path.length:Int))(hu:u=gI path ((path.length:Int)-1))(hn:¬gI nx u=((gI (bt g) u).length:Int))(eh:gI (gI (bt g) u) (gI nx u)=hh)(hl:¬gI la (hh/2)=true){w:Int}(ew:bM g hh=w)(hw:¬w=u)(hz:gI pl w=0):
    fU g R (bs (pl.set w.toNat (fo+1)) (lo.set w.toNat (fo+1)) (by_.set w.toNat hh) (nx.set u.toNat (gI nx u+1)) (fo+1) (ed++[hh/2]) (la.set (hh/2).toNat true) bl co) (path++[w])/\bW g (bs (pl.set w.toNat (fo+1)) (lo.set w.toNat (fo+1)) (by_.set w.toNat hh) (nx.set u.toNat (gI nx u+1)) (fo+1) (ed++[hh/2]) (la.set (hh/2).toNat true) bl co) (path++[w])<bW g (bs pl lo by_ nx fo ed la bl co) path:=by
  subst ew
  refine h.via hm hp hu ?_
  unfold dp
  rw[if_neg hn]
  simp only[eh]
  unfold dP
  rw[if_neg hl,if_neg hw,if_pos hz];rfl
theorem fU.back(hm:b7 g)(h:fU g R (bs pl lo by_ nx fo ed la bl co) path)(hp:0<(path.length:Int))(hu:u=gI path ((path.length:Int)-1))(hn:¬gI nx u=((gI (bt g) u).length:Int))(eh:gI (gI (bt g) u) (gI nx u)=hh)(hl:¬gI la (hh/2)=true){w:Int}(ew:bM g hh=w)(hw:¬w=u)(hz:¬gI pl w=0):
    fU g R (bs pl (lo.set u.toNat (min (gI lo u) (gI pl w))) by_ (nx.set u.toNat (gI nx u+1)) fo (ed++[hh/2]) (la.set (hh/2).toNat true) bl co) path/\bW g (bs pl (lo.set u.toNat (min (gI lo u) (gI pl w))) by_ (nx.set u.toNat (gI nx u+1)) fo (ed++[hh/2]) (la.set (hh/2).toNat true) bl co) path<bW g (bs pl lo by_ nx fo ed la bl co) path:=by
  subst ew
  refine h.via hm hp hu ?_
  unfold dp
  rw[if_neg hn]
  simp only[eh]
  unfold dP
  rw[if_neg hl,if_neg hw,if_neg hz];rfl
theorem fU.off0(hm:b7 g)(h:fU g R (bs pl lo by_ nx fo ed la bl co) path)(hp:0<(path.length:Int))(hu:u=gI path ((path.length:Int)-1))(hn:gI nx u=((gI (bt g) u).length:Int))(hb:gI by_ u<0):
    fU g R (bs pl lo by_ nx fo ed la bl co) path.dropLast/\bW g (bs pl lo by_ nx fo ed la bl co) path.dropLast<bW g (bs pl lo by_ nx fo ed la bl co) path:=by
  refine h.via hm hp hu ?_
  unfold dp
  rw[if_pos hn]
  unfold dA
  rw[if_pos hb]
theorem fU.off1(hm:b7 g)(h:fU g R (bs pl lo by_ nx fo ed la bl co) path)(hp:0<(path.length:Int))(hu:u=gI path ((path.length:Int)-1))(hn:gI nx u=((gI (bt g) u).length:Int))(hb:¬gI by_ u<0){q:Int}(eq:aI g (gI by_ u)=q){lo':List Int}(el:lo'=lo.set q.toNat (min (gI lo q) (gI lo u)))(hc:¬gI pl q<=gI lo' u):
    fU g R (bs pl lo' by_ nx fo ed la bl co) path.dropLast/\bW g (bs pl lo' by_ nx fo ed la bl co) path.dropLast<bW g (bs pl lo by_ nx fo ed la bl co) path:=by
  subst eq el
  refine h.via hm hp hu ?_
  unfold dp
  rw[if_pos hn]
  unfold dA
  rw[if_neg hb]
  simp only
  rw[if_neg hc]
theorem fU.off2(hm:b7 g)(h:fU g R (bs pl lo by_ nx fo ed la bl co) path)(hp:0<(path.length:Int))(hu:u=gI path ((path.length:Int)-1))(hn:gI nx u=((gI (bt g) u).length:Int))(hb:¬gI by_ u<0){q:Int}(eq:aI g (gI by_ u)=q){lo':List Int}(el:lo'=lo.set q.toNat (min (gI lo q) (gI lo u)))(hc:gI pl q<=gI lo' u):
    fU g R (dC (bs pl lo' by_ nx fo ed la bl co) (gI by_ u/2)) path.dropLast/\bW g (dC (bs pl lo' by_ nx fo ed la bl co) (gI by_ u/2)) path.dropLast<bW g (bs pl lo by_ nx fo ed la bl co) path:=by
  subst eq el
  refine h.via hm hp hu ?_
  unfold dp
  rw[if_pos hn]
  unfold dA
  rw[if_neg hb]
  simp only
  rw[if_pos hc]
theorem fU.loop1(hm:b7 g)(h:fU g R (bs pl lo by_ nx fo ed la bl co) path)(hp:0<(path.length:Int))(hu:u=gI path ((path.length:Int)-1))(hn:¬gI nx u=((gI (bt g) u).length:Int))(eh:gI (gI (bt g) u) (gI nx u)=hh)(hl:¬gI la (hh/2)=true)(hw:bM g hh=u){s':Bs}(hc:dC (bs pl lo by_ (nx.set u.toNat (gI nx u+1)) fo (ed++[hh/2]) (la.set (hh/2).toNat true) bl co) (hh/2)=s'):
   fU g R s' path/\bW g s' path<bW g (bs pl lo by_ nx fo ed la bl co) path:=by
 subst hc;exact h.loop hm hp hu hn eh hl hw
theorem fU.off3(hm:b7 g)(h:fU g R (bs pl lo by_ nx fo ed la bl co) path)(hp:0<(path.length:Int))(hu:u=gI path ((path.length:Int)-1))(hn:gI nx u=((gI (bt g) u).length:Int))(hb:¬gI by_ u<0){q:Int}(eq:aI g (gI by_ u)=q){lo':List Int}(el:lo'=lo.set q.toNat (min (gI lo q) (gI lo u)))(hc:gI pl q<=gI lo' u){s':Bs}(hcl:dC (bs pl lo' by_ nx fo ed la bl co) (gI by_ u/2)=s'):
   fU g R s' path.dropLast/\bW g s' path.dropLast<bW g (bs pl lo by_ nx fo ed la bl co) path:=by
 subst hcl;exact h.off2 hm hp hu hn hb eq el hc
structure rd(ed:List Int)(x at_:Int):Prop where
  mem:x∈ed
  nd:ed.Nodup
  lo:0<=at_
  hi:at_<ed.length
  no:∀j:Int,at_<j->j<ed.length->gI ed j≠x
theorem rd.start{x:Int}(hn:ed.Nodup)(hx:x∈ed):rd ed x ((ed.length:Int)-1):=by
 have:0<ed.length:=List.length_pos_of_mem hx
 exact⟨hx,hn,by omega,by omega,λj a b=>by omega⟩
theorem rd.next{x at_:Int}(h:rd ed x at_)(hne:¬gI ed at_=x):rd ed x (at_-1)/\1<=at_:=by
 have h1:=h.lo
 have h2:=h.hi
 have hp:1<=at_:=by
   by_cases c:1<=at_
   · exact c
   · exfalso
     obtain⟨i,hi,e⟩:=List.mem_iff_getElem.1 h.mem
     have e2:gI ed (i:Int)=x:=by rw[<-e];simp[gI,hi]
     by_cases k:(i:Int)=at_
     · rw[k] at e2;exact hne e2
     · exact h.no i (by omega) (by omega) e2
 refine⟨⟨h.mem,h.nd,by omega,by omega,λj a b=>?_⟩,hp⟩
 by_cases k:j=at_
 · rw[k];exact hne
 · exact h.no j (by omega) b
theorem rd.done{x at_:Int}(h:rd ed x at_)(he:gI ed at_=x):at_=(ol ed x:Int):=by
 obtain⟨A,B,e1,hA,hB,e2⟩:=qg h.nd h.mem
 have h1:=h.lo
 have h2:=h.hi
 rw[e2]
 have hl:ed.length=A.length+1+B.length:=by rw[e1];simp;omega
 have hA2:gI ed (A.length:Int)=x:=by rw[e1];simp[gI]
 rcases Int.lt_trichotomy at_ A.length with c|c|c
 · exact absurd hA2 (h.no _ c (by omega))
 · exact c
 · exfalso
   obtain⟨k,rfl⟩:∃k:Nat,at_=k:=⟨at_.toNat,by omega⟩
   have hk:k<ed.length:=by omega
   have e3:gI ed (k:Int)=ed[k]:=by simp[gI,hk]
   have:ed[k]∈B:=by
     have hk2:k-(A.length+1)<B.length:=by omega
     have e4:ed[k]=B[k-(A.length+1)]:=by
       have:ed[k]? =B[k-(A.length+1)]? :=by
         rw[e1,List.getElem?_append_right (by omega),List.getElem?_cons,if_neg (by omega)]
         congr 1
       rw[List.getElem?_eq_getElem hk,List.getElem?_eq_getElem hk2] at this
       exact Option.some.inj this
     rw[e4];exact List.getElem_mem hk2
   rw[e3] at he
   rw[he] at this
   exact hB this
end TL
namespace TL
open Go
theorem tH(n:Nat):n^^^1=if n%2=0 then n+1 else n-1:=by
 have h1:(n^^^1)%2=(n+1)%2:=by
   have:= @Nat.xor_mod_two_eq_one n 1
   by_cases c:(n^^^1)%2=1
   · have:=this.1 c;omega
   · have h3:¬¬(n%2=1↔1%2=1):=λk=>c (this.2 k)
     have h4:=Decidable.not_not.1 h3
     have:n%2=1:=h4.2 rfl
     omega
 have h2:(n^^^1)/2=n/2:=by rw[Nat.xor_div_two];simp
 split<;>omega
theorem s9{m:Int}(t:TypeId)(h0:0<=m)(h1:m<4611686018427387904):binOp .xor t (.int .i64 m) (.int .i64 1)=pure (.int .i64 (gW m)):=by
 obtain⟨n,rfl⟩:=Int.eq_ofNat_of_zero_le h0
 have hn:n<4611686018427387904:=by omega
 have e:(BitVec.ofInt 64 (n:Int)^^^BitVec.ofInt 64 1).toNat=n^^^1:=by
   rw[BitVec.toNat_xor]
   have e1:(BitVec.ofInt 64 (n:Int)).toNat=n:=by
     rw[BitVec.toNat_ofInt];omega
   have e2:(BitVec.ofInt 64 (1:Int)).toNat=1:=by decide
   rw[e1,e2]
 have h3:(((n^^^1:Nat)):Int)=gW (n:Int):=by
   rw[tH];unfold gW
   split<;>split<;>omega
 show(pure (Value.int .i64 (IntKind.i64.wrap ((BitVec.ofInt 64 (n:Int)^^^BitVec.ofInt 64 1).toNat:Int))):Sem Value)=_
 rw[e,h3,jC]
 unfold gW;unfold wF;split<;>omega
end TL
namespace TL
variable{g:bh}{s:Bs}{path:List Int}
theorem v7(h:eB g s path):0<=s.found/\s.found<=g.1/\0<=s.count/\s.count+(s.edges.length:Int)<=(g.2.length:Int):=by
  have h1:=h.fn
  have h2:=h.cl
  have h3:s.laid.count true<=s.laid.length:=List.count_le_length
  have h4:=h.l5
  exact⟨h.f0,by omega,h.ct,by omega⟩
theorem ww{l:List Int}{n q:Nat}(h:l=List.replicate q (-1)++List.replicate (n-q) 0)(hq:q<=n):l.length=n:=by
 rw[h];simp;omega
theorem vC{l:List Int}{n q:Nat}(h:l=List.replicate q (-1)++List.replicate (n-q) 0)(hq:q<n):l.set (Int.toNat (q:Int)) (-1)=List.replicate (q+1) (-1)++List.replicate (n-(q+1)) 0:=by
 rw[h,Int.toNat_natCast,List.set_append_right _ _ (by simp)]
 simp only[List.length_replicate,Nat.sub_self]
 rw[show n-q=(n-(q+1))+1 by omega,List.replicate_succ,List.set_cons_zero,List.replicate_succ',List.append_assoc]
 rfl
def ta(L bl:List Int)(co:Int)(k:Nat):List Int:=(L.take k).foldl (λb x=>b.set x.toNat co) bl
theorem xF{L bl:List Int}{co:Int}:bl=ta L bl co 0:=rfl
theorem rA{L bl b:List Int}{co:Int}{k:Nat}(h:b=ta L bl co k):b.length=bl.length:=by rw[h];unfold ta;exact lR _ _ _
theorem oV{L bl b:List Int}{co:Int}{k:Nat}(h:b=ta L bl co k)(hk:(k:Int)<L.length):b.set (gI L (k:Int)).toNat co=ta L bl co (k+1):=by
 have hk':k<L.length:=by omega
 unfold ta at*
 rw[List.take_succ_eq_append_getElem hk',List.foldl_append,<-h]
 have e:gI L (k:Int)=L[k]:=by simp[gI,hk']
 rw[e];rfl
theorem js{pl lo by_ nx:List Int}{fo:Int}{ed:List Int}{la:List Bool}{bl:List Int}{co x at_:Int}{bk:List Int}{k:Nat}(ha:rd ed x at_)(he:gI ed at_=x)(hb:bk=ta (List.drop (Int.toNat at_) (List.take (Int.toNat (ed.length:Int)) ed)) bl co k)
   (hk:¬(k:Int)<((List.drop (Int.toNat at_) (List.take (Int.toNat (ed.length:Int)) ed)).length:Int))(hk2:(k:Int)<=((List.drop (Int.toNat at_) (List.take (Int.toNat (ed.length:Int)) ed)).length:Int)):
   dC (bs pl lo by_ nx fo ed la bl co) x=bs pl lo by_ nx fo (ed.take (Int.toNat at_)) la bk (co+1):=by
 have e:=ha.done he
 have el:List.drop (Int.toNat at_) (List.take (Int.toNat (ed.length:Int)) ed)=ed.drop (ol ed x):=by
   rw[e,Int.toNat_natCast,Int.toNat_natCast,List.take_length]
 rw[el] at hb hk hk2
 have hk3:k=(ed.drop (ol ed x)).length:=by omega
 unfold dC
 rw[hb]
 unfold ta
 rw[hk3,List.take_length,e,Int.toNat_natCast]
theorem fT{path:List Int}:List.take (Int.toNat ((path.length:Int)-1)) path=path.dropLast:=by
 rw[List.dropLast_eq_take];congr 1;omega
theorem xy{s s':Bs}{v:Nat}(h:s=dR g v)(hp:gI s.place (v:Int)=0)(hR:s'=fM g s (v:Int)):s'=dR g (v+1):=by
 rw[iL,<-h,if_pos hp];exact hR
theorem yz{s:Bs}{v:Nat}(h:s=dR g v)(hp:¬gI s.place (v:Int)=0):s=dR g (v+1):=by
 rw[iL,<-h,if_neg hp]
end TL
namespace TL
variable{g:bh}{of o:List Int}{c:List Bool}{k:Nat}
structure gP(of:List Int)(g:bh)(o:List Int)(c:List Bool)(k:Nat):Prop where
  eq:(o,c)=f8 of g k
  lo:(o.length:Int)=g.1
  lc:(c.length:Int)=g.1
theorem xn{pl lo by_ nx:List Int}{fo:Int}{ed:List Int}{la:List Bool}{bl:List Int}{co:Int}{path:List Int}{O:List (List Int)}{u:Int}(h:eB g (bs pl lo by_ nx fo ed la bl co) path)(hO:O=bt g)(hp:0<(path.length:Int))(hu:gI path ((path.length:Int)-1)=u):
    ((0<=u/\u<g.1)/\(0<=gI nx u/\gI nx u<=((gI O u).length:Int)))/\(gI by_ u= -1\/(0<=gI by_ u/\gI by_ u<2*(g.2.length:Int))):=by
  have hm:=h.pr _ (bv (xs:=path) (i:=(path.length:Int)-1) (by omega) (by omega))
  rw[hu] at hm
  rw[hO]
  refine⟨⟨hm.1,h.nx _ hm.1.1 hm.1.2⟩,?_⟩
  rcases h.by_ _ hm.1.1 hm.1.2 with k|k
  · exact .inl k
  · exact .inr k.1
theorem xf{pl lo by_ nx:List Int}{fo:Int}{ed:List Int}{la:List Bool}{bl:List Int}{co:Int}{path:List Int}{O:List (List Int)}{u:Int}(hm:b7 g)(h:eB g (bs pl lo by_ nx fo ed la bl co) path)(hO:O=bt g)(u0:0<=u)(u1:u<g.1)(hn:¬gI nx u=((gI O u).length:Int)):
   (0<=gI (gI O u) (gI nx u)/\gI (gI O u) (gI nx u)<2*(g.2.length:Int))/\(0<=bM g (gI (gI O u) (gI nx u))/\bM g (gI (gI O u) (gI nx u))<g.1):=by
 obtain⟨n0,n1⟩:=h.nx u u0 u1
 rw[hO] at hn ⊢
 have hin:gI (gI (bt g) u) (gI nx u)∈gI (bt g) u:=bv n0 (by
   have n1':gI nx u<=((gI (bt g) u).length:Int):=n1
   omega)
 rw[gL u0 u1] at hin
 have ho:=(eZ hin).1
 rw[<-gL u0 u1] at ho
 exact⟨ho,gX hm ho.1 ho.2⟩
theorem gP.start(h0:0<=g.1):gP of g (List.replicate (Int.toNat g.1) 0) (List.replicate (Int.toNat g.1) false) 0:=⟨rfl,by simp;omega,by simp;omega⟩
theorem gP.next(h:gP of g o c k){v e b:Int}{bb:Bool}(hv:aI g (k:Int)=v)(he:(k:Int)/2=e)(hb:b=gI of e+1)(hbb:bb=(gI c v||(decide (0<gI o v)&& !decide (gI o v=gI of e+1)))):gP of g (o.set (Int.toNat v) b) (c.set (Int.toNat v) bb) (k+1):=by
 subst hv he hb hbb
 refine⟨?_,by rw[List.length_set];exact h.lo,by rw[List.length_set];exact h.lc⟩
 unfold f8
 rw[cV,List.foldl_append]
 show _=ua of g (f8 of g k) (k:Int)
 rw[<-h.eq];rfl
theorem gP.two(h:gP of g o c (2*k)){v v2 b b2:Int}{bb bb2:Bool}(hv:(gI g.2 (k:Int)).1=v)(hv2:(gI g.2 (k:Int)).2=v2)(hb:b=gI of (k:Int)+1)(hbb:bb=(gI c v||(decide (0<gI o v)&& !decide (gI o v=gI of (k:Int)+1))))(hb2:b2=gI of (k:Int)+1)(hbb2:bb2=(gI (c.set (Int.toNat v) bb) v2||(decide (0<gI (o.set (Int.toNat v) b) v2)&& !decide (gI (o.set (Int.toNat v) b) v2=gI of (k:Int)+1)))):
   gP of g ((o.set (Int.toNat v) b).set (Int.toNat v2) b2) ((c.set (Int.toNat v) bb).set (Int.toNat v2) bb2) (2*(k+1)):=by
 have e1:((2*k:Nat):Int)/2=(k:Int):=by omega
 have e2:((2*k+1:Nat):Int)/2=(k:Int):=by omega
 have f1:aI g ((2*k:Nat):Int)=v:=by
   rw[<-hv];unfold aI;rw[e1,show((2*k:Nat):Int)%2=0 by omega];rfl
 have f2:aI g ((2*k+1:Nat):Int)=v2:=by
   rw[<-hv2];unfold aI;rw[e2,show((2*k+1:Nat):Int)%2=1 by omega];rfl
 exact(h.next f1 e1 hb hbb).next f2 e2 hb2 hbb2
theorem ku{x y:Bool}(h:x=true):true=(x||y):=by rw[h];rfl
theorem jU{x:Bool}{y:Int}{q:Prop}[Decidable q](h:¬x=true)(hp:¬0<y):false=(x||(decide (0<y)&& !decide q)):=by
 rw[decide_eq_false hp];simpa using h
theorem k8{x:Bool}{y:Int}{q:Prop}[Decidable q](h:¬x=true)(hp:0<y):(!decide q)=(x||(decide (0<y)&& !decide q)):=by
 have:x=false:=by simpa using h
 rw[this,decide_eq_true hp];simp
theorem tK{a:List Int}{l:List Bool}{k:Nat}(h:a=(bG k).filter λv=>gI l v):(a.length:Int)<=(k:Int):=by
 have h1:=List.length_filter_le (λv=>gI l v) (bG k)
 have h2:(bG k).length=k:=by simp[bG]
 rw[h];omega
theorem uu{a:List Int}{l:List Bool}{k:Nat}(h:a=(bG k).filter λv=>gI l v)(hk:gI l (k:Int)=true):a++[(k:Int)]=(bG (k+1)).filter λv=>gI l v:=by
 rw[h,cV,List.filter_append];simp[hk]
theorem wt{a:List Int}{l:List Bool}{k:Nat}(h:a=(bG k).filter λv=>gI l v)(hk:¬gI l (k:Int)=true):a=(bG (k+1)).filter λv=>gI l v:=by
 rw[h,cV,List.filter_append];simp[hk]
end TL
namespace TL
variable{g:bh}
theorem vW{pl lo by_ nx:List Int}{fo:Int}{ed:List Int}{la:List Bool}{bl:List Int}{co:Int}{path:List Int}(h0:0<=g.1)(h:eB g (bs pl lo by_ nx fo ed la bl co) path):(path.length:Int)<=g.1:=by
 have:=qT g.1.toNat path h.pn (λx hx=>by have:=(h.pr x hx).1;omega)
 omega
theorem yM{b:List Int}{q:Nat}(hb:b=List.replicate q (-1)++List.replicate (Int.toNat g.1-q) 0)(hq:(q:Int)=g.1):
   bs (List.replicate (Int.toNat g.1) 0) (List.replicate (Int.toNat g.1) 0) b (List.replicate (Int.toNat g.1) 0) 0 [] (List.replicate (Int.toNat (g.2.length:Int)) false) (List.replicate (Int.toNat (g.2.length:Int)) 0) 0=dR g 0:=by
 have e:q=Int.toNat g.1:=by omega
 subst e
 rw[hb,Nat.sub_self,List.replicate_zero,List.append_nil,Int.toNat_natCast];rfl
theorem tq(g:bh):0<=ji g/\ji g<=(g.2.length:Int):=by
 have:=(jw (dR g g.1.toNat).block g.2.length).2
 unfold ji;omega
theorem tz{b:List Int}(hb:b=(dR g (Int.toNat g.1)).block)(hl:(b.length:Int)=g.2.length):aO b b.length=(aO (dR g g.1.toNat).block g.2.length):=by
 have:b.length=g.2.length:=by omega
 rw[this,hb]
theorem fU.fin{R s:Bs}{path:List Int}(h:fU g R s path)(hp:¬0<(path.length:Int)):s=R:=by
 have e:path=[]:=List.eq_nil_of_length_eq_zero (by omega)
 subst e
 exact h.done
def cM(g:bh):List Int×List Int×Int:=(iV g,kB g,ji g)
theorem qc{b cu oo:List Int}{cc:List Bool}{j k:Nat}(hnam:aO b b.length=aO (dR g g.1.toNat).block g.2.length)(hcu:cu=(bG j).filter λv=>gI cc v)(hj:(j:Int)=(cc.length:Int))(hci:gP (iV g) g oo cc (2*k))(hk:(k:Int)=(g.2.length:Int)):
   ((aO b b.length).2,cu,((aO b b.length).1.length:Int))=cM g:=by
 have e1:k=g.2.length:=by omega
 have e2:j=g.1.toNat:=by have:=hci.lc;omega
 have e3:cc=(f8 (iV g) g (2*g.2.length)).2:=by rw[<-e1,<-hci.eq]
 rw[hnam,hcu,e2,e3];rfl
end TL
/-
  TlBfs: a walk breadth first tells the numbers of edges: it is as ways of weights 1.
  By an AI agent.
-/
set_option linter.all false
namespace TL
variable{g:bh}{s v c hh:Int}{st:Bf}{dh:Int->Prop}
theorem iz{x:Int}(hx:hf g x):x∈dM g (aI g x):=by
 unfold dM i9
 exact List.mem_filter.2 ⟨List.mem_map.2 ⟨x.toNat,List.mem_range.2 (by have:=hx.1;have:=hx.2;omega),Int.toNat_of_nonneg hx.1⟩,decide_eq_true rfl⟩
end TL
/-
  TlCls: what a walk depth first over blocks may rely on: which edges belong together, and what parts them.
  By an AI agent.
-/
set_option linter.all false
namespace TL
inductive Wy (g:bh) (A:Int->Prop):Int->Int->Prop
  |refl {x:Int}:A x->Wy g A x x
  |step {x:Int} {h:Int}:Wy g A x (aI g h)->hf g h->A (bM g h)->Wy g A x (bM g h)
variable{g:bh}{A B:Int->Prop}{x y z:Int}
theorem Wy.right(h:Wy g A x y):A y:=by cases h<;>assumption
theorem Wy.left(h:Wy g A x y):A x:=by
 induction h with
 |refl h=>exact h
 |step _ _ _ ih=>exact ih
theorem Wy.mono(h:Wy g A x y)(hAB:∀z,A z->B z):Wy g B x y:=by
 induction h with
 |refl h=>exact .refl (hAB _ h)
 |step _ b c ih=>exact .step ih b (hAB _ c)
theorem Wy.trans(h:Wy g A x y)(k:Wy g A y z):Wy g A x z:=by
 induction k with
 |refl _=>exact h
 |step _ b c ih=>exact .step ih b c
theorem Wy.one{h:Int}(hh:hf g h)(a:A (aI g h))(b:A (bM g h)):Wy g A (aI g h) (bM g h):=.step (.refl a) hh b
theorem Wy.symm(h:Wy g A x y):Wy g A y x:=by
 induction h with
 |refl h=>exact .refl h
 |step p b c ih=>
   rename_i h'
   obtain⟨t1,_,t3,t4⟩:=dZ (g:=g) b
   have q:Wy g A (bM g h') (aI g h'):=by
     have:=Wy.one (g:=g) (A:=A) t1 (by rw[t3];exact c) (by rw[t4];exact p.right)
     rwa[t3,t4] at this
   exact q.trans ih
def oA(g:bh)(e f:Int):Prop:=∃h k,hf g h/\hf g k/\h/2=e/\k/2=f/\aI g h=aI g k/\bM g h≠aI g h/\bM g k≠aI g k/\Wy g (λz=>z≠aI g h) (bM g h) (bM g k)
inductive EqB (g:bh):Int->Int->Prop
 |refl (e:Int):EqB g e e
 |rel {e f:Int}:oA g e f->EqB g e f
 |symm {e f:Int}:EqB g e f->EqB g f e
 |trans {e f k:Int}:EqB g e f->EqB g f k->EqB g e k
def kG(g:bh)(la:List Bool)(ed:List Int)(e:Int):Prop:=(0<=e/\e<(g.2.length:Int))/\gI la e=true/\e∉ed
def wY(g:bh)(la:List Bool)(ed bl:List Int)(b:Int):Prop:=
  (∃e0,(gI g.2 e0).1=(gI g.2 e0).2/\∀e,kG g la ed e->gI bl e=b->e=e0)\/
  ∃(T:Int->Prop) (u:Int),¬T u/\(∀h,hf g h->T (aI g h)->(T (bM g h)\/bM g h=u)/\kG g la ed (h/2)/\gI bl (h/2)<=b)/\
    (∀e,kG g la ed e->gI bl e=b->∃h,hf g h/\h/2=e/\T (aI g h))/\∀e f,kG g la ed e->kG g la ed f->gI bl e=b->gI bl f=b->EqB g e f
abbrev Fm:=List (Int×List Int)
structure tc(g:bh)(pl lo by_:List Int)(la:List Bool)(path:List Int)(A:Fm)(v:Int)(S:List Int)(B:Fm):Prop where
  own:(A=[]/\S=[]/\gI by_ v= -1)\/(∃A' u U S',A=A'++[(u,U)]/\S=gI by_ v/2::S'/\aI g (gI by_ v)=u/\0<=gI by_ v)
  asc:∀p∈A,gI pl p.1<gI pl v
  eqb:∀e∈S,EqB g e (gI by_ v/2)
  end_:∀e∈S,∃h,hf g h/\h/2=e/\gI pl v<=gI pl (aI g h)
  low:∀p∈A,∀e∈p.2,∀h,hf g h->h/2=e->gI pl (aI g h)<gI pl v
  cross:∀h,hf g h->gI pl (aI g h)≠0->aI g h∉path->gI pl (aI g h)<gI pl v->gI pl (bM g h)<gI pl v
  conn:∀x,0<=x->x<g.1->gI pl v<=gI pl x->Wy g (λz=>(0<=z/\z<g.1)/\gI pl v<=gI pl z) v x
  l1:∀h,hf g h->gI la (h/2)=true->gI pl v<=gI pl (aI g h)->gI pl (bM g h)<gI pl v->h/2≠gI by_ v/2->∃w∈v::B.map Prod.fst,gI lo w<=gI pl (bM g h)
  l2:gI lo v<=gI pl v
  l3:gI lo v<gI pl v->∃h,hf g h/\gI la (h/2)=true/\gI pl v<=gI pl (aI g h)/\gI pl (bM g h)=gI lo v
structure gn(g:bh)(s:Bs)(fr:Fm):Prop where
 se:eB g s (fr.map Prod.fst)
 stk:s.edges=(fr.map Prod.snd).flatten
 inj:∀x y,0<=x->x<g.1->0<=y->y<g.1->gI s.place x≠0->gI s.place x=gI s.place y->x=y
 lof:∀h,hf g h->gI s.laid (h/2)=true->gI s.place (aI g h)≠0
 fra:∀A v S B,fr=A++(v,S)::B->tc g s.place s.low s.by_ s.laid (fr.map Prod.fst) A v S B
 clr:∀e,kG g s.laid s.edges e->0<=gI s.block e/\gI s.block e<s.count
 clb:∀b,0<=b->b<s.count->wY g s.laid s.edges s.block b
theorem wY.congr{la la':List Bool}{ed ed' bl bl':List Int}{b:Int}(h:wY g la ed bl b)(hc:∀e,kG g la' ed' e->gI bl' e=b->kG g la ed e/\gI bl e=b)(hc':∀e,kG g la ed e->kG g la' ed' e/\gI bl' e=gI bl e):wY g la' ed' bl' b:=by
 rcases h with⟨e0,h1,h2⟩|⟨T,u,h1,h2,h3,h4⟩
 · exact .inl ⟨e0,h1,λe a c=>h2 e (hc e a c).1 (hc e a c).2⟩
 · refine .inr ⟨T,u,h1,λh hh ht=>?_,λe a c=>h3 e (hc e a c).1 (hc e a c).2,λe f a c d k=>h4 e f (hc e a d).1 (hc f c k).1 (hc e a d).2 (hc f c k).2⟩
   obtain⟨a,c,d⟩:=h2 h hh ht
   exact⟨a,(hc' _ c).1,by rw[(hc' _ c).2];exact d⟩
theorem dI{la:List Bool}{e x:Int}{c:Bool}(e0:0<=e)(e1:e<(la.length:Int))(x0:0<=x):gI (la.set e.toNat c) x=if x=e then c else gI la x:=c5 e0 e1 x0
theorem jI{la:List Bool}{ed:List Int}{e x:Int}(e0:0<=e)(e1:e<(la.length:Int))(hl:¬gI la e=true):kG g (la.set e.toNat true) (ed++[e]) x↔kG g la ed x:=by
 unfold kG
 constructor
 · rintro⟨a,b,c⟩
   have hne:x≠e:=λk=>c (by rw[k];simp)
   rw[dI e0 e1 a.1,if_neg hne] at b
   exact⟨a,b,λk=>c (List.mem_append_left _ k)⟩
 · rintro⟨a,b,c⟩
   have hne:x≠e:=λk=>hl (by rw[<-k];exact b)
   refine⟨a,by rw[dI e0 e1 a.1,if_neg hne];exact b,λk=>?_⟩
   rcases List.mem_append.1 k with k|k
   · exact c k
   · exact hne (List.mem_singleton.1 k)
theorem rB(c:Int):∀(P bl:List Int) (x:Int),0<=x->x<(bl.length:Int)->(∀e∈P,0<=e/\e<(bl.length:Int))->gI (P.foldl (λb e=>b.set e.toNat c) bl) x=if x∈P then c else gI bl x
 |[],bl,x,_,_,_=>by simp
 |e::P,bl,x,h0,h1,hP=>by
   have he:=hP e (List.mem_cons_self ..)
   rw[List.foldl_cons,rB c P (bl.set e.toNat c) x h0 (by rw[List.length_set];exact h1) (λy hy=>by rw[List.length_set];exact hP y (List.mem_cons_of_mem _ hy)),c5 he.1 he.2 h0]
   by_cases k1:x∈P
   · rw[if_pos k1,if_pos (List.mem_cons_of_mem _ k1)]
   · rw[if_neg k1]
     by_cases k2:x=e
     · rw[if_pos k2,if_pos (by rw[k2];exact List.mem_cons_self ..)]
     · rw[if_neg k2,if_neg (λk=>(List.mem_cons.1 k).elim k2 k1)]
theorem oN{s:Bs}{pre rest:List Int}{e:Int}(he:s.edges=pre++e::rest)(hn:s.edges.Nodup):dC s e={s with block:=(e::rest).foldl (λb x=>b.set x.toNat s.count) s.block,edges:=pre,count:=s.count+1}:=by
  have hr:e∉rest:=by
    rw[he,List.nodup_append] at hn
    exact(List.nodup_cons.1 hn.2.1).1
  have ha:ol s.edges e=pre.length:=by rw[he];exact qU hr
  unfold dC
  rw[ha,he]
  simp
structure n9(g:bh)(s:Bs)(path:List Int):Prop where
  use:∀x,0<=x->x<g.1->∀j:Int,0<=j->j<gI s.next x->gI s.laid (gI (gI (bt g) x) j/2)=true
  exh:∀x,0<=x->x<g.1->gI s.place x≠0->x∉path->gI s.next x=((gI (bt g) x).length:Int)
theorem db(hm:b7 g){h:Int}(hh:hf g h):0<=aI g h/\aI g h<g.1:=by
 obtain⟨t1,_,t3,t4⟩:=dZ (g:=g) hh
 have:=gX hm t1.1 t1.2
 rwa[t4] at this
theorem fb(hm:b7 g){h:Int}(hh:hf g h):0<=bM g h/\bM g h<g.1:=gX hm hh.1 hh.2
theorem n9.all{s:Bs}{path:List Int}(hm:b7 g)(h:n9 g s path){k:Int}(hk:hf g k)(h1:gI s.place (aI g k)≠0)(h2:aI g k∉path):gI s.laid (k/2)=true:=by
  obtain⟨f0,f1⟩:=db hm hk
  have he:=h.exh _ f0 f1 h1 h2
  have hin:k∈gI (bt g) (aI g k):=by
    rw[gL f0 f1]
    exact iz hk
  obtain⟨i,hi,e⟩:=List.mem_iff_getElem.1 hin
  have:=h.use _ f0 f1 (i:Int) (by omega) (by rw[he];omega)
  have e2:∀(L:List Int) (hL:i<L.length),gI L (i:Int)=L[i]:=λL hL=>by simp[gI,hL]
  rw[e2 _ hi,e] at this
  exact this
end TL
/-
  TlPg: components without some nodes and edges, found by a stack: the document's way.
  By an AI agent.
-/
set_option linter.all false
namespace TL
structure oS(g g':bh)(gone:List Bool)(ps:Int->Prop):Prop where
  hm:b7 g
  hm':b7 g'
  n:g'.1=g.1
  pg:∀h,ps h->¬gI gone (aI g h)=true/\¬gI gone (bM g h)=true
  one:∀h,hf g h->ps h->Cn g' (aI g h) (bM g h)
  cl:∀S:Int->Prop,(∀h,hf g h->ps h->S (aI g h)->S (bM g h))->∀u v,Cn g' u v->S u->S v
def jB(g':bh)(gone:List Bool)(p:List Int×Int)(v:Int):List Int×Int:=
 if 0<=gI p.1 v\/gI gone v=true then p else((cT g' v).order.foldl (λl w=>l.set w.toNat p.2) p.1,p.2+1)
def dd(g':bh)(gone:List Bool)(k:Nat):List Int×Int:=(bG k).foldl (jB g' gone) (List.replicate g'.1.toNat (-1),0)
section
variable{g g':bh}{gone:List Bool}{ps:Int->Prop}{u v x y:Int}
theorem o8(g':bh)(gone:List Bool)(k:Nat):dd g' gone (k+1)=jB g' gone (dd g' gone k) (k:Int):=by
 unfold dd
 rw[cV,List.foldl_append];rfl
theorem oS.nd(hP:oS g g' gone ps):ic g' v↔ic g v:=by unfold ic;rw[hP.n]
structure xG(g g':bh)(gone:List Bool)(p:List Int×Int)(l:List Int)(k:Nat):Prop where
  len:(p.1.length:Int)=g.1
  num:p.2=(l.length:Int)
  nd:l.Nodup
  dom:∀x∈l,ic g x/\¬gI gone x=true
  one:∀x∈l,∀y∈l,Cn g' x y->x=y
  iff:∀v,ic g v->(0<=gI p.1 v↔∃y∈l,Cn g' v y)
  all:∀v:Nat,v<k->(v:Int)<g.1->¬gI gone (v:Int)=true->∃y∈l,Cn g' (v:Int) y
  top:∀v,ic g v->gI p.1 v<p.2
  lab:∀u v,ic g u->ic g v->0<=gI p.1 u->(gI p.1 u=gI p.1 v↔Cn g' u v)
  le:l.length<=k
theorem oS.inv(hP:oS g g' gone ps):∀k:Nat,(k:Int)<=g.1->∃l,xG g g' gone (dd g' gone k) l k
 |0,_=>by
   have h0:=hP.hm.1
   have e:(dd g' gone 0).1=List.replicate g.1.toNat (-1):=by simp[dd,bG,hP.n]
   have r:∀v,ic g v->gI (dd g' gone 0).1 v= -1:=λv hv=>by rw[e,fI hv.1 (by have:=hv.2;omega)]
   have e2:(dd g' gone 0).2=0:=by simp[dd,bG]
   refine⟨[],by rw[e];simp;omega,by rw[e2];rfl,by simp,by simp,by simp,λv hv=>by rw[r v hv];simp,λv hv=>by omega,λv hv=>by rw[r v hv,e2];omega,λu v hu _ h=>by rw[r u hu] at h;omega,Nat.le_refl _⟩
 |k+1,hk=>by
   obtain⟨l,h⟩:=hP.inv k (by omega)
   have hkd:ic g (k:Int):=⟨by omega,by omega⟩
   have hkd':=hP.nd.2 hkd
   obtain⟨hb1,hb2⟩:=oZ hP.hm' hkd'
   have hq:=Cn.eqv g'
   rw[o8]
   unfold jB
   by_cases c:0<=gI (dd g' gone k).1 (k:Int)\/gI gone (k:Int)=true
   · rw[if_pos c]
     refine⟨l,h.len,h.num,h.nd,h.dom,h.one,h.iff,λv hv hg hn=>?_,h.top,h.lab,by have:=h.le;omega⟩
     by_cases e:v=k
     · subst e;exact(h.iff _ hkd).1 (c.resolve_right hn)
     · exact h.all v (by omega) hg hn
   · rw[if_neg c]
     have c1:¬0<=gI (dd g' gone k).1 (k:Int):=λj=>c (.inl j)
     have c2:¬gI gone (k:Int)=true:=λj=>c (.inr j)
     have hno:∀y∈l,¬Cn g' (k:Int) y:=λy hy hc=>c1 ((h.iff _ hkd).2 ⟨y,hy,hc⟩)
     have hlen:=h.len
     have hnn:0<=(dd g' gone k).2:=by rw[h.num];omega
     have hset:∀v,ic g v->gI ((cT g' (k:Int)).order.foldl (λl w=>l.set w.toNat (dd g' gone k).2) (dd g' gone k).1) v=if v∈(cT g' (k:Int)).order then(dd g' gone k).2 else gI (dd g' gone k).1 v:=λv hv=>rD _ _ v hv.1 (by have:=hv.2;omega) (λx hx=>by have:=hb1 x hx;exact⟨this.1,by have:=this.2;rw[hP.n] at this;omega⟩)
     have hmem:∀v,v∈(cT g' (k:Int)).order->ic g v:=λv hv=>hP.nd.1 (hb1 v hv)
     have hnew:∀v,v∈(cT g' (k:Int)).order->gI (dd g' gone k).1 v<0:=λv hv=>by
       refine Int.not_le.1 λj=>?_
       obtain⟨y,hy,hc⟩:=(h.iff v (hmem v hv)).1 j
       exact hno y hy (hq.trans _ _ _ hkd' (hb1 v hv) (hP.nd.2 (h.dom y hy).1) ((hb2 v).1 hv) hc)
     refine⟨l++[(k:Int)],?_,?_,?_,?_,?_,?_,?_,?_,?_,by rw[List.length_append,List.length_singleton];have:=h.le;omega⟩
     · simp only;rw[i3];exact hlen
     · simp only[h.num];simp
     · rw[List.nodup_append]
       refine⟨h.nd,by simp,λa ha b hb e=>?_⟩
       obtain rfl:=List.mem_singleton.1 hb
       subst e
       exact hno _ ha (hq.rfl _ hkd')
     · intro x hx
       rcases List.mem_append.1 hx with hx|hx
       · exact h.dom x hx
       · obtain rfl:=List.mem_singleton.1 hx;exact⟨hkd,c2⟩
     · intro x hx y hy hc
       rcases List.mem_append.1 hx with hx|hx
       · rcases List.mem_append.1 hy with hy|hy
         · exact h.one x hx y hy hc
         · obtain rfl:=List.mem_singleton.1 hy
           exact absurd (hq.symm _ _ (hP.nd.2 (h.dom x hx).1) hkd' hc) (hno x hx)
       · obtain rfl:=List.mem_singleton.1 hx
         rcases List.mem_append.1 hy with hy|hy
         · exact absurd hc (hno y hy)
         · obtain rfl:=List.mem_singleton.1 hy;rfl
     · intro v hv
       simp only
       rw[hset v hv]
       by_cases hvo:v∈(cT g' (k:Int)).order
       · rw[if_pos hvo]
         exact⟨λ_=>⟨(k:Int),by simp,hq.symm _ _ hkd' (hP.nd.2 hv) ((hb2 v).1 hvo)⟩,λ_=>hnn⟩
       · rw[if_neg hvo,h.iff v hv]
         constructor
         · rintro⟨y,hy,hc⟩;exact⟨y,by simp[hy],hc⟩
         · rintro⟨y,hy,hc⟩
           rcases List.mem_append.1 hy with hy|hy
           · exact⟨y,hy,hc⟩
           · obtain rfl:=List.mem_singleton.1 hy
             exact absurd ((hb2 v).2 (hq.symm _ _ (hP.nd.2 hv) hkd' hc)) hvo
     · intro v hv hg hn
       by_cases e:v=k
       · subst e;exact⟨(v:Int),by simp,hq.rfl _ hkd'⟩
       · obtain⟨y,hy,hc⟩:=h.all v (by omega) hg hn
         exact⟨y,by simp[hy],hc⟩
     · intro v hv
       simp only
       rw[hset v hv]
       have:=h.top v hv
       split<;>omega
     · intro u v hu hv h0
       simp only at h0 ⊢
       rw[hset u hu] at h0 ⊢
       rw[hset v hv]
       have tu:=h.top u hu
       have tv:=h.top v hv
       by_cases a:u∈(cT g' (k:Int)).order
       · rw[if_pos a]
         by_cases b:v∈(cT g' (k:Int)).order
         · rw[if_pos b]
           exact⟨λ_=>hq.trans _ _ _ (hP.nd.2 hu) hkd' (hP.nd.2 hv) (hq.symm _ _ hkd' (hP.nd.2 hu) ((hb2 u).1 a)) ((hb2 v).1 b),λ_=>rfl⟩
         · rw[if_neg b]
           exact⟨λj=>by omega,λj=>absurd ((hb2 v).2 (hq.trans _ _ _ hkd' (hP.nd.2 hu) (hP.nd.2 hv) ((hb2 u).1 a) j)) b⟩
       · rw[if_neg a] at h0 ⊢
         by_cases b:v∈(cT g' (k:Int)).order
         · rw[if_pos b]
           exact⟨λj=>by omega,λj=>absurd ((hb2 u).2 (hq.trans _ _ _ hkd' (hP.nd.2 hv) (hP.nd.2 hu) ((hb2 v).1 b) (hq.symm _ _ (hP.nd.2 hu) (hP.nd.2 hv) j))) a⟩
         · rw[if_neg b]
           exact h.lab u v hu hv h0
end
section
variable{g g':bh}{gone:List Bool}{ps:Int->Prop}{c0 c todo x:List Int}{n s:Int}
variable{v:Int}{k M:Nat}
end
def m6(g:bh)(gone cut:List Bool):List Int:=(bG g.2.length).filter λe=> !(gI gone (gI g.2 e).1||gI gone (gI g.2 e).2||gI cut e)
def eE(g:bh)(gone cut:List Bool):bh:=(g.1,(m6 g gone cut).map (gI g.2))
def dc(g:bh)(gone cut:List Bool):List Int×Int:=dd (eE g gone cut) gone g.1.toNat
def zT(g:bh)(gone cut:List Bool)(h:Int):Prop:=¬gI gone (aI g h)=true/\¬gI gone (bM g h)=true/\¬gI cut (h/2)=true
section
variable{g:bh}{gone cut:List Bool}{h e:Int}
theorem gC:e∈m6 g gone cut↔(0<=e/\e<(g.2.length:Int))/\¬gI gone (gI g.2 e).1=true/\¬gI gone (gI g.2 e).2=true/\¬gI cut e=true:=by
 unfold m6
 rw[List.mem_filter,cw]
 refine and_congr Iff.rfl ?_
 simp[and_assoc]
theorem lA(h0:0<=h):(aI g h=(gI g.2 (h/2)).1/\bM g h=(gI g.2 (h/2)).2)\/(aI g h=(gI g.2 (h/2)).2/\bM g h=(gI g.2 (h/2)).1):=by
 unfold aI bM pI
 have:h%2=0\/h%2=1:=by omega
 rcases this with q|q
 · rw[q];left;simp
 · rw[q];right;simp
theorem uB(hm:b7 g):b7 (eE g gone cut):=by
 obtain⟨m1,m2,m3,m4⟩:=hm
 refine⟨m1,m2,?_,λe he=>?_⟩
 · unfold eE
   rw[List.length_map]
   have:(m6 g gone cut).length<=(bG g.2.length).length:=List.length_filter_le ..
   have h2:(bG g.2.length).length=g.2.length:=by simp[bG]
   omega
 · obtain⟨i,hi,rfl⟩:=List.mem_map.1 he
   have:=(gC.1 hi).1
   exact m4 _ (bv this.1 this.2)
theorem kj(hm:b7 g):oS g (eE g gone cut) gone (zT g gone cut):=by
 refine⟨hm,uB hm,rfl,λh hp=>⟨hp.1,hp.2.1⟩,λh hh hp=>?_,λS hS u v hc hu=>?_⟩
 · obtain⟨p1,p2,p3⟩:=hp
   have hin:=bv (xs:=g.2) (i:=h/2) (by have:=hh.1;omega) (by have:=hh.2;omega)
   have hok:=hm.2.2.2 _ hin
   have hk:h/2∈m6 g gone cut:=by
     refine gC.2 ⟨⟨by have:=hh.1;omega,by have:=hh.2;omega⟩,?_⟩
     rcases lA (g:=g) hh.1 with⟨a,b⟩|⟨a,b⟩
     · rw[<-a,<-b];exact⟨p1,p2,p3⟩
     · rw[<-a,<-b];exact⟨p2,p1,p3⟩
   have he:gI g.2 (h/2)∈(eE g gone cut).2:=List.mem_map.2 ⟨_,hk,rfl⟩
   have hc:=Cn.edge he
   rcases lA (g:=g) hh.1 with⟨a,b⟩|⟨a,b⟩
   · rw[a,b];exact hc
   · rw[a,b];exact(Cn.eqv (eE g gone cut)).symm _ _ hok.1 hok.2 hc
 · refine(hc (λu v=>S u↔S v) ⟨λ_ _=>Iff.rfl,λ_ _ _ _ h=>h.symm,λ_ _ _ _ _ _ h1 h2=>h1.trans h2⟩ (λe he=>?_)).1 hu
   obtain⟨i,hi,rfl⟩:=List.mem_map.1 he
   obtain⟨⟨i0,i1⟩,k1,k2,k3⟩:=gC.1 hi
   have e0:(2*i)/2=i:=by omega
   have e1:(2*i+1)/2=i:=by omega
   have f0:aI g (2*i)=(gI g.2 i).1/\bM g (2*i)=(gI g.2 i).2:=by
     unfold aI bM pI
     rw[e0,show(2*i)%2=0 by omega];simp
   have f1:aI g (2*i+1)=(gI g.2 i).2/\bM g (2*i+1)=(gI g.2 i).1:=by
     unfold aI bM pI
     rw[e1,show(2*i+1)%2=1 by omega];simp
   constructor
   · have:=hS (2*i) ⟨by omega,by omega⟩ ⟨by rw[f0.1];exact k1,by rw[f0.2];exact k2,by rw[e0];exact k3⟩
     rw[f0.1,f0.2] at this;exact this
   · have:=hS (2*i+1) ⟨by omega,by omega⟩ ⟨by rw[f1.1];exact k2,by rw[f1.2];exact k1,by rw[e1];exact k3⟩
     rw[f1.1,f1.2] at this;exact this
theorem dT(hm:b7 g):∃l,xG g (eE g gone cut) gone (dc g gone cut) l g.1.toNat:=(kj hm).inv g.1.toNat (by have:=hm.1;omega)
theorem qP(hm:b7 g):((dc g gone cut).1.length:Int)=g.1/\0<=(dc g gone cut).2/\(dc g gone cut).2<=g.1:=by
 have h0:=hm.1
 obtain⟨l,h⟩:=dT (gone:=gone) (cut:=cut) hm
 have:=h.num
 have:=h.le
 exact⟨h.len,by omega,by omega⟩
end
end TL
namespace TL
section
variable{g g':bh}{gone cut:List Bool}{ps:Int->Prop}{c0 c todo:List Int}{n s v:Int}{k M q:Nat}
end
end TL
/-
  TlCls2: the steps of the walk keep what it relies on.
  By an AI agent.
-/
set_option linter.all false
namespace TL
variable{g:bh}{s:Bs}{fr:Fm}{path:List Int}{A B:Fm}{S:List Int}{v e b:Int}{pl lo by_:List Int}{la:List Bool}{ed bl:List Int}
theorem gO{h k:Int}(h0:0<=h)(k0:0<=k)(e:h/2=k/2):h=k\/h=gW k:=by
 unfold gW
 split<;>omega
theorem kY{pre P:List Int}{x:Int}(he:ed=pre++P)(hn:ed.Nodup)(hP:∀x∈ed,(0<=x/\x<(g.2.length:Int))/\gI la x=true):kG g la pre x↔kG g la ed x\/x∈P:=by
 subst he
 unfold kG
 constructor
 · rintro⟨a,c,d⟩
   by_cases k:x∈P
   · exact .inr k
   · exact .inl ⟨a,c,λj=>(List.mem_append.1 j).elim d k⟩
 · rintro(⟨a,c,d⟩|k)
   · exact⟨a,c,λj=>d (List.mem_append_left _ j)⟩
   · obtain⟨a,c⟩:=hP x (List.mem_append_right _ k)
     exact⟨a,c,λj=>(List.nodup_append.1 hn).2.2 x j x k rfl⟩
theorem vh{pre P:List Int}{c:Int}(he:ed=pre++P)(hn:ed.Nodup)(hP:∀x∈ed,(0<=x/\x<(g.2.length:Int))/\gI la x=true)(hbl:(bl.length:Int)=(g.2.length:Int))(hc:0<=c)
    (hr:∀e,kG g la ed e->0<=gI bl e/\gI bl e<c)(hb:∀b,0<=b->b<c->wY g la ed bl b)(hnew:(∀x,kG g la pre x->gI (P.foldl (λb e=>b.set e.toNat c) bl) x=c->x∈P)->(∀x,kG g la pre x->gI (P.foldl (λb e=>b.set e.toNat c) bl) x<=c)->wY g la pre (P.foldl (λb e=>b.set e.toNat c) bl) c):
    (∀e,kG g la pre e->0<=gI (P.foldl (λb e=>b.set e.toNat c) bl) e/\gI (P.foldl (λb e=>b.set e.toNat c) bl) e<c+1)/\∀b,0<=b->b<c+1->wY g la pre (P.foldl (λb e=>b.set e.toNat c) bl) b:=by
  have hg:∀x,0<=x->x<(g.2.length:Int)->gI (P.foldl (λb e=>b.set e.toNat c) bl) x=if x∈P then c else gI bl x:=λx a d=>rB c P bl x a (by omega) (λy hy=>by have:=(hP y (by rw[he];exact List.mem_append_right _ hy)).1;omega)
  have hnP:∀x,kG g la ed x->x∉P:=λx hx k=>hx.2.2 (by rw[he];exact List.mem_append_right _ k)
  have h1:∀e,kG g la pre e->0<=gI (P.foldl (λb e=>b.set e.toNat c) bl) e/\gI (P.foldl (λb e=>b.set e.toNat c) bl) e<c+1:=λe hx=>by
    rw[hg e hx.1.1 hx.1.2]
    rcases(kY he hn hP).1 hx with k|k
    · rw[if_neg (hnP e k)];have:=hr e k;omega
    · rw[if_pos k];omega
  refine⟨h1,λb b0 b1=>?_⟩
  by_cases k:b=c
  · rw[k]
    refine hnew (λx hx hxc=>?_) (λx hx=>by have:=h1 x hx;omega)
    rcases(kY he hn hP).1 hx with j|j
    · rw[hg x hx.1.1 hx.1.2,if_neg (hnP x j)] at hxc
      have:=hr x j;omega
    · exact j
  · refine(hb b b0 (by omega)).congr (λx hx hxb=>?_) (λx hx=>⟨(kY he hn hP).2 (.inl hx),by rw[hg x hx.1.1 hx.1.2,if_neg (hnP x hx)]⟩)
    rw[hg x hx.1.1 hx.1.2] at hxb
    by_cases j:x∈P
    · rw[if_pos j] at hxb;exact absurd hxb.symm k
    · rw[if_neg j] at hxb
      exact⟨((kY he hn hP).1 hx).resolve_right j,hxb⟩
theorem q7(e0:0<=e)(e1:e<(la.length:Int))(hl:¬gI la e=true)(h:wY g la ed bl b):wY g (la.set e.toNat true) (ed++[e]) bl b:=
  h.congr (λx hx hb=>⟨(jI e0 e1 hl).1 hx,hb⟩) (λx hx=>⟨(jI e0 e1 hl).2 hx,rfl⟩)
theorem tc.lay(h:tc g pl lo by_ la path A v S B)(e0:0<=e)(e1:e<(la.length:Int))(hm2:∀x:Int,hf g x->0<=x/2)(hw:∀h,hf g h->h/2=e->gI pl v<=gI pl (aI g h)->gI pl (bM g h)<gI pl v->h/2≠gI by_ v/2->∃w∈v::B.map Prod.fst,gI lo w<=gI pl (bM g h)):tc g pl lo by_ (la.set e.toNat true) path A v S B:=
  {h with
    l1:=λk hk hl a c d=>by
      by_cases q:k/2=e
      · exact hw k hk q a c d
      · rw[dI e0 e1 (hm2 k hk),if_neg q] at hl
        exact h.l1 k hk hl a c d
    l3:=λk=>by
      obtain⟨x,a,c,d⟩:=h.l3 k
      refine⟨x,a,?_,d⟩
      rw[dI e0 e1 (hm2 x a)]
      split
      · rfl
      · exact c}
theorem kM{x:Int}(h:hf g x):0<=x/2:=by have:=h.1;omega
theorem jH{x:Int}(h:hf g x):x/2<(g.2.length:Int):=by have:=h.2;omega
theorem xu(hf0:∀A v S B,fr=A++(v,S)::B->(A=[]/\S=[]/\gI by_ v= -1)\/(∃A' u U S',A=A'++[(u,U)]/\S=gI by_ v/2::S'/\aI g (gI by_ v)=u/\0<=gI by_ v))(hto:∀p∈fr,0<=gI by_ p.1->hf g (gI by_ p.1)/\bM g (gI by_ p.1)=p.1):
    ∀(n:Nat) (A B:Fm),A.length=n->fr=A++B->∀x∈A.map Prod.fst,∀y∈A.map Prod.fst,Wy g (λz=>z∈A.map Prod.fst) x y:=by
  intro n
  induction n with
  |zero=>
    intro A B hl _ x hx
    rw[List.length_eq_zero_iff.1 hl] at hx;exact absurd hx List.not_mem_nil
  |succ n ih=>
    intro A B hl he x hx y hy
    obtain⟨A',p,rfl⟩:∃A' p,A=A'++[p]:=⟨A.dropLast,A.getLast (by intro k;rw[k] at hl;simp at hl),(List.dropLast_concat_getLast _).symm⟩
    have hl':A'.length=n:=by simpa using hl
    have he':fr=A'++p::B:=by rw[he];simp
    have ih':=ih A' (p::B) hl' he'
    have key:∀x∈(A'++[p]).map Prod.fst,Wy g (λz=>z∈(A'++[p]).map Prod.fst) x p.1:=by
      intro x hx
      have hp:p.1∈(A'++[p]).map Prod.fst:=by simp
      rw[List.map_append,List.mem_append] at hx
      rcases hx with hx|hx
      · rcases hf0 A' p.1 p.2 B he' with⟨q,_⟩|⟨A2,u,U,S',q1,_,q3,q4⟩
        · rw[q] at hx;exact absurd hx List.not_mem_nil
        · have hu:u∈A'.map Prod.fst:=by rw[q1];simp
          have hh:=hto p (by rw[he'];simp) q4
          have w1:=(ih' x hx u hu).mono (B:=λz=>z∈(A'++[p]).map Prod.fst) (λz hz=>by rw[List.map_append];exact List.mem_append_left _ hz)
          have w2:Wy g (λz=>z∈(A'++[p]).map Prod.fst) u p.1:=by
            have:=Wy.one (g:=g) (A:=λz=>z∈(A'++[p]).map Prod.fst) hh.1 (by rw[q3,List.map_append];exact List.mem_append_left _ hu) (by rw[hh.2];exact hp)
            rwa[q3,hh.2] at this
          exact w1.trans w2
      · have:x=p.1:=by simpa using hx
        rw[this];exact .refl hp
    exact(key x hx).trans (key y hy).symm
end TL
/-
  TlCls3: each step of the walk keeps what it relies on: a loop, an edge back.
  By an AI agent.
-/
set_option linter.all false
namespace TL
variable{g:bh}{s:Bs}{fr:Fm}{path:List Int}{A B A0:Fm}{S U:List Int}{u v w e b h:Int}{pl lo by_:List Int}{la:List Bool}{ed bl:List Int}
theorem gn.mem(hd:gn g s fr){p:Int×List Int}(hp:p∈fr):(0<=p.1/\p.1<g.1)/\gI s.place p.1≠0:=hd.se.pr _ (List.mem_map.2 ⟨p,hp,rfl⟩)
theorem gn.to(hd:gn g s fr):∀p∈fr,0<=gI s.by_ p.1->hf g (gI s.by_ p.1)/\bM g (gI s.by_ p.1)=p.1:=λp hp h0=>by
 have h1:=(hd.mem hp).1
 rcases hd.se.by_ p.1 h1.1 h1.2 with k|⟨k,j,_⟩
 · omega
 · exact⟨k,j⟩
theorem gn.wy(hd:gn g s fr){A B:Fm}(he:fr=A++B):∀x∈A.map Prod.fst,∀y∈A.map Prod.fst,Wy g (λz=>z∈A.map Prod.fst) x y:=
 xu (λA v S B k=>(hd.fra A v S B k).own) hd.to A.length A B rfl he
theorem gn.el(hd:gn g s fr):∀p∈fr,∀e∈p.2,(0<=e/\e<(g.2.length:Int))/\gI s.laid e=true:=λp hp e he=>hd.se.el e (by
 rw[hd.stk];exact List.mem_flatten.2 ⟨p.2,List.mem_map.2 ⟨p,hp,rfl⟩,he⟩)
theorem gn.lot(hd:gn g s fr){k:Int}(hk:hf g k)(hl:gI s.laid (k/2)=true):gI s.place (bM g k)≠0:=by
  obtain⟨t1,t2,t3,t4⟩:=dZ (g:=g) hk
  have:=hd.lof _ t1 (by rw[t2];exact hl)
  rwa[t3] at this
theorem m8{x y:Int}(h:gI pl x<gI pl y):x≠y:=λe=>by rw[e] at h;omega
theorem ga{X A:List (Int×List Int)}{a x:Int×List Int}{B:List (Int×List Int)}(h:X++[a]=A++x::B):(A=X/\x=a/\B=[])\/∃B0,X=A++x::B0/\B=B0++[a]:=by
 rcases List.eq_nil_or_concat B with k|⟨B0,y,k⟩
 · subst k
   have:=List.append_inj' h rfl
   exact .inl ⟨this.1.symm,by simpa using this.2.symm,rfl⟩
 · rw[List.concat_eq_append] at k
   subst k
   have h2:X++[a]=(A++x::B0)++[y]:=by rw[h];simp
   have:=List.append_inj' h2 rfl
   exact .inr ⟨B0,this.1,by rw[show a=y by simpa using this.2]⟩
theorem gn.nexts(hd:gn g s fr)(u0:0<=u)(u1:u<g.1)(hn:¬gI s.next u=((gI (bt g) u).length:Int)):gn g {s with next:=s.next.set u.toNat (gI s.next u+1)} fr:=
 ⟨hd.se.nexts u0 u1 hn,hd.stk,hd.inj,hd.lof,hd.fra,hd.clr,hd.clb⟩
theorem gn.loop(hm:b7 g)(hd:gn g s fr)(hh:hf g h)(hl:¬gI s.laid (h/2)=true)(hv:gI s.place (aI g h)≠0)(hw:bM g h=aI g h)(hse:eB g (dC (hZ s (h/2)) (h/2)) (fr.map Prod.fst)):gn g (dC (hZ s (h/2)) (h/2)) fr:=by
  have e0:=kM hh
  have e1:=jH hh
  have hl5:=hd.se.l5
  obtain⟨hlay,hne⟩:=hd.se.lay e0 e1 hl
  have hen:(s.edges++[h/2]).Nodup:=hlay.en
  have hel:∀x∈s.edges++[h/2],(0<=x/\x<(g.2.length:Int))/\gI (s.laid.set (h/2).toNat true) x=true:=hlay.el
  rw[oN (s:=hZ s (h/2)) (pre:=s.edges) (rest:=[]) (e:=h/2) rfl hen] at hse ⊢
  have hends:∀k,hf g k->k/2=h/2->aI g k=aI g h/\bM g k=aI g h:=λk hk he=>by
    rcases gO hk.1 hh.1 he with q|q
    · rw[q];exact⟨rfl,hw⟩
    · obtain⟨_,_,t3,t4⟩:=dZ (g:=g) hh
      rw[q,t3,t4];exact⟨hw,rfl⟩
  have hcl:=vh (g:=g) (la:=s.laid.set (h/2).toNat true) (ed:=s.edges++[h/2]) (bl:=s.block) (pre:=s.edges) (P:=[h/2]) (c:=s.count) rfl hen hel hd.se.l6 hd.se.ct
    (λx hx=>hd.clr x ((jI e0 (by omega) hl).1 hx)) (λb b0 b1=>q7 e0 (by omega) hl (hd.clb b b0 b1)) (λhin _=>.inl ⟨h/2,by
      have hf1:(gI g.2 (h/2)).1=(gI g.2 (h/2)).2:=by
        have h1:=hw
        unfold bM aI at h1
        have h2:h%2=0\/h%2=1:=by omega
        rcases h2 with q|q
        · rw[q] at h1;exact h1.symm
        · rw[q] at h1;exact h1
      exact hf1,λx hx hb=>List.mem_singleton.1 (hin x hx hb)⟩)
  refine⟨hse,hd.stk,hd.inj,λk hk hlk=>?_,λA v S B he=>(hd.fra A v S B he).lay e0 (by omega) (λ_=>kM) (λk hk hke a c _=>?_),hcl.1,hcl.2⟩
  · have hlk:gI (s.laid.set (h/2).toNat true) (k/2)=true:=hlk
    show gI s.place (aI g k)≠0
    by_cases q:k/2=h/2
    · rw[(hends k hk q).1];exact hv
    · rw[dI e0 (by omega) (kM hk),if_neg q] at hlk
      exact hd.lof k hk hlk
  · obtain⟨p,q⟩:=hends k hk hke
    rw[p] at a;rw[q] at c
    exfalso
    have a:gI s.place v<=gI s.place (aI g h):=a
    have c:gI s.place (aI g h)<gI s.place v:=c
    omega
theorem gn.back(hm:b7 g)(hd:gn g s (A0++[(v,S)]))(hall:∀k,hf g k->gI s.place (aI g k)≠0->aI g k∉(A0++[(v,S)]).map Prod.fst->gI s.laid (k/2)=true)(hh:hf g h)(hv:aI g h=v)(hl:¬gI s.laid (h/2)=true)(hne:bM g h≠v)(hw:gI s.place (bM g h)≠0)
    (hse:eB g {hZ s (h/2) with low:=s.low.set v.toNat (min (gI s.low v) (gI s.place (bM g h)))} ((A0++[(v,S++[h/2])]).map Prod.fst)):
    gn g {hZ s (h/2) with low:=s.low.set v.toNat (min (gI s.low v) (gI s.place (bM g h)))} (A0++[(v,S++[h/2])]):=by
  have e0:=kM hh
  have e1:=jH hh
  have hl5:=hd.se.l5
  have hl2:=hd.se.l2
  have hvm:=hd.mem (p:=(v,S)) (by simp)
  have hlast:=hd.fra A0 v S [] rfl
  obtain⟨t1,t2,t3,t4⟩:=dZ (g:=g) hh
  -- the other end is on the path, ahead
  have hwp:bM g h∈A0.map Prod.fst:=by
    by_cases c:bM g h∈(A0++[(v,S)]).map Prod.fst
    · rw[List.map_append,List.mem_append] at c
      exact c.resolve_right (λk=>hne (by simpa using k))
    · exfalso
      have:=hall _ t1 (by rw[t3];exact hw) (by rw[t3];exact c)
      rw[t2] at this;exact hl this
  have hpw:gI s.place (bM g h)<gI s.place v:=by
    obtain⟨p,hp,e⟩:=List.mem_map.1 hwp
    rw[<-e];exact hlast.asc p hp
  have hlo:∀x,0<=x->gI (s.low.set v.toNat (min (gI s.low v) (gI s.place (bM g h)))) x=if x=v then min (gI s.low v) (gI s.place (bM g h)) else gI s.low x:=λx a=>c5 hvm.1.1 (by omega) a
  have hlv:gI (s.low.set v.toNat (min (gI s.low v) (gI s.place (bM g h)))) v=min (gI s.low v) (gI s.place (bM g h)):=by rw[hlo v hvm.1.1,if_pos rfl]
  have hle:∀x,0<=x->gI (s.low.set v.toNat (min (gI s.low v) (gI s.place (bM g h)))) x<=gI s.low x:=λx a=>by
    rw[hlo x a];split
    · rename_i k;rw[k];omega
    · omega
  have hends:∀k,hf g k->k/2=h/2->(aI g k=v/\bM g k=bM g h)\/(aI g k=bM g h/\bM g k=v):=λk hk he=>by
    rcases gO hk.1 hh.1 he with q|q
    · rw[q];exact .inl ⟨hv,rfl⟩
    · rw[q,t3,t4];exact .inr ⟨rfl,hv⟩
  have hmap:(A0++[(v,S++[h/2])]).map Prod.fst=(A0++[(v,S)]).map Prod.fst:=by simp
  -- the edge belongs to the edge by which v was found
  have hrel:∃A' q Q S',A0=A'++[(q,Q)]/\S=gI s.by_ v/2::S'/\aI g (gI s.by_ v)=q/\0<=gI s.by_ v:=by
    rcases hlast.own with⟨k,_⟩|k
    · rw[k] at hwp;exact absurd hwp List.not_mem_nil
    · exact k
  obtain⟨A',q,Q,S',ha1,ha2,ha3,ha4⟩:=hrel
  have hbv:=hd.to (v,S) (by simp) ha4
  have hvA:v∉A0.map Prod.fst:=λk=>by
    obtain⟨p,hp,e⟩:=List.mem_map.1 k
    have:=hlast.asc p hp
    rw[e] at this;omega
  have hqA:q∈A0.map Prod.fst:=by rw[ha1];simp
  have heq:EqB g (h/2) (gI s.by_ v/2):=by
    obtain⟨b1,b2,b3,b4⟩:=dZ (g:=g) hbv.1
    refine .rel ⟨h,gW (gI s.by_ v),hh,b1,rfl,b2,?_,?_,?_,?_⟩
    · rw[b3,hbv.2,hv]
    · rw[hv];exact hne
    · rw[b4,b3,hbv.2,ha3];exact λk=>hvA (by have k:q=v:=k;rw[<-k];exact hqA)
    · rw[b4,ha3,hv]
      exact(hd.wy (A:=A0) (B:=[(v,S)]) rfl _ hwp _ hqA).mono (λz hz k=>hvA (by rw[<-k];exact hz))
  have hclo:∀x,kG g (s.laid.set (h/2).toNat true) (s.edges++[h/2]) x↔kG g s.laid s.edges x:=λx=>jI e0 (by omega) hl
  refine⟨hse,?_,hd.inj,λk hk hlk=>?_,λA x Sx B he=>?_,λx hx=>hd.clr x ((hclo x).1 hx),λb b0 b1=>q7 e0 (by omega) hl (hd.clb b b0 b1)⟩
  · show s.edges++[h/2]=_
    rw[hd.stk];simp
  · have hlk:gI (s.laid.set (h/2).toNat true) (k/2)=true:=hlk
    show gI s.place (aI g k)≠0
    by_cases c:k/2=h/2
    · rcases hends k hk c with⟨r,_⟩|⟨r,_⟩
      · rw[r];exact hvm.2
      · rw[r];exact hw
    · rw[dI e0 (by omega) (kM hk),if_neg c] at hlk
      exact hd.lof k hk hlk
  · rw[hmap]
    rcases ga he with⟨k1,k2,k3⟩|⟨B0,k1,k2⟩
    · -- the last one
      obtain⟨rfl,rfl⟩:x=v/\Sx=S++[h/2]:=by simpa using k2
      subst k1 k3
      refine {hlast with own:=.inr ⟨A',q,Q,S'++[h/2],ha1,by rw[ha2];rfl,ha3,ha4⟩,eqb:=λy hy=>?_,end_:=λy hy=>?_,l1:=λk hk hlk a c d=>?_,l2:=?_,l3:=λhlt=>?_}
      · rcases List.mem_append.1 hy with j|j
        · exact hlast.eqb y j
        · rw[List.mem_singleton.1 j];exact heq
      · rcases List.mem_append.1 hy with j|j
        · exact hlast.end_ y j
        · exact⟨h,hh,(List.mem_singleton.1 j).symm,by rw[hv];exact Int.le_refl _⟩
      · have hlk:gI (s.laid.set (h/2).toNat true) (k/2)=true:=hlk
        have a:gI s.place x<=gI s.place (aI g k):=a
        have c:gI s.place (bM g k)<gI s.place x:=c
        refine⟨x,by simp,?_⟩
        show gI (s.low.set x.toNat _) x<=gI s.place (bM g k)
        rw[hlv]
        by_cases j:k/2=h/2
        · rcases hends k hk j with⟨r,r2⟩|⟨r,r2⟩
          · rw[r2];omega
          · rw[r2] at c;omega
        · rw[dI e0 (by omega) (kM hk),if_neg j] at hlk
          obtain⟨y,hy,hy2⟩:=hlast.l1 k hk hlk a c d
          have:y=x:=by simpa using hy
          rw[this] at hy2;omega
      · show gI (s.low.set x.toNat _) x<=gI s.place x
        rw[hlv];have:=hlast.l2;omega
      · have hlt:gI (s.low.set x.toNat (min (gI s.low x) (gI s.place (bM g h)))) x<gI s.place x:=hlt
        show∃k,hf g k/\gI (s.laid.set (h/2).toNat true) (k/2)=true/\gI s.place x<=gI s.place (aI g k)/\gI s.place (bM g k)=gI (s.low.set x.toNat _) x
        rw[hlv] at hlt ⊢
        by_cases j:gI s.place (bM g h)<=gI s.low x
        · refine⟨h,hh,?_,by rw[hv];exact Int.le_refl _,by omega⟩
          rw[dI e0 (by omega) e0,if_pos rfl]
        · obtain⟨k,c1,c2,c3,c4⟩:=hlast.l3 (by omega)
          refine⟨k,c1,?_,c3,by omega⟩
          rw[dI e0 (by omega) (kM c1)];split
          · rfl
          · exact c2
    · -- one ahead of it
      have hold:=hd.fra A x Sx (B0++[(v,S)]) (by rw[k1];simp)
      have hx:=hd.mem (p:=(x,Sx)) (by rw[k1];simp)
      have hxv:gI s.place x<gI s.place v:=hlast.asc (x,Sx) (by rw[k1];simp)
      have hxne:x≠v:=m8 hxv
      have hlx:gI (s.low.set v.toNat (min (gI s.low v) (gI s.place (bM g h)))) x=gI s.low x:=by rw[hlo x hx.1.1,if_neg hxne]
      subst k2
      refine {hold with l1:=λk hk hlk a c d=>?_,l2:=?_,l3:=λhlt=>?_}
      · have hlk:gI (s.laid.set (h/2).toNat true) (k/2)=true:=hlk
        have a:gI s.place x<=gI s.place (aI g k):=a
        have c:gI s.place (bM g k)<gI s.place x:=c
        show∃y∈x::(B0++[(v,S++[h/2])]).map Prod.fst,gI (s.low.set v.toNat _) y<=gI s.place (bM g k)
        by_cases j:k/2=h/2
        · rcases hends k hk j with⟨r,r2⟩|⟨r,r2⟩
          · exact⟨v,by simp,by rw[hlv,r2];omega⟩
          · rw[r2] at c;omega
        · rw[dI e0 (by omega) (kM hk),if_neg j] at hlk
          obtain⟨y,hy,hy2⟩:=hold.l1 k hk hlk a c d
          refine⟨y,by simpa using hy,?_⟩
          have hy0:0<=y:=by
            have:y∈(A0++[(v,S)]).map Prod.fst:=by
              rw[k1]
              simp only[List.map_append,List.map_cons,List.mem_append,List.mem_cons] at hy ⊢
              rcases hy with q|q|q|q
              · exact .inl (.inr (.inl q))
              · exact .inl (.inr (.inr q))
              · exact .inr (.inl q)
              · exact absurd q List.not_mem_nil
            exact(hd.se.pr y this).1.1
          have:=hle y hy0
          omega
      · show gI (s.low.set v.toNat _) x<=gI s.place x
        rw[hlx];exact hold.l2
      · have hlt:gI (s.low.set v.toNat (min (gI s.low v) (gI s.place (bM g h)))) x<gI s.place x:=hlt
        show∃k,hf g k/\gI (s.laid.set (h/2).toNat true) (k/2)=true/\gI s.place x<=gI s.place (aI g k)/\gI s.place (bM g k)=gI (s.low.set v.toNat _) x
        rw[hlx] at hlt ⊢
        obtain⟨k,c1,c2,c3,c4⟩:=hold.l3 hlt
        refine⟨k,c1,?_,c3,c4⟩
        rw[dI e0 (by omega) (kM c1)];split
        · rfl
        · exact c2
end TL
