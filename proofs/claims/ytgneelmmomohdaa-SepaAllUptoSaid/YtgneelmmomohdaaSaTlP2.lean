/- Plain texts of this claim, part 2. By an AI agent. -/
import Derived.Test.YtgneelmmomohdaaSaTlP1
import Derived.Carry
import Derived.Deep.Slices
import Derived.Laws.Externs
import Derived.Laws.FloatArith
import Derived.Laws.FloatBits
import Derived.Laws.NewFold
import Derived.Lib.SmallJoins
/-
  TlWalk: going through a net breadth first, and its components, as the program does.
  By an AI agent.
-/
set_option linter.all false
namespace TL
def bg(g:bz)(h:Int):Int:=pI (gI g.2 (h/2)) (1-h%2)
theorem eV{g:bz}(hm:aX g){h:Int}(h0:0<=h)(h1:h<2*(g.2.length:Int)):0<=bg g h/\bg g h<g.1:=by
 have hok:=hm.2.2.2 _ (br (xs:=g.2) (i:=h/2) (by omega) (by omega))
 unfold qw at hok
 unfold bg pI
 split<;>omega
structure Bf where
 order:List Int
 by_:List Int
 far:List Int
def fL(g:bz)(v:Int)(s:Bf)(h:Int):Bf:=
 if gI s.far (bg g h)<0 then⟨s.order++[bg g h],s.by_.set (bg g h).toNat h,s.far.set (bg g h).toNat (gI s.far v+1)⟩ else s
def ns(g:bz)(v:Int)(s:Bf):Bf:=(bO g v).foldl (fL g v) s
def mr(g:bz):Nat->Nat->Bf->Bf
 |0,_,s=>s
 |n+1,i,s=>if i<s.order.length then mr g n (i+1) (ns g (gI s.order (i:Int)) s) else s
def fj(g:bz)(s0:Int):Bf:=⟨[s0],List.replicate g.1.toNat (-1),(List.replicate g.1.toNat (-1)).set s0.toNat 0⟩
def d8(g:bz)(s0:Int):Bf:=mr g g.1.toNat 0 (fj g s0)
structure jP(g:bz)(s:Bf):Prop where
 far:(s.far.length:Int)=g.1
 by_:(s.by_.length:Int)=g.1
 nodup:s.order.Nodup
 rng:∀x∈s.order,0<=x/\x<g.1
 iff:∀w,0<=w->w<g.1->(gI s.far w<0↔w∉s.order)
 le:∀w,0<=w->w<g.1->gI s.far w<=s.order.length
theorem jP.start{g:bz}{s0:Int}(h0:0<=s0)(h1:s0<g.1):jP g (fj g s0):=by
 refine⟨by simp[fj];omega,by simp[fj];omega,by simp[fj],by simp[fj];omega,λw hw0 hw1=>?_,λw hw0 hw1=>?_⟩
 · simp only[fj]
   rw[bT h0 (by simp;omega) hw0]
   by_cases e:w=s0
   · subst e;simp
   · rw[if_neg e,fM hw0 (by omega)];simp[e]
 · simp only[fj]
   rw[bT h0 (by simp;omega) hw0]
   by_cases e:w=s0
   · subst e;simp
   · rw[if_neg e,fM hw0 (by omega)];simp
theorem jP.len{g:bz}{s:Bf}(h:jP g s)(hg:0<=g.1):(s.order.length:Int)<=g.1:=si hg h.nodup h.rng
theorem jP.one{g:bz}{s:Bf}{v h:Int}(hs:jP g s)(hv:v∈s.order)(h0:0<=bg g h)(h1:bg g h<g.1):jP g (fL g v s h):=by
 obtain⟨hv0,hv1⟩:=hs.rng v hv
 unfold fL
 by_cases c:gI s.far (bg g h)<0
 · rw[if_pos c]
   have hn:=(hs.iff _ h0 h1).1 c
   have hf:=hs.far
   have hlv:=hs.le v hv0 hv1
   refine⟨by simpa using hs.far,by simpa using hs.by_,?_,λx hx=>?_,λw hw0 hw1=>?_,λw hw0 hw1=>?_⟩
   · rw[List.nodup_append]
     refine⟨hs.nodup,by simp,λa ha b hb=>?_⟩
     obtain rfl:=List.mem_singleton.1 hb
     intro e;subst e;exact hn ha
   · rcases List.mem_append.1 hx with hx|hx
     · exact hs.rng x hx
     · obtain rfl:=List.mem_singleton.1 hx;exact⟨h0,h1⟩
   · simp only
     rw[bT h0 (by omega) hw0]
     by_cases e:w=bg g h
     · subst e
       rw[if_pos rfl]
       have hx:¬gI s.far v<0:=λhh=>(hs.iff v hv0 hv1).1 hh hv
       constructor
       · intro hh;omega
       · intro hh;simp at hh
     · rw[if_neg e,hs.iff w hw0 hw1];simp[e]
   · simp only
     rw[bT h0 (by omega) hw0]
     by_cases e:w=bg g h
     · subst e;rw[if_pos rfl];simp;omega
     · rw[if_neg e]
       have:=hs.le w hw0 hw1
       simp;omega
 · rw[if_neg c];exact hs
end TL
namespace TL
theorem cQ{g:bz}{v h:Int}(hh:h∈bO g v):(0<=h/\h<2*(g.2.length:Int))/\aA g h=v:=by
 unfold bO iY at hh
 obtain⟨h1,h2⟩:=List.mem_filter.1 hh
 obtain⟨k,hk,rfl⟩:=List.mem_map.1 h1
 have:=List.mem_range.1 hk
 exact⟨by omega,by simpa using h2⟩
theorem oN(g:bz)(v:Int)(s:Bf)(h:Int):∃t,(fL g v s h).order=s.order++t:=by
 unfold fL
 split
 · exact⟨_,rfl⟩
 · exact⟨[],by simp⟩
structure dY(s:Bf)(g:bz)(s0:Bf)(v:Int)(j:Nat):Prop where
  eq:s=((bO g v).take j).foldl (fL g v) s0
  ok:jP g s
  mem:v∈s.order
  pre:∃t,s.order=s0.order++t
theorem dY.start{g:bz}{s0:Bf}{v:Int}(h:jP g s0)(hv:v∈s0.order):dY s0 g s0 v 0:=⟨rfl,h,hv,[],by simp⟩
theorem dY.next{s s0:Bf}{g:bz}{v:Int}{j:Nat}(h:dY s g s0 v j)(hm:aX g)(hj:(j:Int)<(bO g v).length):dY (fL g v s (gI (bO g v) (j:Int))) g s0 v (j+1):=by
 have hin:=(cQ (br (xs:=bO g v) (i:=(j:Int)) (by omega) hj)).1
 have ht:=eV hm hin.1 hin.2
 obtain⟨t,ht2⟩:=h.pre
 obtain⟨t',ht3⟩:=oN g v s (gI (bO g v) (j:Int))
 refine⟨by rw[bC hj,List.foldl_append,<-h.eq];rfl,h.ok.one h.mem ht.1 ht.2,by rw[ht3];simp[h.mem],t++t',by rw[ht3,ht2,List.append_assoc]⟩
theorem dY.done{s s0:Bf}{g:bz}{v:Int}{j:Nat}(h:dY s g s0 v j)(hj:¬(j:Int)<(bO g v).length):s=ns g v s0:=by
 rw[h.eq,List.take_of_length_le (by omega)];rfl
structure fY(s:Bf)(g:bz)(s0:Int)(i:Nat):Prop where
  ok:jP g s
  le:(i:Int)<=s.order.length
  eq:mr g (g.1.toNat-i) i s=d8 g s0
theorem fY.start{g:bz}{s0:Int}(h0:0<=s0)(h1:s0<g.1):fY (fj g s0) g s0 0:=⟨jP.start h0 h1,by omega,rfl⟩
theorem fY.next{s s':Bf}{g:bz}{s0:Int}{i j:Nat}(h:fY s g s0 i)(hg:0<=g.1)(hi:(i:Int)<s.order.length)(hr:dY s' g s (gI s.order (i:Int)) j)(hj:¬(j:Int)<(bO g (gI s.order (i:Int))).length):fY s' g s0 (i+1):=by
 obtain⟨t,ht⟩:=hr.pre
 have hl:=h.ok.len hg
 refine⟨hr.ok,by rw[ht];simp;omega,?_⟩
 rw[<-h.eq,show g.1.toNat-i=(g.1.toNat-(i+1))+1 by omega]
 simp only[mr]
 rw[if_pos (by omega),hr.done hj]
theorem fY.done{s:Bf}{g:bz}{s0:Int}{i:Nat}(h:fY s g s0 i)(hi:¬(i:Int)<s.order.length):s=d8 g s0:=by
 rw[<-h.eq]
 cases g.1.toNat-i with
 |zero=>rfl
 |succ n=>simp only[mr];rw[if_neg (by omega)]
def jD(g:bz)(p:List Int×Int)(v:Int):List Int×Int:=
 if 0<=gI p.1 v then p else((d8 g v).order.foldl (λl w=>l.set w.toNat p.2) p.1,p.2+1)
def cS(g:bz)(k:Nat):List Int×Int:=(bp k).foldl (jD g) (List.replicate g.1.toNat (-1),0)
def bt(g:bz):List Int×Int×Int:=if aX g then((cS g g.1.toNat).1,(cS g g.1.toNat).2,0) else([],0,1)
theorem ji(g:bz)(k:Nat):cS g (k+1)=jD g (cS g k) (k:Int):=by
 unfold cS
 rw[cv,List.foldl_append];rfl
theorem pp(g:bz):∀k:Nat,(cS g k).1.length=g.1.toNat/\0<=(cS g k).2/\(cS g k).2<=k:=by
 intro k
 induction k with
 |zero=>simp[cS,bp]
 |succ k ih=>
   rw[ji]
   unfold jD
   have key:∀(l:List Int) (p:List Int) (x:Int),(l.foldl (λl w=>l.set w.toNat x) p).length=p.length:=by
     intro l
     induction l with
     |nil=>intro p x;rfl
     |cons a l ih=>intro p x;rw[List.foldl_cons,ih];simp
   split
   · exact⟨ih.1,ih.2.1,by omega⟩
   · simp only
     rw[key]
     exact⟨ih.1,by omega,by omega⟩
theorem oC{l p:List Int}{x:Int}{k:Nat}(hk:(k:Int)<l.length):(l.take (k+1)).foldl (λl w=>l.set w.toNat x) p=((l.take k).foldl (λl w=>l.set w.toNat x) p).set (gI l (k:Int)).toNat x:=by
 rw[bC hk,List.foldl_append];rfl
theorem gy(x:Int):∀(l p:List Int),(l.foldl (λl w=>l.set w.toNat x) p).length=p.length
 |[],p=>rfl
 |a::l,p=>by rw[List.foldl_cons,gy x l];simp
end TL
namespace TL
theorem oU{k n:Nat}{x:Int}(hk:k<n):(List.replicate k x++List.replicate (n-k) 0).set (k:Int).toNat x=List.replicate (k+1) x++List.replicate (n-(k+1)) (0:Int):=by
 have e:n-k=(n-(k+1))+1:=by omega
 rw[e,List.replicate_succ]
 simp only[Int.toNat_natCast]
 rw[List.set_append_right _ _ (by simp)]
 simp only[List.length_replicate,Nat.sub_self,List.set_cons_zero]
 rw[List.replicate_succ']
 simp
theorem e9.rl{out:List (List Int)}{g:bz}{k:Nat}(h:e9 out g k){v:Int}(h0:0<=v)(h1:v<g.1):((gI out v).length:Int)<=2*(k:Int):=by
 rw[h.at_ v h0 h1]
 have:=uZ g v k
 omega
theorem e9.rl2{out:List (List Int)}{g:bz}{k:Nat}(h:e9 out g k){u v:Int}(h2:0<=u)(h3:u<g.1)(h0:0<=v)(h1:v<g.1)(a:Int):((gI (out.set u.toNat (gI out u++[a])) v).length:Int)<=2*(k:Int)+1:=by
 have hl:=h.len
 rw[bT h2 (by omega) h0]
 split
 · have:=h.rl h2 h3;simp;omega
 · have:=h.rl h0 h1;omega
theorem e9.done{out:List (List Int)}{g:bz}{k:Nat}(h:e9 out g k)(hk:k=g.2.length):∀v,0<=v->v<g.1->gI out v=bO g v:=λv h0 h1=>by
 subst hk;exact h.at_ v h0 h1
theorem dY.yes{O B F:List Int}{s0:Bf}{g:bz}{v h:Int}{j:Nat}(hr:dY ⟨O,B,F⟩ g s0 v j)(hm:aX g)(hj:(j:Int)<(bO g v).length)(hh:h=gI (bO g v) (j:Int))(c:gI F (bg g h)<0):dY ⟨O++[bg g h],B.set (bg g h).toNat h,F.set (bg g h).toNat (gI F v+1)⟩ g s0 v (j+1):=by
 have h1:=hr.next hm hj
 rw[<-hh] at h1
 unfold fL at h1
 rw[if_pos (show gI (Bf.mk O B F).far (bg g h)<0 from c)] at h1
 exact h1
theorem dY.no{O B F:List Int}{s0:Bf}{g:bz}{v h:Int}{j:Nat}(hr:dY ⟨O,B,F⟩ g s0 v j)(hm:aX g)(hj:(j:Int)<(bO g v).length)(hh:h=gI (bO g v) (j:Int))(c:¬gI F (bg g h)<0):dY ⟨O,B,F⟩ g s0 v (j+1):=by
 have h1:=hr.next hm hj
 rw[<-hh] at h1
 unfold fL at h1
 rw[if_neg (show¬gI (Bf.mk O B F).far (bg g h)<0 from c)] at h1
 exact h1
theorem dY.facts{O B F:List Int}{s0:Bf}{g:bz}{v:Int}{j:Nat}(hr:dY ⟨O,B,F⟩ g s0 v j)(hg:0<=g.1):(F.length:Int)=g.1/\(B.length:Int)=g.1/\(O.length:Int)<=g.1/\(0<=v/\v<g.1)/\gI F v<=O.length/\¬gI F v<0:=by
 have h1:=hr.ok
 have hv:=h1.rng v hr.mem
 exact⟨h1.far,h1.by_,h1.len hg,hv,h1.le v hv.1 hv.2,λhh=>(h1.iff v hv.1 hv.2).1 hh hr.mem⟩
theorem fY.facts{O B F:List Int}{g:bz}{s0:Int}{i:Nat}(hr:fY ⟨O,B,F⟩ g s0 i)(hg:0<=g.1):(F.length:Int)=g.1/\(B.length:Int)=g.1/\(O.length:Int)<=g.1/\(i:Int)<=O.length:=⟨hr.ok.far,hr.ok.by_,hr.ok.len hg,hr.le⟩
theorem fY.node{O B F:List Int}{g:bz}{s0:Int}{i:Nat}(hr:fY ⟨O,B,F⟩ g s0 i)(hi:(i:Int)<O.length):0<=gI O (i:Int)/\gI O (i:Int)<g.1:=hr.ok.rng _ (br (by omega) hi)
theorem fY.row{O B F:List Int}{g:bz}{s0:Int}{i:Nat}(hr:fY ⟨O,B,F⟩ g s0 i)(hi:(i:Int)<O.length):dY ⟨O,B,F⟩ g ⟨O,B,F⟩ (gI O (i:Int)) 0:=dY.start hr.ok (br (by omega) hi)
theorem tc{g:bz}{s0:Int}{O B F:List Int}{i:Nat}(h:fY ⟨O,B,F⟩ g s0 i)(hi:¬(i:Int)<O.length):O=(d8 g s0).order/\∀x∈O,0<=x/\x<g.1:=⟨congrArg Bf.order (h.done hi),h.ok.rng⟩
end TL
namespace TL
theorem sF{g:bz}{part:List Int}{n:Int}{q:Nat}(h:part=(cS g q).1/\n=(cS g q).2)(c:0<=gI part (q:Int)):part=(cS g (q+1)).1/\n=(cS g (q+1)).2:=by
 have h1:cS g (q+1)=cS g q:=by
   rw[ji]
   unfold jD
   rw[if_pos (by rw[<-h.1];exact c)]
 rw[h1];exact h
theorem yx{g:bz}{part part2 O:List Int}{n:Int}{q j:Nat}(h:part=(cS g q).1/\n=(cS g q).2)(c:¬0<=gI part (q:Int))(hO:O=(d8 g (q:Int)).order)(hp:part2=(O.take j).foldl (λl w=>l.set w.toNat n) part)(hj:¬(j:Int)<O.length):part2=(cS g (q+1)).1/\n+1=(cS g (q+1)).2:=by
 rw[List.take_of_length_le (by omega)] at hp
 have h1:cS g (q+1)=((d8 g (q:Int)).order.foldl (λl w=>l.set w.toNat (cS g q).2) (cS g q).1,(cS g q).2+1):=by
   rw[ji]
   unfold jD
   rw[if_neg (by rw[<-h.1];exact c)]
 rw[h1]
 exact⟨by rw[hp,hO,h.1,h.2],by rw[h.2]⟩
theorem kb{g:bz}(hm:aX g){q:Nat}(hq:(q:Int)=g.1){part:List Int}{n:Int}(h:part=(cS g q).1/\n=(cS g q).2):part=(bt g).1/\n=(bt g).2.1/\0=(bt g).2.2:=by
 have e:q=g.1.toNat:=by omega
 subst e
 unfold bt
 rw[if_pos hm]
 exact⟨h.1,h.2,rfl⟩
end TL
namespace TL
end TL
/-
  TlRot2: rotations: faces of half-edges, first ones, parts, moved ones.
  By an AI agent.
-/
set_option linter.all false
namespace TL
def ar(g:bz):fG:=(List.range g.1.toNat).map λ(v:Nat)=>bO g (v:Int)
theorem e9.first{out:fG}{g:bz}{k:Nat}(h:e9 out g k)(hk:k=g.2.length):out=ar g:=by
 have hl:=h.len
 apply fp
 · simp[ar];omega
 · intro i hi
   rw[h.done hk _ (by omega) (by omega)]
   have:i<g.1.toNat:=by omega
   simp[ar,gI,this]
structure fh(out:fG)(g:bz)(h:Nat):Prop where
  len:(out.length:Int)=g.1
  at_:∀v,0<=v->v<g.1->gI out v=pF g v h
theorem fh.start{g:bz}(h:0<=g.1):fh (List.replicate g.1.toNat []) g 0:=⟨by simp;omega,λv h0 h1=>by rw[fM h0 (by omega)];simp[pF]⟩
theorem fh.next{out:fG}{g:bz}{h:Nat}(hi:fh out g h)(h0:0<=aA g h)(h1:aA g h<g.1):fh (out.set (aA g h).toNat (gI out (aA g h)++[(h:Int)])) g (h+1):=by
 have hl:=hi.len
 refine⟨by simpa using hl,λv h2 h3=>?_⟩
 rw[bT h0 (by omega) h2,uU]
 by_cases e:v=aA g (h:Int)
 · rw[if_pos e,if_pos e.symm,hi.at_ _ h0 h1,<-e]
 · rw[if_neg e,if_neg (λh=>e h.symm),hi.at_ v h2 h3]
theorem fh.bd{out:fG}{g:bz}{h:Nat}(hi:fh out g h){v:Int}(h0:0<=v)(h1:v<g.1):(gI out v).length<=h:=by
 rw[hi.at_ v h0 h1];exact yR g v h
theorem fh.done{out:fG}{g:bz}{h:Nat}(hi:fh out g h)(hh:h=2*g.2.length):out=ar g:=by
 have hl:=hi.len
 apply fp
 · simp[ar];omega
 · intro i hlt
   rw[hi.at_ _ (by omega) (by omega),xj g _ hh]
   have:i<g.1.toNat:=by omega
   simp[ar,gI,this]
end TL
/-
  TlTr: one of each class, how many classes there are; the components of a net.
  By an AI agent.
-/
set_option linter.all false
namespace TL
structure DE(D:Int->Prop)(R:Int->Int->Prop):Prop where
 rfl:∀x,D x->R x x
 symm:∀x y,D x->D y->R x y->R y x
 trans:∀x y z,D x->D y->D z->R x y->R y z->R x z
theorem qo{P:Int->Int->Prop}:∀(l l':List Int),l.Nodup->(∀x∈l,∃y∈l',P x y)->(∀x∈l,∀x'∈l,∀y,y∈l'->P x y->P x' y->x=x')->l.length<=l'.length
 |[],l',_,_,_=>by simp
 |a::l,l',hn,h1,h2=>by
   obtain⟨y,hy,hp⟩:=h1 a (by simp)
   have hn':=List.nodup_cons.1 hn
   have h3:=qo (P:=P) l (l'.erase y) hn'.2 (λx hx=>by
     obtain⟨z,hz,hq⟩:=h1 x (by simp[hx])
     refine⟨z,(List.mem_erase_of_ne (λe=>?_)).2 hz,hq⟩
     subst e
     have:=h2 a (by simp) x (by simp[hx]) z hz hp hq
     subst this
     exact hn'.1 hx) (λx hx x' hx' z hz=>h2 x (by simp[hx]) x' (by simp[hx']) z (List.mem_of_mem_erase hz))
   have h4:=List.length_erase_of_mem hy
   have h5:=List.length_pos_of_mem hy
   simp;omega
def fI(g:bz)(v:Int):Prop:=0<=v/\v<g.1
def Cn(g:bz)(u v:Int):Prop:=∀R:Int->Int->Prop,DE (fI g) R->(∀e∈g.2,R e.1 e.2)->R u v
theorem Cn.eqv(g:bz):DE (fI g) (Cn g):=
 ⟨λx hx R hR _=>hR.rfl x hx,λx y hx hy h R hR he=>hR.symm x y hx hy (h R hR he),λx y z hx hy hz h1 h2 R hR he=>hR.trans x y z hx hy hz (h1 R hR he) (h2 R hR he)⟩
theorem Cn.edge{g:bz}{e:Int×Int}(h:e∈g.2):Cn g e.1 e.2:=λR _ he=>he e h
theorem Cn.half{g:bz}(hm:aX g){h:Int}(h0:0<=h)(h1:h<2*(g.2.length:Int)):Cn g (aA g h) (bg g h):=by
 have hin:=br (xs:=g.2) (i:=h/2) (by omega) (by omega)
 have hok:=hm.2.2.2 _ hin
 have hc:=Cn.edge hin
 unfold aA bg pI
 have h2:h%2=0\/h%2=1:=by omega
 rcases h2 with e|e
 · rw[e];simpa using hc
 · rw[e]
   exact(Cn.eqv g).symm _ _ hok.1 hok.2 (by simpa using hc)
theorem xH{g:bz}{i:Nat}(hi:(i:Int)<g.2.length):2*(i:Int)∈bO g (gI g.2 (i:Int)).1/\2*(i:Int)+1∈bO g (gI g.2 (i:Int)).2/\bg g (2*(i:Int))=(gI g.2 (i:Int)).2/\bg g (2*(i:Int)+1)=(gI g.2 (i:Int)).1:=by
 have e1:(2*(i:Int))/2=i:=by omega
 have e2:(2*(i:Int))%2=0:=by omega
 have e3:(2*(i:Int)+1)/2=i:=by omega
 have e4:(2*(i:Int)+1)%2=1:=by omega
 refine⟨?_,?_,by unfold bg;rw[e1,e2];simp[pI],by unfold bg;rw[e3,e4];simp[pI]⟩
 · unfold bO iY
   refine List.mem_filter.2 ⟨List.mem_map.2 ⟨2*i,List.mem_range.2 (by omega),by push_cast;rfl⟩,?_⟩
   simp only[decide_eq_true_eq]
   unfold aA;rw[e1,e2];simp[pI]
 · unfold bO iY
   refine List.mem_filter.2 ⟨List.mem_map.2 ⟨2*i+1,List.mem_range.2 (by omega),by push_cast;rfl⟩,?_⟩
   simp only[decide_eq_true_eq]
   unfold aA;rw[e3,e4];simp[pI]
theorem vm{g:bz}{S:Int->Prop}(hS:∀x h,S x->h∈bO g x->S (bg g h)){u v:Int}(hc:Cn g u v):S u->S v:=by
 refine(hc (λu v=>S u↔S v) ⟨λ_ _=>Iff.rfl,λ_ _ _ _ h=>h.symm,λ_ _ _ _ _ _ h1 h2=>h1.trans h2⟩ (λe he=>?_)).1
 obtain⟨i,hi,rfl⟩:=List.mem_iff_getElem.1 he
 have e:gI g.2 (i:Int)=g.2[i]:=by simp[gI,hi]
 obtain⟨a,b,c,d⟩:=xH (g:=g) (i:=i) (by omega)
 rw[e] at a b c d
 exact⟨λh=>by rw[<-c];exact hS _ _ h a,λh=>by rw[<-d];exact hS _ _ h b⟩
theorem vO(g:bz)(v:Int)(s:Bf)(h:Int):∀x∈(fL g v s h).order,x∈s.order\/x=bg g h:=by
 intro x hx
 unfold fL at hx
 split at hx
 · rcases List.mem_append.1 hx with hx|hx
   · exact .inl hx
   · exact .inr (List.mem_singleton.1 hx)
 · exact .inl hx
theorem ph{g:bz}(hm:aX g){v:Int}:∀(l:List Int) (s:Bf),(∀h∈l,h∈bO g v)->jP g s->v∈s.order->
   jP g (l.foldl (fL g v) s)/\(∃t,(l.foldl (fL g v) s).order=s.order++t)/\(∀x∈(l.foldl (fL g v) s).order,x∈s.order\/∃h∈bO g v,x=bg g h)/\∀h∈l,bg g h∈(l.foldl (fL g v) s).order
 |[],s,_,hs,hv=>⟨hs,⟨[],by simp⟩,λx hx=>.inl hx,by simp⟩
 |a::l,s,hl,hs,hv=>by
   have hin:=(cQ (hl a (by simp))).1
   have ht:=eV hm hin.1 hin.2
   have h1:=hs.one (v:=v) (h:=a) hv ht.1 ht.2
   obtain⟨t,ht1⟩:=oN g v s a
   have ha:bg g a∈(fL g v s a).order:=by
     by_cases c:gI s.far (bg g a)<0
     · unfold fL;rw[if_pos c];simp
     · rw[ht1]
       have:bg g a∈s.order:=Classical.byContradiction λhn=>c ((hs.iff _ ht.1 ht.2).2 hn)
       simp[this]
   obtain⟨k1,⟨t2,k2⟩,k3,k4⟩:=ph hm l (fL g v s a) (λh hh=>hl h (by simp[hh])) h1 (by rw[ht1];simp[hv])
   rw[List.foldl_cons]
   refine⟨k1,⟨t++t2,by rw[k2,ht1,List.append_assoc]⟩,λx hx=>?_,λh hh=>?_⟩
   · rcases k3 x hx with hx|hx
     · rcases vO g v s a x hx with hx|hx
       · exact .inl hx
       · exact .inr ⟨a,hl a (by simp),hx⟩
     · exact .inr hx
   · rcases List.mem_cons.1 hh with rfl|hh
     · rw[k2];simp[ha]
     · exact k4 h hh
theorem tI{g:bz}(hm:aX g){s0:Int}:∀(n i:Nat) (s:Bf),jP g s->(∀x∈s.order,Cn g s0 x)->s0∈s.order->fI g s0->(∀q:Nat,q<i->(q:Int)<s.order.length->∀h∈bO g (gI s.order (q:Int)),bg g h∈s.order)->(g.1:Int)<=n+i->
   jP g (mr g n i s)/\(∀x∈(mr g n i s).order,Cn g s0 x)/\s0∈(mr g n i s).order/\∀x∈(mr g n i s).order,∀h∈bO g x,bg g h∈(mr g n i s).order
 |0,i,s,hs,hc,h0,hd,hq,hn=>by
   refine⟨hs,hc,h0,λx hx h hh=>?_⟩
   obtain⟨q,hq1,e⟩:=List.mem_iff_getElem.1 hx
   have hl:=hs.len hm.1
   change q<s.order.length at hq1
   have eq1:gI s.order (q:Int)=x:=by simp only[mr] at e;simp[gI,hq1,e]
   exact hq q (by omega) (by omega) h (by rw[eq1];exact hh)
 |n+1,i,s,hs,hc,h0,hd,hq,hn=>by
   simp only[mr]
   by_cases c:i<s.order.length
   · rw[if_pos c]
     have hv:=br (xs:=s.order) (i:=(i:Int)) (by omega) (by omega)
     obtain⟨k1,⟨t,k2⟩,k3,k4⟩:=ph hm (v:=gI s.order (i:Int)) (bO g (gI s.order (i:Int))) s (λh hh=>hh) hs hv
     have hvd:=hs.rng _ hv
     have hpre:∀q:Nat,(q:Int)<s.order.length->gI (ns g (gI s.order (i:Int)) s).order (q:Int)=gI s.order (q:Int):=λq hq'=>by
       unfold ns;rw[k2];unfold gI
       have:((q:Int)).toNat<s.order.length:=by omega
       simp only[Int.toNat_natCast] at this ⊢
       simp[List.getD_eq_getElem?_getD,List.getElem?_append_left this]
     refine tI hm n (i+1) (ns g (gI s.order (i:Int)) s) k1 (λx hx=>?_) (by unfold ns;rw[k2];simp[h0]) hd (λq hq1 hq2 h hh=>?_) (by omega)
     · rcases k3 x hx with hx|⟨h,hh,rfl⟩
       · exact hc x hx
       · have hin:=cQ hh
         have h1:=Cn.half hm hin.1.1 hin.1.2
         rw[hin.2] at h1
         exact(Cn.eqv g).trans _ _ _ hd hvd (eV hm hin.1.1 hin.1.2) (hc _ hv) h1
     · by_cases e:q=i
       · subst e
         rw[hpre q (by omega)] at hh
         exact k4 h hh
       · have hq3:(q:Int)<s.order.length:=by omega
         rw[hpre q hq3] at hh
         have:=hq q (by omega) hq3 h hh
         unfold ns;rw[k2];simp[this]
   · rw[if_neg c]
     refine⟨hs,hc,h0,λx hx h hh=>?_⟩
     obtain⟨q,hq1,e⟩:=List.mem_iff_getElem.1 hx
     have eq1:gI s.order (q:Int)=x:=by simp[gI,hq1,e]
     exact hq q (by omega) (by omega) h (by rw[eq1];exact hh)
theorem m8{g:bz}(hm:aX g){s0:Int}(h0:fI g s0):(∀x∈(d8 g s0).order,fI g x)/\∀x,x∈(d8 g s0).order↔Cn g s0 x:=by
 obtain⟨k1,k2,k3,k4⟩:=tI hm (s0:=s0) g.1.toNat 0 (fj g s0) (jP.start h0.1 h0.2) (by simp[fj];exact(Cn.eqv g).rfl s0 h0) (by simp[fj]) h0 (λq hq=>by omega) (by have:=hm.1;omega)
 refine⟨k1.rng,λx=>⟨k2 x,λhc=>?_⟩⟩
 exact vm (S:=λx=>x∈(d8 g s0).order) (λx h hx hh=>k4 x hx h hh) hc k3
theorem py{n:Int}:∀(O p:List Int) (v:Int),0<=v->v<p.length->(∀x∈O,0<=x/\x<p.length)->gI (O.foldl (λl w=>l.set w.toNat n) p) v=if v∈O then n else gI p v
 |[],p,v,h0,h1,_=>by simp
 |a::O,p,v,h0,h1,ho=>by
   have ha:=ho a (by simp)
   rw[List.foldl_cons,py O _ v h0 (by simpa using h1) (λx hx=>by simpa using ho x (by simp[hx])),bT ha.1 ha.2 h0]
   by_cases e:v=a
   · subst e;simp
   · by_cases hv:v∈O
     · simp[hv]
     · simp[hv,e]
end TL
/-
  TlDfs: components found by a stack: the document's way.
  By an AI agent.
-/
set_option linter.all false
namespace TL
def jl(c:List Int):Nat:=(c.filter λx=>decide (x<0)).length
theorem zb{c:List Int}{w n:Int}(h0:0<=w)(h1:w<c.length)(hc:gI c w<0)(hn:0<=n):jl (c.set w.toNat n)+1=jl c:=by
 have hlt:w.toNat<c.length:=by omega
 have e0:gI c w=c[w.toNat]:=by simp[gI,hlt]
 have e1:c=c.take w.toNat++c[w.toNat]::c.drop (w.toNat+1):=by
   rw[<-List.drop_eq_getElem_cons hlt,List.take_append_drop]
 have e2:c.set w.toNat n=c.take w.toNat++n::c.drop (w.toNat+1):=List.set_eq_take_append_cons_drop.trans (if_pos hlt)
 rw[e2]
 conv=>rhs;rw[e1]
 unfold jl
 rw[List.filter_append,List.filter_append,List.filter_cons,List.filter_cons,if_neg (by simp;omega),if_pos (by rw[<-e0];simpa using hc)]
 simp
 omega
theorem fE{g:bz}{v:Int}(h0:0<=v)(h1:v<g.1):gI (ar g) v=bO g v:=by
 unfold ar gI
 have:v.toNat<g.1.toNat:=by omega
 simp[List.getD_eq_getElem?_getD,this]
 congr 1
 omega
theorem pu(g:bz)(h:0<=g.1):((ar g).length:Int)=g.1:=by simp[ar];omega
section
variable{g:bz}{c0 c todo x:List Int}{n s:Int}
variable{v:Int}{k M:Nat}
end
end TL
/-
  TlFloat: floating numbers that are no NaN and have no sign: their bits, as a natural number, stand as they do; sums, roots and quotients of such.
  By an AI agent.
-/
set_option linter.all false
namespace TL
open Ieee
def pl(x:Nat):Nat:=x/4503599627370496-1
end TL
/-
  TlFl: floating numbers in a walk: what each operation comes to.
  By an AI agent.
-/
set_option linter.all false
namespace TL
open Go
instance:Rp Nat where
 sz:=1
 rep _ _ _ cs x:=cs=[.float .f64 x]
 len h:=by subst h;rfl
 one h:=by subst h;simp[Value.oneCell']
 tr _ _ h:=h
instance:Fl Nat where
 cells x:=[.float .f64 x]
 rep_iff:=Iff.rfl
section
variable{P:Program}{f:Fr}{w:World}{dst:Option Tmp}{ty:TypeId}{pos:String}{after:Array Edge}{g:Option (Nat×Bool)}{t t' s d:TypeId}{x y:Operand}{a b r:Nat}
variable{N:Value->World->Prop}
end
end TL
/-
  TlGeom: points with whole coordinates: turns, segments, how they meet.
  By an AI agent.
-/
set_option linter.all false
namespace TL
abbrev Pt:=Int×Int
def eX(x y:Int):Int:=if x<y then-1 else if y<x then 1 else 0
def Da(a b:Pt):Int:=a.1*b.2-a.2*b.1
def D1(b a:Pt):Pt:=(b.1-a.1,b.2-a.2)
def uX(a b c:Pt):Int:=eX (Da (D1 b a) (D1 c a)) 0
def BR(a b p:Pt):Prop:=(min a.1 b.1<=p.1/\p.1<=max a.1 b.1)/\min a.2 b.2<=p.2/\p.2<=max a.2 b.2
instance (a b p:Pt):Decidable (BR a b p):=by unfold BR;infer_instance
def xY(a b p:Pt):Prop:=uX a b p=0/\BR a b p
instance (a b p:Pt):Decidable (xY a b p):=by unfold xY;infer_instance
def sf(a b:Pt):Int:=if eX a.1 b.1≠0 then eX a.1 b.1 else eX a.2 b.2
def CZ(a b c d:Pt):Int:=
 let a':=if 0<sf a b then b else a
 let b':=if 0<sf a b then a else b
 let c':=if 0<sf c d then d else c
 let d':=if 0<sf c d then c else d
 let low:=if 0<sf c' a' then c' else a'
 let high:=if sf d' b'<0 then d' else b'
 if 0<sf low high then 0 else if sf low high=0 then 2 else 3
def iq(a b c d:Pt):Int:=
 if uX a b c=0/\uX a b d=0/\uX c d a=0/\uX c d b=0 then CZ a b c d
 else if uX a b c*uX a b d<0/\uX c d a*uX c d b<0 then 1
 else if xY a b c\/xY a b d\/xY c d a\/xY c d b then 2 else 0
def key(p:Pt):Int:=p.1*1073741824+p.2
def DB(p:Pt):Prop:=(-4194304<=p.1/\p.1<=4194304)/\ -4194304<=p.2/\p.2<=4194304
end TL
namespace TL
def Cw(p:Pt):Prop:=(-1048576<=p.1/\p.1<=1048576)/\ -1048576<=p.2/\p.2<=1048576
instance (p:Pt):Decidable (Cw p):=by unfold Cw;infer_instance
theorem Cw.bd{p:Pt}(h:Cw p):DB p:=by unfold Cw at h;unfold DB;omega
def Dr(ps:List Pt):Prop:=ps.length<=4096/\∀p∈ps,Cw p
instance (ps:List Pt):Decidable (Dr ps):=by unfold Dr;infer_instance
def sG:List Int->Int
 |[]=>0
 |x::l=>if x=0 then sG l else x
theorem xb{l:List Int}{k:Nat}(h:∀j:Nat,j<k->gI l (j:Int)=0)(hk:(k:Int)<l.length)(hx:gI l (k:Int)≠0):gI l (k:Int)=sG l:=by
 induction l generalizing k with
 |nil=>simp at hk;omega
 |cons a l ih=>
   cases k with
   |zero=>
     have e:gI (a::l) ((0:Nat):Int)=a:=by simp[gI]
     rw[e] at hx ⊢
     unfold sG;rw[if_neg hx]
   |succ k=>
     have e:∀j:Nat,gI (a::l) ((j+1:Nat):Int)=gI l (j:Int):=λj=>by simp[gI]
     have e0:gI (a::l) ((0:Nat):Int)=a:=by simp[gI]
     have h0:=h 0 (by omega)
     rw[e0] at h0
     rw[e] at hx ⊢
     unfold sG;rw[if_pos h0]
     exact ih (λj hj=>by rw[<-e];exact h (j+1) (by omega)) (by simp at hk;omega) hx
theorem xe{l:List Int}{k:Nat}(h:∀j:Nat,j<k->gI l (j:Int)=0)(hk:¬(k:Int)<l.length):0=sG l:=by
 induction l generalizing k with
 |nil=>rfl
 |cons a l ih=>
   have e:∀j:Nat,gI (a::l) ((j+1:Nat):Int)=gI l (j:Int):=λj=>by simp[gI]
   have e0:gI (a::l) ((0:Nat):Int)=a:=by simp[gI]
   simp at hk
   have h0:=h 0 (by omega)
   rw[e0] at h0
   unfold sG;rw[if_pos h0]
   exact ih (k:=k-1) (λj hj=>by rw[<-e];exact h (j+1) (by omega)) (by omega)
def tS(p:Pt):Int:=if 0<p.1\/p.1=0/\0<p.2 then 0 else 1
section
variable{a b c d:Pt}
end
end TL
/-
  TlGeomM: meeting segments: moved, turned, named another way about; what ends they share.
  By an AI agent.
-/
set_option linter.all false
namespace TL
section
variable{a b c d:Pt}
def oh(a b c d e:Pt):Prop:=xY a b e/\xY c d e
instance (a b c d e:Pt):Decidable (oh a b c d e):=by unfold oh;infer_instance
def wf(a b c d:Pt):Prop:=uX a b c*uX a b d<0/\uX c d a*uX c d b<0
instance (a b c d:Pt):Decidable (wf a b c d):=by unfold wf;infer_instance
end
end TL
/-
  TlGeomR: what is told of many points: areas, boxes, whether a polyline is simple.
  By an AI agent.
-/
set_option linter.all false
namespace TL
def qh(ps:List Pt):Prop:=4<=(ps.length:Int)/\gI ps 0=gI ps ((ps.length:Int)-1)
instance (ps:List Pt):Decidable (qh ps):=by unfold qh;infer_instance
def tL(ps:List Pt)(i k:Nat):Prop:=k=i+1\/i=0/\(k:Int)=(ps.length:Int)-2/\qh ps
instance (ps:List Pt)(i k:Nat):Decidable (tL ps i k):=by unfold tL;infer_instance
def Dz(ps:List Pt)(i k:Nat):Int:=iq (gI ps (i:Int)) (gI ps ((i:Int)+1)) (gI ps (k:Int)) (gI ps ((k:Int)+1))
def BT(ps:List Pt)(i k:Nat):Prop:=tL ps i k/\Dz ps i k=3\/¬tL ps i k/\Dz ps i k≠0
instance (ps:List Pt)(i k:Nat):Decidable (BT ps i k):=by unfold BT;infer_instance
def C0(ps:List Pt)(i:Nat):Prop:=gI ps (i:Int)≠gI ps ((i:Int)+1)/\∀k<ps.length,i<k->(k:Int)<=(ps.length:Int)-2->¬BT ps i k
instance (ps:List Pt)(i:Nat):Decidable (C0 ps i):=by unfold C0;infer_instance
def Cy(ps:List Pt):Prop:=∀i<ps.length,(i:Int)<=(ps.length:Int)-2->C0 ps i
instance (ps:List Pt):Decidable (Cy ps):=by unfold Cy;infer_instance
section
variable{ps:List Pt}
variable{i k:Nat}
end
end TL
/-
  TlGeomS: polylines gone back, and two of them named the other way about.
  By an AI agent.
-/
set_option linter.all false
namespace TL
abbrev Sg:=Pt×Pt
def yG(ps:List Pt):Nat->List Sg
 |0=>[]
 |k+1=>yG ps k++[(gI ps (k:Int),gI ps ((k:Int)+1))]
def Ak(ps:List Pt):List Sg:=if ps.length=1 then[(gI ps 0,gI ps 0)] else yG ps (ps.length-1)
def Ba(ps:List Pt):Pt:=gI ps ((ps.length:Int)-1)
def Bq(ps:List Pt)(p:Pt):Prop:=p=gI ps 0\/p=Ba ps
instance (ps:List Pt)(p:Pt):Decidable (Bq ps p):=by unfold Bq;infer_instance
def A5(q:List Pt)(s t:Sg)(x:Pt):Prop:=Bq q x/\xY s.1 s.2 x/\xY t.1 t.2 x
instance (q:List Pt)(s t:Sg)(x:Pt):Decidable (A5 q s t x):=by unfold A5;infer_instance
def z8(p q:List Pt)(s t:Sg):Prop:=A5 q s t (gI p 0)\/A5 q s t (Ba p)
instance (p q:List Pt)(s t:Sg):Decidable (z8 p q s t):=by unfold z8;infer_instance
def Bp(p q:List Pt)(s t:Sg):Prop:=iq s.1 s.2 t.1 t.2=3\/iq s.1 s.2 t.1 t.2≠0/\¬z8 p q s t
instance (p q:List Pt)(s t:Sg):Decidable (Bp p q s t):=by unfold Bp;infer_instance
def D3(p q:List Pt):Prop:=∀s∈Ak p,∀t∈Ak q,¬Bp p q s t
instance (p q:List Pt):Decidable (D3 p q):=by unfold D3;infer_instance
section
variable{p q:List Pt}
end
end TL
namespace TL
section
variable{p q:List Pt}{i k:Nat}
variable{s t:Sg}
end
end TL
namespace TL
section
variable{p q:List Pt}{s t:Sg}{i:Nat}
end
end TL
/-
  TlGeomB: a box holds all points, and each of its sides has one; how many ends two segments share.
  By an AI agent.
-/
set_option linter.all false
namespace TL
def BY(p:Pt->Bool)(ps:List Pt):Nat->Bool
 |0=>false
 |k+1=>BY p ps k||p (gI ps (k:Int))
theorem rL{p:Pt->Bool}{ps:List Pt}:∀{k:Nat} {j:Nat},j<k->p (gI ps (j:Int))=true->BY p ps k=true
 |0,j,hj,_=>by omega
 |k+1,j,hj,h=>by
   unfold BY
   by_cases e:j=k
   · subst e;rw[h];simp
   · rw[rL (by omega) h];simp
section
variable{a b c d:Pt}{ends:List Pt}{k:Nat}
end
end TL
namespace TL
end TL
/-
  TlGeomX: polylines: the document's way and the code's.
  By an AI agent.
-/
set_option linter.all false
namespace TL
section
variable{a b c d:Pt}
end
section
variable{ps:List Pt}{i k:Nat}
end
def BF(but:List Pt)(s t:Sg):Prop:=iq s.1 s.2 t.1 t.2=3\/(iq s.1 s.2 t.1 t.2=1/\¬∃x∈but,oh s.1 s.2 t.1 t.2 x)\/((iq s.1 s.2 t.1 t.2≠0/\iq s.1 s.2 t.1 t.2≠1)/\∃e∈[s.1,s.2,t.1,t.2],oh s.1 s.2 t.1 t.2 e/\e∉but)
instance (but:List Pt)(s t:Sg):Decidable (BF but s t):=by unfold BF;infer_instance
def CJ(p q but:List Pt):Prop:=∃s∈Ak p,∃t∈Ak q,BF but s t
instance (p q but:List Pt):Decidable (CJ p q but):=by unfold CJ;infer_instance
section
variable{p q B:List Pt}
end
end TL
namespace TL
section
variable{p q but:List Pt}{i k:Nat}
variable{s t:Sg}
def Cc(s t:Sg)(but:List Pt)(k:Nat):Bool:=BY (λx=>decide (oh s.1 s.2 t.1 t.2 x)) but k
theorem wV{f:Pt->Bool}{ps:List Pt}:∀{k:Nat},BY f ps k=true->∃j:Nat,j<k/\f (gI ps (j:Int))=true
 |0,h=>by simp[BY] at h
 |k+1,h=>by
   unfold BY at h
   rcases Bool.or_eq_true _ _▸h with h|h
   · obtain⟨j,hj,e⟩:=wV h
     exact⟨j,by omega,e⟩
   · exact⟨k,by omega,h⟩
theorem Aj{j:Nat}(hj:¬(j:Int)<but.length)(hj2:j<=but.length):Cc s t but j=true↔∃x∈but,oh s.1 s.2 t.1 t.2 x:=by
 unfold Cc
 constructor
 · intro h
   obtain⟨i,hi,e⟩:=wV h
   exact⟨_,br (by omega) (by omega),of_decide_eq_true e⟩
 · rintro⟨x,hx,h⟩
   obtain⟨i,hi,rfl⟩:=List.mem_iff_getElem.1 hx
   have e:gI but (i:Int)=but[i]:=by unfold gI;rw[Int.toNat_natCast,List.getD_eq_getElem?_getD,List.getElem?_eq_getElem hi];rfl
   exact rL (j:=i) (by omega) (by rw[e];exact decide_eq_true h)
theorem AJ(h:iq s.1 s.2 t.1 t.2=3):BF but s t:=.inl h
theorem DF(h:iq s.1 s.2 t.1 t.2=0):¬BF but s t:=by
 unfold BF;rw[h];simp
theorem Dx(h:iq s.1 s.2 t.1 t.2=1){j:Nat}(hj:¬(j:Int)<but.length)(hj2:j<=but.length){b:Bool}(hb:b=Cc s t but j)(h1:¬b=true):BF but s t:=
 .inr (.inl ⟨h,λhe=>h1 (hb.trans ((Aj hj hj2).2 he))⟩)
end
end TL
/-
  TlAround: points round another one: the order, its laws, the list that is sorted by it.
  By an AI agent.
-/
set_option linter.all false
namespace TL
def Dc(p:Pt):Int:=p.1*p.1+p.2*p.2
def DJ(a b:Pt)(i k:Int):Prop:=tS a<tS b\/tS a=tS b/\(Da a b<0\/Da a b=0/\(Dc a<Dc b\/Dc a=Dc b/\i<k))
def vA(o:Pt)(ps:List Pt)(i:Int):Pt:=D1 (gI ps i) o
def DL(o:Pt)(ps:List Pt)(i k:Int):Prop:=DJ (vA o ps i) (vA o ps k) i k
def DI(o:Pt)(ps:List Pt)(k:Nat)(l:List Int):Prop:=l.Pairwise (DL o ps)/\∀x,x∈l↔0<=x/\x<(k:Int)
section
variable{o:Pt}{ps:List Pt}{k:Nat}{l l':List Int}
open Classical in
noncomputable def arL (o:Pt) (ps:List Pt):List Int:=if h:∃l,DI o ps ps.length l then choose h else[]
end
section
variable{o:Pt}{ps:List Pt}{k:Nat}{l:List Int}{q:Int}
end
section
variable{o:Pt}{ps:List Pt}
end
end TL
/-
  TlJudge: plots: their flaws, as the code and the document gather them.
  By an AI agent.
-/
set_option linter.all false
namespace TL
abbrev DN:=Int×Int×Int
abbrev ot:=List Pt×List (List Pt)
section
variable{β:Type}{f h:Nat->List β}{k n:Nat}{x:β}{F B:List β}
end
def fl{β:Type}(p:Prop)[Decidable p](x:β):List β:=if p then[x] else[]
section
variable{β:Type}{p:Prop}[Decidable p]{x:β}
end
def Dy(l:List Pt):Prop:=2<=(l.length:Int)/\Dr l
instance (l:List Pt):Decidable (Dy l):=by unfold Dy;infer_instance
def Bn(g:bz)(p:ot)(e:Int):Prop:=gI (gI p.2 e) 0=gI p.1 (gI g.2 e).1/\gI (gI p.2 e) (((gI p.2 e).length:Int)-1)=gI p.1 (gI g.2 e).2
instance (g:bz)(p:ot)(e:Int):Decidable (Bn g p e):=by unfold Bn;infer_instance
def B6(l:List Pt)(q:Pt):Prop:=∃s∈yG l (l.length-1),xY s.1 s.2 q
instance (l:List Pt)(q:Pt):Decidable (B6 l q):=by unfold B6;infer_instance
def yi(s t:Sg)(but:List Pt):Prop:=iq s.1 s.2 t.1 t.2=0\/(iq s.1 s.2 t.1 t.2=1\/iq s.1 s.2 t.1 t.2=2)/\∃x∈but,oh s.1 s.2 t.1 t.2 x
instance (s t:Sg)(but:List Pt):Decidable (yi s t but):=by unfold yi;infer_instance
def D8(a b but:List Pt):Prop:=∀s∈yG a (a.length-1),∀t∈yG b (b.length-1),yi s t but
instance (a b but:List Pt):Decidable (D8 a b but):=by unfold D8;infer_instance
section
variable{g:bz}{p:ot}
end
end TL
namespace TL
section
variable{l:List Pt}{p:Pt}{i:Nat}
end
section
variable{a b c d:Pt}{but:List Pt}{k:Nat}{m:Int}
end
def Dq(p:ot)(h:Int):Pt:=if h%2=0 then gI (gI p.2 (h/2)) 1 else gI (gI p.2 (h/2)) (((gI p.2 (h/2)).length:Int)-2)
def Dg(u v:Pt):Int:=u.1*v.1+u.2*v.2
def wH(u v:Pt):Prop:=Da u v=0/\0<Dg u v
instance (u v:Pt):Decidable (wH u v):=by unfold wH;infer_instance
end TL
namespace TL
end TL
namespace TL
section
variable{g:bz}{p:ot}{F G B:List DN}{v e k i:Nat}
end
section
variable{g:bz}{p:ot}{e f:Int}
end
section
variable{a b but:List Pt}{i k:Nat}
end
section
variable{g:bz}{p:ot}{e f:Nat}{b:Bool}
end
end TL
/-
  TlJudge2: what is told of a plot; its rotation.
  By an AI agent.
-/
set_option linter.all false
namespace TL
section
variable{p:ot}{l:List Pt}{a b:Bool}{i k:Nat}
end
section
variable{g:bz}{p:ot}
end
def D9(p:ot)(l:List Int):List Pt:=l.map (Dq p)
def BQ(p:ot)(o:Pt)(l:List Int):Prop:=∃j:Nat,j<l.length/\0<j/\wH (D1 (gI (D9 p l) (gI (arL o (D9 p l)) ((j:Int)-1))) o) (D1 (gI (D9 p l) (gI (arL o (D9 p l)) (j:Int))) o)
noncomputable instance (p:ot) (o:Pt) (l:List Int):Decidable (BQ p o l):=by unfold BQ;infer_instance
def CR(g:bz)(p:ot):Prop:=∃v:Nat,v<g.1.toNat/\BQ p (gI p.1 (v:Int)) (bO g (v:Int))
noncomputable instance (g:bz) (p:ot):Decidable (CR g p):=by unfold CR;infer_instance
end TL
/-
  TlZf: weights: floating numbers that are at ib 0, of either sign of 0: in sums and comparisons such a one stands for its magnitude (zf).
  By an AI agent.
-/
set_option linter.all false
namespace TL
open Ieee
def zf(x:Nat):Nat:=x%9223372036854775808
open Go
end TL
/-
  TlPq: a heap of places (how far, which node), as container/heap keeps it: what is taken is the ib, and nothing else is lost.
  By an AI agent.
-/
set_option linter.all false
namespace TL
abbrev Pl:=Nat×Int
def rr(a b:Pl):Prop:=a.1<b.1\/a.1=b.1/\a.2<b.2
instance (a b:Pl):Decidable (rr a b):=by unfold rr;infer_instance
theorem sw(a:Pl):¬rr a a:=by unfold rr;omega
theorem BB{a b:Pl}(h:rr a b):¬rr b a:=by unfold rr at*;omega
theorem zH{a b:Pl}(h1:¬rr a b)(h2:¬rr b a):a=b:=by
 unfold rr at*
 exact Prod.ext (by omega) (by omega)
def Bc(xs:List Pl)(i:Nat):Pl:=gI xs (i:Int)
def DC(xs:List Pl)(i j:Nat):List Pl:=(xs.set i (Bc xs j)).set j (Bc xs i)
def Ds(xs:List Pl)(i n:Nat):Nat:=if 2*i+1+1<n/\rr (Bc xs (2*i+1+1)) (Bc xs (2*i+1)) then 2*i+1+1 else 2*i+1
def dn:Nat->List Pl->Nat->Nat->List Pl
 |0,xs,_,_=>xs
 |k+1,xs,i,n=>if n<=2*i+1 then xs else if rr (Bc xs (Ds xs i n)) (Bc xs i) then dn k (DC xs i (Ds xs i n)) (Ds xs i n) n else xs
def up:Nat->List Pl->Nat->List Pl
 |0,xs,_=>xs
 |k+1,xs,j=>if(j-1)/2=j\/¬rr (Bc xs j) (Bc xs ((j-1)/2)) then xs else up k (DC xs ((j-1)/2) j) ((j-1)/2)
end TL
namespace TL
end TL
/-
  TlWay: ways of the ib weight (package path): what From tells, as the document does it (the nearest node that is not settled, again and again), and that a heap of waiting nodes finds the same.
  By an AI agent.
-/
set_option linter.all false
namespace TL
abbrev FS:=List Nat×List Int
-- what is picked
-- once all are settled no more rounds matter
end TL
namespace TL
end TL
/-
  TlBlk: blocks by a walk depth first with a stack of edges, as the program does it, and what its walk may rely on.
  By an AI agent.
-/
set_option linter.all false
namespace TL
structure Bs where
 place:List Int
 low:List Int
 by_:List Int
 next:List Int
 found:Int
 edges:List Int
 laid:List Bool
 block:List Int
 count:Int
def qu(l:List Int)(x:Int):Nat:=l.length-1-l.reverse.idxOf x
def ec(s:Bs)(first:Int):Bs:=
 {s with block:=(s.edges.drop (qu s.edges first)).foldl (λb e=>b.set e.toNat s.count) s.block,edges:=s.edges.take (qu s.edges first),count:=s.count+1}
def gh(s:Bs)(v:Int):Bs:={s with found:=s.found+1,place:=s.place.set v.toNat (s.found+1),low:=s.low.set v.toNat (s.found+1)}
def iM(s:Bs)(e:Int):Bs:={s with laid:=s.laid.set e.toNat true,edges:=s.edges++[e]}
def eC(g:bz)(s:Bs)(v h:Int):Bs×Int×Bool:=
 if gI s.laid (h/2)=true then(s,0,false)
 else if bg g h=v then(ec (iM s (h/2)) (h/2),0,false)
 else if gI s.place (bg g h)=0 then(gh {iM s (h/2) with by_:=s.by_.set (bg g h).toNat h} (bg g h),bg g h,true)
 else({iM s (h/2) with low:=s.low.set v.toNat (min (gI s.low v) (gI s.place (bg g h)))},0,false)
def dP(g:bz)(s:Bs)(v:Int):Bs:=
 if gI s.by_ v<0 then s
 else
   let u:=aA g (gI s.by_ v)
   let s1:Bs:={s with low:=s.low.set u.toNat (min (gI s.low u) (gI s.low v))}
   if gI s1.place u<=gI s1.low v then ec s1 (gI s.by_ v/2) else s1
def dF(g:bz)(s:Bs)(path:List Int)(u:Int):Bs×List Int:=
 if gI s.next u=((gI (ar g) u).length:Int) then(dP g s u,path.dropLast)
 else
   let h:=gI (gI (ar g) u) (gI s.next u)
   let t:=eC g {s with next:=s.next.set u.toNat (gI s.next u+1)} u h
   (t.1,if t.2.2=true then path++[t.2.1] else path)
def sR(g:bz):Nat->Bs->List Int->Bs
 |0,s,_=>s
 |n+1,s,path=>if path=[] then s else sR g n (dF g s path (gI path ((path.length:Int)-1))).1 (dF g s path (gI path ((path.length:Int)-1))).2
def cq(g:bz)(s:Bs)(path:List Int):Nat:=2*(((bp g.1.toNat).map λv=>((gI (ar g) v).length-(gI s.next v).toNat)).sum)+path.length
def gu(g:bz)(s:Bs)(v:Int):Bs:=sR g (cq g (gh s v) [v]) (gh s v) [v]
def i9(g:bz):Bs:=⟨List.replicate g.1.toNat 0,List.replicate g.1.toNat 0,List.replicate g.1.toNat (-1),List.replicate g.1.toNat 0,0,[],List.replicate g.2.length false,List.replicate g.2.length 0,0⟩
def dC(g:bz)(k:Nat):Bs:=(bp k).foldl (λs v=>if gI s.place v=0 then gu g s v else s) (i9 g)
def fU(by_:List Int)(path:List Int):List Int:=path.tail.map λv=>gI by_ v/2
structure eU(g:bz)(s:Bs)(path:List Int):Prop where
  l1:(s.place.length:Int)=g.1
  l2:(s.low.length:Int)=g.1
  l3:(s.by_.length:Int)=g.1
  l4:(s.next.length:Int)=g.1
  l5:(s.laid.length:Int)=g.2.length
  l6:(s.block.length:Int)=g.2.length
  nx:∀v,0<=v->v<g.1->0<=gI s.next v/\gI s.next v<=((gI (ar g) v).length:Int)
  pl:∀v,0<=v->v<g.1->0<=gI s.place v/\gI s.place v<=s.found
  f0:0<=s.found
  fn:s.found+(s.place.count 0:Int)=g.1
  by_:∀v,0<=v->v<g.1->gI s.by_ v= -1\/((0<=gI s.by_ v/\gI s.by_ v<2*(g.2.length:Int))/\bg g (gI s.by_ v)=v/\gI s.place v≠0)
  en:s.edges.Nodup
  el:∀e∈s.edges,(0<=e/\e<(g.2.length:Int))/\gI s.laid e=true
  ct:0<=s.count
  cl:s.count+(s.edges.length:Int)<=(s.laid.count true:Int)
  pn:path.Nodup
  pr:∀v∈path,(0<=v/\v<g.1)/\gI s.place v≠0
  p0:∀v,path.head? =some v->gI s.by_ v= -1
  pt:∀v∈path.tail,0<=gI s.by_ v
  pe:(fU s.by_ path).Sublist s.edges
variable{g:bz}{s:Bs}{path:List Int}{e v w u hh:Int}
theorem nJ{x:Int}{n:Nat}{v:Int}(h0:0<=v)(h1:v<n):gI (List.replicate n x) v=x:=by
 obtain⟨k,rfl⟩:∃k:Nat,v=(k:Int):=⟨v.toNat,by omega⟩
 have:k<n:=by omega
 simp[gI,this]
theorem jR{l:List Int}{i:Nat}(hi:i<l.length){x:Int}(h0:l[i]=0)(hx:x≠0):(l.set i x).count 0+1=l.count 0:=by
 have hp:0<l.count 0:=List.count_pos_iff.2 (h0▸List.getElem_mem hi)
 rw[List.count_set hi,h0]
 simp[hx]
 omega
theorem np{l:List Bool}{i:Nat}(hi:i<l.length)(h0:l[i]=false):(l.set i true).count true=l.count true+1:=by
 rw[List.count_set hi,h0]
 simp
theorem AA{l:List Bool}{i:Int}(h0:0<=i)(h1:i<l.length):∃h:i.toNat<l.length,gI l i=l[i.toNat]:=⟨by omega,by
 have:i.toNat<l.length:=by omega
 simp[gI,this]⟩
theorem uh{l:List Int}{i:Int}(h0:0<=i)(h1:i<l.length):∃h:i.toNat<l.length,gI l i=l[i.toNat]:=⟨by omega,by
 have:i.toNat<l.length:=by omega
 simp[gI,this]⟩
theorem eU.start(hm:aX g):eU g (i9 g) []:=by
 have h0:=hm.1
 have r0:∀{x:Int} {v:Int},0<=v->v<g.1->gI (List.replicate g.1.toNat x) v=x:=λa b=>nJ a (by omega)
 refine⟨by simp[i9];omega,by simp[i9];omega,by simp[i9];omega,by simp[i9];omega,by simp[i9],by simp[i9],λv a b=>?_,λv a b=>?_,Int.le_refl _,?_,λv a b=>.inl (r0 a b),List.nodup_nil,λe he=>absurd he List.not_mem_nil,Int.le_refl _,?_,List.nodup_nil,λv hv=>absurd hv List.not_mem_nil,λv hv=>by simp at hv,λv hv=>absurd hv List.not_mem_nil,List.Sublist.refl _⟩
 · show 0<=gI (List.replicate g.1.toNat (0:Int)) v/\_<=_
   rw[show gI (i9 g).next v=gI (List.replicate g.1.toNat (0:Int)) v from rfl,r0 a b];omega
 · show 0<=gI (List.replicate g.1.toNat (0:Int)) v/\gI (List.replicate g.1.toNat (0:Int)) v<=0
   rw[r0 a b];omega
 · show(0:Int)+((List.replicate g.1.toNat (0:Int)).count 0:Int)=g.1
   rw[List.count_replicate];simp;omega
 · show(0:Int)+((([]:List Int)).length:Int)<=((List.replicate g.2.length false).count true:Int)
   simp
theorem eU.lay(h:eU g s path)(e0:0<=e)(e1:e<(g.2.length:Int))(hl:¬gI s.laid e=true):eU g (iM s e) path/\e∉s.edges:=by
  have hl5:=h.l5
  obtain⟨hi,hg⟩:=AA (l:=s.laid) e0 (by omega)
  have hne:e∉s.edges:=λk=>hl (h.el e k).2
  have hf:s.laid[e.toNat]=false:=by rw[<-hg];simpa using hl
  have hc:=np hi hf
  refine⟨⟨h.l1,h.l2,h.l3,h.l4,by show((s.laid.set e.toNat true).length:Int)=_;rw[List.length_set];exact hl5,h.l6,h.nx,h.pl,h.f0,h.fn,h.by_,?_,λx hx=>?_,h.ct,?_,h.pn,h.pr,h.p0,h.pt,h.pe.trans (List.sublist_append_left ..)⟩,hne⟩
  · show(s.edges++[e]).Nodup
    rw[List.nodup_append]
    exact⟨h.en,by simp,λa ha b hb=>by rw[List.mem_singleton.1 hb];exact λk=>hne (by rw[<-k];exact ha)⟩
  · show(0<=x/\x<_)/\gI (s.laid.set e.toNat true) x=true
    rcases List.mem_append.1 hx with k|k
    · obtain⟨a,b⟩:=h.el x k
      refine⟨a,?_⟩
      rw[bT e0 (by omega) a.1]
      split
      · rfl
      · exact b
    · rw[List.mem_singleton.1 k]
      exact⟨⟨e0,e1⟩,by rw[bT e0 (by omega) e0,if_pos rfl]⟩
  · show s.count+((s.edges++[e]).length:Int)<=((s.laid.set e.toNat true).count true:Int)
    rw[hc,List.length_append,List.length_singleton]
    have:=h.cl;omega
theorem tw{A B:List Int}{x:Int}(hB:x∉B):qu (A++x::B) x=A.length:=by
 unfold qu
 rw[List.reverse_append,List.reverse_cons,List.append_assoc,List.idxOf_append]
 rw[if_neg (by simpa using hB)]
 simp
theorem sV{l:List Int}{x:Int}(hn:l.Nodup)(hx:x∈l):∃A B,l=A++x::B/\x∉A/\x∉B/\qu l x=A.length:=by
 obtain⟨A,B,e⟩:=List.append_of_mem hx
 have hn':=hn
 rw[e,List.nodup_append] at hn'
 have h1:x∉B:=(List.nodup_cons.1 hn'.2.1).1
 have h2:x∉A:=λk=>hn'.2.2 x k x (List.mem_cons_self ..) rfl
 exact⟨A,B,e,h2,h1,by rw[e];exact tw h1⟩
theorem oe(c:Int):∀(l b:List Int),(l.foldl (λb e=>b.set e.toNat c) b).length=b.length
 |[],b=>rfl
 |x::l,b=>by rw[List.foldl_cons,oe c l,List.length_set]
theorem eU.close(h:eU g s path)(he:e∈s.edges)(hp:(fU s.by_ path).Sublist (s.edges.take (qu s.edges e))):eU g (ec s e) path:=by
  obtain⟨A,B,e1,_,_,e2⟩:=sV h.en he
  have hlt:qu s.edges e<s.edges.length:=by rw[e2,e1];simp
  have hs:(s.edges.take (qu s.edges e)).Sublist s.edges:=List.take_sublist _ _
  refine⟨h.l1,h.l2,h.l3,h.l4,h.l5,?_,h.nx,h.pl,h.f0,h.fn,h.by_,hs.nodup h.en,λx hx=>h.el x (hs.subset hx),by show 0<=s.count+1;have:=h.ct;omega,?_,h.pn,h.pr,h.p0,h.pt,hp⟩
  · show(((s.edges.drop (qu s.edges e)).foldl (λb x=>b.set x.toNat s.count) s.block).length:Int)=_
    rw[oe];exact h.l6
  · show s.count+1+((s.edges.take (qu s.edges e)).length:Int)<=(s.laid.count true:Int)
    rw[List.length_take]
    have:=h.cl;omega
theorem eU.lows(h:eU g s path)(x:Int)(k:Nat):eU g {s with low:=s.low.set k x} path:=
  {h with l2:=by show((s.low.set k x).length:Int)=_;rw[List.length_set];exact h.l2}
theorem eU.nexts(h:eU g s path)(u0:0<=u)(u1:u<g.1)(hn:¬gI s.next u=((gI (ar g) u).length:Int)):eU g {s with next:=s.next.set u.toNat (gI s.next u+1)} path:=
  {h with
    l4:=by show((s.next.set u.toNat _).length:Int)=_;rw[List.length_set];exact h.l4
    nx:=λx a b=>by
      show 0<=gI (s.next.set u.toNat (gI s.next u+1)) x/\gI (s.next.set u.toNat (gI s.next u+1)) x<=_
      rw[bT u0 (by have:=h.l4;omega) a]
      obtain⟨c,d⟩:=h.nx x a b
      split
      · rename_i k
        subst k
        obtain⟨c,d⟩:=h.nx x u0 u1
        omega
      · exact⟨c,d⟩}
theorem qd{b b':List Int}{p:List Int}(h:∀x∈p.tail,gI b x=gI b' x):fU b p=fU b' p:=by
 unfold fU
 exact List.map_congr_left λx hx=>by rw[h x hx]
theorem lO{b:List Int}{p:List Int}(hp:p≠[])(x:Int):fU b (p++[x])=fU b p++[gI b x/2]:=by
 unfold fU
 cases p with
 |nil=>exact absurd rfl hp
 |cons a l=>simp
theorem eU.grow(h:eU g s path)(hp:path≠[])(w0:0<=w)(w1:w<g.1)(hw:gI s.place w=0)(h0:0<=hh)(h1:hh<2*(g.2.length:Int))(ht:bg g hh=w)(he:(fU s.by_ path++[hh/2]).Sublist s.edges):
    eU g (gh {s with by_:=s.by_.set w.toNat hh} w) (path++[w]):=by
  have l1:=h.l1
  have l2:=h.l2
  have l3:=h.l3
  have f0:=h.f0
  have hwp:w∉path:=λk=>(h.pr w k).2 hw
  have gp:∀x,0<=x->gI (s.place.set w.toNat (s.found+1)) x=if x=w then s.found+1 else gI s.place x:=λx a=>bT w0 (by omega) a
  have gb:∀x,0<=x->gI (s.by_.set w.toNat hh) x=if x=w then hh else gI s.by_ x:=λx a=>bT w0 (by omega) a
  obtain⟨hi,hg⟩:=uh (l:=s.place) w0 (by omega)
  have hc:=jR hi (x:=s.found+1) (by rw[<-hg];exact hw) (by omega)
  refine⟨by show((s.place.set _ _).length:Int)=_;rw[List.length_set];exact l1,by show((s.low.set _ _).length:Int)=_;rw[List.length_set];exact l2,by show((s.by_.set _ _).length:Int)=_;rw[List.length_set];exact l3,h.l4,h.l5,h.l6,h.nx,λx a b=>?_,by show 0<=s.found+1;omega,?_,λx a b=>?_,h.en,h.el,h.ct,h.cl,?_,λx hx=>?_,λx hx=>?_,λx hx=>?_,?_⟩
  · show 0<=gI (s.place.set w.toNat (s.found+1)) x/\gI (s.place.set w.toNat (s.found+1)) x<=s.found+1
    rw[gp x a]
    have:=h.pl x a b
    split<;>omega
  · show s.found+1+((s.place.set w.toNat (s.found+1)).count 0:Int)=g.1
    have:=h.fn;omega
  · show gI (s.by_.set w.toNat hh) x= -1\/(0<=gI (s.by_.set w.toNat hh) x/\gI (s.by_.set w.toNat hh) x<_)/\bg g (gI (s.by_.set w.toNat hh) x)=x/\gI (s.place.set w.toNat (s.found+1)) x≠0
    rw[gb x a,gp x a]
    by_cases k:x=w
    · rw[if_pos k,if_pos k]
      exact .inr ⟨⟨h0,h1⟩,by rw[ht,k],by omega⟩
    · rw[if_neg k,if_neg k];exact h.by_ x a b
  · rw[List.nodup_append]
    exact⟨h.pn,by simp,λa ha b hb=>by rw[List.mem_singleton.1 hb];exact λk=>hwp (by rw[<-k];exact ha)⟩
  · show(0<=x/\x<g.1)/\gI (s.place.set w.toNat (s.found+1)) x≠0
    rcases List.mem_append.1 hx with k|k
    · obtain⟨a,b⟩:=h.pr x k
      refine⟨a,?_⟩
      rw[gp x a.1];split
      · omega
      · exact b
    · rw[List.mem_singleton.1 k]
      exact⟨⟨w0,w1⟩,by rw[gp w w0,if_pos rfl];omega⟩
  · show gI (s.by_.set w.toNat hh) x= -1
    cases hpe:path with
    |nil=>exact absurd hpe hp
    |cons a l=>
      rw[hpe] at hx
      have hxa:a=x:=by simpa using hx
      have hxp:x∈path:=by rw[hpe,<-hxa];exact List.mem_cons_self ..
      rw[gb x (h.pr x hxp).1.1,if_neg (λk=>hwp (by rw[<-k];exact hxp))]
      exact h.p0 x (by rw[hpe,hxa];rfl)
  · show 0<=gI (s.by_.set w.toNat hh) x
    have hx2:x∈path.tail\/x=w:=by
      cases hpe:path with
      |nil=>exact absurd hpe hp
      |cons a l=>
        rw[hpe] at hx
        simpa using hx
    rcases hx2 with k|k
    · have hxp:x∈path:=List.mem_of_mem_tail k
      rw[gb x (h.pr x hxp).1.1,if_neg (λj=>hwp (by rw[<-j];exact hxp))]
      exact h.pt x k
    · rw[k,gb w w0,if_pos rfl];exact h0
  · show(fU (s.by_.set w.toNat hh) (path++[w])).Sublist s.edges
    rw[lO hp,gb w w0,if_pos rfl,qd (b':=s.by_) (λx hx=>?_)]
    · exact he
    · have hxp:x∈path:=List.mem_of_mem_tail hx
      rw[gb x (h.pr x hxp).1.1,if_neg (λj=>hwp (by rw[<-j];exact hxp))]
theorem eU.first(h:eU g s [])(v0:0<=v)(v1:v<g.1)(hv:gI s.place v=0):eU g (gh s v) [v]:=by
  have l1:=h.l1
  have l2:=h.l2
  have f0:=h.f0
  have gp:∀x,0<=x->gI (s.place.set v.toNat (s.found+1)) x=if x=v then s.found+1 else gI s.place x:=λx a=>bT v0 (by omega) a
  obtain⟨hi,hg⟩:=uh (l:=s.place) v0 (by omega)
  have hc:=jR hi (x:=s.found+1) (by rw[<-hg];exact hv) (by omega)
  refine⟨by show((s.place.set _ _).length:Int)=_;rw[List.length_set];exact l1,by show((s.low.set _ _).length:Int)=_;rw[List.length_set];exact l2,h.l3,h.l4,h.l5,h.l6,h.nx,λx a b=>?_,by show 0<=s.found+1;omega,?_,λx a b=>?_,h.en,h.el,h.ct,h.cl,by simp,λx hx=>?_,λx hx=>?_,λx hx=>absurd hx List.not_mem_nil,List.nil_sublist _⟩
  · show 0<=gI (s.place.set v.toNat (s.found+1)) x/\gI (s.place.set v.toNat (s.found+1)) x<=s.found+1
    rw[gp x a]
    have:=h.pl x a b
    split<;>omega
  · show s.found+1+((s.place.set v.toNat (s.found+1)).count 0:Int)=g.1
    have:=h.fn;omega
  · show gI s.by_ x= -1\/(0<=gI s.by_ x/\gI s.by_ x<_)/\bg g (gI s.by_ x)=x/\gI (s.place.set v.toNat (s.found+1)) x≠0
    rcases h.by_ x a b with k|⟨k1,k2,k3⟩
    · exact .inl k
    · refine .inr ⟨k1,k2,?_⟩
      rw[gp x a];split
      · omega
      · exact k3
  · rw[List.mem_singleton.1 hx]
    exact⟨⟨v0,v1⟩,by show gI (s.place.set v.toNat (s.found+1)) v≠0;rw[gp v v0,if_pos rfl];omega⟩
  · have:v=x:=by simpa using hx
    rw[<-this]
    rcases h.by_ v v0 v1 with k|⟨_,_,k⟩
    · exact k
    · exact absurd hv k
theorem jK(hp:path≠[]):path=path.dropLast++[gI path ((path.length:Int)-1)]:=by
 have e:gI path ((path.length:Int)-1)=path.getLast hp:=by
   have h:0<path.length:=List.length_pos_iff.2 hp
   have e1:((path.length:Int)-1).toNat=path.length-1:=by omega
   have h2:path.length-1<path.length:=by omega
   unfold gI
   rw[e1,List.getLast_eq_getElem,List.getD_eq_getElem?_getD,List.getElem?_eq_getElem h2]
   rfl
 rw[e];exact(List.dropLast_concat_getLast hp).symm
theorem eU.drop(h:eU g s path):eU g s path.dropLast:=by
  have hs:(path.dropLast).Sublist path:=List.dropLast_sublist _
  have ht:(path.dropLast.tail).Sublist path.tail:=hs.tail
  refine {h with pn:=hs.nodup h.pn,pr:=λv hv=>h.pr v (hs.subset hv),p0:=λv hv=>h.p0 v ?_,pt:=λv hv=>h.pt v (ht.subset hv),pe:=?_}
  · cases hp:path with
    |nil=>rw[hp] at hv;simp at hv
    |cons a l=>
      rw[hp] at hv
      cases l with
      |nil=>simp at hv
      |cons b l=>simpa using hv
  · unfold fU
    exact(ht.map _).trans h.pe
theorem yP{X A B:List Int}{x:Int}(h:(X++[x]).Sublist (A++x::B))(hA:x∉A)(hB:x∉B):X.Sublist A:=by
 obtain⟨l1,l2,e,h1,h2⟩:=List.sublist_append_iff.1 h
 by_cases hl2:l2=[]
 · subst hl2
   rw[List.append_nil] at e
   exact absurd (h1.subset (by rw[<-e];simp)) hA
 · obtain⟨l,y,rfl⟩:∃l y,l2=l++[y]:=⟨l2.dropLast,l2.getLast hl2,(List.dropLast_concat_getLast hl2).symm⟩
   have e2:X++[x]=(l1++l)++[y]:=by rw[e,List.append_assoc]
   obtain⟨e3,e4⟩:=List.append_inj' e2 rfl
   have ey:y=x:=by simpa using e4.symm
   subst ey
   cases l with
   |nil=>rw[e3,List.append_nil];exact h1
   |cons z l=>
     exfalso
     rw[List.cons_append] at h2
     rcases List.sublist_cons_iff.1 h2 with k|⟨r,k1,k2⟩
     · exact hB (k.subset (by simp))
     · have:r=l++[y]:=by
         injection k1 with _ q
         exact q.symm
       rw[this] at k2
       exact hB (k2.subset (by simp))
theorem eU.top(h:eU g s path)(hp:path≠[])(hv:v=gI path ((path.length:Int)-1))(hb:¬gI s.by_ v<0):gI s.by_ v/2∈s.edges/\(fU s.by_ path.dropLast).Sublist (s.edges.take (qu s.edges (gI s.by_ v/2))):=by
  have e0:=jK hp
  rw[<-hv] at e0
  have hd:path.dropLast≠[]:=by
    intro k
    rw[k] at e0
    have:=h.p0 v (by rw[e0];rfl)
    omega
  have pe:=h.pe
  rw[e0,lO hd] at pe
  have hm:gI s.by_ v/2∈s.edges:=pe.subset (by simp)
  obtain⟨A,B,e1,hA,hB,e2⟩:=sV h.en hm
  refine⟨hm,?_⟩
  have:s.edges.take (qu s.edges (gI s.by_ v/2))=A:=by
    rw[e2]
    conv=>lhs;rw[e1]
    simp
  rw[this]
  rw[e1] at pe
  exact yP pe hA hB
theorem eU.leave(hm:aX g)(h:eU g s path)(hp:path≠[])(hv:v=gI path ((path.length:Int)-1)):eU g (dP g s v) path.dropLast:=by
 unfold dP
 by_cases c:gI s.by_ v<0
 · rw[if_pos c];exact h.drop
 · rw[if_neg c]
   obtain⟨h1,h2⟩:=h.top hp hv c
   simp only
   have hl:=h.lows (min (gI s.low (aA g (gI s.by_ v))) (gI s.low v)) (aA g (gI s.by_ v)).toNat
   split
   · exact hl.drop.close (s:={s with low:=s.low.set (aA g (gI s.by_ v)).toNat (min (gI s.low (aA g (gI s.by_ v))) (gI s.low v))}) h1 h2
   · exact hl.drop
theorem eU.take(hm:aX g)(h:eU g s path)(hp:path≠[])(h0:0<=hh)(h1:hh<2*(g.2.length:Int)):eU g (eC g s v hh).1 (if(eC g s v hh).2.2=true then path++[(eC g s v hh).2.1] else path):=by
 have ht:=eV hm h0 h1
 unfold eC
 by_cases c:gI s.laid (hh/2)=true
 · rw[if_pos c];exact h
 · rw[if_neg c]
   obtain⟨hl,hn⟩:=h.lay (e:=hh/2) (by omega) (by omega) c
   by_cases c2:bg g hh=v
   · rw[if_pos c2]
     show eU g (ec (iM s (hh/2)) (hh/2)) path
     refine hl.close (by show hh/2∈s.edges++[hh/2];simp) ?_
     have e:qu (s.edges++[hh/2]) (hh/2)=s.edges.length:=tw (A:=s.edges) (B:=[]) List.not_mem_nil
     show(fU s.by_ path).Sublist ((s.edges++[hh/2]).take (qu (s.edges++[hh/2]) (hh/2)))
     rw[e,List.take_left']
     · exact h.pe
     · rfl
   · rw[if_neg c2]
     by_cases c3:gI s.place (bg g hh)=0
     · rw[if_pos c3]
       show eU g (gh {iM s (hh/2) with by_:=s.by_.set (bg g hh).toNat hh} (bg g hh)) (path++[bg g hh])
       exact hl.grow hp ht.1 ht.2 c3 h0 h1 rfl (h.pe.append (List.Sublist.refl _))
     · rw[if_neg c3]
       show eU g {iM s (hh/2) with low:=s.low.set v.toNat (min (gI s.low v) (gI s.place (bg g hh)))} path
       exact hl.lows _ _
theorem eU.step(hm:aX g)(h:eU g s path)(hp:path≠[])(hu:u=gI path ((path.length:Int)-1)):eU g (dF g s path u).1 (dF g s path u).2:=by
 have hup:u∈path:=by
   have:=jK hp
   rw[<-hu] at this
   rw[this];simp
 obtain⟨⟨u0,u1⟩,_⟩:=h.pr u hup
 unfold dF
 by_cases c:gI s.next u=((gI (ar g) u).length:Int)
 · rw[if_pos c];exact h.leave hm hp hu
 · rw[if_neg c]
   obtain⟨n0,n1⟩:=h.nx u u0 u1
   have hin:gI (gI (ar g) u) (gI s.next u)∈gI (ar g) u:=br n0 (by omega)
   rw[fE u0 u1] at hin
   have ho:=(cQ hin).1
   rw[<-fE u0 u1] at ho
   exact(h.nexts u0 u1 c).take hm hp ho.1 ho.2
end TL
/-
  TlBlk2: the walk that finds blocks: it ends; all of it.
  By an AI agent.
-/
set_option linter.all false
namespace TL
variable{g:bz}{s:Bs}{path:List Int}{e v w u hh:Int}
theorem qE{f f':Int->Nat}{u:Int}:∀{l:List Int},l.Nodup->u∈l->(∀x∈l,x≠u->f x=f' x)->f u=f' u+1->(l.map f).sum=(l.map f').sum+1
 |[],_,hu,_,_=>absurd hu List.not_mem_nil
 |a::l,hn,hu,hx,he=>by
   have hn':=List.nodup_cons.1 hn
   simp only[List.map_cons,List.sum_cons]
   by_cases c:a=u
   · subst c
     have:l.map f=l.map f':=List.map_congr_left λx hxl=>hx x (List.mem_cons_of_mem _ hxl) (λk=>hn'.1 (by rw[<-k];exact hxl))
     rw[this,he];omega
   · have h2:=qE hn'.2 ((List.mem_cons.1 hu).resolve_left (λk=>c k.symm)) (λx hxl=>hx x (List.mem_cons_of_mem _ hxl)) he
     rw[h2,hx a (List.mem_cons_self ..) c];omega
theorem vH(h:eU g s path)(u0:0<=u)(u1:u<g.1)(hn:¬gI s.next u=((gI (ar g) u).length:Int))(p:List Int):cq g s p=cq g {s with next:=s.next.set u.toNat (gI s.next u+1)} p+2:=by
 have e1:cq g {s with next:=s.next.set u.toNat (gI s.next u+1)} p=2*(((bp g.1.toNat).map λv=>((gI (ar g) v).length-(gI (s.next.set u.toNat (gI s.next u+1)) v).toNat)).sum)+p.length:=rfl
 rw[e1]
 unfold cq
 have hl:=h.l4
 obtain⟨n0,n1⟩:=h.nx u u0 u1
 have:=qE (f:=λv=>(gI (ar g) v).length-(gI s.next v).toNat) (f':=λv=>(gI (ar g) v).length-(gI (s.next.set u.toNat (gI s.next u+1)) v).toNat) (u:=u) (fm g.1.toNat) (ch.2 ⟨u0,by omega⟩) (λx hx hxu=>by
   show _=(gI (ar g) x).length-(gI (s.next.set u.toNat (gI s.next u+1)) x).toNat
   rw[bT u0 (by omega) (ch.1 hx).1,if_neg hxu]) (by
   show(gI (ar g) u).length-(gI s.next u).toNat=(gI (ar g) u).length-(gI (s.next.set u.toNat (gI s.next u+1)) u).toNat+1
   rw[bT u0 (by omega) u0,if_pos rfl]
   omega)
 rw[this];omega
theorem kg:(dP g s v).next=s.next:=by
 unfold dP
 split
 · rfl
 · simp only;split<;>rfl
theorem vJ:(eC g s v hh).1.next=s.next:=by
 unfold eC
 split
 · rfl
 · split
   · rfl
   · split<;>rfl
theorem nP{s':Bs}(h:s'.next=s.next)(p:List Int):cq g s' p=cq g s p:=by unfold cq;rw[h]
theorem jG(h:eU g s path)(hp:path≠[])(hu:u=gI path ((path.length:Int)-1)):cq g (dF g s path u).1 (dF g s path u).2<cq g s path:=by
 have hup:u∈path:=by
   have:=jK hp
   rw[<-hu] at this
   rw[this];simp
 obtain⟨⟨u0,u1⟩,_⟩:=h.pr u hup
 have hl:0<path.length:=List.length_pos_iff.2 hp
 unfold dF
 by_cases c:gI s.next u=((gI (ar g) u).length:Int)
 · rw[if_pos c]
   show cq g (dP g s u) path.dropLast<_
   rw[nP kg]
   unfold cq
   rw[List.length_dropLast];omega
 · rw[if_neg c]
   simp only
   rw[nP vJ]
   have h2:=vH h u0 u1 c path
   have h3:∀p:List Int,p.length<=path.length+1->cq g {s with next:=s.next.set u.toNat (gI s.next u+1)} p<=cq g {s with next:=s.next.set u.toNat (gI s.next u+1)} path+1:=λp hp=>by unfold cq;omega
   have h4:=h3 (if(eC g {s with next:=s.next.set u.toNat (gI s.next u+1)} u (gI (gI (ar g) u) (gI s.next u))).2.2=true then path++[(eC g {s with next:=s.next.set u.toNat (gI s.next u+1)} u (gI (gI (ar g) u) (gI s.next u))).2.1] else path) (by split<;>simp)
   omega
structure gz(g:bz)(R s:Bs)(path:List Int):Prop where
  i:eU g s path
  res:∃f,cq g s path<=f/\sR g f s path=R
theorem gz.start(h:eU g s [])(v0:0<=v)(v1:v<g.1)(hv:gI s.place v=0):gz g (gu g s v) (gh s v) [v]:=⟨h.first v0 v1 hv,_,Nat.le_refl _,rfl⟩
theorem gz.step(hm:aX g){R:Bs}(h:gz g R s path)(hp:path≠[])(hu:u=gI path ((path.length:Int)-1)):gz g R (dF g s path u).1 (dF g s path u).2/\cq g (dF g s path u).1 (dF g s path u).2<cq g s path:=by
 have hl:=jG h.i hp hu
 refine⟨⟨h.i.step hm hp hu,?_⟩,hl⟩
 obtain⟨f,f1,f2⟩:=h.res
 cases f with
 |zero=>omega
 |succ f=>
   refine⟨f,by omega,?_⟩
   unfold sR at f2
   rw[if_neg hp,<-hu] at f2
   exact f2
theorem gz.done{R:Bs}(h:gz g R s []):s=R:=by
 obtain⟨f,_,e⟩:=h.res
 rw[<-e]
 cases f with
 |zero=>rfl
 |succ f=>unfold sR;rw[if_pos rfl]
theorem D4(hm:aX g):∀(f:Nat) (s:Bs) (path:List Int),eU g s path->cq g s path<=f->eU g (sR g f s path) []
 |0,s,path,h,hf=>by
   have:path=[]:=List.length_eq_zero_iff.1 (by unfold cq at hf;omega)
   subst this
   exact h
 |f+1,s,path,h,hf=>by
   unfold sR
   by_cases c:path=[]
   · rw[if_pos c];rw[c] at h;exact h
   · rw[if_neg c]
     have:=jG h c rfl
     exact D4 hm f _ _ (h.step hm c rfl) (by omega)
theorem Bw(hm:aX g)(h:eU g s [])(v0:0<=v)(v1:v<g.1)(hv:gI s.place v=0):eU g (gu g s v) []:=D4 hm _ _ _ (h.first v0 v1 hv) (Nat.le_refl _)
theorem ij(g:bz)(k:Nat):dC g (k+1)=if gI (dC g k).place (k:Int)=0 then gu g (dC g k) (k:Int) else dC g k:=by
 unfold dC
 rw[cv,List.foldl_append];rfl
theorem B7(hm:aX g):∀k:Nat,(k:Int)<=g.1->eU g (dC g k) []
 |0,_=>eU.start hm
 |k+1,h=>by
   have ih:=B7 hm k (by omega)
   rw[ij]
   split
   · exact Bw hm ih (by omega) (by omega) ‹_›
   · exact ih
end TL
/-
  TlWayH: From with a heap: what holds while it runs.
  By an AI agent.
-/
set_option linter.all false
namespace TL
-- down
-- up
-- all of it
theorem ut{α:Type}[Inhabited α]{n:Nat}{x:α}{v:Int}(h0:0<=v)(h1:v<n):gI (List.replicate n x) v=x:=by
 obtain⟨k,rfl⟩:∃k:Nat,v=(k:Int):=⟨v.toNat,by omega⟩
 have:k<n:=by omega
 simp[gI,this]
end TL
/-
  TlBlk3: blocks by the numbers of their ib edges, cut nodes, bridges: what package block tells; a bridge is alone in its block.
  By an AI agent.
-/
set_option linter.all false
namespace TL
variable{g:bz}{l:List Int}{k:Nat}{b e:Int}
def aR(l:List Int):Nat->List Int×List Int
  |0=>([],[])
  |k+1=>
    let sn:=if gI l (k:Int)∈(aR l k).1 then(aR l k).1 else(aR l k).1++[gI l (k:Int)]
    (sn,(aR l k).2++[((sn.idxOf (gI l (k:Int)):Nat):Int)])
theorem jy(l:List Int):∀k,(aR l k).2.length=k/\(aR l k).1.length<=k
 |0=>⟨rfl,Nat.le_refl _⟩
 |k+1=>by
   obtain⟨a,b⟩:=jy l k
   unfold aR
   refine⟨by simp[a],?_⟩
   simp only
   split
   · omega
   · rw[List.length_append,List.length_singleton];omega
theorem wS(l:List Int)(k:Nat):(aR l k).1.length<=(aR l (k+1)).1.length:=by
 conv=>rhs;unfold aR
 simp only
 split
 · exact Nat.le_refl _
 · rw[List.length_append];omega
theorem pT(l:List Int):∀k,∀x∈(aR l k).2,0<=x/\x<((aR l k).1.length:Int)
 |0,x,hx=>absurd hx List.not_mem_nil
 |k+1,x,hx=>by
   have hg:=wS l k
   have hx2:x∈(aR l k).2++[(((if gI l (k:Int)∈(aR l k).1 then(aR l k).1 else(aR l k).1++[gI l (k:Int)]).idxOf (gI l (k:Int)):Nat):Int)]:=hx
   rcases List.mem_append.1 hx2 with c|c
   · have:=pT l k x c;omega
   · rw[List.mem_singleton.1 c]
     have hm:gI l (k:Int)∈(if gI l (k:Int)∈(aR l k).1 then(aR l k).1 else(aR l k).1++[gI l (k:Int)]):=by
       split
       · assumption
       · simp
     have:=List.idxOf_lt_length_of_mem hm
     refine⟨by omega,?_⟩
     show((_:Nat):Int)<(((if gI l (k:Int)∈(aR l k).1 then(aR l k).1 else(aR l k).1++[gI l (k:Int)]).length:Nat):Int)
     omega
def wC(of:List Int)(g:bz)(s:List Int×List Bool)(h:Int):List Int×List Bool:=
  (s.1.set (aA g h).toNat (gI of (h/2)+1),s.2.set (aA g h).toNat (gI s.2 (aA g h)||(decide (0<gI s.1 (aA g h))&& !decide (gI s.1 (aA g h)=gI of (h/2)+1))))
def fA(of:List Int)(g:bz)(k:Nat):List Int×List Bool:=(bp k).foldl (wC of g) (List.replicate g.1.toNat 0,List.replicate g.1.toNat false)
def fJ(g:bz):List Int:=(aR (dC g g.1.toNat).block g.2.length).2
def gm(g:bz):Int:=((aR (dC g g.1.toNat).block g.2.length).1.length:Int)
def gJ(g:bz):List Int:=(bp g.1.toNat).filter λv=>gI (fA (fJ g) g (2*g.2.length)).2 v
def da(g:bz):(List Int×List Int×Int)×Int:=if aX g then((fJ g,gJ g,gm g),0) else(([],[],0),1)
theorem pK(g:bz):(fJ g).length=g.2.length:=(jy _ _).1
theorem iN(g:bz){i:Int}(h0:0<=i)(h1:i<(g.2.length:Int)):0<=gI (fJ g) i/\gI (fJ g) i<gm g:=by
 have hl:=pK g
 exact pT _ _ _ (br (xs:=fJ g) h0 (by omega))
end TL
namespace TL
structure ur(l:List Int)(mp:(Int->Int)×List Int)(out:List Int)(k:Nat):Prop where
  dom:mp.2=(aR l k).1
  val:∀b∈mp.2,mp.1 b=((mp.2.idxOf b:Nat):Int)
  eq:out=(aR l k).2++List.replicate (l.length-k) 0
  lo:(out.length:Int)=l.length
variable{l:List Int}{mp:(Int->Int)×List Int}{out:List Int}{k:Nat}
theorem ur.start:ur l (λ_=>0,[]) (List.replicate (Int.toNat (l.length:Int)) 0) 0:=
 ⟨rfl,λb hb=>absurd hb List.not_mem_nil,by simp[aR],by simp⟩
theorem uK{x:Int}(h:out=(aR l k).2++List.replicate (l.length-k) 0)(hk:(k:Int)<l.length):out.set (Int.toNat (k:Int)) x=((aR l k).2++[x])++List.replicate (l.length-(k+1)) 0:=by
 have hl:=(jy l k).1
 rw[h,Int.toNat_natCast,List.set_append_right _ _ (by omega),hl,Nat.sub_self]
 rw[show l.length-k=(l.length-(k+1))+1 by omega,List.replicate_succ]
 simp
theorem ur.old(h:ur l mp out k)(hk:(k:Int)<l.length)(hm:gI l (k:Int)∈mp.2):ur l mp (out.set (Int.toNat (k:Int)) (mp.1 (gI l (k:Int)))) (k+1):=by
 have hd:=h.dom
 have e:aR l (k+1)=((aR l k).1,(aR l k).2++[(((aR l k).1.idxOf (gI l (k:Int)):Nat):Int)]):=by
   conv=>lhs;unfold aR
   simp only[if_pos (show gI l (k:Int)∈(aR l k).1 by rw[<-hd];exact hm)]
 refine⟨by rw[e];exact hd,h.val,?_,by rw[List.length_set];exact h.lo⟩
 rw[uK h.eq hk,e,h.val _ hm,hd]
theorem ur.new(h:ur l mp out k)(hk:(k:Int)<l.length)(hm:¬gI l (k:Int)∈mp.2){mp':(Int->Int)×List Int}{x:Int}(em:mp'=((λq=>if q=gI l (k:Int) then(mp.2.length:Int) else mp.1 q),if gI l (k:Int)∈mp.2 then mp.2 else mp.2++[gI l (k:Int)]))(ex:x=mp'.1 (gI l (k:Int))):
   ur l mp' (out.set (Int.toNat (k:Int)) x) (k+1):=by
 subst em
 have hd:=h.dom
 rw[if_neg hm]
 have e:aR l (k+1)=((aR l k).1++[gI l (k:Int)],(aR l k).2++[((((aR l k).1++[gI l (k:Int)]).idxOf (gI l (k:Int)):Nat):Int)]):=by
   conv=>lhs;unfold aR
   simp only[if_neg (show¬gI l (k:Int)∈(aR l k).1 by rw[<-hd];exact hm)]
 have ei:(mp.2++[gI l (k:Int)]).idxOf (gI l (k:Int))=mp.2.length:=by
   rw[List.idxOf_append,if_neg hm];simp
 refine⟨by rw[e,<-hd],λb hb=>?_,?_,by rw[List.length_set];exact h.lo⟩
 · show(if b=gI l (k:Int) then(mp.2.length:Int) else mp.1 b)=(((mp.2++[gI l (k:Int)]).idxOf b:Nat):Int)
   by_cases c:b=gI l (k:Int)
   · rw[if_pos c,c,ei]
   · have hb2:b∈mp.2:=(List.mem_append.1 hb).resolve_right (λz=>c (List.mem_singleton.1 z))
     rw[if_neg c,List.idxOf_append,if_pos hb2];exact h.val b hb2
 · rw[uK h.eq hk,e,ex]
   show _=_
   rw[<-hd,ei]
   simp
theorem ur.done(h:ur l mp out k)(hk:k=l.length):out=(aR l l.length).2/\(mp.2.length:Int)=((aR l l.length).1.length:Int):=by
 subst hk
 have:=h.eq
 rw[Nat.sub_self,List.replicate_zero,List.append_nil] at this
 exact⟨this,by rw[h.dom]⟩
end TL
/-
  TlWayT: the way that leads to a node, from how the nodes were reached (package path's To), as the document has it.
  By an AI agent.
-/
set_option linter.all false
namespace TL
def wb(fs:FS)(g:bz):Prop:=aX g/\(fs.1.length:Int)=g.1/\(fs.2.length:Int)=g.1
instance (fs:FS)(g:bz):Decidable (wb fs g):=by unfold wb;infer_instance
variable{fs:FS}{g:bz}{t v:Int}{l:List Int}{n:Nat}
variable{by_:List Int}
end TL
/-
  TlDij: what the document's From comes to: each length is that of the way found; no half-edge of a reached node leads nearer.
  By an AI agent.
-/
set_option linter.all false
namespace TL
abbrev hf(g:bz)(h:Int):Prop:=0<=h/\h<2*(g.2.length:Int)
abbrev nd(g:bz)(v:Int):Prop:=0<=v/\v<g.1
variable{g:bz}{ws:List Nat}{s p:Int}{far:List Nat}{by_:List Int}{se:List Bool}{rk:Int->Nat}{n:Nat}{done:List Int}
end TL
/-
  TlOpen: arguments opened: what a law's reader says of a slice is what a walk wants of it.
  By an AI agent.
-/
namespace TL
open Go Go.Proofs Go.ChangeShapes Go.WideShapes Go.Joins Go.Deep
structure sU{H:Type}(f:DataW H->Nat):Prop where
 slice:∀l s:List (DataW H),l.length<=f (.slice l s)
 elem:∀l s:List (DataW H),∀d∈l,f d<=f (.slice l s)
 part:∀l:List (DataW H),∀d∈l,f d<=f (.agg l)
def A6(α:Type)[Rp α](P:Program)(t:TypeId):Prop:=
  ∀{H:Type} (enc:TypeId×Value->H) (w:World) (fuel:Nat) (cs:List Value) (x:DataW H×List MemPlace),DataW.trod enc P w 0 (λ_=>true) true fuel t cs=some x->∃y:α,Rp.rep c0 any w cs y
theorem uz{P:Program}{t:TypeId}(ht:P.underlying t=some (.int .i64)):A6 Int P t:=by
 intro H enc w fuel cs x h
 obtain⟨n,rfl,_,_⟩:=DataW.trod_int ht h
 exact⟨n,rfl⟩
theorem rN{H:Type}{enc:TypeId×Value->H}{P:Program}{w:World}{base:Nat}{spare:Nat->Bool}{held:Bool}{t e:TypeId}{fuel:Nat}{cs:List Value}{x:DataW H×List MemPlace}(ht:P.underlying t=some (.array 2 e))(hce:P.cellsOf e=1)(hct:P.cellsOf t=2)
   (h:DataW.trod enc P w base spare held fuel t cs=some x):
   ∃v0 v1 y0 y1 n,cs=[v0,v1]/\x=(.agg [y0.1,y1.1],y0.2++y1.2)/\DataW.trod enc P w base spare held n e [v0]=some y0/\DataW.trod enc P w base spare held n e [v1]=some y1:=by
 cases fuel with
 |zero=>simp[DataW.trod] at h
 |succ n=>
   unfold DataW.trod at h
   rw[ht] at h
   have r2:List.range 2=[0,1]:=rfl
   simp only[hct] at h
   by_cases hl:cs.length=2
   · rw[if_pos hl] at h
     match cs,hl with
     |[v0,v1],_=>
       simp[r2,hce] at h
       cases h0:DataW.trod enc P w base spare held n e [v0] with
       |none=>simp[h0] at h
       |some y0=>
         cases h1:DataW.trod enc P w base spare held n e [v1] with
         |none=>simp[h0,h1] at h
         |some y1=>
           simp[h0,h1] at h
           exact⟨v0,v1,y0,y1,n,rfl,h.symm,h0,h1⟩
   · rw[if_neg hl] at h;cases h
theorem AF{P:Program}{t e:TypeId}(ht:P.underlying t=some (.array 2 e))(he:P.underlying e=some (.int .i64))(hce:P.cellsOf e=1)(hct:P.cellsOf t=2):A6 (Int×Int) P t:=by
 intro H enc w fuel cs x h
 obtain⟨v0,v1,y0,y1,n,rfl,_,h0,h1⟩:=rN ht hce hct h
 obtain⟨a,ha⟩:=uz he enc w n [v0] y0 h0
 obtain⟨b,hb⟩:=uz he enc w n [v1] y1 h1
 exact⟨(a,b),[v0],[v1],rfl,ha,hb⟩
theorem pN{P:Program}{w:World}{base:Nat}{t e:TypeId}{v:Value}(ht:P.underlying t=some (.slice e))(h:Cell.okWide P w .any base t v):∀a len cap,v= .slice (some a) len cap->a.spot=none:=by
 rintro a len cap rfl
 simp only[Cell.okWide,Cell.ok,ht] at h
 exact h.2.2.2.1
end TL
/-
  TlCyc: lists gone round: what stands behind what; rotations turned, and moved.
  By an AI agent.
-/
set_option linter.all false
namespace TL
def DH(l:List Int)(h:Int):Int:=gI l ((((l.idxOf h:Nat):Int)+1)%(l.length:Int))
section
variable{g:bz}{r:fG}{to:List Int}
end
end TL
/-
  TlJudge4: directions around a point; a plot turned by a quarter; the example's rotation.
  By an AI agent.
-/
set_option linter.all false
namespace TL
section
variable{u v w:Pt}
end
section
variable{p:ot}{o:Pt}{l:List Int}
end
section
variable{u v:Pt}{i k:Int}
def CG(u:Pt):Prop:=0<=u.1/\0<u.2
instance (u:Pt):Decidable (CG u):=by unfold CG;infer_instance
end
section
variable{o:Pt}{ps:List Pt}
end
end TL
/-
  TlJTr: plots moved as a whole: their flaws.
  By an AI agent.
-/
set_option linter.all false
namespace TL
section
variable{T:Pt->Pt}{D:Pt->Prop}{g:bz}{p:ot}{l a b but:List Pt}{q:Pt}{i k:Nat}
end
section
variable{g:bz}{p:ot}
end
def CN(p:ot):Nat->Int
 |0=>(p.1.length:Int)
 |k+1=>CN p k+((gI p.2 (k:Int)).length:Int)+1
def yA(g:bz)(p:ot):Prop:=CN p p.2.length<=400/\(¬aX g\/g.1<=30/\(g.2.length:Int)<=40)
instance (g:bz)(p:ot):Decidable (yA g p):=by unfold yA;infer_instance
end TL
namespace TL
section
variable{g:bz}{p:ot}{l r:List Pt}{L:List (List Pt)}{k e:Nat}
end
end TL
namespace TL
section
variable{α:Type}[Inhabited α][DecidableEq α]{a b:List α}{k:Nat}
end
section
variable{g:bz}{p:ot}{n:Int}{e:Nat}
end
end TL
/-
  TlOpenL: arguments that are plots: a list of points, and a list of lists of points; whole numbers in their range.
  By an AI agent.
-/
set_option linter.all false
namespace TL
open Go Go.Proofs Go.ChangeShapes Go.WideShapes Go.Joins Go.Deep
def CB(α:Type)[Rp α](Q:α->Prop)(P:Program)(t:TypeId):Prop:=
  ∀{H:Type} (enc:TypeId×Value->H) (w:World) (fuel:Nat) (cs:List Value) (x:DataW H×List MemPlace),DataW.trod enc P w 0 (λ_=>true) true fuel t cs=some x->∃y:α,Rp.rep c0 any w cs y/\Q y
theorem vM{α:Type}[Rp α][Inhabited α]{Q:α->Prop}{P:Program}{t e:TypeId}(ht:P.underlying t=some (.slice e))(hc:P.cellsOf e=Rp.sz α)(hz:0<Rp.sz α)(he:CB α Q P e)
   {H:Type}{enc:TypeId×Value->H}{w:World}{f:DataW H->Nat}(hf:sU f){fuel:Nat}{v:Value}{x:DataW H×List MemPlace}
   (hs:∀a len cap,v= .slice (some a) len cap->a.spot=none)(h:DataW.trod enc P w 0 (λ_=>true) true fuel t [v]=some x)(hb:f x.1<=1048576):∃xs:List α,Ro w v xs/\(∀y∈xs,Q y)/\xs.length<=1048576:=by
 rcases Deep.open_slice ht h with⟨h0,_⟩|⟨a,len,cap,m,n,D,Pl,h0,_,hlc,_,hm,rfl,hx⟩
 · obtain rfl:v= .slice none 0 0:=by simpa using h0
   exact⟨[],.inl ⟨⟨_,rfl⟩,rfl⟩,λy hy=>(by cases hy),by simp⟩
 · obtain rfl:v= .slice (some a) len cap:=by simpa using h0
   have hsp:=hs a len cap rfl
   obtain⟨b,off,spot⟩:=a
   obtain rfl:spot=none:=hsp
   simp only[if_true] at hm
   subst hm
   obtain⟨Y,hY⟩:=Deep.choose_lt (α:=α) (n:=len) (p:=λi y=>(∃cs,(∀j,j<Rp.sz α->w.cell? ⟨b,off+i*Rp.sz α+j,none⟩=cs[j]?)/\Rp.rep c0 any w cs y)/\Q y) (λi hi=>by
     obtain⟨cs',h1,h2⟩:=hx i (by omega)
     obtain⟨y,hy,hq⟩:=he enc w n cs' _ h2
     refine⟨y,⟨cs',λj hj=>?_,hy⟩,hq⟩
     obtain⟨_,hl,hcell⟩:=World.cells?_some h1
     have:=hcell j (by omega)
     rw[Deep.add_add,hc] at this
     rw[<-this]
     unfold Addr.add
     by_cases hij:i*Rp.sz α+j=0
     · rw[if_pos hij,Nat.add_assoc,hij];rfl
     · rw[if_neg hij,Nat.add_assoc])
   have hlen:((List.range len).map Y).length=len:=by simp
   have hbound:=Nat.le_trans (hf.slice _ _) hb
   have hll:len<=1048576:=by simp at hbound;omega
   refine⟨(List.range len).map Y,.inr ⟨b,off,m,by rw[hlen],⟨by omega,by omega⟩,λi y hi=>?_⟩,λy hy=>?_,by omega⟩
   · have hil:i<len:=by
       have:=(List.getElem?_eq_some_iff.1 hi).1
       omega
     obtain rfl:Y i=y:=by simpa[hil] using hi
     obtain⟨⟨cs,h1,h2⟩,_⟩:=hY i hil
     refine⟨?_,trivial,cs,h1,h2⟩
     have h3:=h1 0 hz
     have h4:=Rp.len h2
     have h5:0<cs.length:=by omega
     rw[List.getElem?_eq_getElem h5] at h3
     by_cases hbl:b<w.heap.size
     · exact hbl
     · have:w.heap[b]? =none:=Array.getElem?_eq_none (by omega)
       simp[World.cell?,this] at h3
   · obtain⟨i,hi,rfl⟩:=List.mem_map.1 hy
     exact(hY i (List.mem_range.1 hi)).2
end TL
/-
  TlWord: words and bytes in memory (a list of uint64, a list of uint8), and how a statement's argument of them is opened.
  By an AI agent.
-/
set_option linter.all false
namespace TL
open Go Go.Proofs Go.ChangeShapes Go.WideShapes Go.Joins Go.Deep
structure Wd where
  n:Nat
  lt:n<18446744073709551616
instance:Inhabited Wd:=⟨⟨0,by decide⟩⟩
instance:Rp Wd where
 sz:=1
 rep _ _ _ cs x:=cs=[.int .u64 (x.n:Int)]
 len h:=by subst h;rfl
 one h:=by subst h;simp[Value.oneCell']
 tr _ _ h:=h
instance:Fl Wd where
 cells x:=[.int .u64 (x.n:Int)]
 rep_iff:=Iff.rfl
structure Bt where
  n:Nat
  lt:n<256
instance:Inhabited Bt:=⟨⟨0,by decide⟩⟩
instance:Rp Bt where
 sz:=1
 rep _ _ _ cs x:=cs=[.int .u8 (x.n:Int)]
 len h:=by subst h;rfl
 one h:=by subst h;simp[Value.oneCell']
 tr _ _ h:=h
instance:Fl Bt where
 cells x:=[.int .u8 (x.n:Int)]
 rep_iff:=Iff.rfl
end TL
namespace TL
open Go Go.Proofs Go.ChangeShapes Go.WideShapes Go.Joins Go.Deep
end TL
namespace TL
open Go
end TL
/-
  TlDij3: lengths of small whole weights: one way and another compared.
  By an AI agent.
-/
set_option linter.all false
namespace TL
variable{g g1 g2:bz}{ws w1 w2:List Nat}{s s1 s2:Int}{far f1 f2:List Nat}{by_ b1 b2:List Int}{rk r1 r2:Int->Nat}{C:Nat}
def iu(h:Int):Int:=if h%2=0 then h+1 else h-1
theorem dR{h:Int}(hh:hf g h):hf g (iu h)/\iu h/2=h/2/\aA g (iu h)=bg g h/\bg g (iu h)=aA g h:=by
 have h0:=hh.1
 have h1:=hh.2
 have e1:iu h/2=h/2:=by unfold iu;split<;>omega
 have e2:iu h%2=1-h%2:=by unfold iu;split<;>omega
 refine⟨⟨by unfold iu;split<;>omega,by unfold iu;split<;>omega⟩,e1,?_,?_⟩
 · unfold aA bg;rw[e1,e2]
 · unfold aA bg;rw[e1,e2,show 1-(1-h%2)=h%2 by omega]
end TL
namespace TL
end TL
/-
  TlBlk4: the walk that finds blocks, one way of a step at a time; the loop that looks for an edge on the stack.
  By an AI agent.
-/
set_option linter.all false
namespace TL
variable{g:bz}{R:Bs}{pl lo by_ nx:List Int}{fo:Int}{ed:List Int}{la:List Bool}{bl:List Int}{co:Int}{path:List Int}{u hh:Int}
theorem gz.via{s s':Bs}{path path':List Int}(hm:aX g)(h:gz g R s path)(hp:0<(path.length:Int))(hu:u=gI path ((path.length:Int)-1))(e:dF g s path u=(s',path')):gz g R s' path'/\cq g s' path'<cq g s path:=by
 have:=h.step hm (λk=>by rw[k] at hp;simp at hp) hu
 rw[e] at this;exact this
abbrev bs(pl lo by_ nx:List Int)(fo:Int)(ed:List Int)(la:List Bool)(bl:List Int)(co:Int):Bs:=⟨pl,lo,by_,nx,fo,ed,la,bl,co⟩
theorem gz.skip(hm:aX g)(h:gz g R (bs pl lo by_ nx fo ed la bl co) path)(hp:0<(path.length:Int))(hu:u=gI path ((path.length:Int)-1))(hn:¬gI nx u=((gI (ar g) u).length:Int))(eh:gI (gI (ar g) u) (gI nx u)=hh)(hl:gI la (hh/2)=true):
    gz g R (bs pl lo by_ (nx.set u.toNat (gI nx u+1)) fo ed la bl co) path/\cq g (bs pl lo by_ (nx.set u.toNat (gI nx u+1)) fo ed la bl co) path<cq g (bs pl lo by_ nx fo ed la bl co) path:=by
  refine h.via hm hp hu ?_
  unfold dF
  rw[if_neg hn]
  simp only[eh]
  unfold eC
  rw[if_pos hl];rfl
theorem gz.loop(hm:aX g)(h:gz g R (bs pl lo by_ nx fo ed la bl co) path)(hp:0<(path.length:Int))(hu:u=gI path ((path.length:Int)-1))(hn:¬gI nx u=((gI (ar g) u).length:Int))(eh:gI (gI (ar g) u) (gI nx u)=hh)(hl:¬gI la (hh/2)=true)(hw:bg g hh=u):
    gz g R (ec (bs pl lo by_ (nx.set u.toNat (gI nx u+1)) fo (ed++[hh/2]) (la.set (hh/2).toNat true) bl co) (hh/2)) path/\cq g (ec (bs pl lo by_ (nx.set u.toNat (gI nx u+1)) fo (ed++[hh/2]) (la.set (hh/2).toNat true) bl co) (hh/2)) path<cq g (bs pl lo by_ nx fo ed la bl co) path:=by
  refine h.via hm hp hu ?_
  unfold dF
  rw[if_neg hn]
  simp only[eh]
  unfold eC
  rw[if_neg hl,if_pos hw];rfl
theorem gz.new(hm:aX g)(h:gz g R (bs pl lo by_ nx fo ed la bl co) path)(hp:0<(path.length:Int))(hu:u=gI path ((path.length:Int)-1))(hn:¬gI nx u=((gI (ar g) u).length:Int))(eh:gI (gI (ar g) u) (gI nx u)=hh)(hl:¬gI la (hh/2)=true){w:Int}(ew:bg g hh=w)(hw:¬w=u)(hz:gI pl w=0):
    gz g R (bs (pl.set w.toNat (fo+1)) (lo.set w.toNat (fo+1)) (by_.set w.toNat hh) (nx.set u.toNat (gI nx u+1)) (fo+1) (ed++[hh/2]) (la.set (hh/2).toNat true) bl co) (path++[w])/\cq g (bs (pl.set w.toNat (fo+1)) (lo.set w.toNat (fo+1)) (by_.set w.toNat hh) (nx.set u.toNat (gI nx u+1)) (fo+1) (ed++[hh/2]) (la.set (hh/2).toNat true) bl co) (path++[w])<cq g (bs pl lo by_ nx fo ed la bl co) path:=by
  subst ew
  refine h.via hm hp hu ?_
  unfold dF
  rw[if_neg hn]
  simp only[eh]
  unfold eC
  rw[if_neg hl,if_neg hw,if_pos hz];rfl
theorem gz.back(hm:aX g)(h:gz g R (bs pl lo by_ nx fo ed la bl co) path)(hp:0<(path.length:Int))(hu:u=gI path ((path.length:Int)-1))(hn:¬gI nx u=((gI (ar g) u).length:Int))(eh:gI (gI (ar g) u) (gI nx u)=hh)(hl:¬gI la (hh/2)=true){w:Int}(ew:bg g hh=w)(hw:¬w=u)(hz:¬gI pl w=0):
    gz g R (bs pl (lo.set u.toNat (min (gI lo u) (gI pl w))) by_ (nx.set u.toNat (gI nx u+1)) fo (ed++[hh/2]) (la.set (hh/2).toNat true) bl co) path/\cq g (bs pl (lo.set u.toNat (min (gI lo u) (gI pl w))) by_ (nx.set u.toNat (gI nx u+1)) fo (ed++[hh/2]) (la.set (hh/2).toNat true) bl co) path<cq g (bs pl lo by_ nx fo ed la bl co) path:=by
  subst ew
  refine h.via hm hp hu ?_
  unfold dF
  rw[if_neg hn]
  simp only[eh]
  unfold eC
  rw[if_neg hl,if_neg hw,if_neg hz];rfl
theorem gz.off0(hm:aX g)(h:gz g R (bs pl lo by_ nx fo ed la bl co) path)(hp:0<(path.length:Int))(hu:u=gI path ((path.length:Int)-1))(hn:gI nx u=((gI (ar g) u).length:Int))(hb:gI by_ u<0):
    gz g R (bs pl lo by_ nx fo ed la bl co) path.dropLast/\cq g (bs pl lo by_ nx fo ed la bl co) path.dropLast<cq g (bs pl lo by_ nx fo ed la bl co) path:=by
  refine h.via hm hp hu ?_
  unfold dF
  rw[if_pos hn]
  unfold dP
  rw[if_pos hb]
theorem gz.off1(hm:aX g)(h:gz g R (bs pl lo by_ nx fo ed la bl co) path)(hp:0<(path.length:Int))(hu:u=gI path ((path.length:Int)-1))(hn:gI nx u=((gI (ar g) u).length:Int))(hb:¬gI by_ u<0){q:Int}(eq:aA g (gI by_ u)=q){lo':List Int}(el:lo'=lo.set q.toNat (min (gI lo q) (gI lo u)))(hc:¬gI pl q<=gI lo' u):
    gz g R (bs pl lo' by_ nx fo ed la bl co) path.dropLast/\cq g (bs pl lo' by_ nx fo ed la bl co) path.dropLast<cq g (bs pl lo by_ nx fo ed la bl co) path:=by
  subst eq el
  refine h.via hm hp hu ?_
  unfold dF
  rw[if_pos hn]
  unfold dP
  rw[if_neg hb]
  simp only
  rw[if_neg hc]
theorem gz.off2(hm:aX g)(h:gz g R (bs pl lo by_ nx fo ed la bl co) path)(hp:0<(path.length:Int))(hu:u=gI path ((path.length:Int)-1))(hn:gI nx u=((gI (ar g) u).length:Int))(hb:¬gI by_ u<0){q:Int}(eq:aA g (gI by_ u)=q){lo':List Int}(el:lo'=lo.set q.toNat (min (gI lo q) (gI lo u)))(hc:gI pl q<=gI lo' u):
    gz g R (ec (bs pl lo' by_ nx fo ed la bl co) (gI by_ u/2)) path.dropLast/\cq g (ec (bs pl lo' by_ nx fo ed la bl co) (gI by_ u/2)) path.dropLast<cq g (bs pl lo by_ nx fo ed la bl co) path:=by
  subst eq el
  refine h.via hm hp hu ?_
  unfold dF
  rw[if_pos hn]
  unfold dP
  rw[if_neg hb]
  simp only
  rw[if_pos hc]
theorem gz.loop1(hm:aX g)(h:gz g R (bs pl lo by_ nx fo ed la bl co) path)(hp:0<(path.length:Int))(hu:u=gI path ((path.length:Int)-1))(hn:¬gI nx u=((gI (ar g) u).length:Int))(eh:gI (gI (ar g) u) (gI nx u)=hh)(hl:¬gI la (hh/2)=true)(hw:bg g hh=u){s':Bs}(hc:ec (bs pl lo by_ (nx.set u.toNat (gI nx u+1)) fo (ed++[hh/2]) (la.set (hh/2).toNat true) bl co) (hh/2)=s'):
   gz g R s' path/\cq g s' path<cq g (bs pl lo by_ nx fo ed la bl co) path:=by
 subst hc;exact h.loop hm hp hu hn eh hl hw
theorem gz.off3(hm:aX g)(h:gz g R (bs pl lo by_ nx fo ed la bl co) path)(hp:0<(path.length:Int))(hu:u=gI path ((path.length:Int)-1))(hn:gI nx u=((gI (ar g) u).length:Int))(hb:¬gI by_ u<0){q:Int}(eq:aA g (gI by_ u)=q){lo':List Int}(el:lo'=lo.set q.toNat (min (gI lo q) (gI lo u)))(hc:gI pl q<=gI lo' u){s':Bs}(hcl:ec (bs pl lo' by_ nx fo ed la bl co) (gI by_ u/2)=s'):
   gz g R s' path.dropLast/\cq g s' path.dropLast<cq g (bs pl lo by_ nx fo ed la bl co) path:=by
 subst hcl;exact h.off2 hm hp hu hn hb eq el hc
structure u5(ed:List Int)(x at_:Int):Prop where
  mem:x∈ed
  nd:ed.Nodup
  lo:0<=at_
  hi:at_<ed.length
  no:∀j:Int,at_<j->j<ed.length->gI ed j≠x
theorem u5.start{x:Int}(hn:ed.Nodup)(hx:x∈ed):u5 ed x ((ed.length:Int)-1):=by
 have:0<ed.length:=List.length_pos_of_mem hx
 exact⟨hx,hn,by omega,by omega,λj a b=>by omega⟩
theorem u5.next{x at_:Int}(h:u5 ed x at_)(hne:¬gI ed at_=x):u5 ed x (at_-1)/\1<=at_:=by
 have h1:=h.lo
 have h2:=h.hi
 have hp:1<=at_:=by
   by_cases c:1<=at_
   · exact c
   · exfalso
     obtain⟨i,hi,e⟩:=List.mem_iff_getElem.1 h.mem
     have e2:gI ed (i:Int)=x:=by rw[<-e];simp[gI,hi]
     by_cases k:(i:Int)=at_
     · rw[k] at e2;exact hne e2
     · exact h.no i (by omega) (by omega) e2
 refine⟨⟨h.mem,h.nd,by omega,by omega,λj a b=>?_⟩,hp⟩
 by_cases k:j=at_
 · rw[k];exact hne
 · exact h.no j (by omega) b
theorem u5.done{x at_:Int}(h:u5 ed x at_)(he:gI ed at_=x):at_=(qu ed x:Int):=by
 obtain⟨A,B,e1,hA,hB,e2⟩:=sV h.nd h.mem
 have h1:=h.lo
 have h2:=h.hi
 rw[e2]
 have hl:ed.length=A.length+1+B.length:=by rw[e1];simp;omega
 have hA2:gI ed (A.length:Int)=x:=by rw[e1];simp[gI]
 rcases Int.lt_trichotomy at_ A.length with c|c|c
 · exact absurd hA2 (h.no _ c (by omega))
 · exact c
 · exfalso
   obtain⟨k,rfl⟩:∃k:Nat,at_=k:=⟨at_.toNat,by omega⟩
   have hk:k<ed.length:=by omega
   have e3:gI ed (k:Int)=ed[k]:=by simp[gI,hk]
   have:ed[k]∈B:=by
     have hk2:k-(A.length+1)<B.length:=by omega
     have e4:ed[k]=B[k-(A.length+1)]:=by
       have:ed[k]? =B[k-(A.length+1)]? :=by
         rw[e1,List.getElem?_append_right (by omega),List.getElem?_cons,if_neg (by omega)]
         congr 1
       rw[List.getElem?_eq_getElem hk,List.getElem?_eq_getElem hk2] at this
       exact Option.some.inj this
     rw[e4];exact List.getElem_mem hk2
   rw[e3] at he
   rw[he] at this
   exact hB this
end TL
namespace TL
open Go
theorem wx(n:Nat):n^^^1=if n%2=0 then n+1 else n-1:=by
 have h1:(n^^^1)%2=(n+1)%2:=by
   have:= @Nat.xor_mod_two_eq_one n 1
   by_cases c:(n^^^1)%2=1
   · have:=this.1 c;omega
   · have h3:¬¬(n%2=1↔1%2=1):=λk=>c (this.2 k)
     have h4:=Decidable.not_not.1 h3
     have:n%2=1:=h4.2 rfl
     omega
 have h2:(n^^^1)/2=n/2:=by rw[Nat.xor_div_two];simp
 split<;>omega
theorem ve{m:Int}(t:TypeId)(h0:0<=m)(h1:m<4611686018427387904):binOp .xor t (.int .i64 m) (.int .i64 1)=pure (.int .i64 (iu m)):=by
 obtain⟨n,rfl⟩:=Int.eq_ofNat_of_zero_le h0
 have hn:n<4611686018427387904:=by omega
 have e:(BitVec.ofInt 64 (n:Int)^^^BitVec.ofInt 64 1).toNat=n^^^1:=by
   rw[BitVec.toNat_xor]
   have e1:(BitVec.ofInt 64 (n:Int)).toNat=n:=by
     rw[BitVec.toNat_ofInt];omega
   have e2:(BitVec.ofInt 64 (1:Int)).toNat=1:=by decide
   rw[e1,e2]
 have h3:(((n^^^1:Nat)):Int)=iu (n:Int):=by
   rw[wx];unfold iu
   split<;>split<;>omega
 show(pure (Value.int .i64 (IntKind.i64.wrap ((BitVec.ofInt 64 (n:Int)^^^BitVec.ofInt 64 1).toNat:Int))):Sem Value)=_
 rw[e,h3,kK]
 unfold iu;unfold zR;split<;>omega
end TL
namespace TL
variable{g:bz}{s:Bs}{path:List Int}
theorem xT(h:eU g s path):0<=s.found/\s.found<=g.1/\0<=s.count/\s.count+(s.edges.length:Int)<=(g.2.length:Int):=by
  have h1:=h.fn
  have h2:=h.cl
  have h3:s.laid.count true<=s.laid.length:=List.count_le_length
  have h4:=h.l5
  exact⟨h.f0,by omega,h.ct,by omega⟩
theorem zU{l:List Int}{n q:Nat}(h:l=List.replicate q (-1)++List.replicate (n-q) 0)(hq:q<=n):l.length=n:=by
 rw[h];simp;omega
theorem zh{l:List Int}{n q:Nat}(h:l=List.replicate q (-1)++List.replicate (n-q) 0)(hq:q<n):l.set (Int.toNat (q:Int)) (-1)=List.replicate (q+1) (-1)++List.replicate (n-(q+1)) 0:=by
 rw[h,Int.toNat_natCast,List.set_append_right _ _ (by simp)]
 simp only[List.length_replicate,Nat.sub_self]
 rw[show n-q=(n-(q+1))+1 by omega,List.replicate_succ,List.set_cons_zero,List.replicate_succ',List.append_assoc]
 rfl
def vZ(L bl:List Int)(co:Int)(k:Nat):List Int:=(L.take k).foldl (λb x=>b.set x.toNat co) bl
theorem Be{L bl:List Int}{co:Int}:bl=vZ L bl co 0:=rfl
theorem tK{L bl b:List Int}{co:Int}{k:Nat}(h:b=vZ L bl co k):b.length=bl.length:=by rw[h];unfold vZ;exact oe _ _ _
theorem r9{L bl b:List Int}{co:Int}{k:Nat}(h:b=vZ L bl co k)(hk:(k:Int)<L.length):b.set (gI L (k:Int)).toNat co=vZ L bl co (k+1):=by
 have hk':k<L.length:=by omega
 unfold vZ at*
 rw[List.take_succ_eq_append_getElem hk',List.foldl_append,<-h]
 have e:gI L (k:Int)=L[k]:=by simp[gI,hk']
 rw[e];rfl
theorem kq{pl lo by_ nx:List Int}{fo:Int}{ed:List Int}{la:List Bool}{bl:List Int}{co x at_:Int}{bk:List Int}{k:Nat}(ha:u5 ed x at_)(he:gI ed at_=x)(hb:bk=vZ (List.drop (Int.toNat at_) (List.take (Int.toNat (ed.length:Int)) ed)) bl co k)
   (hk:¬(k:Int)<((List.drop (Int.toNat at_) (List.take (Int.toNat (ed.length:Int)) ed)).length:Int))(hk2:(k:Int)<=((List.drop (Int.toNat at_) (List.take (Int.toNat (ed.length:Int)) ed)).length:Int)):
   ec (bs pl lo by_ nx fo ed la bl co) x=bs pl lo by_ nx fo (ed.take (Int.toNat at_)) la bk (co+1):=by
 have e:=ha.done he
 have el:List.drop (Int.toNat at_) (List.take (Int.toNat (ed.length:Int)) ed)=ed.drop (qu ed x):=by
   rw[e,Int.toNat_natCast,Int.toNat_natCast,List.take_length]
 rw[el] at hb hk hk2
 have hk3:k=(ed.drop (qu ed x)).length:=by omega
 unfold ec
 rw[hb]
 unfold vZ
 rw[hk3,List.take_length,e,Int.toNat_natCast]
theorem gB{path:List Int}:List.take (Int.toNat ((path.length:Int)-1)) path=path.dropLast:=by
 rw[List.dropLast_eq_take];congr 1;omega
theorem zp{s s':Bs}{v:Nat}(h:s=dC g v)(hp:gI s.place (v:Int)=0)(hR:s'=gu g s (v:Int)):s'=dC g (v+1):=by
 rw[ij,<-h,if_pos hp];exact hR
theorem C1{s:Bs}{v:Nat}(h:s=dC g v)(hp:¬gI s.place (v:Int)=0):s=dC g (v+1):=by
 rw[ij,<-h,if_neg hp]
end TL
namespace TL
variable{g:bz}{of o:List Int}{c:List Bool}{k:Nat}
structure iA(of:List Int)(g:bz)(o:List Int)(c:List Bool)(k:Nat):Prop where
  eq:(o,c)=fA of g k
  lo:(o.length:Int)=g.1
  lc:(c.length:Int)=g.1
theorem AN{pl lo by_ nx:List Int}{fo:Int}{ed:List Int}{la:List Bool}{bl:List Int}{co:Int}{path:List Int}{O:List (List Int)}{u:Int}(h:eU g (bs pl lo by_ nx fo ed la bl co) path)(hO:O=ar g)(hp:0<(path.length:Int))(hu:gI path ((path.length:Int)-1)=u):
    ((0<=u/\u<g.1)/\(0<=gI nx u/\gI nx u<=((gI O u).length:Int)))/\(gI by_ u= -1\/(0<=gI by_ u/\gI by_ u<2*(g.2.length:Int))):=by
  have hm:=h.pr _ (br (xs:=path) (i:=(path.length:Int)-1) (by omega) (by omega))
  rw[hu] at hm
  rw[hO]
  refine⟨⟨hm.1,h.nx _ hm.1.1 hm.1.2⟩,?_⟩
  rcases h.by_ _ hm.1.1 hm.1.2 with k|k
  · exact .inl k
  · exact .inr k.1
theorem A8{pl lo by_ nx:List Int}{fo:Int}{ed:List Int}{la:List Bool}{bl:List Int}{co:Int}{path:List Int}{O:List (List Int)}{u:Int}(hm:aX g)(h:eU g (bs pl lo by_ nx fo ed la bl co) path)(hO:O=ar g)(u0:0<=u)(u1:u<g.1)(hn:¬gI nx u=((gI O u).length:Int)):
   (0<=gI (gI O u) (gI nx u)/\gI (gI O u) (gI nx u)<2*(g.2.length:Int))/\(0<=bg g (gI (gI O u) (gI nx u))/\bg g (gI (gI O u) (gI nx u))<g.1):=by
 obtain⟨n0,n1⟩:=h.nx u u0 u1
 rw[hO] at hn ⊢
 have hin:gI (gI (ar g) u) (gI nx u)∈gI (ar g) u:=br n0 (by
   have n1':gI nx u<=((gI (ar g) u).length:Int):=n1
   omega)
 rw[fE u0 u1] at hin
 have ho:=(cQ hin).1
 rw[<-fE u0 u1] at ho
 exact⟨ho,eV hm ho.1 ho.2⟩
theorem iA.start(h0:0<=g.1):iA of g (List.replicate (Int.toNat g.1) 0) (List.replicate (Int.toNat g.1) false) 0:=⟨rfl,by simp;omega,by simp;omega⟩
theorem iA.next(h:iA of g o c k){v e b:Int}{bb:Bool}(hv:aA g (k:Int)=v)(he:(k:Int)/2=e)(hb:b=gI of e+1)(hbb:bb=(gI c v||(decide (0<gI o v)&& !decide (gI o v=gI of e+1)))):iA of g (o.set (Int.toNat v) b) (c.set (Int.toNat v) bb) (k+1):=by
 subst hv he hb hbb
 refine⟨?_,by rw[List.length_set];exact h.lo,by rw[List.length_set];exact h.lc⟩
 unfold fA
 rw[cv,List.foldl_append]
 show _=wC of g (fA of g k) (k:Int)
 rw[<-h.eq];rfl
theorem iA.two(h:iA of g o c (2*k)){v v2 b b2:Int}{bb bb2:Bool}(hv:(gI g.2 (k:Int)).1=v)(hv2:(gI g.2 (k:Int)).2=v2)(hb:b=gI of (k:Int)+1)(hbb:bb=(gI c v||(decide (0<gI o v)&& !decide (gI o v=gI of (k:Int)+1))))(hb2:b2=gI of (k:Int)+1)(hbb2:bb2=(gI (c.set (Int.toNat v) bb) v2||(decide (0<gI (o.set (Int.toNat v) b) v2)&& !decide (gI (o.set (Int.toNat v) b) v2=gI of (k:Int)+1)))):
   iA of g ((o.set (Int.toNat v) b).set (Int.toNat v2) b2) ((c.set (Int.toNat v) bb).set (Int.toNat v2) bb2) (2*(k+1)):=by
 have e1:((2*k:Nat):Int)/2=(k:Int):=by omega
 have e2:((2*k+1:Nat):Int)/2=(k:Int):=by omega
 have f1:aA g ((2*k:Nat):Int)=v:=by
   rw[<-hv];unfold aA;rw[e1,show((2*k:Nat):Int)%2=0 by omega];rfl
 have f2:aA g ((2*k+1:Nat):Int)=v2:=by
   rw[<-hv2];unfold aA;rw[e2,show((2*k+1:Nat):Int)%2=1 by omega];rfl
 exact(h.next f1 e1 hb hbb).next f2 e2 hb2 hbb2
theorem lp{x y:Bool}(h:x=true):true=(x||y):=by rw[h];rfl
theorem lm{x:Bool}{y:Int}{q:Prop}[Decidable q](h:¬x=true)(hp:¬0<y):false=(x||(decide (0<y)&& !decide q)):=by
 rw[decide_eq_false hp];simpa using h
theorem lJ{x:Bool}{y:Int}{q:Prop}[Decidable q](h:¬x=true)(hp:0<y):(!decide q)=(x||(decide (0<y)&& !decide q)):=by
 have:x=false:=by simpa using h
 rw[this,decide_eq_true hp];simp
theorem qX{a:List Int}{l:List Bool}{k:Nat}(h:a=(bp k).filter λv=>gI l v):(a.length:Int)<=(k:Int):=by
 have h1:=List.length_filter_le (λv=>gI l v) (bp k)
 have h2:(bp k).length=k:=by simp[bp]
 rw[h];omega
theorem qG{a:List Int}{l:List Bool}{k:Nat}(h:a=(bp k).filter λv=>gI l v)(hk:gI l (k:Int)=true):a++[(k:Int)]=(bp (k+1)).filter λv=>gI l v:=by
 rw[h,cv,List.filter_append];simp[hk]
theorem tY{a:List Int}{l:List Bool}{k:Nat}(h:a=(bp k).filter λv=>gI l v)(hk:¬gI l (k:Int)=true):a=(bp (k+1)).filter λv=>gI l v:=by
 rw[h,cv,List.filter_append];simp[hk]
end TL
namespace TL
variable{g:bz}
theorem AH{pl lo by_ nx:List Int}{fo:Int}{ed:List Int}{la:List Bool}{bl:List Int}{co:Int}{path:List Int}(h0:0<=g.1)(h:eU g (bs pl lo by_ nx fo ed la bl co) path):(path.length:Int)<=g.1:=by
 have:=t6 g.1.toNat path h.pn (λx hx=>by have:=(h.pr x hx).1;omega)
 omega
theorem Cx{b:List Int}{q:Nat}(hb:b=List.replicate q (-1)++List.replicate (Int.toNat g.1-q) 0)(hq:(q:Int)=g.1):
   bs (List.replicate (Int.toNat g.1) 0) (List.replicate (Int.toNat g.1) 0) b (List.replicate (Int.toNat g.1) 0) 0 [] (List.replicate (Int.toNat (g.2.length:Int)) false) (List.replicate (Int.toNat (g.2.length:Int)) 0) 0=dC g 0:=by
 have e:q=Int.toNat g.1:=by omega
 subst e
 rw[hb,Nat.sub_self,List.replicate_zero,List.append_nil,Int.toNat_natCast];rfl
theorem xZ(g:bz):0<=gm g/\gm g<=(g.2.length:Int):=by
 have:=(jy (dC g g.1.toNat).block g.2.length).2
 unfold gm;omega
theorem yK{b:List Int}(hb:b=(dC g (Int.toNat g.1)).block)(hl:(b.length:Int)=g.2.length):aR b b.length=(aR (dC g g.1.toNat).block g.2.length):=by
 have:b.length=g.2.length:=by omega
 rw[this,hb]
theorem gz.fin{R s:Bs}{path:List Int}(h:gz g R s path)(hp:¬0<(path.length:Int)):s=R:=by
 have e:path=[]:=List.eq_nil_of_length_eq_zero (by omega)
 subst e
 exact h.done
def c7(g:bz):List Int×List Int×Int:=(fJ g,gJ g,gm g)
theorem sH{b cu oo:List Int}{cc:List Bool}{j k:Nat}(hnam:aR b b.length=aR (dC g g.1.toNat).block g.2.length)(hcu:cu=(bp j).filter λv=>gI cc v)(hj:(j:Int)=(cc.length:Int))(hci:iA (fJ g) g oo cc (2*k))(hk:(k:Int)=(g.2.length:Int)):
   ((aR b b.length).2,cu,((aR b b.length).1.length:Int))=c7 g:=by
 have e1:k=g.2.length:=by omega
 have e2:j=g.1.toNat:=by have:=hci.lc;omega
 have e3:cc=(fA (fJ g) g (2*g.2.length)).2:=by rw[<-e1,<-hci.eq]
 rw[hnam,hcu,e2,e3];rfl
end TL
/-
  TlBfs: a walk breadth first tells the numbers of edges: it is as ways of weights 1.
  By an AI agent.
-/
set_option linter.all false
namespace TL
variable{g:bz}{s v c hh:Int}{st:Bf}{dh:Int->Prop}
theorem fc{x:Int}(hx:hf g x):x∈bO g (aA g x):=by
 unfold bO iY
 exact List.mem_filter.2 ⟨List.mem_map.2 ⟨x.toNat,List.mem_range.2 (by have:=hx.1;have:=hx.2;omega),Int.toNat_of_nonneg hx.1⟩,decide_eq_true rfl⟩
end TL
/-
  TlCls: what a walk depth first over blocks may rely on: which edges belong together, and what parts them.
  By an AI agent.
-/
set_option linter.all false
namespace TL
inductive Wy (g:bz) (A:Int->Prop):Int->Int->Prop
  |refl {x:Int}:A x->Wy g A x x
  |step {x:Int} {h:Int}:Wy g A x (aA g h)->hf g h->A (bg g h)->Wy g A x (bg g h)
variable{g:bz}{A B:Int->Prop}{x y z:Int}
theorem Wy.right(h:Wy g A x y):A y:=by cases h<;>assumption
theorem Wy.left(h:Wy g A x y):A x:=by
 induction h with
 |refl h=>exact h
 |step _ _ _ ih=>exact ih
theorem Wy.mono(h:Wy g A x y)(hAB:∀z,A z->B z):Wy g B x y:=by
 induction h with
 |refl h=>exact .refl (hAB _ h)
 |step _ b c ih=>exact .step ih b (hAB _ c)
theorem Wy.trans(h:Wy g A x y)(k:Wy g A y z):Wy g A x z:=by
 induction k with
 |refl _=>exact h
 |step _ b c ih=>exact .step ih b c
theorem Wy.one{h:Int}(hh:hf g h)(a:A (aA g h))(b:A (bg g h)):Wy g A (aA g h) (bg g h):=.step (.refl a) hh b
theorem Wy.symm(h:Wy g A x y):Wy g A y x:=by
 induction h with
 |refl h=>exact .refl h
 |step p b c ih=>
   rename_i h'
   obtain⟨t1,_,t3,t4⟩:=dR (g:=g) b
   have q:Wy g A (bg g h') (aA g h'):=by
     have:=Wy.one (g:=g) (A:=A) t1 (by rw[t3];exact c) (by rw[t4];exact p.right)
     rwa[t3,t4] at this
   exact q.trans ih
def mY(g:bz)(e f:Int):Prop:=∃h k,hf g h/\hf g k/\h/2=e/\k/2=f/\aA g h=aA g k/\bg g h≠aA g h/\bg g k≠aA g k/\Wy g (λz=>z≠aA g h) (bg g h) (bg g k)
inductive EqB (g:bz):Int->Int->Prop
 |refl (e:Int):EqB g e e
 |rel {e f:Int}:mY g e f->EqB g e f
 |symm {e f:Int}:EqB g e f->EqB g f e
 |trans {e f k:Int}:EqB g e f->EqB g f k->EqB g e k
def lT(g:bz)(la:List Bool)(ed:List Int)(e:Int):Prop:=(0<=e/\e<(g.2.length:Int))/\gI la e=true/\e∉ed
def AU(g:bz)(la:List Bool)(ed bl:List Int)(b:Int):Prop:=
  (∃e0,(gI g.2 e0).1=(gI g.2 e0).2/\∀e,lT g la ed e->gI bl e=b->e=e0)\/
  ∃(T:Int->Prop) (u:Int),¬T u/\(∀h,hf g h->T (aA g h)->(T (bg g h)\/bg g h=u)/\lT g la ed (h/2)/\gI bl (h/2)<=b)/\
    (∀e,lT g la ed e->gI bl e=b->∃h,hf g h/\h/2=e/\T (aA g h))/\∀e f,lT g la ed e->lT g la ed f->gI bl e=b->gI bl f=b->EqB g e f
abbrev Fm:=List (Int×List Int)
structure vX(g:bz)(pl lo by_:List Int)(la:List Bool)(path:List Int)(A:Fm)(v:Int)(S:List Int)(B:Fm):Prop where
  own:(A=[]/\S=[]/\gI by_ v= -1)\/(∃A' u U S',A=A'++[(u,U)]/\S=gI by_ v/2::S'/\aA g (gI by_ v)=u/\0<=gI by_ v)
  asc:∀p∈A,gI pl p.1<gI pl v
  eqb:∀e∈S,EqB g e (gI by_ v/2)
  end_:∀e∈S,∃h,hf g h/\h/2=e/\gI pl v<=gI pl (aA g h)
  low:∀p∈A,∀e∈p.2,∀h,hf g h->h/2=e->gI pl (aA g h)<gI pl v
  cross:∀h,hf g h->gI pl (aA g h)≠0->aA g h∉path->gI pl (aA g h)<gI pl v->gI pl (bg g h)<gI pl v
  conn:∀x,0<=x->x<g.1->gI pl v<=gI pl x->Wy g (λz=>(0<=z/\z<g.1)/\gI pl v<=gI pl z) v x
  l1:∀h,hf g h->gI la (h/2)=true->gI pl v<=gI pl (aA g h)->gI pl (bg g h)<gI pl v->h/2≠gI by_ v/2->∃w∈v::B.map Prod.fst,gI lo w<=gI pl (bg g h)
  l2:gI lo v<=gI pl v
  l3:gI lo v<gI pl v->∃h,hf g h/\gI la (h/2)=true/\gI pl v<=gI pl (aA g h)/\gI pl (bg g h)=gI lo v
structure gx(g:bz)(s:Bs)(fr:Fm):Prop where
 se:eU g s (fr.map Prod.fst)
 stk:s.edges=(fr.map Prod.snd).flatten
 inj:∀x y,0<=x->x<g.1->0<=y->y<g.1->gI s.place x≠0->gI s.place x=gI s.place y->x=y
 lof:∀h,hf g h->gI s.laid (h/2)=true->gI s.place (aA g h)≠0
 fra:∀A v S B,fr=A++(v,S)::B->vX g s.place s.low s.by_ s.laid (fr.map Prod.fst) A v S B
 clr:∀e,lT g s.laid s.edges e->0<=gI s.block e/\gI s.block e<s.count
 clb:∀b,0<=b->b<s.count->AU g s.laid s.edges s.block b
theorem AU.congr{la la':List Bool}{ed ed' bl bl':List Int}{b:Int}(h:AU g la ed bl b)(hc:∀e,lT g la' ed' e->gI bl' e=b->lT g la ed e/\gI bl e=b)(hc':∀e,lT g la ed e->lT g la' ed' e/\gI bl' e=gI bl e):AU g la' ed' bl' b:=by
 rcases h with⟨e0,h1,h2⟩|⟨T,u,h1,h2,h3,h4⟩
 · exact .inl ⟨e0,h1,λe a c=>h2 e (hc e a c).1 (hc e a c).2⟩
 · refine .inr ⟨T,u,h1,λh hh ht=>?_,λe a c=>h3 e (hc e a c).1 (hc e a c).2,λe f a c d k=>h4 e f (hc e a d).1 (hc f c k).1 (hc e a d).2 (hc f c k).2⟩
   obtain⟨a,c,d⟩:=h2 h hh ht
   exact⟨a,(hc' _ c).1,by rw[(hc' _ c).2];exact d⟩
theorem dv{la:List Bool}{e x:Int}{c:Bool}(e0:0<=e)(e1:e<(la.length:Int))(x0:0<=x):gI (la.set e.toNat c) x=if x=e then c else gI la x:=bT e0 e1 x0
theorem kN{la:List Bool}{ed:List Int}{e x:Int}(e0:0<=e)(e1:e<(la.length:Int))(hl:¬gI la e=true):lT g (la.set e.toNat true) (ed++[e]) x↔lT g la ed x:=by
 unfold lT
 constructor
 · rintro⟨a,b,c⟩
   have hne:x≠e:=λk=>c (by rw[k];simp)
   rw[dv e0 e1 a.1,if_neg hne] at b
   exact⟨a,b,λk=>c (List.mem_append_left _ k)⟩
 · rintro⟨a,b,c⟩
   have hne:x≠e:=λk=>hl (by rw[<-k];exact b)
   refine⟨a,by rw[dv e0 e1 a.1,if_neg hne];exact b,λk=>?_⟩
   rcases List.mem_append.1 k with k|k
   · exact c k
   · exact hne (List.mem_singleton.1 k)
theorem uu(c:Int):∀(P bl:List Int) (x:Int),0<=x->x<(bl.length:Int)->(∀e∈P,0<=e/\e<(bl.length:Int))->gI (P.foldl (λb e=>b.set e.toNat c) bl) x=if x∈P then c else gI bl x
 |[],bl,x,_,_,_=>by simp
 |e::P,bl,x,h0,h1,hP=>by
   have he:=hP e (List.mem_cons_self ..)
   rw[List.foldl_cons,uu c P (bl.set e.toNat c) x h0 (by rw[List.length_set];exact h1) (λy hy=>by rw[List.length_set];exact hP y (List.mem_cons_of_mem _ hy)),bT he.1 he.2 h0]
   by_cases k1:x∈P
   · rw[if_pos k1,if_pos (List.mem_cons_of_mem _ k1)]
   · rw[if_neg k1]
     by_cases k2:x=e
     · rw[if_pos k2,if_pos (by rw[k2];exact List.mem_cons_self ..)]
     · rw[if_neg k2,if_neg (λk=>(List.mem_cons.1 k).elim k2 k1)]
theorem qQ{s:Bs}{pre rest:List Int}{e:Int}(he:s.edges=pre++e::rest)(hn:s.edges.Nodup):ec s e={s with block:=(e::rest).foldl (λb x=>b.set x.toNat s.count) s.block,edges:=pre,count:=s.count+1}:=by
  have hr:e∉rest:=by
    rw[he,List.nodup_append] at hn
    exact(List.nodup_cons.1 hn.2.1).1
  have ha:qu s.edges e=pre.length:=by rw[he];exact tw hr
  unfold ec
  rw[ha,he]
  simp
structure oq(g:bz)(s:Bs)(path:List Int):Prop where
  use:∀x,0<=x->x<g.1->∀j:Int,0<=j->j<gI s.next x->gI s.laid (gI (gI (ar g) x) j/2)=true
  exh:∀x,0<=x->x<g.1->gI s.place x≠0->x∉path->gI s.next x=((gI (ar g) x).length:Int)
theorem ck(hm:aX g){h:Int}(hh:hf g h):0<=aA g h/\aA g h<g.1:=by
 obtain⟨t1,_,t3,t4⟩:=dR (g:=g) hh
 have:=eV hm t1.1 t1.2
 rwa[t4] at this
theorem dM(hm:aX g){h:Int}(hh:hf g h):0<=bg g h/\bg g h<g.1:=eV hm hh.1 hh.2
theorem oq.all{s:Bs}{path:List Int}(hm:aX g)(h:oq g s path){k:Int}(hk:hf g k)(h1:gI s.place (aA g k)≠0)(h2:aA g k∉path):gI s.laid (k/2)=true:=by
  obtain⟨f0,f1⟩:=ck hm hk
  have he:=h.exh _ f0 f1 h1 h2
  have hin:k∈gI (ar g) (aA g k):=by
    rw[fE f0 f1]
    exact fc hk
  obtain⟨i,hi,e⟩:=List.mem_iff_getElem.1 hin
  have:=h.use _ f0 f1 (i:Int) (by omega) (by rw[he];omega)
  have e2:∀(L:List Int) (hL:i<L.length),gI L (i:Int)=L[i]:=λL hL=>by simp[gI,hL]
  rw[e2 _ hi,e] at this
  exact this
end TL
/-
  TlPg: components without some nodes and edges, found by a stack: the document's way.
  By an AI agent.
-/
set_option linter.all false
namespace TL
structure gY(g g':bz)(gone:List Bool)(ps:Int->Prop):Prop where
  hm:aX g
  hm':aX g'
  n:g'.1=g.1
  pg:∀h,ps h->¬gI gone (aA g h)=true/\¬gI gone (bg g h)=true
  one:∀h,hf g h->ps h->Cn g' (aA g h) (bg g h)
  cl:∀S:Int->Prop,(∀h,hf g h->ps h->S (aA g h)->S (bg g h))->∀u v,Cn g' u v->S u->S v
def iz(g':bz)(gone:List Bool)(p:List Int×Int)(v:Int):List Int×Int:=
 if 0<=gI p.1 v\/gI gone v=true then p else((d8 g' v).order.foldl (λl w=>l.set w.toNat p.2) p.1,p.2+1)
def bJ(g':bz)(gone:List Bool)(k:Nat):List Int×Int:=(bp k).foldl (iz g' gone) (List.replicate g'.1.toNat (-1),0)
section
variable{g g':bz}{gone:List Bool}{ps:Int->Prop}{u v x y:Int}
theorem iT(g':bz)(gone:List Bool)(k:Nat):bJ g' gone (k+1)=iz g' gone (bJ g' gone k) (k:Int):=by
 unfold bJ
 rw[cv,List.foldl_append];rfl
theorem gY.nd(hP:gY g g' gone ps):fI g' v↔fI g v:=by unfold fI;rw[hP.n]
theorem gY.iso(hP:gY g g' gone ps)(hu:gI gone u=true)(hc:Cn g' u v):v=u:=
  hP.cl (λz=>z=u) (λh _ hp e=>absurd (by rw[e];exact hu) (hP.pg h hp).1) u v hc rfl
theorem gY.ng(hP:gY g g' gone ps)(hd:fI g u)(hd2:fI g v)(hc:Cn g' u v)(hu:¬gI gone u=true):¬gI gone v=true:=λk=>by
 have:=hP.iso k ((Cn.eqv g').symm _ _ (hP.nd.2 hd) (hP.nd.2 hd2) hc)
 rw[this] at hu;exact hu k
structure Bh(g g':bz)(gone:List Bool)(p:List Int×Int)(l:List Int)(k:Nat):Prop where
  len:(p.1.length:Int)=g.1
  num:p.2=(l.length:Int)
  nd:l.Nodup
  dom:∀x∈l,fI g x/\¬gI gone x=true
  one:∀x∈l,∀y∈l,Cn g' x y->x=y
  iff:∀v,fI g v->(0<=gI p.1 v↔∃y∈l,Cn g' v y)
  all:∀v:Nat,v<k->(v:Int)<g.1->¬gI gone (v:Int)=true->∃y∈l,Cn g' (v:Int) y
  top:∀v,fI g v->gI p.1 v<p.2
  lab:∀u v,fI g u->fI g v->0<=gI p.1 u->(gI p.1 u=gI p.1 v↔Cn g' u v)
  le:l.length<=k
theorem gY.inv(hP:gY g g' gone ps):∀k:Nat,(k:Int)<=g.1->∃l,Bh g g' gone (bJ g' gone k) l k
 |0,_=>by
   have h0:=hP.hm.1
   have e:(bJ g' gone 0).1=List.replicate g.1.toNat (-1):=by simp[bJ,bp,hP.n]
   have r:∀v,fI g v->gI (bJ g' gone 0).1 v= -1:=λv hv=>by rw[e,fM hv.1 (by have:=hv.2;omega)]
   have e2:(bJ g' gone 0).2=0:=by simp[bJ,bp]
   refine⟨[],by rw[e];simp;omega,by rw[e2];rfl,by simp,by simp,by simp,λv hv=>by rw[r v hv];simp,λv hv=>by omega,λv hv=>by rw[r v hv,e2];omega,λu v hu _ h=>by rw[r u hu] at h;omega,Nat.le_refl _⟩
 |k+1,hk=>by
   obtain⟨l,h⟩:=hP.inv k (by omega)
   have hkd:fI g (k:Int):=⟨by omega,by omega⟩
   have hkd':=hP.nd.2 hkd
   obtain⟨hb1,hb2⟩:=m8 hP.hm' hkd'
   have hq:=Cn.eqv g'
   rw[iT]
   unfold iz
   by_cases c:0<=gI (bJ g' gone k).1 (k:Int)\/gI gone (k:Int)=true
   · rw[if_pos c]
     refine⟨l,h.len,h.num,h.nd,h.dom,h.one,h.iff,λv hv hg hn=>?_,h.top,h.lab,by have:=h.le;omega⟩
     by_cases e:v=k
     · subst e;exact(h.iff _ hkd).1 (c.resolve_right hn)
     · exact h.all v (by omega) hg hn
   · rw[if_neg c]
     have c1:¬0<=gI (bJ g' gone k).1 (k:Int):=λj=>c (.inl j)
     have c2:¬gI gone (k:Int)=true:=λj=>c (.inr j)
     have hno:∀y∈l,¬Cn g' (k:Int) y:=λy hy hc=>c1 ((h.iff _ hkd).2 ⟨y,hy,hc⟩)
     have hlen:=h.len
     have hnn:0<=(bJ g' gone k).2:=by rw[h.num];omega
     have hset:∀v,fI g v->gI ((d8 g' (k:Int)).order.foldl (λl w=>l.set w.toNat (bJ g' gone k).2) (bJ g' gone k).1) v=if v∈(d8 g' (k:Int)).order then(bJ g' gone k).2 else gI (bJ g' gone k).1 v:=λv hv=>py _ _ v hv.1 (by have:=hv.2;omega) (λx hx=>by have:=hb1 x hx;exact⟨this.1,by have:=this.2;rw[hP.n] at this;omega⟩)
     have hmem:∀v,v∈(d8 g' (k:Int)).order->fI g v:=λv hv=>hP.nd.1 (hb1 v hv)
     have hnew:∀v,v∈(d8 g' (k:Int)).order->gI (bJ g' gone k).1 v<0:=λv hv=>by
       refine Int.not_le.1 λj=>?_
       obtain⟨y,hy,hc⟩:=(h.iff v (hmem v hv)).1 j
       exact hno y hy (hq.trans _ _ _ hkd' (hb1 v hv) (hP.nd.2 (h.dom y hy).1) ((hb2 v).1 hv) hc)
     refine⟨l++[(k:Int)],?_,?_,?_,?_,?_,?_,?_,?_,?_,by rw[List.length_append,List.length_singleton];have:=h.le;omega⟩
     · simp only;rw[gy];exact hlen
     · simp only[h.num];simp
     · rw[List.nodup_append]
       refine⟨h.nd,by simp,λa ha b hb e=>?_⟩
       obtain rfl:=List.mem_singleton.1 hb
       subst e
       exact hno _ ha (hq.rfl _ hkd')
     · intro x hx
       rcases List.mem_append.1 hx with hx|hx
       · exact h.dom x hx
       · obtain rfl:=List.mem_singleton.1 hx;exact⟨hkd,c2⟩
     · intro x hx y hy hc
       rcases List.mem_append.1 hx with hx|hx
       · rcases List.mem_append.1 hy with hy|hy
         · exact h.one x hx y hy hc
         · obtain rfl:=List.mem_singleton.1 hy
           exact absurd (hq.symm _ _ (hP.nd.2 (h.dom x hx).1) hkd' hc) (hno x hx)
       · obtain rfl:=List.mem_singleton.1 hx
         rcases List.mem_append.1 hy with hy|hy
         · exact absurd hc (hno y hy)
         · obtain rfl:=List.mem_singleton.1 hy;rfl
     · intro v hv
       simp only
       rw[hset v hv]
       by_cases hvo:v∈(d8 g' (k:Int)).order
       · rw[if_pos hvo]
         exact⟨λ_=>⟨(k:Int),by simp,hq.symm _ _ hkd' (hP.nd.2 hv) ((hb2 v).1 hvo)⟩,λ_=>hnn⟩
       · rw[if_neg hvo,h.iff v hv]
         constructor
         · rintro⟨y,hy,hc⟩;exact⟨y,by simp[hy],hc⟩
         · rintro⟨y,hy,hc⟩
           rcases List.mem_append.1 hy with hy|hy
           · exact⟨y,hy,hc⟩
           · obtain rfl:=List.mem_singleton.1 hy
             exact absurd ((hb2 v).2 (hq.symm _ _ (hP.nd.2 hv) hkd' hc)) hvo
     · intro v hv hg hn
       by_cases e:v=k
       · subst e;exact⟨(v:Int),by simp,hq.rfl _ hkd'⟩
       · obtain⟨y,hy,hc⟩:=h.all v (by omega) hg hn
         exact⟨y,by simp[hy],hc⟩
     · intro v hv
       simp only
       rw[hset v hv]
       have:=h.top v hv
       split<;>omega
     · intro u v hu hv h0
       simp only at h0 ⊢
       rw[hset u hu] at h0 ⊢
       rw[hset v hv]
       have tu:=h.top u hu
       have tv:=h.top v hv
       by_cases a:u∈(d8 g' (k:Int)).order
       · rw[if_pos a]
         by_cases b:v∈(d8 g' (k:Int)).order
         · rw[if_pos b]
           exact⟨λ_=>hq.trans _ _ _ (hP.nd.2 hu) hkd' (hP.nd.2 hv) (hq.symm _ _ hkd' (hP.nd.2 hu) ((hb2 u).1 a)) ((hb2 v).1 b),λ_=>rfl⟩
         · rw[if_neg b]
           exact⟨λj=>by omega,λj=>absurd ((hb2 v).2 (hq.trans _ _ _ hkd' (hP.nd.2 hu) (hP.nd.2 hv) ((hb2 u).1 a) j)) b⟩
       · rw[if_neg a] at h0 ⊢
         by_cases b:v∈(d8 g' (k:Int)).order
         · rw[if_pos b]
           exact⟨λj=>by omega,λj=>absurd ((hb2 u).2 (hq.trans _ _ _ hkd' (hP.nd.2 hv) (hP.nd.2 hu) ((hb2 v).1 b) (hq.symm _ _ (hP.nd.2 hu) (hP.nd.2 hv) j))) a⟩
         · rw[if_neg b]
           exact h.lab u v hu hv h0
structure fD(g g':bz)(ps:Int->Prop)(c0 c todo x:List Int)(n s:Int):Prop where
  len:(c.length:Int)=g.1
  n0:0<=n
  sd:fI g s
  pre:∀w,fI g w->Cn g' s w->gI c0 w<0
  cmp:∀w,fI g w->(Cn g' s w/\gI c w=n)\/gI c w=gI c0 w
  nd:todo.Nodup
  tds:∀t∈todo,fI g t/\Cn g' s t/\gI c t=n
  clo:∀v,fI g v->Cn g' s v->gI c v=n->v∉todo->v∉x->∀h∈bO g v,ps h->0<=gI c (bg g h)
  src:gI c s=n
theorem fD.start(hP:gY g g' gone ps){c0:List Int}{n:Int}{q:Nat}(hq:(q:Int)<g.1)(h:c0=(bJ g' gone q).1/\n=(bJ g' gone q).2)(c:¬0<=gI c0 (q:Int)):fD g g' ps c0 (c0.set (q:Int).toNat n) [(q:Int)] [] n (q:Int):=by
 obtain⟨l,hi⟩:=hP.inv q (by omega)
 obtain⟨rfl,rfl⟩:=h
 have hqd:fI g (q:Int):=⟨by omega,hq⟩
 have hqd':=hP.nd.2 hqd
 have hn:0<=(bJ g' gone q).2:=by rw[hi.num];omega
 have hlen:=hi.len
 have hcn:=Cn.eqv g'
 have hpre:∀w,fI g w->Cn g' (q:Int) w->gI (bJ g' gone q).1 w<0:=λw hw hc=>by
   refine Int.not_le.1 λh0=>c ?_
   obtain⟨y,hy,hwy⟩:=(hi.iff w hw).1 h0
   exact(hi.iff _ hqd).2 ⟨y,hy,hcn.trans _ _ _ hqd' (hP.nd.2 hw) (hP.nd.2 (hi.dom y hy).1) hc hwy⟩
 have hset:∀w,fI g w->gI ((bJ g' gone q).1.set (q:Int).toNat (bJ g' gone q).2) w=if w=q then(bJ g' gone q).2 else gI (bJ g' gone q).1 w:=λw hw=>bT (by omega) (by omega) hw.1
 refine⟨by simpa using hlen,hn,hqd,hpre,λw hw=>?_,by simp,λt ht=>?_,λv hv hc e hnt _=>?_,?_⟩
 · rw[hset w hw]
   by_cases e:w=q
   · subst e;exact .inl ⟨hcn.rfl _ hqd',if_pos rfl⟩
   · rw[if_neg e];exact .inr rfl
 · obtain rfl:=List.mem_singleton.1 ht
   exact⟨hqd,hcn.rfl _ hqd',by rw[hset _ hqd,if_pos rfl]⟩
 · have hne:v≠q:=λe=>hnt (by simp[e])
   rw[hset v hv,if_neg hne] at e
   have:=hpre v hv hc
   omega
 · rw[hset _ hqd,if_pos rfl]
end
section
variable{g g':bz}{gone:List Bool}{ps:Int->Prop}{c0 c todo x:List Int}{n s:Int}
theorem fD.bd(h:fD g g' ps c0 c todo x n s):(todo.length:Int)<=g.1:=by
 have h1:=h.sd.1
 have h2:=h.sd.2
 exact si (by omega) h.nd (λt ht=>(h.tds t ht).1)
theorem fD.pop(h:fD g g' ps c0 c todo [] n s)(ht:0<todo.length):fD g g' ps c0 c (todo.take (todo.length-1)) [gI todo ((todo.length:Int)-1)] n s/\fI g (gI todo ((todo.length:Int)-1))/\Cn g' s (gI todo ((todo.length:Int)-1))/\gI c (gI todo ((todo.length:Int)-1))=n:=by
 have hm:=br (xs:=todo) (i:=(todo.length:Int)-1) (by omega) (by omega)
 have hs:=bC (xs:=todo) (k:=todo.length-1) (by omega)
 rw[List.take_of_length_le (by omega),show((todo.length-1:Nat):Int)=(todo.length:Int)-1 by omega] at hs
 refine⟨⟨h.len,h.n0,h.sd,h.pre,h.cmp,h.nd.sublist (List.take_sublist _ _),λt ht=>h.tds t (List.mem_of_mem_take ht),λv hv hc e hnt hnx=>h.clo v hv hc e (λhm=>?_) (by simp),h.src⟩,h.tds _ hm⟩
 rw[hs] at hm
 rcases List.mem_append.1 hm with hm|hm
 · exact hnt hm
 · exact hnx hm
theorem fD.push(hP:gY g g' gone ps)(h:fD g g' ps c0 c todo x n s){v:Int}(hv:fI g v)(hc:Cn g' s v){hh:Int}(hh0:hh∈bO g v)(hps:ps hh)(hw:gI c (bg g hh)<0):fD g g' ps c0 (c.set (bg g hh).toNat n) (todo++[bg g hh]) x n s/\∀u,0<=u->0<=gI c u->0<=gI (c.set (bg g hh).toNat n) u:=by
 obtain⟨⟨a1,a2⟩,a3⟩:=cQ hh0
 have hto:=eV hP.hm a1 a2
 have hlen:=h.len
 have hn:=h.n0
 have hcw:Cn g' s (bg g hh):=(Cn.eqv g').trans _ _ _ (hP.nd.2 h.sd) (hP.nd.2 hv) (hP.nd.2 hto) hc (by have:=hP.one hh ⟨a1,a2⟩ hps;rwa[a3] at this)
 have hset:∀u,0<=u->gI (c.set (bg g hh).toNat n) u=if u=bg g hh then n else gI c u:=λu h0=>bT hto.1 (by omega) h0
 have hmono:∀u,0<=u->0<=gI c u->0<=gI (c.set (bg g hh).toNat n) u:=λu h0 h1=>by
   rw[hset u h0];split<;>omega
 refine⟨⟨by simpa using hlen,hn,h.sd,h.pre,λw hwd=>?_,?_,λt ht=>?_,λv' hv' hc' e hnt hnx h' hh' hp'=>?_,?_⟩,hmono⟩
 · rw[hset w hwd.1]
   by_cases e:w=bg g hh
   · subst e;exact .inl ⟨hcw,if_pos rfl⟩
   · rw[if_neg e];exact h.cmp w hwd
 · rw[List.nodup_append]
   refine⟨h.nd,by simp,λa ha b hb e=>?_⟩
   obtain rfl:=List.mem_singleton.1 hb
   have:=(h.tds a ha).2.2
   rw[e] at this
   omega
 · rcases List.mem_append.1 ht with ht|ht
   · obtain⟨b1,b2,b3⟩:=h.tds t ht
     refine⟨b1,b2,?_⟩
     rw[hset t b1.1];split
     · rfl
     · exact b3
   · obtain rfl:=List.mem_singleton.1 ht
     exact⟨hto,hcw,by rw[hset _ hto.1,if_pos rfl]⟩
 · have hne:v'≠bg g hh:=λe=>hnt (by simp[e])
   rw[hset v' hv'.1,if_neg hne] at e
   have b:=cQ hh'
   exact hmono _ (eV hP.hm b.1.1 b.1.2).1 (h.clo v' hv' hc' e (λhm=>hnt (by simp[hm])) hnx h' hh' hp')
 · rw[hset s h.sd.1];split
   · rfl
   · exact h.src
structure fq(g g':bz)(ps:Int->Prop)(c0 c todo:List Int)(n s v:Int)(k M:Nat):Prop where
  inv:fD g g' ps c0 c todo [v] n s
  vd:fI g v
  vc:Cn g' s v
  row:∀i:Nat,i<k->(i:Int)<(bO g v).length->ps (gI (bO g v) (i:Int))->0<=gI c (bg g (gI (bO g v) (i:Int)))
  meas:todo.length+2*jl c<M
theorem fD.row(h:fD g g' ps c0 c todo [] n s)(ht:0<todo.length):fq g g' ps c0 c (todo.take (todo.length-1)) n s (gI todo ((todo.length:Int)-1)) 0 (todo.length+2*jl c):=by
 obtain⟨h1,h2,h3,h4⟩:=h.pop ht
 exact⟨h1,h2,h3,λi hi=>by omega,by rw[List.length_take];omega⟩
variable{v:Int}{k M:Nat}
theorem fq.skip(h:fq g g' ps c0 c todo n s v k M)(hk:ps (gI (bO g v) (k:Int))->0<=gI c (bg g (gI (bO g v) (k:Int)))):fq g g' ps c0 c todo n s v (k+1) M:=
 ⟨h.inv,h.vd,h.vc,λi hi hl hp=>by
   by_cases e:i=k
   · subst e;exact hk hp
   · exact h.row i (by omega) hl hp,h.meas⟩
theorem fq.push(hP:gY g g' gone ps)(h:fq g g' ps c0 c todo n s v k M)(hl:(k:Int)<(bO g v).length)(hps:ps (gI (bO g v) (k:Int)))(hk:¬0<=gI c (bg g (gI (bO g v) (k:Int)))):fq g g' ps c0 (c.set (bg g (gI (bO g v) (k:Int))).toNat n) (todo++[bg g (gI (bO g v) (k:Int))]) n s v (k+1) M:=by
 have hmem:=br (xs:=bO g v) (i:=(k:Int)) (by omega) hl
 obtain⟨h1,h2⟩:=h.inv.push hP h.vd h.vc hmem hps (by omega)
 have b:=cQ hmem
 have hto:=eV hP.hm b.1.1 b.1.2
 have hlen:=h.inv.len
 have hn:=h.inv.n0
 have hme:=h.meas
 have hcn:=zb (c:=c) (w:=bg g (gI (bO g v) (k:Int))) (n:=n) hto.1 (by omega) (by omega) hn
 refine⟨h1,h.vd,h.vc,λi hi hil hp=>?_,?_⟩
 · by_cases e:i=k
   · subst e
     rw[bT hto.1 (by omega) hto.1,if_pos rfl];exact hn
   · have bi:=cQ (br (xs:=bO g v) (i:=(i:Int)) (by omega) hil)
     exact h2 _ (eV hP.hm bi.1.1 bi.1.2).1 (h.row i (by omega) hil hp)
 · rw[List.length_append,List.length_singleton];omega
theorem fq.done(h:fq g g' ps c0 c todo n s v k M)(hl:¬(k:Int)<(bO g v).length):fD g g' ps c0 c todo [] n s:=
 ⟨h.inv.len,h.inv.n0,h.inv.sd,h.inv.pre,h.inv.cmp,h.inv.nd,h.inv.tds,λu hu hc e hnt _ hh hhu hp=>by
   by_cases e2:u=v
   · subst e2
     obtain⟨i,hi,rfl⟩:=List.mem_iff_getElem.1 hhu
     have e3:gI (bO g u) (i:Int)=(bO g u)[i]:=by simp[gI,hi]
     rw[<-e3] at hp ⊢
     exact h.row i (by omega) (by omega) hp
   · exact h.inv.clo u hu hc e hnt (by simp[e2]) hh hhu hp,h.inv.src⟩
theorem fD.done(hP:gY g g' gone ps){q:Nat}(h:fD g g' ps c0 c todo [] n (q:Int))(ht:¬0<todo.length)(h0:c0=(bJ g' gone q).1/\n=(bJ g' gone q).2)(hc:¬0<=gI c0 (q:Int))(hg:¬gI gone (q:Int)=true):c=(bJ g' gone (q+1)).1/\n+1=(bJ g' gone (q+1)).2:=by
 have hnil:todo=[]:=List.eq_nil_of_length_eq_zero (by omega)
 subst hnil
 have hsd:=h.sd
 have hsd':=hP.nd.2 hsd
 obtain⟨hb1,hb2⟩:=m8 hP.hm' hsd'
 obtain⟨l,hi⟩:=hP.inv q (by have:=hsd.2;omega)
 have hpl:=hi.len
 have hcn:=Cn.eqv g'
 have hall:∀w,Cn g' (q:Int) w->gI c w=n:=λw hw=>
   (hP.cl (λw=>(fI g w/\Cn g' (q:Int) w)/\gI c w=n) (λhh hhf hp hx=>by
     have hto:=eV hP.hm hhf.1 hhf.2
     have hcx:Cn g' (q:Int) (bg g hh):=hcn.trans _ _ _ hsd' (hP.nd.2 hx.1.1) (hP.nd.2 hto) hx.1.2 (hP.one hh hhf hp)
     have h1:=h.clo _ hx.1.1 hx.1.2 hx.2 (by simp) (by simp) hh (fc hhf) hp
     refine⟨⟨hto,hcx⟩,?_⟩
     rcases h.cmp _ hto with e|e
     · exact e.2
     · have:=h.pre _ hto hcx
       omega) _ _ hw ⟨⟨h.sd,hcn.rfl _ hsd'⟩,h.src⟩).2
 have h1:bJ g' gone (q+1)=((d8 g' (q:Int)).order.foldl (λl w=>l.set w.toNat (bJ g' gone q).2) (bJ g' gone q).1,(bJ g' gone q).2+1):=by
   rw[iT]
   unfold iz
   rw[if_neg (λj=>j.elim (λj=>hc (by rw[h0.1];exact j)) hg)]
 have hlen:=h.len
 have hsd2:=hsd.2
 rw[h1]
 refine⟨?_,by rw[h0.2]⟩
 simp only
 have hl2:(((d8 g' (q:Int)).order.foldl (λl w=>l.set w.toNat (bJ g' gone q).2) (bJ g' gone q).1).length:Int)=g.1:=by rw[gy];exact hpl
 apply fp
 · omega
 · intro w hw
   have hwd:fI g (w:Int):=⟨by omega,by omega⟩
   rw[py _ _ (w:Int) (by omega) (by omega) (λx hx=>by
     have:=hP.nd.1 (hb1 x hx)
     have h2:=this.1
     have h3:=this.2
     omega)]
   by_cases hc':Cn g' (q:Int) (w:Int)
   · rw[if_pos ((hb2 _).2 hc'),hall _ hc',h0.2]
   · rw[if_neg (λhm=>hc' ((hb2 _).1 hm)),<-h0.1]
     rcases h.cmp _ hwd with e|e
     · exact absurd e.1 hc'
     · exact e
theorem kp{p:List Int}{m:Int}{q:Nat}(h:p=(bJ g' gone q).1/\m=(bJ g' gone q).2)(c:0<=gI p (q:Int)\/gI gone (q:Int)=true):p=(bJ g' gone (q+1)).1/\m=(bJ g' gone (q+1)).2:=by
 have h1:bJ g' gone (q+1)=bJ g' gone q:=by
   rw[iT]
   unfold iz
   rw[if_pos (by rw[<-h.1];exact c)]
 rw[h1];exact h
end
def mN(g:bz)(gone cut:List Bool):List Int:=(bp g.2.length).filter λe=> !(gI gone (gI g.2 e).1||gI gone (gI g.2 e).2||gI cut e)
def d6(g:bz)(gone cut:List Bool):bz:=(g.1,(mN g gone cut).map (gI g.2))
def aU(g:bz)(gone cut:List Bool):List Int×Int:=bJ (d6 g gone cut) gone g.1.toNat
def uF(g:bz)(gone cut:List Bool)(h:Int):Prop:=¬gI gone (aA g h)=true/\¬gI gone (bg g h)=true/\¬gI cut (h/2)=true
section
variable{g:bz}{gone cut:List Bool}{h e:Int}
theorem ii:e∈mN g gone cut↔(0<=e/\e<(g.2.length:Int))/\¬gI gone (gI g.2 e).1=true/\¬gI gone (gI g.2 e).2=true/\¬gI cut e=true:=by
 unfold mN
 rw[List.mem_filter,ch]
 refine and_congr Iff.rfl ?_
 simp[and_assoc]
theorem jg(h0:0<=h):(aA g h=(gI g.2 (h/2)).1/\bg g h=(gI g.2 (h/2)).2)\/(aA g h=(gI g.2 (h/2)).2/\bg g h=(gI g.2 (h/2)).1):=by
 unfold aA bg pI
 have:h%2=0\/h%2=1:=by omega
 rcases this with q|q
 · rw[q];left;simp
 · rw[q];right;simp
theorem we(hm:aX g):aX (d6 g gone cut):=by
 obtain⟨m1,m2,m3,m4⟩:=hm
 refine⟨m1,m2,?_,λe he=>?_⟩
 · unfold d6
   rw[List.length_map]
   have:(mN g gone cut).length<=(bp g.2.length).length:=List.length_filter_le ..
   have h2:(bp g.2.length).length=g.2.length:=by simp[bp]
   omega
 · obtain⟨i,hi,rfl⟩:=List.mem_map.1 he
   have:=(ii.1 hi).1
   exact m4 _ (br this.1 this.2)
theorem i7(hm:aX g):gY g (d6 g gone cut) gone (uF g gone cut):=by
 refine⟨hm,we hm,rfl,λh hp=>⟨hp.1,hp.2.1⟩,λh hh hp=>?_,λS hS u v hc hu=>?_⟩
 · obtain⟨p1,p2,p3⟩:=hp
   have hin:=br (xs:=g.2) (i:=h/2) (by have:=hh.1;omega) (by have:=hh.2;omega)
   have hok:=hm.2.2.2 _ hin
   have hk:h/2∈mN g gone cut:=by
     refine ii.2 ⟨⟨by have:=hh.1;omega,by have:=hh.2;omega⟩,?_⟩
     rcases jg (g:=g) hh.1 with⟨a,b⟩|⟨a,b⟩
     · rw[<-a,<-b];exact⟨p1,p2,p3⟩
     · rw[<-a,<-b];exact⟨p2,p1,p3⟩
   have he:gI g.2 (h/2)∈(d6 g gone cut).2:=List.mem_map.2 ⟨_,hk,rfl⟩
   have hc:=Cn.edge he
   rcases jg (g:=g) hh.1 with⟨a,b⟩|⟨a,b⟩
   · rw[a,b];exact hc
   · rw[a,b];exact(Cn.eqv (d6 g gone cut)).symm _ _ hok.1 hok.2 hc
 · refine(hc (λu v=>S u↔S v) ⟨λ_ _=>Iff.rfl,λ_ _ _ _ h=>h.symm,λ_ _ _ _ _ _ h1 h2=>h1.trans h2⟩ (λe he=>?_)).1 hu
   obtain⟨i,hi,rfl⟩:=List.mem_map.1 he
   obtain⟨⟨i0,i1⟩,k1,k2,k3⟩:=ii.1 hi
   have e0:(2*i)/2=i:=by omega
   have e1:(2*i+1)/2=i:=by omega
   have f0:aA g (2*i)=(gI g.2 i).1/\bg g (2*i)=(gI g.2 i).2:=by
     unfold aA bg pI
     rw[e0,show(2*i)%2=0 by omega];simp
   have f1:aA g (2*i+1)=(gI g.2 i).2/\bg g (2*i+1)=(gI g.2 i).1:=by
     unfold aA bg pI
     rw[e1,show(2*i+1)%2=1 by omega];simp
   constructor
   · have:=hS (2*i) ⟨by omega,by omega⟩ ⟨by rw[f0.1];exact k1,by rw[f0.2];exact k2,by rw[e0];exact k3⟩
     rw[f0.1,f0.2] at this;exact this
   · have:=hS (2*i+1) ⟨by omega,by omega⟩ ⟨by rw[f1.1];exact k2,by rw[f1.2];exact k1,by rw[e1];exact k3⟩
     rw[f1.1,f1.2] at this;exact this
theorem dJ(hm:aX g):∃l,Bh g (d6 g gone cut) gone (aU g gone cut) l g.1.toNat:=(i7 hm).inv g.1.toNat (by have:=hm.1;omega)
theorem gR(hm:aX g):((aU g gone cut).1.length:Int)=g.1/\0<=(aU g gone cut).2/\(aU g gone cut).2<=g.1:=by
 have h0:=hm.1
 obtain⟨l,h⟩:=dJ (gone:=gone) (cut:=cut) hm
 have:=h.num
 have:=h.le
 exact⟨h.len,by omega,by omega⟩
end
end TL
namespace TL
section
variable{g g':bz}{gone cut:List Bool}{ps:Int->Prop}{c0 c todo:List Int}{n s v:Int}{k M q:Nat}
theorem ra{xs:List Bool}{i:Int}{P:Prop}(h:¬P->xs=[])(hn:¬P):¬gI xs i=true:=by
 rw[h hn];simp[gI]
theorem r7(hP:gY g g' gone ps)(h:c=(bJ g' gone q).1/\n=(bJ g' gone q).2)(hq:(q:Int)<=g.1):(c.length:Int)=g.1/\0<=n/\n<=q:=by
 obtain⟨rfl,rfl⟩:=h
 obtain⟨l,h⟩:=hP.inv q hq
 have:=h.num
 have:=h.le
 exact⟨h.len,by omega,by omega⟩
theorem fq.psg(hm:aX g)(h:fq g (d6 g gone cut) (uF g gone cut) c0 c todo n s v k M)(hs:¬gI gone s=true)(hl:(k:Int)<(bO g v).length)(h1:¬gI gone (bg g (gI (bO g v) (k:Int)))=true)(h2:¬gI cut (gI (bO g v) (k:Int)/2)=true):uF g gone cut (gI (bO g v) (k:Int)):=by
 have hf:=(cQ (br (xs:=bO g v) (i:=(k:Int)) (by omega) hl)).2
 exact⟨by rw[hf];exact(i7 hm).ng h.inv.sd h.vd h.vc hs,h1,h2⟩
theorem mW(hm:aX g)(hq:(q:Int)=g.1)(h:c=(bJ (d6 g gone cut) gone q).1/\n=(bJ (d6 g gone cut) gone q).2):c=(aU g gone cut).1/\n=(aU g gone cut).2:=by
 have:q=g.1.toNat:=by omega
 rw[this] at h;exact h
end
end TL
/-
  TlCls2: the steps of the walk keep what it relies on.
  By an AI agent.
-/
set_option linter.all false
namespace TL
variable{g:bz}{s:Bs}{fr:Fm}{path:List Int}{A B:Fm}{S:List Int}{v e b:Int}{pl lo by_:List Int}{la:List Bool}{ed bl:List Int}
theorem fz{h k:Int}(h0:0<=h)(k0:0<=k)(e:h/2=k/2):h=k\/h=iu k:=by
 unfold iu
 split<;>omega
theorem ms{pre P:List Int}{x:Int}(he:ed=pre++P)(hn:ed.Nodup)(hP:∀x∈ed,(0<=x/\x<(g.2.length:Int))/\gI la x=true):lT g la pre x↔lT g la ed x\/x∈P:=by
 subst he
 unfold lT
 constructor
 · rintro⟨a,c,d⟩
   by_cases k:x∈P
   · exact .inr k
   · exact .inl ⟨a,c,λj=>(List.mem_append.1 j).elim d k⟩
 · rintro(⟨a,c,d⟩|k)
   · exact⟨a,c,λj=>d (List.mem_append_left _ j)⟩
   · obtain⟨a,c⟩:=hP x (List.mem_append_right _ k)
     exact⟨a,c,λj=>(List.nodup_append.1 hn).2.2 x j x k rfl⟩
theorem zi{pre P:List Int}{c:Int}(he:ed=pre++P)(hn:ed.Nodup)(hP:∀x∈ed,(0<=x/\x<(g.2.length:Int))/\gI la x=true)(hbl:(bl.length:Int)=(g.2.length:Int))(hc:0<=c)
    (hr:∀e,lT g la ed e->0<=gI bl e/\gI bl e<c)(hb:∀b,0<=b->b<c->AU g la ed bl b)(hnew:(∀x,lT g la pre x->gI (P.foldl (λb e=>b.set e.toNat c) bl) x=c->x∈P)->(∀x,lT g la pre x->gI (P.foldl (λb e=>b.set e.toNat c) bl) x<=c)->AU g la pre (P.foldl (λb e=>b.set e.toNat c) bl) c):
    (∀e,lT g la pre e->0<=gI (P.foldl (λb e=>b.set e.toNat c) bl) e/\gI (P.foldl (λb e=>b.set e.toNat c) bl) e<c+1)/\∀b,0<=b->b<c+1->AU g la pre (P.foldl (λb e=>b.set e.toNat c) bl) b:=by
  have hg:∀x,0<=x->x<(g.2.length:Int)->gI (P.foldl (λb e=>b.set e.toNat c) bl) x=if x∈P then c else gI bl x:=λx a d=>uu c P bl x a (by omega) (λy hy=>by have:=(hP y (by rw[he];exact List.mem_append_right _ hy)).1;omega)
  have hnP:∀x,lT g la ed x->x∉P:=λx hx k=>hx.2.2 (by rw[he];exact List.mem_append_right _ k)
  have h1:∀e,lT g la pre e->0<=gI (P.foldl (λb e=>b.set e.toNat c) bl) e/\gI (P.foldl (λb e=>b.set e.toNat c) bl) e<c+1:=λe hx=>by
    rw[hg e hx.1.1 hx.1.2]
    rcases(ms he hn hP).1 hx with k|k
    · rw[if_neg (hnP e k)];have:=hr e k;omega
    · rw[if_pos k];omega
  refine⟨h1,λb b0 b1=>?_⟩
  by_cases k:b=c
  · rw[k]
    refine hnew (λx hx hxc=>?_) (λx hx=>by have:=h1 x hx;omega)
    rcases(ms he hn hP).1 hx with j|j
    · rw[hg x hx.1.1 hx.1.2,if_neg (hnP x j)] at hxc
      have:=hr x j;omega
    · exact j
  · refine(hb b b0 (by omega)).congr (λx hx hxb=>?_) (λx hx=>⟨(ms he hn hP).2 (.inl hx),by rw[hg x hx.1.1 hx.1.2,if_neg (hnP x hx)]⟩)
    rw[hg x hx.1.1 hx.1.2] at hxb
    by_cases j:x∈P
    · rw[if_pos j] at hxb;exact absurd hxb.symm k
    · rw[if_neg j] at hxb
      exact⟨((ms he hn hP).1 hx).resolve_right j,hxb⟩
theorem sB(e0:0<=e)(e1:e<(la.length:Int))(hl:¬gI la e=true)(h:AU g la ed bl b):AU g (la.set e.toNat true) (ed++[e]) bl b:=
  h.congr (λx hx hb=>⟨(kN e0 e1 hl).1 hx,hb⟩) (λx hx=>⟨(kN e0 e1 hl).2 hx,rfl⟩)
theorem vX.lay(h:vX g pl lo by_ la path A v S B)(e0:0<=e)(e1:e<(la.length:Int))(hm2:∀x:Int,hf g x->0<=x/2)(hw:∀h,hf g h->h/2=e->gI pl v<=gI pl (aA g h)->gI pl (bg g h)<gI pl v->h/2≠gI by_ v/2->∃w∈v::B.map Prod.fst,gI lo w<=gI pl (bg g h)):vX g pl lo by_ (la.set e.toNat true) path A v S B:=
  {h with
    l1:=λk hk hl a c d=>by
      by_cases q:k/2=e
      · exact hw k hk q a c d
      · rw[dv e0 e1 (hm2 k hk),if_neg q] at hl
        exact h.l1 k hk hl a c d
    l3:=λk=>by
      obtain⟨x,a,c,d⟩:=h.l3 k
      refine⟨x,a,?_,d⟩
      rw[dv e0 e1 (hm2 x a)]
      split
      · rfl
      · exact c}
theorem ik{x:Int}(h:hf g x):0<=x/2:=by have:=h.1;omega
theorem fN{x:Int}(h:hf g x):x/2<(g.2.length:Int):=by have:=h.2;omega
theorem AS(hf0:∀A v S B,fr=A++(v,S)::B->(A=[]/\S=[]/\gI by_ v= -1)\/(∃A' u U S',A=A'++[(u,U)]/\S=gI by_ v/2::S'/\aA g (gI by_ v)=u/\0<=gI by_ v))(hto:∀p∈fr,0<=gI by_ p.1->hf g (gI by_ p.1)/\bg g (gI by_ p.1)=p.1):
    ∀(n:Nat) (A B:Fm),A.length=n->fr=A++B->∀x∈A.map Prod.fst,∀y∈A.map Prod.fst,Wy g (λz=>z∈A.map Prod.fst) x y:=by
  intro n
  induction n with
  |zero=>
    intro A B hl _ x hx
    rw[List.length_eq_zero_iff.1 hl] at hx;exact absurd hx List.not_mem_nil
  |succ n ih=>
    intro A B hl he x hx y hy
    obtain⟨A',p,rfl⟩:∃A' p,A=A'++[p]:=⟨A.dropLast,A.getLast (by intro k;rw[k] at hl;simp at hl),(List.dropLast_concat_getLast _).symm⟩
    have hl':A'.length=n:=by simpa using hl
    have he':fr=A'++p::B:=by rw[he];simp
    have ih':=ih A' (p::B) hl' he'
    have key:∀x∈(A'++[p]).map Prod.fst,Wy g (λz=>z∈(A'++[p]).map Prod.fst) x p.1:=by
      intro x hx
      have hp:p.1∈(A'++[p]).map Prod.fst:=by simp
      rw[List.map_append,List.mem_append] at hx
      rcases hx with hx|hx
      · rcases hf0 A' p.1 p.2 B he' with⟨q,_⟩|⟨A2,u,U,S',q1,_,q3,q4⟩
        · rw[q] at hx;exact absurd hx List.not_mem_nil
        · have hu:u∈A'.map Prod.fst:=by rw[q1];simp
          have hh:=hto p (by rw[he'];simp) q4
          have w1:=(ih' x hx u hu).mono (B:=λz=>z∈(A'++[p]).map Prod.fst) (λz hz=>by rw[List.map_append];exact List.mem_append_left _ hz)
          have w2:Wy g (λz=>z∈(A'++[p]).map Prod.fst) u p.1:=by
            have:=Wy.one (g:=g) (A:=λz=>z∈(A'++[p]).map Prod.fst) hh.1 (by rw[q3,List.map_append];exact List.mem_append_left _ hu) (by rw[hh.2];exact hp)
            rwa[q3,hh.2] at this
          exact w1.trans w2
      · have:x=p.1:=by simpa using hx
        rw[this];exact .refl hp
    exact(key x hx).trans (key y hy).symm
end TL
