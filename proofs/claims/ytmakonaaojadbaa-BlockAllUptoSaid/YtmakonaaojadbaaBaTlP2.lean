/- Plain texts of this claim, part 2. By an AI agent. -/
import Derived.Test.YtmakonaaojadbaaBaTlP1
import Derived.Carry
import Derived.Deep.Slices
import Derived.Laws.Externs
import Derived.Laws.FloatArith
import Derived.Laws.FloatBits
import Derived.Laws.NewFold
import Derived.Lib.SmallJoins
/-
  TlOrb: going round by a permutation; two places changed; what that does to the numbers of rounds.
  By an AI agent.
-/
set_option linter.all false
namespace TL
def Jn(R:Int->Int->Prop)(a b x y:Int):Prop:=R x y\/(R x a/\R b y)\/(R x b/\R a y)
theorem Jn.eqv{D:Int->Prop}{R:Int->Int->Prop}(h:rK D R){a b:Int}(ha:D a)(hb:D b):rK D (Jn R a b):=by
 refine⟨λx hx=>.inl (h.rfl x hx),λx y hx hy hxy=>?_,λx y z hx hy hz h1 h2=>?_⟩
 · rcases hxy with e|⟨e1,e2⟩|⟨e1,e2⟩
   · exact .inl (h.symm _ _ hx hy e)
   · exact .inr (.inr ⟨h.symm _ _ hb hy e2,h.symm _ _ hx ha e1⟩)
   · exact .inr (.inl ⟨h.symm _ _ ha hy e2,h.symm _ _ hx hb e1⟩)
 · rcases h1 with e|⟨e1,e2⟩|⟨e1,e2⟩
   · rcases h2 with f|⟨f1,f2⟩|⟨f1,f2⟩
     · exact .inl (h.trans _ _ _ hx hy hz e f)
     · exact .inr (.inl ⟨h.trans _ _ _ hx hy ha e f1,f2⟩)
     · exact .inr (.inr ⟨h.trans _ _ _ hx hy hb e f1,f2⟩)
   · rcases h2 with f|⟨f1,f2⟩|⟨f1,f2⟩
     · exact .inr (.inl ⟨e1,h.trans _ _ _ hb hy hz e2 f⟩)
     · exact .inr (.inl ⟨e1,f2⟩)
     · exact .inl (h.trans _ _ _ hx ha hz e1 f2)
   · rcases h2 with f|⟨f1,f2⟩|⟨f1,f2⟩
     · exact .inr (.inr ⟨e1,h.trans _ _ _ ha hy hz e2 f⟩)
     · exact .inl (h.trans _ _ _ hx hb hz e1 f2)
     · exact .inr (.inr ⟨e1,f2⟩)
theorem ln.join{D:Int->Prop}{R:Int->Int->Prop}(he:rK D R){a b:Int}(ha:D a)(hb:D b)(hab:¬R a b){k:Nat}(h:ln D R k):∃k',ln D (Jn R a b) k'/\k'+1=k:=by
 obtain⟨l,h,rfl⟩:=h
 obtain⟨z,hz,hbz⟩:=h.all b hb
 have hzd:=h.dom z hz
 refine⟨(l.erase z).length,⟨l.erase z,⟨h.nd.erase z,λx hx=>h.dom x (List.mem_of_mem_erase hx),λx hx=>?_,λx hx y hy hxy=>?_⟩,rfl⟩,?_⟩
 · obtain⟨y,hy,hxy⟩:=h.all x hx
   by_cases e:y=z
   · subst e
     obtain⟨w,hw,haw⟩:=h.all a ha
     refine⟨w,(List.mem_erase_of_ne λe=>hab ?_).2 hw,.inr (.inr ⟨he.trans _ _ _ hx hzd hb hxy (he.symm _ _ hb hzd hbz),haw⟩)⟩
     subst e
     exact he.trans _ _ _ ha hzd hb haw (he.symm _ _ hb hzd hbz)
   · exact⟨y,(List.mem_erase_of_ne e).2 hy,.inl hxy⟩
 · have hx':=h.nd.mem_erase_iff.1 hx
   have hy':=h.nd.mem_erase_iff.1 hy
   have hxd:=h.dom x hx'.2
   have hyd:=h.dom y hy'.2
   rcases hxy with e|⟨_,e⟩|⟨e,_⟩
   · exact h.one x hx'.2 y hy'.2 e
   · exact absurd (h.one y hy'.2 z hz (he.trans _ _ _ hyd hb hzd (he.symm _ _ hb hyd e) hbz)) hy'.1
   · exact absurd (h.one x hx'.2 z hz (he.trans _ _ _ hxd hb hzd e hbz)) hx'.1
 · have h1:=List.length_erase_of_mem hz
   have h2:=List.length_pos_of_mem hz
   omega
def In(n x:Int):Prop:=0<=x/\x<n
theorem ln.ex{n:Int}{R:Int->Int->Prop}(he:rK (In n) R):∃k,ln (In n) R k:=by
 have key:∀m:Nat,(m:Int)<=n->∃l:List Int,l.Nodup/\(∀x∈l,0<=x/\x<m)/\(∀x:Int,0<=x->x<m->∃y∈l,R x y)/\∀x∈l,∀y∈l,R x y->x=y:=by
   intro m
   induction m with
   |zero=>exact λ_=>⟨[],by simp,by simp,λx h0 h1=>by omega,by simp⟩
   |succ m ih=>
     intro hm
     obtain⟨l,h1,h2,h3,h4⟩:=ih (by omega)
     have hmd:In n (m:Int):=⟨by omega,by omega⟩
     by_cases c:∃y∈l,R (m:Int) y
     · refine⟨l,h1,λx hx=>by have:=h2 x hx;omega,λx h0 hx=>?_,h4⟩
       by_cases e:x=(m:Int)
       · subst e;exact c
       · exact h3 x h0 (by omega)
     · refine⟨(m:Int)::l,List.nodup_cons.2 ⟨λhm=>by have:=h2 _ hm;omega,h1⟩,λx hx=>?_,λx h0 hx=>?_,λx hx y hy hxy=>?_⟩
       · rcases List.mem_cons.1 hx with rfl|hx
         · omega
         · have:=h2 x hx;omega
       · by_cases e:x=(m:Int)
         · subst e;exact⟨(m:Int),by simp,he.rfl _ hmd⟩
         · obtain⟨y,hy,hxy⟩:=h3 x h0 (by omega)
           exact⟨y,by simp[hy],hxy⟩
       · have hlt:∀z∈l,In n z:=λz hz=>by have:=h2 z hz;exact⟨by omega,by omega⟩
         rcases List.mem_cons.1 hx with rfl|hx
         · rcases List.mem_cons.1 hy with rfl|hy
           · rfl
           · exact absurd ⟨y,hy,hxy⟩ c
         · rcases List.mem_cons.1 hy with rfl|hy
           · exact absurd ⟨x,hx,he.symm _ _ (hlt x hx) hmd hxy⟩ c
           · exact h4 x hx y hy hxy
 by_cases hn:0<=n
 · obtain⟨l,h1,h2,h3,h4⟩:=key n.toNat (by omega)
   exact⟨l.length,l,⟨h1,λx hx=>by have:=h2 x hx;exact⟨by omega,by omega⟩,λx hx=>h3 x hx.1 (by have:=hx.2;omega),h4⟩,rfl⟩
 · exact⟨0,[],⟨by simp,by simp,λx hx=>by have:=hx.1;have:=hx.2;omega,by simp⟩,rfl⟩
def tr(a b x:Int):Int:=if x=a then b else if x=b then a else x
end TL
/-
  TlDfs: components found by a stack: the document's way.
  By an AI agent.
-/
set_option linter.all false
namespace TL
def fP(c:List Int):Nat:=(c.filter λx=>decide (x<0)).length
theorem qS{c:List Int}{w n:Int}(h0:0<=w)(h1:w<c.length)(hc:gI c w<0)(hn:0<=n):fP (c.set w.toNat n)+1=fP c:=by
 have hlt:w.toNat<c.length:=by omega
 have e0:gI c w=c[w.toNat]:=by simp[gI,hlt]
 have e1:c=c.take w.toNat++c[w.toNat]::c.drop (w.toNat+1):=by
   rw[<-List.drop_eq_getElem_cons hlt,List.take_append_drop]
 have e2:c.set w.toNat n=c.take w.toNat++n::c.drop (w.toNat+1):=List.set_eq_take_append_cons_drop.trans (if_pos hlt)
 rw[e2]
 conv=>rhs;rw[e1]
 unfold fP
 rw[List.filter_append,List.filter_append,List.filter_cons,List.filter_cons,if_neg (by simp;omega),if_pos (by rw[<-e0];simpa using hc)]
 simp
 omega
theorem dL{g:bK}{v:Int}(h0:0<=v)(h1:v<g.1):gI (am g) v=bL g v:=by
 unfold am gI
 have:v.toNat<g.1.toNat:=by omega
 simp[List.getD_eq_getElem?_getD,this]
 congr 1
 omega
theorem lp(g:bK)(h:0<=g.1):((am g).length:Int)=g.1:=by simp[am];omega
section
variable{g:bK}{c0 c todo x:List Int}{n s:Int}
variable{v:Int}{k M:Nat}
end
end TL
/-
  TlNil: a list that is none, compared.
  By an AI agent.
-/
set_option linter.all false
namespace TL
open Go
section
variable{P:Program}{w:World}{t t':TypeId}{f:Fr}{x y:Operand}{dst:Option Tmp}{ty:TypeId}{pos:String}{after:Array Edge}{g:Option (Nat×Bool)}
end
theorem fp{α:Type}[Rp α]{γ:aJ}{J S:cI->Prop}{w:World}{v:Value}{xs:List α}{hi:Nat}(h:Ow γ J S w v xs)(h2:hi<=xs.length):Ow γ J S w (ci v (Rp.sz α) 0 hi) (xs.take hi):=by
  rcases h with⟨rfl,rfl⟩|⟨b,cap,c,e,rfl,hc,hm,hJ,hb,hcs,hx⟩
  · simp only[List.length_nil] at h2
    have:hi=0:=by omega
    subst this
    exact .inl ⟨rfl,rfl⟩
  · have hl:(xs.take hi).length=hi:=by simp;omega
    refine .inr ⟨b,cap,c,e,?_,⟨by omega,by omega⟩,hm,hJ,hb,hcs,λi x hi'=>hx i x ?_⟩
    · rw[lh]
      simp only[hl]
    · rw[List.getElem?_take] at hi'
      split at hi'
      · exact hi'
      · cases hi'
end TL
/-
  TlNilV: a list compared with none.
  By an AI agent.
-/
set_option linter.all false
namespace TL
open Go
def me:Value->Bool
  | .slice none _ _=>false
  |_=>true
section
variable{P:Program}{w w':World}{t t':TypeId}{f:Fr}{x y:Operand}{dst:Option Tmp}{ty:TypeId}{pos:String}{after:Array Edge}{g:Option (Nat×Bool)}{α:Type}[Rp α]{γ:aJ}{S:cI->Prop}{v:Value}{xs:List α}
theorem kT{e:TypeId}(ht:P.underlying t=some (.slice e))(hv:∃a l c,v= .slice a l c):(Op.equal t v (.slice none 0 0)).run P w= .ok (Bool.not (me v)) w:=by
 obtain⟨a,l,c,rfl⟩:=hv
 unfold Op.equal
 rw[show Op.maxDepth=9999+1 from rfl]
 unfold Op.equalIn
 cases a<;>simp[aW ht,me]
theorem Sl.shape(hs:Sl γ S w v xs):∃a l c,v= .slice a l c:=by
 rcases hs with⟨⟨a,rfl⟩,_⟩|⟨b,off,cap,rfl,_⟩
 · exact⟨_,_,_,rfl⟩
 · exact⟨_,_,_,rfl⟩
theorem fG{e:TypeId}(ht:P.underlying t=some (.slice e))(hs:Sl γ S w' v xs)(hx:ev f x=v)(hy:ev f y= .slice none 0 0):(execOp (ev f) ⟨dst,.binOp .neq t x y t',ty,pos,after,g⟩).run P w= .ok (.value (.bool (me v))) w:=
 mH .neq hx hy (by simp[eqGuard]) (by simp[binOp,kT ht hs.shape])
theorem qu(hs:Sl γ S w v xs)(h:¬me v=true):xs=[]:=by
 rcases hs with⟨_,h2⟩|⟨b,off,cap,rfl,_⟩
 · exact h2
 · exact absurd rfl h
end
end TL
/-
  TlFloat: floating numbers that are no NaN and have no sign: their bits, as a natural number, stand as they do; sums, roots and quotients of such.
  By an AI agent.
-/
set_option linter.all false
namespace TL
open Ieee
def pl(x:Nat):Nat:=x/4503599627370496-1
end TL
/-
  TlFl: floating numbers in a walk: what each operation comes to.
  By an AI agent.
-/
set_option linter.all false
namespace TL
open Go
instance:Rp Nat where
 sz:=1
 rep _ _ _ cs x:=cs=[.float .f64 x]
 len h:=by subst h;rfl
 one h:=by subst h;simp[Value.oneCell']
 tr _ _ h:=h
instance:Fl Nat where
 cells x:=[.float .f64 x]
 rep_iff:=Iff.rfl
section
variable{P:Program}{f:Fr}{w:World}{dst:Option Tmp}{ty:TypeId}{pos:String}{after:Array Edge}{g:Option (Nat×Bool)}{t t' s d:TypeId}{x y:Operand}{a b r:Nat}
variable{N:Value->World->Prop}
end
end TL
/-
  TlJudge2: what is told of a plot; its rotation.
  By an AI agent.
-/
set_option linter.all false
namespace TL
section
variable{p:l8}{l:List Pt}{a b:Bool}{i k:Nat}
end
section
variable{g:bK}{p:l8}
end
def uZ(p:l8)(l:List Int):List Pt:=l.map (vx p)
def tR(p:l8)(o:Pt)(l:List Int):Prop:=∃j:Nat,j<l.length/\0<j/\rM (uS (gI (uZ p l) (gI (arL o (uZ p l)) ((j:Int)-1))) o) (uS (gI (uZ p l) (gI (arL o (uZ p l)) (j:Int))) o)
noncomputable instance (p:l8) (o:Pt) (l:List Int):Decidable (tR p o l):=by unfold tR;infer_instance
def uy(g:bK)(p:l8):Prop:=∃v:Nat,v<g.1.toNat/\tR p (gI p.1 (v:Int)) (bL g (v:Int))
noncomputable instance (g:bK) (p:l8):Decidable (uy g p):=by unfold uy;infer_instance
end TL
/-
  TlZf: weights: floating numbers that are at least 0, of either sign of 0: in sums and comparisons such a one stands for its magnitude (zf).
  By an AI agent.
-/
set_option linter.all false
namespace TL
open Ieee
def zf(x:Nat):Nat:=x%9223372036854775808
open Go
end TL
/-
  TlPq: a heap of places (how far, which node), as container/heap keeps it: what is taken is the least, and nothing else is lost.
  By an AI agent.
-/
set_option linter.all false
namespace TL
abbrev Pl:=Nat×Int
def uw(a b:Pl):Prop:=a.1<b.1\/a.1=b.1/\a.2<b.2
instance (a b:Pl):Decidable (uw a b):=by unfold uw;infer_instance
def tE(xs:List Pl)(i:Nat):Pl:=gI xs (i:Int)
def vF(xs:List Pl)(i j:Nat):List Pl:=(xs.set i (tE xs j)).set j (tE xs i)
def ve(xs:List Pl)(i n:Nat):Nat:=if 2*i+1+1<n/\uw (tE xs (2*i+1+1)) (tE xs (2*i+1)) then 2*i+1+1 else 2*i+1
def dn:Nat->List Pl->Nat->Nat->List Pl
 |0,xs,_,_=>xs
 |k+1,xs,i,n=>if n<=2*i+1 then xs else if uw (tE xs (ve xs i n)) (tE xs i) then dn k (vF xs i (ve xs i n)) (ve xs i n) n else xs
def up:Nat->List Pl->Nat->List Pl
 |0,xs,_=>xs
 |k+1,xs,j=>if(j-1)/2=j\/¬uw (tE xs j) (tE xs ((j-1)/2)) then xs else up k (vF xs ((j-1)/2) j) ((j-1)/2)
end TL
namespace TL
end TL
/-
  TlWay: ways of the least weight (package path): what From tells, as the document does it (the nearest node that is not settled, again and again), and that a heap of waiting nodes finds the same.
  By an AI agent.
-/
set_option linter.all false
namespace TL
abbrev FS:=List Nat×List Int
-- what is picked
-- once all are settled no more rounds matter
end TL
namespace TL
end TL
/-
  TlBlk: blocks by a walk depth first with a stack of edges, as the program does it, and what its walk may rely on.
  By an AI agent.
-/
set_option linter.all false
namespace TL
structure Bs where
 place:List Int
 low:List Int
 by_:List Int
 next:List Int
 found:Int
 edges:List Int
 laid:List Bool
 block:List Int
 count:Int
def mw(l:List Int)(x:Int):Nat:=l.length-1-l.reverse.idxOf x
def dE(s:Bs)(first:Int):Bs:=
 {s with block:=(s.edges.drop (mw s.edges first)).foldl (λb e=>b.set e.toNat s.count) s.block,edges:=s.edges.take (mw s.edges first),count:=s.count+1}
def f4(s:Bs)(v:Int):Bs:={s with found:=s.found+1,place:=s.place.set v.toNat (s.found+1),low:=s.low.set v.toNat (s.found+1)}
def gx(s:Bs)(e:Int):Bs:={s with laid:=s.laid.set e.toNat true,edges:=s.edges++[e]}
def dI(g:bK)(s:Bs)(v h:Int):Bs×Int×Bool:=
 if gI s.laid (h/2)=true then(s,0,false)
 else if b6 g h=v then(dE (gx s (h/2)) (h/2),0,false)
 else if gI s.place (b6 g h)=0 then(f4 {gx s (h/2) with by_:=s.by_.set (b6 g h).toNat h} (b6 g h),b6 g h,true)
 else({gx s (h/2) with low:=s.low.set v.toNat (min (gI s.low v) (gI s.place (b6 g h)))},0,false)
def dj(g:bK)(s:Bs)(v:Int):Bs:=
 if gI s.by_ v<0 then s
 else
   let u:=aw g (gI s.by_ v)
   let s1:Bs:={s with low:=s.low.set u.toNat (min (gI s.low u) (gI s.low v))}
   if gI s1.place u<=gI s1.low v then dE s1 (gI s.by_ v/2) else s1
def dc(g:bK)(s:Bs)(path:List Int)(u:Int):Bs×List Int:=
 if gI s.next u=((gI (am g) u).length:Int) then(dj g s u,path.dropLast)
 else
   let h:=gI (gI (am g) u) (gI s.next u)
   let t:=dI g {s with next:=s.next.set u.toNat (gI s.next u+1)} u h
   (t.1,if t.2.2=true then path++[t.2.1] else path)
def o1(g:bK):Nat->Bs->List Int->Bs
 |0,s,_=>s
 |n+1,s,path=>if path=[] then s else o1 g n (dc g s path (gI path ((path.length:Int)-1))).1 (dc g s path (gI path ((path.length:Int)-1))).2
def bO(g:bK)(s:Bs)(path:List Int):Nat:=2*(((bJ g.1.toNat).map λv=>((gI (am g) v).length-(gI s.next v).toNat)).sum)+path.length
def dH(g:bK)(s:Bs)(v:Int):Bs:=o1 g (bO g (f4 s v) [v]) (f4 s v) [v]
def gc(g:bK):Bs:=⟨List.replicate g.1.toNat 0,List.replicate g.1.toNat 0,List.replicate g.1.toNat (-1),List.replicate g.1.toNat 0,0,[],List.replicate g.2.length false,List.replicate g.2.length 0,0⟩
def cM(g:bK)(k:Nat):Bs:=(bJ k).foldl (λs v=>if gI s.place v=0 then dH g s v else s) (gc g)
def eS(by_:List Int)(path:List Int):List Int:=path.tail.map λv=>gI by_ v/2
structure dS(g:bK)(s:Bs)(path:List Int):Prop where
  l1:(s.place.length:Int)=g.1
  l2:(s.low.length:Int)=g.1
  l3:(s.by_.length:Int)=g.1
  l4:(s.next.length:Int)=g.1
  l5:(s.laid.length:Int)=g.2.length
  l6:(s.block.length:Int)=g.2.length
  nx:∀v,0<=v->v<g.1->0<=gI s.next v/\gI s.next v<=((gI (am g) v).length:Int)
  pl:∀v,0<=v->v<g.1->0<=gI s.place v/\gI s.place v<=s.found
  f0:0<=s.found
  fn:s.found+(s.place.count 0:Int)=g.1
  by_:∀v,0<=v->v<g.1->gI s.by_ v= -1\/((0<=gI s.by_ v/\gI s.by_ v<2*(g.2.length:Int))/\b6 g (gI s.by_ v)=v/\gI s.place v≠0)
  en:s.edges.Nodup
  el:∀e∈s.edges,(0<=e/\e<(g.2.length:Int))/\gI s.laid e=true
  ct:0<=s.count
  cl:s.count+(s.edges.length:Int)<=(s.laid.count true:Int)
  pn:path.Nodup
  pr:∀v∈path,(0<=v/\v<g.1)/\gI s.place v≠0
  p0:∀v,path.head? =some v->gI s.by_ v= -1
  pt:∀v∈path.tail,0<=gI s.by_ v
  pe:(eS s.by_ path).Sublist s.edges
variable{g:bK}{s:Bs}{path:List Int}{e v w u hh:Int}
theorem kr{x:Int}{n:Nat}{v:Int}(h0:0<=v)(h1:v<n):gI (List.replicate n x) v=x:=by
 obtain⟨k,rfl⟩:∃k:Nat,v=(k:Int):=⟨v.toNat,by omega⟩
 have:k<n:=by omega
 simp[gI,this]
theorem il{l:List Int}{i:Nat}(hi:i<l.length){x:Int}(h0:l[i]=0)(hx:x≠0):(l.set i x).count 0+1=l.count 0:=by
 have hp:0<l.count 0:=List.count_pos_iff.2 (h0▸List.getElem_mem hi)
 rw[List.count_set hi,h0]
 simp[hx]
 omega
theorem kQ{l:List Bool}{i:Nat}(hi:i<l.length)(h0:l[i]=false):(l.set i true).count true=l.count true+1:=by
 rw[List.count_set hi,h0]
 simp
theorem tw{l:List Bool}{i:Int}(h0:0<=i)(h1:i<l.length):∃h:i.toNat<l.length,gI l i=l[i.toNat]:=⟨by omega,by
 have:i.toNat<l.length:=by omega
 simp[gI,this]⟩
theorem oQ{l:List Int}{i:Int}(h0:0<=i)(h1:i<l.length):∃h:i.toNat<l.length,gI l i=l[i.toNat]:=⟨by omega,by
 have:i.toNat<l.length:=by omega
 simp[gI,this]⟩
theorem dS.start(hm:bg g):dS g (gc g) []:=by
 have h0:=hm.1
 have r0:∀{x:Int} {v:Int},0<=v->v<g.1->gI (List.replicate g.1.toNat x) v=x:=λa b=>kr a (by omega)
 refine⟨by simp[gc];omega,by simp[gc];omega,by simp[gc];omega,by simp[gc];omega,by simp[gc],by simp[gc],λv a b=>?_,λv a b=>?_,Int.le_refl _,?_,λv a b=>.inl (r0 a b),List.nodup_nil,λe he=>absurd he List.not_mem_nil,Int.le_refl _,?_,List.nodup_nil,λv hv=>absurd hv List.not_mem_nil,λv hv=>by simp at hv,λv hv=>absurd hv List.not_mem_nil,List.Sublist.refl _⟩
 · show 0<=gI (List.replicate g.1.toNat (0:Int)) v/\_<=_
   rw[show gI (gc g).next v=gI (List.replicate g.1.toNat (0:Int)) v from rfl,r0 a b];omega
 · show 0<=gI (List.replicate g.1.toNat (0:Int)) v/\gI (List.replicate g.1.toNat (0:Int)) v<=0
   rw[r0 a b];omega
 · show(0:Int)+((List.replicate g.1.toNat (0:Int)).count 0:Int)=g.1
   rw[List.count_replicate];simp;omega
 · show(0:Int)+((([]:List Int)).length:Int)<=((List.replicate g.2.length false).count true:Int)
   simp
theorem dS.lay(h:dS g s path)(e0:0<=e)(e1:e<(g.2.length:Int))(hl:¬gI s.laid e=true):dS g (gx s e) path/\e∉s.edges:=by
  have hl5:=h.l5
  obtain⟨hi,hg⟩:=tw (l:=s.laid) e0 (by omega)
  have hne:e∉s.edges:=λk=>hl (h.el e k).2
  have hf:s.laid[e.toNat]=false:=by rw[<-hg];simpa using hl
  have hc:=kQ hi hf
  refine⟨⟨h.l1,h.l2,h.l3,h.l4,by show((s.laid.set e.toNat true).length:Int)=_;rw[List.length_set];exact hl5,h.l6,h.nx,h.pl,h.f0,h.fn,h.by_,?_,λx hx=>?_,h.ct,?_,h.pn,h.pr,h.p0,h.pt,h.pe.trans (List.sublist_append_left ..)⟩,hne⟩
  · show(s.edges++[e]).Nodup
    rw[List.nodup_append]
    exact⟨h.en,by simp,λa ha b hb=>by rw[List.mem_singleton.1 hb];exact λk=>hne (by rw[<-k];exact ha)⟩
  · show(0<=x/\x<_)/\gI (s.laid.set e.toNat true) x=true
    rcases List.mem_append.1 hx with k|k
    · obtain⟨a,b⟩:=h.el x k
      refine⟨a,?_⟩
      rw[bY e0 (by omega) a.1]
      split
      · rfl
      · exact b
    · rw[List.mem_singleton.1 k]
      exact⟨⟨e0,e1⟩,by rw[bY e0 (by omega) e0,if_pos rfl]⟩
  · show s.count+((s.edges++[e]).length:Int)<=((s.laid.set e.toNat true).count true:Int)
    rw[hc,List.length_append,List.length_singleton]
    have:=h.cl;omega
theorem o6{A B:List Int}{x:Int}(hB:x∉B):mw (A++x::B) x=A.length:=by
 unfold mw
 rw[List.reverse_append,List.reverse_cons,List.append_assoc,List.idxOf_append]
 rw[if_neg (by simpa using hB)]
 simp
theorem nM{l:List Int}{x:Int}(hn:l.Nodup)(hx:x∈l):∃A B,l=A++x::B/\x∉A/\x∉B/\mw l x=A.length:=by
 obtain⟨A,B,e⟩:=List.append_of_mem hx
 have hn':=hn
 rw[e,List.nodup_append] at hn'
 have h1:x∉B:=(List.nodup_cons.1 hn'.2.1).1
 have h2:x∉A:=λk=>hn'.2.2 x k x (List.mem_cons_self ..) rfl
 exact⟨A,B,e,h2,h1,by rw[e];exact o6 h1⟩
theorem kG(c:Int):∀(l b:List Int),(l.foldl (λb e=>b.set e.toNat c) b).length=b.length
 |[],b=>rfl
 |x::l,b=>by rw[List.foldl_cons,kG c l,List.length_set]
theorem dS.close(h:dS g s path)(he:e∈s.edges)(hp:(eS s.by_ path).Sublist (s.edges.take (mw s.edges e))):dS g (dE s e) path:=by
  obtain⟨A,B,e1,_,_,e2⟩:=nM h.en he
  have hlt:mw s.edges e<s.edges.length:=by rw[e2,e1];simp
  have hs:(s.edges.take (mw s.edges e)).Sublist s.edges:=List.take_sublist _ _
  refine⟨h.l1,h.l2,h.l3,h.l4,h.l5,?_,h.nx,h.pl,h.f0,h.fn,h.by_,hs.nodup h.en,λx hx=>h.el x (hs.subset hx),by show 0<=s.count+1;have:=h.ct;omega,?_,h.pn,h.pr,h.p0,h.pt,hp⟩
  · show(((s.edges.drop (mw s.edges e)).foldl (λb x=>b.set x.toNat s.count) s.block).length:Int)=_
    rw[kG];exact h.l6
  · show s.count+1+((s.edges.take (mw s.edges e)).length:Int)<=(s.laid.count true:Int)
    rw[List.length_take]
    have:=h.cl;omega
theorem dS.lows(h:dS g s path)(x:Int)(k:Nat):dS g {s with low:=s.low.set k x} path:=
  {h with l2:=by show((s.low.set k x).length:Int)=_;rw[List.length_set];exact h.l2}
theorem dS.nexts(h:dS g s path)(u0:0<=u)(u1:u<g.1)(hn:¬gI s.next u=((gI (am g) u).length:Int)):dS g {s with next:=s.next.set u.toNat (gI s.next u+1)} path:=
  {h with
    l4:=by show((s.next.set u.toNat _).length:Int)=_;rw[List.length_set];exact h.l4
    nx:=λx a b=>by
      show 0<=gI (s.next.set u.toNat (gI s.next u+1)) x/\gI (s.next.set u.toNat (gI s.next u+1)) x<=_
      rw[bY u0 (by have:=h.l4;omega) a]
      obtain⟨c,d⟩:=h.nx x a b
      split
      · rename_i k
        subst k
        obtain⟨c,d⟩:=h.nx x u0 u1
        omega
      · exact⟨c,d⟩}
theorem lP{b b':List Int}{p:List Int}(h:∀x∈p.tail,gI b x=gI b' x):eS b p=eS b' p:=by
 unfold eS
 exact List.map_congr_left λx hx=>by rw[h x hx]
theorem jL{b:List Int}{p:List Int}(hp:p≠[])(x:Int):eS b (p++[x])=eS b p++[gI b x/2]:=by
 unfold eS
 cases p with
 |nil=>exact absurd rfl hp
 |cons a l=>simp
theorem dS.grow(h:dS g s path)(hp:path≠[])(w0:0<=w)(w1:w<g.1)(hw:gI s.place w=0)(h0:0<=hh)(h1:hh<2*(g.2.length:Int))(ht:b6 g hh=w)(he:(eS s.by_ path++[hh/2]).Sublist s.edges):
    dS g (f4 {s with by_:=s.by_.set w.toNat hh} w) (path++[w]):=by
  have l1:=h.l1
  have l2:=h.l2
  have l3:=h.l3
  have f0:=h.f0
  have hwp:w∉path:=λk=>(h.pr w k).2 hw
  have gp:∀x,0<=x->gI (s.place.set w.toNat (s.found+1)) x=if x=w then s.found+1 else gI s.place x:=λx a=>bY w0 (by omega) a
  have gb:∀x,0<=x->gI (s.by_.set w.toNat hh) x=if x=w then hh else gI s.by_ x:=λx a=>bY w0 (by omega) a
  obtain⟨hi,hg⟩:=oQ (l:=s.place) w0 (by omega)
  have hc:=il hi (x:=s.found+1) (by rw[<-hg];exact hw) (by omega)
  refine⟨by show((s.place.set _ _).length:Int)=_;rw[List.length_set];exact l1,by show((s.low.set _ _).length:Int)=_;rw[List.length_set];exact l2,by show((s.by_.set _ _).length:Int)=_;rw[List.length_set];exact l3,h.l4,h.l5,h.l6,h.nx,λx a b=>?_,by show 0<=s.found+1;omega,?_,λx a b=>?_,h.en,h.el,h.ct,h.cl,?_,λx hx=>?_,λx hx=>?_,λx hx=>?_,?_⟩
  · show 0<=gI (s.place.set w.toNat (s.found+1)) x/\gI (s.place.set w.toNat (s.found+1)) x<=s.found+1
    rw[gp x a]
    have:=h.pl x a b
    split<;>omega
  · show s.found+1+((s.place.set w.toNat (s.found+1)).count 0:Int)=g.1
    have:=h.fn;omega
  · show gI (s.by_.set w.toNat hh) x= -1\/(0<=gI (s.by_.set w.toNat hh) x/\gI (s.by_.set w.toNat hh) x<_)/\b6 g (gI (s.by_.set w.toNat hh) x)=x/\gI (s.place.set w.toNat (s.found+1)) x≠0
    rw[gb x a,gp x a]
    by_cases k:x=w
    · rw[if_pos k,if_pos k]
      exact .inr ⟨⟨h0,h1⟩,by rw[ht,k],by omega⟩
    · rw[if_neg k,if_neg k];exact h.by_ x a b
  · rw[List.nodup_append]
    exact⟨h.pn,by simp,λa ha b hb=>by rw[List.mem_singleton.1 hb];exact λk=>hwp (by rw[<-k];exact ha)⟩
  · show(0<=x/\x<g.1)/\gI (s.place.set w.toNat (s.found+1)) x≠0
    rcases List.mem_append.1 hx with k|k
    · obtain⟨a,b⟩:=h.pr x k
      refine⟨a,?_⟩
      rw[gp x a.1];split
      · omega
      · exact b
    · rw[List.mem_singleton.1 k]
      exact⟨⟨w0,w1⟩,by rw[gp w w0,if_pos rfl];omega⟩
  · show gI (s.by_.set w.toNat hh) x= -1
    cases hpe:path with
    |nil=>exact absurd hpe hp
    |cons a l=>
      rw[hpe] at hx
      have hxa:a=x:=by simpa using hx
      have hxp:x∈path:=by rw[hpe,<-hxa];exact List.mem_cons_self ..
      rw[gb x (h.pr x hxp).1.1,if_neg (λk=>hwp (by rw[<-k];exact hxp))]
      exact h.p0 x (by rw[hpe,hxa];rfl)
  · show 0<=gI (s.by_.set w.toNat hh) x
    have hx2:x∈path.tail\/x=w:=by
      cases hpe:path with
      |nil=>exact absurd hpe hp
      |cons a l=>
        rw[hpe] at hx
        simpa using hx
    rcases hx2 with k|k
    · have hxp:x∈path:=List.mem_of_mem_tail k
      rw[gb x (h.pr x hxp).1.1,if_neg (λj=>hwp (by rw[<-j];exact hxp))]
      exact h.pt x k
    · rw[k,gb w w0,if_pos rfl];exact h0
  · show(eS (s.by_.set w.toNat hh) (path++[w])).Sublist s.edges
    rw[jL hp,gb w w0,if_pos rfl,lP (b':=s.by_) (λx hx=>?_)]
    · exact he
    · have hxp:x∈path:=List.mem_of_mem_tail hx
      rw[gb x (h.pr x hxp).1.1,if_neg (λj=>hwp (by rw[<-j];exact hxp))]
theorem dS.first(h:dS g s [])(v0:0<=v)(v1:v<g.1)(hv:gI s.place v=0):dS g (f4 s v) [v]:=by
  have l1:=h.l1
  have l2:=h.l2
  have f0:=h.f0
  have gp:∀x,0<=x->gI (s.place.set v.toNat (s.found+1)) x=if x=v then s.found+1 else gI s.place x:=λx a=>bY v0 (by omega) a
  obtain⟨hi,hg⟩:=oQ (l:=s.place) v0 (by omega)
  have hc:=il hi (x:=s.found+1) (by rw[<-hg];exact hv) (by omega)
  refine⟨by show((s.place.set _ _).length:Int)=_;rw[List.length_set];exact l1,by show((s.low.set _ _).length:Int)=_;rw[List.length_set];exact l2,h.l3,h.l4,h.l5,h.l6,h.nx,λx a b=>?_,by show 0<=s.found+1;omega,?_,λx a b=>?_,h.en,h.el,h.ct,h.cl,by simp,λx hx=>?_,λx hx=>?_,λx hx=>absurd hx List.not_mem_nil,List.nil_sublist _⟩
  · show 0<=gI (s.place.set v.toNat (s.found+1)) x/\gI (s.place.set v.toNat (s.found+1)) x<=s.found+1
    rw[gp x a]
    have:=h.pl x a b
    split<;>omega
  · show s.found+1+((s.place.set v.toNat (s.found+1)).count 0:Int)=g.1
    have:=h.fn;omega
  · show gI s.by_ x= -1\/(0<=gI s.by_ x/\gI s.by_ x<_)/\b6 g (gI s.by_ x)=x/\gI (s.place.set v.toNat (s.found+1)) x≠0
    rcases h.by_ x a b with k|⟨k1,k2,k3⟩
    · exact .inl k
    · refine .inr ⟨k1,k2,?_⟩
      rw[gp x a];split
      · omega
      · exact k3
  · rw[List.mem_singleton.1 hx]
    exact⟨⟨v0,v1⟩,by show gI (s.place.set v.toNat (s.found+1)) v≠0;rw[gp v v0,if_pos rfl];omega⟩
  · have:v=x:=by simpa using hx
    rw[<-this]
    rcases h.by_ v v0 v1 with k|⟨_,_,k⟩
    · exact k
    · exact absurd hv k
theorem ic(hp:path≠[]):path=path.dropLast++[gI path ((path.length:Int)-1)]:=by
 have e:gI path ((path.length:Int)-1)=path.getLast hp:=by
   have h:0<path.length:=List.length_pos_iff.2 hp
   have e1:((path.length:Int)-1).toNat=path.length-1:=by omega
   have h2:path.length-1<path.length:=by omega
   unfold gI
   rw[e1,List.getLast_eq_getElem,List.getD_eq_getElem?_getD,List.getElem?_eq_getElem h2]
   rfl
 rw[e];exact(List.dropLast_concat_getLast hp).symm
theorem dS.drop(h:dS g s path):dS g s path.dropLast:=by
  have hs:(path.dropLast).Sublist path:=List.dropLast_sublist _
  have ht:(path.dropLast.tail).Sublist path.tail:=hs.tail
  refine {h with pn:=hs.nodup h.pn,pr:=λv hv=>h.pr v (hs.subset hv),p0:=λv hv=>h.p0 v ?_,pt:=λv hv=>h.pt v (ht.subset hv),pe:=?_}
  · cases hp:path with
    |nil=>rw[hp] at hv;simp at hv
    |cons a l=>
      rw[hp] at hv
      cases l with
      |nil=>simp at hv
      |cons b l=>simpa using hv
  · unfold eS
    exact(ht.map _).trans h.pe
theorem qZ{X A B:List Int}{x:Int}(h:(X++[x]).Sublist (A++x::B))(hA:x∉A)(hB:x∉B):X.Sublist A:=by
 obtain⟨l1,l2,e,h1,h2⟩:=List.sublist_append_iff.1 h
 by_cases hl2:l2=[]
 · subst hl2
   rw[List.append_nil] at e
   exact absurd (h1.subset (by rw[<-e];simp)) hA
 · obtain⟨l,y,rfl⟩:∃l y,l2=l++[y]:=⟨l2.dropLast,l2.getLast hl2,(List.dropLast_concat_getLast hl2).symm⟩
   have e2:X++[x]=(l1++l)++[y]:=by rw[e,List.append_assoc]
   obtain⟨e3,e4⟩:=List.append_inj' e2 rfl
   have ey:y=x:=by simpa using e4.symm
   subst ey
   cases l with
   |nil=>rw[e3,List.append_nil];exact h1
   |cons z l=>
     exfalso
     rw[List.cons_append] at h2
     rcases List.sublist_cons_iff.1 h2 with k|⟨r,k1,k2⟩
     · exact hB (k.subset (by simp))
     · have:r=l++[y]:=by
         injection k1 with _ q
         exact q.symm
       rw[this] at k2
       exact hB (k2.subset (by simp))
theorem dS.top(h:dS g s path)(hp:path≠[])(hv:v=gI path ((path.length:Int)-1))(hb:¬gI s.by_ v<0):gI s.by_ v/2∈s.edges/\(eS s.by_ path.dropLast).Sublist (s.edges.take (mw s.edges (gI s.by_ v/2))):=by
  have e0:=ic hp
  rw[<-hv] at e0
  have hd:path.dropLast≠[]:=by
    intro k
    rw[k] at e0
    have:=h.p0 v (by rw[e0];rfl)
    omega
  have pe:=h.pe
  rw[e0,jL hd] at pe
  have hm:gI s.by_ v/2∈s.edges:=pe.subset (by simp)
  obtain⟨A,B,e1,hA,hB,e2⟩:=nM h.en hm
  refine⟨hm,?_⟩
  have:s.edges.take (mw s.edges (gI s.by_ v/2))=A:=by
    rw[e2]
    conv=>lhs;rw[e1]
    simp
  rw[this]
  rw[e1] at pe
  exact qZ pe hA hB
theorem dS.leave(hm:bg g)(h:dS g s path)(hp:path≠[])(hv:v=gI path ((path.length:Int)-1)):dS g (dj g s v) path.dropLast:=by
 unfold dj
 by_cases c:gI s.by_ v<0
 · rw[if_pos c];exact h.drop
 · rw[if_neg c]
   obtain⟨h1,h2⟩:=h.top hp hv c
   simp only
   have hl:=h.lows (min (gI s.low (aw g (gI s.by_ v))) (gI s.low v)) (aw g (gI s.by_ v)).toNat
   split
   · exact hl.drop.close (s:={s with low:=s.low.set (aw g (gI s.by_ v)).toNat (min (gI s.low (aw g (gI s.by_ v))) (gI s.low v))}) h1 h2
   · exact hl.drop
theorem dS.take(hm:bg g)(h:dS g s path)(hp:path≠[])(h0:0<=hh)(h1:hh<2*(g.2.length:Int)):dS g (dI g s v hh).1 (if(dI g s v hh).2.2=true then path++[(dI g s v hh).2.1] else path):=by
 have ht:=dM hm h0 h1
 unfold dI
 by_cases c:gI s.laid (hh/2)=true
 · rw[if_pos c];exact h
 · rw[if_neg c]
   obtain⟨hl,hn⟩:=h.lay (e:=hh/2) (by omega) (by omega) c
   by_cases c2:b6 g hh=v
   · rw[if_pos c2]
     show dS g (dE (gx s (hh/2)) (hh/2)) path
     refine hl.close (by show hh/2∈s.edges++[hh/2];simp) ?_
     have e:mw (s.edges++[hh/2]) (hh/2)=s.edges.length:=o6 (A:=s.edges) (B:=[]) List.not_mem_nil
     show(eS s.by_ path).Sublist ((s.edges++[hh/2]).take (mw (s.edges++[hh/2]) (hh/2)))
     rw[e,List.take_left']
     · exact h.pe
     · rfl
   · rw[if_neg c2]
     by_cases c3:gI s.place (b6 g hh)=0
     · rw[if_pos c3]
       show dS g (f4 {gx s (hh/2) with by_:=s.by_.set (b6 g hh).toNat hh} (b6 g hh)) (path++[b6 g hh])
       exact hl.grow hp ht.1 ht.2 c3 h0 h1 rfl (h.pe.append (List.Sublist.refl _))
     · rw[if_neg c3]
       show dS g {gx s (hh/2) with low:=s.low.set v.toNat (min (gI s.low v) (gI s.place (b6 g hh)))} path
       exact hl.lows _ _
theorem dS.step(hm:bg g)(h:dS g s path)(hp:path≠[])(hu:u=gI path ((path.length:Int)-1)):dS g (dc g s path u).1 (dc g s path u).2:=by
 have hup:u∈path:=by
   have:=ic hp
   rw[<-hu] at this
   rw[this];simp
 obtain⟨⟨u0,u1⟩,_⟩:=h.pr u hup
 unfold dc
 by_cases c:gI s.next u=((gI (am g) u).length:Int)
 · rw[if_pos c];exact h.leave hm hp hu
 · rw[if_neg c]
   obtain⟨n0,n1⟩:=h.nx u u0 u1
   have hin:gI (gI (am g) u) (gI s.next u)∈gI (am g) u:=bP n0 (by omega)
   rw[dL u0 u1] at hin
   have ho:=(cJ hin).1
   rw[<-dL u0 u1] at ho
   exact(h.nexts u0 u1 c).take hm hp ho.1 ho.2
end TL
/-
  TlBlk2: the walk that finds blocks: it ends; all of it.
  By an AI agent.
-/
set_option linter.all false
namespace TL
variable{g:bK}{s:Bs}{path:List Int}{e v w u hh:Int}
theorem na{f f':Int->Nat}{u:Int}:∀{l:List Int},l.Nodup->u∈l->(∀x∈l,x≠u->f x=f' x)->f u=f' u+1->(l.map f).sum=(l.map f').sum+1
 |[],_,hu,_,_=>absurd hu List.not_mem_nil
 |a::l,hn,hu,hx,he=>by
   have hn':=List.nodup_cons.1 hn
   simp only[List.map_cons,List.sum_cons]
   by_cases c:a=u
   · subst c
     have:l.map f=l.map f':=List.map_congr_left λx hxl=>hx x (List.mem_cons_of_mem _ hxl) (λk=>hn'.1 (by rw[<-k];exact hxl))
     rw[this,he];omega
   · have h2:=na hn'.2 ((List.mem_cons.1 hu).resolve_left (λk=>c k.symm)) (λx hxl=>hx x (List.mem_cons_of_mem _ hxl)) he
     rw[h2,hx a (List.mem_cons_self ..) c];omega
theorem pN(h:dS g s path)(u0:0<=u)(u1:u<g.1)(hn:¬gI s.next u=((gI (am g) u).length:Int))(p:List Int):bO g s p=bO g {s with next:=s.next.set u.toNat (gI s.next u+1)} p+2:=by
 have e1:bO g {s with next:=s.next.set u.toNat (gI s.next u+1)} p=2*(((bJ g.1.toNat).map λv=>((gI (am g) v).length-(gI (s.next.set u.toNat (gI s.next u+1)) v).toNat)).sum)+p.length:=rfl
 rw[e1]
 unfold bO
 have hl:=h.l4
 obtain⟨n0,n1⟩:=h.nx u u0 u1
 have:=na (f:=λv=>(gI (am g) v).length-(gI s.next v).toNat) (f':=λv=>(gI (am g) v).length-(gI (s.next.set u.toNat (gI s.next u+1)) v).toNat) (u:=u) (iz g.1.toNat) (fa.2 ⟨u0,by omega⟩) (λx hx hxu=>by
   show _=(gI (am g) x).length-(gI (s.next.set u.toNat (gI s.next u+1)) x).toNat
   rw[bY u0 (by omega) (fa.1 hx).1,if_neg hxu]) (by
   show(gI (am g) u).length-(gI s.next u).toNat=(gI (am g) u).length-(gI (s.next.set u.toNat (gI s.next u+1)) u).toNat+1
   rw[bY u0 (by omega) u0,if_pos rfl]
   omega)
 rw[this];omega
theorem im:(dj g s v).next=s.next:=by
 unfold dj
 split
 · rfl
 · simp only;split<;>rfl
theorem pR:(dI g s v hh).1.next=s.next:=by
 unfold dI
 split
 · rfl
 · split
   · rfl
   · split<;>rfl
theorem kp{s':Bs}(h:s'.next=s.next)(p:List Int):bO g s' p=bO g s p:=by unfold bO;rw[h]
theorem hZ(h:dS g s path)(hp:path≠[])(hu:u=gI path ((path.length:Int)-1)):bO g (dc g s path u).1 (dc g s path u).2<bO g s path:=by
 have hup:u∈path:=by
   have:=ic hp
   rw[<-hu] at this
   rw[this];simp
 obtain⟨⟨u0,u1⟩,_⟩:=h.pr u hup
 have hl:0<path.length:=List.length_pos_iff.2 hp
 unfold dc
 by_cases c:gI s.next u=((gI (am g) u).length:Int)
 · rw[if_pos c]
   show bO g (dj g s u) path.dropLast<_
   rw[kp im]
   unfold bO
   rw[List.length_dropLast];omega
 · rw[if_neg c]
   simp only
   rw[kp pR]
   have h2:=pN h u0 u1 c path
   have h3:∀p:List Int,p.length<=path.length+1->bO g {s with next:=s.next.set u.toNat (gI s.next u+1)} p<=bO g {s with next:=s.next.set u.toNat (gI s.next u+1)} path+1:=λp hp=>by unfold bO;omega
   have h4:=h3 (if(dI g {s with next:=s.next.set u.toNat (gI s.next u+1)} u (gI (gI (am g) u) (gI s.next u))).2.2=true then path++[(dI g {s with next:=s.next.set u.toNat (gI s.next u+1)} u (gI (gI (am g) u) (gI s.next u))).2.1] else path) (by split<;>simp)
   omega
structure eO(g:bK)(R s:Bs)(path:List Int):Prop where
  i:dS g s path
  res:∃f,bO g s path<=f/\o1 g f s path=R
theorem eO.start(h:dS g s [])(v0:0<=v)(v1:v<g.1)(hv:gI s.place v=0):eO g (dH g s v) (f4 s v) [v]:=⟨h.first v0 v1 hv,_,Nat.le_refl _,rfl⟩
theorem eO.step(hm:bg g){R:Bs}(h:eO g R s path)(hp:path≠[])(hu:u=gI path ((path.length:Int)-1)):eO g R (dc g s path u).1 (dc g s path u).2/\bO g (dc g s path u).1 (dc g s path u).2<bO g s path:=by
 have hl:=hZ h.i hp hu
 refine⟨⟨h.i.step hm hp hu,?_⟩,hl⟩
 obtain⟨f,f1,f2⟩:=h.res
 cases f with
 |zero=>omega
 |succ f=>
   refine⟨f,by omega,?_⟩
   unfold o1 at f2
   rw[if_neg hp,<-hu] at f2
   exact f2
theorem eO.done{R:Bs}(h:eO g R s []):s=R:=by
 obtain⟨f,_,e⟩:=h.res
 rw[<-e]
 cases f with
 |zero=>rfl
 |succ f=>unfold o1;rw[if_pos rfl]
theorem uK(hm:bg g):∀(f:Nat) (s:Bs) (path:List Int),dS g s path->bO g s path<=f->dS g (o1 g f s path) []
 |0,s,path,h,hf=>by
   have:path=[]:=List.length_eq_zero_iff.1 (by unfold bO at hf;omega)
   subst this
   exact h
 |f+1,s,path,h,hf=>by
   unfold o1
   by_cases c:path=[]
   · rw[if_pos c];rw[c] at h;exact h
   · rw[if_neg c]
     have:=hZ h c rfl
     exact uK hm f _ _ (h.step hm c rfl) (by omega)
theorem uo(hm:bg g)(h:dS g s [])(v0:0<=v)(v1:v<g.1)(hv:gI s.place v=0):dS g (dH g s v) []:=uK hm _ _ _ (h.first v0 v1 hv) (Nat.le_refl _)
theorem gk(g:bK)(k:Nat):cM g (k+1)=if gI (cM g k).place (k:Int)=0 then dH g (cM g k) (k:Int) else cM g k:=by
 unfold cM
 rw[cz,List.foldl_append];rfl
theorem rQ(hm:bg g):∀k:Nat,(k:Int)<=g.1->dS g (cM g k) []
 |0,_=>dS.start hm
 |k+1,h=>by
   have ih:=rQ hm k (by omega)
   rw[gk]
   split
   · exact uo hm ih (by omega) (by omega) ‹_›
   · exact ih
end TL
/-
  TlBlk3: blocks by the numbers of their least edges, cut nodes, bridges: what package block tells; a bridge is alone in its block.
  By an AI agent.
-/
set_option linter.all false
namespace TL
variable{g:bK}{l:List Int}{k:Nat}{b e:Int}
def aK(l:List Int):Nat->List Int×List Int
  |0=>([],[])
  |k+1=>
    let sn:=if gI l (k:Int)∈(aK l k).1 then(aK l k).1 else(aK l k).1++[gI l (k:Int)]
    (sn,(aK l k).2++[((sn.idxOf (gI l (k:Int)):Nat):Int)])
theorem hX(l:List Int):∀k,(aK l k).2.length=k/\(aK l k).1.length<=k
 |0=>⟨rfl,Nat.le_refl _⟩
 |k+1=>by
   obtain⟨a,b⟩:=hX l k
   unfold aK
   refine⟨by simp[a],?_⟩
   simp only
   split
   · omega
   · rw[List.length_append,List.length_singleton];omega
theorem qB(l:List Int)(k:Nat):(aK l k).1.length<=(aK l (k+1)).1.length:=by
 conv=>rhs;unfold aK
 simp only
 split
 · exact Nat.le_refl _
 · rw[List.length_append];omega
theorem lY(l:List Int):∀k,∀x∈(aK l k).2,0<=x/\x<((aK l k).1.length:Int)
 |0,x,hx=>absurd hx List.not_mem_nil
 |k+1,x,hx=>by
   have hg:=qB l k
   have hx2:x∈(aK l k).2++[(((if gI l (k:Int)∈(aK l k).1 then(aK l k).1 else(aK l k).1++[gI l (k:Int)]).idxOf (gI l (k:Int)):Nat):Int)]:=hx
   rcases List.mem_append.1 hx2 with c|c
   · have:=lY l k x c;omega
   · rw[List.mem_singleton.1 c]
     have hm:gI l (k:Int)∈(if gI l (k:Int)∈(aK l k).1 then(aK l k).1 else(aK l k).1++[gI l (k:Int)]):=by
       split
       · assumption
       · simp
     have:=List.idxOf_lt_length_of_mem hm
     refine⟨by omega,?_⟩
     show((_:Nat):Int)<(((if gI l (k:Int)∈(aK l k).1 then(aK l k).1 else(aK l k).1++[gI l (k:Int)]).length:Nat):Int)
     omega
def rn(of:List Int)(g:bK)(s:List Int×List Bool)(h:Int):List Int×List Bool:=
  (s.1.set (aw g h).toNat (gI of (h/2)+1),s.2.set (aw g h).toNat (gI s.2 (aw g h)||(decide (0<gI s.1 (aw g h))&& !decide (gI s.1 (aw g h)=gI of (h/2)+1))))
def eN(of:List Int)(g:bK)(k:Nat):List Int×List Bool:=(bJ k).foldl (rn of g) (List.replicate g.1.toNat 0,List.replicate g.1.toNat false)
def dq(g:bK):List Int:=(aK (cM g g.1.toNat).block g.2.length).2
def cx(g:bK):Int:=((aK (cM g g.1.toNat).block g.2.length).1.length:Int)
def de(g:bK):List Int:=(bJ g.1.toNat).filter λv=>gI (eN (dq g) g (2*g.2.length)).2 v
def e9(of:List Int)(n:Nat)(k:Nat):List Int:=(of.take k).foldl (λl b=>l.set b.toNat (gI l b+1)) (List.replicate n 0)
def bN(g:bK)(k:Nat):List Int:=(bJ k).filter λe=>decide (gI (e9 (dq g) (cx g).toNat g.2.length) (gI (dq g) e)=1)&& !decide ((gI g.2 e).1=(gI g.2 e).2)
def aA(g:bK):(List Int×List Int×Int)×Int:=if bg g then((dq g,de g,cx g),0) else(([],[],0),1)
def aH(g:bK):List Int×Int:=if bg g then(bN g g.2.length,0) else([],1)
theorem fT(g:bK):(dq g).length=g.2.length:=(hX _ _).1
theorem eR(g:bK){i:Int}(h0:0<=i)(h1:i<(g.2.length:Int)):0<=gI (dq g) i/\gI (dq g) i<cx g:=by
 have hl:=fT g
 exact lY _ _ _ (bP (xs:=dq g) h0 (by omega))
theorem mD(of:List Int)(n k:Nat):(e9 of n k).length=n:=by
 unfold e9
 have key:∀(l p:List Int),(l.foldl (λl b=>l.set b.toNat (gI l b+1)) p).length=p.length:=by
   intro l
   induction l with
   |nil=>intro p;rfl
   |cons a l ih=>intro p;rw[List.foldl_cons,ih,List.length_set]
 rw[key];simp
theorem ju{of:List Int}{n k:Nat}(hk:(k:Int)<of.length):e9 of n (k+1)=(e9 of n k).set (gI of (k:Int)).toNat (gI (e9 of n k) (gI of (k:Int))+1):=by
 have hk':k<of.length:=by omega
 unfold e9
 rw[List.take_succ_eq_append_getElem hk',List.foldl_append]
 have e:gI of (k:Int)=of[k]:=by simp[gI,hk']
 rw[e];rfl
theorem jM(hk:decide (gI (e9 (dq g) (cx g).toNat g.2.length) (gI (dq g) (k:Int))=1)=true)(hn:¬(gI g.2 (k:Int)).1=(gI g.2 (k:Int)).2):bN g (k+1)=bN g k++[(k:Int)]:=by
 unfold bN
 rw[cz,List.filter_append]
 simp only[List.filter_cons,List.filter_nil,hk,decide_eq_false hn,Bool.not_false,Bool.and_self,if_true]
theorem iy(h:¬gI (e9 (dq g) (cx g).toNat g.2.length) (gI (dq g) (k:Int))=1\/(gI g.2 (k:Int)).1=(gI g.2 (k:Int)).2):bN g (k+1)=bN g k:=by
 unfold bN
 rw[cz,List.filter_append]
 have e:(decide (gI (e9 (dq g) (cx g).toNat g.2.length) (gI (dq g) (k:Int))=1)&& !decide ((gI g.2 (k:Int)).1=(gI g.2 (k:Int)).2))=false:=by
   rcases h with h|h
   · rw[decide_eq_false h];rfl
   · rw[decide_eq_true h];simp
 simp only[List.filter_cons,List.filter_nil,e,Bool.false_eq_true,if_false,List.append_nil]
end TL
namespace TL
structure oU(l:List Int)(mp:(Int->Int)×List Int)(out:List Int)(k:Nat):Prop where
  dom:mp.2=(aK l k).1
  val:∀b∈mp.2,mp.1 b=((mp.2.idxOf b:Nat):Int)
  eq:out=(aK l k).2++List.replicate (l.length-k) 0
  lo:(out.length:Int)=l.length
variable{l:List Int}{mp:(Int->Int)×List Int}{out:List Int}{k:Nat}
theorem oU.start:oU l (λ_=>0,[]) (List.replicate (Int.toNat (l.length:Int)) 0) 0:=
 ⟨rfl,λb hb=>absurd hb List.not_mem_nil,by simp[aK],by simp⟩
theorem om{x:Int}(h:out=(aK l k).2++List.replicate (l.length-k) 0)(hk:(k:Int)<l.length):out.set (Int.toNat (k:Int)) x=((aK l k).2++[x])++List.replicate (l.length-(k+1)) 0:=by
 have hl:=(hX l k).1
 rw[h,Int.toNat_natCast,List.set_append_right _ _ (by omega),hl,Nat.sub_self]
 rw[show l.length-k=(l.length-(k+1))+1 by omega,List.replicate_succ]
 simp
theorem oU.old(h:oU l mp out k)(hk:(k:Int)<l.length)(hm:gI l (k:Int)∈mp.2):oU l mp (out.set (Int.toNat (k:Int)) (mp.1 (gI l (k:Int)))) (k+1):=by
 have hd:=h.dom
 have e:aK l (k+1)=((aK l k).1,(aK l k).2++[(((aK l k).1.idxOf (gI l (k:Int)):Nat):Int)]):=by
   conv=>lhs;unfold aK
   simp only[if_pos (show gI l (k:Int)∈(aK l k).1 by rw[<-hd];exact hm)]
 refine⟨by rw[e];exact hd,h.val,?_,by rw[List.length_set];exact h.lo⟩
 rw[om h.eq hk,e,h.val _ hm,hd]
theorem oU.new(h:oU l mp out k)(hk:(k:Int)<l.length)(hm:¬gI l (k:Int)∈mp.2){mp':(Int->Int)×List Int}{x:Int}(em:mp'=((λq=>if q=gI l (k:Int) then(mp.2.length:Int) else mp.1 q),if gI l (k:Int)∈mp.2 then mp.2 else mp.2++[gI l (k:Int)]))(ex:x=mp'.1 (gI l (k:Int))):
   oU l mp' (out.set (Int.toNat (k:Int)) x) (k+1):=by
 subst em
 have hd:=h.dom
 rw[if_neg hm]
 have e:aK l (k+1)=((aK l k).1++[gI l (k:Int)],(aK l k).2++[((((aK l k).1++[gI l (k:Int)]).idxOf (gI l (k:Int)):Nat):Int)]):=by
   conv=>lhs;unfold aK
   simp only[if_neg (show¬gI l (k:Int)∈(aK l k).1 by rw[<-hd];exact hm)]
 have ei:(mp.2++[gI l (k:Int)]).idxOf (gI l (k:Int))=mp.2.length:=by
   rw[List.idxOf_append,if_neg hm];simp
 refine⟨by rw[e,<-hd],λb hb=>?_,?_,by rw[List.length_set];exact h.lo⟩
 · show(if b=gI l (k:Int) then(mp.2.length:Int) else mp.1 b)=(((mp.2++[gI l (k:Int)]).idxOf b:Nat):Int)
   by_cases c:b=gI l (k:Int)
   · rw[if_pos c,c,ei]
   · have hb2:b∈mp.2:=(List.mem_append.1 hb).resolve_right (λz=>c (List.mem_singleton.1 z))
     rw[if_neg c,List.idxOf_append,if_pos hb2];exact h.val b hb2
 · rw[om h.eq hk,e,ex]
   show _=_
   rw[<-hd,ei]
   simp
theorem oU.done(h:oU l mp out k)(hk:k=l.length):out=(aK l l.length).2/\(mp.2.length:Int)=((aK l l.length).1.length:Int):=by
 subst hk
 have:=h.eq
 rw[Nat.sub_self,List.replicate_zero,List.append_nil] at this
 exact⟨this,by rw[h.dom]⟩
end TL
/-
  TlWayT: the way that leads to a node, from how the nodes were reached (package path's To), as the document has it.
  By an AI agent.
-/
set_option linter.all false
namespace TL
def rz(fs:FS)(g:bK):Prop:=bg g/\(fs.1.length:Int)=g.1/\(fs.2.length:Int)=g.1
instance (fs:FS)(g:bK):Decidable (rz fs g):=by unfold rz;infer_instance
variable{fs:FS}{g:bK}{t v:Int}{l:List Int}{n:Nat}
variable{by_:List Int}
end TL
/-
  TlDij: what the document's From comes to: each length is that of the way found; no half-edge of a reached node leads nearer.
  By an AI agent.
-/
set_option linter.all false
namespace TL
abbrev hf(g:bK)(h:Int):Prop:=0<=h/\h<2*(g.2.length:Int)
abbrev nd(g:bK)(v:Int):Prop:=0<=v/\v<g.1
variable{g:bK}{ws:List Nat}{s p:Int}{far:List Nat}{by_:List Int}{se:List Bool}{rk:Int->Nat}{n:Nat}{done:List Int}
end TL
/-
  TlOpen: arguments opened: what a law's reader says of a slice is what a walk wants of it.
  By an AI agent.
-/
namespace TL
open Go Go.Proofs Go.ChangeShapes Go.WideShapes Go.Joins Go.Deep
structure o9{H:Type}(f:DataW H->Nat):Prop where
 slice:∀l s:List (DataW H),l.length<=f (.slice l s)
 elem:∀l s:List (DataW H),∀d∈l,f d<=f (.slice l s)
 part:∀l:List (DataW H),∀d∈l,f d<=f (.agg l)
def ti(α:Type)[Rp α](P:Program)(t:TypeId):Prop:=
  ∀{H:Type} (enc:TypeId×Value->H) (w:World) (fuel:Nat) (cs:List Value) (x:DataW H×List MemPlace),DataW.trod enc P w 0 (λ_=>true) true fuel t cs=some x->∃y:α,Rp.rep c0 any w cs y
theorem oO{P:Program}{t:TypeId}(ht:P.underlying t=some (.int .i64)):ti Int P t:=by
 intro H enc w fuel cs x h
 obtain⟨n,rfl,_,_⟩:=DataW.trod_int ht h
 exact⟨n,rfl⟩
theorem mS{H:Type}{enc:TypeId×Value->H}{P:Program}{w:World}{base:Nat}{spare:Nat->Bool}{held:Bool}{t e:TypeId}{fuel:Nat}{cs:List Value}{x:DataW H×List MemPlace}(ht:P.underlying t=some (.array 2 e))(hce:P.cellsOf e=1)(hct:P.cellsOf t=2)
   (h:DataW.trod enc P w base spare held fuel t cs=some x):
   ∃v0 v1 y0 y1 n,cs=[v0,v1]/\x=(.agg [y0.1,y1.1],y0.2++y1.2)/\DataW.trod enc P w base spare held n e [v0]=some y0/\DataW.trod enc P w base spare held n e [v1]=some y1:=by
 cases fuel with
 |zero=>simp[DataW.trod] at h
 |succ n=>
   unfold DataW.trod at h
   rw[ht] at h
   have r2:List.range 2=[0,1]:=rfl
   simp only[hct] at h
   by_cases hl:cs.length=2
   · rw[if_pos hl] at h
     match cs,hl with
     |[v0,v1],_=>
       simp[r2,hce] at h
       cases h0:DataW.trod enc P w base spare held n e [v0] with
       |none=>simp[h0] at h
       |some y0=>
         cases h1:DataW.trod enc P w base spare held n e [v1] with
         |none=>simp[h0,h1] at h
         |some y1=>
           simp[h0,h1] at h
           exact⟨v0,v1,y0,y1,n,rfl,h.symm,h0,h1⟩
   · rw[if_neg hl] at h;cases h
theorem sF{P:Program}{t e:TypeId}(ht:P.underlying t=some (.array 2 e))(he:P.underlying e=some (.int .i64))(hce:P.cellsOf e=1)(hct:P.cellsOf t=2):ti (Int×Int) P t:=by
 intro H enc w fuel cs x h
 obtain⟨v0,v1,y0,y1,n,rfl,_,h0,h1⟩:=mS ht hce hct h
 obtain⟨a,ha⟩:=oO he enc w n [v0] y0 h0
 obtain⟨b,hb⟩:=oO he enc w n [v1] y1 h1
 exact⟨(a,b),[v0],[v1],rfl,ha,hb⟩
theorem lS{P:Program}{w:World}{base:Nat}{t e:TypeId}{v:Value}(ht:P.underlying t=some (.slice e))(h:Cell.okWide P w .any base t v):∀a len cap,v= .slice (some a) len cap->a.spot=none:=by
 rintro a len cap rfl
 simp only[Cell.okWide,Cell.ok,ht] at h
 exact h.2.2.2.1
end TL
/-
  TlJudge4: directions around a point; a plot turned by a quarter; the example's rotation.
  By an AI agent.
-/
set_option linter.all false
namespace TL
section
variable{u v w:Pt}
end
section
variable{p:l8}{o:Pt}{l:List Int}
end
section
variable{u v:Pt}{i k:Int}
def uV(u:Pt):Prop:=0<=u.1/\0<u.2
instance (u:Pt):Decidable (uV u):=by unfold uV;infer_instance
end
section
variable{o:Pt}{ps:List Pt}
end
end TL
/-
  TlJTr: plots moved as a whole: their flaws.
  By an AI agent.
-/
set_option linter.all false
namespace TL
section
variable{T:Pt->Pt}{D:Pt->Prop}{g:bK}{p:l8}{l a b but:List Pt}{q:Pt}{i k:Nat}
end
section
variable{g:bK}{p:l8}
end
def uG(p:l8):Nat->Int
 |0=>(p.1.length:Int)
 |k+1=>uG p k+((gI p.2 (k:Int)).length:Int)+1
def r6(g:bK)(p:l8):Prop:=uG p p.2.length<=400/\(¬bg g\/g.1<=30/\(g.2.length:Int)<=40)
instance (g:bK)(p:l8):Decidable (r6 g p):=by unfold r6;infer_instance
end TL
namespace TL
section
variable{g:bK}{p:l8}{l r:List Pt}{L:List (List Pt)}{k e:Nat}
end
end TL
namespace TL
section
variable{α:Type}[Inhabited α][DecidableEq α]{a b:List α}{k:Nat}
end
section
variable{g:bK}{p:l8}{n:Int}{e:Nat}
end
end TL
/-
  TlOpenL: arguments that are plots: a list of points, and a list of lists of points; whole numbers in their range.
  By an AI agent.
-/
set_option linter.all false
namespace TL
open Go Go.Proofs Go.ChangeShapes Go.WideShapes Go.Joins Go.Deep
def uz(α:Type)[Rp α](Q:α->Prop)(P:Program)(t:TypeId):Prop:=
  ∀{H:Type} (enc:TypeId×Value->H) (w:World) (fuel:Nat) (cs:List Value) (x:DataW H×List MemPlace),DataW.trod enc P w 0 (λ_=>true) true fuel t cs=some x->∃y:α,Rp.rep c0 any w cs y/\Q y
theorem q9{α:Type}[Rp α][Inhabited α]{Q:α->Prop}{P:Program}{t e:TypeId}(ht:P.underlying t=some (.slice e))(hc:P.cellsOf e=Rp.sz α)(hz:0<Rp.sz α)(he:uz α Q P e)
   {H:Type}{enc:TypeId×Value->H}{w:World}{f:DataW H->Nat}(hf:o9 f){fuel:Nat}{v:Value}{x:DataW H×List MemPlace}
   (hs:∀a len cap,v= .slice (some a) len cap->a.spot=none)(h:DataW.trod enc P w 0 (λ_=>true) true fuel t [v]=some x)(hb:f x.1<=1048576):∃xs:List α,Ro w v xs/\(∀y∈xs,Q y)/\xs.length<=1048576:=by
 rcases Deep.open_slice ht h with⟨h0,_⟩|⟨a,len,cap,m,n,D,Pl,h0,_,hlc,_,hm,rfl,hx⟩
 · obtain rfl:v= .slice none 0 0:=by simpa using h0
   exact⟨[],.inl ⟨⟨_,rfl⟩,rfl⟩,λy hy=>(by cases hy),by simp⟩
 · obtain rfl:v= .slice (some a) len cap:=by simpa using h0
   have hsp:=hs a len cap rfl
   obtain⟨b,off,spot⟩:=a
   obtain rfl:spot=none:=hsp
   simp only[if_true] at hm
   subst hm
   obtain⟨Y,hY⟩:=Deep.choose_lt (α:=α) (n:=len) (p:=λi y=>(∃cs,(∀j,j<Rp.sz α->w.cell? ⟨b,off+i*Rp.sz α+j,none⟩=cs[j]?)/\Rp.rep c0 any w cs y)/\Q y) (λi hi=>by
     obtain⟨cs',h1,h2⟩:=hx i (by omega)
     obtain⟨y,hy,hq⟩:=he enc w n cs' _ h2
     refine⟨y,⟨cs',λj hj=>?_,hy⟩,hq⟩
     obtain⟨_,hl,hcell⟩:=World.cells?_some h1
     have:=hcell j (by omega)
     rw[Deep.add_add,hc] at this
     rw[<-this]
     unfold Addr.add
     by_cases hij:i*Rp.sz α+j=0
     · rw[if_pos hij,Nat.add_assoc,hij];rfl
     · rw[if_neg hij,Nat.add_assoc])
   have hlen:((List.range len).map Y).length=len:=by simp
   have hbound:=Nat.le_trans (hf.slice _ _) hb
   have hll:len<=1048576:=by simp at hbound;omega
   refine⟨(List.range len).map Y,.inr ⟨b,off,m,by rw[hlen],⟨by omega,by omega⟩,λi y hi=>?_⟩,λy hy=>?_,by omega⟩
   · have hil:i<len:=by
       have:=(List.getElem?_eq_some_iff.1 hi).1
       omega
     obtain rfl:Y i=y:=by simpa[hil] using hi
     obtain⟨⟨cs,h1,h2⟩,_⟩:=hY i hil
     refine⟨?_,trivial,cs,h1,h2⟩
     have h3:=h1 0 hz
     have h4:=Rp.len h2
     have h5:0<cs.length:=by omega
     rw[List.getElem?_eq_getElem h5] at h3
     by_cases hbl:b<w.heap.size
     · exact hbl
     · have:w.heap[b]? =none:=Array.getElem?_eq_none (by omega)
       simp[World.cell?,this] at h3
   · obtain⟨i,hi,rfl⟩:=List.mem_map.1 hy
     exact(hY i (List.mem_range.1 hi)).2
end TL
/-
  TlWord: words and bytes in memory (a list of uint64, a list of uint8), and how a statement's argument of them is opened.
  By an AI agent.
-/
set_option linter.all false
namespace TL
open Go Go.Proofs Go.ChangeShapes Go.WideShapes Go.Joins Go.Deep
structure Wd where
  n:Nat
  lt:n<18446744073709551616
instance:Inhabited Wd:=⟨⟨0,by decide⟩⟩
instance:Rp Wd where
 sz:=1
 rep _ _ _ cs x:=cs=[.int .u64 (x.n:Int)]
 len h:=by subst h;rfl
 one h:=by subst h;simp[Value.oneCell']
 tr _ _ h:=h
instance:Fl Wd where
 cells x:=[.int .u64 (x.n:Int)]
 rep_iff:=Iff.rfl
structure Bt where
  n:Nat
  lt:n<256
instance:Inhabited Bt:=⟨⟨0,by decide⟩⟩
instance:Rp Bt where
 sz:=1
 rep _ _ _ cs x:=cs=[.int .u8 (x.n:Int)]
 len h:=by subst h;rfl
 one h:=by subst h;simp[Value.oneCell']
 tr _ _ h:=h
instance:Fl Bt where
 cells x:=[.int .u8 (x.n:Int)]
 rep_iff:=Iff.rfl
end TL
namespace TL
open Go Go.Proofs Go.ChangeShapes Go.WideShapes Go.Joins Go.Deep
end TL
namespace TL
open Go
end TL
/-
  TlDij3: lengths of small whole weights: one way and another compared.
  By an AI agent.
-/
set_option linter.all false
namespace TL
variable{g g1 g2:bK}{ws w1 w2:List Nat}{s s1 s2:Int}{far f1 f2:List Nat}{by_ b1 b2:List Int}{rk r1 r2:Int->Nat}{C:Nat}
def dN(h:Int):Int:=if h%2=0 then h+1 else h-1
theorem dl{h:Int}(hh:hf g h):hf g (dN h)/\dN h/2=h/2/\aw g (dN h)=b6 g h/\b6 g (dN h)=aw g h:=by
 have h0:=hh.1
 have h1:=hh.2
 have e1:dN h/2=h/2:=by unfold dN;split<;>omega
 have e2:dN h%2=1-h%2:=by unfold dN;split<;>omega
 refine⟨⟨by unfold dN;split<;>omega,by unfold dN;split<;>omega⟩,e1,?_,?_⟩
 · unfold aw b6;rw[e1,e2]
 · unfold aw b6;rw[e1,e2,show 1-(1-h%2)=h%2 by omega]
end TL
namespace TL
end TL
/-
  TlBlk4: the walk that finds blocks, one way of a step at a time; the loop that looks for an edge on the stack.
  By an AI agent.
-/
set_option linter.all false
namespace TL
variable{g:bK}{R:Bs}{pl lo by_ nx:List Int}{fo:Int}{ed:List Int}{la:List Bool}{bl:List Int}{co:Int}{path:List Int}{u hh:Int}
theorem eO.via{s s':Bs}{path path':List Int}(hm:bg g)(h:eO g R s path)(hp:0<(path.length:Int))(hu:u=gI path ((path.length:Int)-1))(e:dc g s path u=(s',path')):eO g R s' path'/\bO g s' path'<bO g s path:=by
 have:=h.step hm (λk=>by rw[k] at hp;simp at hp) hu
 rw[e] at this;exact this
abbrev bs(pl lo by_ nx:List Int)(fo:Int)(ed:List Int)(la:List Bool)(bl:List Int)(co:Int):Bs:=⟨pl,lo,by_,nx,fo,ed,la,bl,co⟩
theorem eO.skip(hm:bg g)(h:eO g R (bs pl lo by_ nx fo ed la bl co) path)(hp:0<(path.length:Int))(hu:u=gI path ((path.length:Int)-1))(hn:¬gI nx u=((gI (am g) u).length:Int))(eh:gI (gI (am g) u) (gI nx u)=hh)(hl:gI la (hh/2)=true):
    eO g R (bs pl lo by_ (nx.set u.toNat (gI nx u+1)) fo ed la bl co) path/\bO g (bs pl lo by_ (nx.set u.toNat (gI nx u+1)) fo ed la bl co) path<bO g (bs pl lo by_ nx fo ed la bl co) path:=by
  refine h.via hm hp hu ?_
  unfold dc
  rw[if_neg hn]
  simp only[eh]
  unfold dI
  rw[if_pos hl];rfl
theorem eO.loop(hm:bg g)(h:eO g R (bs pl lo by_ nx fo ed la bl co) path)(hp:0<(path.length:Int))(hu:u=gI path ((path.length:Int)-1))(hn:¬gI nx u=((gI (am g) u).length:Int))(eh:gI (gI (am g) u) (gI nx u)=hh)(hl:¬gI la (hh/2)=true)(hw:b6 g hh=u):
    eO g R (dE (bs pl lo by_ (nx.set u.toNat (gI nx u+1)) fo (ed++[hh/2]) (la.set (hh/2).toNat true) bl co) (hh/2)) path/\bO g (dE (bs pl lo by_ (nx.set u.toNat (gI nx u+1)) fo (ed++[hh/2]) (la.set (hh/2).toNat true) bl co) (hh/2)) path<bO g (bs pl lo by_ nx fo ed la bl co) path:=by
  refine h.via hm hp hu ?_
  unfold dc
  rw[if_neg hn]
  simp only[eh]
  unfold dI
  rw[if_neg hl,if_pos hw];rfl
theorem eO.new(hm:bg g)(h:eO g R (bs pl lo by_ nx fo ed la bl co) path)(hp:0<(path.length:Int))(hu:u=gI path ((path.length:Int)-1))(hn:¬gI nx u=((gI (am g) u).length:Int))(eh:gI (gI (am g) u) (gI nx u)=hh)(hl:¬gI la (hh/2)=true){w:Int}(ew:b6 g hh=w)(hw:¬w=u)(hz:gI pl w=0):
    eO g R (bs (pl.set w.toNat (fo+1)) (lo.set w.toNat (fo+1)) (by_.set w.toNat hh) (nx.set u.toNat (gI nx u+1)) (fo+1) (ed++[hh/2]) (la.set (hh/2).toNat true) bl co) (path++[w])/\bO g (bs (pl.set w.toNat (fo+1)) (lo.set w.toNat (fo+1)) (by_.set w.toNat hh) (nx.set u.toNat (gI nx u+1)) (fo+1) (ed++[hh/2]) (la.set (hh/2).toNat true) bl co) (path++[w])<bO g (bs pl lo by_ nx fo ed la bl co) path:=by
  subst ew
  refine h.via hm hp hu ?_
  unfold dc
  rw[if_neg hn]
  simp only[eh]
  unfold dI
  rw[if_neg hl,if_neg hw,if_pos hz];rfl
theorem eO.back(hm:bg g)(h:eO g R (bs pl lo by_ nx fo ed la bl co) path)(hp:0<(path.length:Int))(hu:u=gI path ((path.length:Int)-1))(hn:¬gI nx u=((gI (am g) u).length:Int))(eh:gI (gI (am g) u) (gI nx u)=hh)(hl:¬gI la (hh/2)=true){w:Int}(ew:b6 g hh=w)(hw:¬w=u)(hz:¬gI pl w=0):
    eO g R (bs pl (lo.set u.toNat (min (gI lo u) (gI pl w))) by_ (nx.set u.toNat (gI nx u+1)) fo (ed++[hh/2]) (la.set (hh/2).toNat true) bl co) path/\bO g (bs pl (lo.set u.toNat (min (gI lo u) (gI pl w))) by_ (nx.set u.toNat (gI nx u+1)) fo (ed++[hh/2]) (la.set (hh/2).toNat true) bl co) path<bO g (bs pl lo by_ nx fo ed la bl co) path:=by
  subst ew
  refine h.via hm hp hu ?_
  unfold dc
  rw[if_neg hn]
  simp only[eh]
  unfold dI
  rw[if_neg hl,if_neg hw,if_neg hz];rfl
theorem eO.off0(hm:bg g)(h:eO g R (bs pl lo by_ nx fo ed la bl co) path)(hp:0<(path.length:Int))(hu:u=gI path ((path.length:Int)-1))(hn:gI nx u=((gI (am g) u).length:Int))(hb:gI by_ u<0):
    eO g R (bs pl lo by_ nx fo ed la bl co) path.dropLast/\bO g (bs pl lo by_ nx fo ed la bl co) path.dropLast<bO g (bs pl lo by_ nx fo ed la bl co) path:=by
  refine h.via hm hp hu ?_
  unfold dc
  rw[if_pos hn]
  unfold dj
  rw[if_pos hb]
theorem eO.off1(hm:bg g)(h:eO g R (bs pl lo by_ nx fo ed la bl co) path)(hp:0<(path.length:Int))(hu:u=gI path ((path.length:Int)-1))(hn:gI nx u=((gI (am g) u).length:Int))(hb:¬gI by_ u<0){q:Int}(eq:aw g (gI by_ u)=q){lo':List Int}(el:lo'=lo.set q.toNat (min (gI lo q) (gI lo u)))(hc:¬gI pl q<=gI lo' u):
    eO g R (bs pl lo' by_ nx fo ed la bl co) path.dropLast/\bO g (bs pl lo' by_ nx fo ed la bl co) path.dropLast<bO g (bs pl lo by_ nx fo ed la bl co) path:=by
  subst eq el
  refine h.via hm hp hu ?_
  unfold dc
  rw[if_pos hn]
  unfold dj
  rw[if_neg hb]
  simp only
  rw[if_neg hc]
theorem eO.off2(hm:bg g)(h:eO g R (bs pl lo by_ nx fo ed la bl co) path)(hp:0<(path.length:Int))(hu:u=gI path ((path.length:Int)-1))(hn:gI nx u=((gI (am g) u).length:Int))(hb:¬gI by_ u<0){q:Int}(eq:aw g (gI by_ u)=q){lo':List Int}(el:lo'=lo.set q.toNat (min (gI lo q) (gI lo u)))(hc:gI pl q<=gI lo' u):
    eO g R (dE (bs pl lo' by_ nx fo ed la bl co) (gI by_ u/2)) path.dropLast/\bO g (dE (bs pl lo' by_ nx fo ed la bl co) (gI by_ u/2)) path.dropLast<bO g (bs pl lo by_ nx fo ed la bl co) path:=by
  subst eq el
  refine h.via hm hp hu ?_
  unfold dc
  rw[if_pos hn]
  unfold dj
  rw[if_neg hb]
  simp only
  rw[if_pos hc]
theorem eO.loop1(hm:bg g)(h:eO g R (bs pl lo by_ nx fo ed la bl co) path)(hp:0<(path.length:Int))(hu:u=gI path ((path.length:Int)-1))(hn:¬gI nx u=((gI (am g) u).length:Int))(eh:gI (gI (am g) u) (gI nx u)=hh)(hl:¬gI la (hh/2)=true)(hw:b6 g hh=u){s':Bs}(hc:dE (bs pl lo by_ (nx.set u.toNat (gI nx u+1)) fo (ed++[hh/2]) (la.set (hh/2).toNat true) bl co) (hh/2)=s'):
   eO g R s' path/\bO g s' path<bO g (bs pl lo by_ nx fo ed la bl co) path:=by
 subst hc;exact h.loop hm hp hu hn eh hl hw
theorem eO.off3(hm:bg g)(h:eO g R (bs pl lo by_ nx fo ed la bl co) path)(hp:0<(path.length:Int))(hu:u=gI path ((path.length:Int)-1))(hn:gI nx u=((gI (am g) u).length:Int))(hb:¬gI by_ u<0){q:Int}(eq:aw g (gI by_ u)=q){lo':List Int}(el:lo'=lo.set q.toNat (min (gI lo q) (gI lo u)))(hc:gI pl q<=gI lo' u){s':Bs}(hcl:dE (bs pl lo' by_ nx fo ed la bl co) (gI by_ u/2)=s'):
   eO g R s' path.dropLast/\bO g s' path.dropLast<bO g (bs pl lo by_ nx fo ed la bl co) path:=by
 subst hcl;exact h.off2 hm hp hu hn hb eq el hc
structure lq(ed:List Int)(x at_:Int):Prop where
  mem:x∈ed
  nd:ed.Nodup
  lo:0<=at_
  hi:at_<ed.length
  no:∀j:Int,at_<j->j<ed.length->gI ed j≠x
theorem lq.start{x:Int}(hn:ed.Nodup)(hx:x∈ed):lq ed x ((ed.length:Int)-1):=by
 have:0<ed.length:=List.length_pos_of_mem hx
 exact⟨hx,hn,by omega,by omega,λj a b=>by omega⟩
theorem lq.next{x at_:Int}(h:lq ed x at_)(hne:¬gI ed at_=x):lq ed x (at_-1)/\1<=at_:=by
 have h1:=h.lo
 have h2:=h.hi
 have hp:1<=at_:=by
   by_cases c:1<=at_
   · exact c
   · exfalso
     obtain⟨i,hi,e⟩:=List.mem_iff_getElem.1 h.mem
     have e2:gI ed (i:Int)=x:=by rw[<-e];simp[gI,hi]
     by_cases k:(i:Int)=at_
     · rw[k] at e2;exact hne e2
     · exact h.no i (by omega) (by omega) e2
 refine⟨⟨h.mem,h.nd,by omega,by omega,λj a b=>?_⟩,hp⟩
 by_cases k:j=at_
 · rw[k];exact hne
 · exact h.no j (by omega) b
theorem lq.done{x at_:Int}(h:lq ed x at_)(he:gI ed at_=x):at_=(mw ed x:Int):=by
 obtain⟨A,B,e1,hA,hB,e2⟩:=nM h.nd h.mem
 have h1:=h.lo
 have h2:=h.hi
 rw[e2]
 have hl:ed.length=A.length+1+B.length:=by rw[e1];simp;omega
 have hA2:gI ed (A.length:Int)=x:=by rw[e1];simp[gI]
 rcases Int.lt_trichotomy at_ A.length with c|c|c
 · exact absurd hA2 (h.no _ c (by omega))
 · exact c
 · exfalso
   obtain⟨k,rfl⟩:∃k:Nat,at_=k:=⟨at_.toNat,by omega⟩
   have hk:k<ed.length:=by omega
   have e3:gI ed (k:Int)=ed[k]:=by simp[gI,hk]
   have:ed[k]∈B:=by
     have hk2:k-(A.length+1)<B.length:=by omega
     have e4:ed[k]=B[k-(A.length+1)]:=by
       have:ed[k]? =B[k-(A.length+1)]? :=by
         rw[e1,List.getElem?_append_right (by omega),List.getElem?_cons,if_neg (by omega)]
         congr 1
       rw[List.getElem?_eq_getElem hk,List.getElem?_eq_getElem hk2] at this
       exact Option.some.inj this
     rw[e4];exact List.getElem_mem hk2
   rw[e3] at he
   rw[he] at this
   exact hB this
end TL
namespace TL
open Go
theorem qN(n:Nat):n^^^1=if n%2=0 then n+1 else n-1:=by
 have h1:(n^^^1)%2=(n+1)%2:=by
   have:= @Nat.xor_mod_two_eq_one n 1
   by_cases c:(n^^^1)%2=1
   · have:=this.1 c;omega
   · have h3:¬¬(n%2=1↔1%2=1):=λk=>c (this.2 k)
     have h4:=Decidable.not_not.1 h3
     have:n%2=1:=h4.2 rfl
     omega
 have h2:(n^^^1)/2=n/2:=by rw[Nat.xor_div_two];simp
 split<;>omega
theorem i9{m:Int}(t:TypeId)(h0:0<=m)(h1:m<4611686018427387904):binOp .xor t (.int .i64 m) (.int .i64 1)=pure (.int .i64 (dN m)):=by
 obtain⟨n,rfl⟩:=Int.eq_ofNat_of_zero_le h0
 have hn:n<4611686018427387904:=by omega
 have e:(BitVec.ofInt 64 (n:Int)^^^BitVec.ofInt 64 1).toNat=n^^^1:=by
   rw[BitVec.toNat_xor]
   have e1:(BitVec.ofInt 64 (n:Int)).toNat=n:=by
     rw[BitVec.toNat_ofInt];omega
   have e2:(BitVec.ofInt 64 (1:Int)).toNat=1:=by decide
   rw[e1,e2]
 have h3:(((n^^^1:Nat)):Int)=dN (n:Int):=by
   rw[qN];unfold dN
   split<;>split<;>omega
 show(pure (Value.int .i64 (IntKind.i64.wrap ((BitVec.ofInt 64 (n:Int)^^^BitVec.ofInt 64 1).toNat:Int))):Sem Value)=_
 rw[e,h3,iO]
 unfold dN;unfold rY;split<;>omega
end TL
namespace TL
variable{g:bK}{s:Bs}{path:List Int}
theorem lD(h:dS g s path):0<=s.found/\s.found<=g.1/\0<=s.count/\s.count+(s.edges.length:Int)<=(g.2.length:Int):=by
  have h1:=h.fn
  have h2:=h.cl
  have h3:s.laid.count true<=s.laid.length:=List.count_le_length
  have h4:=h.l5
  exact⟨h.f0,by omega,h.ct,by omega⟩
theorem oS{l:List Int}{n q:Nat}(h:l=List.replicate q (-1)++List.replicate (n-q) 0)(hq:q<=n):l.length=n:=by
 rw[h];simp;omega
theorem mT{l:List Int}{n q:Nat}(h:l=List.replicate q (-1)++List.replicate (n-q) 0)(hq:q<n):l.set (Int.toNat (q:Int)) (-1)=List.replicate (q+1) (-1)++List.replicate (n-(q+1)) 0:=by
 rw[h,Int.toNat_natCast,List.set_append_right _ _ (by simp)]
 simp only[List.length_replicate,Nat.sub_self]
 rw[show n-q=(n-(q+1))+1 by omega,List.replicate_succ,List.set_cons_zero,List.replicate_succ',List.append_assoc]
 rfl
def nD(L bl:List Int)(co:Int)(k:Nat):List Int:=(L.take k).foldl (λb x=>b.set x.toNat co) bl
theorem oM{L bl:List Int}{co:Int}:bl=nD L bl co 0:=rfl
theorem ke{L bl b:List Int}{co:Int}{k:Nat}(h:b=nD L bl co k):b.length=bl.length:=by rw[h];unfold nD;exact kG _ _ _
theorem iP{L bl b:List Int}{co:Int}{k:Nat}(h:b=nD L bl co k)(hk:(k:Int)<L.length):b.set (gI L (k:Int)).toNat co=nD L bl co (k+1):=by
 have hk':k<L.length:=by omega
 unfold nD at*
 rw[List.take_succ_eq_append_getElem hk',List.foldl_append,<-h]
 have e:gI L (k:Int)=L[k]:=by simp[gI,hk']
 rw[e];rfl
theorem fc{pl lo by_ nx:List Int}{fo:Int}{ed:List Int}{la:List Bool}{bl:List Int}{co x at_:Int}{bk:List Int}{k:Nat}(ha:lq ed x at_)(he:gI ed at_=x)(hb:bk=nD (List.drop (Int.toNat at_) (List.take (Int.toNat (ed.length:Int)) ed)) bl co k)
   (hk:¬(k:Int)<((List.drop (Int.toNat at_) (List.take (Int.toNat (ed.length:Int)) ed)).length:Int))(hk2:(k:Int)<=((List.drop (Int.toNat at_) (List.take (Int.toNat (ed.length:Int)) ed)).length:Int)):
   dE (bs pl lo by_ nx fo ed la bl co) x=bs pl lo by_ nx fo (ed.take (Int.toNat at_)) la bk (co+1):=by
 have e:=ha.done he
 have el:List.drop (Int.toNat at_) (List.take (Int.toNat (ed.length:Int)) ed)=ed.drop (mw ed x):=by
   rw[e,Int.toNat_natCast,Int.toNat_natCast,List.take_length]
 rw[el] at hb hk hk2
 have hk3:k=(ed.drop (mw ed x)).length:=by omega
 unfold dE
 rw[hb]
 unfold nD
 rw[hk3,List.take_length,e,Int.toNat_natCast]
theorem du{path:List Int}:List.take (Int.toNat ((path.length:Int)-1)) path=path.dropLast:=by
 rw[List.dropLast_eq_take];congr 1;omega
theorem oC{s s':Bs}{v:Nat}(h:s=cM g v)(hp:gI s.place (v:Int)=0)(hR:s'=dH g s (v:Int)):s'=cM g (v+1):=by
 rw[gk,<-h,if_pos hp];exact hR
theorem qr{s:Bs}{v:Nat}(h:s=cM g v)(hp:¬gI s.place (v:Int)=0):s=cM g (v+1):=by
 rw[gk,<-h,if_neg hp]
end TL
namespace TL
variable{g:bK}{of o:List Int}{c:List Bool}{k:Nat}
structure gh(of:List Int)(g:bK)(o:List Int)(c:List Bool)(k:Nat):Prop where
  eq:(o,c)=eN of g k
  lo:(o.length:Int)=g.1
  lc:(c.length:Int)=g.1
theorem pq{pl lo by_ nx:List Int}{fo:Int}{ed:List Int}{la:List Bool}{bl:List Int}{co:Int}{path:List Int}{O:List (List Int)}{u:Int}(h:dS g (bs pl lo by_ nx fo ed la bl co) path)(hO:O=am g)(hp:0<(path.length:Int))(hu:gI path ((path.length:Int)-1)=u):
    ((0<=u/\u<g.1)/\(0<=gI nx u/\gI nx u<=((gI O u).length:Int)))/\(gI by_ u= -1\/(0<=gI by_ u/\gI by_ u<2*(g.2.length:Int))):=by
  have hm:=h.pr _ (bP (xs:=path) (i:=(path.length:Int)-1) (by omega) (by omega))
  rw[hu] at hm
  rw[hO]
  refine⟨⟨hm.1,h.nx _ hm.1.1 hm.1.2⟩,?_⟩
  rcases h.by_ _ hm.1.1 hm.1.2 with k|k
  · exact .inl k
  · exact .inr k.1
theorem pk{pl lo by_ nx:List Int}{fo:Int}{ed:List Int}{la:List Bool}{bl:List Int}{co:Int}{path:List Int}{O:List (List Int)}{u:Int}(hm:bg g)(h:dS g (bs pl lo by_ nx fo ed la bl co) path)(hO:O=am g)(u0:0<=u)(u1:u<g.1)(hn:¬gI nx u=((gI O u).length:Int)):
   (0<=gI (gI O u) (gI nx u)/\gI (gI O u) (gI nx u)<2*(g.2.length:Int))/\(0<=b6 g (gI (gI O u) (gI nx u))/\b6 g (gI (gI O u) (gI nx u))<g.1):=by
 obtain⟨n0,n1⟩:=h.nx u u0 u1
 rw[hO] at hn ⊢
 have hin:gI (gI (am g) u) (gI nx u)∈gI (am g) u:=bP n0 (by
   have n1':gI nx u<=((gI (am g) u).length:Int):=n1
   omega)
 rw[dL u0 u1] at hin
 have ho:=(cJ hin).1
 rw[<-dL u0 u1] at ho
 exact⟨ho,dM hm ho.1 ho.2⟩
theorem gh.start(h0:0<=g.1):gh of g (List.replicate (Int.toNat g.1) 0) (List.replicate (Int.toNat g.1) false) 0:=⟨rfl,by simp;omega,by simp;omega⟩
theorem gh.next(h:gh of g o c k){v e b:Int}{bb:Bool}(hv:aw g (k:Int)=v)(he:(k:Int)/2=e)(hb:b=gI of e+1)(hbb:bb=(gI c v||(decide (0<gI o v)&& !decide (gI o v=gI of e+1)))):gh of g (o.set (Int.toNat v) b) (c.set (Int.toNat v) bb) (k+1):=by
 subst hv he hb hbb
 refine⟨?_,by rw[List.length_set];exact h.lo,by rw[List.length_set];exact h.lc⟩
 unfold eN
 rw[cz,List.foldl_append]
 show _=rn of g (eN of g k) (k:Int)
 rw[<-h.eq];rfl
theorem gh.two(h:gh of g o c (2*k)){v v2 b b2:Int}{bb bb2:Bool}(hv:(gI g.2 (k:Int)).1=v)(hv2:(gI g.2 (k:Int)).2=v2)(hb:b=gI of (k:Int)+1)(hbb:bb=(gI c v||(decide (0<gI o v)&& !decide (gI o v=gI of (k:Int)+1))))(hb2:b2=gI of (k:Int)+1)(hbb2:bb2=(gI (c.set (Int.toNat v) bb) v2||(decide (0<gI (o.set (Int.toNat v) b) v2)&& !decide (gI (o.set (Int.toNat v) b) v2=gI of (k:Int)+1)))):
   gh of g ((o.set (Int.toNat v) b).set (Int.toNat v2) b2) ((c.set (Int.toNat v) bb).set (Int.toNat v2) bb2) (2*(k+1)):=by
 have e1:((2*k:Nat):Int)/2=(k:Int):=by omega
 have e2:((2*k+1:Nat):Int)/2=(k:Int):=by omega
 have f1:aw g ((2*k:Nat):Int)=v:=by
   rw[<-hv];unfold aw;rw[e1,show((2*k:Nat):Int)%2=0 by omega];rfl
 have f2:aw g ((2*k+1:Nat):Int)=v2:=by
   rw[<-hv2];unfold aw;rw[e2,show((2*k+1:Nat):Int)%2=1 by omega];rfl
 exact(h.next f1 e1 hb hbb).next f2 e2 hb2 hbb2
theorem jq{x y:Bool}(h:x=true):true=(x||y):=by rw[h];rfl
theorem jC{x:Bool}{y:Int}{q:Prop}[Decidable q](h:¬x=true)(hp:¬0<y):false=(x||(decide (0<y)&& !decide q)):=by
 rw[decide_eq_false hp];simpa using h
theorem jk{x:Bool}{y:Int}{q:Prop}[Decidable q](h:¬x=true)(hp:0<y):(!decide q)=(x||(decide (0<y)&& !decide q)):=by
 have:x=false:=by simpa using h
 rw[this,decide_eq_true hp];simp
theorem kw{a:List Int}{l:List Bool}{k:Nat}(h:a=(bJ k).filter λv=>gI l v):(a.length:Int)<=(k:Int):=by
 have h1:=List.length_filter_le (λv=>gI l v) (bJ k)
 have h2:(bJ k).length=k:=by simp[bJ]
 rw[h];omega
theorem mU{a:List Int}{l:List Bool}{k:Nat}(h:a=(bJ k).filter λv=>gI l v)(hk:gI l (k:Int)=true):a++[(k:Int)]=(bJ (k+1)).filter λv=>gI l v:=by
 rw[h,cz,List.filter_append];simp[hk]
theorem oJ{a:List Int}{l:List Bool}{k:Nat}(h:a=(bJ k).filter λv=>gI l v)(hk:¬gI l (k:Int)=true):a=(bJ (k+1)).filter λv=>gI l v:=by
 rw[h,cz,List.filter_append];simp[hk]
end TL
namespace TL
variable{g:bK}
theorem oL{pl lo by_ nx:List Int}{fo:Int}{ed:List Int}{la:List Bool}{bl:List Int}{co:Int}{path:List Int}(h0:0<=g.1)(h:dS g (bs pl lo by_ nx fo ed la bl co) path):(path.length:Int)<=g.1:=by
 have:=nW g.1.toNat path h.pn (λx hx=>by have:=(h.pr x hx).1;omega)
 omega
theorem tG{b:List Int}{q:Nat}(hb:b=List.replicate q (-1)++List.replicate (Int.toNat g.1-q) 0)(hq:(q:Int)=g.1):
   bs (List.replicate (Int.toNat g.1) 0) (List.replicate (Int.toNat g.1) 0) b (List.replicate (Int.toNat g.1) 0) 0 [] (List.replicate (Int.toNat (g.2.length:Int)) false) (List.replicate (Int.toNat (g.2.length:Int)) 0) 0=cM g 0:=by
 have e:q=Int.toNat g.1:=by omega
 subst e
 rw[hb,Nat.sub_self,List.replicate_zero,List.append_nil,Int.toNat_natCast];rfl
theorem iK(g:bK):0<=cx g/\cx g<=(g.2.length:Int):=by
 have:=(hX (cM g g.1.toNat).block g.2.length).2
 unfold cx;omega
theorem rf{b:List Int}(hb:b=(cM g (Int.toNat g.1)).block)(hl:(b.length:Int)=g.2.length):aK b b.length=(aK (cM g g.1.toNat).block g.2.length):=by
 have:b.length=g.2.length:=by omega
 rw[this,hb]
theorem eO.fin{R s:Bs}{path:List Int}(h:eO g R s path)(hp:¬0<(path.length:Int)):s=R:=by
 have e:path=[]:=List.eq_nil_of_length_eq_zero (by omega)
 subst e
 exact h.done
def aa(g:bK):List Int×List Int×Int:=(dq g,de g,cx g)
theorem nV{b cu oo:List Int}{cc:List Bool}{j k:Nat}(hnam:aK b b.length=aK (cM g g.1.toNat).block g.2.length)(hcu:cu=(bJ j).filter λv=>gI cc v)(hj:(j:Int)=(cc.length:Int))(hci:gh (dq g) g oo cc (2*k))(hk:(k:Int)=(g.2.length:Int)):
   ((aK b b.length).2,cu,((aK b b.length).1.length:Int))=aa g:=by
 have e1:k=g.2.length:=by omega
 have e2:j=g.1.toNat:=by have:=hci.lc;omega
 have e3:cc=(eN (dq g) g (2*g.2.length)).2:=by rw[<-e1,<-hci.eq]
 rw[hnam,hcu,e2,e3];rfl
end TL
/-
  TlBfs: a walk breadth first tells the numbers of edges: it is as ways of weights 1.
  By an AI agent.
-/
set_option linter.all false
namespace TL
variable{g:bK}{s v c hh:Int}{st:Bf}{dh:Int->Prop}
theorem fh{x:Int}(hx:hf g x):x∈bL g (aw g x):=by
 unfold bL gG
 exact List.mem_filter.2 ⟨List.mem_map.2 ⟨x.toNat,List.mem_range.2 (by have:=hx.1;have:=hx.2;omega),Int.toNat_of_nonneg hx.1⟩,decide_eq_true rfl⟩
end TL
/-
  TlCls: what a walk depth first over blocks may rely on: which edges belong together, and what parts them.
  By an AI agent.
-/
set_option linter.all false
namespace TL
inductive Wy (g:bK) (A:Int->Prop):Int->Int->Prop
  |refl {x:Int}:A x->Wy g A x x
  |step {x:Int} {h:Int}:Wy g A x (aw g h)->hf g h->A (b6 g h)->Wy g A x (b6 g h)
variable{g:bK}{A B:Int->Prop}{x y z:Int}
theorem Wy.right(h:Wy g A x y):A y:=by cases h<;>assumption
theorem Wy.left(h:Wy g A x y):A x:=by
 induction h with
 |refl h=>exact h
 |step _ _ _ ih=>exact ih
theorem Wy.mono(h:Wy g A x y)(hAB:∀z,A z->B z):Wy g B x y:=by
 induction h with
 |refl h=>exact .refl (hAB _ h)
 |step _ b c ih=>exact .step ih b (hAB _ c)
theorem Wy.trans(h:Wy g A x y)(k:Wy g A y z):Wy g A x z:=by
 induction k with
 |refl _=>exact h
 |step _ b c ih=>exact .step ih b c
theorem Wy.one{h:Int}(hh:hf g h)(a:A (aw g h))(b:A (b6 g h)):Wy g A (aw g h) (b6 g h):=.step (.refl a) hh b
theorem Wy.symm(h:Wy g A x y):Wy g A y x:=by
 induction h with
 |refl h=>exact .refl h
 |step p b c ih=>
   rename_i h'
   obtain⟨t1,_,t3,t4⟩:=dl (g:=g) b
   have q:Wy g A (b6 g h') (aw g h'):=by
     have:=Wy.one (g:=g) (A:=A) t1 (by rw[t3];exact c) (by rw[t4];exact p.right)
     rwa[t3,t4] at this
   exact q.trans ih
def jY(g:bK)(e f:Int):Prop:=∃h k,hf g h/\hf g k/\h/2=e/\k/2=f/\aw g h=aw g k/\b6 g h≠aw g h/\b6 g k≠aw g k/\Wy g (λz=>z≠aw g h) (b6 g h) (b6 g k)
inductive EqB (g:bK):Int->Int->Prop
 |refl (e:Int):EqB g e e
 |rel {e f:Int}:jY g e f->EqB g e f
 |symm {e f:Int}:EqB g e f->EqB g f e
 |trans {e f k:Int}:EqB g e f->EqB g f k->EqB g e k
def jN(g:bK)(la:List Bool)(ed:List Int)(e:Int):Prop:=(0<=e/\e<(g.2.length:Int))/\gI la e=true/\e∉ed
def sb(g:bK)(la:List Bool)(ed bl:List Int)(b:Int):Prop:=
  (∃e0,(gI g.2 e0).1=(gI g.2 e0).2/\∀e,jN g la ed e->gI bl e=b->e=e0)\/
  ∃(T:Int->Prop) (u:Int),¬T u/\(∀h,hf g h->T (aw g h)->(T (b6 g h)\/b6 g h=u)/\jN g la ed (h/2)/\gI bl (h/2)<=b)/\
    (∀e,jN g la ed e->gI bl e=b->∃h,hf g h/\h/2=e/\T (aw g h))/\∀e f,jN g la ed e->jN g la ed f->gI bl e=b->gI bl f=b->EqB g e f
abbrev Fm:=List (Int×List Int)
structure qo(g:bK)(pl lo by_:List Int)(la:List Bool)(path:List Int)(A:Fm)(v:Int)(S:List Int)(B:Fm):Prop where
  own:(A=[]/\S=[]/\gI by_ v= -1)\/(∃A' u U S',A=A'++[(u,U)]/\S=gI by_ v/2::S'/\aw g (gI by_ v)=u/\0<=gI by_ v)
  asc:∀p∈A,gI pl p.1<gI pl v
  eqb:∀e∈S,EqB g e (gI by_ v/2)
  end_:∀e∈S,∃h,hf g h/\h/2=e/\gI pl v<=gI pl (aw g h)
  low:∀p∈A,∀e∈p.2,∀h,hf g h->h/2=e->gI pl (aw g h)<gI pl v
  cross:∀h,hf g h->gI pl (aw g h)≠0->aw g h∉path->gI pl (aw g h)<gI pl v->gI pl (b6 g h)<gI pl v
  conn:∀x,0<=x->x<g.1->gI pl v<=gI pl x->Wy g (λz=>(0<=z/\z<g.1)/\gI pl v<=gI pl z) v x
  l1:∀h,hf g h->gI la (h/2)=true->gI pl v<=gI pl (aw g h)->gI pl (b6 g h)<gI pl v->h/2≠gI by_ v/2->∃w∈v::B.map Prod.fst,gI lo w<=gI pl (b6 g h)
  l2:gI lo v<=gI pl v
  l3:gI lo v<gI pl v->∃h,hf g h/\gI la (h/2)=true/\gI pl v<=gI pl (aw g h)/\gI pl (b6 g h)=gI lo v
structure fx(g:bK)(s:Bs)(fr:Fm):Prop where
 se:dS g s (fr.map Prod.fst)
 stk:s.edges=(fr.map Prod.snd).flatten
 inj:∀x y,0<=x->x<g.1->0<=y->y<g.1->gI s.place x≠0->gI s.place x=gI s.place y->x=y
 lof:∀h,hf g h->gI s.laid (h/2)=true->gI s.place (aw g h)≠0
 fra:∀A v S B,fr=A++(v,S)::B->qo g s.place s.low s.by_ s.laid (fr.map Prod.fst) A v S B
 clr:∀e,jN g s.laid s.edges e->0<=gI s.block e/\gI s.block e<s.count
 clb:∀b,0<=b->b<s.count->sb g s.laid s.edges s.block b
theorem sb.congr{la la':List Bool}{ed ed' bl bl':List Int}{b:Int}(h:sb g la ed bl b)(hc:∀e,jN g la' ed' e->gI bl' e=b->jN g la ed e/\gI bl e=b)(hc':∀e,jN g la ed e->jN g la' ed' e/\gI bl' e=gI bl e):sb g la' ed' bl' b:=by
 rcases h with⟨e0,h1,h2⟩|⟨T,u,h1,h2,h3,h4⟩
 · exact .inl ⟨e0,h1,λe a c=>h2 e (hc e a c).1 (hc e a c).2⟩
 · refine .inr ⟨T,u,h1,λh hh ht=>?_,λe a c=>h3 e (hc e a c).1 (hc e a c).2,λe f a c d k=>h4 e f (hc e a d).1 (hc f c k).1 (hc e a d).2 (hc f c k).2⟩
   obtain⟨a,c,d⟩:=h2 h hh ht
   exact⟨a,(hc' _ c).1,by rw[(hc' _ c).2];exact d⟩
theorem cS{la:List Bool}{e x:Int}{c:Bool}(e0:0<=e)(e1:e<(la.length:Int))(x0:0<=x):gI (la.set e.toNat c) x=if x=e then c else gI la x:=bY e0 e1 x0
theorem j7{la:List Bool}{ed:List Int}{e x:Int}(e0:0<=e)(e1:e<(la.length:Int))(hl:¬gI la e=true):jN g (la.set e.toNat true) (ed++[e]) x↔jN g la ed x:=by
 unfold jN
 constructor
 · rintro⟨a,b,c⟩
   have hne:x≠e:=λk=>c (by rw[k];simp)
   rw[cS e0 e1 a.1,if_neg hne] at b
   exact⟨a,b,λk=>c (List.mem_append_left _ k)⟩
 · rintro⟨a,b,c⟩
   have hne:x≠e:=λk=>hl (by rw[<-k];exact b)
   refine⟨a,by rw[cS e0 e1 a.1,if_neg hne];exact b,λk=>?_⟩
   rcases List.mem_append.1 k with k|k
   · exact c k
   · exact hne (List.mem_singleton.1 k)
theorem oH(c:Int):∀(P bl:List Int) (x:Int),0<=x->x<(bl.length:Int)->(∀e∈P,0<=e/\e<(bl.length:Int))->gI (P.foldl (λb e=>b.set e.toNat c) bl) x=if x∈P then c else gI bl x
 |[],bl,x,_,_,_=>by simp
 |e::P,bl,x,h0,h1,hP=>by
   have he:=hP e (List.mem_cons_self ..)
   rw[List.foldl_cons,oH c P (bl.set e.toNat c) x h0 (by rw[List.length_set];exact h1) (λy hy=>by rw[List.length_set];exact hP y (List.mem_cons_of_mem _ hy)),bY he.1 he.2 h0]
   by_cases k1:x∈P
   · rw[if_pos k1,if_pos (List.mem_cons_of_mem _ k1)]
   · rw[if_neg k1]
     by_cases k2:x=e
     · rw[if_pos k2,if_pos (by rw[k2];exact List.mem_cons_self ..)]
     · rw[if_neg k2,if_neg (λk=>(List.mem_cons.1 k).elim k2 k1)]
theorem mY{s:Bs}{pre rest:List Int}{e:Int}(he:s.edges=pre++e::rest)(hn:s.edges.Nodup):dE s e={s with block:=(e::rest).foldl (λb x=>b.set x.toNat s.count) s.block,edges:=pre,count:=s.count+1}:=by
  have hr:e∉rest:=by
    rw[he,List.nodup_append] at hn
    exact(List.nodup_cons.1 hn.2.1).1
  have ha:mw s.edges e=pre.length:=by rw[he];exact o6 hr
  unfold dE
  rw[ha,he]
  simp
structure l7(g:bK)(s:Bs)(path:List Int):Prop where
  use:∀x,0<=x->x<g.1->∀j:Int,0<=j->j<gI s.next x->gI s.laid (gI (gI (am g) x) j/2)=true
  exh:∀x,0<=x->x<g.1->gI s.place x≠0->x∉path->gI s.next x=((gI (am g) x).length:Int)
theorem c8(hm:bg g){h:Int}(hh:hf g h):0<=aw g h/\aw g h<g.1:=by
 obtain⟨t1,_,t3,t4⟩:=dl (g:=g) hh
 have:=dM hm t1.1 t1.2
 rwa[t4] at this
theorem di(hm:bg g){h:Int}(hh:hf g h):0<=b6 g h/\b6 g h<g.1:=dM hm hh.1 hh.2
theorem l7.all{s:Bs}{path:List Int}(hm:bg g)(h:l7 g s path){k:Int}(hk:hf g k)(h1:gI s.place (aw g k)≠0)(h2:aw g k∉path):gI s.laid (k/2)=true:=by
  obtain⟨f0,f1⟩:=c8 hm hk
  have he:=h.exh _ f0 f1 h1 h2
  have hin:k∈gI (am g) (aw g k):=by
    rw[dL f0 f1]
    exact fh hk
  obtain⟨i,hi,e⟩:=List.mem_iff_getElem.1 hin
  have:=h.use _ f0 f1 (i:Int) (by omega) (by rw[he];omega)
  have e2:∀(L:List Int) (hL:i<L.length),gI L (i:Int)=L[i]:=λL hL=>by simp[gI,hL]
  rw[e2 _ hi,e] at this
  exact this
end TL
/-
  TlPg: components without some nodes and edges, found by a stack: the document's way.
  By an AI agent.
-/
set_option linter.all false
namespace TL
structure fU(g g':bK)(gone:List Bool)(ps:Int->Prop):Prop where
  hm:bg g
  hm':bg g'
  n:g'.1=g.1
  pg:∀h,ps h->¬gI gone (aw g h)=true/\¬gI gone (b6 g h)=true
  one:∀h,hf g h->ps h->Cn g' (aw g h) (b6 g h)
  cl:∀S:Int->Prop,(∀h,hf g h->ps h->S (aw g h)->S (b6 g h))->∀u v,Cn g' u v->S u->S v
def fH(g':bK)(gone:List Bool)(p:List Int×Int)(v:Int):List Int×Int:=
 if 0<=gI p.1 v\/gI gone v=true then p else((da g' v).order.foldl (λl w=>l.set w.toNat p.2) p.1,p.2+1)
def bz(g':bK)(gone:List Bool)(k:Nat):List Int×Int:=(bJ k).foldl (fH g' gone) (List.replicate g'.1.toNat (-1),0)
section
variable{g g':bK}{gone:List Bool}{ps:Int->Prop}{u v x y:Int}
theorem eM(g':bK)(gone:List Bool)(k:Nat):bz g' gone (k+1)=fH g' gone (bz g' gone k) (k:Int):=by
 unfold bz
 rw[cz,List.foldl_append];rfl
theorem fU.nd(hP:fU g g' gone ps):eE g' v↔eE g v:=by unfold eE;rw[hP.n]
theorem fU.iso(hP:fU g g' gone ps)(hu:gI gone u=true)(hc:Cn g' u v):v=u:=
  hP.cl (λz=>z=u) (λh _ hp e=>absurd (by rw[e];exact hu) (hP.pg h hp).1) u v hc rfl
theorem fU.ng(hP:fU g g' gone ps)(hd:eE g u)(hd2:eE g v)(hc:Cn g' u v)(hu:¬gI gone u=true):¬gI gone v=true:=λk=>by
 have:=hP.iso k ((Cn.eqv g').symm _ _ (hP.nd.2 hd) (hP.nd.2 hd2) hc)
 rw[this] at hu;exact hu k
structure tM(g g':bK)(gone:List Bool)(p:List Int×Int)(l:List Int)(k:Nat):Prop where
  len:(p.1.length:Int)=g.1
  num:p.2=(l.length:Int)
  nd:l.Nodup
  dom:∀x∈l,eE g x/\¬gI gone x=true
  one:∀x∈l,∀y∈l,Cn g' x y->x=y
  iff:∀v,eE g v->(0<=gI p.1 v↔∃y∈l,Cn g' v y)
  all:∀v:Nat,v<k->(v:Int)<g.1->¬gI gone (v:Int)=true->∃y∈l,Cn g' (v:Int) y
  top:∀v,eE g v->gI p.1 v<p.2
  lab:∀u v,eE g u->eE g v->0<=gI p.1 u->(gI p.1 u=gI p.1 v↔Cn g' u v)
  le:l.length<=k
theorem fU.inv(hP:fU g g' gone ps):∀k:Nat,(k:Int)<=g.1->∃l,tM g g' gone (bz g' gone k) l k
 |0,_=>by
   have h0:=hP.hm.1
   have e:(bz g' gone 0).1=List.replicate g.1.toNat (-1):=by simp[bz,bJ,hP.n]
   have r:∀v,eE g v->gI (bz g' gone 0).1 v= -1:=λv hv=>by rw[e,fm hv.1 (by have:=hv.2;omega)]
   have e2:(bz g' gone 0).2=0:=by simp[bz,bJ]
   refine⟨[],by rw[e];simp;omega,by rw[e2];rfl,by simp,by simp,by simp,λv hv=>by rw[r v hv];simp,λv hv=>by omega,λv hv=>by rw[r v hv,e2];omega,λu v hu _ h=>by rw[r u hu] at h;omega,Nat.le_refl _⟩
 |k+1,hk=>by
   obtain⟨l,h⟩:=hP.inv k (by omega)
   have hkd:eE g (k:Int):=⟨by omega,by omega⟩
   have hkd':=hP.nd.2 hkd
   obtain⟨hb1,hb2⟩:=h7 hP.hm' hkd'
   have hq:=Cn.eqv g'
   rw[eM]
   unfold fH
   by_cases c:0<=gI (bz g' gone k).1 (k:Int)\/gI gone (k:Int)=true
   · rw[if_pos c]
     refine⟨l,h.len,h.num,h.nd,h.dom,h.one,h.iff,λv hv hg hn=>?_,h.top,h.lab,by have:=h.le;omega⟩
     by_cases e:v=k
     · subst e;exact(h.iff _ hkd).1 (c.resolve_right hn)
     · exact h.all v (by omega) hg hn
   · rw[if_neg c]
     have c1:¬0<=gI (bz g' gone k).1 (k:Int):=λj=>c (.inl j)
     have c2:¬gI gone (k:Int)=true:=λj=>c (.inr j)
     have hno:∀y∈l,¬Cn g' (k:Int) y:=λy hy hc=>c1 ((h.iff _ hkd).2 ⟨y,hy,hc⟩)
     have hlen:=h.len
     have hnn:0<=(bz g' gone k).2:=by rw[h.num];omega
     have hset:∀v,eE g v->gI ((da g' (k:Int)).order.foldl (λl w=>l.set w.toNat (bz g' gone k).2) (bz g' gone k).1) v=if v∈(da g' (k:Int)).order then(bz g' gone k).2 else gI (bz g' gone k).1 v:=λv hv=>kg _ _ v hv.1 (by have:=hv.2;omega) (λx hx=>by have:=hb1 x hx;exact⟨this.1,by have:=this.2;rw[hP.n] at this;omega⟩)
     have hmem:∀v,v∈(da g' (k:Int)).order->eE g v:=λv hv=>hP.nd.1 (hb1 v hv)
     have hnew:∀v,v∈(da g' (k:Int)).order->gI (bz g' gone k).1 v<0:=λv hv=>by
       refine Int.not_le.1 λj=>?_
       obtain⟨y,hy,hc⟩:=(h.iff v (hmem v hv)).1 j
       exact hno y hy (hq.trans _ _ _ hkd' (hb1 v hv) (hP.nd.2 (h.dom y hy).1) ((hb2 v).1 hv) hc)
     refine⟨l++[(k:Int)],?_,?_,?_,?_,?_,?_,?_,?_,?_,by rw[List.length_append,List.length_singleton];have:=h.le;omega⟩
     · simp only;rw[fw];exact hlen
     · simp only[h.num];simp
     · rw[List.nodup_append]
       refine⟨h.nd,by simp,λa ha b hb e=>?_⟩
       obtain rfl:=List.mem_singleton.1 hb
       subst e
       exact hno _ ha (hq.rfl _ hkd')
     · intro x hx
       rcases List.mem_append.1 hx with hx|hx
       · exact h.dom x hx
       · obtain rfl:=List.mem_singleton.1 hx;exact⟨hkd,c2⟩
     · intro x hx y hy hc
       rcases List.mem_append.1 hx with hx|hx
       · rcases List.mem_append.1 hy with hy|hy
         · exact h.one x hx y hy hc
         · obtain rfl:=List.mem_singleton.1 hy
           exact absurd (hq.symm _ _ (hP.nd.2 (h.dom x hx).1) hkd' hc) (hno x hx)
       · obtain rfl:=List.mem_singleton.1 hx
         rcases List.mem_append.1 hy with hy|hy
         · exact absurd hc (hno y hy)
         · obtain rfl:=List.mem_singleton.1 hy;rfl
     · intro v hv
       simp only
       rw[hset v hv]
       by_cases hvo:v∈(da g' (k:Int)).order
       · rw[if_pos hvo]
         exact⟨λ_=>⟨(k:Int),by simp,hq.symm _ _ hkd' (hP.nd.2 hv) ((hb2 v).1 hvo)⟩,λ_=>hnn⟩
       · rw[if_neg hvo,h.iff v hv]
         constructor
         · rintro⟨y,hy,hc⟩;exact⟨y,by simp[hy],hc⟩
         · rintro⟨y,hy,hc⟩
           rcases List.mem_append.1 hy with hy|hy
           · exact⟨y,hy,hc⟩
           · obtain rfl:=List.mem_singleton.1 hy
             exact absurd ((hb2 v).2 (hq.symm _ _ (hP.nd.2 hv) hkd' hc)) hvo
     · intro v hv hg hn
       by_cases e:v=k
       · subst e;exact⟨(v:Int),by simp,hq.rfl _ hkd'⟩
       · obtain⟨y,hy,hc⟩:=h.all v (by omega) hg hn
         exact⟨y,by simp[hy],hc⟩
     · intro v hv
       simp only
       rw[hset v hv]
       have:=h.top v hv
       split<;>omega
     · intro u v hu hv h0
       simp only at h0 ⊢
       rw[hset u hu] at h0 ⊢
       rw[hset v hv]
       have tu:=h.top u hu
       have tv:=h.top v hv
       by_cases a:u∈(da g' (k:Int)).order
       · rw[if_pos a]
         by_cases b:v∈(da g' (k:Int)).order
         · rw[if_pos b]
           exact⟨λ_=>hq.trans _ _ _ (hP.nd.2 hu) hkd' (hP.nd.2 hv) (hq.symm _ _ hkd' (hP.nd.2 hu) ((hb2 u).1 a)) ((hb2 v).1 b),λ_=>rfl⟩
         · rw[if_neg b]
           exact⟨λj=>by omega,λj=>absurd ((hb2 v).2 (hq.trans _ _ _ hkd' (hP.nd.2 hu) (hP.nd.2 hv) ((hb2 u).1 a) j)) b⟩
       · rw[if_neg a] at h0 ⊢
         by_cases b:v∈(da g' (k:Int)).order
         · rw[if_pos b]
           exact⟨λj=>by omega,λj=>absurd ((hb2 u).2 (hq.trans _ _ _ hkd' (hP.nd.2 hv) (hP.nd.2 hu) ((hb2 v).1 b) (hq.symm _ _ (hP.nd.2 hu) (hP.nd.2 hv) j))) a⟩
         · rw[if_neg b]
           exact h.lab u v hu hv h0
structure dX(g g':bK)(ps:Int->Prop)(c0 c todo x:List Int)(n s:Int):Prop where
  len:(c.length:Int)=g.1
  n0:0<=n
  sd:eE g s
  pre:∀w,eE g w->Cn g' s w->gI c0 w<0
  cmp:∀w,eE g w->(Cn g' s w/\gI c w=n)\/gI c w=gI c0 w
  nd:todo.Nodup
  tds:∀t∈todo,eE g t/\Cn g' s t/\gI c t=n
  clo:∀v,eE g v->Cn g' s v->gI c v=n->v∉todo->v∉x->∀h∈bL g v,ps h->0<=gI c (b6 g h)
  src:gI c s=n
theorem dX.start(hP:fU g g' gone ps){c0:List Int}{n:Int}{q:Nat}(hq:(q:Int)<g.1)(h:c0=(bz g' gone q).1/\n=(bz g' gone q).2)(c:¬0<=gI c0 (q:Int)):dX g g' ps c0 (c0.set (q:Int).toNat n) [(q:Int)] [] n (q:Int):=by
 obtain⟨l,hi⟩:=hP.inv q (by omega)
 obtain⟨rfl,rfl⟩:=h
 have hqd:eE g (q:Int):=⟨by omega,hq⟩
 have hqd':=hP.nd.2 hqd
 have hn:0<=(bz g' gone q).2:=by rw[hi.num];omega
 have hlen:=hi.len
 have hcn:=Cn.eqv g'
 have hpre:∀w,eE g w->Cn g' (q:Int) w->gI (bz g' gone q).1 w<0:=λw hw hc=>by
   refine Int.not_le.1 λh0=>c ?_
   obtain⟨y,hy,hwy⟩:=(hi.iff w hw).1 h0
   exact(hi.iff _ hqd).2 ⟨y,hy,hcn.trans _ _ _ hqd' (hP.nd.2 hw) (hP.nd.2 (hi.dom y hy).1) hc hwy⟩
 have hset:∀w,eE g w->gI ((bz g' gone q).1.set (q:Int).toNat (bz g' gone q).2) w=if w=q then(bz g' gone q).2 else gI (bz g' gone q).1 w:=λw hw=>bY (by omega) (by omega) hw.1
 refine⟨by simpa using hlen,hn,hqd,hpre,λw hw=>?_,by simp,λt ht=>?_,λv hv hc e hnt _=>?_,?_⟩
 · rw[hset w hw]
   by_cases e:w=q
   · subst e;exact .inl ⟨hcn.rfl _ hqd',if_pos rfl⟩
   · rw[if_neg e];exact .inr rfl
 · obtain rfl:=List.mem_singleton.1 ht
   exact⟨hqd,hcn.rfl _ hqd',by rw[hset _ hqd,if_pos rfl]⟩
 · have hne:v≠q:=λe=>hnt (by simp[e])
   rw[hset v hv,if_neg hne] at e
   have:=hpre v hv hc
   omega
 · rw[hset _ hqd,if_pos rfl]
end
section
variable{g g':bK}{gone:List Bool}{ps:Int->Prop}{c0 c todo x:List Int}{n s:Int}
theorem dX.bd(h:dX g g' ps c0 c todo x n s):(todo.length:Int)<=g.1:=by
 have h1:=h.sd.1
 have h2:=h.sd.2
 exact np (by omega) h.nd (λt ht=>(h.tds t ht).1)
theorem dX.pop(h:dX g g' ps c0 c todo [] n s)(ht:0<todo.length):dX g g' ps c0 c (todo.take (todo.length-1)) [gI todo ((todo.length:Int)-1)] n s/\eE g (gI todo ((todo.length:Int)-1))/\Cn g' s (gI todo ((todo.length:Int)-1))/\gI c (gI todo ((todo.length:Int)-1))=n:=by
 have hm:=bP (xs:=todo) (i:=(todo.length:Int)-1) (by omega) (by omega)
 have hs:=cY (xs:=todo) (k:=todo.length-1) (by omega)
 rw[List.take_of_length_le (by omega),show((todo.length-1:Nat):Int)=(todo.length:Int)-1 by omega] at hs
 refine⟨⟨h.len,h.n0,h.sd,h.pre,h.cmp,h.nd.sublist (List.take_sublist _ _),λt ht=>h.tds t (List.mem_of_mem_take ht),λv hv hc e hnt hnx=>h.clo v hv hc e (λhm=>?_) (by simp),h.src⟩,h.tds _ hm⟩
 rw[hs] at hm
 rcases List.mem_append.1 hm with hm|hm
 · exact hnt hm
 · exact hnx hm
theorem dX.push(hP:fU g g' gone ps)(h:dX g g' ps c0 c todo x n s){v:Int}(hv:eE g v)(hc:Cn g' s v){hh:Int}(hh0:hh∈bL g v)(hps:ps hh)(hw:gI c (b6 g hh)<0):dX g g' ps c0 (c.set (b6 g hh).toNat n) (todo++[b6 g hh]) x n s/\∀u,0<=u->0<=gI c u->0<=gI (c.set (b6 g hh).toNat n) u:=by
 obtain⟨⟨a1,a2⟩,a3⟩:=cJ hh0
 have hto:=dM hP.hm a1 a2
 have hlen:=h.len
 have hn:=h.n0
 have hcw:Cn g' s (b6 g hh):=(Cn.eqv g').trans _ _ _ (hP.nd.2 h.sd) (hP.nd.2 hv) (hP.nd.2 hto) hc (by have:=hP.one hh ⟨a1,a2⟩ hps;rwa[a3] at this)
 have hset:∀u,0<=u->gI (c.set (b6 g hh).toNat n) u=if u=b6 g hh then n else gI c u:=λu h0=>bY hto.1 (by omega) h0
 have hmono:∀u,0<=u->0<=gI c u->0<=gI (c.set (b6 g hh).toNat n) u:=λu h0 h1=>by
   rw[hset u h0];split<;>omega
 refine⟨⟨by simpa using hlen,hn,h.sd,h.pre,λw hwd=>?_,?_,λt ht=>?_,λv' hv' hc' e hnt hnx h' hh' hp'=>?_,?_⟩,hmono⟩
 · rw[hset w hwd.1]
   by_cases e:w=b6 g hh
   · subst e;exact .inl ⟨hcw,if_pos rfl⟩
   · rw[if_neg e];exact h.cmp w hwd
 · rw[List.nodup_append]
   refine⟨h.nd,by simp,λa ha b hb e=>?_⟩
   obtain rfl:=List.mem_singleton.1 hb
   have:=(h.tds a ha).2.2
   rw[e] at this
   omega
 · rcases List.mem_append.1 ht with ht|ht
   · obtain⟨b1,b2,b3⟩:=h.tds t ht
     refine⟨b1,b2,?_⟩
     rw[hset t b1.1];split
     · rfl
     · exact b3
   · obtain rfl:=List.mem_singleton.1 ht
     exact⟨hto,hcw,by rw[hset _ hto.1,if_pos rfl]⟩
 · have hne:v'≠b6 g hh:=λe=>hnt (by simp[e])
   rw[hset v' hv'.1,if_neg hne] at e
   have b:=cJ hh'
   exact hmono _ (dM hP.hm b.1.1 b.1.2).1 (h.clo v' hv' hc' e (λhm=>hnt (by simp[hm])) hnx h' hh' hp')
 · rw[hset s h.sd.1];split
   · rfl
   · exact h.src
structure dY(g g':bK)(ps:Int->Prop)(c0 c todo:List Int)(n s v:Int)(k M:Nat):Prop where
  inv:dX g g' ps c0 c todo [v] n s
  vd:eE g v
  vc:Cn g' s v
  row:∀i:Nat,i<k->(i:Int)<(bL g v).length->ps (gI (bL g v) (i:Int))->0<=gI c (b6 g (gI (bL g v) (i:Int)))
  meas:todo.length+2*fP c<M
theorem dX.row(h:dX g g' ps c0 c todo [] n s)(ht:0<todo.length):dY g g' ps c0 c (todo.take (todo.length-1)) n s (gI todo ((todo.length:Int)-1)) 0 (todo.length+2*fP c):=by
 obtain⟨h1,h2,h3,h4⟩:=h.pop ht
 exact⟨h1,h2,h3,λi hi=>by omega,by rw[List.length_take];omega⟩
variable{v:Int}{k M:Nat}
theorem dY.skip(h:dY g g' ps c0 c todo n s v k M)(hk:ps (gI (bL g v) (k:Int))->0<=gI c (b6 g (gI (bL g v) (k:Int)))):dY g g' ps c0 c todo n s v (k+1) M:=
 ⟨h.inv,h.vd,h.vc,λi hi hl hp=>by
   by_cases e:i=k
   · subst e;exact hk hp
   · exact h.row i (by omega) hl hp,h.meas⟩
theorem dY.push(hP:fU g g' gone ps)(h:dY g g' ps c0 c todo n s v k M)(hl:(k:Int)<(bL g v).length)(hps:ps (gI (bL g v) (k:Int)))(hk:¬0<=gI c (b6 g (gI (bL g v) (k:Int)))):dY g g' ps c0 (c.set (b6 g (gI (bL g v) (k:Int))).toNat n) (todo++[b6 g (gI (bL g v) (k:Int))]) n s v (k+1) M:=by
 have hmem:=bP (xs:=bL g v) (i:=(k:Int)) (by omega) hl
 obtain⟨h1,h2⟩:=h.inv.push hP h.vd h.vc hmem hps (by omega)
 have b:=cJ hmem
 have hto:=dM hP.hm b.1.1 b.1.2
 have hlen:=h.inv.len
 have hn:=h.inv.n0
 have hme:=h.meas
 have hcn:=qS (c:=c) (w:=b6 g (gI (bL g v) (k:Int))) (n:=n) hto.1 (by omega) (by omega) hn
 refine⟨h1,h.vd,h.vc,λi hi hil hp=>?_,?_⟩
 · by_cases e:i=k
   · subst e
     rw[bY hto.1 (by omega) hto.1,if_pos rfl];exact hn
   · have bi:=cJ (bP (xs:=bL g v) (i:=(i:Int)) (by omega) hil)
     exact h2 _ (dM hP.hm bi.1.1 bi.1.2).1 (h.row i (by omega) hil hp)
 · rw[List.length_append,List.length_singleton];omega
theorem dY.done(h:dY g g' ps c0 c todo n s v k M)(hl:¬(k:Int)<(bL g v).length):dX g g' ps c0 c todo [] n s:=
 ⟨h.inv.len,h.inv.n0,h.inv.sd,h.inv.pre,h.inv.cmp,h.inv.nd,h.inv.tds,λu hu hc e hnt _ hh hhu hp=>by
   by_cases e2:u=v
   · subst e2
     obtain⟨i,hi,rfl⟩:=List.mem_iff_getElem.1 hhu
     have e3:gI (bL g u) (i:Int)=(bL g u)[i]:=by simp[gI,hi]
     rw[<-e3] at hp ⊢
     exact h.row i (by omega) (by omega) hp
   · exact h.inv.clo u hu hc e hnt (by simp[e2]) hh hhu hp,h.inv.src⟩
theorem dX.done(hP:fU g g' gone ps){q:Nat}(h:dX g g' ps c0 c todo [] n (q:Int))(ht:¬0<todo.length)(h0:c0=(bz g' gone q).1/\n=(bz g' gone q).2)(hc:¬0<=gI c0 (q:Int))(hg:¬gI gone (q:Int)=true):c=(bz g' gone (q+1)).1/\n+1=(bz g' gone (q+1)).2:=by
 have hnil:todo=[]:=List.eq_nil_of_length_eq_zero (by omega)
 subst hnil
 have hsd:=h.sd
 have hsd':=hP.nd.2 hsd
 obtain⟨hb1,hb2⟩:=h7 hP.hm' hsd'
 obtain⟨l,hi⟩:=hP.inv q (by have:=hsd.2;omega)
 have hpl:=hi.len
 have hcn:=Cn.eqv g'
 have hall:∀w,Cn g' (q:Int) w->gI c w=n:=λw hw=>
   (hP.cl (λw=>(eE g w/\Cn g' (q:Int) w)/\gI c w=n) (λhh hhf hp hx=>by
     have hto:=dM hP.hm hhf.1 hhf.2
     have hcx:Cn g' (q:Int) (b6 g hh):=hcn.trans _ _ _ hsd' (hP.nd.2 hx.1.1) (hP.nd.2 hto) hx.1.2 (hP.one hh hhf hp)
     have h1:=h.clo _ hx.1.1 hx.1.2 hx.2 (by simp) (by simp) hh (fh hhf) hp
     refine⟨⟨hto,hcx⟩,?_⟩
     rcases h.cmp _ hto with e|e
     · exact e.2
     · have:=h.pre _ hto hcx
       omega) _ _ hw ⟨⟨h.sd,hcn.rfl _ hsd'⟩,h.src⟩).2
 have h1:bz g' gone (q+1)=((da g' (q:Int)).order.foldl (λl w=>l.set w.toNat (bz g' gone q).2) (bz g' gone q).1,(bz g' gone q).2+1):=by
   rw[eM]
   unfold fH
   rw[if_neg (λj=>j.elim (λj=>hc (by rw[h0.1];exact j)) hg)]
 have hlen:=h.len
 have hsd2:=hsd.2
 rw[h1]
 refine⟨?_,by rw[h0.2]⟩
 simp only
 have hl2:(((da g' (q:Int)).order.foldl (λl w=>l.set w.toNat (bz g' gone q).2) (bz g' gone q).1).length:Int)=g.1:=by rw[fw];exact hpl
 apply eV
 · omega
 · intro w hw
   have hwd:eE g (w:Int):=⟨by omega,by omega⟩
   rw[kg _ _ (w:Int) (by omega) (by omega) (λx hx=>by
     have:=hP.nd.1 (hb1 x hx)
     have h2:=this.1
     have h3:=this.2
     omega)]
   by_cases hc':Cn g' (q:Int) (w:Int)
   · rw[if_pos ((hb2 _).2 hc'),hall _ hc',h0.2]
   · rw[if_neg (λhm=>hc' ((hb2 _).1 hm)),<-h0.1]
     rcases h.cmp _ hwd with e|e
     · exact absurd e.1 hc'
     · exact e
theorem jb{p:List Int}{m:Int}{q:Nat}(h:p=(bz g' gone q).1/\m=(bz g' gone q).2)(c:0<=gI p (q:Int)\/gI gone (q:Int)=true):p=(bz g' gone (q+1)).1/\m=(bz g' gone (q+1)).2:=by
 have h1:bz g' gone (q+1)=bz g' gone q:=by
   rw[eM]
   unfold fH
   rw[if_pos (by rw[<-h.1];exact c)]
 rw[h1];exact h
end
def kX(g:bK)(gone cut:List Bool):List Int:=(bJ g.2.length).filter λe=> !(gI gone (gI g.2 e).1||gI gone (gI g.2 e).2||gI cut e)
def cV(g:bK)(gone cut:List Bool):bK:=(g.1,(kX g gone cut).map (gI g.2))
def b7(g:bK)(gone cut:List Bool):List Int×Int:=bz (cV g gone cut) gone g.1.toNat
def mu(g:bK)(gone cut:List Bool)(h:Int):Prop:=¬gI gone (aw g h)=true/\¬gI gone (b6 g h)=true/\¬gI cut (h/2)=true
section
variable{g:bK}{gone cut:List Bool}{h e:Int}
theorem gu:e∈kX g gone cut↔(0<=e/\e<(g.2.length:Int))/\¬gI gone (gI g.2 e).1=true/\¬gI gone (gI g.2 e).2=true/\¬gI cut e=true:=by
 unfold kX
 rw[List.mem_filter,fa]
 refine and_congr Iff.rfl ?_
 simp[and_assoc]
theorem gO(h0:0<=h):(aw g h=(gI g.2 (h/2)).1/\b6 g h=(gI g.2 (h/2)).2)\/(aw g h=(gI g.2 (h/2)).2/\b6 g h=(gI g.2 (h/2)).1):=by
 unfold aw b6 pI
 have:h%2=0\/h%2=1:=by omega
 rcases this with q|q
 · rw[q];left;simp
 · rw[q];right;simp
theorem kK(hm:bg g):bg (cV g gone cut):=by
 obtain⟨m1,m2,m3,m4⟩:=hm
 refine⟨m1,m2,?_,λe he=>?_⟩
 · unfold cV
   rw[List.length_map]
   have:(kX g gone cut).length<=(bJ g.2.length).length:=List.length_filter_le ..
   have h2:(bJ g.2.length).length=g.2.length:=by simp[bJ]
   omega
 · obtain⟨i,hi,rfl⟩:=List.mem_map.1 he
   have:=(gu.1 hi).1
   exact m4 _ (bP this.1 this.2)
theorem hG(hm:bg g):fU g (cV g gone cut) gone (mu g gone cut):=by
 refine⟨hm,kK hm,rfl,λh hp=>⟨hp.1,hp.2.1⟩,λh hh hp=>?_,λS hS u v hc hu=>?_⟩
 · obtain⟨p1,p2,p3⟩:=hp
   have hin:=bP (xs:=g.2) (i:=h/2) (by have:=hh.1;omega) (by have:=hh.2;omega)
   have hok:=hm.2.2.2 _ hin
   have hk:h/2∈kX g gone cut:=by
     refine gu.2 ⟨⟨by have:=hh.1;omega,by have:=hh.2;omega⟩,?_⟩
     rcases gO (g:=g) hh.1 with⟨a,b⟩|⟨a,b⟩
     · rw[<-a,<-b];exact⟨p1,p2,p3⟩
     · rw[<-a,<-b];exact⟨p2,p1,p3⟩
   have he:gI g.2 (h/2)∈(cV g gone cut).2:=List.mem_map.2 ⟨_,hk,rfl⟩
   have hc:=Cn.edge he
   rcases gO (g:=g) hh.1 with⟨a,b⟩|⟨a,b⟩
   · rw[a,b];exact hc
   · rw[a,b];exact(Cn.eqv (cV g gone cut)).symm _ _ hok.1 hok.2 hc
 · refine(hc (λu v=>S u↔S v) ⟨λ_ _=>Iff.rfl,λ_ _ _ _ h=>h.symm,λ_ _ _ _ _ _ h1 h2=>h1.trans h2⟩ (λe he=>?_)).1 hu
   obtain⟨i,hi,rfl⟩:=List.mem_map.1 he
   obtain⟨⟨i0,i1⟩,k1,k2,k3⟩:=gu.1 hi
   have e0:(2*i)/2=i:=by omega
   have e1:(2*i+1)/2=i:=by omega
   have f0:aw g (2*i)=(gI g.2 i).1/\b6 g (2*i)=(gI g.2 i).2:=by
     unfold aw b6 pI
     rw[e0,show(2*i)%2=0 by omega];simp
   have f1:aw g (2*i+1)=(gI g.2 i).2/\b6 g (2*i+1)=(gI g.2 i).1:=by
     unfold aw b6 pI
     rw[e1,show(2*i+1)%2=1 by omega];simp
   constructor
   · have:=hS (2*i) ⟨by omega,by omega⟩ ⟨by rw[f0.1];exact k1,by rw[f0.2];exact k2,by rw[e0];exact k3⟩
     rw[f0.1,f0.2] at this;exact this
   · have:=hS (2*i+1) ⟨by omega,by omega⟩ ⟨by rw[f1.1];exact k2,by rw[f1.2];exact k1,by rw[e1];exact k3⟩
     rw[f1.1,f1.2] at this;exact this
theorem jx(hm:bg g):∃l,tM g (cV g gone cut) gone (b7 g gone cut) l g.1.toNat:=(hG hm).inv g.1.toNat (by have:=hm.1;omega)
theorem kx(hm:bg g):((b7 g gone cut).1.length:Int)=g.1/\0<=(b7 g gone cut).2/\(b7 g gone cut).2<=g.1:=by
 have h0:=hm.1
 obtain⟨l,h⟩:=jx (gone:=gone) (cut:=cut) hm
 have:=h.num
 have:=h.le
 exact⟨h.len,by omega,by omega⟩
end
end TL
namespace TL
section
variable{g g':bK}{gone cut:List Bool}{ps:Int->Prop}{c0 c todo:List Int}{n s v:Int}{k M q:Nat}
theorem kA{xs:List Bool}{i:Int}{P:Prop}(h:¬P->xs=[])(hn:¬P):¬gI xs i=true:=by
 rw[h hn];simp[gI]
theorem mG(hP:fU g g' gone ps)(h:c=(bz g' gone q).1/\n=(bz g' gone q).2)(hq:(q:Int)<=g.1):(c.length:Int)=g.1/\0<=n/\n<=q:=by
 obtain⟨rfl,rfl⟩:=h
 obtain⟨l,h⟩:=hP.inv q hq
 have:=h.num
 have:=h.le
 exact⟨h.len,by omega,by omega⟩
theorem dY.psg(hm:bg g)(h:dY g (cV g gone cut) (mu g gone cut) c0 c todo n s v k M)(hs:¬gI gone s=true)(hl:(k:Int)<(bL g v).length)(h1:¬gI gone (b6 g (gI (bL g v) (k:Int)))=true)(h2:¬gI cut (gI (bL g v) (k:Int)/2)=true):mu g gone cut (gI (bL g v) (k:Int)):=by
 have hf:=(cJ (bP (xs:=bL g v) (i:=(k:Int)) (by omega) hl)).2
 exact⟨by rw[hf];exact(hG hm).ng h.inv.sd h.vd h.vc hs,h1,h2⟩
theorem kL(hm:bg g)(hq:(q:Int)=g.1)(h:c=(bz (cV g gone cut) gone q).1/\n=(bz (cV g gone cut) gone q).2):c=(b7 g gone cut).1/\n=(b7 g gone cut).2:=by
 have:q=g.1.toNat:=by omega
 rw[this] at h;exact h
end
end TL
/-
  TlCls2: the steps of the walk keep what it relies on.
  By an AI agent.
-/
set_option linter.all false
namespace TL
variable{g:bK}{s:Bs}{fr:Fm}{path:List Int}{A B:Fm}{S:List Int}{v e b:Int}{pl lo by_:List Int}{la:List Bool}{ed bl:List Int}
theorem eI{h k:Int}(h0:0<=h)(k0:0<=k)(e:h/2=k/2):h=k\/h=dN k:=by
 unfold dN
 split<;>omega
theorem kf{pre P:List Int}{x:Int}(he:ed=pre++P)(hn:ed.Nodup)(hP:∀x∈ed,(0<=x/\x<(g.2.length:Int))/\gI la x=true):jN g la pre x↔jN g la ed x\/x∈P:=by
 subst he
 unfold jN
 constructor
 · rintro⟨a,c,d⟩
   by_cases k:x∈P
   · exact .inr k
   · exact .inl ⟨a,c,λj=>(List.mem_append.1 j).elim d k⟩
 · rintro(⟨a,c,d⟩|k)
   · exact⟨a,c,λj=>d (List.mem_append_left _ j)⟩
   · obtain⟨a,c⟩:=hP x (List.mem_append_right _ k)
     exact⟨a,c,λj=>(List.nodup_append.1 hn).2.2 x j x k rfl⟩
theorem r7{pre P:List Int}{c:Int}(he:ed=pre++P)(hn:ed.Nodup)(hP:∀x∈ed,(0<=x/\x<(g.2.length:Int))/\gI la x=true)(hbl:(bl.length:Int)=(g.2.length:Int))(hc:0<=c)
    (hr:∀e,jN g la ed e->0<=gI bl e/\gI bl e<c)(hb:∀b,0<=b->b<c->sb g la ed bl b)(hnew:(∀x,jN g la pre x->gI (P.foldl (λb e=>b.set e.toNat c) bl) x=c->x∈P)->(∀x,jN g la pre x->gI (P.foldl (λb e=>b.set e.toNat c) bl) x<=c)->sb g la pre (P.foldl (λb e=>b.set e.toNat c) bl) c):
    (∀e,jN g la pre e->0<=gI (P.foldl (λb e=>b.set e.toNat c) bl) e/\gI (P.foldl (λb e=>b.set e.toNat c) bl) e<c+1)/\∀b,0<=b->b<c+1->sb g la pre (P.foldl (λb e=>b.set e.toNat c) bl) b:=by
  have hg:∀x,0<=x->x<(g.2.length:Int)->gI (P.foldl (λb e=>b.set e.toNat c) bl) x=if x∈P then c else gI bl x:=λx a d=>oH c P bl x a (by omega) (λy hy=>by have:=(hP y (by rw[he];exact List.mem_append_right _ hy)).1;omega)
  have hnP:∀x,jN g la ed x->x∉P:=λx hx k=>hx.2.2 (by rw[he];exact List.mem_append_right _ k)
  have h1:∀e,jN g la pre e->0<=gI (P.foldl (λb e=>b.set e.toNat c) bl) e/\gI (P.foldl (λb e=>b.set e.toNat c) bl) e<c+1:=λe hx=>by
    rw[hg e hx.1.1 hx.1.2]
    rcases(kf he hn hP).1 hx with k|k
    · rw[if_neg (hnP e k)];have:=hr e k;omega
    · rw[if_pos k];omega
  refine⟨h1,λb b0 b1=>?_⟩
  by_cases k:b=c
  · rw[k]
    refine hnew (λx hx hxc=>?_) (λx hx=>by have:=h1 x hx;omega)
    rcases(kf he hn hP).1 hx with j|j
    · rw[hg x hx.1.1 hx.1.2,if_neg (hnP x j)] at hxc
      have:=hr x j;omega
    · exact j
  · refine(hb b b0 (by omega)).congr (λx hx hxb=>?_) (λx hx=>⟨(kf he hn hP).2 (.inl hx),by rw[hg x hx.1.1 hx.1.2,if_neg (hnP x hx)]⟩)
    rw[hg x hx.1.1 hx.1.2] at hxb
    by_cases j:x∈P
    · rw[if_pos j] at hxb;exact absurd hxb.symm k
    · rw[if_neg j] at hxb
      exact⟨((kf he hn hP).1 hx).resolve_right j,hxb⟩
theorem nX(e0:0<=e)(e1:e<(la.length:Int))(hl:¬gI la e=true)(h:sb g la ed bl b):sb g (la.set e.toNat true) (ed++[e]) bl b:=
  h.congr (λx hx hb=>⟨(j7 e0 e1 hl).1 hx,hb⟩) (λx hx=>⟨(j7 e0 e1 hl).2 hx,rfl⟩)
theorem qo.lay(h:qo g pl lo by_ la path A v S B)(e0:0<=e)(e1:e<(la.length:Int))(hm2:∀x:Int,hf g x->0<=x/2)(hw:∀h,hf g h->h/2=e->gI pl v<=gI pl (aw g h)->gI pl (b6 g h)<gI pl v->h/2≠gI by_ v/2->∃w∈v::B.map Prod.fst,gI lo w<=gI pl (b6 g h)):qo g pl lo by_ (la.set e.toNat true) path A v S B:=
  {h with
    l1:=λk hk hl a c d=>by
      by_cases q:k/2=e
      · exact hw k hk q a c d
      · rw[cS e0 e1 (hm2 k hk),if_neg q] at hl
        exact h.l1 k hk hl a c d
    l3:=λk=>by
      obtain⟨x,a,c,d⟩:=h.l3 k
      refine⟨x,a,?_,d⟩
      rw[cS e0 e1 (hm2 x a)]
      split
      · rfl
      · exact c}
theorem fM{x:Int}(h:hf g x):0<=x/2:=by have:=h.1;omega
theorem eP{x:Int}(h:hf g x):x/2<(g.2.length:Int):=by have:=h.2;omega
theorem sP(hf0:∀A v S B,fr=A++(v,S)::B->(A=[]/\S=[]/\gI by_ v= -1)\/(∃A' u U S',A=A'++[(u,U)]/\S=gI by_ v/2::S'/\aw g (gI by_ v)=u/\0<=gI by_ v))(hto:∀p∈fr,0<=gI by_ p.1->hf g (gI by_ p.1)/\b6 g (gI by_ p.1)=p.1):
    ∀(n:Nat) (A B:Fm),A.length=n->fr=A++B->∀x∈A.map Prod.fst,∀y∈A.map Prod.fst,Wy g (λz=>z∈A.map Prod.fst) x y:=by
  intro n
  induction n with
  |zero=>
    intro A B hl _ x hx
    rw[List.length_eq_zero_iff.1 hl] at hx;exact absurd hx List.not_mem_nil
  |succ n ih=>
    intro A B hl he x hx y hy
    obtain⟨A',p,rfl⟩:∃A' p,A=A'++[p]:=⟨A.dropLast,A.getLast (by intro k;rw[k] at hl;simp at hl),(List.dropLast_concat_getLast _).symm⟩
    have hl':A'.length=n:=by simpa using hl
    have he':fr=A'++p::B:=by rw[he];simp
    have ih':=ih A' (p::B) hl' he'
    have key:∀x∈(A'++[p]).map Prod.fst,Wy g (λz=>z∈(A'++[p]).map Prod.fst) x p.1:=by
      intro x hx
      have hp:p.1∈(A'++[p]).map Prod.fst:=by simp
      rw[List.map_append,List.mem_append] at hx
      rcases hx with hx|hx
      · rcases hf0 A' p.1 p.2 B he' with⟨q,_⟩|⟨A2,u,U,S',q1,_,q3,q4⟩
        · rw[q] at hx;exact absurd hx List.not_mem_nil
        · have hu:u∈A'.map Prod.fst:=by rw[q1];simp
          have hh:=hto p (by rw[he'];simp) q4
          have w1:=(ih' x hx u hu).mono (B:=λz=>z∈(A'++[p]).map Prod.fst) (λz hz=>by rw[List.map_append];exact List.mem_append_left _ hz)
          have w2:Wy g (λz=>z∈(A'++[p]).map Prod.fst) u p.1:=by
            have:=Wy.one (g:=g) (A:=λz=>z∈(A'++[p]).map Prod.fst) hh.1 (by rw[q3,List.map_append];exact List.mem_append_left _ hu) (by rw[hh.2];exact hp)
            rwa[q3,hh.2] at this
          exact w1.trans w2
      · have:x=p.1:=by simpa using hx
        rw[this];exact .refl hp
    exact(key x hx).trans (key y hy).symm
end TL
/-
  TlCls3: each step of the walk keeps what it relies on: a loop, an edge back.
  By an AI agent.
-/
set_option linter.all false
namespace TL
variable{g:bK}{s:Bs}{fr:Fm}{path:List Int}{A B A0:Fm}{S U:List Int}{u v w e b h:Int}{pl lo by_:List Int}{la:List Bool}{ed bl:List Int}
theorem fx.mem(hd:fx g s fr){p:Int×List Int}(hp:p∈fr):(0<=p.1/\p.1<g.1)/\gI s.place p.1≠0:=hd.se.pr _ (List.mem_map.2 ⟨p,hp,rfl⟩)
theorem fx.to(hd:fx g s fr):∀p∈fr,0<=gI s.by_ p.1->hf g (gI s.by_ p.1)/\b6 g (gI s.by_ p.1)=p.1:=λp hp h0=>by
 have h1:=(hd.mem hp).1
 rcases hd.se.by_ p.1 h1.1 h1.2 with k|⟨k,j,_⟩
 · omega
 · exact⟨k,j⟩
theorem fx.wy(hd:fx g s fr){A B:Fm}(he:fr=A++B):∀x∈A.map Prod.fst,∀y∈A.map Prod.fst,Wy g (λz=>z∈A.map Prod.fst) x y:=
 sP (λA v S B k=>(hd.fra A v S B k).own) hd.to A.length A B rfl he
theorem fx.el(hd:fx g s fr):∀p∈fr,∀e∈p.2,(0<=e/\e<(g.2.length:Int))/\gI s.laid e=true:=λp hp e he=>hd.se.el e (by
 rw[hd.stk];exact List.mem_flatten.2 ⟨p.2,List.mem_map.2 ⟨p,hp,rfl⟩,he⟩)
theorem fx.lot(hd:fx g s fr){k:Int}(hk:hf g k)(hl:gI s.laid (k/2)=true):gI s.place (b6 g k)≠0:=by
  obtain⟨t1,t2,t3,t4⟩:=dl (g:=g) hk
  have:=hd.lof _ t1 (by rw[t2];exact hl)
  rwa[t3] at this
theorem kZ{x y:Int}(h:gI pl x<gI pl y):x≠y:=λe=>by rw[e] at h;omega
theorem fL{X A:List (Int×List Int)}{a x:Int×List Int}{B:List (Int×List Int)}(h:X++[a]=A++x::B):(A=X/\x=a/\B=[])\/∃B0,X=A++x::B0/\B=B0++[a]:=by
 rcases List.eq_nil_or_concat B with k|⟨B0,y,k⟩
 · subst k
   have:=List.append_inj' h rfl
   exact .inl ⟨this.1.symm,by simpa using this.2.symm,rfl⟩
 · rw[List.concat_eq_append] at k
   subst k
   have h2:X++[a]=(A++x::B0)++[y]:=by rw[h];simp
   have:=List.append_inj' h2 rfl
   exact .inr ⟨B0,this.1,by rw[show a=y by simpa using this.2]⟩
theorem fx.nexts(hd:fx g s fr)(u0:0<=u)(u1:u<g.1)(hn:¬gI s.next u=((gI (am g) u).length:Int)):fx g {s with next:=s.next.set u.toNat (gI s.next u+1)} fr:=
 ⟨hd.se.nexts u0 u1 hn,hd.stk,hd.inj,hd.lof,hd.fra,hd.clr,hd.clb⟩
theorem fx.loop(hm:bg g)(hd:fx g s fr)(hh:hf g h)(hl:¬gI s.laid (h/2)=true)(hv:gI s.place (aw g h)≠0)(hw:b6 g h=aw g h)(hse:dS g (dE (gx s (h/2)) (h/2)) (fr.map Prod.fst)):fx g (dE (gx s (h/2)) (h/2)) fr:=by
  have e0:=fM hh
  have e1:=eP hh
  have hl5:=hd.se.l5
  obtain⟨hlay,hne⟩:=hd.se.lay e0 e1 hl
  have hen:(s.edges++[h/2]).Nodup:=hlay.en
  have hel:∀x∈s.edges++[h/2],(0<=x/\x<(g.2.length:Int))/\gI (s.laid.set (h/2).toNat true) x=true:=hlay.el
  rw[mY (s:=gx s (h/2)) (pre:=s.edges) (rest:=[]) (e:=h/2) rfl hen] at hse ⊢
  have hends:∀k,hf g k->k/2=h/2->aw g k=aw g h/\b6 g k=aw g h:=λk hk he=>by
    rcases eI hk.1 hh.1 he with q|q
    · rw[q];exact⟨rfl,hw⟩
    · obtain⟨_,_,t3,t4⟩:=dl (g:=g) hh
      rw[q,t3,t4];exact⟨hw,rfl⟩
  have hcl:=r7 (g:=g) (la:=s.laid.set (h/2).toNat true) (ed:=s.edges++[h/2]) (bl:=s.block) (pre:=s.edges) (P:=[h/2]) (c:=s.count) rfl hen hel hd.se.l6 hd.se.ct
    (λx hx=>hd.clr x ((j7 e0 (by omega) hl).1 hx)) (λb b0 b1=>nX e0 (by omega) hl (hd.clb b b0 b1)) (λhin _=>.inl ⟨h/2,by
      have hf1:(gI g.2 (h/2)).1=(gI g.2 (h/2)).2:=by
        have h1:=hw
        unfold b6 aw at h1
        have h2:h%2=0\/h%2=1:=by omega
        rcases h2 with q|q
        · rw[q] at h1;exact h1.symm
        · rw[q] at h1;exact h1
      exact hf1,λx hx hb=>List.mem_singleton.1 (hin x hx hb)⟩)
  refine⟨hse,hd.stk,hd.inj,λk hk hlk=>?_,λA v S B he=>(hd.fra A v S B he).lay e0 (by omega) (λ_=>fM) (λk hk hke a c _=>?_),hcl.1,hcl.2⟩
  · have hlk:gI (s.laid.set (h/2).toNat true) (k/2)=true:=hlk
    show gI s.place (aw g k)≠0
    by_cases q:k/2=h/2
    · rw[(hends k hk q).1];exact hv
    · rw[cS e0 (by omega) (fM hk),if_neg q] at hlk
      exact hd.lof k hk hlk
  · obtain⟨p,q⟩:=hends k hk hke
    rw[p] at a;rw[q] at c
    exfalso
    have a:gI s.place v<=gI s.place (aw g h):=a
    have c:gI s.place (aw g h)<gI s.place v:=c
    omega
theorem fx.back(hm:bg g)(hd:fx g s (A0++[(v,S)]))(hall:∀k,hf g k->gI s.place (aw g k)≠0->aw g k∉(A0++[(v,S)]).map Prod.fst->gI s.laid (k/2)=true)(hh:hf g h)(hv:aw g h=v)(hl:¬gI s.laid (h/2)=true)(hne:b6 g h≠v)(hw:gI s.place (b6 g h)≠0)
    (hse:dS g {gx s (h/2) with low:=s.low.set v.toNat (min (gI s.low v) (gI s.place (b6 g h)))} ((A0++[(v,S++[h/2])]).map Prod.fst)):
    fx g {gx s (h/2) with low:=s.low.set v.toNat (min (gI s.low v) (gI s.place (b6 g h)))} (A0++[(v,S++[h/2])]):=by
  have e0:=fM hh
  have e1:=eP hh
  have hl5:=hd.se.l5
  have hl2:=hd.se.l2
  have hvm:=hd.mem (p:=(v,S)) (by simp)
  have hlast:=hd.fra A0 v S [] rfl
  obtain⟨t1,t2,t3,t4⟩:=dl (g:=g) hh
  -- the other end is on the path, ahead
  have hwp:b6 g h∈A0.map Prod.fst:=by
    by_cases c:b6 g h∈(A0++[(v,S)]).map Prod.fst
    · rw[List.map_append,List.mem_append] at c
      exact c.resolve_right (λk=>hne (by simpa using k))
    · exfalso
      have:=hall _ t1 (by rw[t3];exact hw) (by rw[t3];exact c)
      rw[t2] at this;exact hl this
  have hpw:gI s.place (b6 g h)<gI s.place v:=by
    obtain⟨p,hp,e⟩:=List.mem_map.1 hwp
    rw[<-e];exact hlast.asc p hp
  have hlo:∀x,0<=x->gI (s.low.set v.toNat (min (gI s.low v) (gI s.place (b6 g h)))) x=if x=v then min (gI s.low v) (gI s.place (b6 g h)) else gI s.low x:=λx a=>bY hvm.1.1 (by omega) a
  have hlv:gI (s.low.set v.toNat (min (gI s.low v) (gI s.place (b6 g h)))) v=min (gI s.low v) (gI s.place (b6 g h)):=by rw[hlo v hvm.1.1,if_pos rfl]
  have hle:∀x,0<=x->gI (s.low.set v.toNat (min (gI s.low v) (gI s.place (b6 g h)))) x<=gI s.low x:=λx a=>by
    rw[hlo x a];split
    · rename_i k;rw[k];omega
    · omega
  have hends:∀k,hf g k->k/2=h/2->(aw g k=v/\b6 g k=b6 g h)\/(aw g k=b6 g h/\b6 g k=v):=λk hk he=>by
    rcases eI hk.1 hh.1 he with q|q
    · rw[q];exact .inl ⟨hv,rfl⟩
    · rw[q,t3,t4];exact .inr ⟨rfl,hv⟩
  have hmap:(A0++[(v,S++[h/2])]).map Prod.fst=(A0++[(v,S)]).map Prod.fst:=by simp
  -- the edge belongs to the edge by which v was found
  have hrel:∃A' q Q S',A0=A'++[(q,Q)]/\S=gI s.by_ v/2::S'/\aw g (gI s.by_ v)=q/\0<=gI s.by_ v:=by
    rcases hlast.own with⟨k,_⟩|k
    · rw[k] at hwp;exact absurd hwp List.not_mem_nil
    · exact k
  obtain⟨A',q,Q,S',ha1,ha2,ha3,ha4⟩:=hrel
  have hbv:=hd.to (v,S) (by simp) ha4
  have hvA:v∉A0.map Prod.fst:=λk=>by
    obtain⟨p,hp,e⟩:=List.mem_map.1 k
    have:=hlast.asc p hp
    rw[e] at this;omega
  have hqA:q∈A0.map Prod.fst:=by rw[ha1];simp
  have heq:EqB g (h/2) (gI s.by_ v/2):=by
    obtain⟨b1,b2,b3,b4⟩:=dl (g:=g) hbv.1
    refine .rel ⟨h,dN (gI s.by_ v),hh,b1,rfl,b2,?_,?_,?_,?_⟩
    · rw[b3,hbv.2,hv]
    · rw[hv];exact hne
    · rw[b4,b3,hbv.2,ha3];exact λk=>hvA (by have k:q=v:=k;rw[<-k];exact hqA)
    · rw[b4,ha3,hv]
      exact(hd.wy (A:=A0) (B:=[(v,S)]) rfl _ hwp _ hqA).mono (λz hz k=>hvA (by rw[<-k];exact hz))
  have hclo:∀x,jN g (s.laid.set (h/2).toNat true) (s.edges++[h/2]) x↔jN g s.laid s.edges x:=λx=>j7 e0 (by omega) hl
  refine⟨hse,?_,hd.inj,λk hk hlk=>?_,λA x Sx B he=>?_,λx hx=>hd.clr x ((hclo x).1 hx),λb b0 b1=>nX e0 (by omega) hl (hd.clb b b0 b1)⟩
  · show s.edges++[h/2]=_
    rw[hd.stk];simp
  · have hlk:gI (s.laid.set (h/2).toNat true) (k/2)=true:=hlk
    show gI s.place (aw g k)≠0
    by_cases c:k/2=h/2
    · rcases hends k hk c with⟨r,_⟩|⟨r,_⟩
      · rw[r];exact hvm.2
      · rw[r];exact hw
    · rw[cS e0 (by omega) (fM hk),if_neg c] at hlk
      exact hd.lof k hk hlk
  · rw[hmap]
    rcases fL he with⟨k1,k2,k3⟩|⟨B0,k1,k2⟩
    · -- the last one
      obtain⟨rfl,rfl⟩:x=v/\Sx=S++[h/2]:=by simpa using k2
      subst k1 k3
      refine {hlast with own:=.inr ⟨A',q,Q,S'++[h/2],ha1,by rw[ha2];rfl,ha3,ha4⟩,eqb:=λy hy=>?_,end_:=λy hy=>?_,l1:=λk hk hlk a c d=>?_,l2:=?_,l3:=λhlt=>?_}
      · rcases List.mem_append.1 hy with j|j
        · exact hlast.eqb y j
        · rw[List.mem_singleton.1 j];exact heq
      · rcases List.mem_append.1 hy with j|j
        · exact hlast.end_ y j
        · exact⟨h,hh,(List.mem_singleton.1 j).symm,by rw[hv];exact Int.le_refl _⟩
      · have hlk:gI (s.laid.set (h/2).toNat true) (k/2)=true:=hlk
        have a:gI s.place x<=gI s.place (aw g k):=a
        have c:gI s.place (b6 g k)<gI s.place x:=c
        refine⟨x,by simp,?_⟩
        show gI (s.low.set x.toNat _) x<=gI s.place (b6 g k)
        rw[hlv]
        by_cases j:k/2=h/2
        · rcases hends k hk j with⟨r,r2⟩|⟨r,r2⟩
          · rw[r2];omega
          · rw[r2] at c;omega
        · rw[cS e0 (by omega) (fM hk),if_neg j] at hlk
          obtain⟨y,hy,hy2⟩:=hlast.l1 k hk hlk a c d
          have:y=x:=by simpa using hy
          rw[this] at hy2;omega
      · show gI (s.low.set x.toNat _) x<=gI s.place x
        rw[hlv];have:=hlast.l2;omega
      · have hlt:gI (s.low.set x.toNat (min (gI s.low x) (gI s.place (b6 g h)))) x<gI s.place x:=hlt
        show∃k,hf g k/\gI (s.laid.set (h/2).toNat true) (k/2)=true/\gI s.place x<=gI s.place (aw g k)/\gI s.place (b6 g k)=gI (s.low.set x.toNat _) x
        rw[hlv] at hlt ⊢
        by_cases j:gI s.place (b6 g h)<=gI s.low x
        · refine⟨h,hh,?_,by rw[hv];exact Int.le_refl _,by omega⟩
          rw[cS e0 (by omega) e0,if_pos rfl]
        · obtain⟨k,c1,c2,c3,c4⟩:=hlast.l3 (by omega)
          refine⟨k,c1,?_,c3,by omega⟩
          rw[cS e0 (by omega) (fM c1)];split
          · rfl
          · exact c2
    · -- one ahead of it
      have hold:=hd.fra A x Sx (B0++[(v,S)]) (by rw[k1];simp)
      have hx:=hd.mem (p:=(x,Sx)) (by rw[k1];simp)
      have hxv:gI s.place x<gI s.place v:=hlast.asc (x,Sx) (by rw[k1];simp)
      have hxne:x≠v:=kZ hxv
      have hlx:gI (s.low.set v.toNat (min (gI s.low v) (gI s.place (b6 g h)))) x=gI s.low x:=by rw[hlo x hx.1.1,if_neg hxne]
      subst k2
      refine {hold with l1:=λk hk hlk a c d=>?_,l2:=?_,l3:=λhlt=>?_}
      · have hlk:gI (s.laid.set (h/2).toNat true) (k/2)=true:=hlk
        have a:gI s.place x<=gI s.place (aw g k):=a
        have c:gI s.place (b6 g k)<gI s.place x:=c
        show∃y∈x::(B0++[(v,S++[h/2])]).map Prod.fst,gI (s.low.set v.toNat _) y<=gI s.place (b6 g k)
        by_cases j:k/2=h/2
        · rcases hends k hk j with⟨r,r2⟩|⟨r,r2⟩
          · exact⟨v,by simp,by rw[hlv,r2];omega⟩
          · rw[r2] at c;omega
        · rw[cS e0 (by omega) (fM hk),if_neg j] at hlk
          obtain⟨y,hy,hy2⟩:=hold.l1 k hk hlk a c d
          refine⟨y,by simpa using hy,?_⟩
          have hy0:0<=y:=by
            have:y∈(A0++[(v,S)]).map Prod.fst:=by
              rw[k1]
              simp only[List.map_append,List.map_cons,List.mem_append,List.mem_cons] at hy ⊢
              rcases hy with q|q|q|q
              · exact .inl (.inr (.inl q))
              · exact .inl (.inr (.inr q))
              · exact .inr (.inl q)
              · exact absurd q List.not_mem_nil
            exact(hd.se.pr y this).1.1
          have:=hle y hy0
          omega
      · show gI (s.low.set v.toNat _) x<=gI s.place x
        rw[hlx];exact hold.l2
      · have hlt:gI (s.low.set v.toNat (min (gI s.low v) (gI s.place (b6 g h)))) x<gI s.place x:=hlt
        show∃k,hf g k/\gI (s.laid.set (h/2).toNat true) (k/2)=true/\gI s.place x<=gI s.place (aw g k)/\gI s.place (b6 g k)=gI (s.low.set v.toNat _) x
        rw[hlx] at hlt ⊢
        obtain⟨k,c1,c2,c3,c4⟩:=hold.l3 hlt
        refine⟨k,c1,?_,c3,c4⟩
        rw[cS e0 (by omega) (fM c1)];split
        · rfl
        · exact c2
end TL
/-
  TlCls4: each step of the walk keeps what it relies on: a node found, a node left.
  By an AI agent.
-/
set_option linter.all false
namespace TL
variable{g:bK}{s:Bs}{fr:Fm}{path:List Int}{A B A0:Fm}{S U:List Int}{u v w e b h:Int}
theorem fx.new(hm:bg g)(hd:fx g s (A0++[(v,S)]))(hall:∀k,hf g k->gI s.place (aw g k)≠0->aw g k∉(A0++[(v,S)]).map Prod.fst->gI s.laid (k/2)=true)(hh:hf g h)(hv:aw g h=v)(hl:¬gI s.laid (h/2)=true)(hw:gI s.place (b6 g h)=0)
    (hse:dS g (f4 {gx s (h/2) with by_:=s.by_.set (b6 g h).toNat h} (b6 g h)) ((A0++[(v,S)]++[(b6 g h,[h/2])]).map Prod.fst)):
    fx g (f4 {gx s (h/2) with by_:=s.by_.set (b6 g h).toNat h} (b6 g h)) (A0++[(v,S)]++[(b6 g h,[h/2])]):=by
  have e0:=fM hh
  have e1:=eP hh
  have hl5:=hd.se.l5
  have hl1:=hd.se.l1
  have hl2:=hd.se.l2
  have hl3:=hd.se.l3
  have hf0:=hd.se.f0
  obtain⟨w0,w1⟩:=di hm hh
  have hvm:=hd.mem (p:=(v,S)) (by simp)
  have hlast:=hd.fra A0 v S [] rfl
  obtain⟨t1,t2,t3,t4⟩:=dl (g:=g) hh
  generalize hwe:b6 g h=w at*
  have hpl:∀x,0<=x->gI (s.place.set w.toNat (s.found+1)) x=if x=w then s.found+1 else gI s.place x:=λx a=>bY w0 (by omega) a
  have hlo:∀x,0<=x->gI (s.low.set w.toNat (s.found+1)) x=if x=w then s.found+1 else gI s.low x:=λx a=>bY w0 (by omega) a
  have hby:∀x,0<=x->gI (s.by_.set w.toNat h) x=if x=w then h else gI s.by_ x:=λx a=>bY w0 (by omega) a
  have hla:∀x,0<=x->gI (s.laid.set (h/2).toNat true) x=if x=h/2 then true else gI s.laid x:=λx a=>cS e0 (by omega) a
  have hfd:∀x,0<=x->gI s.place x≠0->gI (s.place.set w.toNat (s.found+1)) x=gI s.place x:=λx a c=>by
    rw[hpl x a,if_neg (λk=>c (by rw[k];exact hw))]
  have hub:∀x,0<=x->x<g.1->gI s.place x<=s.found:=λx a c=>(hd.se.pl x a c).2
  have hge:∀x,0<=x->x<g.1->gI s.place x<=gI (s.place.set w.toNat (s.found+1)) x:=λx a c=>by
    rw[hpl x a];have:=hub x a c;split<;>omega
  have hends:∀k,hf g k->k/2=h/2->(aw g k=v/\b6 g k=w)\/(aw g k=w/\b6 g k=v):=λk hk he=>by
    rcases eI hk.1 hh.1 he with q|q
    · rw[q];exact .inl ⟨hv,hwe⟩
    · rw[q,t3,t4];exact .inr ⟨rfl,hv⟩
  have hlaf:∀k,hf g k->gI (s.laid.set (h/2).toNat true) (k/2)=true->k/2≠h/2->gI s.laid (k/2)=true:=λk hk hlk j=>by
    rw[hla _ (fM hk),if_neg j] at hlk;exact hlk
  have hlam:∀k,hf g k->gI s.laid (k/2)=true->gI (s.laid.set (h/2).toNat true) (k/2)=true:=λk hk hlk=>by
    rw[hla _ (fM hk)];split
    · rfl
    · exact hlk
  have hvf:=hfd v hvm.1.1 hvm.2
  -- a done node's other ends are found
  have hdone:∀k,hf g k->gI s.place (aw g k)≠0->aw g k∉(A0++[(v,S)]).map Prod.fst->gI s.place (b6 g k)≠0:=λk hk a c=>hd.lot hk (hall k hk a c)
  have hwpath:w∉(A0++[(v,S)]).map Prod.fst:=λk=>(hd.se.pr w k).2 hw
  -- the stack's edges are laid
  have hstk:∀p∈A0++[(v,S)],∀e∈p.2,∀k,hf g k->k/2=e->gI s.place (aw g k)≠0:=λp hp e he k hk hke=>hd.lof k hk (by rw[hke];exact(hd.el p hp e he).2)
  refine⟨hse,?_,λx y x0 x1 y0 y1 hx hxy=>?_,λk hk hlk=>?_,λA x Sx B he=>?_,λx hx=>hd.clr x ((j7 e0 (by omega) hl).1 hx),λb b0 b1=>nX e0 (by omega) hl (hd.clb b b0 b1)⟩
  · show s.edges++[h/2]=_
    rw[hd.stk];simp
  · have hx:gI (s.place.set w.toNat (s.found+1)) x≠0:=hx
    have hxy:gI (s.place.set w.toNat (s.found+1)) x=gI (s.place.set w.toNat (s.found+1)) y:=hxy
    rw[hpl x x0,hpl y y0] at hxy
    rw[hpl x x0] at hx
    have h1:=hub x x0 x1
    have h2:=hub y y0 y1
    by_cases c1:x=w
    · by_cases c2:y=w
      · rw[c1,c2]
      · rw[if_pos c1,if_neg c2] at hxy;omega
    · by_cases c2:y=w
      · rw[if_neg c1,if_pos c2] at hxy;omega
      · rw[if_neg c1,if_neg c2] at hxy
        rw[if_neg c1] at hx
        exact hd.inj x y x0 x1 y0 y1 hx hxy
  · have hlk:gI (s.laid.set (h/2).toNat true) (k/2)=true:=hlk
    show gI (s.place.set w.toNat (s.found+1)) (aw g k)≠0
    obtain⟨f0,f1⟩:=c8 hm hk
    by_cases c:k/2=h/2
    · rcases hends k hk c with⟨r,_⟩|⟨r,_⟩
      · rw[r,hvf];exact hvm.2
      · rw[r,hpl w w0,if_pos rfl];omega
    · have:=hd.lof k hk (hlaf k hk hlk c)
      rw[hfd _ f0 this];exact this
  · show qo g (s.place.set w.toNat (s.found+1)) (s.low.set w.toNat (s.found+1)) (s.by_.set w.toNat h) (s.laid.set (h/2).toNat true) _ A x Sx B
    rcases fL he with⟨k1,k2,k3⟩|⟨B0,k1,k2⟩
    · obtain⟨rfl,rfl⟩:x=w/\Sx=[h/2]:=by simpa using k2
      subst k1 k3
      have hxp:gI (s.place.set x.toNat (s.found+1)) x=s.found+1:=by rw[hpl x w0,if_pos rfl]
      have hxb:gI (s.by_.set x.toNat h) x=h:=by rw[hby x w0,if_pos rfl]
      refine⟨.inr ⟨A0,v,S,[],rfl,by rw[hxb],by rw[hxb];exact hv,by rw[hxb];exact hh.1⟩,λp hp=>?_,λy hy=>?_,λy hy=>?_,λp hp y hy k hk hke=>?_,λk hk a c d=>?_,λy y0 y1 hy=>?_,λk hk hlk a c d=>?_,?_,λhlt=>?_⟩
      · have:=hd.mem hp
        rw[hxp,hfd _ this.1.1 this.2];have:=hub _ this.1.1 this.1.2;omega
      · rw[List.mem_singleton.1 hy,hxb];exact .refl _
      · refine⟨dN h,t1,by rw[t2];exact(List.mem_singleton.1 hy).symm,?_⟩
        rw[t3];exact Int.le_refl _
      · have h1:=hstk p hp y hy k hk hke
        obtain⟨f0,f1⟩:=c8 hm hk
        rw[hxp,hfd _ f0 h1];have:=hub _ f0 f1;omega
      · obtain⟨f0,f1⟩:=c8 hm hk
        obtain⟨q0,q1⟩:=di hm hk
        have hne:aw g k≠x:=λj=>c (by rw[j];simp)
        rw[hpl _ f0,if_neg hne] at a
        have h1:=hdone k hk a (λj=>c (by rw[List.map_append];exact List.mem_append_left _ j))
        rw[hxp,hfd _ q0 h1];have:=hub _ q0 q1;omega
      · rw[hxp,hpl y y0] at hy
        have:y=x:=by
          by_cases c:y=x
          · exact c
          · rw[if_neg c] at hy;have:=hub y y0 y1;omega
        subst this
        exact .refl ⟨⟨w0,w1⟩,Int.le_refl _⟩
      · obtain⟨f0,f1⟩:=c8 hm hk
        rw[hxp,hpl _ f0] at a
        have hfx:aw g k=x:=by
          by_cases j:aw g k=x
          · exact j
          · rw[if_neg j] at a;have:=hub _ f0 f1;omega
        exfalso
        rw[hxb] at d
        exact hd.lof k hk (hlaf k hk hlk d) (by rw[hfx];exact hw)
      · rw[hxp,hlo x w0,if_pos rfl];exact Int.le_refl _
      · rw[hxp,hlo x w0,if_pos rfl] at hlt;omega
    · have hold:=hd.fra A x Sx B0 k1
      have hx:=hd.mem (p:=(x,Sx)) (by rw[k1];simp)
      have hxne:x≠w:=λk=>hx.2 (by rw[k];exact hw)
      have hxp:gI (s.place.set w.toNat (s.found+1)) x=gI s.place x:=hfd x hx.1.1 hx.2
      have hxl:gI (s.low.set w.toNat (s.found+1)) x=gI s.low x:=by rw[hlo x hx.1.1,if_neg hxne]
      have hxb:gI (s.by_.set w.toNat h) x=gI s.by_ x:=by rw[hby x hx.1.1,if_neg hxne]
      have hxv:gI s.place x<=gI s.place v:=by
        rcases fL k1 with⟨_,j,_⟩|⟨B1,j,_⟩
        · have:x=v:=by have:=congrArg Prod.fst j;exact this
          rw[this];exact Int.le_refl _
        · have:=hlast.asc (x,Sx) (by rw[j];simp)
          exact Int.le_of_lt this
      have hinA:∀p∈A,p∈A0++[(v,S)]:=λp hp=>by rw[k1];exact List.mem_append_left _ hp
      subst k2
      refine⟨?_,λp hp=>?_,λy hy=>?_,λy hy=>?_,λp hp y hy k hk hke=>?_,λk hk a c d=>?_,λy y0 y1 hy=>?_,λk hk hlk a c d=>?_,?_,λhlt=>?_⟩
      · rw[hxb];exact hold.own
      · have:=hd.mem (hinA p hp)
        rw[hxp,hfd _ this.1.1 this.2];exact hold.asc p hp
      · rw[hxb];exact hold.eqb y hy
      · obtain⟨k,c1,c2,c3⟩:=hold.end_ y hy
        obtain⟨f0,f1⟩:=c8 hm c1
        exact⟨k,c1,c2,by rw[hxp];exact Int.le_trans c3 (hge _ f0 f1)⟩
      · have h1:=hstk p (hinA p hp) y hy k hk hke
        rw[hxp,hfd _ (c8 hm hk).1 h1];exact hold.low p hp y hy k hk hke
      · obtain⟨f0,f1⟩:=c8 hm hk
        have hne:aw g k≠w:=λj=>c (by rw[j];simp)
        rw[hpl _ f0,if_neg hne] at a
        have hnp:aw g k∉(A0++[(v,S)]).map Prod.fst:=λj=>c (by rw[List.map_append];exact List.mem_append_left _ j)
        have h1:=hdone k hk a hnp
        rw[hxp,hfd _ f0 a] at d
        rw[hxp,hfd _ (di hm hk).1 h1]
        exact hold.cross k hk a hnp d
      · rw[hxp]
        by_cases c:y=w
        · subst c
          have h1:=(hold.conn v hvm.1.1 hvm.1.2 hxv).mono (B:=λz=>(0<=z/\z<g.1)/\gI s.place x<=gI (s.place.set y.toNat (s.found+1)) z) (λz hz=>⟨hz.1,Int.le_trans hz.2 (hge z hz.1.1 hz.1.2)⟩)
          have h2:(0<=y/\y<g.1)/\gI s.place x<=gI (s.place.set y.toNat (s.found+1)) y:=⟨⟨w0,w1⟩,by rw[hpl y w0,if_pos rfl];have:=hub x hx.1.1 hx.1.2;omega⟩
          have h3:=Wy.one (g:=g) (A:=λz=>(0<=z/\z<g.1)/\gI s.place x<=gI (s.place.set y.toNat (s.found+1)) z) hh (by rw[hv];exact h1.right) (by rw[hwe];exact h2)
          rw[hv,hwe] at h3
          exact h1.trans h3
        · rw[hxp,hpl y y0,if_neg c] at hy
          exact(hold.conn y y0 y1 hy).mono (λz hz=>⟨hz.1,Int.le_trans hz.2 (hge z hz.1.1 hz.1.2)⟩)
      · obtain⟨f0,f1⟩:=c8 hm hk
        obtain⟨q0,q1⟩:=di hm hk
        by_cases j:k/2=h/2
        · exfalso
          rcases hends k hk j with⟨r,r2⟩|⟨r,r2⟩
          · rw[r2,hxp,hpl w w0,if_pos rfl] at c;have:=hub x hx.1.1 hx.1.2;omega
          · rw[r2,hxp,hvf] at c;omega
        · have hlk':=hlaf k hk hlk j
          have h1:=hd.lof k hk hlk'
          have h2:=hd.lot hk hlk'
          rw[hxp,hfd _ f0 h1] at a
          rw[hxp,hfd _ q0 h2] at c
          rw[hxb] at d
          obtain⟨y,hy,hy2⟩:=hold.l1 k hk hlk' a c d
          have hyp:y∈(A0++[(v,S)]).map Prod.fst:=by
            rw[k1];simp only[List.map_append,List.map_cons,List.mem_append];exact .inr hy
          have hym:=hd.se.pr y hyp
          refine⟨y,?_,?_⟩
          · simp only[List.map_append,List.mem_cons,List.mem_append] at hy ⊢
            rcases hy with r|r
            · exact .inl r
            · exact .inr (.inl r)
          · rw[hlo y hym.1.1,if_neg (λr=>hym.2 (by rw[r];exact hw)),hfd _ q0 h2];exact hy2
      · rw[hxl,hxp];exact hold.l2
      · rw[hxl,hxp] at hlt
        obtain⟨k,c1,c2,c3,c4⟩:=hold.l3 hlt
        have h2:=hd.lot c1 c2
        exact⟨k,c1,hlam k c1 c2,by rw[hxp,hfd _ (c8 hm c1).1 (hd.lof k c1 c2)];exact c3,by rw[hxl,hfd _ (di hm c1).1 h2];exact c4⟩
end TL
