/- Plain texts of this claim, part 1. By an AI agent. -/
import Derived.Test.YtbpphaeianpdpaaPqTlP0
import Derived.Laws.Externs
import Derived.Laws.FloatArith
import Derived.Laws.FloatBits
import Derived.Laws.NewFold
import Derived.Laws.StructEq
import Derived.OrdersHeld
/-
  TlHold: regions that draw their order, where what is read stays: on the kit's OrdersHeld.
  By an AI agent.
-/
set_option linter.all false
namespace TL
open Go
section
variable{P:Program}{n:Nat}{l:List Oper}{S:World->Prop}{K:Fr->World->Prop}{f:Fr}{w:World}{done:List Nat}{fuel:Nat}
def kk(P:Program)(n:Nat)(l:List Oper)(S:World->Prop)(K:Fr->World->Prop)(fuel:Nat)(done:List Nat)(f:Fr)(w:World):Prop:=
  ∀a,Ag n a f->wpAnyH P .any l.toArray (λe a' w'=>e= .normal/\∃f',Ag n a' f'/\K f' w') S fuel (aT l.length done) a w
theorem aQ.same{J:bm->Prop}{γ γ':ar}{w w':World}(h:aQ J γ w γ' w'):aQ J γ w γ w':=⟨h.os,h.tape,h.output,h.size,λ_ _ _=>rfl,h.keep,h.drawn⟩
theorem cv{fid:Nat}{R:Ending->World->Prop}{k:List Item}{id:Nat}(γ:ar)(J:bm->Prop)(hm:P.follows .mixedOrders=true)
   (h:∀w1,aQ no γ w γ w1->kk P n l (λw'=>aQ J γ w1 γ w') (cu P fid n R k) l.length [] f w1):cu P fid n R (.code (.region id l.toArray true)::k) f w:=
 dT λa ha=>wp_region_held hm (by
   have h0:=h _ (aQ.refl _ _ _).drew a ha
   have hmask:aT l.length []=Array.replicate l.toArray.size false:=by
     apply Array.ext
     · simp[aT]
     · intro j h1 h2;simp[aT]
   rw[hmask] at h0
   simpa using h0)
theorem iG{fid:Nat}{R:Ending->World->Prop}{k:List Item}{id:Nat}{σ:Type}(Mid:σ->Fr->World->Prop)(γ:ar)(J:bm->Prop)(hm:P.follows .mixedOrders=true)
    (h:(∀s f w,Mid s f w->cu P fid n R k f w)->∀w1,aQ no γ w γ w1->kk P n l (λw'=>aQ J γ w1 γ w') (cu P fid n R k) l.length [] f w1)(hk:∀s f w,Mid s f w->cu P fid n R k f w):cu P fid n R (.code (.region id l.toArray true)::k) f w:=
  cv γ J hm (h hk)
variable{dst:Option Tmp}{op:Op}{ty:TypeId}{pos:String}{after:Array Edge}{g:Option (Nat×Bool)}{v:Value}
theorem oG(i:Nat)(hi:l[i]? =some ⟨dst,op,ty,pos,after,g⟩)(hn:da l=true)(hc:(cP l done i&&e8 l done i&&ft n ⟨dst,op,ty,pos,after,g⟩)=true)
   (hw:bi l ⟨dst,op,ty,pos,after,g⟩ f=true)(hS:S w)(h:∀w,S w->(execOp (ev f) ⟨dst,op,ty,pos,after,g⟩).run P w= .ok (.value v) w)(hk:kk P n l S K fuel (i::done) (cW f dst v) w):kk P n l S K (fuel+1) done f w:=by
 simp only[Bool.and_eq_true] at hc
 obtain⟨⟨hr,hf⟩,hd⟩:=hc
 obtain⟨hlt,hr'⟩:=cJ hr
 intro a ha
 refine wpAnyH_first (v:=v) (by simpa using hi) (ew hn) (λc a w h=>by cases h.1) fuel _ a w (d9 hi hf) hr' (.inl ⟨by rw[ha.yielded];exact hw,λw hs=>by rw[ha.eval];exact h w hs⟩) hS ?_
 rw[bs done hlt]
 exact hk _ (ha.put hd v)
def ox(P:Program)(n:Nat)(l:List Oper)(S:World->Prop)(K:Fr->World->Prop)(fuel:Nat)(done:List Nat)(f:Fr)(w:World)(i:Nat):Prop:=
  ∃o,l[i]? =some o/\i<l.length/\(bi l o f=true/\ft n o=true/\dv P o f w (λv w'=>S w'/\kk P n l S K fuel (i::done) (cW f o.dst v) w'))
theorem kx(i:Nat)(hi:l[i]? =some ⟨dst,op,ty,pos,after,g⟩)(hc:ft n ⟨dst,op,ty,pos,after,g⟩=true)(hw:bi l ⟨dst,op,ty,pos,after,g⟩ f=true)
   (h:dv P ⟨dst,op,ty,pos,after,g⟩ f w (λv w'=>S w'/\kk P n l S K fuel (i::done) (cW f dst v) w')):ox P n l S K fuel done f w i:=
 ⟨_,hi,(List.getElem?_eq_some_iff.1 hi).1,hw,hc,h⟩
def m6(P:Program)(n:Nat)(l:List Oper)(S:World->Prop)(K:Fr->World->Prop)(fuel:Nat)(done:List Nat)(f:Fr)(w:World):List Nat->Prop
 |[]=>True
 |i::r=>ox P n l S K fuel done f w i/\m6 P n l S K fuel done f w r
theorem m6.mem{L:List Nat}(h:m6 P n l S K fuel done f w L):∀i∈L,ox P n l S K fuel done f w i:=by
 induction L with
 |nil=>intro i hi;cases hi
 |cons j r ih=>
   intro i hi
   rcases List.mem_cons.1 hi with rfl|hi
   · exact h.1
   · exact ih h.2 i hi
theorem jc(i:Nat)(L:List Nat)(hr:decide (Region.ready .any l.toArray (aT l.length done)=i::L)=true)(h:m6 P n l S K fuel done f w (i::L)):kk P n l S K (fuel+1) done f w:=by
 have hr:=of_decide_eq_true hr
 intro a ha
 refine⟨λh0=>(by rw[hr] at h0;cases h0),λk hk=>?_⟩
 rw[hr] at hk
 obtain⟨o,hi,hlt,hw,hd,ho⟩:=h.mem k (by simpa using hk)
 obtain⟨dst,op,ty,pos,after,g⟩:=o
 refine cr ha hi hw ho λv w' hk=>⟨hk.1,?_⟩
 rw[bs done hlt]
 exact hk.2 _ (ha.put hd v)
theorem cl(i:Nat)(hi:l[i]? =some ⟨dst,op,ty,pos,after,g⟩)(hc:(decide (Region.ready .any l.toArray (aT l.length done)=[i])&&ft n ⟨dst,op,ty,pos,after,g⟩)=true)
   (hw:bi l ⟨dst,op,ty,pos,after,g⟩ f=true)(h:dv P ⟨dst,op,ty,pos,after,g⟩ f w (λv w'=>S w'/\kk P n l S K fuel (i::done) (cW f dst v) w')):kk P n l S K (fuel+1) done f w:=by
 simp only[Bool.and_eq_true] at hc
 exact jc i [] hc.1 ⟨kx i hi hc.2 hw h,trivial⟩
theorem gc(hr:decide (Region.ready .any l.toArray (aT l.length done)=[])=true)(h:K f w):kk P n l S K 0 done f w:=λ_ ha=>⟨of_decide_eq_true hr,rfl,f,ha,h⟩
end
end TL
namespace TL
open Go
end TL
/-
  TlNet: nets, and what layer 3 says of them, as plain functions.
  By an AI agent.
-/
set_option linter.all false
namespace TL
abbrev aE:=Int×List (Int×Int)
def ij(n:Int)(e:Int×Int):Prop:=(0<=e.1/\e.1<n)/\0<=e.2/\e.2<n
instance (n:Int)(e:Int×Int):Decidable (ij n e):=by unfold ij;infer_instance
def bo(g:aE):Prop:=0<=g.1/\g.1<=1024/\g.2.length<=3072/\∀e∈g.2,ij g.1 e
instance (g:aE):Decidable (bo g):=by unfold bo;infer_instance
def bW(g:aE):Bool:=decide (bo g)
theorem gx{g:aE}(h:bo g):bW g=true:=decide_eq_true h
theorem aZ{g:aE}(h:¬bo g):bW g=false:=decide_eq_false h
end TL
namespace TL
theorem ju{α:Type}[Inhabited α]{xs:List α}{k:Nat}(h:(k:Int)<xs.length):xs.drop k=gI xs k::xs.drop (k+1):=by
 have h':k<xs.length:=by omega
 rw[List.drop_eq_getElem_cons h']
 simp[gI,h']
theorem bE{α:Type}[Inhabited α]{xs:List α}{i j:Int}{y:α}(hi:0<=i)(hi':i<xs.length)(hj:0<=j):gI (xs.set i.toNat y) j=if j=i then y else gI xs j:=by
 unfold gI
 by_cases h:j=i
 · subst h
   have:j.toNat<xs.length:=by omega
   simp[this]
 · have:i.toNat≠j.toNat:=by omega
   simp[h,List.getElem?_set_ne this]
theorem om{α:Type}[Inhabited α]{n:Nat}{x:α}{i:Int}(h0:0<=i)(h1:i<n):gI (List.replicate n x) i=x:=by
 have:i.toNat<n:=by omega
 simp[gI,this]
end TL
namespace TL
end TL
namespace TL
end TL
namespace TL
def aW(g:aE)(h:Int):Int:=pI (gI g.2 (h/2)) (h%2)
def dy(g:aE)(v:Int)(k:Nat):List Int:=((List.range (2*k)).map (λ(i:Nat)=>(i:Int))).filter λh=>decide (aW g h=v)
def iU(g:aE)(v:Int):List Int:=dy g v g.2.length
theorem fp(g:aE)(k:Nat):aW g (2*(k:Int))=(gI g.2 k).1:=by
 unfold aW
 have h1:2*(k:Int)/2=k:=by omega
 have h2:2*(k:Int)%2=0:=by omega
 rw[h1,h2];rfl
theorem gv(g:aE)(k:Nat):aW g (2*(k:Int)+1)=(gI g.2 k).2:=by
 unfold aW
 have h1:(2*(k:Int)+1)/2=k:=by omega
 have h2:(2*(k:Int)+1)%2=1:=by omega
 rw[h1,h2];rfl
theorem j7(g:aE)(v:Int)(k:Nat):dy g v (k+1)=dy g v k++((if(gI g.2 k).1=v then[2*(k:Int)] else[])++(if(gI g.2 k).2=v then[2*(k:Int)+1] else[])):=by
 unfold dy
 rw[show 2*(k+1)=2*k+1+1 by omega,List.range_succ,List.range_succ]
 simp only[List.map_append,List.filter_append,List.map_cons,List.map_nil,List.append_assoc]
 congr 1
 have e1:((2*k:Nat):Int)=2*(k:Int):=by omega
 have e2:((2*k+1:Nat):Int)=2*(k:Int)+1:=by omega
 rw[e1,e2]
 congr 1
 · by_cases h:(gI g.2 (k:Int)).1=v
   · simp[fp,h]
   · simp[fp,h]
 · by_cases h:(gI g.2 (k:Int)).2=v
   · simp[gv,h]
   · simp[gv,h]
theorem kb(g:aE)(v:Int)(k:Nat):(dy g v k).length<=2*k:=by
 unfold dy
 have:=List.length_filter_le (λh=>decide (aW g h=v)) ((List.range (2*k)).map (λ(i:Nat)=>(i:Int)))
 simpa using this
end TL
namespace TL
theorem cN{α:Type}[Inhabited α]{l l':List α}(hl:l.length=l'.length)(h:∀i:Nat,i<l.length->gI l i=gI l' i):l=l':=by
 apply List.ext_getElem hl
 intro i h1 h2
 have:=h i h1
 simpa[gI,h1,h2] using this
end TL
namespace TL
end TL
namespace TL
end TL
namespace TL
section
variable{l0 l1:Int}{F:Int×Int->Int}{g:aE}{k:Nat}
end
end TL
/-
  TlNetLaws: what follows of nets: parts of parts, subs of subs.
  By an AI agent.
-/
set_option linter.all false
namespace TL
theorem oy{α β:Type}[Inhabited α][Inhabited β](f:α->β){l:List α}{i:Int}(h0:0<=i)(h1:i<l.length):gI (l.map f) i=f (gI l i):=by
 have:i.toNat<l.length:=by omega
 simp[gI,this]
end TL
/-
  TlNetSums: degrees' sum; all edges, all nodes; moved there and back.
  By an AI agent.
-/
set_option linter.all false
namespace TL
def b5(n:Nat):List Int:=(List.range n).map λ(i:Nat)=>(i:Int)
theorem d5(n:Nat):(b5 n).length=n:=by simp[b5]
theorem go(n:Nat):b5 (n+1)=b5 n++[(n:Int)]:=by simp[b5,List.range_succ]
theorem eD{n:Nat}{x:Int}:x∈b5 n↔0<=x/\x<n:=by
 unfold b5
 rw[List.mem_map]
 constructor
 · rintro⟨i,hi,rfl⟩
   have:=List.mem_range.1 hi
   omega
 · rintro⟨h1,h2⟩
   exact⟨x.toNat,List.mem_range.2 (by omega),by omega⟩
theorem fJ(n:Nat):(b5 n).Nodup:=by
 induction n with
 |zero=>simp[b5]
 |succ n ih=>
   rw[go,List.nodup_append]
   refine⟨ih,by simp,λa ha b hb=>?_⟩
   have:=eD.1 ha
   have:=List.mem_singleton.1 hb
   omega
theorem mw{n:Nat}{i:Int}(h0:0<=i)(h1:i<n):gI (b5 n) i=i:=by
 have:i.toNat<n:=by omega
 simp[gI,b5,this]
 omega
end TL
/-
  TlRef3: what the document's own answer of layer 3 goes through.
  By an AI agent.
-/
set_option linter.all false
namespace TL
theorem bA{g:aE}(hm:bo g){h:Int}(h0:0<=h)(h1:h<2*(g.2.length:Int)):0<=aW g h/\aW g h<g.1:=by
 have hok:=hm.2.2.2 _ (bd (xs:=g.2) (i:=h/2) (by omega) (by omega))
 unfold ij at hok
 unfold aW pI
 split<;>omega
end TL
/-
  TlKeep: rows of an own list given away one by one while the list stays readable; rows with a mark behind each.
  By an AI agent.
-/
set_option linter.all false
namespace TL
open Go
section
variable{P:Program}{w:World}{t t':TypeId}{f:Fr}{x y:Operand}{dst:Option Tmp}{ty:TypeId}{pos:String}{after:Array Edge}{g:Option (Nat×Bool)}{N:Value->World->Prop}{α:Type}[Rp α]{γ:ar}{v u:Value}{xss:List (List α)}{l:List α}{i k j:Nat}
end
section
variable{α:Type}[Rp α][Fl α]{γ γ':ar}{w w':World}{v:Value}{us:List Vc}{xss:List (List α)}{i k j q:Nat}
end
inductive Rw where
  |mk (l:List Int) (m:Int)
  |pl (l:List Int)
instance:Inhabited Rw:=⟨.pl []⟩
theorem ke{α:Type}[Rp α]{γ:ar}{S:bm->Prop}{w:World}{v:Value}{xs:List α}{m:α}(h:Sl γ S w (pE v) (xs++[m])):∃a l c,v= .slice a l c:=by
 rcases h with⟨_,h0⟩|⟨b,off,cap,hv,_⟩
 · simp at h0
 · cases v<;>simp[pE] at hv
   exact⟨_,_,_,rfl⟩
def oK(γ:ar)(S:bm->Prop)(w:World)(v:Value):Rw->Prop
  | .mk l m=>Sl γ S w (pE v) (l++[m])
  | .pl l=>Sl γ S w v l
theorem oK.one{γ:ar}{S:bm->Prop}{w:World}{v:Value}{x:Rw}(h:oK γ S w v x):v.oneCell'=true:=by
 cases x with
 |mk l m=>
   obtain⟨a,b,c,rfl⟩:=ke h
   rfl
 |pl l=>
   rcases h with⟨⟨_,rfl⟩,_⟩|⟨b,off,cap,rfl,_⟩<;>rfl
theorem oK.tr{γ γ':ar}{S S':bm->Prop}{w w':World}{v:Value}{x:Rw}(hsz:w.heap.size<=w'.heap.size)(h:∀b,b<w.heap.size->S (γ b)->w'.heap[b]? =w.heap[b]? /\S' (γ' b))(hx:oK γ S w v x):oK γ' S' w' v x:=by
 cases x with
 |mk l m=>exact Sl.tr h hx hsz
 |pl l=>exact Sl.tr h hx hsz
instance:Rp Rw where
 sz:=1
 rep γ S w cs x:=∃v,cs=[v]/\oK γ S w v x
 len:=by rintro _ _ _ _ _ ⟨v,rfl,_⟩;rfl
 one:=by
   rintro _ _ _ _ _ ⟨v,rfl,h⟩ u hu
   obtain rfl:u=v:=by simpa using hu
   exact h.one
 tr:=by
   rintro _ _ _ _ _ _ _ _ hs h ⟨v,rfl,hv⟩
   exact⟨v,rfl,hv.tr hs h⟩
section
variable{P:Program}{w:World}{t t':TypeId}{f:Fr}{x y:Operand}{dst:Option Tmp}{ty:TypeId}{pos:String}{after:Array Edge}{g:Option (Nat×Bool)}{N:Value->World->Prop}{γ:ar}{v u:Value}{xss:List (List Int)}{l:List Int}{i:Nat}
end
end TL
/-
  TlEq: structs compared; a pointer looked at for nil; a bit turned.
  By an AI agent.
-/
set_option linter.all false
namespace TL
open Go
section
variable{P:Program}{f:Fr}{w:World}{dst:Option Tmp}{ty:TypeId}{pos:String}{after:Array Edge}{g:Option (Nat×Bool)}{t t' e:TypeId}{x y:Operand}
theorem cd{a:Addr}(hx:ev f x= .pointer (some a)):(execOp (ev f) ⟨dst,.nilCheck x,ty,pos,after,g⟩).run P w= .ok (.value (.pointer (some a))) w:=by
 simp only[execOp,hx,Sem.run_pure]
end
end TL
namespace TL
open Go
section
variable{P:Program}{f:Fr}{w:World}{dst:Option Tmp}{ty:TypeId}{pos:String}{after:Array Edge}{g:Option (Nat×Bool)}{t:TypeId}{x:Operand}
end
end TL
namespace TL
open Go
section
variable{P:Program}{f:Fr}{w:World}{dst:Option Tmp}{ty:TypeId}{pos:String}{after:Array Edge}{g:Option (Nat×Bool)}{t t':TypeId}{x y:Operand}{m n:Int}
theorem o4(hx:ev f x= .int .i64 m)(hy:ev f y= .int .i64 n)(hn:0<n)(hm: -4611686018427387904<=m/\m<=4611686018427387904):(execOp (ev f) ⟨dst,.binOp .quo t x y t',ty,pos,after,g⟩).run P w= .ok (.value (.int .i64 (Int.tdiv m n))) w:=by
 refine b6 .quo x y hx hy ?_
 have h0:¬n=0:=by omega
 have h1:l8 (Int.tdiv m n):=by
   have h2:=Int.natAbs_tdiv_le_natAbs m n
   constructor<;>omega
 simp[binOp,Op.intDiv,h0,eG h1]
end
end TL
namespace TL
open Go
theorem py{f:Fr}{x:Operand}{xs:List Operand}{v:Value}{vs:List Value}(h:ev f x=v)(h2:xs.map (ev f)=vs):(x::xs).map (ev f)=v::vs:=by subst h h2;rfl
end TL
/-
  TlRot: rotations: which may be, turned to their least, faces.
  By an AI agent.
-/
set_option linter.all false
namespace TL
abbrev lC:=List (List Int)
def pb(g:aE)(r:lC):Prop:=(r.length:Int)=g.1/\(∀v:Nat,v<r.length->∀h∈gI r (v:Int),(0<=h/\h<2*(g.2.length:Int))/\aW g h=v)/\r.flatten.Nodup/\(r.flatten.length:Int)=2*g.2.length
instance (g:aE)(r:lC):Decidable (pb g r):=by unfold pb;infer_instance
section
variable{seen:List Bool}{n:Int}{g:aE}{r:lC}{k i:Nat}
end
end TL
namespace TL
end TL
/-
  TlShort: short names for the commonest steps (used by packed claims only).
  By an AI agent.
-/
set_option linter.all false
namespace TL
open Go
abbrev vi(x:Int):Value:=Value.int .i64 x
abbrev vp(b o:Nat):Value:=Value.pointer (some ⟨b,o,none⟩)
abbrev vn:Value:=Value.slice none 0 0
abbrev vt(l:List Value):Value:=Value.tuple (List.toArray l)
abbrev vg(l:List Value):Value:=Value.agg (List.toArray l)
theorem cg(L:List Nat){γ γ':ar}{w w':World}(h:aQ (inl L) γ w γ' w'):aQ (inl L) γ w γ' w':=h
theorem dt{p:Prop}[Decidable p](h:p):decide p=true:=decide_eq_true h
theorem df{p:Prop}[Decidable p](h:¬p):decide p=false:=decide_eq_false h
section
variable{P:Program}{all rest:List Oper}{K:Fr->World->Prop}{f:Fr}{w w':World}{x:Operand}
variable{dst:Option Tmp}{op:Op}{ty:TypeId}{pos:String}{after:Array Edge}{g:Option (Nat×Bool)}{o:Oper}
theorem lv(v:Value)(hw:bi all ⟨dst,op,ty,pos,after,g⟩ f=true)(h:(execOp (ev f) ⟨dst,op,ty,pos,after,g⟩).run P w= .ok (.value v) w')(hk:dZ P all rest K (cW f dst v) w'):dZ P all (⟨dst,op,ty,pos,after,g⟩::rest) K f w:=eZ hw h hk
theorem lx{v:Value}(h:(execOp (ev f) ⟨dst,op,ty,pos,after,none⟩).run P w= .ok (.value v) w')(hk:dZ P all rest K (cW f dst v) w'):dZ P all (⟨dst,op,ty,pos,after,none⟩::rest) K f w:=eZ rfl h hk
theorem lw(v:Value)(h:(execOp (ev f) ⟨dst,op,ty,pos,after,none⟩).run P w= .ok (.value v) w')(hk:dZ P all rest K (cW f dst v) w'):dZ P all (⟨dst,op,ty,pos,after,none⟩::rest) K f w:=eZ rfl h hk
theorem mv(v:Value)(hk:dZ P all rest K (cW f dst v) w)(h:ev f x=v:=by exact rfl):dZ P all (⟨dst,.move x,ty,pos,after,none⟩::rest) K f w:=eZ rfl (al h) hk
theorem ma(v:Value)(hk:dZ P all rest K (cW f dst v) w)(h:ev f x=v:=by exact rfl):dZ P all (⟨dst,.assign x,ty,pos,after,none⟩::rest) K f w:=eZ rfl (bf h) hk
theorem mi(v:Int)(hk:dZ P all rest K (cW f dst (.int .i64 v)) w)(h:ev f x= .int .i64 v:=by exact rfl):dZ P all (⟨dst,.move x,ty,pos,after,none⟩::rest) K f w:=eZ rfl (al h) hk
theorem ai(v:Int)(hk:dZ P all rest K (cW f dst (.int .i64 v)) w)(h:ev f x= .int .i64 v:=by exact rfl):dZ P all (⟨dst,.assign x,ty,pos,after,none⟩::rest) K f w:=eZ rfl (bf h) hk
theorem mz{v:Value}(h:ev f x=v)(hk:dZ P all rest K (cW f dst v) w):dZ P all (⟨dst,.move x,ty,pos,after,none⟩::rest) K f w:=eZ rfl (al h) hk
theorem lo(h:dv P ⟨dst,op,ty,pos,after,none⟩ f w (λv w'=>dZ P all rest K (cW f dst v) w')):dZ P all (⟨dst,op,ty,pos,after,none⟩::rest) K f w:=dW rfl h
theorem wy{j:Nat}{x:Bool}{d:Nat}{b:Bool}(hx:b=x)(hg:o.guard=some (j,x):=by exact rfl)(hj:(all[j]?).bind (·.dst)=some d:=by exact rfl)(hb:f d= .bool b:=by exact rfl):bi all o f=true:=oC hg hj hb hx
theorem wn{j:Nat}{x:Bool}{d:Nat}{b:Bool}(hx:b= !x)(hg:o.guard=some (j,x):=by exact rfl)(hj:(all[j]?).bind (·.dst)=some d:=by exact rfl)(hb:f d= .bool b:=by exact rfl):bi all o f=false:=nX hg hj hb hx
variable{C:World->Prop}{KQ:Fr->Prop}
theorem qv(v:Value)(h:∀w,C w->(execOp (ev f) ⟨dst,op,ty,pos,after,none⟩).run P w= .ok (.value v) w)(hk:fk P all C rest KQ (cW f dst v)):fk P all C (⟨dst,op,ty,pos,after,none⟩::rest) KQ f:=bJ rfl h hk
theorem qx{v:Value}(h:∀w,C w->(execOp (ev f) ⟨dst,op,ty,pos,after,none⟩).run P w= .ok (.value v) w)(hk:fk P all C rest KQ (cW f dst v)):fk P all C (⟨dst,op,ty,pos,after,none⟩::rest) KQ f:=bJ rfl h hk
theorem qm(v:Value)(hk:fk P all C rest KQ (cW f dst v))(h:ev f x=v:=by exact rfl):fk P all C (⟨dst,.move x,ty,pos,after,none⟩::rest) KQ f:=bJ rfl (λ_ _=>al h) hk
theorem qz{v:Value}(h:ev f x=v)(hk:fk P all C rest KQ (cW f dst v)):fk P all C (⟨dst,.move x,ty,pos,after,none⟩::rest) KQ f:=bJ rfl (λ_ _=>al h) hk
end
section
variable{P:Program}{n:Nat}{l:List Oper}{S:World->Prop}{K:Fr->World->Prop}{f:Fr}{w:World}{done:List Nat}{fuel:Nat}{qs:List Nat}
variable{dst:Option Tmp}{op:Op}{ty:TypeId}{pos:String}{after:Array Edge}{g:Option (Nat×Bool)}{v:Value}
theorem ht(i:Nat)(hi:l[i]? =some ⟨dst,op,ty,pos,after,none⟩)(hS:S w)(h:∀w,S w->(execOp (ev f) ⟨dst,op,ty,pos,after,none⟩).run P w= .ok (.value v) w)(hk:kk P n l S K fuel (i::done) (cW f dst v) w)(hn:da l=true:=by kernel_rfl)(hc:(cP l done i&&e8 l done i&&ft n ⟨dst,op,ty,pos,after,none⟩)=true:=by kernel_rfl):kk P n l S K (fuel+1) done f w:=oG i hi hn hc rfl hS h hk
theorem xv(i:Nat)(M:List Nat)(hi:l[i]? =some ⟨dst,op,ty,pos,after,none⟩)(h:(execOp (ev f) ⟨dst,op,ty,pos,after,none⟩).run P w= .ok (.value v) w)(hk:fu P n l qs K fuel (i::done) (cW f dst v) w)(hn:da l=true:=by kernel_rfl)(hc:(qs.contains i&&cP l done i&&e8 l done i&&hF l qs done M i&&ft n ⟨dst,op,ty,pos,after,none⟩)=true:=by kernel_rfl):fu P n l qs K (fuel+1) done f w:=oY i M hi hn hc rfl h hk
theorem xh(i:Nat)(M:List Nat)(hi:l[i]? =some ⟨dst,op,ty,pos,after,none⟩)(h:∀w',bZ w.heap.size w w'->(execOp (ev f) ⟨dst,op,ty,pos,after,none⟩).run P w'= .ok (.value v) w')(hk:fu P n l qs K fuel (i::done) (cW f dst v) w)(hn:da l=true:=by kernel_rfl)(hc:(qs.contains i&&cP l done i&&e8 l done i&&gX l qs done M i&&ft n ⟨dst,op,ty,pos,after,none⟩)=true:=by kernel_rfl):fu P n l qs K (fuel+1) done f w:=oB i M hi hn hc rfl h hk
theorem xp(i:Nat)(hi:l[i]? =some ⟨dst,op,ty,pos,after,none⟩)(h:∀w,(execOp (ev f) ⟨dst,op,ty,pos,after,none⟩).run P w= .ok (.value v) w)(hk:fu P n l qs K fuel (i::done) (cW f dst v) w)(hn:da l=true:=by kernel_rfl)(hc:(qs.contains i&&cP l done i&&e8 l done i&&ft n ⟨dst,op,ty,pos,after,none⟩)=true:=by kernel_rfl):fu P n l qs K (fuel+1) done f w:=o3 i hi hn hc rfl h hk
end
section
variable{γ γ':ar}{w w':World}{v:Value}{j k:Nat}{L:List Nat}
theorem aX.ca{w0:World}(h:aX w0 γ w)(hc:aQ (inl L) γ w γ' w')(hj:L.contains 0=false:=by exact rfl):aX w0 γ' w':=h.chg hc (bQ hj)
theorem aX.ce{w0:World}(h:aX w0 γ w)(hc:aQ (is k) γ w γ' w')(hj:Nat.beq 0 k=false:=by exact rfl):aX w0 γ' w':=h.chg hc (e9 hj)
theorem aX.cn{w0:World}(h:aX w0 γ w)(hc:aQ no γ w γ' w'):aX w0 γ' w':=h.chg hc (en _)
theorem Bx.ca{b:Nat}{cs:List Value}(h:Bx γ (is j) w b cs)(hc:aQ (inl L) γ w γ' w')(hj:L.contains j=false:=by exact rfl):Bx γ' (is j) w' b cs:=h.chg hc (bQ hj)
theorem Bx.ce{b:Nat}{cs:List Value}(h:Bx γ (is j) w b cs)(hc:aQ (is k) γ w γ' w')(hj:Nat.beq j k=false:=by exact rfl):Bx γ' (is j) w' b cs:=h.chg hc (e9 hj)
theorem Bx.cn{J:bm->Prop}{b:Nat}{cs:List Value}(h:Bx γ J w b cs)(hc:aQ no γ w γ' w'):Bx γ' J w' b cs:=h.chg hc (en _)
theorem Sl.ca{α:Type}[Rp α]{xs:List α}(h:Sl γ (is j) w v xs)(hc:aQ (inl L) γ w γ' w')(hj:L.contains j=false:=by exact rfl):Sl γ' (is j) w' v xs:=h.chg hc (bQ hj)
theorem Sl.ce{α:Type}[Rp α]{xs:List α}(h:Sl γ (is j) w v xs)(hc:aQ (is k) γ w γ' w')(hj:Nat.beq j k=false:=by exact rfl):Sl γ' (is j) w' v xs:=h.chg hc (e9 hj)
theorem Sl.cn{α:Type}[Rp α]{S:bm->Prop}{xs:List α}(h:Sl γ S w v xs)(hc:aQ no γ w γ' w'):Sl γ' S w' v xs:=h.chg hc (en _)
theorem Ow.ca{α:Type}[Rp α]{xs:List α}(h:Ow γ (is j) (is j) w v xs)(hc:aQ (inl L) γ w γ' w')(hj:L.contains j=false:=by exact rfl):Ow γ' (is j) (is j) w' v xs:=h.chg hc (bQ hj) (bQ hj)
theorem Ow.ce{α:Type}[Rp α]{xs:List α}(h:Ow γ (is j) (is j) w v xs)(hc:aQ (is k) γ w γ' w')(hj:Nat.beq j k=false:=by exact rfl):Ow γ' (is j) (is j) w' v xs:=h.chg hc (e9 hj) (e9 hj)
theorem Ow.cn{α:Type}[Rp α]{J S:bm->Prop}{xs:List α}(h:Ow γ J S w v xs)(hc:aQ no γ w γ' w'):Ow γ' J S w' v xs:=h.chg hc (en _) (en _)
theorem cH.ca{α:Type}[Rp α]{xs:List (List α)}(h:cH γ j w v xs)(hc:aQ (inl L) γ w γ' w')(hj:L.contains j=false:=by exact rfl):cH γ' j w' v xs:=h.chg hc (bQ hj)
theorem cH.ce{α:Type}[Rp α]{xs:List (List α)}(h:cH γ j w v xs)(hc:aQ (is k) γ w γ' w')(hj:Nat.beq j k=false:=by exact rfl):cH γ' j w' v xs:=h.chg hc (e9 hj)
theorem cH.cn{α:Type}[Rp α]{xs:List (List α)}(h:cH γ j w v xs)(hc:aQ no γ w γ' w'):cH γ' j w' v xs:=h.chg hc (en _)
theorem cT.ca{α:Type}[Rp α]{h0:Nat}{xs:List (List α)}(h:cT γ j h0 w v xs)(hc:aQ (inl L) γ w γ' w')(hj:L.contains j=false:=by exact rfl):cT γ' j h0 w' v xs:=h.chg hc (bQ hj)
theorem cT.ce{α:Type}[Rp α]{h0:Nat}{xs:List (List α)}(h:cT γ j h0 w v xs)(hc:aQ (is k) γ w γ' w')(hj:Nat.beq j k=false:=by exact rfl):cT γ' j h0 w' v xs:=h.chg hc (e9 hj)
theorem cT.cn{α:Type}[Rp α]{h0:Nat}{xs:List (List α)}(h:cT γ j h0 w v xs)(hc:aQ no γ w γ' w'):cT γ' j h0 w' v xs:=h.chg hc (en _)
def pA(δ g:ar)(w:World)(ren:Nat->Nat):Prop:=(∀{α:Type} [Rp α] {i:Nat} {v:Value} {xs:List α},Ow δ (is i) (is i) w v xs->∀k:Nat,Nat.beq i 0=false->ren i=k->Ow g (is k) (is k) w v xs)/\(∀{α:Type} [Rp α] {i:Nat} {v:Value} {xs:List (List α)},cH δ i w v xs->∀k:Nat,Nat.beq i 0=false->ren i=k->cH g k w v xs)
theorem mF{δ:ar}(γ:ar)(fr:fM w δ w')(ren:Nat->Nat):∃g,aQ no γ w g w'/\pA δ g w' ren:=
 ⟨_,l2 fr.below γ δ ren,λh k hi hr=>h.glue fr.col hi hr,λh k hi hr=>h.glue fr.col hi hr⟩
theorem Ow.gl{α:Type}[Rp α]{δ g:ar}{ren:Nat->Nat}{i:Nat}{xs:List α}(h:Ow δ (is i) (is i) w v xs)(G:pA δ g w ren)(k:Nat)(hi:Nat.beq i 0=false:=by exact rfl)(hr:ren i=k:=by exact rfl):Ow g (is k) (is k) w v xs:=G.1 h k hi hr
theorem cH.gl{α:Type}[Rp α]{δ g:ar}{ren:Nat->Nat}{i:Nat}{xs:List (List α)}(h:cH δ i w v xs)(G:pA δ g w ren)(k:Nat)(hi:Nat.beq i 0=false:=by exact rfl)(hr:ren i=k:=by exact rfl):cH g k w v xs:=G.2 h k hi hr
end
end TL
/-
  TlGeom: points with whole coordinates: turns, segments, how they meet.
  By an AI agent.
-/
set_option linter.all false
namespace TL
abbrev Pt:=Int×Int
def lZ(x y:Int):Int:=if x<y then-1 else if y<x then 1 else 0
def pu(a b:Pt):Int:=a.1*b.2-a.2*b.1
def pc(b a:Pt):Pt:=(b.1-a.1,b.2-a.2)
def kh(a b c:Pt):Int:=lZ (pu (pc b a) (pc c a)) 0
def ob(a b p:Pt):Prop:=(min a.1 b.1<=p.1/\p.1<=max a.1 b.1)/\min a.2 b.2<=p.2/\p.2<=max a.2 b.2
instance (a b p:Pt):Decidable (ob a b p):=by unfold ob;infer_instance
def ky(a b p:Pt):Prop:=kh a b p=0/\ob a b p
instance (a b p:Pt):Decidable (ky a b p):=by unfold ky;infer_instance
def ip(a b:Pt):Int:=if lZ a.1 b.1≠0 then lZ a.1 b.1 else lZ a.2 b.2
def oX(a b c d:Pt):Int:=
 let a':=if 0<ip a b then b else a
 let b':=if 0<ip a b then a else b
 let c':=if 0<ip c d then d else c
 let d':=if 0<ip c d then c else d
 let low:=if 0<ip c' a' then c' else a'
 let high:=if ip d' b'<0 then d' else b'
 if 0<ip low high then 0 else if ip low high=0 then 2 else 3
def dY(a b c d:Pt):Int:=
 if kh a b c=0/\kh a b d=0/\kh c d a=0/\kh c d b=0 then oX a b c d
 else if kh a b c*kh a b d<0/\kh c d a*kh c d b<0 then 1
 else if ky a b c\/ky a b d\/ky c d a\/ky c d b then 2 else 0
def fT(p:Pt):Int:=p.1*1073741824+p.2
end TL
namespace TL
def pz(p:Pt):Prop:=(-1048576<=p.1/\p.1<=1048576)/\ -1048576<=p.2/\p.2<=1048576
instance (p:Pt):Decidable (pz p):=by unfold pz;infer_instance
def pC(ps:List Pt):Prop:=ps.length<=4096/\∀p∈ps,pz p
instance (ps:List Pt):Decidable (pC ps):=by unfold pC;infer_instance
def jz(p:Pt):Int:=if 0<p.1\/p.1=0/\0<p.2 then 0 else 1
section
variable{a b c d:Pt}
end
end TL
/-
  TlGeomR: what is told of many points: areas, boxes, whether a polyline is simple.
  By an AI agent.
-/
set_option linter.all false
namespace TL
def gU(ps:List Pt):Prop:=4<=(ps.length:Int)/\gI ps 0=gI ps ((ps.length:Int)-1)
instance (ps:List Pt):Decidable (gU ps):=by unfold gU;infer_instance
def jD(ps:List Pt)(i k:Nat):Prop:=k=i+1\/i=0/\(k:Int)=(ps.length:Int)-2/\gU ps
instance (ps:List Pt)(i k:Nat):Decidable (jD ps i k):=by unfold jD;infer_instance
def pN(ps:List Pt)(i k:Nat):Int:=dY (gI ps (i:Int)) (gI ps ((i:Int)+1)) (gI ps (k:Int)) (gI ps ((k:Int)+1))
def oJ(ps:List Pt)(i k:Nat):Prop:=jD ps i k/\pN ps i k=3\/¬jD ps i k/\pN ps i k≠0
instance (ps:List Pt)(i k:Nat):Decidable (oJ ps i k):=by unfold oJ;infer_instance
def nN(ps:List Pt)(i:Nat):Prop:=gI ps (i:Int)≠gI ps ((i:Int)+1)/\∀k<ps.length,i<k->(k:Int)<=(ps.length:Int)-2->¬oJ ps i k
instance (ps:List Pt)(i:Nat):Decidable (nN ps i):=by unfold nN;infer_instance
def pj(ps:List Pt):Prop:=∀i<ps.length,(i:Int)<=(ps.length:Int)-2->nN ps i
instance (ps:List Pt):Decidable (pj ps):=by unfold pj;infer_instance
section
variable{ps:List Pt}
variable{i k:Nat}
end
end TL
/-
  TlConv: whole numbers turned to another kind, a string's byte, functions that bear values.
  By an AI agent.
-/
set_option linter.all false
namespace TL
open Go
section
variable{P:Program}{w:World}{f:Fr}{dst:Option Tmp}{ty:TypeId}{pos:String}{after:Array Edge}{g:Option (Nat×Bool)}{x y:Operand}{s d t:TypeId}{m:Int}{k k0:IntKind}
theorem iR{us:TypeDesc}(hs:P.underlying s=some us)(hd:P.underlying d=some (.int k))(hx:ev f x= .int k0 m)(hw:k.wrap m=m):(execOp (ev f) ⟨dst,.convert s d x,ty,pos,after,g⟩).run P w= .ok (.value (.int k m)) w:=by
 simp[execOp,convert,hx,ax hs,ax hd,Conv.intToInt,hw]
theorem iC{i r:Int}{b:UInt8}{str:ByteArray}(ht:P.underlying t=some .string)(hx:ev f x= .string str)(hy:ev f y= .int k i)(h0:0<=i)(hb:str[i.toNat]? =some b)(hr:(b.toNat:Int)=r):(execOp (ev f) ⟨dst,.index t x y,ty,pos,after,g⟩).run P w= .ok (.value (.int .u8 r)) w:=by
 simp[execOp,Instr.index,asIntOf,hx,hy,ax ht,h0,hb,hr]
theorem j8{fid:Nat}{cs:List Operand}{vals:List Value}(h:cs.map (ev f)=vals):(execOp (ev f) ⟨dst,.makeFunc (.func fid) #[] cs.toArray,ty,pos,after,g⟩).run P w= .ok (.value (.func (.func fid) #[] vals.toArray)) w:=by
 have h:cs.toArray.map (ev f)=vals.toArray:=by rw[<-h];simp
 simp[execOp,Instr.makeFunc,h]
end
end TL
namespace TL
open Go
section
variable{P:Program}{w:World}{f:Fr}{dst:Option Tmp}{ty:TypeId}{pos:String}{after:Array Edge}{g:Option (Nat×Bool)}{x y:Operand}{t t':TypeId}
end
end TL
namespace TL
open Go
section
variable{P:Program}{w:World}{f:Fr}{dst:Option Tmp}{ty:TypeId}{pos:String}{after:Array Edge}{g:Option (Nat×Bool)}{x y:Operand}{t t':TypeId}
end
end TL
/-
  TlGeomM: meeting segments: moved, turned, named another way about; what ends they share.
  By an AI agent.
-/
set_option linter.all false
namespace TL
section
variable{a b c d:Pt}
def iw(a b c d e:Pt):Prop:=ky a b e/\ky c d e
instance (a b c d e:Pt):Decidable (iw a b c d e):=by unfold iw;infer_instance
def ks(a b c d:Pt):Prop:=kh a b c*kh a b d<0/\kh c d a*kh c d b<0
instance (a b c d:Pt):Decidable (ks a b c d):=by unfold ks;infer_instance
end
end TL
/-
  TlGeomS: polylines gone back, and two of them named the other way about.
  By an AI agent.
-/
set_option linter.all false
namespace TL
abbrev Sg:=Pt×Pt
def l5(ps:List Pt):Nat->List Sg
 |0=>[]
 |k+1=>l5 ps k++[(gI ps (k:Int),gI ps ((k:Int)+1))]
def mt(ps:List Pt):List Sg:=if ps.length=1 then[(gI ps 0,gI ps 0)] else l5 ps (ps.length-1)
def nA(ps:List Pt):Pt:=gI ps ((ps.length:Int)-1)
def o7(ps:List Pt)(p:Pt):Prop:=p=gI ps 0\/p=nA ps
instance (ps:List Pt)(p:Pt):Decidable (o7 ps p):=by unfold o7;infer_instance
def lF(q:List Pt)(s t:Sg)(x:Pt):Prop:=o7 q x/\ky s.1 s.2 x/\ky t.1 t.2 x
instance (q:List Pt)(s t:Sg)(x:Pt):Decidable (lF q s t x):=by unfold lF;infer_instance
def kB(p q:List Pt)(s t:Sg):Prop:=lF q s t (gI p 0)\/lF q s t (nA p)
instance (p q:List Pt)(s t:Sg):Decidable (kB p q s t):=by unfold kB;infer_instance
def nZ(p q:List Pt)(s t:Sg):Prop:=dY s.1 s.2 t.1 t.2=3\/dY s.1 s.2 t.1 t.2≠0/\¬kB p q s t
instance (p q:List Pt)(s t:Sg):Decidable (nZ p q s t):=by unfold nZ;infer_instance
def pk(p q:List Pt):Prop:=∀s∈mt p,∀t∈mt q,¬nZ p q s t
instance (p q:List Pt):Decidable (pk p q):=by unfold pk;infer_instance
section
variable{p q:List Pt}
end
end TL
namespace TL
section
variable{p q:List Pt}{i k:Nat}
variable{s t:Sg}
end
end TL
namespace TL
section
variable{p q:List Pt}{s t:Sg}{i:Nat}
end
end TL
/-
  TlGeomX: polylines: the document's way and the code's.
  By an AI agent.
-/
set_option linter.all false
namespace TL
section
variable{a b c d:Pt}
end
section
variable{ps:List Pt}{i k:Nat}
end
def pG(but:List Pt)(s t:Sg):Prop:=dY s.1 s.2 t.1 t.2=3\/(dY s.1 s.2 t.1 t.2=1/\¬∃x∈but,iw s.1 s.2 t.1 t.2 x)\/((dY s.1 s.2 t.1 t.2≠0/\dY s.1 s.2 t.1 t.2≠1)/\∃e∈[s.1,s.2,t.1,t.2],iw s.1 s.2 t.1 t.2 e/\e∉but)
instance (but:List Pt)(s t:Sg):Decidable (pG but s t):=by unfold pG;infer_instance
def oU(p q but:List Pt):Prop:=∃s∈mt p,∃t∈mt q,pG but s t
instance (p q but:List Pt):Decidable (oU p q but):=by unfold oU;infer_instance
section
variable{p q B:List Pt}
end
end TL
namespace TL
section
variable{p q but:List Pt}{i k:Nat}
variable{s t:Sg}
end
end TL
/-
  TlAround: points round another one: the order, its laws, the list that is sorted by it.
  By an AI agent.
-/
set_option linter.all false
namespace TL
def pt(p:Pt):Int:=p.1*p.1+p.2*p.2
def pU(a b:Pt)(i k:Int):Prop:=jz a<jz b\/jz a=jz b/\(pu a b<0\/pu a b=0/\(pt a<pt b\/pt a=pt b/\i<k))
def vA(o:Pt)(ps:List Pt)(i:Int):Pt:=pc (gI ps i) o
def pQ(o:Pt)(ps:List Pt)(i k:Int):Prop:=pU (vA o ps i) (vA o ps k) i k
def pS(o:Pt)(ps:List Pt)(k:Nat)(l:List Int):Prop:=l.Pairwise (pQ o ps)/\∀x,x∈l↔0<=x/\x<(k:Int)
section
variable{o:Pt}{ps:List Pt}{k:Nat}{l l':List Int}
open Classical in
noncomputable def arL (o:Pt) (ps:List Pt):List Int:=if h:∃l,pS o ps ps.length l then choose h else[]
end
section
variable{o:Pt}{ps:List Pt}{k:Nat}{l:List Int}{q:Int}
end
section
variable{o:Pt}{ps:List Pt}
end
end TL
/-
  TlFace: half-edges' next ones, faces.
  By an AI agent.
-/
set_option linter.all false
namespace TL
end TL
namespace TL
structure cR(s s0:List Int)(i:Nat)(j:Int):Prop where
  len:s.length=s0.length
  jj:j=(s0.length:Int)-1-i
  out:∀q:Nat,q<s0.length->(q<i\/j<q)->gI s (q:Int)=gI s0 ((s0.length:Int)-1-q)
  mid:∀q:Nat,i<=q->(q:Int)<=j->gI s (q:Int)=gI s0 (q:Int)
theorem cR.start(s0:List Int):cR s0 s0 0 ((s0.length:Int)-1):=⟨rfl,by omega,λq hq h=>by omega,λq _ _=>rfl⟩
theorem cR.next{s s0:List Int}{i:Nat}{j:Int}(h:cR s s0 i j)(hij:(i:Int)<j):cR ((s.set (i:Int).toNat (gI s j)).set j.toNat (gI s (i:Int))) s0 (i+1) (j-1):=by
 have hl:=h.len
 have hj:=h.jj
 have e1:=h.mid i (Nat.le_refl _) (by omega)
 have e2:=h.mid j.toNat (by omega) (by omega)
 rw[show((j.toNat:Nat):Int)=j by omega] at e2
 refine⟨by simpa using hl,by omega,λq hq hh=>?_,λq h1 h2=>?_⟩
 · rw[bE (by omega) (by simp;omega) (by omega),bE (by omega) (by omega) (by omega)]
   by_cases c1:(q:Int)=j
   · rw[if_pos c1,e1];congr 1;omega
   · by_cases c2:(q:Int)=i
     · rw[if_neg c1,if_pos c2,e2];congr 1;omega
     · rw[if_neg c1,if_neg c2];exact h.out q hq (by omega)
 · rw[bE (by omega) (by simp;omega) (by omega),bE (by omega) (by omega) (by omega),if_neg (by omega),if_neg (by omega)]
   exact h.mid q (by omega) (by omega)
theorem cR.done{s s0:List Int}{i:Nat}{j:Int}(h:cR s s0 i j)(hij:¬(i:Int)<j):s=s0.reverse:=by
 have hl:=h.len
 have hj:=h.jj
 apply cN
 · simpa using hl
 · intro q hq
   have hr:gI s0.reverse (q:Int)=gI s0 ((s0.length:Int)-1-q):=by
     have hq':q<s0.length:=by omega
     have e:((s0.length:Int)-1-q).toNat=s0.length-1-q:=by omega
     have e2:s0.length-1-q<s0.length:=by omega
     simp[gI,hq',e,e2,List.getElem?_reverse hq']
   rw[hr]
   by_cases c:q<i\/j<(q:Int)
   · exact h.out q (by omega) c
   · rw[h.mid q (by omega) (by omega)];congr 1;omega
structure bR(out:List (List Int))(g:aE)(k:Nat):Prop where
  len:(out.length:Int)=g.1
  at_:∀v,0<=v->v<g.1->gI out v=dy g v k
theorem bR.start{g:aE}(h:0<=g.1):bR (List.replicate g.1.toNat []) g 0:=⟨by simp;omega,λv h0 h1=>by rw[om h0 (by omega)];simp[dy]⟩
theorem bR.next{out:List (List Int)}{g:aE}{k:Nat}(h:bR out g k)(h1:0<=(gI g.2 k).1)(h2:(gI g.2 k).1<g.1)(h3:0<=(gI g.2 k).2)(h4:(gI g.2 k).2<g.1){a b:Int}(ha:a=2*(k:Int))(hb:b=2*(k:Int)+1):
   bR ((out.set (gI g.2 k).1.toNat (gI out (gI g.2 k).1++[a])).set (gI g.2 k).2.toNat (gI (out.set (gI g.2 k).1.toNat (gI out (gI g.2 k).1++[a])) (gI g.2 k).2++[b])) g (k+1):=by
 have hl:=h.len
 refine⟨by simpa using hl,λv h5 h6=>?_⟩
 rw[bE h3 (by simp;omega) h5,bE h1 (by omega) h3,bE h1 (by omega) h5,j7,h.at_ _ h1 h2,h.at_ _ h3 h4,h.at_ v h5 h6,ha,hb]
 by_cases e2:v=(gI g.2 (k:Int)).2
 · by_cases e1:v=(gI g.2 (k:Int)).1
   · rw[<-e1,<-e2];simp
   · have e3:¬(gI g.2 (k:Int)).2=(gI g.2 (k:Int)).1:=λh=>e1 (e2.trans h)
     have e6:¬(gI g.2 (k:Int)).1=(gI g.2 (k:Int)).2:=λh=>e3 h.symm
     simp[e2,e3,e6]
 · have e4:¬(gI g.2 (k:Int)).2=v:=λh=>e2 h.symm
   by_cases e1:v=(gI g.2 (k:Int)).1
   · rw[if_neg e2,if_pos e1,if_neg e4,if_pos e1.symm,<-e1];simp
   · have e5:¬(gI g.2 (k:Int)).1=v:=λh=>e1 h.symm
     rw[if_neg e2,if_neg e1,if_neg e4,if_neg e5];simp
end TL
namespace TL
end TL
/-
  TlWalk: going through a net breadth first, and its components, as the program does.
  By an AI agent.
-/
set_option linter.all false
namespace TL
def eo(g:aE)(h:Int):Int:=pI (gI g.2 (h/2)) (1-h%2)
theorem iV{g:aE}(hm:bo g){h:Int}(h0:0<=h)(h1:h<2*(g.2.length:Int)):0<=eo g h/\eo g h<g.1:=by
 have hok:=hm.2.2.2 _ (bd (xs:=g.2) (i:=h/2) (by omega) (by omega))
 unfold ij at hok
 unfold eo pI
 split<;>omega
end TL
namespace TL
end TL
namespace TL
theorem bR.rl{out:List (List Int)}{g:aE}{k:Nat}(h:bR out g k){v:Int}(h0:0<=v)(h1:v<g.1):((gI out v).length:Int)<=2*(k:Int):=by
 rw[h.at_ v h0 h1]
 have:=kb g v k
 omega
theorem bR.rl2{out:List (List Int)}{g:aE}{k:Nat}(h:bR out g k){u v:Int}(h2:0<=u)(h3:u<g.1)(h0:0<=v)(h1:v<g.1)(a:Int):((gI (out.set u.toNat (gI out u++[a])) v).length:Int)<=2*(k:Int)+1:=by
 have hl:=h.len
 rw[bE h2 (by omega) h0]
 split
 · have:=h.rl h2 h3;simp;omega
 · have:=h.rl h0 h1;omega
theorem bR.done{out:List (List Int)}{g:aE}{k:Nat}(h:bR out g k)(hk:k=g.2.length):∀v,0<=v->v<g.1->gI out v=iU g v:=λv h0 h1=>by
 subst hk;exact h.at_ v h0 h1
end TL
namespace TL
end TL
namespace TL
end TL
/-
  TlRot2: rotations: faces of half-edges, first ones, parts, moved ones.
  By an AI agent.
-/
set_option linter.all false
namespace TL
def aa(g:aE):lC:=(List.range g.1.toNat).map λ(v:Nat)=>iU g (v:Int)
theorem bR.first{out:lC}{g:aE}{k:Nat}(h:bR out g k)(hk:k=g.2.length):out=aa g:=by
 have hl:=h.len
 apply cN
 · simp[aa];omega
 · intro i hi
   rw[h.done hk _ (by omega) (by omega)]
   have:i<g.1.toNat:=by omega
   simp[aa,gI,this]
end TL
/-
  TlJudge: plots: their flaws, as the code and the document gather them.
  By an AI agent.
-/
set_option linter.all false
namespace TL
abbrev pV:=Int×Int×Int
abbrev fQ:=List Pt×List (List Pt)
section
variable{β:Type}{f h:Nat->List β}{k n:Nat}{x:β}{F B:List β}
end
section
variable{β:Type}{p:Prop}[Decidable p]{x:β}
end
def pM(l:List Pt):Prop:=2<=(l.length:Int)/\pC l
instance (l:List Pt):Decidable (pM l):=by unfold pM;infer_instance
def nv(g:aE)(p:fQ)(e:Int):Prop:=gI (gI p.2 e) 0=gI p.1 (gI g.2 e).1/\gI (gI p.2 e) (((gI p.2 e).length:Int)-1)=gI p.1 (gI g.2 e).2
instance (g:aE)(p:fQ)(e:Int):Decidable (nv g p e):=by unfold nv;infer_instance
def nC(l:List Pt)(q:Pt):Prop:=∃s∈l5 l (l.length-1),ky s.1 s.2 q
instance (l:List Pt)(q:Pt):Decidable (nC l q):=by unfold nC;infer_instance
def kM(s t:Sg)(but:List Pt):Prop:=dY s.1 s.2 t.1 t.2=0\/(dY s.1 s.2 t.1 t.2=1\/dY s.1 s.2 t.1 t.2=2)/\∃x∈but,iw s.1 s.2 t.1 t.2 x
instance (s t:Sg)(but:List Pt):Decidable (kM s t but):=by unfold kM;infer_instance
def pa(a b but:List Pt):Prop:=∀s∈l5 a (a.length-1),∀t∈l5 b (b.length-1),kM s t but
instance (a b but:List Pt):Decidable (pa a b but):=by unfold pa;infer_instance
section
variable{g:aE}{p:fQ}
end
end TL
namespace TL
section
variable{l:List Pt}{p:Pt}{i:Nat}
end
section
variable{a b c d:Pt}{but:List Pt}{k:Nat}{m:Int}
end
def pL(p:fQ)(h:Int):Pt:=if h%2=0 then gI (gI p.2 (h/2)) 1 else gI (gI p.2 (h/2)) (((gI p.2 (h/2)).length:Int)-2)
def pw(u v:Pt):Int:=u.1*v.1+u.2*v.2
def lh(u v:Pt):Prop:=pu u v=0/\0<pw u v
instance (u v:Pt):Decidable (lh u v):=by unfold lh;infer_instance
end TL
namespace TL
end TL
namespace TL
section
variable{g:aE}{p:fQ}{F G B:List pV}{v e k i:Nat}
end
section
variable{g:aE}{p:fQ}{e f:Int}
end
section
variable{a b but:List Pt}{i k:Nat}
end
section
variable{g:aE}{p:fQ}{e f:Nat}{b:Bool}
end
end TL
/-
  TlMap: maps that the call makes.
  By an AI agent.
-/
set_option linter.all false
namespace TL
open Go
class Ky (K:Type) where
  val:K->Value
section
variable{P:Program}{f:Fr}{w:World}{dst:Option Tmp}{ty:TypeId}{pos:String}{after:Array Edge}{g:Option (Nat×Bool)}{t:TypeId}{x y z:Operand}{N:Value->World->Prop}
end
instance:Ky Int where
 val k:=.int .i64 k
instance:Ky (Int×Int) where
 val k:=.agg (List.toArray [.int .i64 k.1,.int .i64 k.2])
end TL
namespace TL
open Go
end TL
/-
  TlFloat: floating numbers that are no NaN and have no sign: their bits, as a natural number, stand as they do; sums, roots and quotients of such.
  By an AI agent.
-/
set_option linter.all false
namespace TL
open Ieee
abbrev aw:Nat:=9218868437227405312
abbrev oc:Nat:=9221120237041090561
def mg(x:Nat):Nat:=if x<4503599627370496 then x else 4503599627370496+x%4503599627370496
def pl(x:Nat):Nat:=x/4503599627370496-1
def vl(x:Nat):Nat:=mg x*2^pl x
theorem jy:double.binade=4503599627370496:=by decide
theorem i8:double.infRung=aw:=by decide
theorem oe:double.signWeight=9223372036854775808:=by decide
theorem mC:double.leastPlace= -1074:=by decide
theorem bM{x:Nat}(h:x<aw):double.read x= .number false (mg x) (-1074+(pl x:Nat)):=by
 unfold Format.read
 simp only[jy,i8,oe,mC]
 have hh:x<9218868437227405312:=h
 have h1:x/9223372036854775808=0:=Nat.div_eq_of_lt (by omega)
 have h2:x%9223372036854775808=x:=Nat.mod_eq_of_lt (by omega)
 rw[h1,h2]
 by_cases hx:x<4503599627370496
 · rw[if_pos hx]
   have:pl x=0:=by unfold pl;omega
   simp[mg,hx,this]
 · rw[if_neg hx,if_pos h]
   simp[mg,hx,pl]
theorem co:double.read aw= .infinity false:=by decide
theorem fj{x:Nat}(h:x<=aw):(∃m i,double.read x= .number false m i)\/double.read x= .infinity false:=by
 rcases Nat.lt_or_ge x aw with c|c
 · exact .inl ⟨_,_,bM c⟩
 · rw[show x=aw by omega];exact .inr co
theorem gD{x:Nat}:mg x=0↔x=0:=by unfold mg;split<;>omega
theorem nG(x:Nat):mg x<9007199254740992:=by unfold mg;split<;>omega
theorem mm{x y:Nat}(h:x<=y):pl x<=pl y:=by unfold pl;omega
theorem lg{x y:Nat}(h:x<y):vl x<vl y:=by
 unfold vl
 by_cases e:pl x=pl y
 · rw[e]
   refine Nat.mul_lt_mul_of_pos_right ?_ (Nat.two_pow_pos _)
   unfold mg;unfold pl at e
   split<;>split<;>omega
 · have hp:=mm (Nat.le_of_lt h)
   obtain⟨d,hd⟩:∃d,pl y=pl x+1+d:=⟨pl y-pl x-1,by omega⟩
   have hy:4503599627370496<=mg y:=by
     unfold pl at e hd;unfold mg;split<;>omega
   rw[hd,Nat.pow_add,Nat.pow_succ]
   have hx:=nG x
   have h1:0<2^pl x:=Nat.two_pow_pos _
   have h2:1<=2^d:=Nat.two_pow_pos _
   calc mg x*2^pl x<9007199254740992*2^pl x:=Nat.mul_lt_mul_of_pos_right hx h1
     _=4503599627370496*(2^pl x*2*1):=by omega
     _<=mg y*(2^pl x*2*2^d):=Nat.mul_le_mul hy (Nat.mul_le_mul_left _ h2)
theorem oN{x y:Nat}(h:x<=y):vl x<=vl y:=by
 rcases Nat.lt_or_ge x y with c|c
 · exact Nat.le_of_lt (lg c)
 · rw[show x=y by omega];exact Nat.le_refl _
theorem fC(m k:Nat):m <<< k=m*2^k:=Nat.shiftLeft_eq m k
theorem jo(a b:Nat):min (-1074+(a:Int)) (-1074+(b:Int))= -1074+((min a b:Nat):Int):=by omega
theorem nu(a b:Nat):(-1074+(a:Int)-(-1074+((min a b:Nat):Int))).toNat=a-min a b:=by omega
theorem kv(a b:Nat):(-1074+(b:Int)-(-1074+((min a b:Nat):Int))).toNat=b-min a b:=by omega
theorem dO{a b:Nat}(h:b<=a):2^(a-b)*2^b=2^a:=by rw[<-Nat.pow_add];congr 1;omega
theorem mT(a b:Nat):compare (a:Int) (b:Int)=compare a b:=by
 rcases Nat.lt_trichotomy a b with h|h|h
 · simp[compare,compareOfLessAndEq,h]
 · subst h;simp[compare,compareOfLessAndEq]
 · have h1:¬a<b:=by omega
   have h2:¬a=b:=by omega
   have h3:¬(a:Int)<b:=by omega
   have h4:¬(a:Int)=b:=by omega
   simp[compare,compareOfLessAndEq,h1,h2,h3,h4]
theorem dH{a b:Nat}(h:a<b):compare a b= .lt:=by simp[compare,compareOfLessAndEq,h]
theorem dr{a b:Nat}(h:b<a):compare a b= .gt:=by simp[compare,compareOfLessAndEq,Nat.not_lt.2 (Nat.le_of_lt h),Nat.ne_of_gt h]
theorem cQ(a:Nat):compare a a= .eq:=by simp[compare,compareOfLessAndEq]
theorem cE{x y:Nat}(hx:x<=aw)(hy:y<=aw):double.order x y=some (compare x y):=by
  unfold Format.order
  rcases Nat.lt_or_ge x aw with cx|cx<;>rcases Nat.lt_or_ge y aw with cy|cy
  · rw[bM cx,bM cy]
    simp only[Datum.order,signed,jo,nu,kv,mT,fC,Bool.false_eq_true,if_false]
    have k1:=dO (a:=pl x) (b:=min (pl x) (pl y)) (by omega)
    have k2:=dO (a:=pl y) (b:=min (pl x) (pl y)) (by omega)
    have h0:0<2^min (pl x) (pl y):=Nat.two_pow_pos _
    have e1:vl x=mg x*2^(pl x-min (pl x) (pl y))*2^min (pl x) (pl y):=by rw[Nat.mul_assoc,k1];rfl
    have e2:vl y=mg y*2^(pl y-min (pl x) (pl y))*2^min (pl x) (pl y):=by rw[Nat.mul_assoc,k2];rfl
    rcases Nat.lt_trichotomy x y with c|c|c
    · rw[dH c];congr 1;refine dH ?_
      have:=lg c;rw[e1,e2] at this;exact Nat.lt_of_mul_lt_mul_right this
    · subst c;rw[cQ,cQ]
    · rw[dr c];congr 1;refine dr ?_
      have:=lg c;rw[e1,e2] at this;exact Nat.lt_of_mul_lt_mul_right this
  · rw[bM cx,show y=aw by omega,co];simp[Datum.order,dH cx]
  · rw[bM cy,show x=aw by omega,co];simp[Datum.order,dr cy]
  · rw[show x=aw by omega,show y=aw by omega,co];simp[Datum.order,cQ]
theorem jH(m:Nat)(p:Int):double.nearest false m p<=aw:=by
 unfold Format.nearest
 dsimp only
 split
 · simp[Format.word]
 · simp only[Format.word,Bool.false_eq_true,if_false]
   exact Nat.le_trans (Nat.min_le_right _ _) (Nat.le_of_eq i8)
theorem eO:double.write (.infinity false)=aw:=by decide
def aD(x y:Nat):Nat:=(double.add x y).getD oc
theorem i5{x y:Nat}(hx:x<=aw)(hy:y<=aw):double.add x y=some (aD x y)/\aD x y<=aw:=by
 have:∃z,double.add x y=some z/\z<=aw:=by
   unfold Format.add
   rcases fj hx with⟨m,i,e⟩|e<;>rcases fj hy with⟨n,j,e'⟩|e'<;>rw[e,e']
   · refine⟨_,rfl,?_⟩
     have k:(if signed false m (i-min i j).toNat+signed false n (j-min i j).toNat=0 then false&&false else decide (signed false m (i-min i j).toNat+signed false n (j-min i j).toNat<0))=false:=by
       simp only[signed,Bool.false_eq_true,if_false]
       split
       · rfl
       · exact decide_eq_false (Int.not_lt.2 (Int.add_nonneg (Int.natCast_nonneg _) (Int.natCast_nonneg _)))
     simp only[k]
     exact jH _ _
   · exact⟨_,rfl,Nat.le_of_eq eO⟩
   · exact⟨_,rfl,Nat.le_of_eq eO⟩
   · exact⟨_,rfl,Nat.le_of_eq eO⟩
 obtain⟨z,h1,h2⟩:=this
 unfold aD;rw[h1];exact⟨rfl,h2⟩
end TL
/-
  TlFloat2: how far a rounded number lies from what is rounded; sums and roots that are finite; sums with nought.
  By an AI agent.
-/
set_option linter.all false
namespace TL
open Ieee
def gz(n d:Nat):Nat:=n/2^d+(if 2^d<2*(n%2^d)\/2^d=2*(n%2^d)/\n/2^d%2=1 then 1 else 0)
theorem nO(s:Bool)(n d:Nat):Toward.even.cut s n d=gz n d:=by
 unfold Toward.cut gz
 simp only[fC,Nat.one_mul]
 have hb:∀g:Nat,(n/g+(decide (g<2*(n%g))||g==2*(n%g)&&n/g%2==1).toNat)=n/g+(if g<2*(n%g)\/g=2*(n%g)/\n/g%2=1 then 1 else 0):=by
   intro g
   congr 1
   by_cases c:g<2*(n%g)\/g=2*(n%g)/\n/g%2=1
   · rw[if_pos c]
     have:(decide (g<2*(n%g))||g==2*(n%g)&&n/g%2==1)=true:=by simpa using c
     rw[this];rfl
   · rw[if_neg c]
     have:(decide (g<2*(n%g))||g==2*(n%g)&&n/g%2==1)=false:=by
       rw[<-Bool.not_eq_true];simpa using c
     rw[this];rfl
 rw[hb]
 rcases(Nat.lt_or_ge (n.log2+2) d).symm with c|c
 · rw[Nat.min_eq_left c]
 · rw[Nat.min_eq_right (Nat.le_of_lt c)]
   have h1:n<2^(n.log2+1):=Nat.lt_log2_self
   have h2:2^(n.log2+2)=2*2^(n.log2+1):=by rw[Nat.pow_succ];omega
   have h3:2^(n.log2+2)<=2^d:=Nat.pow_le_pow_right (by omega) (by omega)
   rw[Nat.div_eq_of_lt (show n<2^(n.log2+2) by omega),Nat.mod_eq_of_lt (show n<2^(n.log2+2) by omega),Nat.div_eq_of_lt (show n<2^d by omega),Nat.mod_eq_of_lt (show n<2^d by omega)]
   rw[if_neg (by omega),if_neg (by omega)]
theorem el(n d k:Nat):gz (n*2^k) (d+k)=gz n d:=by
 unfold gz
 have h0:0<2^k:=Nat.two_pow_pos _
 rw[Nat.pow_add,Nat.mul_div_mul_right _ _ h0,Nat.mul_mod_mul_right]
 have e:2*(n%2^d*2^k)=2*(n%2^d)*2^k:=by rw[Nat.mul_assoc]
 rw[e]
 congr 1
 have a1:2^d*2^k<2*(n%2^d)*2^k↔2^d<2*(n%2^d):=⟨λh=>Nat.lt_of_mul_lt_mul_right h,λh=>Nat.mul_lt_mul_of_pos_right h h0⟩
 have a2:2^d*2^k=2*(n%2^d)*2^k↔2^d=2*(n%2^d):=⟨λh=>Nat.eq_of_mul_eq_mul_right h0 h,λh=>congrArg (· *2^k) h⟩
 simp only[a1,a2]
theorem dI(n:Nat):gz n 0=n:=by unfold gz;simp[Nat.mod_one]
def rd(T:Nat):Nat:=if T=0 then 0 else min ((T.log2-52)*4503599627370496+gz T (T.log2-52)) aw
theorem fx{m:Nat}(h:m≠0)(k:Nat):(m*2^k).log2=m.log2+k:=by
 have h0:0<2^k:=Nat.two_pow_pos _
 have hp:m*2^k≠0:=by
   intro e;rcases Nat.mul_eq_zero.1 e with c|c<;>omega
 refine(Nat.log2_eq_iff hp).2 ⟨?_,?_⟩
 · rw[Nat.pow_add];exact Nat.mul_le_mul_right _ (Nat.log2_self_le h)
 · rw[Nat.add_right_comm,Nat.pow_add];exact Nat.mul_lt_mul_of_pos_right Nat.lt_log2_self h0
theorem jq(m i:Nat):double.nearest false m (-1074+(i:Int))=rd (m*2^i):=by
 unfold Format.nearest rd
 by_cases h:m=0
 · subst h;simp[Format.word]
 have h0:0<2^i:=Nat.two_pow_pos _
 have hp:m*2^i≠0:=by
   intro e;rcases Nat.mul_eq_zero.1 e with c|c<;>omega
 rw[if_neg h,if_neg hp]
 simp only[jy,mC,Format.word,Bool.false_eq_true,if_false,nO,fx h,show double.fractionBits=52 from rfl]
 have hI:double.infRung=aw:=i8
 rw[hI]
 have e1:(max (-1074+(i:Int)+(m.log2:Int)-((52:Nat):Int)) (-1074)-(-1074)).toNat=m.log2+i-52:=by omega
 rw[e1]
 congr 2
 rw[fC]
 rcases(Nat.lt_or_ge (m.log2+i-52) i).symm with c|c
 · have e2:((-1074+(i:Int))-max (-1074+(i:Int)+(m.log2:Int)-((52:Nat):Int)) (-1074)).toNat=0:=by omega
   have e3:(max (-1074+(i:Int)+(m.log2:Int)-((52:Nat):Int)) (-1074)-(-1074+(i:Int))).toNat=m.log2+i-52-i:=by omega
   rw[e2,e3,Nat.pow_zero,Nat.mul_one]
   conv=>rhs;rw[show m.log2+i-52=(m.log2+i-52-i)+i by omega]
   rw[el]
 · have e2:((-1074+(i:Int))-max (-1074+(i:Int)+(m.log2:Int)-((52:Nat):Int)) (-1074)).toNat=i-(m.log2+i-52):=by omega
   have e3:(max (-1074+(i:Int)+(m.log2:Int)-((52:Nat):Int)) (-1074)-(-1074+(i:Int))).toNat=0:=by omega
   rw[e2,e3,dI]
   generalize hE:m.log2+i-52=E at c ⊢
   have fT:=el (m*2^(i-E)) 0 E
   rw[Nat.zero_add,dI,Nat.mul_assoc,<-Nat.pow_add,Nat.sub_add_cancel (Nat.le_of_lt c)] at fT
   exact fT.symm
theorem kw{x y:Nat}(hx:x<aw)(hy:y<aw):aD x y=rd (vl x+vl y):=by
 unfold aD Format.add
 rw[bM hx,bM hy]
 simp only[Datum.sum,signed,jo,nu,kv,fC,Bool.false_eq_true,if_false,Option.map_some,Option.getD_some]
 have k1:=dO (a:=pl x) (b:=min (pl x) (pl y)) (by omega)
 have k2:=dO (a:=pl y) (b:=min (pl x) (pl y)) (by omega)
 have k:(if((mg x*2^(pl x-min (pl x) (pl y)):Nat):Int)+((mg y*2^(pl y-min (pl x) (pl y)):Nat):Int)=0 then false&&false else decide (((mg x*2^(pl x-min (pl x) (pl y)):Nat):Int)+((mg y*2^(pl y-min (pl x) (pl y)):Nat):Int)<0))=false:=by
   split
   · rfl
   · exact decide_eq_false (Int.not_lt.2 (Int.add_nonneg (Int.natCast_nonneg _) (Int.natCast_nonneg _)))
 rw[k]
 show double.nearest false _ _=_
 rw[jq]
 congr 1
 rw[<-Int.natCast_add,Int.natAbs_natCast,Nat.add_mul,Nat.mul_assoc,k1,Nat.mul_assoc,k2]
 rfl
theorem oV{x:Nat}(h:x<aw):rd (vl x)=x:=by
 have hI:aw=9218868437227405312:=rfl
 unfold rd
 by_cases h0:x=0
 · subst h0;rfl
 have hm:mg x≠0:=λe=>h0 (gD.1 e)
 have hv:vl x≠0:=by
   intro e;rcases Nat.mul_eq_zero.1 e with c|c
   · exact hm c
   · have:=Nat.two_pow_pos (pl x);omega
 rw[if_neg hv]
 unfold vl
 rw[fx hm]
 by_cases hs:x<4503599627370496
 · have e1:mg x=x:=by unfold mg;rw[if_pos hs]
   have e2:pl x=0:=by unfold pl;omega
   have e3:x.log2<52:=(Nat.log2_lt h0).2 hs
   rw[e1,e2,show x.log2+0-52=0 by omega,dI,Nat.pow_zero,Nat.mul_one,Nat.zero_mul,Nat.zero_add,Nat.min_eq_left (Nat.le_of_lt h)]
 · have e1:mg x=4503599627370496+x%4503599627370496:=by unfold mg;rw[if_neg hs]
   have e3:(mg x).log2=52:=(Nat.log2_eq_iff hm).2 ⟨by rw[e1];show 4503599627370496<=_;omega,by rw[e1];show _<9007199254740992;omega⟩
   rw[e3,show 52+pl x-52=0+pl x by omega,el,dI,e1]
   have:(0+pl x)*4503599627370496+(4503599627370496+x%4503599627370496)=x:=by unfold pl;omega
   rw[this,Nat.min_eq_left (Nat.le_of_lt h)]
def c7(n:Nat):Nat:=double.nearest false n 0
theorem jm(n:Nat):c7 n=rd (n*2^1074):=jq n 1074
theorem dL:c7 0=0:=by decide
end TL
/-
  TlFl: floating numbers in a walk: what each operation comes to.
  By an AI agent.
-/
set_option linter.all false
namespace TL
open Go
abbrev Fb:=Nat
instance:Rp Nat where
 sz:=1
 rep _ _ _ cs x:=cs=[.float .f64 x]
 len h:=by subst h;rfl
 one h:=by subst h;simp[Value.oneCell']
 tr _ _ h:=h
instance:Fl Nat where
 cells x:=[.float .f64 x]
 rep_iff:=Iff.rfl
def er(m:Int):Nat:=FloatKind.f64.nearest m
theorem iB(n:Nat):er (n:Int)=c7 n:=by
 unfold er FloatKind.nearest FloatKind.encode c7
 rw[decide_eq_false (by omega)];rfl
theorem mZ{m:Int}(h:0<=m):er m<=aw:=by
 obtain⟨n,rfl⟩:=Int.eq_ofNat_of_zero_le h
 rw[iB];exact jH _ _
def dj(x:Nat):Bool:=Ieee.double.order x x !=some .eq
theorem lW{x:Nat}(h:x<=aw):dj x=false:=by
 unfold dj;rw[cE h h,cQ];rfl
section
variable{P:Program}{f:Fr}{w:World}{dst:Option Tmp}{ty:TypeId}{pos:String}{after:Array Edge}{g:Option (Nat×Bool)}{t t' s d:TypeId}{x y:Operand}{a b r:Nat}
variable{N:Value->World->Prop}
theorem jM(op:BinOp):(eqGuard op t x y (.float .f64 a) (.float .f64 b)).run P w= .ok () w:=by
 unfold eqGuard
 split<;>rfl
theorem kJ(hx:ev f x= .float .f64 a)(hy:ev f y= .float .f64 b)(h:Ieee.double.add a b=some r):(execOp (ev f) ⟨dst,.binOp .add t x y t',ty,pos,after,g⟩).run P w= .ok (.value (.float .f64 r)) w:=
 ny .add hx hy (jM _) (run_float_arith w .add t .f64 a b r h)
theorem ek{op:BinOp}{q:Bool}(hx:ev f x= .float .f64 a)(hy:ev f y= .float .f64 b)(h:∀w:World,(binOp op t (.float .f64 a) (.float .f64 b)).run P w= .ok (.bool q) w):(execOp (ev f) ⟨dst,.binOp op t x y t',ty,pos,after,g⟩).run P w= .ok (.value (.bool q)) w:=
 ny op hx hy (jM _) (h w)
theorem lM{q:Bool}(hx:ev f x= .float .f64 a)(hy:ev f y= .float .f64 b)(h:(Ieee.double.order a b==some .eq)=q):(execOp (ev f) ⟨dst,.binOp .eql t x y t',ty,pos,after,g⟩).run P w= .ok (.value (.bool q)) w:=
 ek hx hy (λw=>by rw[binOp_float_cmp_eql];show Sem.run P (pure (Value.bool (Ieee.double.order a b==some .eq))) w=_;rw[h];rfl)
theorem jI{q:Bool}(hx:ev f x= .float .f64 a)(hy:ev f y= .float .f64 b)(h:(Ieee.double.order a b !=some .eq)=q):(execOp (ev f) ⟨dst,.binOp .neq t x y t',ty,pos,after,g⟩).run P w= .ok (.value (.bool q)) w:=
 ek hx hy (λw=>by rw[binOp_float_cmp_neq];show Sem.run P (pure (Value.bool (Ieee.double.order a b !=some .eq))) w=_;rw[h];rfl)
theorem kC(ha:a<=aw)(hb:b<=aw):(Ieee.double.order a b==some .eq)=decide (a=b):=by
 rw[cE ha hb]
 rcases Nat.lt_trichotomy a b with h|h|h
 · rw[dH h,decide_eq_false (by omega)];rfl
 · rw[h,cQ];simp
 · rw[dr h,decide_eq_false (by omega)];rfl
theorem gA(hx:ev f x= .float .f64 a)(hy:ev f y= .float .f64 b)(ha:a<=aw)(hb:b<=aw):(execOp (ev f) ⟨dst,.binOp .eql t x y t',ty,pos,after,g⟩).run P w= .ok (.value (.bool (decide (a=b)))) w:=
 lM hx hy (kC ha hb)
theorem oz(hx:ev f x= .float .f64 a)(hy:ev f y= .float .f64 b)(ha:a<=aw)(hb:b<=aw):(execOp (ev f) ⟨dst,.binOp .neq t x y t',ty,pos,after,g⟩).run P w= .ok (.value (.bool (!decide (a=b)))) w:=
 jI hx hy (by rw[bne,kC ha hb])
theorem nV(hx:ev f x= .float .f64 a)(hy:ev f y= .float .f64 b)(ha:a<=aw)(hb:b<=aw):(execOp (ev f) ⟨dst,.binOp .gtr t x y t',ty,pos,after,g⟩).run P w= .ok (.value (.bool (decide (b<a)))) w:=
 ek hx hy (λw=>by
   rw[binOp_float_cmp_gtr]
   show Sem.run P (pure (Value.bool (Ieee.double.order a b==some .gt))) w=_
   rw[cE ha hb]
   rcases Nat.lt_trichotomy a b with h|h|h
   · rw[dH h,decide_eq_false (by omega)];rfl
   · rw[h,cQ,decide_eq_false (by omega)];rfl
   · rw[dr h,decide_eq_true h];rfl)
theorem j3(hx:ev f x= .float .f64 a)(hy:ev f y= .float .f64 a):(execOp (ev f) ⟨dst,.binOp .neq t x y t',ty,pos,after,g⟩).run P w= .ok (.value (.bool (dj a))) w:=
  jI hx hy rfl
theorem pm{fid:Nat}{fn:Func}{e:Array Value->Sem Value}{v u:Value}{at_:Array TypeId}(hf:P.funcs[fid]? =some fn)(hname:(fn.name== "runtime.NumGoroutine")=false)(hb:fn.body.isNone=true)(hn:(Extern.findNext fn).isNone=true)(he:Extern.find fn=some e)(hx:ev f x=v)(h:(e #[v]).run P w= .ok u w):
   (execOp (ev f) ⟨dst,.call {callee:=.value (.func fid),args:= #[x],argTypes:=at_},ty,pos,after,g⟩).run P w= .ok (.value u) w:=by
 have hn':Extern.findNext fn=none:=by simpa using hn
 have:=run_callFunc_extern hf hname hb hn' he #[v] w
 rw[h] at this
 have ha:(#[x]).map (ev f)= #[v]:=by simp[hx]
 have h0:∀q:Operand,ev f (.func fid)= .func (.func fid) #[] #[]:=λ_=>rfl
 simp only[execOp,resolve,h0 x,Deferred.ofValue,invoke,ha,Sem.run_bind,Sem.run_pure,Result.andThen_ok,Array.append_empty,Array.empty_append]
 exact this
theorem fH{fid:Nat}{fn:Func}{at_:Array TypeId}{n:Int}(hf:P.funcs[fid]? =some fn)(hname:(fn.name== "runtime.NumGoroutine")=false)(hb:fn.body.isNone=true)(hn:(Extern.findNext fn).isNone=true)(he:Extern.find fn=some Extern.MathFloatBits.float64frombits)(hx:ev f x= .int .u64 n):
   (execOp (ev f) ⟨dst,.call {callee:=.value (.func fid),args:= #[x],argTypes:=at_},ty,pos,after,g⟩).run P w= .ok (.value (.float .f64 n.toNat)) w:=
 pm hf hname hb hn he hx rfl
end
end TL
/-
  TlLit: a list of lists that is written out, with one list in it, as an owned list of lists.
  By an AI agent.
-/
set_option linter.all false
namespace TL
open Go
end TL
namespace TL
open Go
theorem mf{P:Program}{f:Fr}{w:World}{dst:Option Tmp}{ty:TypeId}{pos:String}{after:Array Edge}{g:Option (Nat×Bool)}{t t':TypeId}{x y:Operand}{a b:Nat}{q:Bool}(hx:ev f x= .float .f64 a)(hy:ev f y= .float .f64 b)(h:(Ieee.double.order a b==some .gt)=q):(execOp (ev f) ⟨dst,.binOp .gtr t x y t',ty,pos,after,g⟩).run P w= .ok (.value (.bool q)) w:=
 ek hx hy (λw=>by rw[binOp_float_cmp_gtr];show Sem.run P (pure (Value.bool (Ieee.double.order a b==some .gt))) w=_;rw[h];rfl)
end TL
namespace TL
open Go
end TL
namespace TL
open Go
theorem l4{P:Program}{f:Fr}{w:World}{dst:Option Tmp}{ty:TypeId}{pos:String}{after:Array Edge}{g:Option (Nat×Bool)}{t t':TypeId}{x y:Operand}{a b:Nat}(hx:ev f x= .float .f64 a)(hy:ev f y= .float .f64 b)(ha:a<=aw)(hb:b<=aw):(execOp (ev f) ⟨dst,.binOp .lss t x y t',ty,pos,after,g⟩).run P w= .ok (.value (.bool (decide (a<b)))) w:=
 ek hx hy (λw=>by
   rw[binOp_float_cmp_lss]
   show Sem.run P (pure (Value.bool (Ieee.double.order a b==some .lt))) w=_
   rw[cE ha hb]
   rcases Nat.lt_trichotomy a b with h|h|h
   · rw[dH h,decide_eq_true h];rfl
   · rw[h,cQ,decide_eq_false (by omega)];rfl
   · rw[dr h,decide_eq_false (by omega)];rfl)
end TL
/-
  TlJudge2: what is told of a plot; its rotation.
  By an AI agent.
-/
set_option linter.all false
namespace TL
section
variable{p:fQ}{l:List Pt}{a b:Bool}{i k:Nat}
end
section
variable{g:aE}{p:fQ}
end
def pp(p:fQ)(l:List Int):List Pt:=l.map (pL p)
def nK(p:fQ)(o:Pt)(l:List Int):Prop:=∃j:Nat,j<l.length/\0<j/\lh (pc (gI (pp p l) (gI (arL o (pp p l)) ((j:Int)-1))) o) (pc (gI (pp p l) (gI (arL o (pp p l)) (j:Int))) o)
noncomputable instance (p:fQ) (o:Pt) (l:List Int):Decidable (nK p o l):=by unfold nK;infer_instance
def oZ(g:aE)(p:fQ):Prop:=∃v:Nat,v<g.1.toNat/\nK p (gI p.1 (v:Int)) (iU g (v:Int))
noncomputable instance (g:aE) (p:fQ):Decidable (oZ g p):=by unfold oZ;infer_instance
end TL
/-
  TlMet: what layer 29 (metric) computes, in plain words.
  By an AI agent.
-/
set_option linter.all false
namespace TL
open Go
end TL
namespace TL
open Go
def bK(x:Nat):Nat:=if dj x=true then oc else x
theorem mX{x:Nat}(h:dj x=true):oc=bK x:=by unfold bK;rw[if_pos h]
theorem mL{x:Nat}(h:¬dj x=true):x=bK x:=by unfold bK;rw[if_neg h]
theorem lX{x:Nat}(h:¬dj x=true)(h0:x=0):0=bK x:=by unfold bK;rw[if_neg h,h0]
end TL
namespace TL
open Go
end TL
namespace TL
open Go
end TL
namespace TL
open Go
end TL
namespace TL
open Go
end TL
namespace TL
end TL
namespace TL
open Go
end TL
/-
  TlZf: weights: floating numbers that are at least 0, of either sign of 0: in sums and comparisons such a one stands for its magnitude (zf).
  By an AI agent.
-/
set_option linter.all false
namespace TL
open Ieee
def cS(a b:Nat):Bool:=Ieee.double.order a b==some .gt
def ed(a b:Nat):Bool:=Ieee.double.order a b==some .gt||Ieee.double.order a b==some .eq
def oo(a b:Nat):Bool:=Ieee.double.order a b==some .lt
abbrev eh(x:Nat):Prop:=ed x 0=true
def zf(x:Nat):Nat:=x%9223372036854775808
theorem oQ{x:Nat}(h:x<=aw):zf x=x:=by
 have hI:aw=9218868437227405312:=rfl
 exact Nat.mod_eq_of_lt (by omega)
theorem je(x:Nat):double.read x=double.read (zf x)\/(double.read x=(double.read (zf x)).opposite/\(x/9223372036854775808)%2=1):=by
 have e1:zf x/9223372036854775808=0:=Nat.div_eq_of_lt (Nat.mod_lt _ (by decide))
 have e2:zf x%9223372036854775808=x%9223372036854775808:=Nat.mod_mod _ _
 unfold Format.read
 simp only[jy,i8,oe,mC]
 rw[e1,e2]
 rcases Nat.mod_two_eq_zero_or_one (x/9223372036854775808) with h|h
 · left;rw[h]
 · right
   refine⟨?_,h⟩
   rw[h]
   split
   · rfl
   · split
     · rfl
     · split<;>rfl
theorem oW{m:Nat}{i j:Int}(h:¬m=0):Datum.order (.number true m i) (.number false 0 j)=some .lt:=by
 have h1:∀k:Nat,0<m <<< k:=λk=>by rw[fC];exact Nat.mul_pos (Nat.pos_of_ne_zero h) (Nat.two_pow_pos _)
 simp only[Datum.order,signed,if_true,Nat.zero_shiftLeft,Bool.false_eq_true,if_false]
 have h2:=h1 (i-min i j).toNat
 generalize m <<< (i-min i j).toNat=q at h2
 have h3: -(q:Int)<((0:Nat):Int):=by omega
 simp only[compare,compareOfLessAndEq,h3,if_true]
theorem h8:double.read 0= .number false 0 (-1074):=by decide
theorem nM{x:Nat}(h:¬x<=aw)(h2:x<9223372036854775808):∃s t,double.read x= .nan s t:=by
 have hI:aw=9218868437227405312:=rfl
 unfold Format.read
 simp only[jy,i8,oe,mC]
 rw[Nat.mod_eq_of_lt h2,if_neg (by omega),if_neg (by omega),if_neg (by omega)]
 exact⟨_,_,rfl⟩
theorem fh{x:Nat}(h:eh x):zf x<=aw/\(double.read x=double.read (zf x)\/(zf x=0/\double.read x= .number true 0 (-1074))):=by
  have hz:zf x<9223372036854775808:=Nat.mod_lt _ (by decide)
  unfold eh ed Format.order at h
  rw[h8] at h
  have hle:zf x<=aw:=by
    by_cases c:zf x<=aw
    · exact c
    · obtain⟨s,t,e⟩:=nM c hz
      exfalso
      rcases je x with k|⟨k,_⟩<;>rw[k,e] at h<;>simp[Datum.order,Datum.opposite] at h
  refine⟨hle,?_⟩
  rcases je x with k|⟨k,_⟩
  · exact .inl k
  · right
    rcases Nat.lt_or_ge (zf x) aw with c|c
    · rw[k,bM c] at h
      rw[k,bM c]
      by_cases h0:mg (zf x)=0
      · have:=gD.1 h0
        refine⟨this,?_⟩
        rw[this];rfl
      · exfalso
        rw[Datum.opposite,show(!false)=true from rfl,oW h0] at h
        exact absurd h (by decide)
    · have e:zf x=aw:=Nat.le_antisymm hle c
      rw[k,e,co] at h
      exfalso
      simp[Datum.order,Datum.opposite] at h
structure nD(x x':Nat):Prop where
  le:x'<=aw
  l:∀y,double.order x y=double.order x' y
  r:∀y,double.order y x=double.order y x'
theorem kZ{x:Nat}(h:x<=aw):nD x x:=⟨h,λ_=>rfl,λ_=>rfl⟩
theorem gJ{x:Nat}(h:eh x):nD x (zf x):=by
 obtain⟨h1,h2⟩:=fh h
 refine⟨h1,λy=>?_,λy=>?_⟩<;>unfold Format.order<;>rcases h2 with k|⟨k0,k⟩
 · rw[k]
 · rw[k,k0,h8]
   cases double.read y<;>simp[Datum.order,signed]
 · rw[k]
 · rw[k,k0,h8]
   cases double.read y<;>simp[Datum.order,signed]
theorem gO{d x:Nat}(hd:d<=aw)(h:eh x):double.add d x=some (aD d (zf x))/\aD d (zf x)<=aw:=by
 obtain⟨h1,h2⟩:=fh h
 obtain⟨a1,a2⟩:=i5 hd h1
 refine⟨?_,a2⟩
 rw[<-a1]
 unfold Format.add
 rcases h2 with k|⟨k0,k⟩
 · rw[k]
 · rw[k,k0,h8]
   rcases fj hd with⟨m,i,e⟩|e<;>rw[e]<;>simp[Datum.sum,signed]
theorem oD{x x' y y':Nat}(h:nD x x')(k:nD y y'):cS x y=decide (y'<x'):=by
 unfold cS
 rw[h.l,k.r,cE h.le k.le]
 rcases Nat.lt_trichotomy x' y' with c|c|c
 · rw[dH c,decide_eq_false (by omega)];rfl
 · rw[c,cQ,decide_eq_false (by omega)];rfl
 · rw[dr c,decide_eq_true c];rfl
theorem nQ{x x' y y':Nat}(h:nD x x')(k:nD y y'):oo x y=decide (x'<y'):=by
 unfold oo
 rw[h.l,k.r,cE h.le k.le]
 rcases Nat.lt_trichotomy x' y' with c|c|c
 · rw[dH c,decide_eq_true c];rfl
 · rw[c,cQ,decide_eq_false (by omega)];rfl
 · rw[dr c,decide_eq_false (by omega)];rfl
theorem kL{x:Nat}(h:eh x):cS x 9218868437227405311=decide (zf x=aw):=by
  have hI:aw=9218868437227405312:=rfl
  have h1:=(fh h).1
  rw[oD (gJ h) (kZ (by omega)),decide_eq_decide];omega
theorem nz{x:Nat}(h:eh x):dj x=false:=by
 unfold dj
 have k:=gJ h
 rw[k.l,k.r,cE k.le k.le,cQ];rfl
open Go
theorem mr{P:Program}{f:Fr}{w:World}{dst:Option Tmp}{ty:TypeId}{pos:String}{after:Array Edge}{g:Option (Nat×Bool)}{t t':TypeId}{x y:Operand}{a b a' b':Nat}(hx:ev f x= .float .f64 a)(hy:ev f y= .float .f64 b)(ha:nD a a')(hb:nD b b'):(execOp (ev f) ⟨dst,.binOp .lss t x y t',ty,pos,after,g⟩).run P w= .ok (.value (.bool (decide (a'<b')))) w:=
 ek hx hy (λw=>by rw[binOp_float_cmp_lss];show Sem.run P (pure (Value.bool (oo a b))) w=_;rw[nQ ha hb];rfl)
theorem mP{P:Program}{f:Fr}{w:World}{dst:Option Tmp}{ty:TypeId}{pos:String}{after:Array Edge}{g:Option (Nat×Bool)}{t t':TypeId}{x y:Operand}{a b:Nat}{q:Bool}(hx:ev f x= .float .f64 a)(hy:ev f y= .float .f64 b)(h:ed a b=q):(execOp (ev f) ⟨dst,.binOp .geq t x y t',ty,pos,after,g⟩).run P w= .ok (.value (.bool q)) w:=
 ek hx hy (λw=>by rw[binOp_float_cmp_geq];show Sem.run P (pure (Value.bool (ed a b))) w=_;rw[h];rfl)
end TL
/-
  TlPq: a heap of places (how far, which node), as container/heap keeps it: what is taken is the least, and nothing else is lost.
  By an AI agent.
-/
set_option linter.all false
namespace TL
abbrev Pl:=Nat×Int
def bO(a b:Pl):Prop:=a.1<b.1\/a.1=b.1/\a.2<b.2
instance (a b:Pl):Decidable (bO a b):=by unfold bO;infer_instance
theorem dd(a:Pl):¬bO a a:=by unfold bO;omega
theorem d6{a b c:Pl}(h1:¬bO b a)(h2:¬bO c b):¬bO c a:=by unfold bO at*;omega
theorem fG{a b:Pl}(h:bO a b):¬bO b a:=by unfold bO at*;omega
theorem nc{a b:Pl}(h1:¬bO a b)(h2:¬bO b a):a=b:=by
 unfold bO at*
 exact Prod.ext (by omega) (by omega)
def bP(xs:List Pl)(i:Nat):Pl:=gI xs (i:Int)
theorem cC{xs:List Pl}{i:Nat}(h:i<xs.length):bP xs i=xs[i]:=by unfold bP gI;simp[h]
def iK(xs:List Pl)(i j:Nat):List Pl:=(xs.set i (bP xs j)).set j (bP xs i)
theorem bN(xs:List Pl)(i j:Nat):(iK xs i j).length=xs.length:=by unfold iK;rw[List.length_set,List.length_set]
theorem eN{xs:List Pl}{i j k:Nat}(hi:i<xs.length)(hj:j<xs.length)(hk:k<xs.length):bP (iK xs i j) k=if k=j then bP xs i else if k=i then bP xs j else bP xs k:=by
 rw[cC (by rw[bN];exact hk)]
 unfold iK
 rw[List.getElem_set]
 by_cases h1:j=k
 · rw[if_pos h1,if_pos h1.symm]
 · rw[if_neg h1,if_neg (λe=>h1 e.symm),List.getElem_set]
   by_cases h2:i=k
   · rw[if_pos h2,if_pos h2.symm]
   · rw[if_neg h2,if_neg (λe=>h2 e.symm),cC hk]
theorem d7{xs:List Pl}{i j:Nat}(hi:i<xs.length)(hj:j<xs.length):(iK xs i j).Perm xs:=by
 unfold iK
 rw[cC hi,cC hj]
 exact List.set_set_perm hi hj
def fW(xs:List Pl)(i n:Nat):Nat:=if 2*i+1+1<n/\bO (bP xs (2*i+1+1)) (bP xs (2*i+1)) then 2*i+1+1 else 2*i+1
def dn:Nat->List Pl->Nat->Nat->List Pl
 |0,xs,_,_=>xs
 |k+1,xs,i,n=>if n<=2*i+1 then xs else if bO (bP xs (fW xs i n)) (bP xs i) then dn k (iK xs i (fW xs i n)) (fW xs i n) n else xs
def up:Nat->List Pl->Nat->List Pl
 |0,xs,_=>xs
 |k+1,xs,j=>if(j-1)/2=j\/¬bO (bP xs j) (bP xs ((j-1)/2)) then xs else up k (iK xs ((j-1)/2) j) ((j-1)/2)
def ec(xs:List Pl)(n:Nat):Prop:=∀k,1<=k->k<n->¬bO (bP xs k) (bP xs ((k-1)/2))
theorem l9{xs:List Pl}{n:Nat}(h:ec xs n):∀k,k<n->¬bO (bP xs k) (bP xs 0):=by
 intro k
 induction k using Nat.strongRecOn with
 |ind k ih=>
   intro hk
   by_cases h0:k=0
   · subst h0;exact dd _
   · exact d6 (ih ((k-1)/2) (by omega) (by omega)) (h k (by omega) hk)
structure oa(xs:List Pl)(i n:Nat):Prop where
  len:n<=xs.length
  ok:∀k,1<=k->k<n->(k-1)/2≠i->¬bO (bP xs k) (bP xs ((k-1)/2))
  gr:1<=i->∀k,1<=k->k<n->(k-1)/2=i->¬bO (bP xs k) (bP xs ((i-1)/2))
theorem gE{xs:List Pl}{i n:Nat}(h:¬n<=2*i+1):fW xs i n<n/\(fW xs i n-1)/2=i/\i<fW xs i n/\∀k,k<n->(k-1)/2=i->1<=k->¬bO (bP xs k) (bP xs (fW xs i n)):=by
 unfold fW
 split
 · rename_i c
   refine⟨by omega,by omega,by omega,λk hk hp h1=>?_⟩
   have:k=2*i+1\/k=2*i+1+1:=by omega
   rcases this with rfl|rfl
   · exact fG c.2
   · exact dd _
 · rename_i c
   refine⟨by omega,by omega,by omega,λk hk hp h1=>?_⟩
   have:k=2*i+1\/k=2*i+1+1:=by omega
   rcases this with rfl|rfl
   · exact dd _
   · exact λe=>c ⟨hk,e⟩
theorem oa.next{xs:List Pl}{i n:Nat}(h:oa xs i n)(hn:¬n<=2*i+1)(hl:bO (bP xs (fW xs i n)) (bP xs i)):oa (iK xs i (fW xs i n)) (fW xs i n) n:=by
 obtain⟨c1,c2,c3,c4⟩:=gE (xs:=xs) hn
 have hlen:=h.len
 generalize fW xs i n=c at c1 c2 c3 c4 hl ⊢
 have A:∀k,k<n->bP (iK xs i c) k=if k=c then bP xs i else if k=i then bP xs c else bP xs k:=λk hk=>eN (by omega) (by omega) (by omega)
 refine⟨by rw[bN];exact hlen,λk h1 h2 h3=>?_,λ_ k h1 h2 h3=>?_⟩
 · rw[A k h2,A ((k-1)/2) (by omega)]
   rw[if_neg (show¬(k-1)/2=c from h3)]
   by_cases hk:k=c
   · subst hk;rw[if_pos rfl,if_pos c2];exact fG hl
   · rw[if_neg hk]
     by_cases hi:k=i
     · subst hi
       rw[if_pos rfl,if_neg (by omega)]
       exact h.gr h1 c (by omega) c1 c2
     · rw[if_neg hi]
       by_cases hp:(k-1)/2=i
       · rw[if_pos hp];exact c4 k h2 hp h1
       · rw[if_neg hp];exact h.ok k h1 h2 hp
 · rw[A k h2,A ((c-1)/2) (by omega),if_neg (by omega),if_neg (by omega),if_neg (by omega),if_pos c2]
   have:=h.ok k h1 h2 (by omega)
   rw[h3] at this
   exact this
theorem oa.fin{xs:List Pl}{i n:Nat}(h:oa xs i n)(hf:n<=2*i+1\/¬bO (bP xs (fW xs i n)) (bP xs i)):ec xs n:=by
 intro k h1 h2
 by_cases hp:(k-1)/2=i
 · by_cases hn:n<=2*i+1
   · omega
   · obtain⟨c1,c2,c3,c4⟩:=gE (xs:=xs) hn
     rw[hp]
     exact d6 (hf.resolve_left hn) (c4 k h2 hp h1)
 · exact h.ok k h1 h2 hp
theorem jG:∀(f:Nat) (xs:List Pl) (i n:Nat),oa xs i n->n<=f+i->ec (dn f xs i n) n/\(dn f xs i n).length=xs.length/\(dn f xs i n).Perm xs/\∀k,n<=k->k<xs.length->bP (dn f xs i n) k=bP xs k
 |0,xs,i,n,h,hf=>⟨h.fin (.inl (by omega)),rfl,List.Perm.refl _,λ_ _ _=>rfl⟩
 |f+1,xs,i,n,h,hf=>by
   unfold dn
   by_cases hn:n<=2*i+1
   · rw[if_pos hn];exact⟨h.fin (.inl hn),rfl,List.Perm.refl _,λ_ _ _=>rfl⟩
   · rw[if_neg hn]
     by_cases hl:bO (bP xs (fW xs i n)) (bP xs i)
     · rw[if_pos hl]
       obtain⟨c1,c2,c3,c4⟩:=gE (xs:=xs) hn
       have hlen:=h.len
       obtain⟨k1,k2,k3,k4⟩:=jG f _ _ n (h.next hn hl) (by omega)
       refine⟨k1,by rw[k2,bN],k3.trans (d7 (by omega) (by omega)),λk h1 h2=>?_⟩
       rw[k4 k h1 (by rw[bN];exact h2),eN (by omega) (by omega) h2,if_neg (by omega),if_neg (by omega)]
     · rw[if_neg hl];exact⟨h.fin (.inr hl),rfl,List.Perm.refl _,λ_ _ _=>rfl⟩
structure pB(xs:List Pl)(j:Nat):Prop where
  len:j<xs.length
  ok:∀k,1<=k->k<xs.length->k≠j->¬bO (bP xs k) (bP xs ((k-1)/2))
  gr:1<=j->∀k,1<=k->k<xs.length->(k-1)/2=j->¬bO (bP xs k) (bP xs ((j-1)/2))
theorem jF:∀(f:Nat) (xs:List Pl) (j:Nat),pB xs j->j<=f->ec (up f xs j) xs.length/\(up f xs j).length=xs.length/\(up f xs j).Perm xs
 |0,xs,j,h,hf=>⟨λk h1 h2=>h.ok k h1 h2 (by omega),rfl,List.Perm.refl _⟩
 |f+1,xs,j,h,hf=>by
   have hlen:=h.len
   unfold up
   by_cases hc:(j-1)/2=j\/¬bO (bP xs j) (bP xs ((j-1)/2))
   · rw[if_pos hc]
     refine⟨λk h1 h2=>?_,rfl,List.Perm.refl _⟩
     by_cases e:k=j
     · subst e;rcases hc with hc|hc
       · omega
       · exact hc
     · exact h.ok k h1 h2 e
   · rw[if_neg hc]
     obtain⟨c1,c2⟩:=not_or.1 hc
     have hl:=Classical.not_not.1 c2
     have hj:1<=j:=by omega
     have A:∀k,k<xs.length->bP (iK xs ((j-1)/2) j) k=if k=j then bP xs ((j-1)/2) else if k=(j-1)/2 then bP xs j else bP xs k:=λk hk=>eN (by omega) (by omega) (by omega)
     have fT:pB (iK xs ((j-1)/2) j) ((j-1)/2):=by
       refine⟨by rw[bN];omega,λk h1 h2 h3=>?_,λhi k h1 h2 h3=>?_⟩
       · rw[bN] at h2
         rw[A k h2,A ((k-1)/2) (by omega)]
         by_cases e:k=j
         · subst e
           rw[if_pos rfl,if_neg (by omega),if_pos rfl];exact fG hl
         · rw[if_neg e,if_neg h3]
           by_cases p1:(k-1)/2=j
           · rw[if_pos p1];exact h.gr hj k h1 h2 p1
           · rw[if_neg p1]
             by_cases p2:(k-1)/2=(j-1)/2
             · rw[if_pos p2]
               have:=h.ok k h1 h2 e
               rw[p2] at this
               exact d6 (fG hl) this
             · rw[if_neg p2];exact h.ok k h1 h2 e
       · rw[bN] at h2
         have hpj:((j-1)/2-1)/2<xs.length:=by omega
         rw[A k h2,A _ hpj,if_neg (show¬((j-1)/2-1)/2=j by omega),if_neg (show¬((j-1)/2-1)/2=(j-1)/2 by omega)]
         have hq:=h.ok ((j-1)/2) (by omega) (by omega) (by omega)
         by_cases e:k=j
         · rw[if_pos e];exact hq
         · rw[if_neg e,if_neg (by omega)]
           have:=h.ok k h1 h2 e
           rw[h3] at this
           exact d6 hq this
     obtain⟨k1,k2,k3⟩:=jF f _ _ fT (by omega)
     rw[bN] at k1 k2
     exact⟨k1,k2,k3.trans (d7 (by omega) (by omega))⟩
def gy(xs:List Pl)(x:Pl):List Pl:=up xs.length (xs++[x]) xs.length
theorem li{xs:List Pl}{x:Pl}{k:Nat}(h:k<xs.length):bP (xs++[x]) k=bP xs k:=by
 rw[cC (by rw[List.length_append];exact Nat.lt_of_lt_of_le h (Nat.le_add_right _ _)),cC h,List.getElem_append_left h]
theorem jS{xs:List Pl}(x:Pl)(h:ec xs xs.length):ec (gy xs x) (xs.length+1)/\(gy xs x).length=xs.length+1/\(gy xs x).Perm (x::xs):=by
 have hl:(xs++[x]).length=xs.length+1:=by rw[List.length_append];rfl
 have hu:pB (xs++[x]) xs.length:=by
   refine⟨by omega,λk h1 h2 h3=>?_,λ_ k h1 h2 h3=>by omega⟩
   rw[li (by omega),li (by omega)]
   exact h k h1 (by omega)
 obtain⟨k1,k2,k3⟩:=jF xs.length _ _ hu (Nat.le_refl _)
 rw[hl] at k1 k2
 exact⟨k1,k2,k3.trans (List.perm_append_comm (l₁:=xs) (l₂:=[x]))⟩
def cm(xs:List Pl):List Pl:=dn (xs.length-1) (iK xs 0 (xs.length-1)) 0 (xs.length-1)
theorem fw{xs:List Pl}(h:ec xs xs.length)(h0:0<xs.length):ec ((cm xs).take (xs.length-1)) (xs.length-1)/\(cm xs).length=xs.length/\bP (cm xs) (xs.length-1)=bP xs 0/\xs.Perm (bP xs 0::(cm xs).take (xs.length-1)):=by
 have hd:oa (iK xs 0 (xs.length-1)) 0 (xs.length-1):=by
   refine⟨by rw[bN];omega,λk h1 h2 h3=>?_,λh1=>by omega⟩
   rw[eN (by omega) (by omega) (by omega),eN (by omega) (by omega) (by omega),if_neg (by omega),if_neg (by omega),if_neg (by omega),if_neg h3]
   exact h k h1 (by omega)
 obtain⟨k1,k2,k3,k4⟩:=jG (xs.length-1) _ _ _ hd (by omega)
 rw[bN] at k2 k4
 have e1:bP (cm xs) (xs.length-1)=bP xs 0:=by
   unfold cm
   rw[k4 (xs.length-1) (Nat.le_refl _) (by omega),eN (by omega) (by omega) (by omega),if_pos rfl]
 have hpl:(cm xs).length=xs.length:=k2
 have hat:∀k,k<xs.length-1->bP ((cm xs).take (xs.length-1)) k=bP (cm xs) k:=by
   intro k hk
   rw[cC (by rw[List.length_take];omega),cC (by omega),List.getElem_take]
 refine⟨λk h1 h2=>?_,hpl,e1,?_⟩
 · rw[hat k h2,hat _ (by omega)];exact k1 k h1 h2
 · have p1:(cm xs).Perm xs:=k3.trans (d7 (by omega) (by omega))
   have e2:cm xs=(cm xs).take (xs.length-1)++[bP xs 0]:=by
     rw[<-e1,cC (by omega)]
     have:=List.take_append_getElem (i:=xs.length-1) (show xs.length-1<(cm xs).length by omega)
     rw[this,List.take_of_length_le (by omega)]
   have p2:((cm xs).take (xs.length-1)++[bP xs 0]).Perm (bP xs 0::(cm xs).take (xs.length-1)):=List.perm_append_comm
   rw[<-e2] at p2
   exact p1.symm.trans p2
end TL
namespace TL
theorem oq{a b:Pl}(h:¬a.1=b.1):decide (a.1<b.1)=decide (bO a b):=by rw[decide_eq_decide];unfold bO;omega
theorem og{a b:Pl}(h:a.1=b.1):decide (a.2<b.2)=decide (bO a b):=by rw[decide_eq_decide];unfold bO;omega
end TL
/-
  TlWay: ways of the least weight (package path): what From tells, as the document does it (the nearest node that is not settled, again and again), and that a heap of waiting nodes finds the same.
  By an AI agent.
-/
set_option linter.all false
namespace TL
abbrev FS:=List Nat×List Int
def cA(g:aE)(ws:List Nat):Int:=if bo g/\ws.length=g.2.length then(if∀x∈ws,eh x then 0 else 13) else 1
def bG(g:aE)(ws:List Nat)(d:Nat)(s:FS)(h:Int):FS:=
 if zf (gI ws (h/2))=aw then s else if aD d (zf (gI ws (h/2)))<gI s.1 (eo g h) then(s.1.set (eo g h).toNat (aD d (zf (gI ws (h/2)))),s.2.set (eo g h).toNat h) else s
def de(g:aE)(ws:List Nat)(d:Nat)(hs:List Int)(s:FS):FS:=hs.foldl (bG g ws d) s
def aY(far:List Nat)(se:List Bool):Nat->Int
 |0=> -1
 |k+1=>if gI se (k:Int)=false/\gI far (k:Int)<aw/\(aY far se k<0\/gI far (k:Int)<gI far (aY far se k)) then(k:Int) else aY far se k
def fV(g:aE)(ws:List Nat):Nat->FS->List Bool->FS
 |0,s,_=>s
 |f+1,s,se=>if aY s.1 se g.1.toNat<0 then s else fV g ws f (de g ws (gI s.1 (aY s.1 se g.1.toNat)) (gI (aa g) (aY s.1 se g.1.toNat)) s) (se.set (aY s.1 se g.1.toNat).toNat true)
def bF(n:Nat)(s:Int):FS:=((List.replicate n aw).set s.toNat 0,List.replicate n (-1))
def f4(g:aE)(ws:List Nat)(s:Int):FS:=fV g ws g.1.toNat (bF g.1.toNat s) (List.replicate g.1.toNat false)
def au(g:aE)(ws:List Nat)(s:Int):FS×Int:=if cA g ws=0 then(if 0<=s/\s<g.1 then(f4 g ws s,0) else(([],[]),2)) else(([],[]),cA g ws)
theorem nP{g:aE}{ws:List Nat}(h:cA g ws=0):bo g/\ws.length=g.2.length/\∀x∈ws,eh x:=by
 unfold cA at h
 by_cases c:bo g/\ws.length=g.2.length
 · rw[if_pos c] at h
   by_cases d:∀x∈ws,eh x
   · exact⟨c.1,c.2,d⟩
   · rw[if_neg d] at h;exact absurd h (by decide)
 · rw[if_neg c] at h;exact absurd h (by decide)
theorem iW{g:aE}{ws:List Nat}{s:Int}(h:¬cA g ws=0):au g ws s=(([],[]),cA g ws):=by unfold au;rw[if_neg h]
theorem fB{g:aE}{ws:List Nat}{s:Int}(h:cA g ws=0)(h2:¬(0<=s/\s<g.1)):au g ws s=(([],[]),2):=by unfold au;rw[if_pos h,if_neg h2]
theorem j6{g:aE}{ws:List Nat}{s:Int}(h:cA g ws=0)(h2:0<=s/\s<g.1):au g ws s=(f4 g ws s,0):=by unfold au;rw[if_pos h,if_pos h2]
-- what is picked
theorem gM(far:List Nat)(se:List Bool):∀k,aY far se k<k
 |0=>by unfold aY;omega
 |k+1=>by
   have:=gM far se k
   unfold aY;split<;>omega
def cM(far:List Nat)(se:List Bool)(v:Int):Prop:=gI se v=false/\gI far v<aw
theorem gu{far:List Nat}{se:List Bool}:∀{k:Nat},(∀v:Nat,v<k->¬cM far se v)->aY far se k= -1
 |0,_=>rfl
 |k+1,h=>by
   have i:=gu (k:=k) (λv hv=>h v (by omega))
   unfold aY
   rw[if_neg,i]
   intro c
   exact h k (by omega) ⟨c.1,c.2.1⟩
theorem jf{far:List Nat}{se:List Bool}{u:Nat}(hu:cM far se u):∀{k:Nat},u<k->(∀v:Nat,v<k->cM far se v->¬bO (gI far v,(v:Int)) (gI far u,(u:Int)))->aY far se k=u
  |0,h,_=>by omega
  |k+1,h,hm=>by
    unfold aY
    by_cases e:u=k
    · subst e
      rw[if_pos]
      refine⟨hu.1,hu.2,?_⟩
      by_cases c:aY far se u<0
      · exact .inl c
      · right
        -- what was picked ahead of it waits and is farther
        have aux:∀k,¬aY far se k<0->cM far se (aY far se k):=by
          intro k
          induction k with
          |zero=>intro c;unfold aY at c;omega
          |succ k ih=>
            intro c
            unfold aY at c ⊢
            split
            · rename_i d;exact⟨d.1,d.2.1⟩
            · rename_i d;rw[if_neg d] at c;exact ih c
        have h1:=aux u c
        have h2:=gM far se u
        obtain⟨v,hv⟩:∃v:Nat,aY far se u=v:=⟨(aY far se u).toNat,by omega⟩
        rw[hv] at h1 h2 ⊢
        have:=hm v (by omega) h1
        unfold bO at this
        simp only at this
        omega
    · have i:=jf hu (k:=k) (by omega) (λv hv=>hm v (by omega))
      rw[i,if_neg]
      intro c
      have:=hm k (by omega) ⟨c.1,c.2.1⟩
      have c3:=c.2.2
      unfold bO at this
      simp only at this
      omega
-- once all are settled no more rounds matter
def dV(se:List Bool):Nat:=se.count false
theorem fl{se:List Bool}{u:Nat}(hu:u<se.length)(h:gI se (u:Int)=false):dV (se.set u true)+1=dV se:=by
 have e:se[u]=false:=by
   have:gI se (u:Int)=se[u]:=by simp[gI,hu]
   rw[<-this];exact h
 unfold dV
 have hp:0<se.count false:=List.count_pos_iff.2 (e▸List.getElem_mem hu)
 rw[List.count_set hu,e]
 simp
 omega
end TL
namespace TL
theorem lk{x:Nat}(h:x<=aw):bK x=x:=by unfold bK;rw[lW h];rfl
theorem nU{g:aE}{ws:List Nat}(h:¬decide (bo g)=true):cA g ws=1:=by unfold cA;rw[if_neg];exact λc=>h (decide_eq_true c.1)
theorem ot{g:aE}{ws:List Nat}(h:¬(ws.length:Int)=(g.2.length:Int)):cA g ws=1:=by unfold cA;rw[if_neg];exact λc=>h (by rw[c.2])
theorem nL{g:aE}{ws:List Nat}{k:Int}(hm:decide (bo g)=true)(hl:(ws.length:Int)=(g.2.length:Int))(hk:0<=k/\k<ws.length)(h:¬ed (gI ws k) 0=true):cA g ws=13:=by
 unfold cA
 rw[if_pos ⟨of_decide_eq_true hm,by omega⟩,if_neg]
 exact λc=>h (c _ (bd hk.1 hk.2))
theorem lJ{ws:List Nat}{k:Nat}(h:∀i:Nat,i<k->eh (gI ws (i:Int)))(hk:ed (gI ws (k:Int)) 0=true):∀i:Nat,i<k+1->eh (gI ws (i:Int)):=by
 intro i hi
 by_cases e:i=k
 · subst e;exact hk
 · exact h i (by omega)
theorem oA{g:aE}{ws:List Nat}{k:Nat}(hm:decide (bo g)=true)(hl:(ws.length:Int)=(g.2.length:Int))(h:∀i:Nat,i<k->eh (gI ws (i:Int)))(hk:¬(k:Int)<ws.length):cA g ws=0:=by
 unfold cA
 rw[if_pos ⟨of_decide_eq_true hm,by omega⟩,if_pos]
 intro x hx
 obtain⟨i,hi,e⟩:=List.mem_iff_getElem.1 hx
 have:=h i (by omega)
 simp only[gI,Int.toNat_natCast,List.getD_eq_getElem?_getD,List.getElem?_eq_getElem hi,Option.getD_some] at this
 rw[<-e];exact this
end TL
/-
  TlDfs: components found by a stack: the document's way.
  By an AI agent.
-/
set_option linter.all false
namespace TL
theorem fz{g:aE}{v:Int}(h0:0<=v)(h1:v<g.1):gI (aa g) v=iU g v:=by
 unfold aa gI
 have:v.toNat<g.1.toNat:=by omega
 simp[List.getD_eq_getElem?_getD,this]
 congr 1
 omega
theorem kf(g:aE)(h:0<=g.1):((aa g).length:Int)=g.1:=by simp[aa];omega
section
variable{g:aE}{c0 c todo x:List Int}{n s:Int}
variable{v:Int}{k M:Nat}
end
end TL
/-
  TlWayH: From with a heap: what holds while it runs.
  By an AI agent.
-/
set_option linter.all false
namespace TL
theorem cO{xs:List Pl}{i:Int}(h:0<=i):bP xs i.toNat=gI xs i:=by unfold bP;rw[Int.toNat_of_nonneg h]
theorem ja{xs:List Pl}{i j:Int}(hi:0<=i)(hj:0<=j):(xs.set i.toNat (gI xs j)).set j.toNat (gI xs i)=iK xs i.toNat j.toNat:=by
 unfold iK;rw[cO hi,cO hj]
-- down
structure iJ(q xd:List Pl)(i:Int):Prop where
 len:xd.length=q.length
 perm:xd.Perm q
 i0:0<=i
 i1:i<q.length
 fin:∃f,q.length<=f+i.toNat+1/\dn f xd i.toNat (q.length-1)=cm q
theorem iJ.start{q:List Pl}(h:0<(q.length:Int)):iJ q ((q.set (Int.toNat 0) (gI q ((q.length:Int)-1))).set (Int.toNat ((q.length:Int)-1)) (gI q 0)) 0:=by
 rw[ja (by omega) (by omega)]
 have e:Int.toNat ((q.length:Int)-1)=q.length-1:=by omega
 rw[e]
 exact⟨bN _ _ _,d7 (by simp;omega) (by omega),by omega,h,q.length-1,by simp;omega,rfl⟩
theorem iJ.end1{q xd:List Pl}{i:Int}(h:iJ q xd i)(hc:((q.length:Int)-1)<=((2*i)+1)):xd=cm q:=by
 obtain⟨f,h1,h2⟩:=h.fin
 have i0:=h.i0
 rw[<-h2]
 cases f with
 |zero=>rfl
 |succ f=>unfold dn;rw[if_pos (by omega)]
theorem iJ.end2{q xd:List Pl}{i c:Int}(h:iJ q xd i)(hn:¬((q.length:Int)-1)<=((2*i)+1))(hc:(fW xd i.toNat (q.length-1):Int)=c)(hl:¬(decide (bO (gI xd c) (gI xd i)))=true):xd=cm q:=by
 obtain⟨f,h1,h2⟩:=h.fin
 have i0:=h.i0
 rw[<-h2]
 cases f with
 |zero=>rfl
 |succ f=>
   unfold dn;rw[if_neg (by omega),if_neg]
   intro k
   apply hl
   rw[cO i0] at k
   rw[<-hc]
   exact decide_eq_true k
theorem iJ.next{q xd:List Pl}{i c:Int}(h:iJ q xd i)(hn:¬((q.length:Int)-1)<=((2*i)+1))(hc:(fW xd i.toNat (q.length-1):Int)=c)(hl:(decide (bO (gI xd c) (gI xd i)))=true):iJ q ((xd.set i.toNat (gI xd c)).set c.toNat (gI xd i)) c:=by
 obtain⟨f,h1,h2⟩:=h.fin
 have i0:=h.i0
 have hlen:=h.len
 have c0:0<=c:=by omega
 obtain⟨k1,k2,k3,k4⟩:=gE (xs:=xd) (i:=i.toNat) (n:=q.length-1) (by omega)
 rw[ja i0 c0]
 have e:fW xd i.toNat (q.length-1)=c.toNat:=by omega
 refine⟨by rw[bN,hlen],(d7 (by omega) (by omega)).trans h.perm,c0,by omega,?_⟩
 cases f with
 |zero=>omega
 |succ f=>
   refine⟨f,by omega,?_⟩
   rw[<-h2]
   conv=>rhs;unfold dn
   rw[if_neg (by omega),if_pos,e]
   rw[cO i0,e,cO c0]
   exact of_decide_eq_true hl
theorem nF{xd:List Pl}{n:Nat}{i:Int}(i0:0<=i)(h:(((2*i)+1)+1)<((n:Int)-1))(hp:(decide (bO (gI xd (((2*i)+1)+1)) (gI xd ((2*i)+1))))=true):(fW xd i.toNat (n-1):Int)=((2*i)+1)+1:=by
 unfold fW
 have hp:=of_decide_eq_true hp
 have e1:bP xd (2*i.toNat+1+1)=gI xd (((2*i)+1)+1):=by rw[<-cO (by omega)];congr 1;omega
 have e2:bP xd (2*i.toNat+1)=gI xd ((2*i)+1):=by rw[<-cO (by omega)];congr 1;omega
 rw[if_pos ⟨by omega,by rw[e1,e2];exact hp⟩];omega
theorem js{xd:List Pl}{n:Nat}{i:Int}(i0:0<=i)(h:¬(((2*i)+1)+1)<((n:Int)-1)\/¬(decide (bO (gI xd (((2*i)+1)+1)) (gI xd ((2*i)+1))))=true):(fW xd i.toNat (n-1):Int)=(2*i)+1:=by
 unfold fW
 have e1:bP xd (2*i.toNat+1+1)=gI xd (((2*i)+1)+1):=by rw[<-cO (by omega)];congr 1;omega
 have e2:bP xd (2*i.toNat+1)=gI xd ((2*i)+1):=by rw[<-cO (by omega)];congr 1;omega
 rw[if_neg,show((2*i.toNat+1:Nat):Int)=2*i+1 by omega]
 rintro⟨a,b⟩
 rw[e1,e2] at b
 rcases h with h|h
 · omega
 · exact h (decide_eq_true b)
theorem iJ.nn{q xd:List Pl}{i:Int}(h:iJ q xd i)(hq:∀x∈q,x.1<=aw):∀x∈xd,x.1<=aw:=λx hx=>hq x (h.perm.mem_iff.1 hx)
-- up
def ni(l:List Pl):List Pl:=up (l.length-1) l (l.length-1)
theorem mj(q:List Pl)(x:Pl):gy q x=ni (q++[x]):=by unfold gy ni;rw[List.length_append];rfl
structure jA(l xu:List Pl)(j:Int):Prop where
 len:xu.length=l.length
 perm:xu.Perm l
 j0:0<=j
 j1:j<l.length
 fin:∃f,j.toNat<=f/\up f xu j.toNat=ni l
theorem jA.start{l:List Pl}(h:0<(l.length:Int)):jA l l ((l.length:Int)-1):=
 ⟨rfl,List.Perm.refl _,by omega,by omega,l.length-1,by omega,by rw[show((l.length:Int)-1).toNat=l.length-1 by omega];rfl⟩
theorem jA.end1{l xu:List Pl}{j:Int}(h:jA l xu j)(hc:Int.tdiv (j-1) 2=j):xu=ni l:=by
 obtain⟨f,h1,h2⟩:=h.fin
 have j0:=h.j0
 have:j=0:=by
   rcases Int.lt_or_le 0 j with c|c
   · rw[Int.tdiv_eq_ediv_of_nonneg (by omega)] at hc;omega
   · omega
 subst this
 rw[<-h2]
 cases f with
 |zero=>rfl
 |succ f=>unfold up;rw[if_pos (.inl (by decide))]
theorem dx{j:Int}(j0:0<=j)(hc:¬Int.tdiv (j-1) 2=j):1<=j/\Int.tdiv (j-1) 2=(j-1)/2:=by
 by_cases c:1<=j
 · exact⟨c,Int.tdiv_eq_ediv_of_nonneg (by omega)⟩
 · have:j=0:=by omega
   subst this
   exact absurd (by decide) hc
theorem jA.end2{l xu:List Pl}{j:Int}(h:jA l xu j)(hc:¬Int.tdiv (j-1) 2=j)(hl:¬(decide (bO (gI xu j) (gI xu (Int.tdiv (j-1) 2))))=true):xu=ni l:=by
 obtain⟨f,h1,h2⟩:=h.fin
 have j0:=h.j0
 obtain⟨c1,c2⟩:=dx j0 hc
 rw[<-h2]
 cases f with
 |zero=>rfl
 |succ f=>
   have hh:¬bO (bP xu j.toNat) (bP xu ((j.toNat-1)/2)):=by
     intro k
     apply hl
     rw[c2,<-cO j0,<-cO (by omega),show((j-1)/2).toNat=(j.toNat-1)/2 by omega]
     exact decide_eq_true k
   unfold up;rw[if_pos (.inr hh)]
theorem jA.next{l xu:List Pl}{j:Int}(h:jA l xu j)(hc:¬Int.tdiv (j-1) 2=j)(hl:(decide (bO (gI xu j) (gI xu (Int.tdiv (j-1) 2))))=true):jA l ((xu.set (Int.tdiv (j-1) 2).toNat (gI xu j)).set j.toNat (gI xu (Int.tdiv (j-1) 2))) (Int.tdiv (j-1) 2):=by
 obtain⟨f,h1,h2⟩:=h.fin
 have j0:=h.j0
 have j1:=h.j1
 have hlen:=h.len
 obtain⟨c1,c2⟩:=dx j0 hc
 rw[c2] at hl ⊢
 rw[ja (by omega) j0]
 refine⟨by rw[bN,hlen],(d7 (by omega) (by omega)).trans h.perm,by omega,by omega,?_⟩
 cases f with
 |zero=>omega
 |succ f=>
   refine⟨f,by omega,?_⟩
   rw[<-h2]
   conv=>rhs;unfold up
   have e:((j-1)/2).toNat=(j.toNat-1)/2:=by omega
   rw[if_neg,e]
   rintro(k|k)
   · omega
   · apply k
     rw[cO j0,<-e,cO (by omega)]
     exact of_decide_eq_true hl
theorem jA.nn{l xu:List Pl}{j:Int}(h:jA l xu j)(hq:∀y∈l,y.1<=aw):∀y∈xu,y.1<=aw:=λy hy=>hq y (h.perm.mem_iff.1 hy)
-- all of it
structure pr(g:aE)(q:List Pl)(far:List Nat)(by_:List Int)(se:List Bool):Prop where
  lf:(far.length:Int)=g.1
  lb:(by_.length:Int)=g.1
  ls:(se.length:Int)=g.1
  hp:ec q q.length
  nn:∀x∈far,x<=aw
  qin:∀p∈q,(0<=p.2/\p.2<g.1)/\p.1<aw/\gI far p.2<=p.1
  cov:∀v:Int,0<=v->v<g.1->cM far se v->(gI far v,v)∈q
def fv(g:aE)(q:List Pl)(se:List Bool):Nat:=dV se*(2*g.2.length+1)+q.length
structure WI(g:aE)(ws:List Nat)(s:Int)(q:List Pl)(far:List Nat)(by_:List Int)(se:List Bool):Prop where
 h:pr g q far by_ se
 res:∃f,dV se<=f/\fV g ws f (far,by_) se=f4 g ws s
 sz:fv g q se<=1024*6145+1
theorem pr.qn{g:aE}{q:List Pl}{far:List Nat}{by_:List Int}{se:List Bool}(h:pr g q far by_ se):∀p∈q,p.1<=aw:=λp hp=>Nat.le_of_lt (h.qin p hp).2.1
theorem WI.ql{g:aE}{ws:List Nat}{s:Int}{q:List Pl}{far:List Nat}{by_:List Int}{se:List Bool}(h:WI g ws s q far by_ se):(q.length:Int)<=6292481:=by
 have:=h.sz;unfold fv at this;omega
theorem dS{α:Type}[Inhabited α]{n:Nat}{x:α}{v:Int}(h0:0<=v)(h1:v<n):gI (List.replicate n x) v=x:=by
 obtain⟨k,rfl⟩:∃k:Nat,v=(k:Int):=⟨v.toNat,by omega⟩
 have:k<n:=by omega
 simp[gI,this]
theorem WI.start{g:aE}{ws:List Nat}{s:Int}(hm:bo g)(h0:0<=s)(h1:s<g.1):WI g ws s [(0,s)] (bF g.1.toNat s).1 (bF g.1.toNat s).2 (List.replicate g.1.toNat false):=by
 obtain⟨m1,m2,m3,m4⟩:=hm
 have hf:∀v:Int,0<=v->v<g.1->gI (bF g.1.toNat s).1 v=if v=s then 0 else aw:=by
   intro v v0 v1
   unfold bF
   rw[bE h0 (by simp;omega) v0]
   by_cases e:v=s
   · rw[if_pos e,if_pos e]
   · rw[if_neg e,if_neg e,dS v0 (by omega)]
 refine⟨⟨by simp[bF];omega,by simp[bF];omega,by simp;omega,λk h1 h2=>by simp at h2;omega,?_,?_,?_⟩,⟨g.1.toNat,?_,rfl⟩,?_⟩
 · intro x hx
   unfold bF at hx
   rcases List.mem_or_eq_of_mem_set hx with e|e
   · rw[List.eq_of_mem_replicate e];exact Nat.le_refl _
   · rw[e];exact Nat.zero_le _
 · intro p hp
   rw[List.mem_singleton] at hp
   subst hp
   refine⟨⟨h0,h1⟩,(show 0<aw by decide),?_⟩
   show gI (bF g.1.toNat s).1 s<=0
   rw[hf s h0 h1,if_pos rfl];exact Nat.le_refl _
 · intro v v0 v1 hw
   have h2:=hw.2
   rw[hf v v0 v1] at h2 ⊢
   by_cases e:v=s
   · subst e;rw[if_pos rfl];exact List.mem_singleton.2 rfl
   · rw[if_neg e] at h2;exact absurd h2 (Nat.lt_irrefl _)
 · unfold dV;rw[List.count_replicate];simp
 · unfold fv dV;rw[List.count_replicate]
   simp only[beq_self_eq_true,if_true,List.length_singleton]
   have:g.1.toNat*(2*g.2.length+1)<=1024*6145:=Nat.mul_le_mul (by omega) (by omega)
   omega
end TL
/-
  TlWayI: From with a heap: one round.
  By an AI agent.
-/
set_option linter.all false
namespace TL
variable{g:aE}{ws:List Nat}{s:Int}{q r:List Pl}{p:Pl}{far:List Nat}{by_:List Int}{se:List Bool}
structure jX(g:aE)(q:List Pl)(far:List Nat)(p:Pl)(r:List Pl):Prop where
 p2:0<=p.2/\p.2<g.1
 p1:p.1<aw
 pf:gI far p.2<=p.1
 len:r.length+1=q.length
 hp:ec r r.length
 perm:q.Perm (p::r)
 min:∀x∈q,¬bO x p
theorem WI.pop{xj:List Pl}{L:Int}(h:WI g ws s q far by_ se)(hq:0<(q.length:Int))(hj:xj=cm q)(hL:L=(q.length:Int)-1):jX g q far (gI xj L) (xj.take L.toNat):=by
 have hq':0<q.length:=by omega
 obtain⟨h1,h2,h3,h4⟩:=fw h.h.hp hq'
 subst hj hL
 have e0:((q.length:Int)-1).toNat=q.length-1:=by omega
 have e1:gI (cm q) ((q.length:Int)-1)=bP q 0:=by
   rw[<-h3,<-cO (by omega),e0]
 rw[e1,e0]
 have hm:bP q 0∈q:=by rw[cC hq'];exact List.getElem_mem _
 have hl:((cm q).take (q.length-1)).length=q.length-1:=by rw[List.length_take,h2];omega
 obtain⟨a1,a2,a3⟩:=h.h.qin _ hm
 refine⟨a1,a2,a3,by rw[hl];omega,by rw[hl];exact h1,h4,λx hx=>?_⟩
 obtain⟨k,hk,e⟩:=List.mem_iff_getElem.1 hx
 have:=l9 h.h.hp k hk
 rw[cC hk,e] at this
 exact this
theorem WI.popx{xj:List Pl}(h:WI g ws s q far by_ se)(hq:0<(q.length:Int))(hj:xj=cm q):jX g q far (gI xj ((xj.length:Int)-1)) (xj.take (Int.toNat ((xj.length:Int)-1)))/\xj.length=q.length:=by
 have hl:xj.length=q.length:=by rw[hj];exact(fw h.h.hp (by omega)).2.1
 exact⟨h.pop hq hj (by rw[hl]),hl⟩
theorem jX.ne(pd:jX g q far p r){x:Pl}(hx:x∈q)(h:x.2≠p.2):x∈r:=by
 rcases List.mem_cons.1 (pd.perm.mem_iff.1 hx) with e|e
 · rw[e] at h;exact absurd rfl h
 · exact e
theorem WI.skip(h:WI g ws s q far by_ se)(pd:jX g q far p r)(hs:gI se p.2=true):WI g ws s r far by_ se/\fv g r se<fv g q se:=by
 have hl:=pd.len
 have hm:fv g r se<fv g q se:=by unfold fv;omega
 refine⟨⟨⟨h.h.lf,h.h.lb,h.h.ls,pd.hp,h.h.nn,λx hx=>h.h.qin x (pd.perm.mem_iff.2 (List.mem_cons_of_mem _ hx)),λv v0 v1 hw=>?_⟩,h.res,by have:=h.sz;omega⟩,hm⟩
 refine pd.ne (h.h.cov v v0 v1 hw) (λe=>?_)
 have e:v=p.2:=e
 have:=hw.1
 rw[e,hs] at this
 cases this
structure RI(g:aE)(ws:List Nat)(s:Int)(M:Nat)(u:Int)(d:Nat)(q:List Pl)(far:List Nat)(by_:List Int)(se:List Bool)(k:Nat):Prop where
 h:pr g q far by_ se
 res:∃f,dV se<=f/\fV g ws f (de g ws d ((gI (aa g) u).drop k) (far,by_)) se=f4 g ws s
 sz:fv g q se+2*g.2.length+2<=M+k
 mx:M<=1024*6145+1
theorem WI.settle(h:WI g ws s q far by_ se)(pd:jX g q far p r)(hs:¬gI se p.2=true):RI g ws s (fv g q se) p.2 p.1 r far by_ (se.set p.2.toNat true) 0:=by
 have hl:=pd.len
 obtain⟨p20,p21⟩:=pd.p2
 have hlf:=h.h.lf
 have hls:=h.h.ls
 have hs':gI se p.2=false:=by simpa using hs
 have hw:cM far se p.2:=⟨hs',Nat.lt_of_le_of_lt pd.pf pd.p1⟩
 have hin:=h.h.cov p.2 p20 p21 hw
 have hd:gI far p.2=p.1:=by
   have:=pd.min _ hin
   have h2:=pd.pf
   unfold bO at this
   simp only at this
   omega
 obtain⟨un,hun⟩:∃un:Nat,p.2=(un:Int):=⟨p.2.toNat,by omega⟩
 have hpk:aY far se g.1.toNat=p.2:=by
   rw[hun]
   refine jf (by rw[<-hun];exact hw) (by omega) (λv hv hwv=>?_)
   have h1:=h.h.cov v (by omega) (by omega) hwv
   have h2:=pd.min _ h1
   rw[<-hun,hd]
   exact h2
 have hu:dV (se.set un true)+1=dV se:=fl (by omega) (by rw[<-hun];exact hs')
 have hT:p.2.toNat=un:=by omega
 rw[hT]
 have gset:∀v:Int,0<=v->gI (se.set un true) v=if v=p.2 then true else gI se v:=by
   intro v v0
   rw[<-hT,bE p20 (by omega) v0]
 refine⟨⟨hlf,h.h.lb,by rw[List.length_set];exact hls,pd.hp,h.h.nn,λx hx=>h.h.qin x (pd.perm.mem_iff.2 (List.mem_cons_of_mem _ hx)),λv v0 v1 hwv=>?_⟩,?_,?_,h.sz⟩
 · have h1:=hwv.1
   rw[gset v v0] at h1
   by_cases e:v=p.2
   · rw[if_pos e] at h1;cases h1
   · rw[if_neg e] at h1
     exact pd.ne (h.h.cov v v0 v1 ⟨h1,hwv.2⟩) e
 · obtain⟨f,f1,f2⟩:=h.res
   cases f with
   |zero=>omega
   |succ f=>
     refine⟨f,by omega,?_⟩
     rw[<-f2]
     conv=>rhs;unfold fV
     rw[show(far,by_).1=far from rfl,hpk,if_neg (by omega),hd,hT,List.drop_zero]
 · unfold fv
   have e:dV se=dV (se.set un true)+1:=hu.symm
   rw[e,Nat.add_mul];omega
theorem fo(d:Nat)(x:Int)(l:List Int)(t:FS):de g ws d (x::l) t=de g ws d l (bG g ws d t x):=rfl
variable{M:Nat}{u:Int}{d:Nat}{k:Nat}
theorem RI.same(h:RI g ws s M u d q far by_ se k)(hk:(k:Int)<(gI (aa g) u).length)(e:bG g ws d (far,by_) (gI (gI (aa g) u) (k:Int))=(far,by_)):RI g ws s M u d q far by_ se (k+1):=by
 refine⟨h.h,?_,by have:=h.sz;omega,h.mx⟩
 have:=h.res
 rw[ju hk,fo,e] at this
 exact this
theorem RI.inf(h:RI g ws s M u d q far by_ se k)(hk:(k:Int)<(gI (aa g) u).length)(e:zf (gI ws (gI (gI (aa g) u) (k:Int)/2))=aw):RI g ws s M u d q far by_ se (k+1):=
 h.same hk (by unfold bG;rw[if_pos e])
theorem RI.no(h:RI g ws s M u d q far by_ se k)(hk:(k:Int)<(gI (aa g) u).length)(e:¬aD d (zf (gI ws (gI (gI (aa g) u) (k:Int)/2)))<gI far (eo g (gI (gI (aa g) u) (k:Int)))):RI g ws s M u d q far by_ se (k+1):=
 h.same hk (by
   unfold bG
   by_cases c:zf (gI ws (gI (gI (aa g) u) (k:Int)/2))=aw
   · rw[if_pos c]
   · rw[if_neg c];exact if_neg e)
theorem RI.push(h:RI g ws s M u d q far by_ se k)(hk:(k:Int)<(gI (aa g) u).length){hh t:Int}{x:Nat}(ehh:gI (gI (aa g) u) (k:Int)=hh)(et:eo g hh=t)(ex:aD d (zf (gI ws (hh/2)))=x)(t0:0<=t)(t1:t<g.1)
   (hi:¬zf (gI ws (hh/2))=aw)(e:x<gI far t):RI g ws s M u d (gy q (x,t)) (far.set t.toNat x) (by_.set t.toNat hh) se (k+1):=by
 have hlf:=h.h.lf
 have hlb:=h.h.lb
 obtain⟨p1,p2,p3⟩:=jS (x,t) h.h.hp
 have ht:gI far t<=aw:=h.h.nn _ (bd t0 (by omega))
 have gset:∀v:Int,0<=v->gI (far.set t.toNat x) v=if v=t then x else gI far v:=λv v0=>bE t0 (by omega) v0
 refine⟨⟨by rw[List.length_set];exact hlf,by rw[List.length_set];exact hlb,h.h.ls,by rw[p2];exact p1,λy hy=>?_,λy hy=>?_,λv v0 v1 hw=>?_⟩,?_,?_,h.mx⟩
 · rcases List.mem_or_eq_of_mem_set hy with c|c
   · exact h.h.nn _ c
   · rw[c];omega
 · rcases List.mem_cons.1 (p3.mem_iff.1 hy) with c|c
   · subst c
     refine⟨⟨t0,t1⟩,Nat.lt_of_lt_of_le e ht,?_⟩
     show gI (far.set t.toNat x) t<=x
     rw[gset t t0,if_pos rfl];exact Nat.le_refl _
   · obtain⟨a1,a2,a3⟩:=h.h.qin y c
     refine⟨a1,a2,?_⟩
     rw[gset _ a1.1]
     split
     · rename_i e2;rw[e2] at a3;omega
     · exact a3
 · have h2:=hw.2
   rw[gset v v0] at h2 ⊢
   by_cases e2:v=t
   · rw[if_pos e2,e2];exact p3.mem_iff.2 (List.mem_cons_self ..)
   · rw[if_neg e2] at h2 ⊢
     exact p3.mem_iff.2 (List.mem_cons_of_mem _ (h.h.cov v v0 v1 ⟨hw.1,h2⟩))
 · have:=h.res
   rw[ju hk,fo,ehh] at this
   have e3:bG g ws d (far,by_) hh=(far.set t.toNat x,by_.set t.toNat hh):=by
     unfold bG
     rw[if_neg hi,et,ex,if_pos e]
   rw[e3] at this
   exact this
 · have:=h.sz
   unfold fv at this ⊢
   rw[p2];omega
theorem jB(hm:bo g)(u0:0<=u)(u1:u<g.1):(gI (aa g) u).length<=2*g.2.length:=by
 rw[fz u0 u1]
 unfold iU dy
 refine Nat.le_trans (List.length_filter_le _ _) (by simp)
theorem RI.done(hm:bo g)(u0:0<=u)(u1:u<g.1)(h:RI g ws s M u d q far by_ se k)(hk:¬(k:Int)<(gI (aa g) u).length)(hle:(k:Int)<=(gI (aa g) u).length):WI g ws s q far by_ se/\fv g q se<M:=by
 have h1:=jB hm u0 u1
 have h2:=h.sz
 have h3:=h.mx
 refine⟨⟨h.h,?_,by omega⟩,by omega⟩
 have:=h.res
 rw[List.drop_eq_nil_of_le (by omega)] at this
 exact this
theorem RI.ql(h:RI g ws s M u d q far by_ se k):(q.length:Int)<=6292481+k:=by
 have:=h.sz;have h2:=h.mx;unfold fv at this;omega
theorem WI.done(h:WI g ws s q far by_ se)(hq:¬0<(q.length:Int)):(far,by_)=f4 g ws s:=by
 obtain⟨f,_,h2⟩:=h.res
 have hq':q=[]:=List.length_eq_zero_iff.1 (by omega)
 have hlf:=h.h.lf
 rw[<-h2]
 cases f with
 |zero=>rfl
 |succ f=>
   unfold fV
   rw[if_pos]
   rw[gu (far:=far) (se:=se)]
   · decide
   · intro v hv hw
     have:=h.h.cov v (by omega) (by omega) hw
     rw[hq'] at this;cases this
theorem im(hm:bo g)(u0:0<=u)(u1:u<g.1)(hk:(k:Int)<(gI (aa g) u).length):0<=gI (gI (aa g) u) (k:Int)/\gI (gI (aa g) u) (k:Int)<2*(g.2.length:Int)/\aW g (gI (gI (aa g) u) (k:Int))=u:=by
 have h1:=bd (xs:=gI (aa g) u) (i:=(k:Int)) (by omega) hk
 generalize gI (gI (aa g) u) (k:Int)=x at h1 ⊢
 rw[fz u0 u1] at h1
 unfold iU dy at h1
 obtain⟨a,b⟩:=List.mem_filter.1 h1
 obtain⟨i,hi,rfl⟩:=List.mem_map.1 a
 have:=List.mem_range.1 hi
 exact⟨by omega,by omega,of_decide_eq_true b⟩
end TL
namespace TL
structure eb(g:aE)(f0:List Nat)(b0:List Int)(v:Nat):Prop where
 lf:(f0.length:Int)=g.1
 lb:(b0.length:Int)=g.1
 ff:∀k:Nat,k<v->gI f0 (k:Int)=aw
 fb:∀k:Nat,k<v->gI b0 (k:Int)= -1
theorem eb.start{g:aE}(hm:bo g):eb g (List.replicate (Int.toNat g.1) (0:Nat)) (List.replicate (Int.toNat g.1) (0:Int)) 0:=by
 have:=hm.1
 exact⟨by simp;omega,by simp;omega,λk h=>by omega,λk h=>by omega⟩
theorem eb.next{g:aE}{f0:List Nat}{b0:List Int}{v:Nat}(h:eb g f0 b0 v)(hv:(v:Int)<g.1):eb g (f0.set (Int.toNat (v:Int)) aw) (b0.set (Int.toNat (v:Int)) (-1)) (v+1):=by
 have h1:=h.lf
 have h2:=h.lb
 refine⟨by rw[List.length_set];exact h1,by rw[List.length_set];exact h2,λk hk=>?_,λk hk=>?_⟩
 · rw[bE (by omega) (by omega) (by omega)]
   by_cases e:(k:Int)=v
   · rw[if_pos e]
   · rw[if_neg e];exact h.ff k (by omega)
 · rw[bE (by omega) (by omega) (by omega)]
   by_cases e:(k:Int)=v
   · rw[if_pos e]
   · rw[if_neg e];exact h.fb k (by omega)
theorem eb.done{g:aE}{ws:List Nat}{s:Int}{f0:List Nat}{b0:List Int}{v:Nat}(h:eb g f0 b0 v)(hm:bo g)(hv:¬(v:Int)<g.1)(s0:0<=s)(s1:s<g.1):WI g ws s [(0,s)] (f0.set s.toNat 0) b0 (List.replicate (Int.toNat g.1) false):=by
 have h1:=h.lf
 have h2:=h.lb
 have e1:f0=List.replicate g.1.toNat aw:=by
   apply cN
   · simp;omega
   · intro i hi
     rw[h.ff i (by omega),dS (by omega) (by omega)]
 have e2:b0=List.replicate g.1.toNat (-1):=by
   apply cN
   · simp;omega
   · intro i hi
     rw[h.fb i (by omega),dS (by omega) (by omega)]
 rw[e1,e2]
 exact WI.start hm s0 s1
variable{g:aE}{ws:List Nat}{s:Int}{q:List Pl}{far:List Nat}{by_:List Int}{se:List Bool}{M k:Nat}{u:Int}{d:Nat}
theorem nE(hw:∀x∈ws,eh x)(hl:ws.length=g.2.length){h:Int}(h0:0<=h)(h1:h<2*(g.2.length:Int)):eh (gI ws (h/2)):=hw _ (bd (by omega) (by omega))
theorem RI.inf'(h:RI g ws s M u d q far by_ se k)(hk:(k:Int)<(gI (aa g) u).length)(hg:eh (gI ws (gI (gI (aa g) u) (k:Int)/2)))(e:cS (gI ws (gI (gI (aa g) u) (k:Int)/2)) 9218868437227405311=true):RI g ws s M u d q far by_ se (k+1):=
 h.inf hk (by rw[kL hg] at e;exact of_decide_eq_true e)
theorem RI.push'(h:RI g ws s M u d q far by_ se k)(hk:(k:Int)<(gI (aa g) u).length){hh t:Int}{x:Nat}{qn:List Pl}(ehh:gI (gI (aa g) u) (k:Int)=hh)(et:eo g hh=t)(ex:aD d (zf (gI ws (hh/2)))=x)(t0:0<=t)(t1:t<g.1)(hg:eh (gI ws (hh/2)))
   (hi:¬cS (gI ws (hh/2)) 9218868437227405311=true)(e:x<gI far t)(hq:qn=ni (q++[(x,t)])):RI g ws s M u d qn (far.set t.toNat x) (by_.set t.toNat hh) se (k+1):=by
 rw[hq,<-mj]
 exact h.push hk ehh et ex t0 t1 (λc=>hi (by rw[kL hg];exact decide_eq_true c)) e
end TL
namespace TL
variable{g:aE}{ws:List Nat}{s:Int}{q:List Pl}{far:List Nat}{by_:List Int}{se:List Bool}{M k:Nat}{u:Int}{d:Nat}
theorem RI.fnn(h:RI g ws s M u d q far by_ se k){t:Int}(t0:0<=t)(t1:t<g.1):gI far t<=aw:=h.h.nn _ (bd t0 (by have:=h.h.lf;omega))
end TL
/-
  TlWayT: the way that leads to a node, from how the nodes were reached (package path's To), as the document has it.
  By an AI agent.
-/
set_option linter.all false
namespace TL
def dq(g:aE)(by_:List Int):Nat->Int->List Int->List Int×Int
 |0,v,l=>if gI by_ v= -1 then(l,0) else([],14)
 |f+1,v,l=>if gI by_ v= -1 then(l,0) else if gI by_ v<0\/2*(g.2.length:Int)<=gI by_ v\/¬eo g (gI by_ v)=v then([],14) else dq g by_ f (aW g (gI by_ v)) (gI by_ v::l)
def dF(fs:FS)(g:aE):Prop:=bo g/\(fs.1.length:Int)=g.1/\(fs.2.length:Int)=g.1
instance (fs:FS)(g:aE):Decidable (dF fs g):=by unfold dF;infer_instance
def cG(fs:FS)(g:aE)(t:Int):List Int×Int:=
 if dF fs g then(if 0<=t/\t<g.1 then(if cS (gI fs.1 t) 9218868437227405311=true then([],14) else dq g fs.2 g.1.toNat t []) else([],2)) else([],1)
variable{fs:FS}{g:aE}{t v:Int}{l:List Int}{n:Nat}
theorem k6(h:¬dF fs g):cG fs g t=([],1):=by unfold cG;rw[if_neg h]
theorem mO(h:dF fs g)(h2:¬(0<=t/\t<g.1)):cG fs g t=([],2):=by unfold cG;rw[if_pos h,if_neg h2]
theorem oT(h:dF fs g)(h2:0<=t/\t<g.1)(h3:cS (gI fs.1 t) 9218868437227405311=true):cG fs g t=([],14):=by unfold cG;rw[if_pos h,if_pos h2,if_pos h3]
theorem fR(h:dF fs g)(h2:0<=t/\t<g.1)(h3:¬cS (gI fs.1 t) 9218868437227405311=true):cG fs g t=dq g fs.2 g.1.toNat t []:=by unfold cG;rw[if_pos h,if_pos h2,if_neg h3]
structure kq(g:aE)(by_:List Int)(t v:Int)(l:List Int)(n:Nat):Prop where
  v0:0<=v
  v1:v<g.1
  ll:l.length=n
  ln:(n:Int)<=g.1
  eq:dq g by_ (g.1.toNat-n) v l=dq g by_ g.1.toNat t []
variable{by_:List Int}
theorem kq.start(t0:0<=t)(t1:t<g.1):kq g by_ t t [] 0:=⟨t0,t1,rfl,by omega,rfl⟩
theorem kq.fin(h:kq g by_ t v l n)(hv:gI by_ v= -1):dq g by_ g.1.toNat t []=(l,0):=by
 rw[<-h.eq]
 cases g.1.toNat-n<;>(unfold dq;rw[if_pos hv])
theorem kq.no(h:kq g by_ t v l n)(hv:¬gI by_ v= -1)(hh:(n:Int)=g.1\/gI by_ v<0\/2*(g.2.length:Int)<=gI by_ v\/¬eo g (gI by_ v)=v):dq g by_ g.1.toNat t []=([],14):=by
 rw[<-h.eq]
 have h1:=h.ln
 cases hc:g.1.toNat-n with
 |zero=>unfold dq;rw[if_neg hv]
 |succ k=>
   unfold dq;rw[if_neg hv,if_pos]
   rcases hh with e|e
   · omega
   · exact e
theorem kq.next(hm:bo g)(h:kq g by_ t v l n)(hv:¬gI by_ v= -1)(hn:¬(n:Int)=g.1)(h0:¬gI by_ v<0)(h1:¬2*(g.2.length:Int)<=gI by_ v)(h2:eo g (gI by_ v)=v):kq g by_ t (aW g (gI by_ v)) (gI by_ v::l) (n+1):=by
 have hl:=h.ln
 obtain⟨a,b⟩:=bA hm (h:=gI by_ v) (by omega) (by omega)
 refine⟨a,b,by rw[List.length_cons,h.ll],by omega,?_⟩
 rw[<-h.eq]
 have e:g.1.toNat-n=(g.1.toNat-(n+1))+1:=by omega
 rw[e]
 conv=>rhs;unfold dq
 rw[if_neg hv,if_neg]
 rintro(c|c|c)
 · exact h0 c
 · exact h1 c
 · exact c h2
end TL
/-
  TlFloat4: a sum of numbers that are at least 0 is not less than either; sums of small whole numbers are the whole numbers' sums.
  By an AI agent.
-/
set_option linter.all false
namespace TL
open Ieee
theorem nT{x:Nat}:x=pl x*4503599627370496+mg x:=by
 unfold mg pl
 split<;>omega
theorem oR{T x:Nat}(hx:x<aw)(h:vl x<=T):x<=rd T:=by
 by_cases h0:x=0
 · subst h0;exact Nat.zero_le _
 have hm:mg x≠0:=λe=>h0 (gD.1 e)
 have hv:vl x≠0:=by
   intro e;rcases Nat.mul_eq_zero.1 e with c|c
   · exact hm c
   · have:=Nat.two_pow_pos (pl x);omega
 have hT:T≠0:=by omega
 unfold rd
 rw[if_neg hT]
 refine Nat.le_min.2 ⟨?_,Nat.le_of_lt hx⟩
 have hc:T/2^(T.log2-52)<=gz T (T.log2-52):=Nat.le_add_right _ _
 have hL:=Nat.lt_log2_self (n:=T)
 have hlo:=Nat.log2_self_le hT
 have ex:=nT (x:=x)
 have mlt:=nG x
 by_cases c1:pl x<T.log2-52
 · have h1:4503599627370496<=T/2^(T.log2-52):=by
     refine(Nat.le_div_iff_mul_le (Nat.two_pow_pos _)).2 ?_
     rw[show(4503599627370496:Nat)=2^52 by decide,<-Nat.pow_add]
     exact Nat.le_trans (Nat.pow_le_pow_right (by omega) (by omega)) hlo
   omega
 · by_cases c2:T.log2-52<pl x
   · exfalso
     have hn:¬x<4503599627370496:=by
       intro c;unfold pl at c2;omega
     have e1:4503599627370496<=mg x:=by unfold mg;rw[if_neg hn];omega
     have h2:2^(52+pl x)<=vl x:=by
       unfold vl;rw[Nat.pow_add];exact Nat.mul_le_mul_right _ e1
     have h3:2^(T.log2+1)<=2^(52+pl x):=Nat.pow_le_pow_right (by omega) (by omega)
     omega
   · have e:pl x=T.log2-52:=by omega
     have h1:mg x<=T/2^(T.log2-52):=by
       refine(Nat.le_div_iff_mul_le (Nat.two_pow_pos _)).2 ?_
       rw[<-e];exact h
     omega
theorem kT{x y:Nat}(hx:x<=aw)(hy:y<=aw):x<=aD x y:=by
 rcases Nat.lt_or_ge x aw with c|c
 · rcases Nat.lt_or_ge y aw with d|d
   · rw[kw c d];exact oR c (Nat.le_add_right _ _)
   · obtain rfl:y=aw:=Nat.le_antisymm hy d
     have:aD x aw=aw:=by
       unfold aD Format.add
       rw[bM c,co]
       rfl
     rw[this];exact hx
 · obtain rfl:x=aw:=Nat.le_antisymm hx c
   have:aD aw y=aw:=by
     unfold aD Format.add
     rw[co]
     rcases fj hy with⟨m,i,e⟩|e<;>rw[e]<;>rfl
   rw[this];exact Nat.le_refl _
theorem eM{n:Nat}(h:n<9007199254740992):c7 n<aw/\vl (c7 n)=n*2^1074:=by
  have hI:aw=9218868437227405312:=rfl
  by_cases h0:n=0
  · subst h0
    rw[dL]
    refine⟨by decide,?_⟩
    generalize(2:Nat)^1074=K
    rw[Nat.zero_mul];rfl
  have hL:n.log2<53:=(Nat.log2_lt h0).2 h
  have hlo:=Nat.log2_self_le h0
  have hhi:=Nat.lt_log2_self (n:=n)
  obtain⟨L,eL⟩:∃L,L=n.log2:=⟨_,rfl⟩
  rw[<-eL] at hL hlo hhi
  obtain⟨m,em⟩:∃m,m=n*2^(52-L):=⟨_,rfl⟩
  have m1:4503599627370496<=m:=by
    rw[em,show(4503599627370496:Nat)=2^L*2^(52-L) by rw[<-Nat.pow_add,show L+(52-L)=52 by omega]]
    exact Nat.mul_le_mul_right _ hlo
  have m2:m<9007199254740992:=by
    rw[em,show(9007199254740992:Nat)=2^(L+1)*2^(52-L) by rw[<-Nat.pow_add,show L+1+(52-L)=53 by omega]]
    exact Nat.mul_lt_mul_of_pos_right hhi (Nat.two_pow_pos _)
  have hx:(1022+L)*4503599627370496+m<aw:=by omega
  have hv:vl ((1022+L)*4503599627370496+m)=n*2^1074:=by
    have e1:mg ((1022+L)*4503599627370496+m)=m:=by unfold mg;rw[if_neg (by omega)];omega
    have e2:pl ((1022+L)*4503599627370496+m)=1022+L:=by unfold pl;omega
    unfold vl
    rw[e1,e2,em,Nat.mul_assoc,<-Nat.pow_add,show 52-L+(1022+L)=1074 by omega]
  have e:=oV hx
  rw[hv,<-jm] at e
  rw[e]
  exact⟨hx,hv⟩
theorem cX{a b:Nat}(h:a+b<9007199254740992):aD (c7 a) (c7 b)=c7 (a+b):=by
 obtain⟨a1,a2⟩:=eM (n:=a) (by omega)
 obtain⟨b1,b2⟩:=eM (n:=b) (by omega)
 rw[kw a1 b1,a2,b2,jm,Nat.add_mul]
theorem eE{a b:Nat}(hb:b<9007199254740992)(h:a<b):c7 a<c7 b:=by
 obtain⟨a1,a2⟩:=eM (n:=a) (by omega)
 obtain⟨b1,b2⟩:=eM (n:=b) hb
 rcases Nat.lt_or_ge (c7 a) (c7 b) with c|c
 · exact c
 · exfalso
   have h2:=oN c
   rw[a2,b2] at h2
   have hp:=Nat.two_pow_pos 1074
   generalize(2:Nat)^1074=K at h2 hp
   have:=Nat.le_of_mul_le_mul_right h2 hp
   omega
theorem dQ{a b:Nat}(hb:b<9007199254740992)(h:a<=b):c7 a<=c7 b:=by
 rcases Nat.lt_or_ge a b with c|c
 · exact Nat.le_of_lt (eE hb c)
 · rw[Nat.le_antisymm h c];exact Nat.le_refl _
theorem i7{a b:Nat}(ha:a<9007199254740992)(hb:b<9007199254740992)(h:c7 a=c7 b):a=b:=by
 rcases Nat.lt_trichotomy a b with c|c|c
 · have:=eE hb c;omega
 · exact c
 · have:=eE ha c;omega
theorem bX{n:Nat}(h:n<9007199254740992):c7 n<aw:=(eM h).1
end TL
/-
  TlDij: what the document's From comes to: each length is that of the way found; no half-edge of a reached node leads nearer.
  By an AI agent.
-/
set_option linter.all false
namespace TL
abbrev hf(g:aE)(h:Int):Prop:=0<=h/\h<2*(g.2.length:Int)
abbrev nd(g:aE)(v:Int):Prop:=0<=v/\v<g.1
abbrev zw(ws:List Nat)(h:Int):Nat:=zf (gI ws (h/2))
structure jr(g:aE)(ws:List Nat)(s:Int)(far:List Nat)(by_:List Int)(se:List Bool)(rk:Int->Nat)(n:Nat)(p:Int)(done:List Int):Prop where
 lf:(far.length:Int)=g.1
 lb:(by_.length:Int)=g.1
 ls:(se.length:Int)=g.1
 nn:∀v,nd g v->gI far v<=aw
 s0:gI far s=0
 sb:gI by_ s= -1
 tr:∀v,nd g v->gI by_ v≠-1->hf g (gI by_ v)/\eo g (gI by_ v)=v/\gI se (aW g (gI by_ v))=true/\gI far v=aD (gI far (aW g (gI by_ v))) (zw ws (gI by_ v))/\gI far v<aw
 rt:∀v,nd g v->gI by_ v= -1->v=s\/gI far v=aw
 rx:∀h,hf g h->gI se (aW g h)=true->(aW g h=p->h∈done)->zw ws h=aw\/gI far (eo g h)<=aD (gI far (aW g h)) (zw ws h)
 sp:∀u v,nd g u->nd g v->gI se u=true->gI se v=false->gI far u<=gI far v
 sf:∀u,nd g u->gI se u=true->gI far u<aw
 ro:∀v,nd g v->gI se v=true->gI by_ v≠-1->rk (aW g (gI by_ v))<rk v
 rn:∀v,nd g v->gI se v=true->rk v<n
 cn:n+dV se=g.1.toNat
variable{g:aE}{ws:List Nat}{s p:Int}{far:List Nat}{by_:List Int}{se:List Bool}{rk:Int->Nat}{n:Nat}{done:List Int}
theorem pg(hw:∀x∈ws,eh x)(hl:ws.length=g.2.length){h:Int}(hh:hf g h):zw ws h<=aw:=(fh (nE hw hl hh.1 hh.2)).1
theorem jr.start(hm:bo g)(h0:nd g s):jr g ws s (bF g.1.toNat s).1 (bF g.1.toNat s).2 (List.replicate g.1.toNat false) (λ_=>0) 0 (-1) []:=by
 obtain⟨m1,m2,m3,m4⟩:=hm
 obtain⟨s0,s1⟩:=h0
 have hf':∀v:Int,nd g v->gI (bF g.1.toNat s).1 v=if v=s then 0 else aw:=by
   intro v hv
   unfold bF
   rw[bE s0 (by simp;omega) hv.1]
   by_cases e:v=s
   · rw[if_pos e,if_pos e]
   · rw[if_neg e,if_neg e,dS hv.1 (by have:=hv.2;omega)]
 have hb:∀v:Int,nd g v->gI (bF g.1.toNat s).2 v= -1:=λv hv=>dS hv.1 (by have:=hv.2;omega)
 have hs:∀v:Int,nd g v->gI (List.replicate g.1.toNat false) v=false:=λv hv=>dS hv.1 (by have:=hv.2;omega)
 refine⟨by simp[bF];omega,by simp[bF];omega,by simp;omega,λv hv=>?_,by rw[hf' s ⟨s0,s1⟩,if_pos rfl],hb s ⟨s0,s1⟩,λv hv k=>absurd (hb v hv) k,λv hv _=>?_,λh hh k=>?_,λu v hu _ k=>?_,λu hu k=>?_,λv hv k=>?_,λv hv k=>?_,?_⟩
 · rw[hf' v hv];split
   · exact Nat.zero_le _
   · exact Nat.le_refl _
 · by_cases e:v=s
   · exact .inl e
   · right;rw[hf' v hv,if_neg e]
 · rw[hs _ (bA ⟨m1,m2,m3,m4⟩ hh.1 hh.2)] at k;cases k
 · rw[hs _ hu] at k;cases k
 · rw[hs _ hu] at k;cases k
 · rw[hs _ hv] at k;cases k
 · rw[hs _ hv] at k;cases k
 · unfold dV;rw[List.count_replicate];simp
theorem jr.relax(hm:bo g)(hw:∀x∈ws,eh x)(hl:ws.length=g.2.length){d:Nat}{hh:Int}(h:jr g ws s far by_ se rk n p done)(hp:nd g p)(hps:gI se p=true)(hd:gI far p=d)(mx:∀u,nd g u->gI se u=true->gI far u<=d)
    (h0:hf g hh)(hf':aW g hh=p):jr g ws s (bG g ws d (far,by_) hh).1 (bG g ws d (far,by_) hh).2 se rk n p (hh::done)/\∀u,nd g u->gI se u=true->gI (bG g ws d (far,by_) hh).1 u=gI far u:=by
  have hz:=pg hw hl h0
  have ht:=iV hm h0.1 h0.2
  by_cases c1:zf (gI ws (hh/2))=aw
  · have e:bG g ws d (far,by_) hh=(far,by_):=by unfold bG;rw[if_pos c1]
    rw[e]
    refine⟨{h with rx:=λx hx k1 k2=>?_},λ_ _ _=>rfl⟩
    by_cases c:x=hh
    · subst c;exact .inl c1
    · exact h.rx x hx k1 (λk=>(List.mem_cons.1 (k2 k)).resolve_left c)
  by_cases c2:aD d (zf (gI ws (hh/2)))<gI far (eo g hh)
  · have e:bG g ws d (far,by_) hh=(far.set (eo g hh).toNat (aD d (zf (gI ws (hh/2)))),by_.set (eo g hh).toNat hh):=by unfold bG;rw[if_neg c1,if_pos c2]
    rw[e]
    show jr g ws s (far.set (eo g hh).toNat (aD d (zw ws hh))) (by_.set (eo g hh).toNat hh) se rk n p (hh::done)/\∀u,nd g u->gI se u=true->gI (far.set (eo g hh).toNat (aD d (zw ws hh))) u=gI far u
    have hdle:d<=aw:=by rw[<-hd];exact h.nn p hp
    have hge:d<=aD d (zw ws hh):=kT hdle hz
    have hlt:aD d (zw ws hh)<aw:=Nat.lt_of_lt_of_le c2 (h.nn _ ht)
    obtain⟨t,et⟩:∃t,t=eo g hh:=⟨_,rfl⟩
    obtain⟨x,ex⟩:∃x,x=aD d (zw ws hh):=⟨_,rfl⟩
    rw[<-et] at c2 ht ⊢
    change aD d (zw ws hh)<gI far t at c2
    rw[<-ex] at c2 hge hlt ⊢
    have hts:gI se t=false:=by
      cases hc:gI se t with
      |false=>rfl
      |true=>have:=mx t ht hc;omega
    have gf:∀v,0<=v->gI (far.set t.toNat x) v=if v=t then x else gI far v:=λv v0=>bE ht.1 (by have:=h.lf;have:=ht.2;omega) v0
    have gb:∀v,0<=v->gI (by_.set t.toNat hh) v=if v=t then hh else gI by_ v:=λv v0=>bE ht.1 (by have:=h.lb;have:=ht.2;omega) v0
    have keep:∀u,nd g u->gI se u=true->gI (far.set t.toNat x) u=gI far u:=by
      intro u hu k
      rw[gf u hu.1,if_neg]
      intro c;rw[c,hts] at k;cases k
    have hsne:0<=s->¬s=t:=by
      intro s0 c
      have:=h.s0
      rw[c] at this;omega
    refine⟨⟨by rw[List.length_set];exact h.lf,by rw[List.length_set];exact h.lb,h.ls,λv hv=>?_,?_,?_,λv hv k=>?_,λv hv k=>?_,λy hy k1 k2=>?_,λu v hu hv k1 k2=>?_,λu hu k=>?_,λv hv k1 k2=>?_,h.rn,h.cn⟩,keep⟩
    · rw[gf v hv.1];split
      · omega
      · exact h.nn v hv
    · rcases Int.lt_or_le s 0 with c|c
      · have e1:s.toNat=0:=by omega
        have:gI (far.set t.toNat x) s=gI (far.set t.toNat x) 0:=by unfold gI;rw[e1];rfl
        have e3:gI far s=gI far 0:=by unfold gI;rw[e1];rfl
        have e4:¬(0:Int)=t:=by
          intro c0
          have:=h.s0
          rw[e3,c0] at this;omega
        rw[this,gf 0 (Int.le_refl _),if_neg e4,<-e3];exact h.s0
      · rw[gf s c,if_neg (hsne c)];exact h.s0
    · rcases Int.lt_or_le s 0 with c|c
      · have e1:s.toNat=0:=by omega
        have:gI (by_.set t.toNat hh) s=gI (by_.set t.toNat hh) 0:=by unfold gI;rw[e1];rfl
        have e3:gI far s=gI far 0:=by unfold gI;rw[e1];rfl
        have e5:gI by_ s=gI by_ 0:=by unfold gI;rw[e1];rfl
        have e4:¬(0:Int)=t:=by
          intro c0
          have:=h.s0
          rw[e3,c0] at this;omega
        rw[this,gb 0 (Int.le_refl _),if_neg e4,<-e5];exact h.sb
      · rw[gb s c,if_neg (hsne c)];exact h.sb
    · rw[gb v hv.1] at k ⊢
      rw[gf v hv.1]
      by_cases c:v=t
      · rw[if_pos c,if_pos c]
        refine⟨h0,by rw[c,et],by rw[hf'];exact hps,?_,hlt⟩
        rw[hf',keep p hp hps,hd];exact ex
      · rw[if_neg c] at k ⊢
        rw[if_neg c]
        obtain⟨a1,a2,a3,a4,a5⟩:=h.tr v hv k
        refine⟨a1,a2,a3,?_,a5⟩
        rw[keep _ (bA hm a1.1 a1.2) a3];exact a4
    · rw[gb v hv.1] at k
      rw[gf v hv.1]
      by_cases c:v=t
      · rw[if_pos c] at k;have:=h0.1;omega
      · rw[if_neg c] at k ⊢;exact h.rt v hv k
    · have hfy:=bA hm hy.1 hy.2
      have hty:=iV hm hy.1 hy.2
      rw[keep _ hfy k1,gf _ hty.1]
      by_cases c:y=hh
      · subst c
        right
        rw[if_pos et.symm,hf',hd,ex];exact Nat.le_refl _
      · rcases h.rx y hy k1 (λk=>(List.mem_cons.1 (k2 k)).resolve_left c) with a|a
        · exact .inl a
        · right
          split
          · rename_i e2;rw[e2] at a;omega
          · exact a
    · rw[keep u hu k1,gf v hv.1]
      split
      · have:=mx u hu k1;omega
      · exact h.sp u v hu hv k1 k2
    · rw[keep u hu k];exact h.sf u hu k
    · have c:¬v=t:=by intro c;rw[c,hts] at k1;cases k1
      rw[gb v hv.1,if_neg c] at k2 ⊢
      exact h.ro v hv k1 k2
  · have e:bG g ws d (far,by_) hh=(far,by_):=by unfold bG;rw[if_neg c1,if_neg c2]
    rw[e]
    refine⟨{h with rx:=λx hx k1 k2=>?_},λ_ _ _=>rfl⟩
    by_cases c:x=hh
    · subst c
      right
      rw[hf',hd];exact Nat.le_of_not_lt c2
    · exact h.rx x hx k1 (λk=>(List.mem_cons.1 (k2 k)).resolve_left c)
theorem gm(hm:bo g)(hw:∀x∈ws,eh x)(hl:ws.length=g.2.length){d:Nat}(hp:nd g p)(hps:gI se p=true):∀(hs:List Int) (far:List Nat) (by_:List Int) (done:List Int),(∀x∈hs,hf g x/\aW g x=p)->gI far p=d->(∀u,nd g u->gI se u=true->gI far u<=d)->
   jr g ws s far by_ se rk n p done->∃done',jr g ws s (de g ws d hs (far,by_)).1 (de g ws d hs (far,by_)).2 se rk n p done'/\(∀x∈hs,x∈done')/\∀x∈done,x∈done'
 |[],far,by_,done,_,_,_,h=>⟨done,h,λx hx=>absurd hx List.not_mem_nil,λ_ hx=>hx⟩
 |y::hs,far,by_,done,hx,hd,mx,h=>by
   obtain⟨h1,k1⟩:=h.relax hm hw hl hp hps hd mx (hx y (List.mem_cons_self ..)).1 (hx y (List.mem_cons_self ..)).2
   have e:de g ws d (y::hs) (far,by_)=de g ws d hs ((bG g ws d (far,by_) y).1,(bG g ws d (far,by_) y).2):=rfl
   rw[e]
   obtain⟨done',a,b,c⟩:=gm hm hw hl hp hps hs _ _ (y::done) (λx k=>hx x (List.mem_cons_of_mem _ k)) ((k1 p hp hps).trans hd) (λu hu k=>by rw[k1 u hu k];exact mx u hu k) h1
   exact⟨done',a,λx k=>(List.mem_cons.1 k).elim (λk=>by rw[k];exact c _ (List.mem_cons_self ..)) (b x),λx k=>c x (List.mem_cons_of_mem _ k)⟩
theorem fD{far:List Nat}{se:List Bool}:∀k:Nat,¬aY far se k<0->cM far se (aY far se k)/\∀v:Nat,v<k->cM far se v->gI far (aY far se k)<=gI far v
  |0,h=>absurd (show(-1:Int)<0 by decide) h
  |k+1,h=>by
    unfold aY at h ⊢
    by_cases c:gI se (k:Int)=false/\gI far (k:Int)<aw/\(aY far se k<0\/gI far (k:Int)<gI far (aY far se k))
    · rw[if_pos c]
      refine⟨⟨c.1,c.2.1⟩,λv hv w=>?_⟩
      by_cases e:v=k
      · rw[e];exact Nat.le_refl _
      by_cases c3:aY far se k<0
      · exfalso
        have h1:∀k:Nat,aY far se k<0->∀v:Nat,v<k->¬cM far se v:=by
          intro k
          induction k with
          |zero=>intro _ v hv;omega
          |succ k ih=>
            intro h v hv w
            unfold aY at h
            split at h
            · omega
            · rename_i d
              by_cases e:v=k
              · subst e;exact d ⟨w.1,w.2,.inl h⟩
              · exact ih h v (by omega) w
        exact h1 k c3 v (by omega) w
      · obtain⟨_,i2⟩:=fD k c3
        have:=i2 v (by omega) w
        have:=c.2.2.resolve_left c3
        omega
    · rw[if_neg c] at h ⊢
      obtain⟨i1,i2⟩:=fD k h
      refine⟨i1,λv hv w=>?_⟩
      by_cases e:v=k
      · subst e
        rcases Nat.lt_or_ge (gI far (v:Int)) (gI far (aY far se v)) with d|d
        · exact absurd ⟨w.1,w.2,.inr d⟩ c
        · exact d
      · exact i2 v (by omega) w
theorem iA{far:List Nat}{se:List Bool}:∀k:Nat,aY far se k<0->∀v:Nat,v<k->¬cM far se v
 |0,_,v,hv=>by omega
 |k+1,h,v,hv=>by
   intro w
   unfold aY at h
   split at h
   · omega
   · rename_i d
     by_cases e:v=k
     · subst e;exact d ⟨w.1,w.2,.inl h⟩
     · exact iA k h v (by omega) w
theorem jr.settle(hm:bo g)(h:jr g ws s far by_ se rk n (-1) [])(hp:nd g p)(hpw:cM far se p)(mn:∀v,nd g v->cM far se v->gI far p<=gI far v):jr g ws s far by_ (se.set p.toNat true) (λv=>if v=p then n else rk v) (n+1) p []/\gI (se.set p.toNat true) p=true/\∀u,nd g u->gI (se.set p.toNat true) u=true->gI far u<=gI far p:=by
 have gs:∀v,0<=v->gI (se.set p.toNat true) v=if v=p then true else gI se v:=λv v0=>bE hp.1 (by have:=h.ls;have:=hp.2;omega) v0
 have hps:gI se p=false:=hpw.1
 refine⟨⟨h.lf,h.lb,by rw[List.length_set];exact h.ls,h.nn,h.s0,h.sb,λv hv k=>?_,h.rt,λy hy k1 k2=>?_,λu v hu hv k1 k2=>?_,λu hu k=>?_,λv hv k1 k2=>?_,λv hv k=>?_,?_⟩,by rw[gs p hp.1,if_pos rfl],λu hu k=>?_⟩
 · obtain⟨a1,a2,a3,a4,a5⟩:=h.tr v hv k
   refine⟨a1,a2,?_,a4,a5⟩
   rw[gs _ (bA hm a1.1 a1.2).1];split
   · rfl
   · exact a3
 · have hfy:=bA hm hy.1 hy.2
   by_cases c:aW g y=p
   · exact absurd (k2 c) (by simp)
   · rw[gs _ hfy.1,if_neg c] at k1
     exact h.rx y hy k1 (λk=>by have:=hfy.1;omega)
 · rw[gs u hu.1] at k1
   rw[gs v hv.1] at k2
   have c2:¬v=p:=by intro c;rw[if_pos c] at k2;cases k2
   rw[if_neg c2] at k2
   by_cases c:u=p
   · rw[c]
     rcases Nat.lt_or_ge (gI far v) aw with d|d
     · exact mn v hv ⟨k2,d⟩
     · exact Nat.le_trans (h.nn p hp) d
   · rw[if_neg c] at k1
     exact h.sp u v hu hv k1 k2
 · rw[gs u hu.1] at k
   by_cases c:u=p
   · rw[c];exact hpw.2
   · rw[if_neg c] at k;exact h.sf u hu k
 · obtain⟨a1,a2,a3,a4,a5⟩:=h.tr v hv k2
   have hfv:=bA hm a1.1 a1.2
   have c1:¬aW g (gI by_ v)=p:=by intro c;rw[c,hps] at a3;cases a3
   show(if aW g (gI by_ v)=p then n else rk (aW g (gI by_ v)))<if v=p then n else rk v
   rw[if_neg c1]
   by_cases c:v=p
   · rw[if_pos c];exact h.rn _ hfv a3
   · rw[if_neg c]
     rw[gs v hv.1,if_neg c] at k1
     exact h.ro v hv k1 k2
 · show(if v=p then n else rk v)<n+1
   split
   · omega
   · rename_i c
     rw[gs v hv.1,if_neg c] at k
     have:=h.rn v hv k;omega
 · have:=fl (se:=se) (u:=p.toNat) (by have:=h.ls;have:=hp.2;have:=hp.1;omega) (by rw[Int.toNat_of_nonneg hp.1];exact hps)
   have:=h.cn
   omega
 · rw[gs u hu.1] at k
   by_cases c:u=p
   · rw[c];exact Nat.le_refl _
   · rw[if_neg c] at k
     exact h.sp u p hu hp k hps
structure fS(g:aE)(ws:List Nat)(s:Int)(far:List Nat)(by_:List Int)(rk:Int->Nat):Prop where
  lf:(far.length:Int)=g.1
  lb:(by_.length:Int)=g.1
  nn:∀v,nd g v->gI far v<=aw
  s0:gI far s=0
  sb:gI by_ s= -1
  tr:∀v,nd g v->gI by_ v≠-1->hf g (gI by_ v)/\eo g (gI by_ v)=v/\gI far (aW g (gI by_ v))<aw/\gI far v=aD (gI far (aW g (gI by_ v))) (zw ws (gI by_ v))/\gI far v<aw/\rk (aW g (gI by_ v))<rk v
  rt:∀v,nd g v->gI by_ v= -1->v=s\/gI far v=aw
  rx:∀h,hf g h->gI far (aW g h)<aw->zw ws h=aw\/gI far (eo g h)<=aD (gI far (aW g h)) (zw ws h)
  rn:∀v,nd g v->gI far v<aw->rk v<g.1.toNat
theorem o9(hm:bo g)(hw:∀x∈ws,eh x)(hl:ws.length=g.2.length):∀(f:Nat) (far:List Nat) (by_:List Int) (se:List Bool) (rk:Int->Nat) (n:Nat),dV se<=f->jr g ws s far by_ se rk n (-1) []->∃rk',fS g ws s (fV g ws f (far,by_) se).1 (fV g ws f (far,by_) se).2 rk':=by
 have fin:∀(far:List Nat) (by_:List Int) (se:List Bool) (rk:Int->Nat) (n:Nat),jr g ws s far by_ se rk n (-1) []->(∀v:Nat,v<g.1.toNat->¬cM far se v)->fS g ws s far by_ rk:=by
   intro far by_ se rk n h nw
   have st:∀v,nd g v->gI far v<aw->gI se v=true:=by
     intro v hv k
     cases hc:gI se v with
     |true=>rfl
     |false=>
       obtain⟨u,hu⟩:∃u:Nat,v=u:=⟨v.toNat,by have:=hv.1;omega⟩
       exact absurd (show cM far se u from⟨by rw[<-hu];exact hc,by rw[<-hu];exact k⟩) (nw u (by have:=hv.2;omega))
   refine⟨h.lf,h.lb,h.nn,h.s0,h.sb,λv hv k=>?_,h.rt,λy hy k=>?_,λv hv k=>?_⟩
   · obtain⟨a1,a2,a3,a4,a5⟩:=h.tr v hv k
     exact⟨a1,a2,h.sf _ (bA hm a1.1 a1.2) a3,a4,a5,h.ro v hv (st v hv a5) k⟩
   · have hfy:=bA hm hy.1 hy.2
     exact h.rx y hy (st _ hfy k) (λk=>by have:=hfy.1;omega)
   · have:=h.rn v hv (st v hv k)
     have:=h.cn;omega
 intro f
 induction f with
 |zero=>
   intro far by_ se rk n hu h
   refine⟨rk,fin far by_ se rk n h (λv hv w=>?_)⟩
   have:=h.ls
   have:=fl (by omega) w.1
   omega
 |succ f ih=>
   intro far by_ se rk n hu h
   unfold fV
   by_cases c:aY (far,by_).1 se g.1.toNat<0
   · rw[if_pos c]
     exact⟨rk,fin far by_ se rk n h (iA _ c)⟩
   · rw[if_neg c]
     show∃rk',fS g ws s (fV g ws f (de g ws (gI far (aY far se g.1.toNat)) (gI (aa g) (aY far se g.1.toNat)) (far,by_)) (se.set (aY far se g.1.toNat).toNat true)).1 _ rk'
     change¬aY far se g.1.toNat<0 at c
     obtain⟨w,mn⟩:=fD _ c
     have hlt:=gM far se g.1.toNat
     obtain⟨p,ep⟩:∃p,p=aY far se g.1.toNat:=⟨_,rfl⟩
     rw[<-ep] at c w mn hlt ⊢
     have hp:nd g p:=⟨by omega,by have:=hm.1;omega⟩
     obtain⟨h1,h2,h3⟩:=h.settle hm hp w (λv hv k=>by
       have:=mn v.toNat (by have:=hv.1;have:=hv.2;omega)
       rw[Int.toNat_of_nonneg hv.1] at this
       exact this k)
     obtain⟨done',a,b,_⟩:=gm hm hw hl (d:=gI far p) hp h2 (gI (aa g) p) far by_ [] (λx hx=>by
       obtain⟨k,hk,e⟩:=List.mem_iff_getElem.1 hx
       have:=im hm hp.1 hp.2 (k:=k) (by omega)
       have e2:gI (gI (aa g) p) (k:Int)=x:=by
         rw[<-e]
         generalize gI (aa g) p=L at hk
         simp[gI,hk]
       rw[e2] at this
       exact⟨⟨this.1,this.2.1⟩,this.2.2⟩) rfl h3 h1
     refine ih _ _ _ (λv=>if v=p then n else rk v) (n+1) ?_ {a with rx:=λy hy k1 _=>a.rx y hy k1 (λk=>b y ?_)}
     · have:=fl (se:=se) (u:=p.toNat) (by have:=h.ls;have:=hp.2;omega) (by rw[Int.toNat_of_nonneg hp.1];exact w.1)
       omega
     · rw[fz hp.1 hp.2]
       unfold iU dy
       refine List.mem_filter.2 ⟨List.mem_map.2 ⟨y.toNat,List.mem_range.2 (by have:=hy.1;have:=hy.2;omega),Int.toNat_of_nonneg hy.1⟩,decide_eq_true k⟩
theorem mR(hm:bo g)(hw:∀x∈ws,eh x)(hl:ws.length=g.2.length)(hs:nd g s):∃rk,fS g ws s (f4 g ws s).1 (f4 g ws s).2 rk:=by
 unfold f4
 exact o9 hm hw hl g.1.toNat (bF g.1.toNat s).1 (bF g.1.toNat s).2 _ _ 0 (by unfold dV;rw[List.count_replicate];simp) (jr.start hm hs)
end TL
/-
  TlDij2: the ways that lead back: their halves follow one another, and their weights come to the length that is told; no half-edge leads nearer.
  By an AI agent.
-/
set_option linter.all false
namespace TL
variable{g:aE}{ws:List Nat}{s:Int}{far:List Nat}{by_:List Int}{rk:Int->Nat}
theorem jw{g:aE}{ws:List Nat}{s:Int}(h:(au g ws s).2=0):bo g/\ws.length=g.2.length/\(∀x∈ws,eh x)/\nd g s/\∃rk,fS g ws s (au g ws s).1.1 (au g ws s).1.2 rk:=by
  by_cases c:cA g ws=0
  · by_cases c2:0<=s/\s<g.1
    · obtain⟨m,l,w⟩:=nP c
      rw[j6 c c2] at h ⊢
      exact⟨m,l,w,c2,mR m w l c2⟩
    · rw[fB c c2] at h;exact absurd h (by decide)
  · rw[iW c] at h;exact absurd h c
end TL
namespace TL
variable{g:aE}{ws:List Nat}{s:Int}{far:List Nat}{by_:List Int}{rk:Int->Nat}
end TL
namespace TL
variable{g:aE}{ws:List Nat}{s:Int}{rk:Int->Nat}{x:FS}
end TL
