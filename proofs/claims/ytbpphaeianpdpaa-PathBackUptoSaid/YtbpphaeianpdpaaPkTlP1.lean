/- Plain texts of this claim, part 1. By an AI agent. -/
import Derived.Test.YtbpphaeianpdpaaPkTlP0
import Derived.Carry
import Derived.Deep.Slices
import Derived.Laws.Externs
import Derived.Laws.FloatArith
import Derived.Laws.FloatBits
import Derived.Laws.NewFold
import Derived.Laws.StructEq
import Derived.Lib.SmallJoins
import Derived.OrdersHeld
/-
  TlHold: regions that draw their order, where what is read stays: on the kit's OrdersHeld.
  By an AI agent.
-/
set_option linter.all false
namespace TL
open Go
section
variable{P:Program}{n:Nat}{l:List Oper}{S:World->Prop}{K:Fr->World->Prop}{f:Fr}{w:World}{done:List Nat}{fuel:Nat}
def jI(P:Program)(n:Nat)(l:List Oper)(S:World->Prop)(K:Fr->World->Prop)(fuel:Nat)(done:List Nat)(f:Fr)(w:World):Prop:=
  ∀a,Ag n a f->wpAnyH P .any l.toArray (λe a' w'=>e= .normal/\∃f',Ag n a' f'/\K f' w') S fuel (aT l.length done) a w
theorem aP.same{J:bj->Prop}{γ γ':aq}{w w':World}(h:aP J γ w γ' w'):aP J γ w γ w':=⟨h.os,h.tape,h.output,h.size,λ_ _ _=>rfl,h.keep,h.drawn⟩
theorem ct{fid:Nat}{R:Ending->World->Prop}{k:List Item}{id:Nat}(γ:aq)(J:bj->Prop)(hm:P.follows .mixedOrders=true)
   (h:∀w1,aP no γ w γ w1->jI P n l (λw'=>aP J γ w1 γ w') (cq P fid n R k) l.length [] f w1):cq P fid n R (.code (.region id l.toArray true)::k) f w:=
 dF λa ha=>wp_region_held hm (by
   have h0:=h _ (aP.refl _ _ _).drew a ha
   have hmask:aT l.length []=Array.replicate l.toArray.size false:=by
     apply Array.ext
     · simp[aT]
     · intro j h1 h2;simp[aT]
   rw[hmask] at h0
   simpa using h0)
theorem gP{fid:Nat}{R:Ending->World->Prop}{k:List Item}{id:Nat}{σ:Type}(Mid:σ->Fr->World->Prop)(γ:aq)(J:bj->Prop)(hm:P.follows .mixedOrders=true)
    (h:(∀s f w,Mid s f w->cq P fid n R k f w)->∀w1,aP no γ w γ w1->jI P n l (λw'=>aP J γ w1 γ w') (cq P fid n R k) l.length [] f w1)(hk:∀s f w,Mid s f w->cq P fid n R k f w):cq P fid n R (.code (.region id l.toArray true)::k) f w:=
  ct γ J hm (h hk)
variable{dst:Option Tmp}{op:Op}{ty:TypeId}{pos:String}{after:Array Edge}{g:Option (Nat×Bool)}{v:Value}
theorem nk(i:Nat)(hi:l[i]? =some ⟨dst,op,ty,pos,after,g⟩)(hn:db l=true)(hc:(cS l done i&&dR l done i&&eW n ⟨dst,op,ty,pos,after,g⟩)=true)
   (hw:bg l ⟨dst,op,ty,pos,after,g⟩ f=true)(hS:S w)(h:∀w,S w->(execOp (ev f) ⟨dst,op,ty,pos,after,g⟩).run P w= .ok (.value v) w)(hk:jI P n l S K fuel (i::done) (cT f dst v) w):jI P n l S K (fuel+1) done f w:=by
 simp only[Bool.and_eq_true] at hc
 obtain⟨⟨hr,hf⟩,hd⟩:=hc
 obtain⟨hlt,hr'⟩:=cN hr
 intro a ha
 refine wpAnyH_first (v:=v) (by simpa using hi) (eo hn) (λc a w h=>by cases h.1) fuel _ a w (d5 hi hf) hr' (.inl ⟨by rw[ha.yielded];exact hw,λw hs=>by rw[ha.eval];exact h w hs⟩) hS ?_
 rw[bq done hlt]
 exact hk _ (ha.put hd v)
def nL(P:Program)(n:Nat)(l:List Oper)(S:World->Prop)(K:Fr->World->Prop)(fuel:Nat)(done:List Nat)(f:Fr)(w:World)(i:Nat):Prop:=
  ∃o,l[i]? =some o/\i<l.length/\(bg l o f=true/\eW n o=true/\dC P o f w (λv w'=>S w'/\jI P n l S K fuel (i::done) (cT f o.dst v) w'))
theorem kg(i:Nat)(hi:l[i]? =some ⟨dst,op,ty,pos,after,g⟩)(hc:eW n ⟨dst,op,ty,pos,after,g⟩=true)(hw:bg l ⟨dst,op,ty,pos,after,g⟩ f=true)
   (h:dC P ⟨dst,op,ty,pos,after,g⟩ f w (λv w'=>S w'/\jI P n l S K fuel (i::done) (cT f dst v) w')):nL P n l S K fuel done f w i:=
 ⟨_,hi,(List.getElem?_eq_some_iff.1 hi).1,hw,hc,h⟩
def mD(P:Program)(n:Nat)(l:List Oper)(S:World->Prop)(K:Fr->World->Prop)(fuel:Nat)(done:List Nat)(f:Fr)(w:World):List Nat->Prop
 |[]=>True
 |i::r=>nL P n l S K fuel done f w i/\mD P n l S K fuel done f w r
theorem mD.mem{L:List Nat}(h:mD P n l S K fuel done f w L):∀i∈L,nL P n l S K fuel done f w i:=by
 induction L with
 |nil=>intro i hi;cases hi
 |cons j r ih=>
   intro i hi
   rcases List.mem_cons.1 hi with rfl|hi
   · exact h.1
   · exact ih h.2 i hi
theorem iq(i:Nat)(L:List Nat)(hr:decide (Region.ready .any l.toArray (aT l.length done)=i::L)=true)(h:mD P n l S K fuel done f w (i::L)):jI P n l S K (fuel+1) done f w:=by
 have hr:=of_decide_eq_true hr
 intro a ha
 refine⟨λh0=>(by rw[hr] at h0;cases h0),λk hk=>?_⟩
 rw[hr] at hk
 obtain⟨o,hi,hlt,hw,hd,ho⟩:=h.mem k (by simpa using hk)
 obtain⟨dst,op,ty,pos,after,g⟩:=o
 refine cj ha hi hw ho λv w' hk=>⟨hk.1,?_⟩
 rw[bq done hlt]
 exact hk.2 _ (ha.put hd v)
theorem cd(i:Nat)(hi:l[i]? =some ⟨dst,op,ty,pos,after,g⟩)(hc:(decide (Region.ready .any l.toArray (aT l.length done)=[i])&&eW n ⟨dst,op,ty,pos,after,g⟩)=true)
   (hw:bg l ⟨dst,op,ty,pos,after,g⟩ f=true)(h:dC P ⟨dst,op,ty,pos,after,g⟩ f w (λv w'=>S w'/\jI P n l S K fuel (i::done) (cT f dst v) w')):jI P n l S K (fuel+1) done f w:=by
 simp only[Bool.and_eq_true] at hc
 exact iq i [] hc.1 ⟨kg i hi hc.2 hw h,trivial⟩
theorem fy(hr:decide (Region.ready .any l.toArray (aT l.length done)=[])=true)(h:K f w):jI P n l S K 0 done f w:=λ_ ha=>⟨of_decide_eq_true hr,rfl,f,ha,h⟩
end
end TL
namespace TL
open Go
end TL
/-
  TlNet: nets, and what layer 3 says of them, as plain functions.
  By an AI agent.
-/
set_option linter.all false
namespace TL
abbrev aG:=Int×List (Int×Int)
def gX(n:Int)(e:Int×Int):Prop:=(0<=e.1/\e.1<n)/\0<=e.2/\e.2<n
instance (n:Int)(e:Int×Int):Decidable (gX n e):=by unfold gX;infer_instance
def bC(g:aG):Prop:=0<=g.1/\g.1<=1024/\g.2.length<=3072/\∀e∈g.2,gX g.1 e
instance (g:aG):Decidable (bC g):=by unfold bC;infer_instance
def bu(g:aG):Bool:=decide (bC g)
theorem fJ{g:aG}(h:bC g):bu g=true:=decide_eq_true h
theorem b5{g:aG}(h:¬bC g):bu g=false:=decide_eq_false h
end TL
namespace TL
theorem iY{α:Type}[Inhabited α]{xs:List α}{k:Nat}(h:(k:Int)<xs.length):xs.drop k=gI xs k::xs.drop (k+1):=by
 have h':k<xs.length:=by omega
 rw[List.drop_eq_getElem_cons h']
 simp[gI,h']
theorem bZ{α:Type}[Inhabited α]{xs:List α}{i j:Int}{y:α}(hi:0<=i)(hi':i<xs.length)(hj:0<=j):gI (xs.set i.toNat y) j=if j=i then y else gI xs j:=by
 unfold gI
 by_cases h:j=i
 · subst h
   have:j.toNat<xs.length:=by omega
   simp[this]
 · have:i.toNat≠j.toNat:=by omega
   simp[h,List.getElem?_set_ne this]
theorem o6{α:Type}[Inhabited α]{n:Nat}{x:α}{i:Int}(h0:0<=i)(h1:i<n):gI (List.replicate n x) i=x:=by
 have:i.toNat<n:=by omega
 simp[gI,this]
end TL
namespace TL
end TL
namespace TL
end TL
namespace TL
def c8(g:aG)(h:Int):Int:=pI (gI g.2 (h/2)) (h%2)
def dQ(g:aG)(v:Int)(k:Nat):List Int:=((List.range (2*k)).map (λ(i:Nat)=>(i:Int))).filter λh=>decide (c8 g h=v)
def jC(g:aG)(v:Int):List Int:=dQ g v g.2.length
theorem fa(g:aG)(k:Nat):c8 g (2*(k:Int))=(gI g.2 k).1:=by
 unfold c8
 have h1:2*(k:Int)/2=k:=by omega
 have h2:2*(k:Int)%2=0:=by omega
 rw[h1,h2];rfl
theorem fH(g:aG)(k:Nat):c8 g (2*(k:Int)+1)=(gI g.2 k).2:=by
 unfold c8
 have h1:(2*(k:Int)+1)/2=k:=by omega
 have h2:(2*(k:Int)+1)%2=1:=by omega
 rw[h1,h2];rfl
theorem ii(g:aG)(v:Int)(k:Nat):dQ g v (k+1)=dQ g v k++((if(gI g.2 k).1=v then[2*(k:Int)] else[])++(if(gI g.2 k).2=v then[2*(k:Int)+1] else[])):=by
 unfold dQ
 rw[show 2*(k+1)=2*k+1+1 by omega,List.range_succ,List.range_succ]
 simp only[List.map_append,List.filter_append,List.map_cons,List.map_nil,List.append_assoc]
 congr 1
 have e1:((2*k:Nat):Int)=2*(k:Int):=by omega
 have e2:((2*k+1:Nat):Int)=2*(k:Int)+1:=by omega
 rw[e1,e2]
 congr 1
 · by_cases h:(gI g.2 (k:Int)).1=v
   · simp[fa,h]
   · simp[fa,h]
 · by_cases h:(gI g.2 (k:Int)).2=v
   · simp[fH,h]
   · simp[fH,h]
theorem js(g:aG)(v:Int)(k:Nat):(dQ g v k).length<=2*k:=by
 unfold dQ
 have:=List.length_filter_le (λh=>decide (c8 g h=v)) ((List.range (2*k)).map (λ(i:Nat)=>(i:Int)))
 simpa using this
end TL
namespace TL
theorem cL{α:Type}[Inhabited α]{l l':List α}(hl:l.length=l'.length)(h:∀i:Nat,i<l.length->gI l i=gI l' i):l=l':=by
 apply List.ext_getElem hl
 intro i h1 h2
 have:=h i h1
 simpa[gI,h1,h2] using this
end TL
namespace TL
end TL
namespace TL
end TL
namespace TL
section
variable{l0 l1:Int}{F:Int×Int->Int}{g:aG}{k:Nat}
end
end TL
/-
  TlNetLaws: what follows of nets: parts of parts, subs of subs.
  By an AI agent.
-/
set_option linter.all false
namespace TL
theorem nl{α β:Type}[Inhabited α][Inhabited β](f:α->β){l:List α}{i:Int}(h0:0<=i)(h1:i<l.length):gI (l.map f) i=f (gI l i):=by
 have:i.toNat<l.length:=by omega
 simp[gI,this]
end TL
/-
  TlNetSums: degrees' sum; all edges, all nodes; moved there and back.
  By an AI agent.
-/
set_option linter.all false
namespace TL
def b7(n:Nat):List Int:=(List.range n).map λ(i:Nat)=>(i:Int)
theorem cY(n:Nat):(b7 n).length=n:=by simp[b7]
theorem fD(n:Nat):b7 (n+1)=b7 n++[(n:Int)]:=by simp[b7,List.range_succ]
theorem ej{n:Nat}{x:Int}:x∈b7 n↔0<=x/\x<n:=by
 unfold b7
 rw[List.mem_map]
 constructor
 · rintro⟨i,hi,rfl⟩
   have:=List.mem_range.1 hi
   omega
 · rintro⟨h1,h2⟩
   exact⟨x.toNat,List.mem_range.2 (by omega),by omega⟩
theorem f5(n:Nat):(b7 n).Nodup:=by
 induction n with
 |zero=>simp[b7]
 |succ n ih=>
   rw[fD,List.nodup_append]
   refine⟨ih,by simp,λa ha b hb=>?_⟩
   have:=ej.1 ha
   have:=List.mem_singleton.1 hb
   omega
theorem mq{n:Nat}{i:Int}(h0:0<=i)(h1:i<n):gI (b7 n) i=i:=by
 have:i.toNat<n:=by omega
 simp[gI,b7,this]
 omega
end TL
/-
  TlRef3: what the document's own answer of layer 3 goes through.
  By an AI agent.
-/
set_option linter.all false
namespace TL
theorem kR{g:aG}(hm:bC g){h:Int}(h0:0<=h)(h1:h<2*(g.2.length:Int)):0<=c8 g h/\c8 g h<g.1:=by
 have hok:=hm.2.2.2 _ (bd (xs:=g.2) (i:=h/2) (by omega) (by omega))
 unfold gX at hok
 unfold c8 pI
 split<;>omega
end TL
/-
  TlKeep: rows of an own list given away one by one while the list stays readable; rows with a mark behind each.
  By an AI agent.
-/
set_option linter.all false
namespace TL
open Go
section
variable{P:Program}{w:World}{t t':TypeId}{f:Fr}{x y:Operand}{dst:Option Tmp}{ty:TypeId}{pos:String}{after:Array Edge}{g:Option (Nat×Bool)}{N:Value->World->Prop}{α:Type}[Rp α]{γ:aq}{v u:Value}{xss:List (List α)}{l:List α}{i k j:Nat}
end
section
variable{α:Type}[Rp α][Fl α]{γ γ':aq}{w w':World}{v:Value}{us:List Vc}{xss:List (List α)}{i k j q:Nat}
end
inductive Rw where
  |mk (l:List Int) (m:Int)
  |pl (l:List Int)
instance:Inhabited Rw:=⟨.pl []⟩
theorem jn{α:Type}[Rp α]{γ:aq}{S:bj->Prop}{w:World}{v:Value}{xs:List α}{m:α}(h:Sl γ S w (oX v) (xs++[m])):∃a l c,v= .slice a l c:=by
 rcases h with⟨_,h0⟩|⟨b,off,cap,hv,_⟩
 · simp at h0
 · cases v<;>simp[oX] at hv
   exact⟨_,_,_,rfl⟩
def ob(γ:aq)(S:bj->Prop)(w:World)(v:Value):Rw->Prop
  | .mk l m=>Sl γ S w (oX v) (l++[m])
  | .pl l=>Sl γ S w v l
theorem ob.one{γ:aq}{S:bj->Prop}{w:World}{v:Value}{x:Rw}(h:ob γ S w v x):v.oneCell'=true:=by
 cases x with
 |mk l m=>
   obtain⟨a,b,c,rfl⟩:=jn h
   rfl
 |pl l=>
   rcases h with⟨⟨_,rfl⟩,_⟩|⟨b,off,cap,rfl,_⟩<;>rfl
theorem ob.tr{γ γ':aq}{S S':bj->Prop}{w w':World}{v:Value}{x:Rw}(hsz:w.heap.size<=w'.heap.size)(h:∀b,b<w.heap.size->S (γ b)->w'.heap[b]? =w.heap[b]? /\S' (γ' b))(hx:ob γ S w v x):ob γ' S' w' v x:=by
 cases x with
 |mk l m=>exact Sl.tr h hx hsz
 |pl l=>exact Sl.tr h hx hsz
instance:Rp Rw where
 sz:=1
 rep γ S w cs x:=∃v,cs=[v]/\ob γ S w v x
 len:=by rintro _ _ _ _ _ ⟨v,rfl,_⟩;rfl
 one:=by
   rintro _ _ _ _ _ ⟨v,rfl,h⟩ u hu
   obtain rfl:u=v:=by simpa using hu
   exact h.one
 tr:=by
   rintro _ _ _ _ _ _ _ _ hs h ⟨v,rfl,hv⟩
   exact⟨v,rfl,hv.tr hs h⟩
section
variable{P:Program}{w:World}{t t':TypeId}{f:Fr}{x y:Operand}{dst:Option Tmp}{ty:TypeId}{pos:String}{after:Array Edge}{g:Option (Nat×Bool)}{N:Value->World->Prop}{γ:aq}{v u:Value}{xss:List (List Int)}{l:List Int}{i:Nat}
end
end TL
/-
  TlEq: structs compared; a pointer looked at for nil; a bit turned.
  By an AI agent.
-/
set_option linter.all false
namespace TL
open Go
section
variable{P:Program}{f:Fr}{w:World}{dst:Option Tmp}{ty:TypeId}{pos:String}{after:Array Edge}{g:Option (Nat×Bool)}{t t' e:TypeId}{x y:Operand}
theorem bW{a:Addr}(hx:ev f x= .pointer (some a)):(execOp (ev f) ⟨dst,.nilCheck x,ty,pos,after,g⟩).run P w= .ok (.value (.pointer (some a))) w:=by
 simp only[execOp,hx,Sem.run_pure]
end
end TL
namespace TL
open Go
section
variable{P:Program}{f:Fr}{w:World}{dst:Option Tmp}{ty:TypeId}{pos:String}{after:Array Edge}{g:Option (Nat×Bool)}{t:TypeId}{x:Operand}
end
end TL
namespace TL
open Go
section
variable{P:Program}{f:Fr}{w:World}{dst:Option Tmp}{ty:TypeId}{pos:String}{after:Array Edge}{g:Option (Nat×Bool)}{t t':TypeId}{x y:Operand}{m n:Int}
theorem nt(hx:ev f x= .int .i64 m)(hy:ev f y= .int .i64 n)(hn:0<n)(hm: -4611686018427387904<=m/\m<=4611686018427387904):(execOp (ev f) ⟨dst,.binOp .quo t x y t',ty,pos,after,g⟩).run P w= .ok (.value (.int .i64 (Int.tdiv m n))) w:=by
 refine b9 .quo x y hx hy ?_
 have h0:¬n=0:=by omega
 have h1:jd (Int.tdiv m n):=by
   have h2:=Int.natAbs_tdiv_le_natAbs m n
   constructor<;>omega
 simp[binOp,Op.intDiv,h0,ek h1]
end
end TL
namespace TL
open Go
theorem oM{f:Fr}{x:Operand}{xs:List Operand}{v:Value}{vs:List Value}(h:ev f x=v)(h2:xs.map (ev f)=vs):(x::xs).map (ev f)=v::vs:=by subst h h2;rfl
end TL
/-
  TlRot: rotations: which may be, turned to their least, faces.
  By an AI agent.
-/
set_option linter.all false
namespace TL
abbrev kM:=List (List Int)
def oy(g:aG)(r:kM):Prop:=(r.length:Int)=g.1/\(∀v:Nat,v<r.length->∀h∈gI r (v:Int),(0<=h/\h<2*(g.2.length:Int))/\c8 g h=v)/\r.flatten.Nodup/\(r.flatten.length:Int)=2*g.2.length
instance (g:aG)(r:kM):Decidable (oy g r):=by unfold oy;infer_instance
section
variable{seen:List Bool}{n:Int}{g:aG}{r:kM}{k i:Nat}
end
end TL
namespace TL
end TL
/-
  TlShort: short names for the commonest steps (used by packed claims only).
  By an AI agent.
-/
set_option linter.all false
namespace TL
open Go
abbrev vi(x:Int):Value:=Value.int .i64 x
abbrev vp(b o:Nat):Value:=Value.pointer (some ⟨b,o,none⟩)
abbrev vn:Value:=Value.slice none 0 0
abbrev vt(l:List Value):Value:=Value.tuple (List.toArray l)
abbrev vg(l:List Value):Value:=Value.agg (List.toArray l)
theorem cg(L:List Nat){γ γ':aq}{w w':World}(h:aP (inl L) γ w γ' w'):aP (inl L) γ w γ' w':=h
theorem dt{p:Prop}[Decidable p](h:p):decide p=true:=decide_eq_true h
theorem df{p:Prop}[Decidable p](h:¬p):decide p=false:=decide_eq_false h
section
variable{P:Program}{all rest:List Oper}{K:Fr->World->Prop}{f:Fr}{w w':World}{x:Operand}
variable{dst:Option Tmp}{op:Op}{ty:TypeId}{pos:String}{after:Array Edge}{g:Option (Nat×Bool)}{o:Oper}
theorem lv(v:Value)(hw:bg all ⟨dst,op,ty,pos,after,g⟩ f=true)(h:(execOp (ev f) ⟨dst,op,ty,pos,after,g⟩).run P w= .ok (.value v) w')(hk:dT P all rest K (cT f dst v) w'):dT P all (⟨dst,op,ty,pos,after,g⟩::rest) K f w:=eL hw h hk
theorem lx{v:Value}(h:(execOp (ev f) ⟨dst,op,ty,pos,after,none⟩).run P w= .ok (.value v) w')(hk:dT P all rest K (cT f dst v) w'):dT P all (⟨dst,op,ty,pos,after,none⟩::rest) K f w:=eL rfl h hk
theorem lw(v:Value)(h:(execOp (ev f) ⟨dst,op,ty,pos,after,none⟩).run P w= .ok (.value v) w')(hk:dT P all rest K (cT f dst v) w'):dT P all (⟨dst,op,ty,pos,after,none⟩::rest) K f w:=eL rfl h hk
theorem mv(v:Value)(hk:dT P all rest K (cT f dst v) w)(h:ev f x=v:=by exact rfl):dT P all (⟨dst,.move x,ty,pos,after,none⟩::rest) K f w:=eL rfl (am h) hk
theorem ma(v:Value)(hk:dT P all rest K (cT f dst v) w)(h:ev f x=v:=by exact rfl):dT P all (⟨dst,.assign x,ty,pos,after,none⟩::rest) K f w:=eL rfl (bk h) hk
theorem mi(v:Int)(hk:dT P all rest K (cT f dst (.int .i64 v)) w)(h:ev f x= .int .i64 v:=by exact rfl):dT P all (⟨dst,.move x,ty,pos,after,none⟩::rest) K f w:=eL rfl (am h) hk
theorem ai(v:Int)(hk:dT P all rest K (cT f dst (.int .i64 v)) w)(h:ev f x= .int .i64 v:=by exact rfl):dT P all (⟨dst,.assign x,ty,pos,after,none⟩::rest) K f w:=eL rfl (bk h) hk
theorem mz{v:Value}(h:ev f x=v)(hk:dT P all rest K (cT f dst v) w):dT P all (⟨dst,.move x,ty,pos,after,none⟩::rest) K f w:=eL rfl (am h) hk
theorem lo(h:dC P ⟨dst,op,ty,pos,after,none⟩ f w (λv w'=>dT P all rest K (cT f dst v) w')):dT P all (⟨dst,op,ty,pos,after,none⟩::rest) K f w:=cu rfl h
theorem wy{j:Nat}{x:Bool}{d:Nat}{b:Bool}(hx:b=x)(hg:o.guard=some (j,x):=by exact rfl)(hj:(all[j]?).bind (·.dst)=some d:=by exact rfl)(hb:f d= .bool b:=by exact rfl):bg all o f=true:=o7 hg hj hb hx
theorem wn{j:Nat}{x:Bool}{d:Nat}{b:Bool}(hx:b= !x)(hg:o.guard=some (j,x):=by exact rfl)(hj:(all[j]?).bind (·.dst)=some d:=by exact rfl)(hb:f d= .bool b:=by exact rfl):bg all o f=false:=o8 hg hj hb hx
variable{C:World->Prop}{KQ:Fr->Prop}
theorem qv(v:Value)(h:∀w,C w->(execOp (ev f) ⟨dst,op,ty,pos,after,none⟩).run P w= .ok (.value v) w)(hk:eT P all C rest KQ (cT f dst v)):eT P all C (⟨dst,op,ty,pos,after,none⟩::rest) KQ f:=bF rfl h hk
theorem qx{v:Value}(h:∀w,C w->(execOp (ev f) ⟨dst,op,ty,pos,after,none⟩).run P w= .ok (.value v) w)(hk:eT P all C rest KQ (cT f dst v)):eT P all C (⟨dst,op,ty,pos,after,none⟩::rest) KQ f:=bF rfl h hk
theorem qm(v:Value)(hk:eT P all C rest KQ (cT f dst v))(h:ev f x=v:=by exact rfl):eT P all C (⟨dst,.move x,ty,pos,after,none⟩::rest) KQ f:=bF rfl (λ_ _=>am h) hk
theorem qz{v:Value}(h:ev f x=v)(hk:eT P all C rest KQ (cT f dst v)):eT P all C (⟨dst,.move x,ty,pos,after,none⟩::rest) KQ f:=bF rfl (λ_ _=>am h) hk
end
section
variable{P:Program}{n:Nat}{l:List Oper}{S:World->Prop}{K:Fr->World->Prop}{f:Fr}{w:World}{done:List Nat}{fuel:Nat}{qs:List Nat}
variable{dst:Option Tmp}{op:Op}{ty:TypeId}{pos:String}{after:Array Edge}{g:Option (Nat×Bool)}{v:Value}
theorem ht(i:Nat)(hi:l[i]? =some ⟨dst,op,ty,pos,after,none⟩)(hS:S w)(h:∀w,S w->(execOp (ev f) ⟨dst,op,ty,pos,after,none⟩).run P w= .ok (.value v) w)(hk:jI P n l S K fuel (i::done) (cT f dst v) w)(hn:db l=true:=by kernel_rfl)(hc:(cS l done i&&dR l done i&&eW n ⟨dst,op,ty,pos,after,none⟩)=true:=by kernel_rfl):jI P n l S K (fuel+1) done f w:=nk i hi hn hc rfl hS h hk
theorem xv(i:Nat)(M:List Nat)(hi:l[i]? =some ⟨dst,op,ty,pos,after,none⟩)(h:(execOp (ev f) ⟨dst,op,ty,pos,after,none⟩).run P w= .ok (.value v) w)(hk:fp P n l qs K fuel (i::done) (cT f dst v) w)(hn:db l=true:=by kernel_rfl)(hc:(qs.contains i&&cS l done i&&dR l done i&&fZ l qs done M i&&eW n ⟨dst,op,ty,pos,after,none⟩)=true:=by kernel_rfl):fp P n l qs K (fuel+1) done f w:=om i M hi hn hc rfl h hk
theorem xh(i:Nat)(M:List Nat)(hi:l[i]? =some ⟨dst,op,ty,pos,after,none⟩)(h:∀w',bM w.heap.size w w'->(execOp (ev f) ⟨dst,op,ty,pos,after,none⟩).run P w'= .ok (.value v) w')(hk:fp P n l qs K fuel (i::done) (cT f dst v) w)(hn:db l=true:=by kernel_rfl)(hc:(qs.contains i&&cS l done i&&dR l done i&&fS l qs done M i&&eW n ⟨dst,op,ty,pos,after,none⟩)=true:=by kernel_rfl):fp P n l qs K (fuel+1) done f w:=nI i M hi hn hc rfl h hk
theorem xp(i:Nat)(hi:l[i]? =some ⟨dst,op,ty,pos,after,none⟩)(h:∀w,(execOp (ev f) ⟨dst,op,ty,pos,after,none⟩).run P w= .ok (.value v) w)(hk:fp P n l qs K fuel (i::done) (cT f dst v) w)(hn:db l=true:=by kernel_rfl)(hc:(qs.contains i&&cS l done i&&dR l done i&&eW n ⟨dst,op,ty,pos,after,none⟩)=true:=by kernel_rfl):fp P n l qs K (fuel+1) done f w:=nX i hi hn hc rfl h hk
end
section
variable{γ γ':aq}{w w':World}{v:Value}{j k:Nat}{L:List Nat}
theorem aS.ca{w0:World}(h:aS w0 γ w)(hc:aP (inl L) γ w γ' w')(hj:L.contains 0=false:=by exact rfl):aS w0 γ' w':=h.chg hc (bO hj)
theorem aS.ce{w0:World}(h:aS w0 γ w)(hc:aP (is k) γ w γ' w')(hj:Nat.beq 0 k=false:=by exact rfl):aS w0 γ' w':=h.chg hc (dN hj)
theorem aS.cn{w0:World}(h:aS w0 γ w)(hc:aP no γ w γ' w'):aS w0 γ' w':=h.chg hc (dY _)
theorem Bx.ca{b:Nat}{cs:List Value}(h:Bx γ (is j) w b cs)(hc:aP (inl L) γ w γ' w')(hj:L.contains j=false:=by exact rfl):Bx γ' (is j) w' b cs:=h.chg hc (bO hj)
theorem Bx.ce{b:Nat}{cs:List Value}(h:Bx γ (is j) w b cs)(hc:aP (is k) γ w γ' w')(hj:Nat.beq j k=false:=by exact rfl):Bx γ' (is j) w' b cs:=h.chg hc (dN hj)
theorem Bx.cn{J:bj->Prop}{b:Nat}{cs:List Value}(h:Bx γ J w b cs)(hc:aP no γ w γ' w'):Bx γ' J w' b cs:=h.chg hc (dY _)
theorem Sl.ca{α:Type}[Rp α]{xs:List α}(h:Sl γ (is j) w v xs)(hc:aP (inl L) γ w γ' w')(hj:L.contains j=false:=by exact rfl):Sl γ' (is j) w' v xs:=h.chg hc (bO hj)
theorem Sl.ce{α:Type}[Rp α]{xs:List α}(h:Sl γ (is j) w v xs)(hc:aP (is k) γ w γ' w')(hj:Nat.beq j k=false:=by exact rfl):Sl γ' (is j) w' v xs:=h.chg hc (dN hj)
theorem Sl.cn{α:Type}[Rp α]{S:bj->Prop}{xs:List α}(h:Sl γ S w v xs)(hc:aP no γ w γ' w'):Sl γ' S w' v xs:=h.chg hc (dY _)
theorem Ow.ca{α:Type}[Rp α]{xs:List α}(h:Ow γ (is j) (is j) w v xs)(hc:aP (inl L) γ w γ' w')(hj:L.contains j=false:=by exact rfl):Ow γ' (is j) (is j) w' v xs:=h.chg hc (bO hj) (bO hj)
theorem Ow.ce{α:Type}[Rp α]{xs:List α}(h:Ow γ (is j) (is j) w v xs)(hc:aP (is k) γ w γ' w')(hj:Nat.beq j k=false:=by exact rfl):Ow γ' (is j) (is j) w' v xs:=h.chg hc (dN hj) (dN hj)
theorem Ow.cn{α:Type}[Rp α]{J S:bj->Prop}{xs:List α}(h:Ow γ J S w v xs)(hc:aP no γ w γ' w'):Ow γ' J S w' v xs:=h.chg hc (dY _) (dY _)
theorem cG.ca{α:Type}[Rp α]{xs:List (List α)}(h:cG γ j w v xs)(hc:aP (inl L) γ w γ' w')(hj:L.contains j=false:=by exact rfl):cG γ' j w' v xs:=h.chg hc (bO hj)
theorem cG.ce{α:Type}[Rp α]{xs:List (List α)}(h:cG γ j w v xs)(hc:aP (is k) γ w γ' w')(hj:Nat.beq j k=false:=by exact rfl):cG γ' j w' v xs:=h.chg hc (dN hj)
theorem cG.cn{α:Type}[Rp α]{xs:List (List α)}(h:cG γ j w v xs)(hc:aP no γ w γ' w'):cG γ' j w' v xs:=h.chg hc (dY _)
theorem cQ.ca{α:Type}[Rp α]{h0:Nat}{xs:List (List α)}(h:cQ γ j h0 w v xs)(hc:aP (inl L) γ w γ' w')(hj:L.contains j=false:=by exact rfl):cQ γ' j h0 w' v xs:=h.chg hc (bO hj)
theorem cQ.ce{α:Type}[Rp α]{h0:Nat}{xs:List (List α)}(h:cQ γ j h0 w v xs)(hc:aP (is k) γ w γ' w')(hj:Nat.beq j k=false:=by exact rfl):cQ γ' j h0 w' v xs:=h.chg hc (dN hj)
theorem cQ.cn{α:Type}[Rp α]{h0:Nat}{xs:List (List α)}(h:cQ γ j h0 w v xs)(hc:aP no γ w γ' w'):cQ γ' j h0 w' v xs:=h.chg hc (dY _)
def p7(δ g:aq)(w:World)(ren:Nat->Nat):Prop:=(∀{α:Type} [Rp α] {i:Nat} {v:Value} {xs:List α},Ow δ (is i) (is i) w v xs->∀k:Nat,Nat.beq i 0=false->ren i=k->Ow g (is k) (is k) w v xs)/\(∀{α:Type} [Rp α] {i:Nat} {v:Value} {xs:List (List α)},cG δ i w v xs->∀k:Nat,Nat.beq i 0=false->ren i=k->cG g k w v xs)
theorem kT{δ:aq}(γ:aq)(fr:en w δ w')(ren:Nat->Nat):∃g,aP no γ w g w'/\p7 δ g w' ren:=
 ⟨_,ko fr.below γ δ ren,λh k hi hr=>h.glue fr.col hi hr,λh k hi hr=>h.glue fr.col hi hr⟩
theorem Ow.gl{α:Type}[Rp α]{δ g:aq}{ren:Nat->Nat}{i:Nat}{xs:List α}(h:Ow δ (is i) (is i) w v xs)(G:p7 δ g w ren)(k:Nat)(hi:Nat.beq i 0=false:=by exact rfl)(hr:ren i=k:=by exact rfl):Ow g (is k) (is k) w v xs:=G.1 h k hi hr
theorem cG.gl{α:Type}[Rp α]{δ g:aq}{ren:Nat->Nat}{i:Nat}{xs:List (List α)}(h:cG δ i w v xs)(G:p7 δ g w ren)(k:Nat)(hi:Nat.beq i 0=false:=by exact rfl)(hr:ren i=k:=by exact rfl):cG g k w v xs:=G.2 h k hi hr
end
end TL
/-
  TlGeom: points with whole coordinates: turns, segments, how they meet.
  By an AI agent.
-/
set_option linter.all false
namespace TL
abbrev Pt:=Int×Int
def lF(x y:Int):Int:=if x<y then-1 else if y<x then 1 else 0
def oI(a b:Pt):Int:=a.1*b.2-a.2*b.1
def oq(b a:Pt):Pt:=(b.1-a.1,b.2-a.2)
def jq(a b c:Pt):Int:=lF (oI (oq b a) (oq c a)) 0
def nP(a b p:Pt):Prop:=(min a.1 b.1<=p.1/\p.1<=max a.1 b.1)/\min a.2 b.2<=p.2/\p.2<=max a.2 b.2
instance (a b p:Pt):Decidable (nP a b p):=by unfold nP;infer_instance
def kq(a b p:Pt):Prop:=jq a b p=0/\nP a b p
instance (a b p:Pt):Decidable (kq a b p):=by unfold kq;infer_instance
def gV(a b:Pt):Int:=if lF a.1 b.1≠0 then lF a.1 b.1 else lF a.2 b.2
def oE(a b c d:Pt):Int:=
 let a':=if 0<gV a b then b else a
 let b':=if 0<gV a b then a else b
 let c':=if 0<gV c d then d else c
 let d':=if 0<gV c d then c else d
 let low:=if 0<gV c' a' then c' else a'
 let high:=if gV d' b'<0 then d' else b'
 if 0<gV low high then 0 else if gV low high=0 then 2 else 3
def dP(a b c d:Pt):Int:=
 if jq a b c=0/\jq a b d=0/\jq c d a=0/\jq c d b=0 then oE a b c d
 else if jq a b c*jq a b d<0/\jq c d a*jq c d b<0 then 1
 else if kq a b c\/kq a b d\/kq c d a\/kq c d b then 2 else 0
def gD(p:Pt):Int:=p.1*1073741824+p.2
end TL
namespace TL
def oQ(p:Pt):Prop:=(-1048576<=p.1/\p.1<=1048576)/\ -1048576<=p.2/\p.2<=1048576
instance (p:Pt):Decidable (oQ p):=by unfold oQ;infer_instance
def oL(ps:List Pt):Prop:=ps.length<=4096/\∀p∈ps,oQ p
instance (ps:List Pt):Decidable (oL ps):=by unfold oL;infer_instance
def iI(p:Pt):Int:=if 0<p.1\/p.1=0/\0<p.2 then 0 else 1
section
variable{a b c d:Pt}
end
end TL
/-
  TlGeomR: what is told of many points: areas, boxes, whether a polyline is simple.
  By an AI agent.
-/
set_option linter.all false
namespace TL
def gu(ps:List Pt):Prop:=4<=(ps.length:Int)/\gI ps 0=gI ps ((ps.length:Int)-1)
instance (ps:List Pt):Decidable (gu ps):=by unfold gu;infer_instance
def j3(ps:List Pt)(i k:Nat):Prop:=k=i+1\/i=0/\(k:Int)=(ps.length:Int)-2/\gu ps
instance (ps:List Pt)(i k:Nat):Decidable (j3 ps i k):=by unfold j3;infer_instance
def pa(ps:List Pt)(i k:Nat):Int:=dP (gI ps (i:Int)) (gI ps ((i:Int)+1)) (gI ps (k:Int)) (gI ps ((k:Int)+1))
def nv(ps:List Pt)(i k:Nat):Prop:=j3 ps i k/\pa ps i k=3\/¬j3 ps i k/\pa ps i k≠0
instance (ps:List Pt)(i k:Nat):Decidable (nv ps i k):=by unfold nv;infer_instance
def nA(ps:List Pt)(i:Nat):Prop:=gI ps (i:Int)≠gI ps ((i:Int)+1)/\∀k<ps.length,i<k->(k:Int)<=(ps.length:Int)-2->¬nv ps i k
instance (ps:List Pt)(i:Nat):Decidable (nA ps i):=by unfold nA;infer_instance
def oo(ps:List Pt):Prop:=∀i<ps.length,(i:Int)<=(ps.length:Int)-2->nA ps i
instance (ps:List Pt):Decidable (oo ps):=by unfold oo;infer_instance
section
variable{ps:List Pt}
variable{i k:Nat}
end
end TL
/-
  TlConv: whole numbers turned to another kind, a string's byte, functions that bear values.
  By an AI agent.
-/
set_option linter.all false
namespace TL
open Go
section
variable{P:Program}{w:World}{f:Fr}{dst:Option Tmp}{ty:TypeId}{pos:String}{after:Array Edge}{g:Option (Nat×Bool)}{x y:Operand}{s d t:TypeId}{m:Int}{k k0:IntKind}
theorem i6{us:TypeDesc}(hs:P.underlying s=some us)(hd:P.underlying d=some (.int k))(hx:ev f x= .int k0 m)(hw:k.wrap m=m):(execOp (ev f) ⟨dst,.convert s d x,ty,pos,after,g⟩).run P w= .ok (.value (.int k m)) w:=by
 simp[execOp,convert,hx,ax hs,ax hd,Conv.intToInt,hw]
theorem gO{i r:Int}{b:UInt8}{str:ByteArray}(ht:P.underlying t=some .string)(hx:ev f x= .string str)(hy:ev f y= .int k i)(h0:0<=i)(hb:str[i.toNat]? =some b)(hr:(b.toNat:Int)=r):(execOp (ev f) ⟨dst,.index t x y,ty,pos,after,g⟩).run P w= .ok (.value (.int .u8 r)) w:=by
 simp[execOp,Instr.index,asIntOf,hx,hy,ax ht,h0,hb,hr]
theorem ip{fid:Nat}{cs:List Operand}{vals:List Value}(h:cs.map (ev f)=vals):(execOp (ev f) ⟨dst,.makeFunc (.func fid) #[] cs.toArray,ty,pos,after,g⟩).run P w= .ok (.value (.func (.func fid) #[] vals.toArray)) w:=by
 have h:cs.toArray.map (ev f)=vals.toArray:=by rw[<-h];simp
 simp[execOp,Instr.makeFunc,h]
end
end TL
namespace TL
open Go
section
variable{P:Program}{w:World}{f:Fr}{dst:Option Tmp}{ty:TypeId}{pos:String}{after:Array Edge}{g:Option (Nat×Bool)}{x y:Operand}{t t':TypeId}
end
end TL
namespace TL
open Go
section
variable{P:Program}{w:World}{f:Fr}{dst:Option Tmp}{ty:TypeId}{pos:String}{after:Array Edge}{g:Option (Nat×Bool)}{x y:Operand}{t t':TypeId}
end
end TL
/-
  TlGeomM: meeting segments: moved, turned, named another way about; what ends they share.
  By an AI agent.
-/
set_option linter.all false
namespace TL
section
variable{a b c d:Pt}
def hX(a b c d e:Pt):Prop:=kq a b e/\kq c d e
instance (a b c d e:Pt):Decidable (hX a b c d e):=by unfold hX;infer_instance
def kz(a b c d:Pt):Prop:=jq a b c*jq a b d<0/\jq c d a*jq c d b<0
instance (a b c d:Pt):Decidable (kz a b c d):=by unfold kz;infer_instance
end
end TL
/-
  TlGeomS: polylines gone back, and two of them named the other way about.
  By an AI agent.
-/
set_option linter.all false
namespace TL
abbrev Sg:=Pt×Pt
def k8(ps:List Pt):Nat->List Sg
 |0=>[]
 |k+1=>k8 ps k++[(gI ps (k:Int),gI ps ((k:Int)+1))]
def mt(ps:List Pt):List Sg:=if ps.length=1 then[(gI ps 0,gI ps 0)] else k8 ps (ps.length-1)
def nc(ps:List Pt):Pt:=gI ps ((ps.length:Int)-1)
def nf(ps:List Pt)(p:Pt):Prop:=p=gI ps 0\/p=nc ps
instance (ps:List Pt)(p:Pt):Decidable (nf ps p):=by unfold nf;infer_instance
def kY(q:List Pt)(s t:Sg)(x:Pt):Prop:=nf q x/\kq s.1 s.2 x/\kq t.1 t.2 x
instance (q:List Pt)(s t:Sg)(x:Pt):Decidable (kY q s t x):=by unfold kY;infer_instance
def jZ(p q:List Pt)(s t:Sg):Prop:=kY q s t (gI p 0)\/kY q s t (nc p)
instance (p q:List Pt)(s t:Sg):Decidable (jZ p q s t):=by unfold jZ;infer_instance
def nh(p q:List Pt)(s t:Sg):Prop:=dP s.1 s.2 t.1 t.2=3\/dP s.1 s.2 t.1 t.2≠0/\¬jZ p q s t
instance (p q:List Pt)(s t:Sg):Decidable (nh p q s t):=by unfold nh;infer_instance
def og(p q:List Pt):Prop:=∀s∈mt p,∀t∈mt q,¬nh p q s t
instance (p q:List Pt):Decidable (og p q):=by unfold og;infer_instance
section
variable{p q:List Pt}
end
end TL
namespace TL
section
variable{p q:List Pt}{i k:Nat}
variable{s t:Sg}
end
end TL
namespace TL
section
variable{p q:List Pt}{s t:Sg}{i:Nat}
end
end TL
/-
  TlGeomX: polylines: the document's way and the code's.
  By an AI agent.
-/
set_option linter.all false
namespace TL
section
variable{a b c d:Pt}
end
section
variable{ps:List Pt}{i k:Nat}
end
def oS(but:List Pt)(s t:Sg):Prop:=dP s.1 s.2 t.1 t.2=3\/(dP s.1 s.2 t.1 t.2=1/\¬∃x∈but,hX s.1 s.2 t.1 t.2 x)\/((dP s.1 s.2 t.1 t.2≠0/\dP s.1 s.2 t.1 t.2≠1)/\∃e∈[s.1,s.2,t.1,t.2],hX s.1 s.2 t.1 t.2 e/\e∉but)
instance (but:List Pt)(s t:Sg):Decidable (oS but s t):=by unfold oS;infer_instance
def ox(p q but:List Pt):Prop:=∃s∈mt p,∃t∈mt q,oS but s t
instance (p q but:List Pt):Decidable (ox p q but):=by unfold ox;infer_instance
section
variable{p q B:List Pt}
end
end TL
namespace TL
section
variable{p q but:List Pt}{i k:Nat}
variable{s t:Sg}
end
end TL
/-
  TlAround: points round another one: the order, its laws, the list that is sorted by it.
  By an AI agent.
-/
set_option linter.all false
namespace TL
def oF(p:Pt):Int:=p.1*p.1+p.2*p.2
def pg(a b:Pt)(i k:Int):Prop:=iI a<iI b\/iI a=iI b/\(oI a b<0\/oI a b=0/\(oF a<oF b\/oF a=oF b/\i<k))
def vA(o:Pt)(ps:List Pt)(i:Int):Pt:=oq (gI ps i) o
def pj(o:Pt)(ps:List Pt)(i k:Int):Prop:=pg (vA o ps i) (vA o ps k) i k
def pn(o:Pt)(ps:List Pt)(k:Nat)(l:List Int):Prop:=l.Pairwise (pj o ps)/\∀x,x∈l↔0<=x/\x<(k:Int)
section
variable{o:Pt}{ps:List Pt}{k:Nat}{l l':List Int}
open Classical in
noncomputable def arL (o:Pt) (ps:List Pt):List Int:=if h:∃l,pn o ps ps.length l then choose h else[]
end
section
variable{o:Pt}{ps:List Pt}{k:Nat}{l:List Int}{q:Int}
end
section
variable{o:Pt}{ps:List Pt}
end
end TL
/-
  TlFace: half-edges' next ones, faces.
  By an AI agent.
-/
set_option linter.all false
namespace TL
end TL
namespace TL
structure cO(s s0:List Int)(i:Nat)(j:Int):Prop where
  len:s.length=s0.length
  jj:j=(s0.length:Int)-1-i
  out:∀q:Nat,q<s0.length->(q<i\/j<q)->gI s (q:Int)=gI s0 ((s0.length:Int)-1-q)
  mid:∀q:Nat,i<=q->(q:Int)<=j->gI s (q:Int)=gI s0 (q:Int)
theorem cO.start(s0:List Int):cO s0 s0 0 ((s0.length:Int)-1):=⟨rfl,by omega,λq hq h=>by omega,λq _ _=>rfl⟩
theorem cO.next{s s0:List Int}{i:Nat}{j:Int}(h:cO s s0 i j)(hij:(i:Int)<j):cO ((s.set (i:Int).toNat (gI s j)).set j.toNat (gI s (i:Int))) s0 (i+1) (j-1):=by
 have hl:=h.len
 have hj:=h.jj
 have e1:=h.mid i (Nat.le_refl _) (by omega)
 have e2:=h.mid j.toNat (by omega) (by omega)
 rw[show((j.toNat:Nat):Int)=j by omega] at e2
 refine⟨by simpa using hl,by omega,λq hq hh=>?_,λq h1 h2=>?_⟩
 · rw[bZ (by omega) (by simp;omega) (by omega),bZ (by omega) (by omega) (by omega)]
   by_cases c1:(q:Int)=j
   · rw[if_pos c1,e1];congr 1;omega
   · by_cases c2:(q:Int)=i
     · rw[if_neg c1,if_pos c2,e2];congr 1;omega
     · rw[if_neg c1,if_neg c2];exact h.out q hq (by omega)
 · rw[bZ (by omega) (by simp;omega) (by omega),bZ (by omega) (by omega) (by omega),if_neg (by omega),if_neg (by omega)]
   exact h.mid q (by omega) (by omega)
theorem cO.done{s s0:List Int}{i:Nat}{j:Int}(h:cO s s0 i j)(hij:¬(i:Int)<j):s=s0.reverse:=by
 have hl:=h.len
 have hj:=h.jj
 apply cL
 · simpa using hl
 · intro q hq
   have hr:gI s0.reverse (q:Int)=gI s0 ((s0.length:Int)-1-q):=by
     have hq':q<s0.length:=by omega
     have e:((s0.length:Int)-1-q).toNat=s0.length-1-q:=by omega
     have e2:s0.length-1-q<s0.length:=by omega
     simp[gI,hq',e,e2,List.getElem?_reverse hq']
   rw[hr]
   by_cases c:q<i\/j<(q:Int)
   · exact h.out q (by omega) c
   · rw[h.mid q (by omega) (by omega)];congr 1;omega
structure bQ(out:List (List Int))(g:aG)(k:Nat):Prop where
  len:(out.length:Int)=g.1
  at_:∀v,0<=v->v<g.1->gI out v=dQ g v k
theorem bQ.start{g:aG}(h:0<=g.1):bQ (List.replicate g.1.toNat []) g 0:=⟨by simp;omega,λv h0 h1=>by rw[o6 h0 (by omega)];simp[dQ]⟩
theorem bQ.next{out:List (List Int)}{g:aG}{k:Nat}(h:bQ out g k)(h1:0<=(gI g.2 k).1)(h2:(gI g.2 k).1<g.1)(h3:0<=(gI g.2 k).2)(h4:(gI g.2 k).2<g.1){a b:Int}(ha:a=2*(k:Int))(hb:b=2*(k:Int)+1):
   bQ ((out.set (gI g.2 k).1.toNat (gI out (gI g.2 k).1++[a])).set (gI g.2 k).2.toNat (gI (out.set (gI g.2 k).1.toNat (gI out (gI g.2 k).1++[a])) (gI g.2 k).2++[b])) g (k+1):=by
 have hl:=h.len
 refine⟨by simpa using hl,λv h5 h6=>?_⟩
 rw[bZ h3 (by simp;omega) h5,bZ h1 (by omega) h3,bZ h1 (by omega) h5,ii,h.at_ _ h1 h2,h.at_ _ h3 h4,h.at_ v h5 h6,ha,hb]
 by_cases e2:v=(gI g.2 (k:Int)).2
 · by_cases e1:v=(gI g.2 (k:Int)).1
   · rw[<-e1,<-e2];simp
   · have e3:¬(gI g.2 (k:Int)).2=(gI g.2 (k:Int)).1:=λh=>e1 (e2.trans h)
     have e6:¬(gI g.2 (k:Int)).1=(gI g.2 (k:Int)).2:=λh=>e3 h.symm
     simp[e2,e3,e6]
 · have e4:¬(gI g.2 (k:Int)).2=v:=λh=>e2 h.symm
   by_cases e1:v=(gI g.2 (k:Int)).1
   · rw[if_neg e2,if_pos e1,if_neg e4,if_pos e1.symm,<-e1];simp
   · have e5:¬(gI g.2 (k:Int)).1=v:=λh=>e1 h.symm
     rw[if_neg e2,if_neg e1,if_neg e4,if_neg e5];simp
end TL
namespace TL
end TL
/-
  TlWalk: going through a net breadth first, and its components, as the program does.
  By an AI agent.
-/
set_option linter.all false
namespace TL
def fF(g:aG)(h:Int):Int:=pI (gI g.2 (h/2)) (1-h%2)
theorem nU{g:aG}(hm:bC g){h:Int}(h0:0<=h)(h1:h<2*(g.2.length:Int)):0<=fF g h/\fF g h<g.1:=by
 have hok:=hm.2.2.2 _ (bd (xs:=g.2) (i:=h/2) (by omega) (by omega))
 unfold gX at hok
 unfold fF pI
 split<;>omega
end TL
namespace TL
end TL
namespace TL
theorem bQ.rl{out:List (List Int)}{g:aG}{k:Nat}(h:bQ out g k){v:Int}(h0:0<=v)(h1:v<g.1):((gI out v).length:Int)<=2*(k:Int):=by
 rw[h.at_ v h0 h1]
 have:=js g v k
 omega
theorem bQ.rl2{out:List (List Int)}{g:aG}{k:Nat}(h:bQ out g k){u v:Int}(h2:0<=u)(h3:u<g.1)(h0:0<=v)(h1:v<g.1)(a:Int):((gI (out.set u.toNat (gI out u++[a])) v).length:Int)<=2*(k:Int)+1:=by
 have hl:=h.len
 rw[bZ h2 (by omega) h0]
 split
 · have:=h.rl h2 h3;simp;omega
 · have:=h.rl h0 h1;omega
theorem bQ.done{out:List (List Int)}{g:aG}{k:Nat}(h:bQ out g k)(hk:k=g.2.length):∀v,0<=v->v<g.1->gI out v=jC g v:=λv h0 h1=>by
 subst hk;exact h.at_ v h0 h1
end TL
namespace TL
end TL
namespace TL
end TL
/-
  TlRot2: rotations: faces of half-edges, first ones, parts, moved ones.
  By an AI agent.
-/
set_option linter.all false
namespace TL
def aa(g:aG):kM:=(List.range g.1.toNat).map λ(v:Nat)=>jC g (v:Int)
theorem bQ.first{out:kM}{g:aG}{k:Nat}(h:bQ out g k)(hk:k=g.2.length):out=aa g:=by
 have hl:=h.len
 apply cL
 · simp[aa];omega
 · intro i hi
   rw[h.done hk _ (by omega) (by omega)]
   have:i<g.1.toNat:=by omega
   simp[aa,gI,this]
end TL
/-
  TlJudge: plots: their flaws, as the code and the document gather them.
  By an AI agent.
-/
set_option linter.all false
namespace TL
abbrev pk:=Int×Int×Int
abbrev ft:=List Pt×List (List Pt)
section
variable{β:Type}{f h:Nat->List β}{k n:Nat}{x:β}{F B:List β}
end
section
variable{β:Type}{p:Prop}[Decidable p]{x:β}
end
def pc(l:List Pt):Prop:=2<=(l.length:Int)/\oL l
instance (l:List Pt):Decidable (pc l):=by unfold pc;infer_instance
def mX(g:aG)(p:ft)(e:Int):Prop:=gI (gI p.2 e) 0=gI p.1 (gI g.2 e).1/\gI (gI p.2 e) (((gI p.2 e).length:Int)-1)=gI p.1 (gI g.2 e).2
instance (g:aG)(p:ft)(e:Int):Decidable (mX g p e):=by unfold mX;infer_instance
def mW(l:List Pt)(q:Pt):Prop:=∃s∈k8 l (l.length-1),kq s.1 s.2 q
instance (l:List Pt)(q:Pt):Decidable (mW l q):=by unfold mW;infer_instance
def k7(s t:Sg)(but:List Pt):Prop:=dP s.1 s.2 t.1 t.2=0\/(dP s.1 s.2 t.1 t.2=1\/dP s.1 s.2 t.1 t.2=2)/\∃x∈but,hX s.1 s.2 t.1 t.2 x
instance (s t:Sg)(but:List Pt):Decidable (k7 s t but):=by unfold k7;infer_instance
def od(a b but:List Pt):Prop:=∀s∈k8 a (a.length-1),∀t∈k8 b (b.length-1),k7 s t but
instance (a b but:List Pt):Decidable (od a b but):=by unfold od;infer_instance
section
variable{g:aG}{p:ft}
end
end TL
namespace TL
section
variable{l:List Pt}{p:Pt}{i:Nat}
end
section
variable{a b c d:Pt}{but:List Pt}{k:Nat}{m:Int}
end
def oW(p:ft)(h:Int):Pt:=if h%2=0 then gI (gI p.2 (h/2)) 1 else gI (gI p.2 (h/2)) (((gI p.2 (h/2)).length:Int)-2)
def oU(u v:Pt):Int:=u.1*v.1+u.2*v.2
def ki(u v:Pt):Prop:=oI u v=0/\0<oU u v
instance (u v:Pt):Decidable (ki u v):=by unfold ki;infer_instance
end TL
namespace TL
end TL
namespace TL
section
variable{g:aG}{p:ft}{F G B:List pk}{v e k i:Nat}
end
section
variable{g:aG}{p:ft}{e f:Int}
end
section
variable{a b but:List Pt}{i k:Nat}
end
section
variable{g:aG}{p:ft}{e f:Nat}{b:Bool}
end
end TL
/-
  TlMap: maps that the call makes.
  By an AI agent.
-/
set_option linter.all false
namespace TL
open Go
class Ky (K:Type) where
  val:K->Value
section
variable{P:Program}{f:Fr}{w:World}{dst:Option Tmp}{ty:TypeId}{pos:String}{after:Array Edge}{g:Option (Nat×Bool)}{t:TypeId}{x y z:Operand}{N:Value->World->Prop}
end
instance:Ky Int where
 val k:=.int .i64 k
instance:Ky (Int×Int) where
 val k:=.agg (List.toArray [.int .i64 k.1,.int .i64 k.2])
end TL
namespace TL
open Go
end TL
/-
  TlFloat: floating numbers that are no NaN and have no sign: their bits, as a natural number, stand as they do; sums, roots and quotients of such.
  By an AI agent.
-/
set_option linter.all false
namespace TL
open Ieee
abbrev aJ:Nat:=9218868437227405312
abbrev ng:Nat:=9221120237041090561
def mg(x:Nat):Nat:=if x<4503599627370496 then x else 4503599627370496+x%4503599627370496
def pl(x:Nat):Nat:=x/4503599627370496-1
def vl(x:Nat):Nat:=mg x*2^pl x
theorem kx:double.binade=4503599627370496:=by decide
theorem j8:double.infRung=aJ:=by decide
theorem np:double.signWeight=9223372036854775808:=by decide
theorem nH:double.leastPlace= -1074:=by decide
theorem cA{x:Nat}(h:x<aJ):double.read x= .number false (mg x) (-1074+(pl x:Nat)):=by
 unfold Format.read
 simp only[kx,j8,np,nH]
 have hh:x<9218868437227405312:=h
 have h1:x/9223372036854775808=0:=Nat.div_eq_of_lt (by omega)
 have h2:x%9223372036854775808=x:=Nat.mod_eq_of_lt (by omega)
 rw[h1,h2]
 by_cases hx:x<4503599627370496
 · rw[if_pos hx]
   have:pl x=0:=by unfold pl;omega
   simp[mg,hx,this]
 · rw[if_neg hx,if_pos h]
   simp[mg,hx,pl]
theorem dA:double.read aJ= .infinity false:=by decide
theorem g0{x:Nat}(h:x<=aJ):(∃m i,double.read x= .number false m i)\/double.read x= .infinity false:=by
 rcases Nat.lt_or_ge x aJ with c|c
 · exact .inl ⟨_,_,cA c⟩
 · rw[show x=aJ by omega];exact .inr dA
theorem lC{x:Nat}:mg x=0↔x=0:=by unfold mg;split<;>omega
theorem oA(x:Nat):mg x<9007199254740992:=by unfold mg;split<;>omega
theorem m8{x y:Nat}(h:x<=y):pl x<=pl y:=by unfold pl;omega
theorem n9{x y:Nat}(h:x<y):vl x<vl y:=by
 unfold vl
 by_cases e:pl x=pl y
 · rw[e]
   refine Nat.mul_lt_mul_of_pos_right ?_ (Nat.two_pow_pos _)
   unfold mg;unfold pl at e
   split<;>split<;>omega
 · have hp:=m8 (Nat.le_of_lt h)
   obtain⟨d,hd⟩:∃d,pl y=pl x+1+d:=⟨pl y-pl x-1,by omega⟩
   have hy:4503599627370496<=mg y:=by
     unfold pl at e hd;unfold mg;split<;>omega
   rw[hd,Nat.pow_add,Nat.pow_succ]
   have hx:=oA x
   have h1:0<2^pl x:=Nat.two_pow_pos _
   have h2:1<=2^d:=Nat.two_pow_pos _
   calc mg x*2^pl x<9007199254740992*2^pl x:=Nat.mul_lt_mul_of_pos_right hx h1
     _=4503599627370496*(2^pl x*2*1):=by omega
     _<=mg y*(2^pl x*2*2^d):=Nat.mul_le_mul hy (Nat.mul_le_mul_left _ h2)
theorem kv(m k:Nat):m <<< k=m*2^k:=Nat.shiftLeft_eq m k
theorem l5(a b:Nat):min (-1074+(a:Int)) (-1074+(b:Int))= -1074+((min a b:Nat):Int):=by omega
theorem oe(a b:Nat):(-1074+(a:Int)-(-1074+((min a b:Nat):Int))).toNat=a-min a b:=by omega
theorem nO(a b:Nat):(-1074+(b:Int)-(-1074+((min a b:Nat):Int))).toNat=b-min a b:=by omega
theorem fz{a b:Nat}(h:b<=a):2^(a-b)*2^b=2^a:=by rw[<-Nat.pow_add];congr 1;omega
theorem lI(a b:Nat):compare (a:Int) (b:Int)=compare a b:=by
 rcases Nat.lt_trichotomy a b with h|h|h
 · simp[compare,compareOfLessAndEq,h]
 · subst h;simp[compare,compareOfLessAndEq]
 · have h1:¬a<b:=by omega
   have h2:¬a=b:=by omega
   have h3:¬(a:Int)<b:=by omega
   have h4:¬(a:Int)=b:=by omega
   simp[compare,compareOfLessAndEq,h1,h2,h3,h4]
theorem dX{a b:Nat}(h:a<b):compare a b= .lt:=by simp[compare,compareOfLessAndEq,h]
theorem e7{a b:Nat}(h:b<a):compare a b= .gt:=by simp[compare,compareOfLessAndEq,Nat.not_lt.2 (Nat.le_of_lt h),Nat.ne_of_gt h]
theorem d7(a:Nat):compare a a= .eq:=by simp[compare,compareOfLessAndEq]
theorem cU{x y:Nat}(hx:x<=aJ)(hy:y<=aJ):double.order x y=some (compare x y):=by
  unfold Format.order
  rcases Nat.lt_or_ge x aJ with cx|cx<;>rcases Nat.lt_or_ge y aJ with cy|cy
  · rw[cA cx,cA cy]
    simp only[Datum.order,signed,l5,oe,nO,lI,kv,Bool.false_eq_true,if_false]
    have k1:=fz (a:=pl x) (b:=min (pl x) (pl y)) (by omega)
    have k2:=fz (a:=pl y) (b:=min (pl x) (pl y)) (by omega)
    have h0:0<2^min (pl x) (pl y):=Nat.two_pow_pos _
    have e1:vl x=mg x*2^(pl x-min (pl x) (pl y))*2^min (pl x) (pl y):=by rw[Nat.mul_assoc,k1];rfl
    have e2:vl y=mg y*2^(pl y-min (pl x) (pl y))*2^min (pl x) (pl y):=by rw[Nat.mul_assoc,k2];rfl
    rcases Nat.lt_trichotomy x y with c|c|c
    · rw[dX c];congr 1;refine dX ?_
      have:=n9 c;rw[e1,e2] at this;exact Nat.lt_of_mul_lt_mul_right this
    · subst c;rw[d7,d7]
    · rw[e7 c];congr 1;refine e7 ?_
      have:=n9 c;rw[e1,e2] at this;exact Nat.lt_of_mul_lt_mul_right this
  · rw[cA cx,show y=aJ by omega,dA];simp[Datum.order,dX cx]
  · rw[cA cy,show x=aJ by omega,dA];simp[Datum.order,e7 cy]
  · rw[show x=aJ by omega,show y=aJ by omega,dA];simp[Datum.order,d7]
theorem m5(m:Nat)(p:Int):double.nearest false m p<=aJ:=by
 unfold Format.nearest
 dsimp only
 split
 · simp[Format.word]
 · simp only[Format.word,Bool.false_eq_true,if_false]
   exact Nat.le_trans (Nat.min_le_right _ _) (Nat.le_of_eq j8)
theorem eB:double.write (.infinity false)=aJ:=by decide
def aU(x y:Nat):Nat:=(double.add x y).getD ng
theorem nB{x y:Nat}(hx:x<=aJ)(hy:y<=aJ):double.add x y=some (aU x y)/\aU x y<=aJ:=by
 have:∃z,double.add x y=some z/\z<=aJ:=by
   unfold Format.add
   rcases g0 hx with⟨m,i,e⟩|e<;>rcases g0 hy with⟨n,j,e'⟩|e'<;>rw[e,e']
   · refine⟨_,rfl,?_⟩
     have k:(if signed false m (i-min i j).toNat+signed false n (j-min i j).toNat=0 then false&&false else decide (signed false m (i-min i j).toNat+signed false n (j-min i j).toNat<0))=false:=by
       simp only[signed,Bool.false_eq_true,if_false]
       split
       · rfl
       · exact decide_eq_false (Int.not_lt.2 (Int.add_nonneg (Int.natCast_nonneg _) (Int.natCast_nonneg _)))
     simp only[k]
     exact m5 _ _
   · exact⟨_,rfl,Nat.le_of_eq eB⟩
   · exact⟨_,rfl,Nat.le_of_eq eB⟩
   · exact⟨_,rfl,Nat.le_of_eq eB⟩
 obtain⟨z,h1,h2⟩:=this
 unfold aU;rw[h1];exact⟨rfl,h2⟩
end TL
/-
  TlFl: floating numbers in a walk: what each operation comes to.
  By an AI agent.
-/
set_option linter.all false
namespace TL
open Go
abbrev Fb:=Nat
instance:Rp Nat where
 sz:=1
 rep _ _ _ cs x:=cs=[.float .f64 x]
 len h:=by subst h;rfl
 one h:=by subst h;simp[Value.oneCell']
 tr _ _ h:=h
instance:Fl Nat where
 cells x:=[.float .f64 x]
 rep_iff:=Iff.rfl
def dj(x:Nat):Bool:=Ieee.double.order x x !=some .eq
theorem lT{x:Nat}(h:x<=aJ):dj x=false:=by
 unfold dj;rw[cU h h,d7];rfl
section
variable{P:Program}{f:Fr}{w:World}{dst:Option Tmp}{ty:TypeId}{pos:String}{after:Array Edge}{g:Option (Nat×Bool)}{t t' s d:TypeId}{x y:Operand}{a b r:Nat}
variable{N:Value->World->Prop}
theorem iX(op:BinOp):(eqGuard op t x y (.float .f64 a) (.float .f64 b)).run P w= .ok () w:=by
 unfold eqGuard
 split<;>rfl
theorem ni(hx:ev f x= .float .f64 a)(hy:ev f y= .float .f64 b)(h:Ieee.double.add a b=some r):(execOp (ev f) ⟨dst,.binOp .add t x y t',ty,pos,after,g⟩).run P w= .ok (.value (.float .f64 r)) w:=
 n8 .add hx hy (iX _) (run_float_arith w .add t .f64 a b r h)
theorem er{op:BinOp}{q:Bool}(hx:ev f x= .float .f64 a)(hy:ev f y= .float .f64 b)(h:∀w:World,(binOp op t (.float .f64 a) (.float .f64 b)).run P w= .ok (.bool q) w):(execOp (ev f) ⟨dst,.binOp op t x y t',ty,pos,after,g⟩).run P w= .ok (.value (.bool q)) w:=
 n8 op hx hy (iX _) (h w)
theorem ms{q:Bool}(hx:ev f x= .float .f64 a)(hy:ev f y= .float .f64 b)(h:(Ieee.double.order a b==some .eq)=q):(execOp (ev f) ⟨dst,.binOp .eql t x y t',ty,pos,after,g⟩).run P w= .ok (.value (.bool q)) w:=
 er hx hy (λw=>by rw[binOp_float_cmp_eql];show Sem.run P (pure (Value.bool (Ieee.double.order a b==some .eq))) w=_;rw[h];rfl)
theorem iA{q:Bool}(hx:ev f x= .float .f64 a)(hy:ev f y= .float .f64 b)(h:(Ieee.double.order a b !=some .eq)=q):(execOp (ev f) ⟨dst,.binOp .neq t x y t',ty,pos,after,g⟩).run P w= .ok (.value (.bool q)) w:=
 er hx hy (λw=>by rw[binOp_float_cmp_neq];show Sem.run P (pure (Value.bool (Ieee.double.order a b !=some .eq))) w=_;rw[h];rfl)
theorem jN(ha:a<=aJ)(hb:b<=aJ):(Ieee.double.order a b==some .eq)=decide (a=b):=by
 rw[cU ha hb]
 rcases Nat.lt_trichotomy a b with h|h|h
 · rw[dX h,decide_eq_false (by omega)];rfl
 · rw[h,d7];simp
 · rw[e7 h,decide_eq_false (by omega)];rfl
theorem io(hx:ev f x= .float .f64 a)(hy:ev f y= .float .f64 b)(ha:a<=aJ)(hb:b<=aJ):(execOp (ev f) ⟨dst,.binOp .eql t x y t',ty,pos,after,g⟩).run P w= .ok (.value (.bool (decide (a=b)))) w:=
 ms hx hy (jN ha hb)
theorem nR(hx:ev f x= .float .f64 a)(hy:ev f y= .float .f64 b)(ha:a<=aJ)(hb:b<=aJ):(execOp (ev f) ⟨dst,.binOp .neq t x y t',ty,pos,after,g⟩).run P w= .ok (.value (.bool (!decide (a=b)))) w:=
 iA hx hy (by rw[bne,jN ha hb])
theorem iz(hx:ev f x= .float .f64 a)(hy:ev f y= .float .f64 a):(execOp (ev f) ⟨dst,.binOp .neq t x y t',ty,pos,after,g⟩).run P w= .ok (.value (.bool (dj a))) w:=
  iA hx hy rfl
theorem oC{fid:Nat}{fn:Func}{e:Array Value->Sem Value}{v u:Value}{at_:Array TypeId}(hf:P.funcs[fid]? =some fn)(hname:(fn.name== "runtime.NumGoroutine")=false)(hb:fn.body.isNone=true)(hn:(Extern.findNext fn).isNone=true)(he:Extern.find fn=some e)(hx:ev f x=v)(h:(e #[v]).run P w= .ok u w):
   (execOp (ev f) ⟨dst,.call {callee:=.value (.func fid),args:= #[x],argTypes:=at_},ty,pos,after,g⟩).run P w= .ok (.value u) w:=by
 have hn':Extern.findNext fn=none:=by simpa using hn
 have:=run_callFunc_extern hf hname hb hn' he #[v] w
 rw[h] at this
 have ha:(#[x]).map (ev f)= #[v]:=by simp[hx]
 have h0:∀q:Operand,ev f (.func fid)= .func (.func fid) #[] #[]:=λ_=>rfl
 simp only[execOp,resolve,h0 x,Deferred.ofValue,invoke,ha,Sem.run_bind,Sem.run_pure,Result.andThen_ok,Array.append_empty,Array.empty_append]
 exact this
theorem e8{fid:Nat}{fn:Func}{at_:Array TypeId}{n:Int}(hf:P.funcs[fid]? =some fn)(hname:(fn.name== "runtime.NumGoroutine")=false)(hb:fn.body.isNone=true)(hn:(Extern.findNext fn).isNone=true)(he:Extern.find fn=some Extern.MathFloatBits.float64frombits)(hx:ev f x= .int .u64 n):
   (execOp (ev f) ⟨dst,.call {callee:=.value (.func fid),args:= #[x],argTypes:=at_},ty,pos,after,g⟩).run P w= .ok (.value (.float .f64 n.toNat)) w:=
 oC hf hname hb hn he hx rfl
end
end TL
/-
  TlLit: a list of lists that is written out, with one list in it, as an owned list of lists.
  By an AI agent.
-/
set_option linter.all false
namespace TL
open Go
end TL
namespace TL
open Go
theorem l4{P:Program}{f:Fr}{w:World}{dst:Option Tmp}{ty:TypeId}{pos:String}{after:Array Edge}{g:Option (Nat×Bool)}{t t':TypeId}{x y:Operand}{a b:Nat}{q:Bool}(hx:ev f x= .float .f64 a)(hy:ev f y= .float .f64 b)(h:(Ieee.double.order a b==some .gt)=q):(execOp (ev f) ⟨dst,.binOp .gtr t x y t',ty,pos,after,g⟩).run P w= .ok (.value (.bool q)) w:=
 er hx hy (λw=>by rw[binOp_float_cmp_gtr];show Sem.run P (pure (Value.bool (Ieee.double.order a b==some .gt))) w=_;rw[h];rfl)
end TL
namespace TL
open Go
end TL
namespace TL
open Go
theorem jY{P:Program}{f:Fr}{w:World}{dst:Option Tmp}{ty:TypeId}{pos:String}{after:Array Edge}{g:Option (Nat×Bool)}{t t':TypeId}{x y:Operand}{a b:Nat}(hx:ev f x= .float .f64 a)(hy:ev f y= .float .f64 b)(ha:a<=aJ)(hb:b<=aJ):(execOp (ev f) ⟨dst,.binOp .lss t x y t',ty,pos,after,g⟩).run P w= .ok (.value (.bool (decide (a<b)))) w:=
 er hx hy (λw=>by
   rw[binOp_float_cmp_lss]
   show Sem.run P (pure (Value.bool (Ieee.double.order a b==some .lt))) w=_
   rw[cU ha hb]
   rcases Nat.lt_trichotomy a b with h|h|h
   · rw[dX h,decide_eq_true h];rfl
   · rw[h,d7,decide_eq_false (by omega)];rfl
   · rw[e7 h,decide_eq_false (by omega)];rfl)
end TL
/-
  TlJudge2: what is told of a plot; its rotation.
  By an AI agent.
-/
set_option linter.all false
namespace TL
section
variable{p:ft}{l:List Pt}{a b:Bool}{i k:Nat}
end
section
variable{g:aG}{p:ft}
end
def oJ(p:ft)(l:List Int):List Pt:=l.map (oW p)
def nY(p:ft)(o:Pt)(l:List Int):Prop:=∃j:Nat,j<l.length/\0<j/\ki (oq (gI (oJ p l) (gI (arL o (oJ p l)) ((j:Int)-1))) o) (oq (gI (oJ p l) (gI (arL o (oJ p l)) (j:Int))) o)
noncomputable instance (p:ft) (o:Pt) (l:List Int):Decidable (nY p o l):=by unfold nY;infer_instance
def ou(g:aG)(p:ft):Prop:=∃v:Nat,v<g.1.toNat/\nY p (gI p.1 (v:Int)) (jC g (v:Int))
noncomputable instance (g:aG) (p:ft):Decidable (ou g p):=by unfold ou;infer_instance
end TL
/-
  TlMet: what layer 29 (metric) computes, in plain words.
  By an AI agent.
-/
set_option linter.all false
namespace TL
open Go
end TL
namespace TL
open Go
def bG(x:Nat):Nat:=if dj x=true then ng else x
theorem l3{x:Nat}(h:dj x=true):ng=bG x:=by unfold bG;rw[if_pos h]
theorem mG{x:Nat}(h:¬dj x=true):x=bG x:=by unfold bG;rw[if_neg h]
theorem mB{x:Nat}(h:¬dj x=true)(h0:x=0):0=bG x:=by unfold bG;rw[if_neg h,h0]
end TL
namespace TL
open Go
end TL
namespace TL
open Go
end TL
namespace TL
open Go
end TL
namespace TL
open Go
end TL
namespace TL
end TL
namespace TL
open Go
end TL
/-
  TlZf: weights: floating numbers that are at least 0, of either sign of 0: in sums and comparisons such a one stands for its magnitude (zf).
  By an AI agent.
-/
set_option linter.all false
namespace TL
open Ieee
def cC(a b:Nat):Bool:=Ieee.double.order a b==some .gt
def eb(a b:Nat):Bool:=Ieee.double.order a b==some .gt||Ieee.double.order a b==some .eq
def nF(a b:Nat):Bool:=Ieee.double.order a b==some .lt
abbrev eO(x:Nat):Prop:=eb x 0=true
def zf(x:Nat):Nat:=x%9223372036854775808
theorem jf(x:Nat):double.read x=double.read (zf x)\/(double.read x=(double.read (zf x)).opposite/\(x/9223372036854775808)%2=1):=by
 have e1:zf x/9223372036854775808=0:=Nat.div_eq_of_lt (Nat.mod_lt _ (by decide))
 have e2:zf x%9223372036854775808=x%9223372036854775808:=Nat.mod_mod _ _
 unfold Format.read
 simp only[kx,j8,np,nH]
 rw[e1,e2]
 rcases Nat.mod_two_eq_zero_or_one (x/9223372036854775808) with h|h
 · left;rw[h]
 · right
   refine⟨?_,h⟩
   rw[h]
   split
   · rfl
   · split
     · rfl
     · split<;>rfl
theorem ol{m:Nat}{i j:Int}(h:¬m=0):Datum.order (.number true m i) (.number false 0 j)=some .lt:=by
 have h1:∀k:Nat,0<m <<< k:=λk=>by rw[kv];exact Nat.mul_pos (Nat.pos_of_ne_zero h) (Nat.two_pow_pos _)
 simp only[Datum.order,signed,if_true,Nat.zero_shiftLeft,Bool.false_eq_true,if_false]
 have h2:=h1 (i-min i j).toNat
 generalize m <<< (i-min i j).toNat=q at h2
 have h3: -(q:Int)<((0:Nat):Int):=by omega
 simp only[compare,compareOfLessAndEq,h3,if_true]
theorem fP:double.read 0= .number false 0 (-1074):=by decide
theorem nu{x:Nat}(h:¬x<=aJ)(h2:x<9223372036854775808):∃s t,double.read x= .nan s t:=by
 have hI:aJ=9218868437227405312:=rfl
 unfold Format.read
 simp only[kx,j8,np,nH]
 rw[Nat.mod_eq_of_lt h2,if_neg (by omega),if_neg (by omega),if_neg (by omega)]
 exact⟨_,_,rfl⟩
theorem fX{x:Nat}(h:eO x):zf x<=aJ/\(double.read x=double.read (zf x)\/(zf x=0/\double.read x= .number true 0 (-1074))):=by
  have hz:zf x<9223372036854775808:=Nat.mod_lt _ (by decide)
  unfold eO eb Format.order at h
  rw[fP] at h
  have hle:zf x<=aJ:=by
    by_cases c:zf x<=aJ
    · exact c
    · obtain⟨s,t,e⟩:=nu c hz
      exfalso
      rcases jf x with k|⟨k,_⟩<;>rw[k,e] at h<;>simp[Datum.order,Datum.opposite] at h
  refine⟨hle,?_⟩
  rcases jf x with k|⟨k,_⟩
  · exact .inl k
  · right
    rcases Nat.lt_or_ge (zf x) aJ with c|c
    · rw[k,cA c] at h
      rw[k,cA c]
      by_cases h0:mg (zf x)=0
      · have:=lC.1 h0
        refine⟨this,?_⟩
        rw[this];rfl
      · exfalso
        rw[Datum.opposite,show(!false)=true from rfl,ol h0] at h
        exact absurd h (by decide)
    · have e:zf x=aJ:=Nat.le_antisymm hle c
      rw[k,e,dA] at h
      exfalso
      simp[Datum.order,Datum.opposite] at h
structure mZ(x x':Nat):Prop where
  le:x'<=aJ
  l:∀y,double.order x y=double.order x' y
  r:∀y,double.order y x=double.order y x'
theorem kb{x:Nat}(h:x<=aJ):mZ x x:=⟨h,λ_=>rfl,λ_=>rfl⟩
theorem gx{x:Nat}(h:eO x):mZ x (zf x):=by
 obtain⟨h1,h2⟩:=fX h
 refine⟨h1,λy=>?_,λy=>?_⟩<;>unfold Format.order<;>rcases h2 with k|⟨k0,k⟩
 · rw[k]
 · rw[k,k0,fP]
   cases double.read y<;>simp[Datum.order,signed]
 · rw[k]
 · rw[k,k0,fP]
   cases double.read y<;>simp[Datum.order,signed]
theorem gf{d x:Nat}(hd:d<=aJ)(h:eO x):double.add d x=some (aU d (zf x))/\aU d (zf x)<=aJ:=by
 obtain⟨h1,h2⟩:=fX h
 obtain⟨a1,a2⟩:=nB hd h1
 refine⟨?_,a2⟩
 rw[<-a1]
 unfold Format.add
 rcases h2 with k|⟨k0,k⟩
 · rw[k]
 · rw[k,k0,fP]
   rcases g0 hd with⟨m,i,e⟩|e<;>rw[e]<;>simp[Datum.sum,signed]
theorem nE{x x' y y':Nat}(h:mZ x x')(k:mZ y y'):cC x y=decide (y'<x'):=by
 unfold cC
 rw[h.l,k.r,cU h.le k.le]
 rcases Nat.lt_trichotomy x' y' with c|c|c
 · rw[dX c,decide_eq_false (by omega)];rfl
 · rw[c,d7,decide_eq_false (by omega)];rfl
 · rw[e7 c,decide_eq_true c];rfl
theorem nW{x x' y y':Nat}(h:mZ x x')(k:mZ y y'):nF x y=decide (x'<y'):=by
 unfold nF
 rw[h.l,k.r,cU h.le k.le]
 rcases Nat.lt_trichotomy x' y' with c|c|c
 · rw[dX c,decide_eq_true c];rfl
 · rw[c,d7,decide_eq_false (by omega)];rfl
 · rw[e7 c,decide_eq_false (by omega)];rfl
theorem kd{x:Nat}(h:eO x):cC x 9218868437227405311=decide (zf x=aJ):=by
  have hI:aJ=9218868437227405312:=rfl
  have h1:=(fX h).1
  rw[nE (gx h) (kb (by omega)),decide_eq_decide];omega
theorem n4{x:Nat}(h:eO x):dj x=false:=by
 unfold dj
 have k:=gx h
 rw[k.l,k.r,cU k.le k.le,d7];rfl
open Go
theorem mQ{P:Program}{f:Fr}{w:World}{dst:Option Tmp}{ty:TypeId}{pos:String}{after:Array Edge}{g:Option (Nat×Bool)}{t t':TypeId}{x y:Operand}{a b a' b':Nat}(hx:ev f x= .float .f64 a)(hy:ev f y= .float .f64 b)(ha:mZ a a')(hb:mZ b b'):(execOp (ev f) ⟨dst,.binOp .lss t x y t',ty,pos,after,g⟩).run P w= .ok (.value (.bool (decide (a'<b')))) w:=
 er hx hy (λw=>by rw[binOp_float_cmp_lss];show Sem.run P (pure (Value.bool (nF a b))) w=_;rw[nW ha hb];rfl)
theorem lu{P:Program}{f:Fr}{w:World}{dst:Option Tmp}{ty:TypeId}{pos:String}{after:Array Edge}{g:Option (Nat×Bool)}{t t':TypeId}{x y:Operand}{a b:Nat}{q:Bool}(hx:ev f x= .float .f64 a)(hy:ev f y= .float .f64 b)(h:eb a b=q):(execOp (ev f) ⟨dst,.binOp .geq t x y t',ty,pos,after,g⟩).run P w= .ok (.value (.bool q)) w:=
 er hx hy (λw=>by rw[binOp_float_cmp_geq];show Sem.run P (pure (Value.bool (eb a b))) w=_;rw[h];rfl)
end TL
/-
  TlPq: a heap of places (how far, which node), as container/heap keeps it: what is taken is the least, and nothing else is lost.
  By an AI agent.
-/
set_option linter.all false
namespace TL
abbrev Pl:=Nat×Int
def bK(a b:Pl):Prop:=a.1<b.1\/a.1=b.1/\a.2<b.2
instance (a b:Pl):Decidable (bK a b):=by unfold bK;infer_instance
theorem da(a:Pl):¬bK a a:=by unfold bK;omega
theorem d4{a b c:Pl}(h1:¬bK b a)(h2:¬bK c b):¬bK c a:=by unfold bK at*;omega
theorem fm{a b:Pl}(h:bK a b):¬bK b a:=by unfold bK at*;omega
theorem lz{a b:Pl}(h1:¬bK a b)(h2:¬bK b a):a=b:=by
 unfold bK at*
 exact Prod.ext (by omega) (by omega)
def bN(xs:List Pl)(i:Nat):Pl:=gI xs (i:Int)
theorem cw{xs:List Pl}{i:Nat}(h:i<xs.length):bN xs i=xs[i]:=by unfold bN gI;simp[h]
def i4(xs:List Pl)(i j:Nat):List Pl:=(xs.set i (bN xs j)).set j (bN xs i)
theorem bL(xs:List Pl)(i j:Nat):(i4 xs i j).length=xs.length:=by unfold i4;rw[List.length_set,List.length_set]
theorem ez{xs:List Pl}{i j k:Nat}(hi:i<xs.length)(hj:j<xs.length)(hk:k<xs.length):bN (i4 xs i j) k=if k=j then bN xs i else if k=i then bN xs j else bN xs k:=by
 rw[cw (by rw[bL];exact hk)]
 unfold i4
 rw[List.getElem_set]
 by_cases h1:j=k
 · rw[if_pos h1,if_pos h1.symm]
 · rw[if_neg h1,if_neg (λe=>h1 e.symm),List.getElem_set]
   by_cases h2:i=k
   · rw[if_pos h2,if_pos h2.symm]
   · rw[if_neg h2,if_neg (λe=>h2 e.symm),cw hk]
theorem cZ{xs:List Pl}{i j:Nat}(hi:i<xs.length)(hj:j<xs.length):(i4 xs i j).Perm xs:=by
 unfold i4
 rw[cw hi,cw hj]
 exact List.set_set_perm hi hj
def fv(xs:List Pl)(i n:Nat):Nat:=if 2*i+1+1<n/\bK (bN xs (2*i+1+1)) (bN xs (2*i+1)) then 2*i+1+1 else 2*i+1
def dn:Nat->List Pl->Nat->Nat->List Pl
 |0,xs,_,_=>xs
 |k+1,xs,i,n=>if n<=2*i+1 then xs else if bK (bN xs (fv xs i n)) (bN xs i) then dn k (i4 xs i (fv xs i n)) (fv xs i n) n else xs
def up:Nat->List Pl->Nat->List Pl
 |0,xs,_=>xs
 |k+1,xs,j=>if(j-1)/2=j\/¬bK (bN xs j) (bN xs ((j-1)/2)) then xs else up k (i4 xs ((j-1)/2) j) ((j-1)/2)
def dU(xs:List Pl)(n:Nat):Prop:=∀k,1<=k->k<n->¬bK (bN xs k) (bN xs ((k-1)/2))
theorem kS{xs:List Pl}{n:Nat}(h:dU xs n):∀k,k<n->¬bK (bN xs k) (bN xs 0):=by
 intro k
 induction k using Nat.strongRecOn with
 |ind k ih=>
   intro hk
   by_cases h0:k=0
   · subst h0;exact da _
   · exact d4 (ih ((k-1)/2) (by omega) (by omega)) (h k (by omega) hk)
structure nj(xs:List Pl)(i n:Nat):Prop where
  len:n<=xs.length
  ok:∀k,1<=k->k<n->(k-1)/2≠i->¬bK (bN xs k) (bN xs ((k-1)/2))
  gr:1<=i->∀k,1<=k->k<n->(k-1)/2=i->¬bK (bN xs k) (bN xs ((i-1)/2))
theorem gm{xs:List Pl}{i n:Nat}(h:¬n<=2*i+1):fv xs i n<n/\(fv xs i n-1)/2=i/\i<fv xs i n/\∀k,k<n->(k-1)/2=i->1<=k->¬bK (bN xs k) (bN xs (fv xs i n)):=by
 unfold fv
 split
 · rename_i c
   refine⟨by omega,by omega,by omega,λk hk hp h1=>?_⟩
   have:k=2*i+1\/k=2*i+1+1:=by omega
   rcases this with rfl|rfl
   · exact fm c.2
   · exact da _
 · rename_i c
   refine⟨by omega,by omega,by omega,λk hk hp h1=>?_⟩
   have:k=2*i+1\/k=2*i+1+1:=by omega
   rcases this with rfl|rfl
   · exact da _
   · exact λe=>c ⟨hk,e⟩
theorem nj.next{xs:List Pl}{i n:Nat}(h:nj xs i n)(hn:¬n<=2*i+1)(hl:bK (bN xs (fv xs i n)) (bN xs i)):nj (i4 xs i (fv xs i n)) (fv xs i n) n:=by
 obtain⟨c1,c2,c3,c4⟩:=gm (xs:=xs) hn
 have hlen:=h.len
 generalize fv xs i n=c at c1 c2 c3 c4 hl ⊢
 have A:∀k,k<n->bN (i4 xs i c) k=if k=c then bN xs i else if k=i then bN xs c else bN xs k:=λk hk=>ez (by omega) (by omega) (by omega)
 refine⟨by rw[bL];exact hlen,λk h1 h2 h3=>?_,λ_ k h1 h2 h3=>?_⟩
 · rw[A k h2,A ((k-1)/2) (by omega)]
   rw[if_neg (show¬(k-1)/2=c from h3)]
   by_cases hk:k=c
   · subst hk;rw[if_pos rfl,if_pos c2];exact fm hl
   · rw[if_neg hk]
     by_cases hi:k=i
     · subst hi
       rw[if_pos rfl,if_neg (by omega)]
       exact h.gr h1 c (by omega) c1 c2
     · rw[if_neg hi]
       by_cases hp:(k-1)/2=i
       · rw[if_pos hp];exact c4 k h2 hp h1
       · rw[if_neg hp];exact h.ok k h1 h2 hp
 · rw[A k h2,A ((c-1)/2) (by omega),if_neg (by omega),if_neg (by omega),if_neg (by omega),if_pos c2]
   have:=h.ok k h1 h2 (by omega)
   rw[h3] at this
   exact this
theorem nj.fin{xs:List Pl}{i n:Nat}(h:nj xs i n)(hf:n<=2*i+1\/¬bK (bN xs (fv xs i n)) (bN xs i)):dU xs n:=by
 intro k h1 h2
 by_cases hp:(k-1)/2=i
 · by_cases hn:n<=2*i+1
   · omega
   · obtain⟨c1,c2,c3,c4⟩:=gm (xs:=xs) hn
     rw[hp]
     exact d4 (hf.resolve_left hn) (c4 k h2 hp h1)
 · exact h.ok k h1 h2 hp
theorem iK:∀(f:Nat) (xs:List Pl) (i n:Nat),nj xs i n->n<=f+i->dU (dn f xs i n) n/\(dn f xs i n).length=xs.length/\(dn f xs i n).Perm xs/\∀k,n<=k->k<xs.length->bN (dn f xs i n) k=bN xs k
 |0,xs,i,n,h,hf=>⟨h.fin (.inl (by omega)),rfl,List.Perm.refl _,λ_ _ _=>rfl⟩
 |f+1,xs,i,n,h,hf=>by
   unfold dn
   by_cases hn:n<=2*i+1
   · rw[if_pos hn];exact⟨h.fin (.inl hn),rfl,List.Perm.refl _,λ_ _ _=>rfl⟩
   · rw[if_neg hn]
     by_cases hl:bK (bN xs (fv xs i n)) (bN xs i)
     · rw[if_pos hl]
       obtain⟨c1,c2,c3,c4⟩:=gm (xs:=xs) hn
       have hlen:=h.len
       obtain⟨k1,k2,k3,k4⟩:=iK f _ _ n (h.next hn hl) (by omega)
       refine⟨k1,by rw[k2,bL],k3.trans (cZ (by omega) (by omega)),λk h1 h2=>?_⟩
       rw[k4 k h1 (by rw[bL];exact h2),ez (by omega) (by omega) h2,if_neg (by omega),if_neg (by omega)]
     · rw[if_neg hl];exact⟨h.fin (.inr hl),rfl,List.Perm.refl _,λ_ _ _=>rfl⟩
structure oT(xs:List Pl)(j:Nat):Prop where
  len:j<xs.length
  ok:∀k,1<=k->k<xs.length->k≠j->¬bK (bN xs k) (bN xs ((k-1)/2))
  gr:1<=j->∀k,1<=k->k<xs.length->(k-1)/2=j->¬bK (bN xs k) (bN xs ((j-1)/2))
theorem iZ:∀(f:Nat) (xs:List Pl) (j:Nat),oT xs j->j<=f->dU (up f xs j) xs.length/\(up f xs j).length=xs.length/\(up f xs j).Perm xs
 |0,xs,j,h,hf=>⟨λk h1 h2=>h.ok k h1 h2 (by omega),rfl,List.Perm.refl _⟩
 |f+1,xs,j,h,hf=>by
   have hlen:=h.len
   unfold up
   by_cases hc:(j-1)/2=j\/¬bK (bN xs j) (bN xs ((j-1)/2))
   · rw[if_pos hc]
     refine⟨λk h1 h2=>?_,rfl,List.Perm.refl _⟩
     by_cases e:k=j
     · subst e;rcases hc with hc|hc
       · omega
       · exact hc
     · exact h.ok k h1 h2 e
   · rw[if_neg hc]
     obtain⟨c1,c2⟩:=not_or.1 hc
     have hl:=Classical.not_not.1 c2
     have hj:1<=j:=by omega
     have A:∀k,k<xs.length->bN (i4 xs ((j-1)/2) j) k=if k=j then bN xs ((j-1)/2) else if k=(j-1)/2 then bN xs j else bN xs k:=λk hk=>ez (by omega) (by omega) (by omega)
     have gD:oT (i4 xs ((j-1)/2) j) ((j-1)/2):=by
       refine⟨by rw[bL];omega,λk h1 h2 h3=>?_,λhi k h1 h2 h3=>?_⟩
       · rw[bL] at h2
         rw[A k h2,A ((k-1)/2) (by omega)]
         by_cases e:k=j
         · subst e
           rw[if_pos rfl,if_neg (by omega),if_pos rfl];exact fm hl
         · rw[if_neg e,if_neg h3]
           by_cases p1:(k-1)/2=j
           · rw[if_pos p1];exact h.gr hj k h1 h2 p1
           · rw[if_neg p1]
             by_cases p2:(k-1)/2=(j-1)/2
             · rw[if_pos p2]
               have:=h.ok k h1 h2 e
               rw[p2] at this
               exact d4 (fm hl) this
             · rw[if_neg p2];exact h.ok k h1 h2 e
       · rw[bL] at h2
         have hpj:((j-1)/2-1)/2<xs.length:=by omega
         rw[A k h2,A _ hpj,if_neg (show¬((j-1)/2-1)/2=j by omega),if_neg (show¬((j-1)/2-1)/2=(j-1)/2 by omega)]
         have hq:=h.ok ((j-1)/2) (by omega) (by omega) (by omega)
         by_cases e:k=j
         · rw[if_pos e];exact hq
         · rw[if_neg e,if_neg (by omega)]
           have:=h.ok k h1 h2 e
           rw[h3] at this
           exact d4 hq this
     obtain⟨k1,k2,k3⟩:=iZ f _ _ gD (by omega)
     rw[bL] at k1 k2
     exact⟨k1,k2,k3.trans (cZ (by omega) (by omega))⟩
def fK(xs:List Pl)(x:Pl):List Pl:=up xs.length (xs++[x]) xs.length
theorem kG{xs:List Pl}{x:Pl}{k:Nat}(h:k<xs.length):bN (xs++[x]) k=bN xs k:=by
 rw[cw (by rw[List.length_append];exact Nat.lt_of_lt_of_le h (Nat.le_add_right _ _)),cw h,List.getElem_append_left h]
theorem jt{xs:List Pl}(x:Pl)(h:dU xs xs.length):dU (fK xs x) (xs.length+1)/\(fK xs x).length=xs.length+1/\(fK xs x).Perm (x::xs):=by
 have hl:(xs++[x]).length=xs.length+1:=by rw[List.length_append];rfl
 have hu:oT (xs++[x]) xs.length:=by
   refine⟨by omega,λk h1 h2 h3=>?_,λ_ k h1 h2 h3=>by omega⟩
   rw[kG (by omega),kG (by omega)]
   exact h k h1 (by omega)
 obtain⟨k1,k2,k3⟩:=iZ xs.length _ _ hu (Nat.le_refl _)
 rw[hl] at k1 k2
 exact⟨k1,k2,k3.trans (List.perm_append_comm (l₁:=xs) (l₂:=[x]))⟩
def ci(xs:List Pl):List Pl:=dn (xs.length-1) (i4 xs 0 (xs.length-1)) 0 (xs.length-1)
theorem fk{xs:List Pl}(h:dU xs xs.length)(h0:0<xs.length):dU ((ci xs).take (xs.length-1)) (xs.length-1)/\(ci xs).length=xs.length/\bN (ci xs) (xs.length-1)=bN xs 0/\xs.Perm (bN xs 0::(ci xs).take (xs.length-1)):=by
 have hd:nj (i4 xs 0 (xs.length-1)) 0 (xs.length-1):=by
   refine⟨by rw[bL];omega,λk h1 h2 h3=>?_,λh1=>by omega⟩
   rw[ez (by omega) (by omega) (by omega),ez (by omega) (by omega) (by omega),if_neg (by omega),if_neg (by omega),if_neg (by omega),if_neg h3]
   exact h k h1 (by omega)
 obtain⟨k1,k2,k3,k4⟩:=iK (xs.length-1) _ _ _ hd (by omega)
 rw[bL] at k2 k4
 have e1:bN (ci xs) (xs.length-1)=bN xs 0:=by
   unfold ci
   rw[k4 (xs.length-1) (Nat.le_refl _) (by omega),ez (by omega) (by omega) (by omega),if_pos rfl]
 have hpl:(ci xs).length=xs.length:=k2
 have hat:∀k,k<xs.length-1->bN ((ci xs).take (xs.length-1)) k=bN (ci xs) k:=by
   intro k hk
   rw[cw (by rw[List.length_take];omega),cw (by omega),List.getElem_take]
 refine⟨λk h1 h2=>?_,hpl,e1,?_⟩
 · rw[hat k h2,hat _ (by omega)];exact k1 k h1 h2
 · have p1:(ci xs).Perm xs:=k3.trans (cZ (by omega) (by omega))
   have e2:ci xs=(ci xs).take (xs.length-1)++[bN xs 0]:=by
     rw[<-e1,cw (by omega)]
     have:=List.take_append_getElem (i:=xs.length-1) (show xs.length-1<(ci xs).length by omega)
     rw[this,List.take_of_length_le (by omega)]
   have p2:((ci xs).take (xs.length-1)++[bN xs 0]).Perm (bN xs 0::(ci xs).take (xs.length-1)):=List.perm_append_comm
   rw[<-e2] at p2
   exact p1.symm.trans p2
end TL
namespace TL
theorem nN{a b:Pl}(h:¬a.1=b.1):decide (a.1<b.1)=decide (bK a b):=by rw[decide_eq_decide];unfold bK;omega
theorem nC{a b:Pl}(h:a.1=b.1):decide (a.2<b.2)=decide (bK a b):=by rw[decide_eq_decide];unfold bK;omega
end TL
/-
  TlWay: ways of the least weight (package path): what From tells, as the document does it (the nearest node that is not settled, again and again), and that a heap of waiting nodes finds the same.
  By an AI agent.
-/
set_option linter.all false
namespace TL
abbrev FS:=List Nat×List Int
def cF(g:aG)(ws:List Nat):Int:=if bC g/\ws.length=g.2.length then(if∀x∈ws,eO x then 0 else 13) else 1
def dV(g:aG)(ws:List Nat)(d:Nat)(s:FS)(h:Int):FS:=
 if zf (gI ws (h/2))=aJ then s else if aU d (zf (gI ws (h/2)))<gI s.1 (fF g h) then(s.1.set (fF g h).toNat (aU d (zf (gI ws (h/2)))),s.2.set (fF g h).toNat h) else s
def fY(g:aG)(ws:List Nat)(d:Nat)(hs:List Int)(s:FS):FS:=hs.foldl (dV g ws d) s
def bP(far:List Nat)(se:List Bool):Nat->Int
 |0=> -1
 |k+1=>if gI se (k:Int)=false/\gI far (k:Int)<aJ/\(bP far se k<0\/gI far (k:Int)<gI far (bP far se k)) then(k:Int) else bP far se k
def jw(g:aG)(ws:List Nat):Nat->FS->List Bool->FS
 |0,s,_=>s
 |f+1,s,se=>if bP s.1 se g.1.toNat<0 then s else jw g ws f (fY g ws (gI s.1 (bP s.1 se g.1.toNat)) (gI (aa g) (bP s.1 se g.1.toNat)) s) (se.set (bP s.1 se g.1.toNat).toNat true)
def d8(n:Nat)(s:Int):FS:=((List.replicate n aJ).set s.toNat 0,List.replicate n (-1))
def h8(g:aG)(ws:List Nat)(s:Int):FS:=jw g ws g.1.toNat (d8 g.1.toNat s) (List.replicate g.1.toNat false)
def aK(g:aG)(ws:List Nat)(s:Int):FS×Int:=if cF g ws=0 then(if 0<=s/\s<g.1 then(h8 g ws s,0) else(([],[]),2)) else(([],[]),cF g ws)
theorem oB{g:aG}{ws:List Nat}(h:cF g ws=0):bC g/\ws.length=g.2.length/\∀x∈ws,eO x:=by
 unfold cF at h
 by_cases c:bC g/\ws.length=g.2.length
 · rw[if_pos c] at h
   by_cases d:∀x∈ws,eO x
   · exact⟨c.1,c.2,d⟩
   · rw[if_neg d] at h;exact absurd h (by decide)
 · rw[if_neg c] at h;exact absurd h (by decide)
theorem ky{g:aG}{ws:List Nat}{s:Int}(h:¬cF g ws=0):aK g ws s=(([],[]),cF g ws):=by unfold aK;rw[if_neg h]
theorem fV{g:aG}{ws:List Nat}{s:Int}(h:cF g ws=0)(h2:¬(0<=s/\s<g.1)):aK g ws s=(([],[]),2):=by unfold aK;rw[if_pos h,if_neg h2]
theorem kI{g:aG}{ws:List Nat}{s:Int}(h:cF g ws=0)(h2:0<=s/\s<g.1):aK g ws s=(h8 g ws s,0):=by unfold aK;rw[if_pos h,if_pos h2]
-- what is picked
theorem iM(far:List Nat)(se:List Bool):∀k,bP far se k<k
 |0=>by unfold bP;omega
 |k+1=>by
   have:=iM far se k
   unfold bP;split<;>omega
def fx(far:List Nat)(se:List Bool)(v:Int):Prop:=gI se v=false/\gI far v<aJ
theorem fM{far:List Nat}{se:List Bool}:∀{k:Nat},(∀v:Nat,v<k->¬fx far se v)->bP far se k= -1
 |0,_=>rfl
 |k+1,h=>by
   have i:=fM (k:=k) (λv hv=>h v (by omega))
   unfold bP
   rw[if_neg,i]
   intro c
   exact h k (by omega) ⟨c.1,c.2.1⟩
theorem iJ{far:List Nat}{se:List Bool}{u:Nat}(hu:fx far se u):∀{k:Nat},u<k->(∀v:Nat,v<k->fx far se v->¬bK (gI far v,(v:Int)) (gI far u,(u:Int)))->bP far se k=u
  |0,h,_=>by omega
  |k+1,h,hm=>by
    unfold bP
    by_cases e:u=k
    · subst e
      rw[if_pos]
      refine⟨hu.1,hu.2,?_⟩
      by_cases c:bP far se u<0
      · exact .inl c
      · right
        -- what was picked ahead of it waits and is farther
        have aux:∀k,¬bP far se k<0->fx far se (bP far se k):=by
          intro k
          induction k with
          |zero=>intro c;unfold bP at c;omega
          |succ k ih=>
            intro c
            unfold bP at c ⊢
            split
            · rename_i d;exact⟨d.1,d.2.1⟩
            · rename_i d;rw[if_neg d] at c;exact ih c
        have h1:=aux u c
        have h2:=iM far se u
        obtain⟨v,hv⟩:∃v:Nat,bP far se u=v:=⟨(bP far se u).toNat,by omega⟩
        rw[hv] at h1 h2 ⊢
        have:=hm v (by omega) h1
        unfold bK at this
        simp only at this
        omega
    · have i:=iJ hu (k:=k) (by omega) (λv hv=>hm v (by omega))
      rw[i,if_neg]
      intro c
      have:=hm k (by omega) ⟨c.1,c.2.1⟩
      have c3:=c.2.2
      unfold bK at this
      simp only at this
      omega
-- once all are settled no more rounds matter
def eP(se:List Bool):Nat:=se.count false
theorem mR{se:List Bool}{u:Nat}(hu:u<se.length)(h:gI se (u:Int)=false):eP (se.set u true)+1=eP se:=by
 have e:se[u]=false:=by
   have:gI se (u:Int)=se[u]:=by simp[gI,hu]
   rw[<-this];exact h
 unfold eP
 have hp:0<se.count false:=List.count_pos_iff.2 (e▸List.getElem_mem hu)
 rw[List.count_set hu,e]
 simp
 omega
end TL
namespace TL
theorem jM{x:Nat}(h:x<=aJ):bG x=x:=by unfold bG;rw[lT h];rfl
theorem nS{g:aG}{ws:List Nat}(h:¬decide (bC g)=true):cF g ws=1:=by unfold cF;rw[if_neg];exact λc=>h (decide_eq_true c.1)
theorem nQ{g:aG}{ws:List Nat}(h:¬(ws.length:Int)=(g.2.length:Int)):cF g ws=1:=by unfold cF;rw[if_neg];exact λc=>h (by rw[c.2])
theorem o3{g:aG}{ws:List Nat}{k:Int}(hm:decide (bC g)=true)(hl:(ws.length:Int)=(g.2.length:Int))(hk:0<=k/\k<ws.length)(h:¬eb (gI ws k) 0=true):cF g ws=13:=by
 unfold cF
 rw[if_pos ⟨of_decide_eq_true hm,by omega⟩,if_neg]
 exact λc=>h (c _ (bd hk.1 hk.2))
theorem mJ{ws:List Nat}{k:Nat}(h:∀i:Nat,i<k->eO (gI ws (i:Int)))(hk:eb (gI ws (k:Int)) 0=true):∀i:Nat,i<k+1->eO (gI ws (i:Int)):=by
 intro i hi
 by_cases e:i=k
 · subst e;exact hk
 · exact h i (by omega)
theorem nK{g:aG}{ws:List Nat}{k:Nat}(hm:decide (bC g)=true)(hl:(ws.length:Int)=(g.2.length:Int))(h:∀i:Nat,i<k->eO (gI ws (i:Int)))(hk:¬(k:Int)<ws.length):cF g ws=0:=by
 unfold cF
 rw[if_pos ⟨of_decide_eq_true hm,by omega⟩,if_pos]
 intro x hx
 obtain⟨i,hi,e⟩:=List.mem_iff_getElem.1 hx
 have:=h i (by omega)
 simp only[gI,Int.toNat_natCast,List.getD_eq_getElem?_getD,List.getElem?_eq_getElem hi,Option.getD_some] at this
 rw[<-e];exact this
end TL
/-
  TlWayT: the way that leads to a node, from how the nodes were reached (package path's To), as the document has it.
  By an AI agent.
-/
set_option linter.all false
namespace TL
def dq(g:aG)(by_:List Int):Nat->Int->List Int->List Int×Int
 |0,v,l=>if gI by_ v= -1 then(l,0) else([],14)
 |f+1,v,l=>if gI by_ v= -1 then(l,0) else if gI by_ v<0\/2*(g.2.length:Int)<=gI by_ v\/¬fF g (gI by_ v)=v then([],14) else dq g by_ f (c8 g (gI by_ v)) (gI by_ v::l)
def de(fs:FS)(g:aG):Prop:=bC g/\(fs.1.length:Int)=g.1/\(fs.2.length:Int)=g.1
instance (fs:FS)(g:aG):Decidable (de fs g):=by unfold de;infer_instance
def bl(fs:FS)(g:aG)(t:Int):List Int×Int:=
 if de fs g then(if 0<=t/\t<g.1 then(if cC (gI fs.1 t) 9218868437227405311=true then([],14) else dq g fs.2 g.1.toNat t []) else([],2)) else([],1)
variable{fs:FS}{g:aG}{t v:Int}{l:List Int}{n:Nat}
theorem eS(h:¬de fs g):bl fs g t=([],1):=by unfold bl;rw[if_neg h]
theorem hZ(h:de fs g)(h2:¬(0<=t/\t<g.1)):bl fs g t=([],2):=by unfold bl;rw[if_pos h,if_neg h2]
theorem mV(h:de fs g)(h2:0<=t/\t<g.1)(h3:cC (gI fs.1 t) 9218868437227405311=true):bl fs g t=([],14):=by unfold bl;rw[if_pos h,if_pos h2,if_pos h3]
theorem cX(h:de fs g)(h2:0<=t/\t<g.1)(h3:¬cC (gI fs.1 t) 9218868437227405311=true):bl fs g t=dq g fs.2 g.1.toNat t []:=by unfold bl;rw[if_pos h,if_pos h2,if_neg h3]
structure iu(g:aG)(by_:List Int)(t v:Int)(l:List Int)(n:Nat):Prop where
  v0:0<=v
  v1:v<g.1
  ll:l.length=n
  ln:(n:Int)<=g.1
  eq:dq g by_ (g.1.toNat-n) v l=dq g by_ g.1.toNat t []
variable{by_:List Int}
theorem iu.start(t0:0<=t)(t1:t<g.1):iu g by_ t t [] 0:=⟨t0,t1,rfl,by omega,rfl⟩
theorem iu.fin(h:iu g by_ t v l n)(hv:gI by_ v= -1):dq g by_ g.1.toNat t []=(l,0):=by
 rw[<-h.eq]
 cases g.1.toNat-n<;>(unfold dq;rw[if_pos hv])
theorem iu.no(h:iu g by_ t v l n)(hv:¬gI by_ v= -1)(hh:(n:Int)=g.1\/gI by_ v<0\/2*(g.2.length:Int)<=gI by_ v\/¬fF g (gI by_ v)=v):dq g by_ g.1.toNat t []=([],14):=by
 rw[<-h.eq]
 have h1:=h.ln
 cases hc:g.1.toNat-n with
 |zero=>unfold dq;rw[if_neg hv]
 |succ k=>
   unfold dq;rw[if_neg hv,if_pos]
   rcases hh with e|e
   · omega
   · exact e
theorem iu.next(hm:bC g)(h:iu g by_ t v l n)(hv:¬gI by_ v= -1)(hn:¬(n:Int)=g.1)(h0:¬gI by_ v<0)(h1:¬2*(g.2.length:Int)<=gI by_ v)(h2:fF g (gI by_ v)=v):iu g by_ t (c8 g (gI by_ v)) (gI by_ v::l) (n+1):=by
 have hl:=h.ln
 obtain⟨a,b⟩:=kR hm (h:=gI by_ v) (by omega) (by omega)
 refine⟨a,b,by rw[List.length_cons,h.ll],by omega,?_⟩
 rw[<-h.eq]
 have e:g.1.toNat-n=(g.1.toNat-(n+1))+1:=by omega
 rw[e]
 conv=>rhs;unfold dq
 rw[if_neg hv,if_neg]
 rintro(c|c|c)
 · exact h0 c
 · exact h1 c
 · exact c h2
end TL
/-
  TlOpen: arguments opened: what a law's reader says of a slice is what a walk wants of it.
  By an AI agent.
-/
namespace TL
open Go Go.Proofs Go.ChangeShapes Go.WideShapes Go.Joins Go.Deep
structure eC{H:Type}(f:DataW H->Nat):Prop where
 slice:∀l s:List (DataW H),l.length<=f (.slice l s)
 elem:∀l s:List (DataW H),∀d∈l,f d<=f (.slice l s)
 part:∀l:List (DataW H),∀d∈l,f d<=f (.agg l)
def jm(α:Type)[Rp α](P:Program)(t:TypeId):Prop:=
  ∀{H:Type} (enc:TypeId×Value->H) (w:World) (fuel:Nat) (cs:List Value) (x:DataW H×List MemPlace),DataW.trod enc P w 0 (λ_=>true) true fuel t cs=some x->∃y:α,Rp.rep c0 any w cs y
theorem je{P:Program}{t:TypeId}(ht:P.underlying t=some (.int .i64)):jm Int P t:=by
 intro H enc w fuel cs x h
 obtain⟨n,rfl,_,_⟩:=DataW.trod_int ht h
 exact⟨n,rfl⟩
theorem gK{H:Type}{enc:TypeId×Value->H}{P:Program}{w:World}{base:Nat}{spare:Nat->Bool}{held:Bool}{t e:TypeId}{fuel:Nat}{cs:List Value}{x:DataW H×List MemPlace}(ht:P.underlying t=some (.array 2 e))(hce:P.cellsOf e=1)(hct:P.cellsOf t=2)
   (h:DataW.trod enc P w base spare held fuel t cs=some x):
   ∃v0 v1 y0 y1 n,cs=[v0,v1]/\x=(.agg [y0.1,y1.1],y0.2++y1.2)/\DataW.trod enc P w base spare held n e [v0]=some y0/\DataW.trod enc P w base spare held n e [v1]=some y1:=by
 cases fuel with
 |zero=>simp[DataW.trod] at h
 |succ n=>
   unfold DataW.trod at h
   rw[ht] at h
   have r2:List.range 2=[0,1]:=rfl
   simp only[hct] at h
   by_cases hl:cs.length=2
   · rw[if_pos hl] at h
     match cs,hl with
     |[v0,v1],_=>
       simp[r2,hce] at h
       cases h0:DataW.trod enc P w base spare held n e [v0] with
       |none=>simp[h0] at h
       |some y0=>
         cases h1:DataW.trod enc P w base spare held n e [v1] with
         |none=>simp[h0,h1] at h
         |some y1=>
           simp[h0,h1] at h
           exact⟨v0,v1,y0,y1,n,rfl,h.symm,h0,h1⟩
   · rw[if_neg hl] at h;cases h
theorem l6{P:Program}{t e:TypeId}(ht:P.underlying t=some (.array 2 e))(he:P.underlying e=some (.int .i64))(hce:P.cellsOf e=1)(hct:P.cellsOf t=2):jm (Int×Int) P t:=by
 intro H enc w fuel cs x h
 obtain⟨v0,v1,y0,y1,n,rfl,_,h0,h1⟩:=gK ht hce hct h
 obtain⟨a,ha⟩:=je he enc w n [v0] y0 h0
 obtain⟨b,hb⟩:=je he enc w n [v1] y1 h1
 exact⟨(a,b),[v0],[v1],rfl,ha,hb⟩
theorem fw{α:Type}[Rp α][Inhabited α]{P:Program}{t e:TypeId}(ht:P.underlying t=some (.slice e))(hc:P.cellsOf e=Rp.sz α)(hz:0<Rp.sz α)(he:jm α P e)
    {H:Type}{enc:TypeId×Value->H}{w:World}{f:DataW H->Nat}(hf:eC f){fuel:Nat}{v:Value}{x:DataW H×List MemPlace}
    (hs:∀a len cap,v= .slice (some a) len cap->a.spot=none)(h:DataW.trod enc P w 0 (λ_=>true) true fuel t [v]=some x)(hb:f x.1<=1048576):∃xs:List α,Ro w v xs:=by
  rcases Deep.open_slice ht h with⟨h0,_⟩|⟨a,len,cap,m,n,D,Pl,h0,_,hlc,_,hm,rfl,hx⟩
  · obtain rfl:v= .slice none 0 0:=by simpa using h0
    exact⟨[],.inl ⟨⟨_,rfl⟩,rfl⟩⟩
  · obtain rfl:v= .slice (some a) len cap:=by simpa using h0
    have hsp:=hs a len cap rfl
    obtain⟨b,off,spot⟩:=a
    obtain rfl:spot=none:=hsp
    simp only[if_true] at hm
    subst hm
    obtain⟨Y,hY⟩:=Deep.choose_lt (α:=α) (n:=len) (p:=λi y=>∃cs,(∀j,j<Rp.sz α->w.cell? ⟨b,off+i*Rp.sz α+j,none⟩=cs[j]?)/\Rp.rep c0 any w cs y) (λi hi=>by
      obtain⟨cs',h1,h2⟩:=hx i (by omega)
      obtain⟨y,hy⟩:=he enc w n cs' _ h2
      refine⟨y,cs',λj hj=>?_,hy⟩
      obtain⟨_,hl,hcell⟩:=World.cells?_some h1
      have:=hcell j (by omega)
      rw[Deep.add_add,hc] at this
      rw[<-this]
      unfold Addr.add
      by_cases hij:i*Rp.sz α+j=0
      · rw[if_pos hij,Nat.add_assoc,hij];rfl
      · rw[if_neg hij,Nat.add_assoc])
    have hlen:((List.range len).map Y).length=len:=by simp
    have hbound:=Nat.le_trans (hf.slice _ _) hb
    refine⟨(List.range len).map Y,.inr ⟨b,off,m,by rw[hlen],⟨by omega,by simp at hbound;omega⟩,λi y hi=>?_⟩⟩
    have hil:i<len:=by
      have:=(List.getElem?_eq_some_iff.1 hi).1
      omega
    obtain rfl:Y i=y:=by simpa[hil] using hi
    obtain⟨cs,h1,h2⟩:=hY i hil
    refine⟨?_,trivial,cs,h1,h2⟩
    have h3:=h1 0 hz
    have h4:=Rp.len h2
    have h5:0<cs.length:=by omega
    rw[List.getElem?_eq_getElem h5] at h3
    by_cases hbl:b<w.heap.size
    · exact hbl
    · have:w.heap[b]? =none:=Array.getElem?_eq_none (by omega)
      simp[World.cell?,this] at h3
theorem dc{P:Program}{w:World}{base:Nat}{t e:TypeId}{v:Value}(ht:P.underlying t=some (.slice e))(h:Cell.okWide P w .any base t v):∀a len cap,v= .slice (some a) len cap->a.spot=none:=by
 rintro a len cap rfl
 simp only[Cell.okWide,Cell.ok,ht] at h
 exact h.2.2.2.1
theorem jD{α:Type}[Rp α][Inhabited α]{P:Program}{t e:TypeId}(ht:P.underlying t=some (.slice e))(hc:P.cellsOf e=Rp.sz α)(hz:0<Rp.sz α)(he:jm α P e)
    {H:Type}{enc:TypeId×Value->H}{w:World}{f:DataW H->Nat}(hf:eC f){base:Nat}{v:Value}{d:DataW H}{p:List MemPlace}
    (hval:Value.okWide P w .any base t v)(h:DataW.Trod enc P w 0 (λ_=>true) true t v d p)(hb:f d<=1048576):∃xs:List α,Ro w v xs:=by
  obtain⟨a,len,cap,rfl⟩:=okWide_slice ht hval
  obtain⟨fuel,hfu⟩:=h
  refine fw ht hc hz he hf (dc (w:=w) (base:=base) ht ?_) (x:=(d,p)) hfu hb
  simpa[Value.okWide,ht] using hval
theorem lG{α:Type}[Rp α][Inhabited α]{P:Program}{t t0 t1 e:TypeId}{f0 f1:Field}(hs:P.underlying t=some (.struct #[f0,f1]))(hone:oneCellFields P #[f0,f1]=true)(hC:P.cellsOf t=2)(hts:P.cellTypes P.depth t=some [t0,t1])
    (h0:f0.type=t0)(h1:f1.type=t1)(hi:P.underlying t0=some (.int .i64))(ht:P.underlying t1=some (.slice e))(hc:P.cellsOf e=Rp.sz α)(hz:0<Rp.sz α)(he:jm α P e)
    {H:Type}{enc:TypeId×Value->H}{w:World}{f:DataW H->Nat}(hf:eC f){base:Nat}{v:Value}{d:DataW H}{p:List MemPlace}
    (hval:Value.okWide P w .any base t v)(h:DataW.Trod enc P w 0 (λ_=>true) true t v d p)(hb:f d<=1048576):∃(n:Int) (u:Value) (xs:List α),v= .agg #[.int .i64 n,u]/\Ro w u xs:=by
  obtain⟨v0,v1,y0,y1,n,rfl,rfl,rfl,r0,r1⟩:=open_agg2 hs hone hC hval h
  subst h0 h1
  obtain⟨k,hk,_,_⟩:=DataW.trod_int hi r0
  obtain rfl:v0= .int .i64 k:=by simpa using hk
  have hcell:Cell.okWide P w .any base f1.type v1:=by
    simp only[Value.okWide,hs] at hval
    obtain⟨cs,hcs,_,ts,h3,_,h4⟩:=hval
    rw[hts] at h3
    obtain rfl:=Option.some.inj h3
    obtain rfl: #[Value.int .i64 k,v1]=cs:=by simpa using hcs
    obtain⟨u,hu,hk⟩:=h4 1 v1 rfl
    simp at hu
    subst hu
    exact hk
  obtain⟨xs,hx⟩:=fw ht hc hz he hf (dc ht hcell) (x:=y1) r1 (Nat.le_trans (hf.part _ _ (by simp)) hb)
  exact⟨k,v1,xs,rfl,hx⟩
end TL
/-
  TlCyc: lists gone round: what stands behind what; rotations turned, and moved.
  By an AI agent.
-/
set_option linter.all false
namespace TL
def pi(l:List Int)(h:Int):Int:=gI l ((((l.idxOf h:Nat):Int)+1)%(l.length:Int))
section
variable{g:aG}{r:kM}{to:List Int}
end
end TL
/-
  TlJudge4: directions around a point; a plot turned by a quarter; the example's rotation.
  By an AI agent.
-/
set_option linter.all false
namespace TL
section
variable{u v w:Pt}
end
section
variable{p:ft}{o:Pt}{l:List Int}
end
section
variable{u v:Pt}{i k:Int}
def oh(u:Pt):Prop:=0<=u.1/\0<u.2
instance (u:Pt):Decidable (oh u):=by unfold oh;infer_instance
end
section
variable{o:Pt}{ps:List Pt}
end
end TL
/-
  TlJTr: plots moved as a whole: their flaws.
  By an AI agent.
-/
set_option linter.all false
namespace TL
section
variable{T:Pt->Pt}{D:Pt->Prop}{g:aG}{p:ft}{l a b but:List Pt}{q:Pt}{i k:Nat}
end
section
variable{g:aG}{p:ft}
end
def ov(p:ft):Nat->Int
 |0=>(p.1.length:Int)
 |k+1=>ov p k+((gI p.2 (k:Int)).length:Int)+1
def kf(g:aG)(p:ft):Prop:=ov p p.2.length<=400/\(¬bC g\/g.1<=30/\(g.2.length:Int)<=40)
instance (g:aG)(p:ft):Decidable (kf g p):=by unfold kf;infer_instance
end TL
namespace TL
section
variable{g:aG}{p:ft}{l r:List Pt}{L:List (List Pt)}{k e:Nat}
end
end TL
namespace TL
section
variable{α:Type}[Inhabited α][DecidableEq α]{a b:List α}{k:Nat}
end
section
variable{g:aG}{p:ft}{n:Int}{e:Nat}
end
end TL
/-
  TlOpenL: arguments that are plots: a list of points, and a list of lists of points; whole numbers in their range.
  By an AI agent.
-/
set_option linter.all false
namespace TL
open Go Go.Proofs Go.ChangeShapes Go.WideShapes Go.Joins Go.Deep
def nT(α:Type)[Rp α](Q:α->Prop)(P:Program)(t:TypeId):Prop:=
  ∀{H:Type} (enc:TypeId×Value->H) (w:World) (fuel:Nat) (cs:List Value) (x:DataW H×List MemPlace),DataW.trod enc P w 0 (λ_=>true) true fuel t cs=some x->∃y:α,Rp.rep c0 any w cs y/\Q y
def oN(n:Int):Prop:= -9223372036854775808<=n/\n<=9223372036854775807
theorem lW{P:Program}{t:TypeId}(ht:P.underlying t=some (.int .i64)):nT Int oN P t:=by
 intro H enc w fuel cs x h
 obtain⟨n,rfl,_,hw⟩:=DataW.trod_int ht h
 refine⟨n,rfl,?_⟩
 simp only[Lit.wf,Bool.and_eq_true,decide_eq_true_eq] at hw
 have e1:IntKind.i64.min= -9223372036854775808:=by decide
 have e2:IntKind.i64.max=9223372036854775807:=by decide
 unfold oN
 omega
theorem jA{α:Type}[Rp α][Inhabited α]{Q:α->Prop}{P:Program}{t e:TypeId}(ht:P.underlying t=some (.slice e))(hc:P.cellsOf e=Rp.sz α)(hz:0<Rp.sz α)(he:nT α Q P e)
   {H:Type}{enc:TypeId×Value->H}{w:World}{f:DataW H->Nat}(hf:eC f){fuel:Nat}{v:Value}{x:DataW H×List MemPlace}
   (hs:∀a len cap,v= .slice (some a) len cap->a.spot=none)(h:DataW.trod enc P w 0 (λ_=>true) true fuel t [v]=some x)(hb:f x.1<=1048576):∃xs:List α,Ro w v xs/\(∀y∈xs,Q y)/\xs.length<=1048576:=by
 rcases Deep.open_slice ht h with⟨h0,_⟩|⟨a,len,cap,m,n,D,Pl,h0,_,hlc,_,hm,rfl,hx⟩
 · obtain rfl:v= .slice none 0 0:=by simpa using h0
   exact⟨[],.inl ⟨⟨_,rfl⟩,rfl⟩,λy hy=>(by cases hy),by simp⟩
 · obtain rfl:v= .slice (some a) len cap:=by simpa using h0
   have hsp:=hs a len cap rfl
   obtain⟨b,off,spot⟩:=a
   obtain rfl:spot=none:=hsp
   simp only[if_true] at hm
   subst hm
   obtain⟨Y,hY⟩:=Deep.choose_lt (α:=α) (n:=len) (p:=λi y=>(∃cs,(∀j,j<Rp.sz α->w.cell? ⟨b,off+i*Rp.sz α+j,none⟩=cs[j]?)/\Rp.rep c0 any w cs y)/\Q y) (λi hi=>by
     obtain⟨cs',h1,h2⟩:=hx i (by omega)
     obtain⟨y,hy,hq⟩:=he enc w n cs' _ h2
     refine⟨y,⟨cs',λj hj=>?_,hy⟩,hq⟩
     obtain⟨_,hl,hcell⟩:=World.cells?_some h1
     have:=hcell j (by omega)
     rw[Deep.add_add,hc] at this
     rw[<-this]
     unfold Addr.add
     by_cases hij:i*Rp.sz α+j=0
     · rw[if_pos hij,Nat.add_assoc,hij];rfl
     · rw[if_neg hij,Nat.add_assoc])
   have hlen:((List.range len).map Y).length=len:=by simp
   have hbound:=Nat.le_trans (hf.slice _ _) hb
   have hll:len<=1048576:=by simp at hbound;omega
   refine⟨(List.range len).map Y,.inr ⟨b,off,m,by rw[hlen],⟨by omega,by omega⟩,λi y hi=>?_⟩,λy hy=>?_,by omega⟩
   · have hil:i<len:=by
       have:=(List.getElem?_eq_some_iff.1 hi).1
       omega
     obtain rfl:Y i=y:=by simpa[hil] using hi
     obtain⟨⟨cs,h1,h2⟩,_⟩:=hY i hil
     refine⟨?_,trivial,cs,h1,h2⟩
     have h3:=h1 0 hz
     have h4:=Rp.len h2
     have h5:0<cs.length:=by omega
     rw[List.getElem?_eq_getElem h5] at h3
     by_cases hbl:b<w.heap.size
     · exact hbl
     · have:w.heap[b]? =none:=Array.getElem?_eq_none (by omega)
       simp[World.cell?,this] at h3
   · obtain⟨i,hi,rfl⟩:=List.mem_map.1 hy
     exact(hY i (List.mem_range.1 hi)).2
end TL
/-
  TlWord: words and bytes in memory (a list of uint64, a list of uint8), and how a statement's argument of them is opened.
  By an AI agent.
-/
set_option linter.all false
namespace TL
open Go Go.Proofs Go.ChangeShapes Go.WideShapes Go.Joins Go.Deep
structure Wd where
  n:Nat
  lt:n<18446744073709551616
instance:Inhabited Wd:=⟨⟨0,by decide⟩⟩
instance:Rp Wd where
 sz:=1
 rep _ _ _ cs x:=cs=[.int .u64 (x.n:Int)]
 len h:=by subst h;rfl
 one h:=by subst h;simp[Value.oneCell']
 tr _ _ h:=h
instance:Fl Wd where
 cells x:=[.int .u64 (x.n:Int)]
 rep_iff:=Iff.rfl
structure Bt where
  n:Nat
  lt:n<256
instance:Inhabited Bt:=⟨⟨0,by decide⟩⟩
instance:Rp Bt where
 sz:=1
 rep _ _ _ cs x:=cs=[.int .u8 (x.n:Int)]
 len h:=by subst h;rfl
 one h:=by subst h;simp[Value.oneCell']
 tr _ _ h:=h
instance:Fl Bt where
 cells x:=[.int .u8 (x.n:Int)]
 rep_iff:=Iff.rfl
theorem jQ{P:Program}{t:TypeId}(ht:P.underlying t=some (.int .u64)):jm Wd P t:=by
 intro H enc w fuel cs x h
 obtain⟨n,rfl,_,hw⟩:=DataW.trod_int ht h
 simp only[Lit.wf,Bool.and_eq_true,decide_eq_true_eq] at hw
 have e1:IntKind.u64.min=0:=by decide
 have e2:IntKind.u64.max=18446744073709551615:=by decide
 exact⟨⟨n.toNat,by omega⟩,by show[_]=[_];rw[Int.toNat_of_nonneg (by omega)]⟩
def bI(us:List Wd):List Nat:=us.map (·.n)
theorem l2{us:List Wd}{l:List Nat}{k:Nat}(h:l=bI (us.take k))(hk:(k:Int)<us.length):l++[(gI us (k:Int)).n]=bI (us.take (k+1)):=by
 have hk':k<us.length:=by omega
 unfold bI at*
 rw[List.take_succ_eq_append_getElem hk',List.map_append,<-h]
 simp[gI,hk']
theorem lH{us:List Wd}{l:List Nat}{k:Nat}(h:l=bI (us.take k))(hk:¬(k:Int)<us.length):l=bI us:=by
 rw[List.take_of_length_le (by omega)] at h;exact h
theorem nJ(us:List Wd):(bI us).length=us.length:=by unfold bI;rw[List.length_map]
end TL
namespace TL
open Go Go.Proofs Go.ChangeShapes Go.WideShapes Go.Joins Go.Deep
theorem ij{α:Type}[Rp α][Inhabited α]{Q:α->Prop}{P:Program}{t e:TypeId}(ht:P.underlying t=some (.slice e))(hc:P.cellsOf e=Rp.sz α)(hz:0<Rp.sz α)(he:nT α Q P e)
   {H:Type}{enc:TypeId×Value->H}{w:World}{f:DataW H->Nat}(hf:eC f){base:Nat}{v:Value}{d:DataW H}{p:List MemPlace}
   (hval:Value.okWide P w .any base t v)(h:DataW.Trod enc P w 0 (λ_=>true) true t v d p)(hb:f d<=1048576):∃xs:List α,Ro w v xs/\(∀y∈xs,Q y)/\xs.length<=1048576:=by
 obtain⟨a,len,cap,rfl⟩:=okWide_slice ht hval
 obtain⟨fuel,hfu⟩:=h
 refine jA ht hc hz he hf (dc (w:=w) (base:=base) ht ?_) (x:=(d,p)) hfu hb
 simpa[Value.okWide,ht] using hval
end TL
namespace TL
open Go
end TL
/-
  TlDfs: components found by a stack: the document's way.
  By an AI agent.
-/
set_option linter.all false
namespace TL
theorem hF{g:aG}{v:Int}(h0:0<=v)(h1:v<g.1):gI (aa g) v=jC g v:=by
 unfold aa gI
 have:v.toNat<g.1.toNat:=by omega
 simp[List.getD_eq_getElem?_getD,this]
 congr 1
 omega
theorem jo(g:aG)(h:0<=g.1):((aa g).length:Int)=g.1:=by simp[aa];omega
section
variable{g:aG}{c0 c todo x:List Int}{n s:Int}
variable{v:Int}{k M:Nat}
end
end TL
/-
  TlWayH: From with a heap: what holds while it runs.
  By an AI agent.
-/
set_option linter.all false
namespace TL
theorem cH{xs:List Pl}{i:Int}(h:0<=i):bN xs i.toNat=gI xs i:=by unfold bN;rw[Int.toNat_of_nonneg h]
theorem i8{xs:List Pl}{i j:Int}(hi:0<=i)(hj:0<=j):(xs.set i.toNat (gI xs j)).set j.toNat (gI xs i)=i4 xs i.toNat j.toNat:=by
 unfold i4;rw[cH hi,cH hj]
-- down
structure i3(q xd:List Pl)(i:Int):Prop where
 len:xd.length=q.length
 perm:xd.Perm q
 i0:0<=i
 i1:i<q.length
 fin:∃f,q.length<=f+i.toNat+1/\dn f xd i.toNat (q.length-1)=ci q
theorem i3.start{q:List Pl}(h:0<(q.length:Int)):i3 q ((q.set (Int.toNat 0) (gI q ((q.length:Int)-1))).set (Int.toNat ((q.length:Int)-1)) (gI q 0)) 0:=by
 rw[i8 (by omega) (by omega)]
 have e:Int.toNat ((q.length:Int)-1)=q.length-1:=by omega
 rw[e]
 exact⟨bL _ _ _,cZ (by simp;omega) (by omega),by omega,h,q.length-1,by simp;omega,rfl⟩
theorem i3.end1{q xd:List Pl}{i:Int}(h:i3 q xd i)(hc:((q.length:Int)-1)<=((2*i)+1)):xd=ci q:=by
 obtain⟨f,h1,h2⟩:=h.fin
 have i0:=h.i0
 rw[<-h2]
 cases f with
 |zero=>rfl
 |succ f=>unfold dn;rw[if_pos (by omega)]
theorem i3.end2{q xd:List Pl}{i c:Int}(h:i3 q xd i)(hn:¬((q.length:Int)-1)<=((2*i)+1))(hc:(fv xd i.toNat (q.length-1):Int)=c)(hl:¬(decide (bK (gI xd c) (gI xd i)))=true):xd=ci q:=by
 obtain⟨f,h1,h2⟩:=h.fin
 have i0:=h.i0
 rw[<-h2]
 cases f with
 |zero=>rfl
 |succ f=>
   unfold dn;rw[if_neg (by omega),if_neg]
   intro k
   apply hl
   rw[cH i0] at k
   rw[<-hc]
   exact decide_eq_true k
theorem i3.next{q xd:List Pl}{i c:Int}(h:i3 q xd i)(hn:¬((q.length:Int)-1)<=((2*i)+1))(hc:(fv xd i.toNat (q.length-1):Int)=c)(hl:(decide (bK (gI xd c) (gI xd i)))=true):i3 q ((xd.set i.toNat (gI xd c)).set c.toNat (gI xd i)) c:=by
 obtain⟨f,h1,h2⟩:=h.fin
 have i0:=h.i0
 have hlen:=h.len
 have c0:0<=c:=by omega
 obtain⟨k1,k2,k3,k4⟩:=gm (xs:=xd) (i:=i.toNat) (n:=q.length-1) (by omega)
 rw[i8 i0 c0]
 have e:fv xd i.toNat (q.length-1)=c.toNat:=by omega
 refine⟨by rw[bL,hlen],(cZ (by omega) (by omega)).trans h.perm,c0,by omega,?_⟩
 cases f with
 |zero=>omega
 |succ f=>
   refine⟨f,by omega,?_⟩
   rw[<-h2]
   conv=>rhs;unfold dn
   rw[if_neg (by omega),if_pos,e]
   rw[cH i0,e,cH c0]
   exact of_decide_eq_true hl
theorem mY{xd:List Pl}{n:Nat}{i:Int}(i0:0<=i)(h:(((2*i)+1)+1)<((n:Int)-1))(hp:(decide (bK (gI xd (((2*i)+1)+1)) (gI xd ((2*i)+1))))=true):(fv xd i.toNat (n-1):Int)=((2*i)+1)+1:=by
 unfold fv
 have hp:=of_decide_eq_true hp
 have e1:bN xd (2*i.toNat+1+1)=gI xd (((2*i)+1)+1):=by rw[<-cH (by omega)];congr 1;omega
 have e2:bN xd (2*i.toNat+1)=gI xd ((2*i)+1):=by rw[<-cH (by omega)];congr 1;omega
 rw[if_pos ⟨by omega,by rw[e1,e2];exact hp⟩];omega
theorem iW{xd:List Pl}{n:Nat}{i:Int}(i0:0<=i)(h:¬(((2*i)+1)+1)<((n:Int)-1)\/¬(decide (bK (gI xd (((2*i)+1)+1)) (gI xd ((2*i)+1))))=true):(fv xd i.toNat (n-1):Int)=(2*i)+1:=by
 unfold fv
 have e1:bN xd (2*i.toNat+1+1)=gI xd (((2*i)+1)+1):=by rw[<-cH (by omega)];congr 1;omega
 have e2:bN xd (2*i.toNat+1)=gI xd ((2*i)+1):=by rw[<-cH (by omega)];congr 1;omega
 rw[if_neg,show((2*i.toNat+1:Nat):Int)=2*i+1 by omega]
 rintro⟨a,b⟩
 rw[e1,e2] at b
 rcases h with h|h
 · omega
 · exact h (decide_eq_true b)
theorem i3.nn{q xd:List Pl}{i:Int}(h:i3 q xd i)(hq:∀x∈q,x.1<=aJ):∀x∈xd,x.1<=aJ:=λx hx=>hq x (h.perm.mem_iff.1 hx)
-- up
def lm(l:List Pl):List Pl:=up (l.length-1) l (l.length-1)
theorem mP(q:List Pl)(x:Pl):fK q x=lm (q++[x]):=by unfold fK lm;rw[List.length_append];rfl
structure iG(l xu:List Pl)(j:Int):Prop where
 len:xu.length=l.length
 perm:xu.Perm l
 j0:0<=j
 j1:j<l.length
 fin:∃f,j.toNat<=f/\up f xu j.toNat=lm l
theorem iG.start{l:List Pl}(h:0<(l.length:Int)):iG l l ((l.length:Int)-1):=
 ⟨rfl,List.Perm.refl _,by omega,by omega,l.length-1,by omega,by rw[show((l.length:Int)-1).toNat=l.length-1 by omega];rfl⟩
theorem iG.end1{l xu:List Pl}{j:Int}(h:iG l xu j)(hc:Int.tdiv (j-1) 2=j):xu=lm l:=by
 obtain⟨f,h1,h2⟩:=h.fin
 have j0:=h.j0
 have:j=0:=by
   rcases Int.lt_or_le 0 j with c|c
   · rw[Int.tdiv_eq_ediv_of_nonneg (by omega)] at hc;omega
   · omega
 subst this
 rw[<-h2]
 cases f with
 |zero=>rfl
 |succ f=>unfold up;rw[if_pos (.inl (by decide))]
theorem dx{j:Int}(j0:0<=j)(hc:¬Int.tdiv (j-1) 2=j):1<=j/\Int.tdiv (j-1) 2=(j-1)/2:=by
 by_cases c:1<=j
 · exact⟨c,Int.tdiv_eq_ediv_of_nonneg (by omega)⟩
 · have:j=0:=by omega
   subst this
   exact absurd (by decide) hc
theorem iG.end2{l xu:List Pl}{j:Int}(h:iG l xu j)(hc:¬Int.tdiv (j-1) 2=j)(hl:¬(decide (bK (gI xu j) (gI xu (Int.tdiv (j-1) 2))))=true):xu=lm l:=by
 obtain⟨f,h1,h2⟩:=h.fin
 have j0:=h.j0
 obtain⟨c1,c2⟩:=dx j0 hc
 rw[<-h2]
 cases f with
 |zero=>rfl
 |succ f=>
   have hh:¬bK (bN xu j.toNat) (bN xu ((j.toNat-1)/2)):=by
     intro k
     apply hl
     rw[c2,<-cH j0,<-cH (by omega),show((j-1)/2).toNat=(j.toNat-1)/2 by omega]
     exact decide_eq_true k
   unfold up;rw[if_pos (.inr hh)]
theorem iG.next{l xu:List Pl}{j:Int}(h:iG l xu j)(hc:¬Int.tdiv (j-1) 2=j)(hl:(decide (bK (gI xu j) (gI xu (Int.tdiv (j-1) 2))))=true):iG l ((xu.set (Int.tdiv (j-1) 2).toNat (gI xu j)).set j.toNat (gI xu (Int.tdiv (j-1) 2))) (Int.tdiv (j-1) 2):=by
 obtain⟨f,h1,h2⟩:=h.fin
 have j0:=h.j0
 have j1:=h.j1
 have hlen:=h.len
 obtain⟨c1,c2⟩:=dx j0 hc
 rw[c2] at hl ⊢
 rw[i8 (by omega) j0]
 refine⟨by rw[bL,hlen],(cZ (by omega) (by omega)).trans h.perm,by omega,by omega,?_⟩
 cases f with
 |zero=>omega
 |succ f=>
   refine⟨f,by omega,?_⟩
   rw[<-h2]
   conv=>rhs;unfold up
   have e:((j-1)/2).toNat=(j.toNat-1)/2:=by omega
   rw[if_neg,e]
   rintro(k|k)
   · omega
   · apply k
     rw[cH j0,<-e,cH (by omega)]
     exact of_decide_eq_true hl
theorem iG.nn{l xu:List Pl}{j:Int}(h:iG l xu j)(hq:∀y∈l,y.1<=aJ):∀y∈xu,y.1<=aJ:=λy hy=>hq y (h.perm.mem_iff.1 hy)
-- all of it
structure oH(g:aG)(q:List Pl)(far:List Nat)(by_:List Int)(se:List Bool):Prop where
  lf:(far.length:Int)=g.1
  lb:(by_.length:Int)=g.1
  ls:(se.length:Int)=g.1
  hp:dU q q.length
  nn:∀x∈far,x<=aJ
  qin:∀p∈q,(0<=p.2/\p.2<g.1)/\p.1<aJ/\gI far p.2<=p.1
  cov:∀v:Int,0<=v->v<g.1->fx far se v->(gI far v,v)∈q
def eY(g:aG)(q:List Pl)(se:List Bool):Nat:=eP se*(2*g.2.length+1)+q.length
structure WI(g:aG)(ws:List Nat)(s:Int)(q:List Pl)(far:List Nat)(by_:List Int)(se:List Bool):Prop where
 h:oH g q far by_ se
 res:∃f,eP se<=f/\jw g ws f (far,by_) se=h8 g ws s
 sz:eY g q se<=1024*6145+1
theorem oH.qn{g:aG}{q:List Pl}{far:List Nat}{by_:List Int}{se:List Bool}(h:oH g q far by_ se):∀p∈q,p.1<=aJ:=λp hp=>Nat.le_of_lt (h.qin p hp).2.1
theorem WI.ql{g:aG}{ws:List Nat}{s:Int}{q:List Pl}{far:List Nat}{by_:List Int}{se:List Bool}(h:WI g ws s q far by_ se):(q.length:Int)<=6292481:=by
 have:=h.sz;unfold eY at this;omega
theorem fT{α:Type}[Inhabited α]{n:Nat}{x:α}{v:Int}(h0:0<=v)(h1:v<n):gI (List.replicate n x) v=x:=by
 obtain⟨k,rfl⟩:∃k:Nat,v=(k:Int):=⟨v.toNat,by omega⟩
 have:k<n:=by omega
 simp[gI,this]
theorem WI.start{g:aG}{ws:List Nat}{s:Int}(hm:bC g)(h0:0<=s)(h1:s<g.1):WI g ws s [(0,s)] (d8 g.1.toNat s).1 (d8 g.1.toNat s).2 (List.replicate g.1.toNat false):=by
 obtain⟨m1,m2,m3,m4⟩:=hm
 have hf:∀v:Int,0<=v->v<g.1->gI (d8 g.1.toNat s).1 v=if v=s then 0 else aJ:=by
   intro v v0 v1
   unfold d8
   rw[bZ h0 (by simp;omega) v0]
   by_cases e:v=s
   · rw[if_pos e,if_pos e]
   · rw[if_neg e,if_neg e,fT v0 (by omega)]
 refine⟨⟨by simp[d8];omega,by simp[d8];omega,by simp;omega,λk h1 h2=>by simp at h2;omega,?_,?_,?_⟩,⟨g.1.toNat,?_,rfl⟩,?_⟩
 · intro x hx
   unfold d8 at hx
   rcases List.mem_or_eq_of_mem_set hx with e|e
   · rw[List.eq_of_mem_replicate e];exact Nat.le_refl _
   · rw[e];exact Nat.zero_le _
 · intro p hp
   rw[List.mem_singleton] at hp
   subst hp
   refine⟨⟨h0,h1⟩,(show 0<aJ by decide),?_⟩
   show gI (d8 g.1.toNat s).1 s<=0
   rw[hf s h0 h1,if_pos rfl];exact Nat.le_refl _
 · intro v v0 v1 hw
   have h2:=hw.2
   rw[hf v v0 v1] at h2 ⊢
   by_cases e:v=s
   · subst e;rw[if_pos rfl];exact List.mem_singleton.2 rfl
   · rw[if_neg e] at h2;exact absurd h2 (Nat.lt_irrefl _)
 · unfold eP;rw[List.count_replicate];simp
 · unfold eY eP;rw[List.count_replicate]
   simp only[beq_self_eq_true,if_true,List.length_singleton]
   have:g.1.toNat*(2*g.2.length+1)<=1024*6145:=Nat.mul_le_mul (by omega) (by omega)
   omega
end TL
/-
  TlWayI: From with a heap: one round.
  By an AI agent.
-/
set_option linter.all false
namespace TL
variable{g:aG}{ws:List Nat}{s:Int}{q r:List Pl}{p:Pl}{far:List Nat}{by_:List Int}{se:List Bool}
structure jG(g:aG)(q:List Pl)(far:List Nat)(p:Pl)(r:List Pl):Prop where
 p2:0<=p.2/\p.2<g.1
 p1:p.1<aJ
 pf:gI far p.2<=p.1
 len:r.length+1=q.length
 hp:dU r r.length
 perm:q.Perm (p::r)
 min:∀x∈q,¬bK x p
theorem WI.pop{xj:List Pl}{L:Int}(h:WI g ws s q far by_ se)(hq:0<(q.length:Int))(hj:xj=ci q)(hL:L=(q.length:Int)-1):jG g q far (gI xj L) (xj.take L.toNat):=by
 have hq':0<q.length:=by omega
 obtain⟨h1,h2,h3,h4⟩:=fk h.h.hp hq'
 subst hj hL
 have e0:((q.length:Int)-1).toNat=q.length-1:=by omega
 have e1:gI (ci q) ((q.length:Int)-1)=bN q 0:=by
   rw[<-h3,<-cH (by omega),e0]
 rw[e1,e0]
 have hm:bN q 0∈q:=by rw[cw hq'];exact List.getElem_mem _
 have hl:((ci q).take (q.length-1)).length=q.length-1:=by rw[List.length_take,h2];omega
 obtain⟨a1,a2,a3⟩:=h.h.qin _ hm
 refine⟨a1,a2,a3,by rw[hl];omega,by rw[hl];exact h1,h4,λx hx=>?_⟩
 obtain⟨k,hk,e⟩:=List.mem_iff_getElem.1 hx
 have:=kS h.h.hp k hk
 rw[cw hk,e] at this
 exact this
theorem WI.popx{xj:List Pl}(h:WI g ws s q far by_ se)(hq:0<(q.length:Int))(hj:xj=ci q):jG g q far (gI xj ((xj.length:Int)-1)) (xj.take (Int.toNat ((xj.length:Int)-1)))/\xj.length=q.length:=by
 have hl:xj.length=q.length:=by rw[hj];exact(fk h.h.hp (by omega)).2.1
 exact⟨h.pop hq hj (by rw[hl]),hl⟩
theorem jG.ne(pd:jG g q far p r){x:Pl}(hx:x∈q)(h:x.2≠p.2):x∈r:=by
 rcases List.mem_cons.1 (pd.perm.mem_iff.1 hx) with e|e
 · rw[e] at h;exact absurd rfl h
 · exact e
theorem WI.skip(h:WI g ws s q far by_ se)(pd:jG g q far p r)(hs:gI se p.2=true):WI g ws s r far by_ se/\eY g r se<eY g q se:=by
 have hl:=pd.len
 have hm:eY g r se<eY g q se:=by unfold eY;omega
 refine⟨⟨⟨h.h.lf,h.h.lb,h.h.ls,pd.hp,h.h.nn,λx hx=>h.h.qin x (pd.perm.mem_iff.2 (List.mem_cons_of_mem _ hx)),λv v0 v1 hw=>?_⟩,h.res,by have:=h.sz;omega⟩,hm⟩
 refine pd.ne (h.h.cov v v0 v1 hw) (λe=>?_)
 have e:v=p.2:=e
 have:=hw.1
 rw[e,hs] at this
 cases this
structure RI(g:aG)(ws:List Nat)(s:Int)(M:Nat)(u:Int)(d:Nat)(q:List Pl)(far:List Nat)(by_:List Int)(se:List Bool)(k:Nat):Prop where
 h:oH g q far by_ se
 res:∃f,eP se<=f/\jw g ws f (fY g ws d ((gI (aa g) u).drop k) (far,by_)) se=h8 g ws s
 sz:eY g q se+2*g.2.length+2<=M+k
 mx:M<=1024*6145+1
theorem WI.settle(h:WI g ws s q far by_ se)(pd:jG g q far p r)(hs:¬gI se p.2=true):RI g ws s (eY g q se) p.2 p.1 r far by_ (se.set p.2.toNat true) 0:=by
 have hl:=pd.len
 obtain⟨p20,p21⟩:=pd.p2
 have hlf:=h.h.lf
 have hls:=h.h.ls
 have hs':gI se p.2=false:=by simpa using hs
 have hw:fx far se p.2:=⟨hs',Nat.lt_of_le_of_lt pd.pf pd.p1⟩
 have hin:=h.h.cov p.2 p20 p21 hw
 have hd:gI far p.2=p.1:=by
   have:=pd.min _ hin
   have h2:=pd.pf
   unfold bK at this
   simp only at this
   omega
 obtain⟨un,hun⟩:∃un:Nat,p.2=(un:Int):=⟨p.2.toNat,by omega⟩
 have hpk:bP far se g.1.toNat=p.2:=by
   rw[hun]
   refine iJ (by rw[<-hun];exact hw) (by omega) (λv hv hwv=>?_)
   have h1:=h.h.cov v (by omega) (by omega) hwv
   have h2:=pd.min _ h1
   rw[<-hun,hd]
   exact h2
 have hu:eP (se.set un true)+1=eP se:=mR (by omega) (by rw[<-hun];exact hs')
 have hT:p.2.toNat=un:=by omega
 rw[hT]
 have gset:∀v:Int,0<=v->gI (se.set un true) v=if v=p.2 then true else gI se v:=by
   intro v v0
   rw[<-hT,bZ p20 (by omega) v0]
 refine⟨⟨hlf,h.h.lb,by rw[List.length_set];exact hls,pd.hp,h.h.nn,λx hx=>h.h.qin x (pd.perm.mem_iff.2 (List.mem_cons_of_mem _ hx)),λv v0 v1 hwv=>?_⟩,?_,?_,h.sz⟩
 · have h1:=hwv.1
   rw[gset v v0] at h1
   by_cases e:v=p.2
   · rw[if_pos e] at h1;cases h1
   · rw[if_neg e] at h1
     exact pd.ne (h.h.cov v v0 v1 ⟨h1,hwv.2⟩) e
 · obtain⟨f,f1,f2⟩:=h.res
   cases f with
   |zero=>omega
   |succ f=>
     refine⟨f,by omega,?_⟩
     rw[<-f2]
     conv=>rhs;unfold jw
     rw[show(far,by_).1=far from rfl,hpk,if_neg (by omega),hd,hT,List.drop_zero]
 · unfold eY
   have e:eP se=eP (se.set un true)+1:=hu.symm
   rw[e,Nat.add_mul];omega
theorem fc(d:Nat)(x:Int)(l:List Int)(t:FS):fY g ws d (x::l) t=fY g ws d l (dV g ws d t x):=rfl
variable{M:Nat}{u:Int}{d:Nat}{k:Nat}
theorem RI.same(h:RI g ws s M u d q far by_ se k)(hk:(k:Int)<(gI (aa g) u).length)(e:dV g ws d (far,by_) (gI (gI (aa g) u) (k:Int))=(far,by_)):RI g ws s M u d q far by_ se (k+1):=by
 refine⟨h.h,?_,by have:=h.sz;omega,h.mx⟩
 have:=h.res
 rw[iY hk,fc,e] at this
 exact this
theorem RI.inf(h:RI g ws s M u d q far by_ se k)(hk:(k:Int)<(gI (aa g) u).length)(e:zf (gI ws (gI (gI (aa g) u) (k:Int)/2))=aJ):RI g ws s M u d q far by_ se (k+1):=
 h.same hk (by unfold dV;rw[if_pos e])
theorem RI.no(h:RI g ws s M u d q far by_ se k)(hk:(k:Int)<(gI (aa g) u).length)(e:¬aU d (zf (gI ws (gI (gI (aa g) u) (k:Int)/2)))<gI far (fF g (gI (gI (aa g) u) (k:Int)))):RI g ws s M u d q far by_ se (k+1):=
 h.same hk (by
   unfold dV
   by_cases c:zf (gI ws (gI (gI (aa g) u) (k:Int)/2))=aJ
   · rw[if_pos c]
   · rw[if_neg c];exact if_neg e)
theorem RI.push(h:RI g ws s M u d q far by_ se k)(hk:(k:Int)<(gI (aa g) u).length){hh t:Int}{x:Nat}(ehh:gI (gI (aa g) u) (k:Int)=hh)(et:fF g hh=t)(ex:aU d (zf (gI ws (hh/2)))=x)(t0:0<=t)(t1:t<g.1)
   (hi:¬zf (gI ws (hh/2))=aJ)(e:x<gI far t):RI g ws s M u d (fK q (x,t)) (far.set t.toNat x) (by_.set t.toNat hh) se (k+1):=by
 have hlf:=h.h.lf
 have hlb:=h.h.lb
 obtain⟨p1,p2,p3⟩:=jt (x,t) h.h.hp
 have ht:gI far t<=aJ:=h.h.nn _ (bd t0 (by omega))
 have gset:∀v:Int,0<=v->gI (far.set t.toNat x) v=if v=t then x else gI far v:=λv v0=>bZ t0 (by omega) v0
 refine⟨⟨by rw[List.length_set];exact hlf,by rw[List.length_set];exact hlb,h.h.ls,by rw[p2];exact p1,λy hy=>?_,λy hy=>?_,λv v0 v1 hw=>?_⟩,?_,?_,h.mx⟩
 · rcases List.mem_or_eq_of_mem_set hy with c|c
   · exact h.h.nn _ c
   · rw[c];omega
 · rcases List.mem_cons.1 (p3.mem_iff.1 hy) with c|c
   · subst c
     refine⟨⟨t0,t1⟩,Nat.lt_of_lt_of_le e ht,?_⟩
     show gI (far.set t.toNat x) t<=x
     rw[gset t t0,if_pos rfl];exact Nat.le_refl _
   · obtain⟨a1,a2,a3⟩:=h.h.qin y c
     refine⟨a1,a2,?_⟩
     rw[gset _ a1.1]
     split
     · rename_i e2;rw[e2] at a3;omega
     · exact a3
 · have h2:=hw.2
   rw[gset v v0] at h2 ⊢
   by_cases e2:v=t
   · rw[if_pos e2,e2];exact p3.mem_iff.2 (List.mem_cons_self ..)
   · rw[if_neg e2] at h2 ⊢
     exact p3.mem_iff.2 (List.mem_cons_of_mem _ (h.h.cov v v0 v1 ⟨hw.1,h2⟩))
 · have:=h.res
   rw[iY hk,fc,ehh] at this
   have e3:dV g ws d (far,by_) hh=(far.set t.toNat x,by_.set t.toNat hh):=by
     unfold dV
     rw[if_neg hi,et,ex,if_pos e]
   rw[e3] at this
   exact this
 · have:=h.sz
   unfold eY at this ⊢
   rw[p2];omega
theorem jh(hm:bC g)(u0:0<=u)(u1:u<g.1):(gI (aa g) u).length<=2*g.2.length:=by
 rw[hF u0 u1]
 unfold jC dQ
 refine Nat.le_trans (List.length_filter_le _ _) (by simp)
theorem RI.done(hm:bC g)(u0:0<=u)(u1:u<g.1)(h:RI g ws s M u d q far by_ se k)(hk:¬(k:Int)<(gI (aa g) u).length)(hle:(k:Int)<=(gI (aa g) u).length):WI g ws s q far by_ se/\eY g q se<M:=by
 have h1:=jh hm u0 u1
 have h2:=h.sz
 have h3:=h.mx
 refine⟨⟨h.h,?_,by omega⟩,by omega⟩
 have:=h.res
 rw[List.drop_eq_nil_of_le (by omega)] at this
 exact this
theorem RI.ql(h:RI g ws s M u d q far by_ se k):(q.length:Int)<=6292481+k:=by
 have:=h.sz;have h2:=h.mx;unfold eY at this;omega
theorem WI.done(h:WI g ws s q far by_ se)(hq:¬0<(q.length:Int)):(far,by_)=h8 g ws s:=by
 obtain⟨f,_,h2⟩:=h.res
 have hq':q=[]:=List.length_eq_zero_iff.1 (by omega)
 have hlf:=h.h.lf
 rw[<-h2]
 cases f with
 |zero=>rfl
 |succ f=>
   unfold jw
   rw[if_pos]
   rw[fM (far:=far) (se:=se)]
   · decide
   · intro v hv hw
     have:=h.h.cov v (by omega) (by omega) hw
     rw[hq'] at this;cases this
theorem jV(hm:bC g)(u0:0<=u)(u1:u<g.1)(hk:(k:Int)<(gI (aa g) u).length):0<=gI (gI (aa g) u) (k:Int)/\gI (gI (aa g) u) (k:Int)<2*(g.2.length:Int)/\c8 g (gI (gI (aa g) u) (k:Int))=u:=by
 have h1:=bd (xs:=gI (aa g) u) (i:=(k:Int)) (by omega) hk
 generalize gI (gI (aa g) u) (k:Int)=x at h1 ⊢
 rw[hF u0 u1] at h1
 unfold jC dQ at h1
 obtain⟨a,b⟩:=List.mem_filter.1 h1
 obtain⟨i,hi,rfl⟩:=List.mem_map.1 a
 have:=List.mem_range.1 hi
 exact⟨by omega,by omega,of_decide_eq_true b⟩
end TL
namespace TL
structure dS(g:aG)(f0:List Nat)(b0:List Int)(v:Nat):Prop where
 lf:(f0.length:Int)=g.1
 lb:(b0.length:Int)=g.1
 ff:∀k:Nat,k<v->gI f0 (k:Int)=aJ
 fb:∀k:Nat,k<v->gI b0 (k:Int)= -1
theorem dS.start{g:aG}(hm:bC g):dS g (List.replicate (Int.toNat g.1) (0:Nat)) (List.replicate (Int.toNat g.1) (0:Int)) 0:=by
 have:=hm.1
 exact⟨by simp;omega,by simp;omega,λk h=>by omega,λk h=>by omega⟩
theorem dS.next{g:aG}{f0:List Nat}{b0:List Int}{v:Nat}(h:dS g f0 b0 v)(hv:(v:Int)<g.1):dS g (f0.set (Int.toNat (v:Int)) aJ) (b0.set (Int.toNat (v:Int)) (-1)) (v+1):=by
 have h1:=h.lf
 have h2:=h.lb
 refine⟨by rw[List.length_set];exact h1,by rw[List.length_set];exact h2,λk hk=>?_,λk hk=>?_⟩
 · rw[bZ (by omega) (by omega) (by omega)]
   by_cases e:(k:Int)=v
   · rw[if_pos e]
   · rw[if_neg e];exact h.ff k (by omega)
 · rw[bZ (by omega) (by omega) (by omega)]
   by_cases e:(k:Int)=v
   · rw[if_pos e]
   · rw[if_neg e];exact h.fb k (by omega)
theorem dS.done{g:aG}{ws:List Nat}{s:Int}{f0:List Nat}{b0:List Int}{v:Nat}(h:dS g f0 b0 v)(hm:bC g)(hv:¬(v:Int)<g.1)(s0:0<=s)(s1:s<g.1):WI g ws s [(0,s)] (f0.set s.toNat 0) b0 (List.replicate (Int.toNat g.1) false):=by
 have h1:=h.lf
 have h2:=h.lb
 have e1:f0=List.replicate g.1.toNat aJ:=by
   apply cL
   · simp;omega
   · intro i hi
     rw[h.ff i (by omega),fT (by omega) (by omega)]
 have e2:b0=List.replicate g.1.toNat (-1):=by
   apply cL
   · simp;omega
   · intro i hi
     rw[h.fb i (by omega),fT (by omega) (by omega)]
 rw[e1,e2]
 exact WI.start hm s0 s1
variable{g:aG}{ws:List Nat}{s:Int}{q:List Pl}{far:List Nat}{by_:List Int}{se:List Bool}{M k:Nat}{u:Int}{d:Nat}
theorem ot(hw:∀x∈ws,eO x)(hl:ws.length=g.2.length){h:Int}(h0:0<=h)(h1:h<2*(g.2.length:Int)):eO (gI ws (h/2)):=hw _ (bd (by omega) (by omega))
theorem RI.inf'(h:RI g ws s M u d q far by_ se k)(hk:(k:Int)<(gI (aa g) u).length)(hg:eO (gI ws (gI (gI (aa g) u) (k:Int)/2)))(e:cC (gI ws (gI (gI (aa g) u) (k:Int)/2)) 9218868437227405311=true):RI g ws s M u d q far by_ se (k+1):=
 h.inf hk (by rw[kd hg] at e;exact of_decide_eq_true e)
theorem RI.push'(h:RI g ws s M u d q far by_ se k)(hk:(k:Int)<(gI (aa g) u).length){hh t:Int}{x:Nat}{qn:List Pl}(ehh:gI (gI (aa g) u) (k:Int)=hh)(et:fF g hh=t)(ex:aU d (zf (gI ws (hh/2)))=x)(t0:0<=t)(t1:t<g.1)(hg:eO (gI ws (hh/2)))
   (hi:¬cC (gI ws (hh/2)) 9218868437227405311=true)(e:x<gI far t)(hq:qn=lm (q++[(x,t)])):RI g ws s M u d qn (far.set t.toNat x) (by_.set t.toNat hh) se (k+1):=by
 rw[hq,<-mP]
 exact h.push hk ehh et ex t0 t1 (λc=>hi (by rw[kd hg];exact decide_eq_true c)) e
end TL
namespace TL
variable{g:aG}{ws:List Nat}{s:Int}{q:List Pl}{far:List Nat}{by_:List Int}{se:List Bool}{M k:Nat}{u:Int}{d:Nat}
theorem RI.fnn(h:RI g ws s M u d q far by_ se k){t:Int}(t0:0<=t)(t1:t<g.1):gI far t<=aJ:=h.h.nn _ (bd t0 (by have:=h.h.lf;omega))
end TL
/-
  TlNil: a list that is none, compared.
  By an AI agent.
-/
set_option linter.all false
namespace TL
open Go
section
variable{P:Program}{w:World}{t t':TypeId}{f:Fr}{x y:Operand}{dst:Option Tmp}{ty:TypeId}{pos:String}{after:Array Edge}{g:Option (Nat×Bool)}
end
theorem nZ{α:Type}[Rp α]{γ:aq}{J S:bj->Prop}{w:World}{v:Value}{xs:List α}{hi:Nat}(h:Ow γ J S w v xs)(h2:hi<=xs.length):Ow γ J S w (ga v (Rp.sz α) 0 hi) (xs.take hi):=by
  rcases h with⟨rfl,rfl⟩|⟨b,cap,c,e,rfl,hc,hm,hJ,hb,hcs,hx⟩
  · simp only[List.length_nil] at h2
    have:hi=0:=by omega
    subst this
    exact .inl ⟨rfl,rfl⟩
  · have hl:(xs.take hi).length=hi:=by simp;omega
    refine .inr ⟨b,cap,c,e,?_,⟨by omega,by omega⟩,hm,hJ,hb,hcs,λi x hi'=>hx i x ?_⟩
    · rw[jB]
      simp only[hl]
    · rw[List.getElem?_take] at hi'
      split at hi'
      · exact hi'
      · cases hi'
end TL
/-
  TlIface: a method of an interface value that holds a pointer; values in an interface.
  By an AI agent.
-/
set_option linter.all false
namespace TL
open Go
def fU(P:Program)(T:TypeId)(name:String):Option (Nat×Bool×TypeId):=
  match P.info? T,P.underlying T with
  |some i,some (.pointer e)=>
    match i.methods.find? (·.name==name) with
    |some m=>if m.path.isEmpty then m.func.map (λq=>(q.1,q.2,e)) else none
    |none=>none
  |_,_=>none
theorem kB{P:Program}{T e:TypeId}{name:String}{f:Nat}{b:Bool}(h:fU P T name=some (f,b,e)):∃i m,P.info? T=some i/\P.underlying T=some (.pointer e)/\i.methods.find? (·.name==name)=some m/\m.path= #[]/\m.func=some (f,b):=by
 unfold fU at h
 split at h
 · rename_i i e' hi hu
   split at h
   · rename_i m hm
     split at h
     · rename_i hp
       cases hf:m.func with
       |none=>rw[hf] at h;cases h
       |some q=>
         rw[hf] at h
         simp only[Option.map_some,Option.some.injEq,Prod.mk.injEq] at h
         obtain⟨h1,h2,h3⟩:=h
         refine⟨i,m,hi,h3▸hu,hm,by simpa using hp,?_⟩
         rw[hf,<-h1,<-h2]
     · cases h
   · cases h
 · cases h
section
variable{P:Program}{f:Fr}{w:World}{dst:Option Tmp}{ty:TypeId}{pos:String}{after:Array Edge}{g:Option (Nat×Bool)}{T e:TypeId}{name:String}{fid n:Nat}{a:Addr}{v u:Value}
theorem gJ{i:TypeInfo}{t:TypeId}(h:P.info? t=some i):(typeInfo t).run P w= .ok i w:=by simp[typeInfo,h]
theorem em(h:fU P T name=some (fid,true,e)):(method (n+1) T v name).run P w= .ok (fid,v) w:=by
 obtain⟨i,m,hi,hu,hm,hp,hf⟩:=kB h
 simp[method,gJ hi,hm,hp,hf,follow,receiverAt,ax hu,Place.get]
theorem kU(t:TypeId)(nm:String):(Builtin.ssaWrapNilChk_ #[t] t #[.pointer (some a),strVal "",strVal nm]).run P w= .ok (.pointer (some a)) w:=rfl
theorem aV(h:fU P T name=some (fid,false,e))(hl:(loadVar e a).run P w= .ok u w):(method (n+1) T (.pointer (some a)) name).run P w= .ok (fid,u) w:=by
 obtain⟨i,m,hi,hu,hm,hp,hf⟩:=kB h
 simp[method,gJ hi,hm,hp,hf,follow,receiverAt,ax hu,Place.get,kU,asAddr,hl]
theorem jX:∃n,P.types.size+Made.depth=n+1:=by
 have h:0<Made.depth:=by decide
 exact⟨P.types.size+Made.depth-1,by omega⟩
variable{x:Operand}{args:List Operand}{at_:Array TypeId}{vals:List Value}{fn:Func}
theorem bo(hx:ev f x= .iface T v)(hm:∀n,(method (n+1) T v name).run P w= .ok (fid,u) w)(hf:P.funcs[fid]? =some fn)(hb:fn.body.isNone=false)(hn:(fn.name== "runtime.NumGoroutine")=false)(ha:args.map (ev f)=vals):
   (execOp (ev f) ⟨dst,.call {callee:=.invoke x name,args:=args.toArray,argTypes:=at_},ty,pos,after,g⟩).run P w= .ok (.enter fid (u::vals).toArray) w:=by
 have ha:args.toArray.map (ev f)=vals.toArray:=by rw[<-ha];simp
 obtain⟨n,hn2⟩:=jX (P:=P)
 have hm':=hm n
 rw[<-hn2] at hm'
 have h1:fn.name≠ "runtime.NumGoroutine" :=by simpa using hn
 have h2:fn.body≠none:=λe=>by rw[e] at hb;cases hb
 simp[execOp,resolve,invoke,callMethod,callFunc,hx,ha,hm',hf,h1,h2]
theorem gy{t:TypeId}{us:TypeDesc}(hs:P.underlying t=some us)(hi:(match us with| .interface _=>true|_=>false)=false)(hx:ev f x=v):(execOp (ev f) ⟨dst,.makeInterface t x,ty,pos,after,g⟩).run P w= .ok (.value (.iface t v)) w:=by
 subst hx
 cases us<;>first|(cases hi;done)|simp[execOp,Instr.makeInterface,ax hs]
theorem gN{s t:TypeId}{us:TypeDesc}(hs:P.underlying t=some us)(hi:(match us with| .interface _=>true|_=>false)=false)(hx:ev f x= .iface t v):(execOp (ev f) ⟨dst,.typeAssert x s t false,ty,pos,after,g⟩).run P w= .ok (.value v) w:=by
 cases us<;>first|(cases hi;done)|simp[execOp,Instr.typeAssert,ax hs,hx]
end
end TL
/-
  TlOrb: going round by a permutation; two places changed; what that does to the numbers of rounds.
  By an AI agent.
-/
set_option linter.all false
namespace TL
def tr(a b x:Int):Int:=if x=a then b else if x=b then a else x
end TL
/-
  TlEul: Euler's count of a rotation.
  By an AI agent.
-/
set_option linter.all false
namespace TL
def cy(r:kM)(x:Int):Int:=match r.find? (λl=>decide (x∈l)) with
  |some l=>pi l x
  |none=>x
end TL
/-
  TlFaces: faces: each half-edge on one, the least ahead, each right behind the twin of the one ahead; and the mirror's faces.
  By an AI agent.
-/
set_option linter.all false
namespace TL
theorem gH(n:Nat):(b7 n).Pairwise (· < ·):=by
 unfold b7
 rw[List.pairwise_map]
 exact List.pairwise_lt_range.imp (λh=>by omega)
section
variable{g:aG}{r:kM}
end
end TL
