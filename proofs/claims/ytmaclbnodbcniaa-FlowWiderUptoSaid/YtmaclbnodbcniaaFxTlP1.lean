/- Plain texts of this claim, part 1. By an AI agent. -/
import Derived.Test.YtmaclbnodbcniaaFxTlP0
import Derived.Carry
import Derived.Deep.Slices
import Derived.Laws.Externs
import Derived.Laws.FloatArith
import Derived.Laws.FloatBits
import Derived.Laws.NewFold
import Derived.Laws.StructEq
import Derived.Lib.SmallJoins
import Derived.OrdersHeld
/-
  TlHold: regions that draw their order, where what is read stays: on the kit's OrdersHeld.
  By an AI agent.
-/
set_option linter.all false
namespace TL
open Go
section
variable{P:Program}{n:Nat}{l:List Oper}{S:World->Prop}{K:Fr->World->Prop}{f:Fr}{w:World}{done:List Nat}{fuel:Nat}
def mw(P:Program)(n:Nat)(l:List Oper)(S:World->Prop)(K:Fr->World->Prop)(fuel:Nat)(done:List Nat)(f:Fr)(w:World):Prop:=
  ∀a,Ag n a f->wpAnyH P .any l.toArray (λe a' w'=>e= .normal/\∃f',Ag n a' f'/\K f' w') S fuel (bA l.length done) a w
theorem bR.same{J:ch->Prop}{γ γ':aC}{w w':World}(h:bR J γ w γ' w'):bR J γ w γ w':=⟨h.os,h.tape,h.output,h.size,λ_ _ _=>rfl,h.keep,h.drawn⟩
theorem fF{fid:Nat}{R:Ending->World->Prop}{k:List Item}{id:Nat}(γ:aC)(J:ch->Prop)(hm:P.follows .mixedOrders=true)
   (h:∀w1,bR no γ w γ w1->mw P n l (λw'=>bR J γ w1 γ w') (dA P fid n R k) l.length [] f w1):dA P fid n R (.code (.region id l.toArray true)::k) f w:=
 eV λa ha=>wp_region_held hm (by
   have h0:=h _ (bR.refl _ _ _).drew a ha
   have hmask:bA l.length []=Array.replicate l.toArray.size false:=by
     apply Array.ext
     · simp[bA]
     · intro j h1 h2;simp[bA]
   rw[hmask] at h0
   simpa using h0)
theorem gp{fid:Nat}{R:Ending->World->Prop}{k:List Item}{id:Nat}{σ:Type}(Mid:σ->Fr->World->Prop)(γ:aC)(J:ch->Prop)(hm:P.follows .mixedOrders=true)
    (h:(∀s f w,Mid s f w->dA P fid n R k f w)->∀w1,bR no γ w γ w1->mw P n l (λw'=>bR J γ w1 γ w') (dA P fid n R k) l.length [] f w1)(hk:∀s f w,Mid s f w->dA P fid n R k f w):dA P fid n R (.code (.region id l.toArray true)::k) f w:=
  fF γ J hm (h hk)
variable{dst:Option Tmp}{op:Op}{ty:TypeId}{pos:String}{after:Array Edge}{g:Option (Nat×Bool)}{v:Value}
theorem cS(i:Nat)(hi:l[i]? =some ⟨dst,op,ty,pos,after,g⟩)(hn:e8 l=true)(hc:(dW l done i&&fc l done i&&gD n ⟨dst,op,ty,pos,after,g⟩)=true)
   (hw:c8 l ⟨dst,op,ty,pos,after,g⟩ f=true)(hS:S w)(h:∀w,S w->(execOp (ev f) ⟨dst,op,ty,pos,after,g⟩).run P w= .ok (.value v) w)(hk:mw P n l S K fuel (i::done) (dN f dst v) w):mw P n l S K (fuel+1) done f w:=by
 simp only[Bool.and_eq_true] at hc
 obtain⟨⟨hr,hf⟩,hd⟩:=hc
 obtain⟨hlt,hr'⟩:=dS hr
 intro a ha
 refine wpAnyH_first (v:=v) (by simpa using hi) (fW hn) (λc a w h=>by cases h.1) fuel _ a w (eh hi hf) hr' (.inl ⟨by rw[ha.yielded];exact hw,λw hs=>by rw[ha.eval];exact h w hs⟩) hS ?_
 rw[cr done hlt]
 exact hk _ (ha.put hd v)
def qE(P:Program)(n:Nat)(l:List Oper)(S:World->Prop)(K:Fr->World->Prop)(fuel:Nat)(done:List Nat)(f:Fr)(w:World)(i:Nat):Prop:=
  ∃o,l[i]? =some o/\i<l.length/\(c8 l o f=true/\gD n o=true/\dY P o f w (λv w'=>S w'/\mw P n l S K fuel (i::done) (dN f o.dst v) w'))
theorem gE(i:Nat)(hi:l[i]? =some ⟨dst,op,ty,pos,after,g⟩)(hc:gD n ⟨dst,op,ty,pos,after,g⟩=true)(hw:c8 l ⟨dst,op,ty,pos,after,g⟩ f=true)
   (h:dY P ⟨dst,op,ty,pos,after,g⟩ f w (λv w'=>S w'/\mw P n l S K fuel (i::done) (dN f dst v) w')):qE P n l S K fuel done f w i:=
 ⟨_,hi,(List.getElem?_eq_some_iff.1 hi).1,hw,hc,h⟩
def oM(P:Program)(n:Nat)(l:List Oper)(S:World->Prop)(K:Fr->World->Prop)(fuel:Nat)(done:List Nat)(f:Fr)(w:World):List Nat->Prop
 |[]=>True
 |i::r=>qE P n l S K fuel done f w i/\oM P n l S K fuel done f w r
theorem oM.mem{L:List Nat}(h:oM P n l S K fuel done f w L):∀i∈L,qE P n l S K fuel done f w i:=by
 induction L with
 |nil=>intro i hi;cases hi
 |cons j r ih=>
   intro i hi
   rcases List.mem_cons.1 hi with rfl|hi
   · exact h.1
   · exact ih h.2 i hi
theorem gf(i:Nat)(L:List Nat)(hr:decide (Region.ready .any l.toArray (bA l.length done)=i::L)=true)(h:oM P n l S K fuel done f w (i::L)):mw P n l S K (fuel+1) done f w:=by
 have hr:=of_decide_eq_true hr
 intro a ha
 refine⟨λh0=>(by rw[hr] at h0;cases h0),λk hk=>?_⟩
 rw[hr] at hk
 obtain⟨o,hi,hlt,hw,hd,ho⟩:=h.mem k (by simpa using hk)
 obtain⟨dst,op,ty,pos,after,g⟩:=o
 refine dp ha hi hw ho λv w' hk=>⟨hk.1,?_⟩
 rw[cr done hlt]
 exact hk.2 _ (ha.put hd v)
theorem d4(i:Nat)(hi:l[i]? =some ⟨dst,op,ty,pos,after,g⟩)(hc:(decide (Region.ready .any l.toArray (bA l.length done)=[i])&&gD n ⟨dst,op,ty,pos,after,g⟩)=true)
   (hw:c8 l ⟨dst,op,ty,pos,after,g⟩ f=true)(h:dY P ⟨dst,op,ty,pos,after,g⟩ f w (λv w'=>S w'/\mw P n l S K fuel (i::done) (dN f dst v) w')):mw P n l S K (fuel+1) done f w:=by
 simp only[Bool.and_eq_true] at hc
 exact gf i [] hc.1 ⟨gE i hi hc.2 hw h,trivial⟩
theorem fJ(hr:decide (Region.ready .any l.toArray (bA l.length done)=[])=true)(h:K f w):mw P n l S K 0 done f w:=λ_ ha=>⟨of_decide_eq_true hr,rfl,f,ha,h⟩
end
end TL
namespace TL
open Go
end TL
/-
  TlNet: nets, and what layer 3 says of them, as plain functions.
  By an AI agent.
-/
set_option linter.all false
namespace TL
abbrev dT:=Int×List (Int×Int)
def rO(n:Int)(e:Int×Int):Prop:=(0<=e.1/\e.1<n)/\0<=e.2/\e.2<n
instance (n:Int)(e:Int×Int):Decidable (rO n e):=by unfold rO;infer_instance
def px(g:dT):Prop:=0<=g.1/\g.1<=1024/\g.2.length<=3072/\∀e∈g.2,rO g.1 e
instance (g:dT):Decidable (px g):=by unfold px;infer_instance
end TL
namespace TL
theorem eW{α:Type}[Inhabited α]{xs:List α}{k:Nat}(h:(k:Int)<xs.length):xs.drop k=gI xs k::xs.drop (k+1):=by
 have h':k<xs.length:=by omega
 rw[List.drop_eq_getElem_cons h']
 simp[gI,h']
theorem ct{α:Type}[Inhabited α]{xs:List α}{i j:Int}{y:α}(hi:0<=i)(hi':i<xs.length)(hj:0<=j):gI (xs.set i.toNat y) j=if j=i then y else gI xs j:=by
 unfold gI
 by_cases h:j=i
 · subst h
   have:j.toNat<xs.length:=by omega
   simp[this]
 · have:i.toNat≠j.toNat:=by omega
   simp[h,List.getElem?_set_ne this]
theorem dz{α:Type}[Inhabited α]{n:Nat}{x:α}{i:Int}(h0:0<=i)(h1:i<n):gI (List.replicate n x) i=x:=by
 have:i.toNat<n:=by omega
 simp[gI,this]
end TL
namespace TL
end TL
namespace TL
end TL
namespace TL
def pD(g:dT)(h:Int):Int:=pI (gI g.2 (h/2)) (h%2)
def rn(g:dT)(v:Int)(k:Nat):List Int:=((List.range (2*k)).map (λ(i:Nat)=>(i:Int))).filter λh=>decide (pD g h=v)
def rM(g:dT)(v:Int):List Int:=rn g v g.2.length
end TL
namespace TL
end TL
namespace TL
end TL
namespace TL
end TL
namespace TL
section
variable{l0 l1:Int}{F:Int×Int->Int}{g:dT}{k:Nat}
end
end TL
/-
  TlNetSums: degrees' sum; all edges, all nodes; moved there and back.
  By an AI agent.
-/
set_option linter.all false
namespace TL
def dc(n:Nat):List Int:=(List.range n).map λ(i:Nat)=>(i:Int)
theorem jc(n:Nat):dc (n+1)=dc n++[(n:Int)]:=by simp[dc,List.range_succ]
theorem iJ{n:Nat}{x:Int}:x∈dc n↔0<=x/\x<n:=by
 unfold dc
 rw[List.mem_map]
 constructor
 · rintro⟨i,hi,rfl⟩
   have:=List.mem_range.1 hi
   omega
 · rintro⟨h1,h2⟩
   exact⟨x.toNat,List.mem_range.2 (by omega),by omega⟩
theorem lX{n:Nat}{i:Int}(h0:0<=i)(h1:i<n):gI (dc n) i=i:=by
 have:i.toNat<n:=by omega
 simp[gI,dc,this]
 omega
theorem gj:∀(n:Nat) (l:List Int),l.Nodup->(∀x∈l,0<=x/\x<(n:Int))->l.length<=n
 |0,l,_,h=>by
   cases l with
   |nil=>simp
   |cons a l=>have:=h a (by simp);omega
 |n+1,l,hn,h=>by
   have h1:(l.erase (n:Int)).Nodup:=hn.erase _
   have h2:=gj n (l.erase (n:Int)) h1 (λx hx=>by
     have h3:=hn.mem_erase_iff.1 hx
     have:=h x h3.2
     omega)
   by_cases hm:(n:Int)∈l
   · have:=List.length_erase_of_mem hm
     omega
   · rw[List.erase_of_not_mem hm] at h2
     omega
theorem m7{n:Nat}{l:List Int}(hn:l.Nodup)(h:∀x∈l,0<=x/\x<(n:Int))(hl:l.length=n){u:Int}(h0:0<=u)(h1:u<n):u∈l:=by
 by_cases hu:u∈l
 · exact hu
 · have:=gj n (u::l) (List.nodup_cons.2 ⟨hu,hn⟩) (λx hx=>by
     rcases List.mem_cons.1 hx with rfl|hx
     · exact⟨h0,h1⟩
     · exact h x hx)
   simp at this
   omega
end TL
/-
  TlKeep: rows of an own list given away one by one while the list stays readable; rows with a mark behind each.
  By an AI agent.
-/
set_option linter.all false
namespace TL
open Go
section
variable{P:Program}{w:World}{t t':TypeId}{f:Fr}{x y:Operand}{dst:Option Tmp}{ty:TypeId}{pos:String}{after:Array Edge}{g:Option (Nat×Bool)}{N:Value->World->Prop}{α:Type}[Rp α]{γ:aC}{v u:Value}{xss:List (List α)}{l:List α}{i k j:Nat}
end
section
variable{α:Type}[Rp α][Fl α]{γ γ':aC}{w w':World}{v:Value}{us:List Vc}{xss:List (List α)}{i k j q:Nat}
end
inductive Rw where
  |mk (l:List Int) (m:Int)
  |pl (l:List Int)
instance:Inhabited Rw:=⟨.pl []⟩
theorem lZ{α:Type}[Rp α]{γ:aC}{S:ch->Prop}{w:World}{v:Value}{xs:List α}{m:α}(h:Sl γ S w (rK v) (xs++[m])):∃a l c,v= .slice a l c:=by
 rcases h with⟨_,h0⟩|⟨b,off,cap,hv,_⟩
 · simp at h0
 · cases v<;>simp[rK] at hv
   exact⟨_,_,_,rfl⟩
def qN(γ:aC)(S:ch->Prop)(w:World)(v:Value):Rw->Prop
  | .mk l m=>Sl γ S w (rK v) (l++[m])
  | .pl l=>Sl γ S w v l
theorem qN.one{γ:aC}{S:ch->Prop}{w:World}{v:Value}{x:Rw}(h:qN γ S w v x):v.oneCell'=true:=by
 cases x with
 |mk l m=>
   obtain⟨a,b,c,rfl⟩:=lZ h
   rfl
 |pl l=>
   rcases h with⟨⟨_,rfl⟩,_⟩|⟨b,off,cap,rfl,_⟩<;>rfl
theorem qN.tr{γ γ':aC}{S S':ch->Prop}{w w':World}{v:Value}{x:Rw}(hsz:w.heap.size<=w'.heap.size)(h:∀b,b<w.heap.size->S (γ b)->w'.heap[b]? =w.heap[b]? /\S' (γ' b))(hx:qN γ S w v x):qN γ' S' w' v x:=by
 cases x with
 |mk l m=>exact Sl.tr h hx hsz
 |pl l=>exact Sl.tr h hx hsz
instance:Rp Rw where
 sz:=1
 rep γ S w cs x:=∃v,cs=[v]/\qN γ S w v x
 len:=by rintro _ _ _ _ _ ⟨v,rfl,_⟩;rfl
 one:=by
   rintro _ _ _ _ _ ⟨v,rfl,h⟩ u hu
   obtain rfl:u=v:=by simpa using hu
   exact h.one
 tr:=by
   rintro _ _ _ _ _ _ _ _ hs h ⟨v,rfl,hv⟩
   exact⟨v,rfl,hv.tr hs h⟩
section
variable{P:Program}{w:World}{t t':TypeId}{f:Fr}{x y:Operand}{dst:Option Tmp}{ty:TypeId}{pos:String}{after:Array Edge}{g:Option (Nat×Bool)}{N:Value->World->Prop}{γ:aC}{v u:Value}{xss:List (List Int)}{l:List Int}{i:Nat}
end
end TL
/-
  TlEq: structs compared; a pointer looked at for nil; a bit turned.
  By an AI agent.
-/
set_option linter.all false
namespace TL
open Go
section
variable{P:Program}{f:Fr}{w:World}{dst:Option Tmp}{ty:TypeId}{pos:String}{after:Array Edge}{g:Option (Nat×Bool)}{t t' e:TypeId}{x y:Operand}
theorem ad{a:Addr}(hx:ev f x= .pointer (some a)):(execOp (ev f) ⟨dst,.nilCheck x,ty,pos,after,g⟩).run P w= .ok (.value (.pointer (some a))) w:=by
 simp only[execOp,hx,Sem.run_pure]
end
end TL
namespace TL
open Go
section
variable{P:Program}{f:Fr}{w:World}{dst:Option Tmp}{ty:TypeId}{pos:String}{after:Array Edge}{g:Option (Nat×Bool)}{t:TypeId}{x:Operand}
end
end TL
namespace TL
open Go
section
variable{P:Program}{f:Fr}{w:World}{dst:Option Tmp}{ty:TypeId}{pos:String}{after:Array Edge}{g:Option (Nat×Bool)}{t t':TypeId}{x y:Operand}{m n:Int}
theorem ni(hx:ev f x= .int .i64 m)(hy:ev f y= .int .i64 n)(hn:0<n)(hm: -4611686018427387904<=m/\m<=4611686018427387904):(execOp (ev f) ⟨dst,.binOp .quo t x y t',ty,pos,after,g⟩).run P w= .ok (.value (.int .i64 (Int.tdiv m n))) w:=by
 refine bZ .quo x y hx hy ?_
 have h0:¬n=0:=by omega
 have h1:pM (Int.tdiv m n):=by
   have h2:=Int.natAbs_tdiv_le_natAbs m n
   constructor<;>omega
 simp[binOp,Op.intDiv,h0,ec h1]
end
end TL
namespace TL
open Go
end TL
/-
  TlRot: rotations: which may be, turned to their least, faces.
  By an AI agent.
-/
set_option linter.all false
namespace TL
abbrev gw:=List (List Int)
def rf(g:dT)(r:gw):Prop:=(r.length:Int)=g.1/\(∀v:Nat,v<r.length->∀h∈gI r (v:Int),(0<=h/\h<2*(g.2.length:Int))/\pD g h=v)/\r.flatten.Nodup/\(r.flatten.length:Int)=2*g.2.length
instance (g:dT)(r:gw):Decidable (rf g r):=by unfold rf;infer_instance
section
variable{seen:List Bool}{n:Int}{g:dT}{r:gw}{k i:Nat}
end
end TL
namespace TL
end TL
/-
  TlMap: maps that the call makes.
  By an AI agent.
-/
set_option linter.all false
namespace TL
open Go
class Ky (K:Type) where
  val:K->Value
section
variable{P:Program}{f:Fr}{w:World}{dst:Option Tmp}{ty:TypeId}{pos:String}{after:Array Edge}{g:Option (Nat×Bool)}{t:TypeId}{x y z:Operand}{N:Value->World->Prop}
end
instance:Ky Int where
 val k:=.int .i64 k
instance:Ky (Int×Int) where
 val k:=.agg (List.toArray [.int .i64 k.1,.int .i64 k.2])
end TL
namespace TL
open Go
end TL
/-
  TlShort: short names for the commonest steps (used by packed claims only).
  By an AI agent.
-/
set_option linter.all false
namespace TL
open Go
abbrev vi(x:Int):Value:=Value.int .i64 x
abbrev vp(b o:Nat):Value:=Value.pointer (some ⟨b,o,none⟩)
abbrev vn:Value:=Value.slice none 0 0
abbrev vt(l:List Value):Value:=Value.tuple (List.toArray l)
abbrev vg(l:List Value):Value:=Value.agg (List.toArray l)
theorem cg(L:List Nat){γ γ':aC}{w w':World}(h:bR (inl L) γ w γ' w'):bR (inl L) γ w γ' w':=h
theorem dt{p:Prop}[Decidable p](h:p):decide p=true:=decide_eq_true h
theorem df{p:Prop}[Decidable p](h:¬p):decide p=false:=decide_eq_false h
section
variable{P:Program}{all rest:List Oper}{K:Fr->World->Prop}{f:Fr}{w w':World}{x:Operand}
variable{dst:Option Tmp}{op:Op}{ty:TypeId}{pos:String}{after:Array Edge}{g:Option (Nat×Bool)}{o:Oper}
theorem lv(v:Value)(hw:c8 all ⟨dst,op,ty,pos,after,g⟩ f=true)(h:(execOp (ev f) ⟨dst,op,ty,pos,after,g⟩).run P w= .ok (.value v) w')(hk:fa P all rest K (dN f dst v) w'):fa P all (⟨dst,op,ty,pos,after,g⟩::rest) K f w:=gz hw h hk
theorem lx{v:Value}(h:(execOp (ev f) ⟨dst,op,ty,pos,after,none⟩).run P w= .ok (.value v) w')(hk:fa P all rest K (dN f dst v) w'):fa P all (⟨dst,op,ty,pos,after,none⟩::rest) K f w:=gz rfl h hk
theorem lw(v:Value)(h:(execOp (ev f) ⟨dst,op,ty,pos,after,none⟩).run P w= .ok (.value v) w')(hk:fa P all rest K (dN f dst v) w'):fa P all (⟨dst,op,ty,pos,after,none⟩::rest) K f w:=gz rfl h hk
theorem mv(v:Value)(hk:fa P all rest K (dN f dst v) w)(h:ev f x=v:=by exact rfl):fa P all (⟨dst,.move x,ty,pos,after,none⟩::rest) K f w:=gz rfl (ah h) hk
theorem ma(v:Value)(hk:fa P all rest K (dN f dst v) w)(h:ev f x=v:=by exact rfl):fa P all (⟨dst,.assign x,ty,pos,after,none⟩::rest) K f w:=gz rfl (bJ h) hk
theorem mi(v:Int)(hk:fa P all rest K (dN f dst (.int .i64 v)) w)(h:ev f x= .int .i64 v:=by exact rfl):fa P all (⟨dst,.move x,ty,pos,after,none⟩::rest) K f w:=gz rfl (ah h) hk
theorem ai(v:Int)(hk:fa P all rest K (dN f dst (.int .i64 v)) w)(h:ev f x= .int .i64 v:=by exact rfl):fa P all (⟨dst,.assign x,ty,pos,after,none⟩::rest) K f w:=gz rfl (bJ h) hk
theorem mz{v:Value}(h:ev f x=v)(hk:fa P all rest K (dN f dst v) w):fa P all (⟨dst,.move x,ty,pos,after,none⟩::rest) K f w:=gz rfl (ah h) hk
theorem lo(h:dY P ⟨dst,op,ty,pos,after,none⟩ f w (λv w'=>fa P all rest K (dN f dst v) w')):fa P all (⟨dst,op,ty,pos,after,none⟩::rest) K f w:=dh rfl h
theorem wy{j:Nat}{x:Bool}{d:Nat}{b:Bool}(hx:b=x)(hg:o.guard=some (j,x):=by exact rfl)(hj:(all[j]?).bind (·.dst)=some d:=by exact rfl)(hb:f d= .bool b:=by exact rfl):c8 all o f=true:=qJ hg hj hb hx
theorem wn{j:Nat}{x:Bool}{d:Nat}{b:Bool}(hx:b= !x)(hg:o.guard=some (j,x):=by exact rfl)(hj:(all[j]?).bind (·.dst)=some d:=by exact rfl)(hb:f d= .bool b:=by exact rfl):c8 all o f=false:=qe hg hj hb hx
variable{C:World->Prop}{KQ:Fr->Prop}
theorem qv(v:Value)(h:∀w,C w->(execOp (ev f) ⟨dst,op,ty,pos,after,none⟩).run P w= .ok (.value v) w)(hk:gS P all C rest KQ (dN f dst v)):gS P all C (⟨dst,op,ty,pos,after,none⟩::rest) KQ f:=b7 rfl h hk
theorem qx{v:Value}(h:∀w,C w->(execOp (ev f) ⟨dst,op,ty,pos,after,none⟩).run P w= .ok (.value v) w)(hk:gS P all C rest KQ (dN f dst v)):gS P all C (⟨dst,op,ty,pos,after,none⟩::rest) KQ f:=b7 rfl h hk
theorem qm(v:Value)(hk:gS P all C rest KQ (dN f dst v))(h:ev f x=v:=by exact rfl):gS P all C (⟨dst,.move x,ty,pos,after,none⟩::rest) KQ f:=b7 rfl (λ_ _=>ah h) hk
theorem qz{v:Value}(h:ev f x=v)(hk:gS P all C rest KQ (dN f dst v)):gS P all C (⟨dst,.move x,ty,pos,after,none⟩::rest) KQ f:=b7 rfl (λ_ _=>ah h) hk
end
section
variable{P:Program}{n:Nat}{l:List Oper}{S:World->Prop}{K:Fr->World->Prop}{f:Fr}{w:World}{done:List Nat}{fuel:Nat}{qs:List Nat}
variable{dst:Option Tmp}{op:Op}{ty:TypeId}{pos:String}{after:Array Edge}{g:Option (Nat×Bool)}{v:Value}
theorem ht(i:Nat)(hi:l[i]? =some ⟨dst,op,ty,pos,after,none⟩)(hS:S w)(h:∀w,S w->(execOp (ev f) ⟨dst,op,ty,pos,after,none⟩).run P w= .ok (.value v) w)(hk:mw P n l S K fuel (i::done) (dN f dst v) w)(hn:e8 l=true:=by kernel_rfl)(hc:(dW l done i&&fc l done i&&gD n ⟨dst,op,ty,pos,after,none⟩)=true:=by kernel_rfl):mw P n l S K (fuel+1) done f w:=cS i hi hn hc rfl hS h hk
theorem xv(i:Nat)(M:List Nat)(hi:l[i]? =some ⟨dst,op,ty,pos,after,none⟩)(h:(execOp (ev f) ⟨dst,op,ty,pos,after,none⟩).run P w= .ok (.value v) w)(hk:g5 P n l qs K fuel (i::done) (dN f dst v) w)(hn:e8 l=true:=by kernel_rfl)(hc:(qs.contains i&&dW l done i&&fc l done i&&jL l qs done M i&&gD n ⟨dst,op,ty,pos,after,none⟩)=true:=by kernel_rfl):g5 P n l qs K (fuel+1) done f w:=re i M hi hn hc rfl h hk
theorem xh(i:Nat)(M:List Nat)(hi:l[i]? =some ⟨dst,op,ty,pos,after,none⟩)(h:∀w',dk w.heap.size w w'->(execOp (ev f) ⟨dst,op,ty,pos,after,none⟩).run P w'= .ok (.value v) w')(hk:g5 P n l qs K fuel (i::done) (dN f dst v) w)(hn:e8 l=true:=by kernel_rfl)(hc:(qs.contains i&&dW l done i&&fc l done i&&jg l qs done M i&&gD n ⟨dst,op,ty,pos,after,none⟩)=true:=by kernel_rfl):g5 P n l qs K (fuel+1) done f w:=qH i M hi hn hc rfl h hk
theorem xp(i:Nat)(hi:l[i]? =some ⟨dst,op,ty,pos,after,none⟩)(h:∀w,(execOp (ev f) ⟨dst,op,ty,pos,after,none⟩).run P w= .ok (.value v) w)(hk:g5 P n l qs K fuel (i::done) (dN f dst v) w)(hn:e8 l=true:=by kernel_rfl)(hc:(qs.contains i&&dW l done i&&fc l done i&&gD n ⟨dst,op,ty,pos,after,none⟩)=true:=by kernel_rfl):g5 P n l qs K (fuel+1) done f w:=pS i hi hn hc rfl h hk
end
section
variable{γ γ':aC}{w w':World}{v:Value}{j k:Nat}{L:List Nat}
theorem aT.ca{w0:World}(h:aT w0 γ w)(hc:bR (inl L) γ w γ' w')(hj:L.contains 0=false:=by exact rfl):aT w0 γ' w':=h.chg hc (dq hj)
theorem aT.ce{w0:World}(h:aT w0 γ w)(hc:bR (is k) γ w γ' w')(hj:Nat.beq 0 k=false:=by exact rfl):aT w0 γ' w':=h.chg hc (gB hj)
theorem aT.cn{w0:World}(h:aT w0 γ w)(hc:bR no γ w γ' w'):aT w0 γ' w':=h.chg hc (cu _)
theorem Bx.ca{b:Nat}{cs:List Value}(h:Bx γ (is j) w b cs)(hc:bR (inl L) γ w γ' w')(hj:L.contains j=false:=by exact rfl):Bx γ' (is j) w' b cs:=h.chg hc (dq hj)
theorem Bx.ce{b:Nat}{cs:List Value}(h:Bx γ (is j) w b cs)(hc:bR (is k) γ w γ' w')(hj:Nat.beq j k=false:=by exact rfl):Bx γ' (is j) w' b cs:=h.chg hc (gB hj)
theorem Bx.cn{J:ch->Prop}{b:Nat}{cs:List Value}(h:Bx γ J w b cs)(hc:bR no γ w γ' w'):Bx γ' J w' b cs:=h.chg hc (cu _)
theorem Sl.ca{α:Type}[Rp α]{xs:List α}(h:Sl γ (is j) w v xs)(hc:bR (inl L) γ w γ' w')(hj:L.contains j=false:=by exact rfl):Sl γ' (is j) w' v xs:=h.chg hc (dq hj)
theorem Sl.ce{α:Type}[Rp α]{xs:List α}(h:Sl γ (is j) w v xs)(hc:bR (is k) γ w γ' w')(hj:Nat.beq j k=false:=by exact rfl):Sl γ' (is j) w' v xs:=h.chg hc (gB hj)
theorem Sl.cn{α:Type}[Rp α]{S:ch->Prop}{xs:List α}(h:Sl γ S w v xs)(hc:bR no γ w γ' w'):Sl γ' S w' v xs:=h.chg hc (cu _)
theorem Ow.ca{α:Type}[Rp α]{xs:List α}(h:Ow γ (is j) (is j) w v xs)(hc:bR (inl L) γ w γ' w')(hj:L.contains j=false:=by exact rfl):Ow γ' (is j) (is j) w' v xs:=h.chg hc (dq hj) (dq hj)
theorem Ow.ce{α:Type}[Rp α]{xs:List α}(h:Ow γ (is j) (is j) w v xs)(hc:bR (is k) γ w γ' w')(hj:Nat.beq j k=false:=by exact rfl):Ow γ' (is j) (is j) w' v xs:=h.chg hc (gB hj) (gB hj)
theorem Ow.cn{α:Type}[Rp α]{J S:ch->Prop}{xs:List α}(h:Ow γ J S w v xs)(hc:bR no γ w γ' w'):Ow γ' J S w' v xs:=h.chg hc (cu _) (cu _)
theorem bN.ca{α:Type}[Rp α]{xs:List (List α)}(h:bN γ j w v xs)(hc:bR (inl L) γ w γ' w')(hj:L.contains j=false:=by exact rfl):bN γ' j w' v xs:=h.chg hc (dq hj)
theorem bN.ce{α:Type}[Rp α]{xs:List (List α)}(h:bN γ j w v xs)(hc:bR (is k) γ w γ' w')(hj:Nat.beq j k=false:=by exact rfl):bN γ' j w' v xs:=h.chg hc (gB hj)
theorem bN.cn{α:Type}[Rp α]{xs:List (List α)}(h:bN γ j w v xs)(hc:bR no γ w γ' w'):bN γ' j w' v xs:=h.chg hc (cu _)
theorem dX.ca{α:Type}[Rp α]{h0:Nat}{xs:List (List α)}(h:dX γ j h0 w v xs)(hc:bR (inl L) γ w γ' w')(hj:L.contains j=false:=by exact rfl):dX γ' j h0 w' v xs:=h.chg hc (dq hj)
theorem dX.ce{α:Type}[Rp α]{h0:Nat}{xs:List (List α)}(h:dX γ j h0 w v xs)(hc:bR (is k) γ w γ' w')(hj:Nat.beq j k=false:=by exact rfl):dX γ' j h0 w' v xs:=h.chg hc (gB hj)
theorem dX.cn{α:Type}[Rp α]{h0:Nat}{xs:List (List α)}(h:dX γ j h0 w v xs)(hc:bR no γ w γ' w'):dX γ' j h0 w' v xs:=h.chg hc (cu _)
def s3(δ g:aC)(w:World)(ren:Nat->Nat):Prop:=(∀{α:Type} [Rp α] {i:Nat} {v:Value} {xs:List α},Ow δ (is i) (is i) w v xs->∀k:Nat,Nat.beq i 0=false->ren i=k->Ow g (is k) (is k) w v xs)/\(∀{α:Type} [Rp α] {i:Nat} {v:Value} {xs:List (List α)},bN δ i w v xs->∀k:Nat,Nat.beq i 0=false->ren i=k->bN g k w v xs)
theorem pC{δ:aC}(γ:aC)(fr:jY w δ w')(ren:Nat->Nat):∃g,bR no γ w g w'/\s3 δ g w' ren:=
 ⟨_,nB fr.below γ δ ren,λh k hi hr=>h.glue fr.col hi hr,λh k hi hr=>h.glue fr.col hi hr⟩
theorem Ow.gl{α:Type}[Rp α]{δ g:aC}{ren:Nat->Nat}{i:Nat}{xs:List α}(h:Ow δ (is i) (is i) w v xs)(G:s3 δ g w ren)(k:Nat)(hi:Nat.beq i 0=false:=by exact rfl)(hr:ren i=k:=by exact rfl):Ow g (is k) (is k) w v xs:=G.1 h k hi hr
theorem bN.gl{α:Type}[Rp α]{δ g:aC}{ren:Nat->Nat}{i:Nat}{xs:List (List α)}(h:bN δ i w v xs)(G:s3 δ g w ren)(k:Nat)(hi:Nat.beq i 0=false:=by exact rfl)(hr:ren i=k:=by exact rfl):bN g k w v xs:=G.2 h k hi hr
end
section
variable{K:Type}[DecidableEq K][Ky K]
end
end TL
/-
  TlFloat: floating numbers that are no NaN and have no sign: their bits, as a natural number, stand as they do; sums, roots and quotients of such.
  By an AI agent.
-/
set_option linter.all false
namespace TL
open Ieee
abbrev rY:Nat:=9218868437227405312
def pl(x:Nat):Nat:=x/4503599627370496-1
end TL
/-
  TlFloat2: how far a rounded number lies from what is rounded; sums and roots that are finite; sums with nought.
  By an AI agent.
-/
set_option linter.all false
namespace TL
open Ieee
def rT(n d:Nat):Nat:=n/2^d+(if 2^d<2*(n%2^d)\/2^d=2*(n%2^d)/\n/2^d%2=1 then 1 else 0)
def rd(T:Nat):Nat:=if T=0 then 0 else min ((T.log2-52)*4503599627370496+rT T (T.log2-52)) rY
end TL
/-
  TlFl: floating numbers in a walk: what each operation comes to.
  By an AI agent.
-/
set_option linter.all false
namespace TL
open Go
instance:Rp Nat where
 sz:=1
 rep _ _ _ cs x:=cs=[.float .f64 x]
 len h:=by subst h;rfl
 one h:=by subst h;simp[Value.oneCell']
 tr _ _ h:=h
instance:Fl Nat where
 cells x:=[.float .f64 x]
 rep_iff:=Iff.rfl
section
variable{P:Program}{f:Fr}{w:World}{dst:Option Tmp}{ty:TypeId}{pos:String}{after:Array Edge}{g:Option (Nat×Bool)}{t t' s d:TypeId}{x y:Operand}{a b r:Nat}
variable{N:Value->World->Prop}
end
end TL
/-
  TlGeom: points with whole coordinates: turns, segments, how they meet.
  By an AI agent.
-/
set_option linter.all false
namespace TL
abbrev Pt:=Int×Int
def pr(x y:Int):Int:=if x<y then-1 else if y<x then 1 else 0
def rH(a b:Pt):Int:=a.1*b.2-a.2*b.1
def r7(b a:Pt):Pt:=(b.1-a.1,b.2-a.2)
def me(a b c:Pt):Int:=pr (rH (r7 b a) (r7 c a)) 0
def pX(a b p:Pt):Prop:=(min a.1 b.1<=p.1/\p.1<=max a.1 b.1)/\min a.2 b.2<=p.2/\p.2<=max a.2 b.2
instance (a b p:Pt):Decidable (pX a b p):=by unfold pX;infer_instance
def mT(a b p:Pt):Prop:=me a b p=0/\pX a b p
instance (a b p:Pt):Decidable (mT a b p):=by unfold mT;infer_instance
def kn(a b:Pt):Int:=if pr a.1 b.1≠0 then pr a.1 b.1 else pr a.2 b.2
def ry(a b c d:Pt):Int:=
 let a':=if 0<kn a b then b else a
 let b':=if 0<kn a b then a else b
 let c':=if 0<kn c d then d else c
 let d':=if 0<kn c d then c else d
 let low:=if 0<kn c' a' then c' else a'
 let high:=if kn d' b'<0 then d' else b'
 if 0<kn low high then 0 else if kn low high=0 then 2 else 3
def f5(a b c d:Pt):Int:=
 if me a b c=0/\me a b d=0/\me c d a=0/\me c d b=0 then ry a b c d
 else if me a b c*me a b d<0/\me c d a*me c d b<0 then 1
 else if mT a b c\/mT a b d\/mT c d a\/mT c d b then 2 else 0
def nI(p:Pt):Int:=p.1*1073741824+p.2
def sb(p:Pt):Prop:=(-4194304<=p.1/\p.1<=4194304)/\ -4194304<=p.2/\p.2<=4194304
end TL
namespace TL
def qO(p:Pt):Prop:=(-1048576<=p.1/\p.1<=1048576)/\ -1048576<=p.2/\p.2<=1048576
instance (p:Pt):Decidable (qO p):=by unfold qO;infer_instance
theorem qO.bd{p:Pt}(h:qO p):sb p:=by unfold qO at h;unfold sb;omega
def rJ(ps:List Pt):Prop:=ps.length<=4096/\∀p∈ps,qO p
instance (ps:List Pt):Decidable (rJ ps):=by unfold rJ;infer_instance
def lY(p:Pt):Int:=if 0<p.1\/p.1=0/\0<p.2 then 0 else 1
section
variable{a b c d:Pt}
end
end TL
/-
  TlGeomL: how segments meet, moved, turned, named another way about.
  By an AI agent.
-/
set_option linter.all false
namespace TL
def par(u w:Pt):Prop:=u.1*w.2=u.2*w.1
end TL
/-
  TlGeomM: meeting segments: moved, turned, named another way about; what ends they share.
  By an AI agent.
-/
set_option linter.all false
namespace TL
section
variable{a b c d:Pt}
def kg(a b c d e:Pt):Prop:=mT a b e/\mT c d e
instance (a b c d e:Pt):Decidable (kg a b c d e):=by unfold kg;infer_instance
def nC(a b c d:Pt):Prop:=me a b c*me a b d<0/\me c d a*me c d b<0
instance (a b c d:Pt):Decidable (nC a b c d):=by unfold nC;infer_instance
end
end TL
/-
  TlGeomR: what is told of many points: areas, boxes, whether a polyline is simple.
  By an AI agent.
-/
set_option linter.all false
namespace TL
def jQ(ps:List Pt):Prop:=4<=(ps.length:Int)/\gI ps 0=gI ps ((ps.length:Int)-1)
instance (ps:List Pt):Decidable (jQ ps):=by unfold jQ;infer_instance
def lz(ps:List Pt)(i k:Nat):Prop:=k=i+1\/i=0/\(k:Int)=(ps.length:Int)-2/\jQ ps
instance (ps:List Pt)(i k:Nat):Decidable (lz ps i k):=by unfold lz;infer_instance
def s6(ps:List Pt)(i k:Nat):Int:=f5 (gI ps (i:Int)) (gI ps ((i:Int)+1)) (gI ps (k:Int)) (gI ps ((k:Int)+1))
def qc(ps:List Pt)(i k:Nat):Prop:=lz ps i k/\s6 ps i k=3\/¬lz ps i k/\s6 ps i k≠0
instance (ps:List Pt)(i k:Nat):Decidable (qc ps i k):=by unfold qc;infer_instance
def pY(ps:List Pt)(i:Nat):Prop:=gI ps (i:Int)≠gI ps ((i:Int)+1)/\∀k<ps.length,i<k->(k:Int)<=(ps.length:Int)-2->¬qc ps i k
instance (ps:List Pt)(i:Nat):Decidable (pY ps i):=by unfold pY;infer_instance
def r5(ps:List Pt):Prop:=∀i<ps.length,(i:Int)<=(ps.length:Int)-2->pY ps i
instance (ps:List Pt):Decidable (r5 ps):=by unfold r5;infer_instance
section
variable{ps:List Pt}
variable{i k:Nat}
end
end TL
/-
  TlGeomS: polylines gone back, and two of them named the other way about.
  By an AI agent.
-/
set_option linter.all false
namespace TL
abbrev Sg:=Pt×Pt
def mU(ps:List Pt):Nat->List Sg
 |0=>[]
 |k+1=>mU ps k++[(gI ps (k:Int),gI ps ((k:Int)+1))]
def oN(ps:List Pt):List Sg:=if ps.length=1 then[(gI ps 0,gI ps 0)] else mU ps (ps.length-1)
def pO(ps:List Pt):Pt:=gI ps ((ps.length:Int)-1)
def qC(ps:List Pt)(p:Pt):Prop:=p=gI ps 0\/p=pO ps
instance (ps:List Pt)(p:Pt):Decidable (qC ps p):=by unfold qC;infer_instance
def oU(q:List Pt)(s t:Sg)(x:Pt):Prop:=qC q x/\mT s.1 s.2 x/\mT t.1 t.2 x
instance (q:List Pt)(s t:Sg)(x:Pt):Decidable (oU q s t x):=by unfold oU;infer_instance
def nh(p q:List Pt)(s t:Sg):Prop:=oU q s t (gI p 0)\/oU q s t (pO p)
instance (p q:List Pt)(s t:Sg):Decidable (nh p q s t):=by unfold nh;infer_instance
def pU(p q:List Pt)(s t:Sg):Prop:=f5 s.1 s.2 t.1 t.2=3\/f5 s.1 s.2 t.1 t.2≠0/\¬nh p q s t
instance (p q:List Pt)(s t:Sg):Decidable (pU p q s t):=by unfold pU;infer_instance
def rB(p q:List Pt):Prop:=∀s∈oN p,∀t∈oN q,¬pU p q s t
instance (p q:List Pt):Decidable (rB p q):=by unfold rB;infer_instance
section
variable{p q:List Pt}
end
end TL
namespace TL
section
variable{p q:List Pt}{i k:Nat}
variable{s t:Sg}
end
end TL
namespace TL
section
variable{p q:List Pt}{s t:Sg}{i:Nat}
end
end TL
/-
  TlGeomX: polylines: the document's way and the code's.
  By an AI agent.
-/
set_option linter.all false
namespace TL
section
variable{a b c d:Pt}
end
section
variable{ps:List Pt}{i k:Nat}
end
def rZ(but:List Pt)(s t:Sg):Prop:=f5 s.1 s.2 t.1 t.2=3\/(f5 s.1 s.2 t.1 t.2=1/\¬∃x∈but,kg s.1 s.2 t.1 t.2 x)\/((f5 s.1 s.2 t.1 t.2≠0/\f5 s.1 s.2 t.1 t.2≠1)/\∃e∈[s.1,s.2,t.1,t.2],kg s.1 s.2 t.1 t.2 e/\e∉but)
instance (but:List Pt)(s t:Sg):Decidable (rZ but s t):=by unfold rZ;infer_instance
def r9(p q but:List Pt):Prop:=∃s∈oN p,∃t∈oN q,rZ but s t
instance (p q but:List Pt):Decidable (r9 p q but):=by unfold r9;infer_instance
section
variable{p q B:List Pt}
end
end TL
namespace TL
section
variable{p q but:List Pt}{i k:Nat}
variable{s t:Sg}
end
end TL
/-
  TlAround: points round another one: the order, its laws, the list that is sorted by it.
  By an AI agent.
-/
set_option linter.all false
namespace TL
def rF(p:Pt):Int:=p.1*p.1+p.2*p.2
def neg(p:Pt):Pt:=(-p.1,-p.2)
def sc(a b:Pt)(i k:Int):Prop:=lY a<lY b\/lY a=lY b/\(rH a b<0\/rH a b=0/\(rF a<rF b\/rF a=rF b/\i<k))
def vA(o:Pt)(ps:List Pt)(i:Int):Pt:=r7 (gI ps i) o
def si(o:Pt)(ps:List Pt)(i k:Int):Prop:=sc (vA o ps i) (vA o ps k) i k
def sd(o:Pt)(ps:List Pt)(k:Nat)(l:List Int):Prop:=l.Pairwise (si o ps)/\∀x,x∈l↔0<=x/\x<(k:Int)
section
variable{o:Pt}{ps:List Pt}{k:Nat}{l l':List Int}
open Classical in
noncomputable def arL (o:Pt) (ps:List Pt):List Int:=if h:∃l,sd o ps ps.length l then choose h else[]
end
section
variable{o:Pt}{ps:List Pt}{k:Nat}{l:List Int}{q:Int}
end
section
variable{o:Pt}{ps:List Pt}
end
end TL
/-
  TlWalk: going through a net breadth first, and its components, as the program does.
  By an AI agent.
-/
set_option linter.all false
namespace TL
structure Bf where
 order:List Int
 by_:List Int
 far:List Int
end TL
namespace TL
end TL
namespace TL
end TL
namespace TL
end TL
namespace TL
end TL
/-
  TlJudge: plots: their flaws, as the code and the document gather them.
  By an AI agent.
-/
set_option linter.all false
namespace TL
abbrev aZ:=Int×Int×Int
abbrev hX:=List Pt×List (List Pt)
section
variable{β:Type}{f h:Nat->List β}{k n:Nat}{x:β}{F B:List β}
end
def fl{β:Type}(p:Prop)[Decidable p](x:β):List β:=if p then[x] else[]
section
variable{β:Type}{p:Prop}[Decidable p]{x:β}
end
def s5(l:List Pt):Prop:=2<=(l.length:Int)/\rJ l
instance (l:List Pt):Decidable (s5 l):=by unfold s5;infer_instance
def pP(g:dT)(p:hX)(e:Int):Prop:=gI (gI p.2 e) 0=gI p.1 (gI g.2 e).1/\gI (gI p.2 e) (((gI p.2 e).length:Int)-1)=gI p.1 (gI g.2 e).2
instance (g:dT)(p:hX)(e:Int):Decidable (pP g p e):=by unfold pP;infer_instance
def pE(l:List Pt)(q:Pt):Prop:=∃s∈mU l (l.length-1),mT s.1 s.2 q
instance (l:List Pt)(q:Pt):Decidable (pE l q):=by unfold pE;infer_instance
def np(s t:Sg)(but:List Pt):Prop:=f5 s.1 s.2 t.1 t.2=0\/(f5 s.1 s.2 t.1 t.2=1\/f5 s.1 s.2 t.1 t.2=2)/\∃x∈but,kg s.1 s.2 t.1 t.2 x
instance (s t:Sg)(but:List Pt):Decidable (np s t but):=by unfold np;infer_instance
def qU(a b but:List Pt):Prop:=∀s∈mU a (a.length-1),∀t∈mU b (b.length-1),np s t but
instance (a b but:List Pt):Decidable (qU a b but):=by unfold qU;infer_instance
section
variable{g:dT}{p:hX}
end
end TL
namespace TL
section
variable{l:List Pt}{p:Pt}{i:Nat}
end
section
variable{a b c d:Pt}{but:List Pt}{k:Nat}{m:Int}
end
def rS(p:hX)(h:Int):Pt:=if h%2=0 then gI (gI p.2 (h/2)) 1 else gI (gI p.2 (h/2)) (((gI p.2 (h/2)).length:Int)-2)
def rW(u v:Pt):Int:=u.1*v.1+u.2*v.2
def nR(u v:Pt):Prop:=rH u v=0/\0<rW u v
instance (u v:Pt):Decidable (nR u v):=by unfold nR;infer_instance
end TL
namespace TL
end TL
namespace TL
section
variable{g:dT}{p:hX}{F G B:List aZ}{v e k i:Nat}
end
section
variable{g:dT}{p:hX}{e f:Int}
end
section
variable{a b but:List Pt}{i k:Nat}
end
section
variable{g:dT}{p:hX}{e f:Nat}{b:Bool}
end
end TL
/-
  TlJudge2: what is told of a plot; its rotation.
  By an AI agent.
-/
set_option linter.all false
namespace TL
section
variable{p:hX}{l:List Pt}{a b:Bool}{i k:Nat}
end
section
variable{g:dT}{p:hX}
end
def rI(p:hX)(l:List Int):List Pt:=l.map (rS p)
def qF(p:hX)(o:Pt)(l:List Int):Prop:=∃j:Nat,j<l.length/\0<j/\nR (r7 (gI (rI p l) (gI (arL o (rI p l)) ((j:Int)-1))) o) (r7 (gI (rI p l) (gI (arL o (rI p l)) (j:Int))) o)
noncomputable instance (p:hX) (o:Pt) (l:List Int):Decidable (qF p o l):=by unfold qF;infer_instance
def ru(g:dT)(p:hX):Prop:=∃v:Nat,v<g.1.toNat/\qF p (gI p.1 (v:Int)) (rM g (v:Int))
noncomputable instance (g:dT) (p:hX):Decidable (ru g p):=by unfold ru;infer_instance
end TL
/-
  TlZf: weights: floating numbers that are at least 0, of either sign of 0: in sums and comparisons such a one stands for its magnitude (zf).
  By an AI agent.
-/
set_option linter.all false
namespace TL
open Ieee
def zf(x:Nat):Nat:=x%9223372036854775808
open Go
end TL
/-
  TlPq: a heap of places (how far, which node), as container/heap keeps it: what is taken is the least, and nothing else is lost.
  By an AI agent.
-/
set_option linter.all false
namespace TL
abbrev Pl:=Nat×Int
def qT(a b:Pl):Prop:=a.1<b.1\/a.1=b.1/\a.2<b.2
instance (a b:Pl):Decidable (qT a b):=by unfold qT;infer_instance
def qP(xs:List Pl)(i:Nat):Pl:=gI xs (i:Int)
def sf(xs:List Pl)(i j:Nat):List Pl:=(xs.set i (qP xs j)).set j (qP xs i)
def rU(xs:List Pl)(i n:Nat):Nat:=if 2*i+1+1<n/\qT (qP xs (2*i+1+1)) (qP xs (2*i+1)) then 2*i+1+1 else 2*i+1
def dn:Nat->List Pl->Nat->Nat->List Pl
 |0,xs,_,_=>xs
 |k+1,xs,i,n=>if n<=2*i+1 then xs else if qT (qP xs (rU xs i n)) (qP xs i) then dn k (sf xs i (rU xs i n)) (rU xs i n) n else xs
end TL
namespace TL
end TL
/-
  TlWay: ways of the least weight (package path): what From tells, as the document does it (the nearest node that is not settled, again and again), and that a heap of waiting nodes finds the same.
  By an AI agent.
-/
set_option linter.all false
namespace TL
abbrev FS:=List Nat×List Int
-- what is picked
-- once all are settled no more rounds matter
end TL
namespace TL
end TL
/-
  TlWayT: the way that leads to a node, from how the nodes were reached (package path's To), as the document has it.
  By an AI agent.
-/
set_option linter.all false
namespace TL
def mB(fs:FS)(g:dT):Prop:=px g/\(fs.1.length:Int)=g.1/\(fs.2.length:Int)=g.1
instance (fs:FS)(g:dT):Decidable (mB fs g):=by unfold mB;infer_instance
variable{fs:FS}{g:dT}{t v:Int}{l:List Int}{n:Nat}
variable{by_:List Int}
end TL
/-
  TlDij: what the document's From comes to: each length is that of the way found; no half-edge of a reached node leads nearer.
  By an AI agent.
-/
set_option linter.all false
namespace TL
abbrev hf(g:dT)(h:Int):Prop:=0<=h/\h<2*(g.2.length:Int)
abbrev nd(g:dT)(v:Int):Prop:=0<=v/\v<g.1
variable{g:dT}{ws:List Nat}{s p:Int}{far:List Nat}{by_:List Int}{se:List Bool}{rk:Int->Nat}{n:Nat}{done:List Int}
end TL
/-
  TlOpen: arguments opened: what a law's reader says of a slice is what a walk wants of it.
  By an AI agent.
-/
namespace TL
open Go Go.Proofs Go.ChangeShapes Go.WideShapes Go.Joins Go.Deep
structure kX{H:Type}(f:DataW H->Nat):Prop where
 slice:∀l s:List (DataW H),l.length<=f (.slice l s)
 elem:∀l s:List (DataW H),∀d∈l,f d<=f (.slice l s)
 part:∀l:List (DataW H),∀d∈l,f d<=f (.agg l)
def pa(α:Type)[Rp α](P:Program)(t:TypeId):Prop:=
  ∀{H:Type} (enc:TypeId×Value->H) (w:World) (fuel:Nat) (cs:List Value) (x:DataW H×List MemPlace),DataW.trod enc P w 0 (λ_=>true) true fuel t cs=some x->∃y:α,Rp.rep c0 any w cs y
theorem fQ{P:Program}{t:TypeId}(ht:P.underlying t=some (.int .i64)):pa Int P t:=by
 intro H enc w fuel cs x h
 obtain⟨n,rfl,_,_⟩:=DataW.trod_int ht h
 exact⟨n,rfl⟩
theorem j6{α:Type}[Rp α][Inhabited α]{P:Program}{t e:TypeId}(ht:P.underlying t=some (.slice e))(hc:P.cellsOf e=Rp.sz α)(hz:0<Rp.sz α)(he:pa α P e)
    {H:Type}{enc:TypeId×Value->H}{w:World}{f:DataW H->Nat}(hf:kX f){fuel:Nat}{v:Value}{x:DataW H×List MemPlace}
    (hs:∀a len cap,v= .slice (some a) len cap->a.spot=none)(h:DataW.trod enc P w 0 (λ_=>true) true fuel t [v]=some x)(hb:f x.1<=1048576):∃xs:List α,Ro w v xs:=by
  rcases Deep.open_slice ht h with⟨h0,_⟩|⟨a,len,cap,m,n,D,Pl,h0,_,hlc,_,hm,rfl,hx⟩
  · obtain rfl:v= .slice none 0 0:=by simpa using h0
    exact⟨[],.inl ⟨⟨_,rfl⟩,rfl⟩⟩
  · obtain rfl:v= .slice (some a) len cap:=by simpa using h0
    have hsp:=hs a len cap rfl
    obtain⟨b,off,spot⟩:=a
    obtain rfl:spot=none:=hsp
    simp only[if_true] at hm
    subst hm
    obtain⟨Y,hY⟩:=Deep.choose_lt (α:=α) (n:=len) (p:=λi y=>∃cs,(∀j,j<Rp.sz α->w.cell? ⟨b,off+i*Rp.sz α+j,none⟩=cs[j]?)/\Rp.rep c0 any w cs y) (λi hi=>by
      obtain⟨cs',h1,h2⟩:=hx i (by omega)
      obtain⟨y,hy⟩:=he enc w n cs' _ h2
      refine⟨y,cs',λj hj=>?_,hy⟩
      obtain⟨_,hl,hcell⟩:=World.cells?_some h1
      have:=hcell j (by omega)
      rw[Deep.add_add,hc] at this
      rw[<-this]
      unfold Addr.add
      by_cases hij:i*Rp.sz α+j=0
      · rw[if_pos hij,Nat.add_assoc,hij];rfl
      · rw[if_neg hij,Nat.add_assoc])
    have hlen:((List.range len).map Y).length=len:=by simp
    have hbound:=Nat.le_trans (hf.slice _ _) hb
    refine⟨(List.range len).map Y,.inr ⟨b,off,m,by rw[hlen],⟨by omega,by simp at hbound;omega⟩,λi y hi=>?_⟩⟩
    have hil:i<len:=by
      have:=(List.getElem?_eq_some_iff.1 hi).1
      omega
    obtain rfl:Y i=y:=by simpa[hil] using hi
    obtain⟨cs,h1,h2⟩:=hY i hil
    refine⟨?_,trivial,cs,h1,h2⟩
    have h3:=h1 0 hz
    have h4:=Rp.len h2
    have h5:0<cs.length:=by omega
    rw[List.getElem?_eq_getElem h5] at h3
    by_cases hbl:b<w.heap.size
    · exact hbl
    · have:w.heap[b]? =none:=Array.getElem?_eq_none (by omega)
      simp[World.cell?,this] at h3
theorem fL{P:Program}{w:World}{base:Nat}{t e:TypeId}{v:Value}(ht:P.underlying t=some (.slice e))(h:Cell.okWide P w .any base t v):∀a len cap,v= .slice (some a) len cap->a.spot=none:=by
 rintro a len cap rfl
 simp only[Cell.okWide,Cell.ok,ht] at h
 exact h.2.2.2.1
end TL
/-
  TlJudge3: a plot's rotation: the half-edges of each node, turned.
  By an AI agent.
-/
set_option linter.all false
namespace TL
theorem oz{α β:Type}[Inhabited α][Inhabited β]{f:α->β}{l:List α}{i:Int}(h0:0<=i)(h1:i<l.length):gI (l.map f) i=f (gI l i):=by
 have h:i.toNat<l.length:=by omega
 unfold gI
 rw[List.getD_eq_getElem?_getD,List.getD_eq_getElem?_getD,List.getElem?_map,List.getElem?_eq_getElem h];rfl
section
variable{g:dT}{p:hX}
end
end TL
/-
  TlJudge4: directions around a point; a plot turned by a quarter; the example's rotation.
  By an AI agent.
-/
set_option linter.all false
namespace TL
section
variable{u v w:Pt}
end
section
variable{p:hX}{o:Pt}{l:List Int}
end
section
variable{u v:Pt}{i k:Int}
def rh(u:Pt):Prop:=0<=u.1/\0<u.2
instance (u:Pt):Decidable (rh u):=by unfold rh;infer_instance
end
section
variable{o:Pt}{ps:List Pt}
end
end TL
/-
  TlJTr: plots moved as a whole: their flaws.
  By an AI agent.
-/
set_option linter.all false
namespace TL
section
variable{T:Pt->Pt}{D:Pt->Prop}{g:dT}{p:hX}{l a b but:List Pt}{q:Pt}{i k:Nat}
end
section
variable{g:dT}{p:hX}
end
def r4(p:hX):Nat->Int
 |0=>(p.1.length:Int)
 |k+1=>r4 p k+((gI p.2 (k:Int)).length:Int)+1
def nL(g:dT)(p:hX):Prop:=r4 p p.2.length<=400/\(¬px g\/g.1<=30/\(g.2.length:Int)<=40)
instance (g:dT)(p:hX):Decidable (nL g p):=by unfold nL;infer_instance
end TL
namespace TL
section
variable{g:dT}{p:hX}{l r:List Pt}{L:List (List Pt)}{k e:Nat}
end
end TL
namespace TL
section
variable{α:Type}[Inhabited α][DecidableEq α]{a b:List α}{k:Nat}
end
section
variable{g:dT}{p:hX}{n:Int}{e:Nat}
end
end TL
/-
  TlWord: words and bytes in memory (a list of uint64, a list of uint8), and how a statement's argument of them is opened.
  By an AI agent.
-/
set_option linter.all false
namespace TL
open Go Go.Proofs Go.ChangeShapes Go.WideShapes Go.Joins Go.Deep
structure Wd where
  n:Nat
  lt:n<18446744073709551616
instance:Inhabited Wd:=⟨⟨0,by decide⟩⟩
instance:Rp Wd where
 sz:=1
 rep _ _ _ cs x:=cs=[.int .u64 (x.n:Int)]
 len h:=by subst h;rfl
 one h:=by subst h;simp[Value.oneCell']
 tr _ _ h:=h
instance:Fl Wd where
 cells x:=[.int .u64 (x.n:Int)]
 rep_iff:=Iff.rfl
structure Bt where
  n:Nat
  lt:n<256
instance:Inhabited Bt:=⟨⟨0,by decide⟩⟩
instance:Rp Bt where
 sz:=1
 rep _ _ _ cs x:=cs=[.int .u8 (x.n:Int)]
 len h:=by subst h;rfl
 one h:=by subst h;simp[Value.oneCell']
 tr _ _ h:=h
instance:Fl Bt where
 cells x:=[.int .u8 (x.n:Int)]
 rep_iff:=Iff.rfl
end TL
namespace TL
open Go Go.Proofs Go.ChangeShapes Go.WideShapes Go.Joins Go.Deep
end TL
namespace TL
open Go
end TL
/-
  TlDij3: lengths of small whole weights: one way and another compared.
  By an AI agent.
-/
set_option linter.all false
namespace TL
variable{g g1 g2:dT}{ws w1 w2:List Nat}{s s1 s2:Int}{far f1 f2:List Nat}{by_ b1 b2:List Int}{rk r1 r2:Int->Nat}{C:Nat}
def c6(h:Int):Int:=if h%2=0 then h+1 else h-1
end TL
namespace TL
end TL
/-
  TlPqI: a heap of places (how far, a whole number; which node), as container/heap keeps it: what is taken is the least, and nothing else is lost.
  By an AI agent.
-/
set_option linter.all false
namespace TL
abbrev cB:=Int×Int
def bV(a b:cB):Prop:=a.1<b.1\/a.1=b.1/\a.2<b.2
instance (a b:cB):Decidable (bV a b):=by unfold bV;infer_instance
theorem gy(a:cB):¬bV a a:=by unfold bV;omega
theorem p8{a b:cB}(h:bV a b):¬bV b a:=by unfold bV at*;omega
def et(xs:List cB)(i:Nat):cB:=gI xs (i:Int)
theorem fN{xs:List cB}{i:Nat}(h:i<xs.length):et xs i=xs[i]:=by unfold et gI;simp[h]
def fE(xs:List cB)(i j:Nat):List cB:=(xs.set i (et xs j)).set j (et xs i)
theorem cK(xs:List cB)(i j:Nat):(fE xs i j).length=xs.length:=by unfold fE;rw[List.length_set,List.length_set]
theorem ly{xs:List cB}{i j k:Nat}(hi:i<xs.length)(hj:j<xs.length)(hk:k<xs.length):et (fE xs i j) k=if k=j then et xs i else if k=i then et xs j else et xs k:=by
 rw[fN (by rw[cK];exact hk)]
 unfold fE
 rw[List.getElem_set]
 by_cases h1:j=k
 · rw[if_pos h1,if_pos h1.symm]
 · rw[if_neg h1,if_neg (λe=>h1 e.symm),List.getElem_set]
   by_cases h2:i=k
   · rw[if_pos h2,if_pos h2.symm]
   · rw[if_neg h2,if_neg (λe=>h2 e.symm),fN hk]
theorem dF{xs:List cB}{i j:Nat}(hi:i<xs.length)(hj:j<xs.length):(fE xs i j).Perm xs:=by
 unfold fE
 rw[fN hi,fN hj]
 exact List.set_set_perm hi hj
def eq(xs:List cB)(i n:Nat):Nat:=if 2*i+1+1<n/\bV (et xs (2*i+1+1)) (et xs (2*i+1)) then 2*i+1+1 else 2*i+1
def om:Nat->List cB->Nat->Nat->List cB
 |0,xs,_,_=>xs
 |k+1,xs,i,n=>if n<=2*i+1 then xs else if bV (et xs (eq xs i n)) (et xs i) then om k (fE xs i (eq xs i n)) (eq xs i n) n else xs
def oo:Nat->List cB->Nat->List cB
 |0,xs,_=>xs
 |k+1,xs,j=>if(j-1)/2=j\/¬bV (et xs j) (et xs ((j-1)/2)) then xs else oo k (fE xs ((j-1)/2) j) ((j-1)/2)
theorem lT{xs:List cB}{i n:Nat}(h:¬n<=2*i+1):eq xs i n<n/\(eq xs i n-1)/2=i/\i<eq xs i n/\∀k,k<n->(k-1)/2=i->1<=k->¬bV (et xs k) (et xs (eq xs i n)):=by
 unfold eq
 split
 · rename_i c
   refine⟨by omega,by omega,by omega,λk hk hp h1=>?_⟩
   have:k=2*i+1\/k=2*i+1+1:=by omega
   rcases this with rfl|rfl
   · exact p8 c.2
   · exact gy _
 · rename_i c
   refine⟨by omega,by omega,by omega,λk hk hp h1=>?_⟩
   have:k=2*i+1\/k=2*i+1+1:=by omega
   rcases this with rfl|rfl
   · exact gy _
   · exact λe=>c ⟨hk,e⟩
def ea(xs:List cB)(x:cB):List cB:=oo xs.length (xs++[x]) xs.length
def bM(xs:List cB):List cB:=om (xs.length-1) (fE xs 0 (xs.length-1)) 0 (xs.length-1)
end TL
namespace TL
end TL
namespace TL
theorem d8{xs:List cB}{i:Int}(h:0<=i):et xs i.toNat=gI xs i:=by unfold et;rw[Int.toNat_of_nonneg h]
theorem jN{xs:List cB}{i j:Int}(hi:0<=i)(hj:0<=j):(xs.set i.toNat (gI xs j)).set j.toNat (gI xs i)=fE xs i.toNat j.toNat:=by
 unfold fE;rw[d8 hi,d8 hj]
structure ei(q xd:List cB)(i:Int):Prop where
 len:xd.length=q.length
 perm:xd.Perm q
 i0:0<=i
 i1:i<q.length
 fin:∃f,q.length<=f+i.toNat+1/\om f xd i.toNat (q.length-1)=bM q
theorem ei.start{q:List cB}(h:0<(q.length:Int)):ei q ((q.set (Int.toNat 0) (gI q ((q.length:Int)-1))).set (Int.toNat ((q.length:Int)-1)) (gI q 0)) 0:=by
 rw[jN (by omega) (by omega)]
 have e:Int.toNat ((q.length:Int)-1)=q.length-1:=by omega
 rw[e]
 exact⟨cK _ _ _,dF (by simp;omega) (by omega),by omega,h,q.length-1,by simp;omega,rfl⟩
theorem ei.end1{q xd:List cB}{i:Int}(h:ei q xd i)(hc:((q.length:Int)-1)<=((2*i)+1)):xd=bM q:=by
 obtain⟨f,h1,h2⟩:=h.fin
 have i0:=h.i0
 rw[<-h2]
 cases f with
 |zero=>rfl
 |succ f=>unfold om;rw[if_pos (by omega)]
theorem ei.end2{q xd:List cB}{i c:Int}(h:ei q xd i)(hn:¬((q.length:Int)-1)<=((2*i)+1))(hc:(eq xd i.toNat (q.length-1):Int)=c)(hl:¬(decide (bV (gI xd c) (gI xd i)))=true):xd=bM q:=by
 obtain⟨f,h1,h2⟩:=h.fin
 have i0:=h.i0
 rw[<-h2]
 cases f with
 |zero=>rfl
 |succ f=>
   unfold om;rw[if_neg (by omega),if_neg]
   intro k
   apply hl
   rw[d8 i0] at k
   rw[<-hc]
   exact decide_eq_true k
theorem ei.next{q xd:List cB}{i c:Int}(h:ei q xd i)(hn:¬((q.length:Int)-1)<=((2*i)+1))(hc:(eq xd i.toNat (q.length-1):Int)=c)(hl:(decide (bV (gI xd c) (gI xd i)))=true):ei q ((xd.set i.toNat (gI xd c)).set c.toNat (gI xd i)) c:=by
 obtain⟨f,h1,h2⟩:=h.fin
 have i0:=h.i0
 have hlen:=h.len
 have c0:0<=c:=by omega
 obtain⟨k1,k2,k3,k4⟩:=lT (xs:=xd) (i:=i.toNat) (n:=q.length-1) (by omega)
 rw[jN i0 c0]
 have e:eq xd i.toNat (q.length-1)=c.toNat:=by omega
 refine⟨by rw[cK,hlen],(dF (by omega) (by omega)).trans h.perm,c0,by omega,?_⟩
 cases f with
 |zero=>omega
 |succ f=>
   refine⟨f,by omega,?_⟩
   rw[<-h2]
   conv=>rhs;unfold om
   rw[if_neg (by omega),if_pos,e]
   rw[d8 i0,e,d8 c0]
   exact of_decide_eq_true hl
theorem jv{xd:List cB}{n:Nat}{i:Int}(i0:0<=i)(h:(((2*i)+1)+1)<((n:Int)-1))(hp:(decide (bV (gI xd (((2*i)+1)+1)) (gI xd ((2*i)+1))))=true):(eq xd i.toNat (n-1):Int)=((2*i)+1)+1:=by
 unfold eq
 have hp:=of_decide_eq_true hp
 have e1:et xd (2*i.toNat+1+1)=gI xd (((2*i)+1)+1):=by rw[<-d8 (by omega)];congr 1;omega
 have e2:et xd (2*i.toNat+1)=gI xd ((2*i)+1):=by rw[<-d8 (by omega)];congr 1;omega
 rw[if_pos ⟨by omega,by rw[e1,e2];exact hp⟩];omega
theorem eK{xd:List cB}{n:Nat}{i:Int}(i0:0<=i)(h:¬(((2*i)+1)+1)<((n:Int)-1)\/¬(decide (bV (gI xd (((2*i)+1)+1)) (gI xd ((2*i)+1))))=true):(eq xd i.toNat (n-1):Int)=(2*i)+1:=by
 unfold eq
 have e1:et xd (2*i.toNat+1+1)=gI xd (((2*i)+1)+1):=by rw[<-d8 (by omega)];congr 1;omega
 have e2:et xd (2*i.toNat+1)=gI xd ((2*i)+1):=by rw[<-d8 (by omega)];congr 1;omega
 rw[if_neg,show((2*i.toNat+1:Nat):Int)=2*i+1 by omega]
 rintro⟨a,b⟩
 rw[e1,e2] at b
 rcases h with h|h
 · omega
 · exact h (decide_eq_true b)
def iA(l:List cB):List cB:=oo (l.length-1) l (l.length-1)
theorem ku(q:List cB)(x:cB):ea q x=iA (q++[x]):=by unfold ea iA;rw[List.length_append];rfl
structure fm(l xu:List cB)(j:Int):Prop where
 len:xu.length=l.length
 perm:xu.Perm l
 j0:0<=j
 j1:j<l.length
 fin:∃f,j.toNat<=f/\oo f xu j.toNat=iA l
theorem fm.start{l:List cB}(h:0<(l.length:Int)):fm l l ((l.length:Int)-1):=
 ⟨rfl,List.Perm.refl _,by omega,by omega,l.length-1,by omega,by rw[show((l.length:Int)-1).toNat=l.length-1 by omega];rfl⟩
theorem fm.end1{l xu:List cB}{j:Int}(h:fm l xu j)(hc:Int.tdiv (j-1) 2=j):xu=iA l:=by
 obtain⟨f,h1,h2⟩:=h.fin
 have j0:=h.j0
 have:j=0:=by
   rcases Int.lt_or_le 0 j with c|c
   · rw[Int.tdiv_eq_ediv_of_nonneg (by omega)] at hc;omega
   · omega
 subst this
 rw[<-h2]
 cases f with
 |zero=>rfl
 |succ f=>unfold oo;rw[if_pos (.inl (by decide))]
theorem d5{j:Int}(j0:0<=j)(hc:¬Int.tdiv (j-1) 2=j):1<=j/\Int.tdiv (j-1) 2=(j-1)/2:=by
 by_cases c:1<=j
 · exact⟨c,Int.tdiv_eq_ediv_of_nonneg (by omega)⟩
 · have:j=0:=by omega
   subst this
   exact absurd (by decide) hc
theorem fm.end2{l xu:List cB}{j:Int}(h:fm l xu j)(hc:¬Int.tdiv (j-1) 2=j)(hl:¬(decide (bV (gI xu j) (gI xu (Int.tdiv (j-1) 2))))=true):xu=iA l:=by
 obtain⟨f,h1,h2⟩:=h.fin
 have j0:=h.j0
 obtain⟨c1,c2⟩:=d5 j0 hc
 rw[<-h2]
 cases f with
 |zero=>rfl
 |succ f=>
   have hh:¬bV (et xu j.toNat) (et xu ((j.toNat-1)/2)):=by
     intro k
     apply hl
     rw[c2,<-d8 j0,<-d8 (by omega),show((j-1)/2).toNat=(j.toNat-1)/2 by omega]
     exact decide_eq_true k
   unfold oo;rw[if_pos (.inr hh)]
theorem fm.next{l xu:List cB}{j:Int}(h:fm l xu j)(hc:¬Int.tdiv (j-1) 2=j)(hl:(decide (bV (gI xu j) (gI xu (Int.tdiv (j-1) 2))))=true):fm l ((xu.set (Int.tdiv (j-1) 2).toNat (gI xu j)).set j.toNat (gI xu (Int.tdiv (j-1) 2))) (Int.tdiv (j-1) 2):=by
 obtain⟨f,h1,h2⟩:=h.fin
 have j0:=h.j0
 have j1:=h.j1
 have hlen:=h.len
 obtain⟨c1,c2⟩:=d5 j0 hc
 rw[c2] at hl ⊢
 rw[jN (by omega) j0]
 refine⟨by rw[cK,hlen],(dF (by omega) (by omega)).trans h.perm,by omega,by omega,?_⟩
 cases f with
 |zero=>omega
 |succ f=>
   refine⟨f,by omega,?_⟩
   rw[<-h2]
   conv=>rhs;unfold oo
   have e:((j-1)/2).toNat=(j.toNat-1)/2:=by omega
   rw[if_neg,e]
   rintro(k|k)
   · omega
   · apply k
     rw[d8 j0,<-e,d8 (by omega)]
     exact of_decide_eq_true hl
theorem ka:∀(f:Nat) (xs:List cB) (i n:Nat),n<=xs.length->i<n\/n=0->(om f xs i n).length=xs.length/\(om f xs i n).Perm xs/\∀k,n<=k->k<xs.length->et (om f xs i n) k=et xs k
 |0,xs,i,n,_,_=>⟨rfl,List.Perm.refl _,λ_ _ _=>rfl⟩
 |f+1,xs,i,n,hn0,hi=>by
   unfold om
   by_cases hn:n<=2*i+1
   · rw[if_pos hn];exact⟨rfl,List.Perm.refl _,λ_ _ _=>rfl⟩
   · rw[if_neg hn]
     by_cases hl:bV (et xs (eq xs i n)) (et xs i)
     · rw[if_pos hl]
       obtain⟨c1,c2,c3,c4⟩:=lT (xs:=xs) hn
       obtain⟨k2,k3,k4⟩:=ka f (fE xs i (eq xs i n)) (eq xs i n) n (by rw[cK];exact hn0) (.inl c1)
       refine⟨by rw[k2,cK],k3.trans (dF (by omega) (by omega)),λk h1 h2=>?_⟩
       rw[k4 k h1 (by rw[cK];exact h2),ly (by omega) (by omega) h2,if_neg (by omega),if_neg (by omega)]
     · rw[if_neg hl];exact⟨rfl,List.Perm.refl _,λ_ _ _=>rfl⟩
theorem kJ:∀(f:Nat) (xs:List cB) (j:Nat),j<xs.length->(oo f xs j).length=xs.length/\(oo f xs j).Perm xs
 |0,xs,j,_=>⟨rfl,List.Perm.refl _⟩
 |f+1,xs,j,h=>by
   unfold oo
   split
   · exact⟨rfl,List.Perm.refl _⟩
   · obtain⟨a,b⟩:=kJ f (fE xs ((j-1)/2) j) ((j-1)/2) (by rw[cK];omega)
     exact⟨by rw[a,cK],b.trans (dF (by omega) h)⟩
theorem jX(xs:List cB)(x:cB):(ea xs x).length=xs.length+1/\(ea xs x).Perm (x::xs):=by
  obtain⟨a,b⟩:=kJ xs.length (xs++[x]) xs.length (by simp)
  exact⟨by unfold ea;rw[a];simp,b.trans (List.perm_append_comm (l₁:=xs) (l₂:=[x]))⟩
theorem jI{xs:List cB}(h0:0<xs.length):(bM xs).length=xs.length/\et (bM xs) (xs.length-1)=et xs 0/\xs.Perm (et xs 0::(bM xs).take (xs.length-1)):=by
 obtain⟨k2,k3,k4⟩:=ka (xs.length-1) (fE xs 0 (xs.length-1)) 0 (xs.length-1) (by rw[cK];omega) (by omega)
 rw[cK] at k2 k4
 have e1:et (bM xs) (xs.length-1)=et xs 0:=by
   unfold bM
   rw[k4 (xs.length-1) (Nat.le_refl _) (by omega),ly (by omega) (by omega) (by omega),if_pos rfl]
 have hpl:(bM xs).length=xs.length:=k2
 refine⟨hpl,e1,?_⟩
 have p1:(bM xs).Perm xs:=k3.trans (dF (by omega) (by omega))
 have e2:bM xs=(bM xs).take (xs.length-1)++[et xs 0]:=by
   rw[<-e1,fN (by omega)]
   have:=List.take_append_getElem (i:=xs.length-1) (show xs.length-1<(bM xs).length by omega)
   rw[this,List.take_of_length_le (by omega)]
 have p2:((bM xs).take (xs.length-1)++[et xs 0]).Perm (et xs 0::(bM xs).take (xs.length-1)):=List.perm_append_comm
 rw[<-e2] at p2
 exact p1.symm.trans p2
end TL
/-
  TlFlo: a task's pipes: ways, rooms, costs; how far all is from the source.
  By an AI agent.
-/
set_option linter.all false
namespace TL
abbrev bS:=Int×Int×Int
def bF(W:List bS)(w:Int):Int:=(gI W w).1
def bK(W:List bS)(w:Int):Int:=(gI W w).2.1
def eZ(W:List bS)(w:Int):Int:=(gI W w).2.2
def dg(W:List bS)(w:Int):Int:=bF W (c6 w)
def dr(W:List bS)(P:List Int)(v w:Int):Int:=eZ W w+gI P v-gI P (bF W w)
def dC(W:List bS)(w:Int):Prop:=0<=w/\w<(W.length:Int)
variable{n2 s t v u w x y B M:Int}{W W' W0:List bS}{O:List (List Int)}{P far:List Int}{q:List cB}{k m:Nat}
theorem dV(h:0<=w):c6 (c6 w)=w/\0<=c6 w/\c6 w≠w/\c6 w/2=w/2:=by
 have:w%2=0\/w%2=1:=by omega
 rcases this with q|q
 · have h1:c6 w=w+1:=if_pos q
   have h2:c6 (w+1)=w:=by unfold c6;rw[if_neg (by omega)];omega
   rw[h1]
   exact⟨h2,by omega,by omega,by omega⟩
 · have h1:c6 w=w-1:=if_neg (by omega)
   have h2:c6 (w-1)=w:=by unfold c6;rw[if_pos (by omega)];omega
   rw[h1]
   exact⟨h2,by omega,by omega,by omega⟩
structure iP(n2:Int)(W:List bS)(O:List (List Int)):Prop where
  ev:W.length%2=0
  ol:(O.length:Int)=n2
  to:∀w,dC W w->0<=bF W w/\bF W w<n2
  row:∀v,0<=v->v<n2->∀w∈gI O v,dC W w/\dg W w=v
  all:∀w,dC W w->w∈gI O (dg W w)
  nd:∀v,0<=v->v<n2->(gI O v).Nodup
  cs:∀w,dC W w->eZ W (c6 w)= -eZ W w/\ -1048576<=eZ W w/\eZ W w<=1048576
  len:W.length<=50000
theorem iP.tw(h:iP n2 W O)(hw:dC W w):dC W (c6 w):=by
 have:=h.ev
 have h0:=hw.1
 have h1:=hw.2
 obtain⟨a,b,c,d⟩:=dV h0
 exact⟨b,by omega⟩
theorem iP.fr(h:iP n2 W O)(hw:dC W w):0<=dg W w/\dg W w<n2:=h.to _ (h.tw hw)
theorem iP.rl(h:iP n2 W O)(v0:0<=v)(v1:v<n2):((gI O v).length:Int)<=W.length:=by
 have:=gj W.length (gI O v) (h.nd v v0 v1) (λx hx=>(h.row v v0 v1 x hx).1)
 omega
theorem iy(h0:0<=w):dg W (c6 w)=bF W w:=by unfold dg;rw[(dV h0).1]
structure s8(n2 B:Int)(W:List bS)(P:List Int):Prop where
  pl:(P.length:Int)=n2
  pb:∀v,0<=v->v<n2->0<=gI P v/\gI P v<=B
  rm:∀w,dC W w->0<=bK W w
  rd:∀w,dC W w->0<bK W w->0<=dr W P (dg W w) w
theorem pN(hs:iP n2 W O)(hp:s8 n2 B W P)(hw:dC W w)(v0:0<=v)(v1:v<n2): -(1048576+B)<=dr W P v w/\dr W P v w<=1048576+B:=by
 have h1:=hs.cs w hw
 have h2:=hs.to w hw
 have h3:=hp.pb _ h2.1 h2.2
 have h4:=hp.pb v v0 v1
 unfold dr
 omega
inductive PthW (W:List bS) (P:List Int) (s:Int):Int->Int->Prop
  |nil:PthW W P s s 0
  |step {v d w:Int}:PthW W P s v d->dC W w->dg W w=v->0<bK W w->PthW W P s (bF W w) (d+dr W P v w)
abbrev da:Int:=1152921504606846976
def eY(far:List Int):Nat:=far.countP λx=>decide (x≠da)
theorem kE(h0:0<=v)(h1:v<(far.length:Int))(hx:x≠da):eY (far.set v.toNat x)=if gI far v=da then eY far+1 else eY far:=by
 have hi:v.toNat<far.length:=by omega
 have e:gI far v=far[v.toNat]:=by simp[gI,hi]
 unfold eY
 rw[List.countP_set (h:=hi),e]
 by_cases c:far[v.toNat]=da
 · rw[if_pos c];simp[c,hx]
 · rw[if_neg c]
   have hp:0<far.countP (λx=>decide (x≠da)):=List.countP_pos_iff.2 ⟨far[v.toNat],List.getElem_mem hi,by simpa using c⟩
   have p1:decide (far[v.toNat]≠da)=true:=decide_eq_true c
   have p2:decide (x≠da)=true:=decide_eq_true hx
   rw[p1,p2]
   simp only[if_true]
   omega
theorem pf:eY far<=far.length:=List.countP_le_length
def pq(far:List Int):Nat:=(far.map Int.toNat).sum
theorem nO(h0:0<=v)(h1:v<(far.length:Int)):pq (far.set v.toNat x)+(gI far v).toNat=pq far+x.toNat:=by
 have hi:v.toNat<far.length:=by omega
 have e:gI far v=far[v.toNat]:=by simp[gI,hi]
 unfold pq
 rw[List.map_set,e]
 have e1:(far.map Int.toNat)=(far.map Int.toNat).take v.toNat++(far.map Int.toNat)[v.toNat]'(by simpa using hi)::(far.map Int.toNat).drop (v.toNat+1):=by
   rw[<-List.drop_eq_getElem_cons,List.take_append_drop]
 rw[List.set_eq_take_append_cons_drop,if_pos (by simpa using hi)]
 conv=>rhs;rw[e1]
 simp only[List.sum_append,List.sum_cons,List.getElem_map]
 omega
def iu(W:List bS)(P:List Int)(x:Int×Int)(c:List Int×List cB)(w:Int):List Int×List cB:=
  if 0<bK W w/\x.1+dr W P x.2 w<gI c.1 (bF W w) then(c.1.set (bF W w).toNat (x.1+dr W P x.2 w),ea c.2 (x.1+dr W P x.2 w,bF W w)) else c
def fX(W:List bS)(O:List (List Int))(P:List Int)(c:List Int×List cB):List Int×List cB:=
 if gI c.1 (gI (bM c.2) (((bM c.2).length:Int)-1)).2<(gI (bM c.2) (((bM c.2).length:Int)-1)).1 then(c.1,(bM c.2).take (c.2.length-1))
 else(gI O (gI (bM c.2) (((bM c.2).length:Int)-1)).2).foldl (iu W P (gI (bM c.2) (((bM c.2).length:Int)-1))) (c.1,(bM c.2).take (c.2.length-1))
def jh(W:List bS)(O:List (List Int))(P:List Int):Nat->List Int×List cB->List Int×List cB
 |0,c=>c
 |f+1,c=>if c.2=[] then c else jh W O P f (fX W O P c)
def dO(c:List Int×List cB):Nat:=c.2.length+2*pq c.1
def dQ(n2 s:Int):List Int:=(List.replicate n2.toNat da).set s.toNat 0
def c7(n2 s:Int)(W:List bS)(O:List (List Int))(P:List Int):List Int:=(jh W O P (dO (dQ n2 s,[(0,s)])) (dQ n2 s,[(0,s)])).1
structure oh(n2 s M:Int)(W:List bS)(P far:List Int)(q:List cB):Prop where
  fl:(far.length:Int)=n2
  fs:gI far s=0
  rg:∀v,0<=v->v<n2->gI far v≠da->0<=gI far v/\gI far v<=((eY far:Int)-1)*M
  pth:∀v,0<=v->v<n2->gI far v≠da->PthW W P s v (gI far v)
  qin:∀z∈q,(0<=z.2/\z.2<n2)/\gI far z.2<=z.1/\z.1<da
  qn:q.Nodup
  qb:∀z∈q,0<=z.1/\z.1<=n2*M
def n6(W:List bS)(P far:List Int)(v w:Int):Prop:=0<bK W w->gI far (bF W w)<=gI far v+dr W P v w
structure i6(n2 s M:Int)(W:List bS)(O:List (List Int))(P far:List Int)(q:List cB):Prop where
 i:oh n2 s M W P far q
 act:∀v,0<=v->v<n2->gI far v≠da->(gI far v,v)∈q\/∀w∈gI O v,n6 W P far v w
structure mx(n2 s M:Int)(W:List bS)(O:List (List Int))(P far:List Int)(q:List cB)(x:Int×Int)(k N:Nat):Prop where
  i:oh n2 s M W P far q
  x0:0<=x.2/\x.2<n2
  xf:gI far x.2=x.1
  xb:x.1<da
  act:∀v,0<=v->v<n2->v≠x.2->gI far v≠da->(gI far v,v)∈q\/∀w∈gI O v,n6 W P far v w
  row:∀i:Nat,i<k->(i:Int)<(gI O x.2).length->n6 W P far x.2 (gI (gI O x.2) (i:Int))
  ms:dO (far,q)<N
theorem oh.bd(h:oh n2 s M W P far q)(hM:0<=M)(hb:n2*M+M<da)(v0:0<=v)(v1:v<n2)(hv:gI far v≠da):0<=gI far v/\gI far v<=n2*M-M:=by
 obtain⟨a,b⟩:=h.rg v v0 v1 hv
 refine⟨a,Int.le_trans b ?_⟩
 have h1:=pf (far:=far)
 have h2:=h.fl
 have:((eY far:Int)-1)*M<=(n2-1)*M:=Int.mul_le_mul_of_nonneg_right (by omega) hM
 rw[Int.sub_mul n2 1 M,Int.one_mul] at this
 exact this
theorem ny(n0:0<n2)(s0:0<=s)(s1:s<n2)(hM:0<=M):i6 n2 s M W O P (dQ n2 s) [(0,s)]:=by
 have hs:∀v,0<=v->v<n2->gI (dQ n2 s) v=if v=s then 0 else da:=λv a b=>by
   unfold dQ
   rw[ct s0 (by simp;omega) a,dz a (by omega)]
 have hss:gI (dQ n2 s) s=0:=by rw[hs s s0 s1,if_pos rfl]
 have only:∀v,0<=v->v<n2->gI (dQ n2 s) v≠da->v=s:=λv a b h=>by
   rw[hs v a b] at h
   by_cases c:v=s
   · exact c
   · rw[if_neg c] at h;exact absurd rfl h
 have hc:eY (dQ n2 s)=1:=by
   have h1:=kE (far:=List.replicate n2.toNat da) (v:=s) (x:=0) s0 (by simp;omega) (by decide)
   rw[if_pos (dz s0 (by omega))] at h1
   have h2:eY (List.replicate n2.toNat da)=0:=by unfold eY;rw[List.countP_replicate];simp
   rw[h2] at h1
   exact h1
 refine⟨⟨by unfold dQ;simp;omega,hss,λv a b h=>?_,λv a b h=>?_,λz hz=>?_,by simp,λz hz=>?_⟩,λv a b h=>?_⟩
 · rw[only v a b h,hss,hc];exact⟨Int.le_refl _,by simp⟩
 · rw[only v a b h,hss];exact .nil
 · rw[List.mem_singleton.1 hz];exact⟨⟨s0,s1⟩,by rw[hss];exact Int.le_refl _,by show(0:Int)<da;decide⟩
 · rw[List.mem_singleton.1 hz];exact⟨Int.le_refl _,Int.mul_nonneg (by omega) hM⟩
 · left;rw[only v a b h,hss];simp
theorem i6.pop(h:i6 n2 s M W O P far q)(h0:0<q.length){xj:List cB}(hx:xj=bM q):xj.length=q.length/\((0<=(gI xj ((xj.length:Int)-1)).2/\(gI xj ((xj.length:Int)-1)).2<n2)/\gI far (gI xj ((xj.length:Int)-1)).2<=(gI xj ((xj.length:Int)-1)).1/\(gI xj ((xj.length:Int)-1)).1<da)/\q.Perm (gI xj ((xj.length:Int)-1)::xj.take (q.length-1)):=by
  subst hx
  obtain⟨a,b,c⟩:=jI h0
  have e:gI (bM q) (((bM q).length:Int)-1)=et q 0:=by
    rw[<-b,a,<-d8 (by omega)]
    congr 1
    omega
  rw[e]
  refine⟨a,h.i.qin _ ?_,c⟩
  exact c.mem_iff.2 (List.mem_cons_self ..)
theorem i6.skip(h:i6 n2 s M W O P far q)(h0:0<q.length){xj:List cB}(hx:xj=bM q)(hlt:gI far (gI xj ((xj.length:Int)-1)).2<(gI xj ((xj.length:Int)-1)).1):i6 n2 s M W O P far (xj.take (q.length-1))/\dO (far,xj.take (q.length-1))<dO (far,q):=by
 obtain⟨a,b,c⟩:=h.pop h0 hx
 refine⟨⟨⟨h.i.fl,h.i.fs,h.i.rg,h.i.pth,λz hz=>h.i.qin z (c.mem_iff.2 (List.mem_cons_of_mem _ hz)),(List.nodup_cons.1 (c.nodup_iff.1 h.i.qn)).2,λz hz=>h.i.qb z (c.mem_iff.2 (List.mem_cons_of_mem _ hz))⟩,λv v0 v1 hv=>?_⟩,?_⟩
 · rcases h.act v v0 v1 hv with p|p
   · rcases List.mem_cons.1 (c.mem_iff.1 p) with r|r
     · rw[<-r] at hlt;exact absurd hlt (Int.lt_irrefl _)
     · exact .inl r
   · exact .inr p
 · unfold dO
   simp only[List.length_take]
   omega
theorem i6.take(h:i6 n2 s M W O P far q)(h0:0<q.length){xj:List cB}(hx:xj=bM q)(hlt:¬gI far (gI xj ((xj.length:Int)-1)).2<(gI xj ((xj.length:Int)-1)).1):mx n2 s M W O P far (xj.take (q.length-1)) (gI xj ((xj.length:Int)-1)) 0 (dO (far,q)):=by
 obtain⟨a,⟨b1,b2,b3⟩,c⟩:=h.pop h0 hx
 refine⟨⟨h.i.fl,h.i.fs,h.i.rg,h.i.pth,λz hz=>h.i.qin z (c.mem_iff.2 (List.mem_cons_of_mem _ hz)),(List.nodup_cons.1 (c.nodup_iff.1 h.i.qn)).2,λz hz=>h.i.qb z (c.mem_iff.2 (List.mem_cons_of_mem _ hz))⟩,b1,by omega,b3,λv v0 v1 hne hv=>?_,λi hi=>by omega,?_⟩
 · rcases h.act v v0 v1 hv with p|p
   · rcases List.mem_cons.1 (c.mem_iff.1 p) with r|r
     · exact absurd (congrArg Prod.snd r) hne
     · exact .inl r
   · exact .inr p
 · unfold dO
   simp only[List.length_take]
   omega
theorem mx.done{x:Int×Int}(h:mx n2 s M W O P far q x k m)(hk:¬(k:Int)<(gI O x.2).length):i6 n2 s M W O P far q:=by
 refine⟨h.i,λv v0 v1 hv=>?_⟩
 by_cases c:v=x.2
 · subst c
   right
   intro w hw
   obtain⟨i,hi,rfl⟩:=List.mem_iff_getElem.1 hw
   have:=h.row i (by omega) (by omega)
   have e4:∀(L:List Int) (j:Nat) (hj:j<L.length),gI L (j:Int)=L[j]:=λL j hj=>by simp[gI,hj]
   rwa[e4 _ i hi] at this
 · exact h.act v v0 v1 c hv
theorem mx.no{x:Int×Int}(h:mx n2 s M W O P far q x k m)(hn:¬(0<bK W (gI (gI O x.2) (k:Int))/\x.1+dr W P x.2 (gI (gI O x.2) (k:Int))<gI far (bF W (gI (gI O x.2) (k:Int))))):mx n2 s M W O P far q x (k+1) m:=by
 refine⟨h.i,h.x0,h.xf,h.xb,h.act,λi hi hl=>?_,h.ms⟩
 by_cases c:i=k
 · subst c
   intro hr
   rw[h.xf]
   refine Int.not_lt.1 λj=>hn ⟨hr,j⟩
 · exact h.row i (by omega) hl
end TL
/-
  TlFlo2: how far all is from the source, once no node waits; potentials turned.
  By an AI agent.
-/
set_option linter.all false
namespace TL
variable{n2 s t v u w x y d B M:Int}{W W' W0:List bS}{O:List (List Int)}{P P' far far2:List Int}{q q2:List cB}{k m f:Nat}{c R:List Int×List cB}
structure fj(n2 s B M:Int)(W:List bS)(O:List (List Int))(P:List Int):Prop where
  sh:iP n2 W O
  pt:s8 n2 B W P
  s0:0<=s
  s1:s<n2
  b0:0<=B
  hM:M=1048576+B
  hb:n2*M+M<da
theorem kr{nv:Int}(hp:gI far2 v=gI far v)(ht:∀w,dC W w->gI far2 (bF W w)<=gI far (bF W w))(hw:dC W w)(h:n6 W P far v w):n6 W P far2 v w:=λhr=>by
 have:=h hr
 have:=ht w hw
 rw[hp];omega
theorem mx.yes{x:Int×Int}(hb:fj n2 s B M W O P)(h:mx n2 s M W O P far q x k m)(hk:(k:Int)<(gI O x.2).length)(hr:0<bK W (gI (gI O x.2) (k:Int)))(hlt:x.1+dr W P x.2 (gI (gI O x.2) (k:Int))<gI far (bF W (gI (gI O x.2) (k:Int)))):mx n2 s M W O P (far.set (bF W (gI (gI O x.2) (k:Int))).toNat (x.1+dr W P x.2 (gI (gI O x.2) (k:Int)))) (ea q (x.1+dr W P x.2 (gI (gI O x.2) (k:Int)),bF W (gI (gI O x.2) (k:Int)))) x (k+1) m:=by
 obtain⟨hw,hfr⟩:=hb.sh.row _ h.x0.1 h.x0.2 _ (bk (xs:=gI O x.2) (i:=(k:Int)) (by omega) hk)
 have hrw:∀i:Nat,(i:Int)<(gI O x.2).length->dC W (gI (gI O x.2) (i:Int)):=λi hi=>(hb.sh.row _ h.x0.1 h.x0.2 _ (bk (xs:=gI O x.2) (i:=(i:Int)) (by omega) hi)).1
 generalize hwe:gI (gI O x.2) (k:Int)=w at*
 have hM:=hb.hM
 have hb0:=hb.b0
 have hn2:0<n2:=by have:=h.x0;omega
 obtain⟨t0,t1⟩:=hb.sh.to w hw
 have hrd:=hb.pt.rd w hw hr
 rw[hfr] at hrd
 have hrb:=(pN hb.sh hb.pt hw h.x0.1 h.x0.2).2
 have hxn:gI far x.2≠da:=by rw[h.xf];have:=h.xb;omega
 obtain⟨x1,x2⟩:=h.i.bd (by omega) hb.hb h.x0.1 h.x0.2 hxn
 rw[h.xf] at x1 x2
 have hbb:=hb.hb
 generalize hnv:x.1+dr W P x.2 w=nv at*
 have hnu:nv<da:=by omega
 have hfl:=h.i.fl
 have hs:∀v,0<=v->gI (far.set (bF W w).toNat nv) v=if v=bF W w then nv else gI far v:=λv a=>ct t0 (by omega) a
 have hts:bF W w≠s:=λe=>by rw[e,h.i.fs] at hlt;omega
 have htx:bF W w≠x.2:=λe=>by rw[e,h.xf] at hlt;omega
 have hcn:=kE (far:=far) (x:=nv) t0 (by omega) (by omega)
 have hpm:=(jX q (nv,bF W w)).2
 have hle:∀v,0<=v->gI (far.set (bF W w).toNat nv) v<=gI far v:=λv a=>by
   rw[hs v a]
   by_cases c:v=bF W w
   · rw[if_pos c,c];omega
   · rw[if_neg c];exact Int.le_refl _
 refine⟨⟨by rw[List.length_set];exact hfl,by rw[hs s hb.s0,if_neg (λe=>hts e.symm)];exact h.i.fs,λv v0 v1 hv=>?_,λv v0 v1 hv=>?_,λz hz=>?_,hpm.nodup_iff.2 (List.nodup_cons.2 ⟨λhz=>?_,h.i.qn⟩),λz hz=>?_⟩,h.x0,by rw[hs _ h.x0.1,if_neg (λe=>htx e.symm)];exact h.xf,h.xb,λv v0 v1 hne hv=>?_,λi hi hl=>?_,?_⟩
 · have hx3:=(h.i.rg x.2 h.x0.1 h.x0.2 hxn).2
   rw[h.xf] at hx3
   have hcm:(eY far:Int)<=(eY (far.set (bF W w).toNat nv):Int):=by rw[hcn];split<;>omega
   have hmul:((eY far:Int)-1)*M<=((eY (far.set (bF W w).toNat nv):Int)-1)*M:=Int.mul_le_mul_of_nonneg_right (by omega) (by omega)
   rw[hs v v0] at hv ⊢
   by_cases c:v=bF W w
   · rw[if_pos c]
     refine⟨by omega,?_⟩
     by_cases d:gI far (bF W w)=da
     · rw[if_pos d] at hcn
       rw[hcn,show((eY far+1:Nat):Int)-1=((eY far:Int)-1)+1 by omega,Int.add_mul,Int.one_mul]
       omega
     · have:=(h.i.rg _ t0 t1 d).2
       omega
   · rw[if_neg c] at hv ⊢
     obtain⟨a,b⟩:=h.i.rg v v0 v1 hv
     exact⟨a,Int.le_trans b hmul⟩
 · rw[hs v v0] at hv ⊢
   by_cases c:v=bF W w
   · rw[if_pos c,c,<-hnv]
     have:=h.i.pth x.2 h.x0.1 h.x0.2 hxn
     rw[h.xf] at this
     exact this.step hw hfr hr
   · rw[if_neg c] at hv ⊢
     exact h.i.pth v v0 v1 hv
 · rcases List.mem_cons.1 (hpm.mem_iff.1 hz) with p|p
   · rw[p]
     exact⟨⟨t0,t1⟩,by show gI (far.set (bF W w).toNat nv) (bF W w)<=nv;rw[hs _ t0,if_pos rfl];exact Int.le_refl _,hnu⟩
   · obtain⟨a,b,c⟩:=h.i.qin z p
     exact⟨a,Int.le_trans (hle _ a.1) b,c⟩
 · have:=(h.i.qin _ hz).2.1
   have e:gI far (bF W w)<=nv:=this
   omega
 · rcases List.mem_cons.1 (hpm.mem_iff.1 hz) with p|p
   · rw[p]
     exact⟨by show 0<=nv;omega,by show nv<=n2*M;omega⟩
   · exact h.i.qb z p
 · by_cases c:v=bF W w
   · left
     rw[c,hs _ t0,if_pos rfl]
     exact hpm.mem_iff.2 (List.mem_cons_self ..)
   · have e:gI (far.set (bF W w).toNat nv) v=gI far v:=by rw[hs v v0,if_neg c]
     rw[e] at hv ⊢
     rcases h.act v v0 v1 hne hv with p|p
     · exact .inl (hpm.mem_iff.2 (List.mem_cons_of_mem _ p))
     · exact .inr λw' hw'=>kr (nv:=0) e (λw'' h''=>hle _ (hb.sh.to w'' h'').1) (hb.sh.row v v0 v1 w' hw').1 (p w' hw')
 · have e:gI (far.set (bF W w).toNat nv) x.2=gI far x.2:=by rw[hs _ h.x0.1,if_neg (λe=>htx e.symm)]
   by_cases c:i=k
   · rw[c,hwe]
     intro _
     rw[hs _ t0,if_pos rfl,e,h.xf,hnv]
     exact Int.le_refl _
   · exact kr (nv:=0) e (λw'' h''=>hle _ (hb.sh.to w'' h'').1) (hrw i hl) (h.row i (by omega) hl)
 · have h1:=h.ms
   have h2:=nO (far:=far) (x:=nv) t0 (by omega)
   have h3:=(jX q (nv,bF W w)).1
   unfold dO at h1 ⊢
   simp only at h1 ⊢
   omega
theorem ie{x:Int×Int}(hb:fj n2 s B M W O P):∀(n k:Nat) (far:List Int) (q:List cB),(gI O x.2).length=k+n->mx n2 s M W O P far q x k m->i6 n2 s M W O P (((gI O x.2).drop k).foldl (iu W P x) (far,q)).1 (((gI O x.2).drop k).foldl (iu W P x) (far,q)).2/\dO (((gI O x.2).drop k).foldl (iu W P x) (far,q))<m
 |0,k,far,q,hn,h=>by
   rw[List.drop_eq_nil_of_le (by omega)]
   exact⟨h.done (by omega),h.ms⟩
 |n+1,k,far,q,hn,h=>by
   rw[eW (by omega),List.foldl_cons]
   unfold iu
   by_cases c:0<bK W (gI (gI O x.2) (k:Int))/\x.1+dr W P x.2 (gI (gI O x.2) (k:Int))<gI far (bF W (gI (gI O x.2) (k:Int)))
   · rw[if_pos c]
     exact ie hb n (k+1) _ _ (by omega) (h.yes hb (by omega) c.1 c.2)
   · rw[if_neg c]
     exact ie hb n (k+1) _ _ (by omega) (h.no c)
theorem jl(hb:fj n2 s B M W O P)(h:i6 n2 s M W O P far q)(h0:0<q.length):i6 n2 s M W O P (fX W O P (far,q)).1 (fX W O P (far,q)).2/\dO ((fX W O P (far,q)).1,(fX W O P (far,q)).2)<dO (far,q):=by
 unfold fX
 simp only
 split
 · rename_i c
   exact h.skip h0 rfl c
 · rename_i c
   have:=ie hb (gI O (gI (bM q) (((bM q).length:Int)-1)).2).length 0 _ _ (by omega) (h.take h0 rfl c)
   rwa[List.drop_zero] at this
theorem fV(hc:¬c.2=[]):jh W O P (f+1) c=jh W O P f ((fX W O P c).1,(fX W O P c).2):=by
 conv=>lhs;unfold jh
 rw[if_neg hc]
theorem qi(hb:fj n2 s B M W O P):∀(f:Nat) (far:List Int) (q:List cB),i6 n2 s M W O P far q->dO (far,q)<=f->jh W O P f (far,q)=jh W O P (dO (far,q)) (far,q):=by
 intro f
 induction f using Nat.strongRecOn with
 |ind f ih=>
   intro far q h hf
   by_cases c:q=[]
   · subst c
     have e:∀n,jh W O P n (far,[])=(far,[]):=λn=>by cases n<;>simp[jh]
     rw[e,e]
   · have h0:0<q.length:=List.length_pos_iff.2 c
     obtain⟨h1,h2⟩:=jl hb h h0
     obtain⟨n,hn⟩:∃n,dO (far,q)=n+1:=⟨dO (far,q)-1,by omega⟩
     obtain⟨f',hf'⟩:∃f',f=f'+1:=⟨f-1,by omega⟩
     rw[hn,hf',fV c,fV c,ih f' (by omega) _ _ h1 (by omega),ih n (by omega) _ _ h1 (by omega)]
structure im(n2 s M:Int)(W:List bS)(O:List (List Int))(P:List Int)(R:List Int×List cB)(far:List Int)(q:List cB):Prop where
  a:i6 n2 s M W O P far q
  g:jh W O P (dO (far,q)) (far,q)=R
structure jR(n2 s M:Int)(W:List bS)(O:List (List Int))(P:List Int)(R:List Int×List cB)(far:List Int)(q:List cB)(x:Int×Int)(k m:Nat):Prop where
 r:mx n2 s M W O P far q x k m
 g:jh W O P (dO (((gI O x.2).drop k).foldl (iu W P x) (far,q))) (((gI O x.2).drop k).foldl (iu W P x) (far,q))=R
theorem im.start(hb:fj n2 s B M W O P):im n2 s M W O P (jh W O P (dO (dQ n2 s,[(0,s)])) (dQ n2 s,[(0,s)])) (dQ n2 s) [(0,s)]:=⟨ny (by have:=hb.s0;have:=hb.s1;omega) hb.s0 hb.s1 (by have:=hb.hM;have:=hb.b0;omega),rfl⟩
theorem im.g'(hb:fj n2 s B M W O P)(h:im n2 s M W O P R far q)(h0:0<q.length):jh W O P (dO ((fX W O P (far,q)).1,(fX W O P (far,q)).2)) ((fX W O P (far,q)).1,(fX W O P (far,q)).2)=R:=by
 obtain⟨h1,h2⟩:=jl hb h.a h0
 obtain⟨n,hn⟩:∃n,dO (far,q)=n+1:=⟨dO (far,q)-1,by omega⟩
 have hg:=h.g
 rw[hn,fV (List.length_pos_iff.1 h0)] at hg
 rw[<-hg]
 exact(qi hb n _ _ h1 (by omega)).symm
theorem im.skip(hb:fj n2 s B M W O P)(h:im n2 s M W O P R far q)(h0:0<q.length){xj:List cB}(hx:xj=bM q)(hlt:gI far (gI xj ((xj.length:Int)-1)).2<(gI xj ((xj.length:Int)-1)).1){q2:List cB}(hq:q2=xj.take (q.length-1)):im n2 s M W O P R far q2/\dO (far,q2)<dO (far,q):=by
 subst hq
 obtain⟨h1,h2⟩:=h.a.skip h0 hx hlt
 refine⟨⟨h1,?_⟩,h2⟩
 have hg:=h.g' hb h0
 unfold fX at hg
 simp only at hg
 rw[<-hx,if_pos hlt] at hg
 exact hg
theorem im.take(hb:fj n2 s B M W O P)(h:im n2 s M W O P R far q)(h0:0<q.length){xj:List cB}(hx:xj=bM q)(hlt:¬gI far (gI xj ((xj.length:Int)-1)).2<(gI xj ((xj.length:Int)-1)).1){q2:List cB}(hq:q2=xj.take (q.length-1)):jR n2 s M W O P R far q2 (gI xj ((xj.length:Int)-1)) 0 (dO (far,q)):=by
 subst hq
 refine⟨h.a.take h0 hx hlt,?_⟩
 have hg:=h.g' hb h0
 unfold fX at hg
 simp only at hg
 rw[<-hx,if_neg hlt] at hg
 rw[List.drop_zero]
 exact hg
theorem jR.no{x:Int×Int}(h:jR n2 s M W O P R far q x k m)(hk:(k:Int)<(gI O x.2).length)(hn:¬(0<bK W (gI (gI O x.2) (k:Int))/\x.1+dr W P x.2 (gI (gI O x.2) (k:Int))<gI far (bF W (gI (gI O x.2) (k:Int))))):jR n2 s M W O P R far q x (k+1) m:=by
 refine⟨h.r.no hn,?_⟩
 have hg:=h.g
 rw[eW hk,List.foldl_cons] at hg
 have e:iu W P x (far,q) (gI (gI O x.2) (k:Int))=(far,q):=by unfold iu;rw[if_neg hn]
 rwa[e] at hg
theorem jR.yes{x:Int×Int}(hb:fj n2 s B M W O P)(h:jR n2 s M W O P R far q x k m)(hk:(k:Int)<(gI O x.2).length)(hr:0<bK W (gI (gI O x.2) (k:Int)))(hlt:x.1+dr W P x.2 (gI (gI O x.2) (k:Int))<gI far (bF W (gI (gI O x.2) (k:Int)))){nv tv:Int}(hnv:nv=x.1+dr W P x.2 (gI (gI O x.2) (k:Int)))(htv:tv=bF W (gI (gI O x.2) (k:Int)))(hq:q2=ea q (nv,tv)):jR n2 s M W O P R (far.set tv.toNat nv) q2 x (k+1) m:=by
 subst hnv htv hq
 refine⟨h.r.yes hb hk hr hlt,?_⟩
 have hg:=h.g
 rw[eW hk,List.foldl_cons] at hg
 have e:iu W P x (far,q) (gI (gI O x.2) (k:Int))=(far.set (bF W (gI (gI O x.2) (k:Int))).toNat (x.1+dr W P x.2 (gI (gI O x.2) (k:Int))),ea q (x.1+dr W P x.2 (gI (gI O x.2) (k:Int)),bF W (gI (gI O x.2) (k:Int)))):=by unfold iu;rw[if_pos ⟨hr,hlt⟩]
 rwa[e] at hg
theorem jR.done{x:Int×Int}(h:jR n2 s M W O P R far q x k m)(hk:¬(k:Int)<(gI O x.2).length):im n2 s M W O P R far q/\dO (far,q)<m:=by
 have hg:=h.g
 rw[List.drop_eq_nil_of_le (by omega)] at hg
 exact⟨⟨h.r.done hk,hg⟩,h.r.ms⟩
theorem im.fin(h:im n2 s M W O P R far q)(h0:¬0<q.length):far=R.1/\i6 n2 s M W O P far []:=by
 have:q=[]:=List.eq_nil_of_length_eq_zero (by omega)
 subst this
 refine⟨?_,h.a⟩
 have hg:=h.g
 have e:∀n,jh W O P n (far,[])=(far,[]):=λn=>by cases n<;>simp[jh]
 rw[e] at hg
 rw[<-hg]
theorem eL(hb:fj n2 s B M W O P):i6 n2 s M W O P (c7 n2 s W O P) []:=by
  have hstart:=im.start hb
  have nI:∀(f:Nat) (far:List Int) (q:List cB),i6 n2 s M W O P far q->dO (far,q)<=f->i6 n2 s M W O P (jh W O P f (far,q)).1 []:=by
    intro f
    induction f with
    |zero=>
      intro far q h hf
      have:q=[]:=List.eq_nil_of_length_eq_zero (by unfold dO at hf;simp only at hf;omega)
      subst this
      exact h
    |succ f ih=>
      intro far q h hf
      by_cases c:q=[]
      · subst c
        have e:jh W O P (f+1) (far,[])=(far,[]):=by simp[jh]
        rw[e];exact h
      · rw[fV c]
        obtain⟨h1,h2⟩:=jl hb h (List.length_pos_iff.2 c)
        exact ih _ _ h1 (by omega)
  exact nI _ _ _ hstart.a (Nat.le_refl _)
theorem i6.tri(hb:fj n2 s B M W O P)(h:i6 n2 s M W O P far [])(hw:dC W w)(hr:0<bK W w)(hv:gI far (dg W w)≠da):gI far (bF W w)<=gI far (dg W w)+dr W P (dg W w) w/\gI far (bF W w)≠da:=by
  obtain⟨f0,f1⟩:=hb.sh.fr hw
  have h1:=(h.act _ f0 f1 hv).resolve_left List.not_mem_nil w (hb.sh.all w hw) hr
  have hM:=hb.hM
  have hb0:=hb.b0
  have h2:=(h.i.bd (by omega) hb.hb f0 f1 hv).2
  have h3:=(pN hb.sh hb.pt hw f0 f1).2
  have h4:=hb.hb
  exact⟨h1,by omega⟩
inductive ZpW (W:List bS) (P:List Int) (s:Int):Int->Prop
  |nil:ZpW W P s s
  |step {w:Int}:ZpW W P s (dg W w)->dC W w->0<bK W w->dr W P (dg W w) w=0->ZpW W P s (bF W w)
def cV(P far:List Int)(ft:Int):List Int:=(dc P.length).map λv=>gI P v+min (gI far v) ft
theorem gN(v0:0<=v)(v1:v<(P.length:Int)){ft:Int}:gI (cV P far ft) v=gI P v+min (gI far v) ft:=by
 have h:v.toNat<P.length:=by omega
 unfold cV
 rw[show gI ((dc P.length).map λv=>gI P v+min (gI far v) ft) v=(λv=>gI P v+min (gI far v) ft) (gI (dc P.length) v) from ?_,lX v0 v1]
 unfold gI
 rw[List.getD_eq_getElem?_getD,List.getD_eq_getElem?_getD,List.getElem?_map]
 rw[List.getElem?_eq_getElem (by simp[dc];omega)];rfl
end TL
/-
  TlFlo3: potentials turned: reduced costs stay at 0 or more, a way of reduced costs 0 leads to the sink; levels.
  By an AI agent.
-/
set_option linter.all false
namespace TL
variable{n2 s t v u w x y d B M:Int}{W W' W0:List bS}{O:List (List Int)}{P P' far far2 lv qu:List Int}{k m f i:Nat}
theorem ju{α:Type}[Inhabited α]{l:List α}{a:α}{i:Int}(h1:i<(l.length:Int))(h0:0<=i):gI (l++[a]) i=gI l i:=by
 have:i.toNat<l.length:=by omega
 simp[gI,this,List.getElem?_append_left]
theorem l7{α:Type}[Inhabited α]{l:List α}{a:α}:gI (l++[a]) (l.length:Int)=a:=by simp[gI]
structure rp(n2 s t:Int)(P:List Int):Prop where
  s0:gI P s=0
  tt:∀v,0<=v->v<n2->gI P v<=gI P t
theorem lM(hb:fj n2 s B M W O P)(hw:dC W w){ft:Int}:dr W (cV P far ft) (dg W w) w=dr W P (dg W w) w+min (gI far (dg W w)) ft-min (gI far (bF W w)) ft:=by
 have hf:=hb.sh.fr hw
 have ht:=hb.sh.to w hw
 have hl:=hb.pt.pl
 unfold dr
 rw[gN hf.1 (by omega),gN ht.1 (by omega)]
 omega
theorem n9(hb:fj n2 s B M W O P)(h:i6 n2 s M W O P far []){ft:Int}(hft:0<=ft)(hp:PthW W P s v d):(0<=v/\v<n2)/\gI far v≠da/\min (gI far v) ft<=d/\(d=min (gI far v) ft->ZpW W (cV P far ft) s v):=by
 induction hp with
 |nil=>exact⟨⟨hb.s0,hb.s1⟩,by rw[h.i.fs];decide,by rw[h.i.fs];omega,λ_=>.nil⟩
 | @step v d w hp hw hf hr ih=>
   obtain⟨i1,i2,i3,i4⟩:=ih
   subst hf
   obtain⟨t1,t2⟩:=h.tri hb hw hr i2
   have hrd:=hb.pt.rd w hw hr
   refine⟨hb.sh.to w hw,t2,by omega,λe=>?_⟩
   have e1:d=min (gI far (dg W w)) ft:=by omega
   refine .step (i4 e1) hw hr ?_
   rw[lM hb hw]
   omega
theorem iG{ft:Int}:(cV P far ft).length=P.length:=by unfold cV;simp[dc]
theorem oH(hb:fj n2 s B M W O P)(h:i6 n2 s M W O P far [])(hs:rp n2 s t P)(ht:0<=t/\t<n2)(hft:gI far t≠da):(∀w,dC W w->0<bK W w->0<=dr W (cV P far (gI far t)) (dg W w) w)/\rp n2 s t (cV P far (gI far t))/\ZpW W (cV P far (gI far t)) s t/\∀v,0<=v->v<n2->0<=gI (cV P far (gI far t)) v:=by
  have hM:=hb.hM
  have hb0:=hb.b0
  have hl:=hb.pt.pl
  obtain⟨t0,tb⟩:=h.i.bd (by omega) hb.hb ht.1 ht.2 hft
  have hbb:=hb.hb
  have htu:gI far t<da:=by omega
  have at_:∀v,0<=v->v<n2->gI (cV P far (gI far t)) v=gI P v+min (gI far v) (gI far t):=λv a b=>gN a (by omega)
  have nn:∀v,0<=v->v<n2->0<=min (gI far v) (gI far t):=λv a b=>by
    by_cases c:gI far v=da
    · rw[c];omega
    · have:=(h.i.bd (by omega) hb.hb a b c).1;omega
  refine⟨λw hw hr=>?_,⟨?_,λv a b=>?_⟩,?_,λv a b=>?_⟩
  · rw[lM hb hw]
    have hrd:=hb.pt.rd w hw hr
    have ht2:=hb.sh.to w hw
    have hf2:=hb.sh.fr hw
    by_cases c:gI far (dg W w)=da
    · rw[c];omega
    · have:=(h.tri hb hw hr c).1
      omega
  · rw[at_ s hb.s0 hb.s1,hs.s0,h.i.fs];omega
  · rw[at_ v a b,at_ t ht.1 ht.2]
    have:=hs.tt v a b
    omega
  · have:=n9 hb h t0 (h.i.pth t ht.1 ht.2 hft)
    exact this.2.2.2 (by omega)
  · rw[at_ v a b]
    have:=nn v a b
    have:=(hb.pt.pb v a b).1
    omega
inductive ZaW (W:List bS) (P:List Int) (A:Int->Prop):Int->Int->Prop
  |refl {x:Int}:A x->ZaW W P A x x
  |step {x w:Int}:ZaW W P A x (dg W w)->dC W w->0<bK W w->dr W P (dg W w) w=0->A (bF W w)->ZaW W P A x (bF W w)
theorem pJ(h:ZpW W P s v):ZaW W P (λ_=>True) s v:=by
 induction h with
 |nil=>exact .refl trivial
 |step _ b c d ih=>exact .step ih b c d trivial
theorem jW{A:Int->Prop}(h:ZaW W P A x y)(hne:x≠y):∃w,dC W w/\dg W w=x/\0<bK W w/\dr W P (dg W w) w=0/\ZaW W P (λz=>A z/\z≠x) (bF W w) y:=by
 induction h with
 |refl _=>exact absurd rfl hne
 | @step w p b c d e ih=>
   by_cases q:x=dg W w
   · exact⟨w,b,q.symm,c,d,.refl ⟨e,λj=>hne j.symm⟩⟩
   · obtain⟨w',a1,a2,a3,a4,a5⟩:=ih q
     exact⟨w',a1,a2,a3,a4,.step a5 b c d ⟨e,λj=>hne j.symm⟩⟩
theorem pB{A:Int->Prop}(h:ZaW W P A x y):A x/\A y:=by
 induction h with
 |refl a=>exact⟨a,a⟩
 |step _ _ _ _ e ih=>exact⟨ih.1,e⟩
theorem pA(hs:iP n2 W O):∀(n:Nat) (V:List Int) (x y:Int),V.Nodup->(∀z∈V,0<=z/\z<n2)->n2<=(V.length:Int)+n->(0<=x/\x<n2)->ZaW W P (λz=>z∉V) x y->gI P y<=gI P x+(n:Int)*1048576
 |0,V,x,y,hn,hv,hl,hx,h=>by
   have h1:=gj n2.toNat V hn (λz hz=>⟨(hv z hz).1,by have:=(hv z hz).2;omega⟩)
   have:=m7 (n:=n2.toNat) hn (λz hz=>⟨(hv z hz).1,by have:=(hv z hz).2;omega⟩) (by omega) hx.1 (by omega)
   exact absurd this (pB h).1
 |n+1,V,x,y,hn,hv,hl,hx,h=>by
   by_cases c:x=y
   · rw[c]
     have:(0:Int)<=((n+1:Nat):Int)*1048576:=by omega
     omega
   · obtain⟨w,a1,a2,a3,a4,a5⟩:=jW h c
     have hto:=hs.to w a1
     have ih:=pA hs n (x::V) (bF W w) y (List.nodup_cons.2 ⟨(pB h).1,hn⟩) (λz hz=>by
       rcases List.mem_cons.1 hz with q|q
       · rw[q];exact hx
       · exact hv z q) (by rw[List.length_cons];omega) hto (by
       have:(λz=>z∉x::V)=λz=>z∉V/\z≠x:=by
         funext z
         rw[List.mem_cons]
         simp only[not_or,eq_iff_iff]
         exact⟨λq=>⟨q.2,q.1⟩,λq=>⟨q.2,q.1⟩⟩
       rw[this];exact a5)
     have hc:=(hs.cs w a1).2.2
     unfold dr at a4
     rw[a2] at a4
     omega
theorem rq(hs:iP n2 W O)(s0:0<=s)(s1:s<n2)(h:ZpW W P s t)(hP:gI P s=0):gI P t<=n2*1048576:=by
  have:=pA (P:=P) hs n2.toNat [] s t .nil (λz hz=>by cases hz) (by simp;omega) ⟨s0,s1⟩ (by
    have:(λz:Int=>z∉([]:List Int))=λ_=>True:=by funext z;simp
    rw[this];exact pJ h)
  omega
theorem kh(hb:fj n2 s B M W O P)(hB:B=n2*1048576)(h:i6 n2 s M W O P far [])(hs:rp n2 s t P)(ht:0<=t/\t<n2)(hft:gI far t≠da):fj n2 s B M W O (cV P far (gI far t))/\rp n2 s t (cV P far (gI far t))/\ZpW W (cV P far (gI far t)) s t:=by
 obtain⟨a1,a2,a3,a4⟩:=oH hb h hs ht hft
 have hbd:=rq hb.sh hb.s0 hb.s1 a3 a2.s0
 refine⟨⟨hb.sh,⟨by rw[iG];exact hb.pt.pl,λv a b=>⟨a4 v a b,?_⟩,hb.pt.rm,a1⟩,hb.s0,hb.s1,hb.b0,hb.hM,hb.hb⟩,a2,a3⟩
 have:=a2.tt v a b
 omega
def fC(W:List bS)(P:List Int)(v:Int)(c:List Int×List Int)(w:Int):List Int×List Int:=
 if 0<bK W w/\gI c.1 (bF W w)<0/\dr W P v w=0 then(c.1.set (bF W w).toNat (gI c.1 v+1),c.2++[bF W w]) else c
def qZ(W:List bS)(O:List (List Int))(P:List Int)(v:Int)(c:List Int×List Int):List Int×List Int:=(gI O v).foldl (fC W P v) c
def kS(W:List bS)(O:List (List Int))(P:List Int):Nat->Nat->List Int×List Int->List Int×List Int
 |0,_,c=>c
 |f+1,i,c=>if(i:Int)<(c.2.length:Int) then kS W O P f (i+1) (qZ W O P (gI c.2 (i:Int)) c) else c
def sg(n2 s:Int):List Int×List Int:=((List.replicate n2.toNat (-1)).set s.toNat 0,[s])
def bv(n2 s:Int)(W:List bS)(O:List (List Int))(P:List Int):List Int×List Int:=kS W O P n2.toNat 0 (sg n2 s)
def rX(W:List bS)(P lv:List Int)(w:Int):Prop:=dC W w/\0<bK W w/\gI lv (bF W w)=gI lv (dg W w)+1/\dr W P (dg W w) w=0
structure qa(n2 s:Int)(W:List bS)(P lv qu:List Int):Prop where
 ll:(lv.length:Int)=n2
 qn:qu.Nodup
 qr:∀v∈qu,0<=v/\v<n2
 iff:∀v,0<=v->v<n2->(0<=gI lv v↔v∈qu)
 neg:∀v,0<=v->v<n2-> -1<=gI lv v
 s0:gI lv s=0
 sq:s∈qu
 at_:∀j:Nat,(j:Int)<qu.length->gI lv (gI qu (j:Int))<=(j:Int)
 par:∀v∈qu,v≠s->∃w,rX W P lv w/\bF W w=v/\dg W w∈qu
structure jP(n2 s:Int)(W:List bS)(O:List (List Int))(P:List Int)(R:List Int×List Int)(lv qu:List Int)(i:Nat):Prop where
 l:qa n2 s W P lv qu
 le:(i:Int)<=qu.length
 dn:∀j:Nat,j<i->∀w∈gI O (gI qu (j:Int)),0<bK W w->dr W P (gI qu (j:Int)) w=0->0<=gI lv (bF W w)
 g:kS W O P (n2.toNat-i) i (lv,qu)=R
structure iL(n2 s:Int)(W:List bS)(O:List (List Int))(P:List Int)(R:List Int×List Int)(lv qu:List Int)(i k:Nat)(v:Int):Prop where
 l:qa n2 s W P lv qu
 le:(i:Int)<qu.length
 hv:gI qu (i:Int)=v
 dn:∀j:Nat,j<i->∀w∈gI O (gI qu (j:Int)),0<bK W w->dr W P (gI qu (j:Int)) w=0->0<=gI lv (bF W w)
 row:∀m:Nat,m<k->(m:Int)<(gI O v).length->0<bK W (gI (gI O v) (m:Int))->dr W P v (gI (gI O v) (m:Int))=0->0<=gI lv (bF W (gI (gI O v) (m:Int)))
 g:kS W O P (n2.toNat-(i+1)) (i+1) (((gI O v).drop k).foldl (fC W P v) (lv,qu))=R
theorem qa.ql(h:qa n2 s W P lv qu)(n0:0<=n2):(qu.length:Int)<=n2:=by
 have:=gj n2.toNat qu h.qn (λz hz=>⟨(h.qr z hz).1,by have:=(h.qr z hz).2;omega⟩)
 omega
theorem qa.top(h:qa n2 s W P lv qu)(n0:0<=n2)(v0:0<=v)(v1:v<n2): -1<=gI lv v/\gI lv v<n2:=by
 refine⟨h.neg v v0 v1,?_⟩
 by_cases c:0<=gI lv v
 · have hm:=(h.iff v v0 v1).1 c
   obtain⟨j,hj,e⟩:=List.mem_iff_getElem.1 hm
   have e4:∀(L:List Int) (j:Nat) (hj:j<L.length),gI L (j:Int)=L[j]:=λL j hj=>by simp[gI,hj]
   have:=h.at_ j (by omega)
   rw[e4 qu j hj,e] at this
   have:=h.ql n0
   omega
 · omega
theorem kt(s0:0<=s)(s1:s<n2):jP n2 s W O P (bv n2 s W O P) ((List.replicate n2.toNat (-1)).set s.toNat 0) [s] 0:=by
 have hs:∀v,0<=v->v<n2->gI ((List.replicate n2.toNat (-1:Int)).set s.toNat 0) v=if v=s then 0 else-1:=λv a b=>by
   rw[ct s0 (by simp;omega) a,dz a (by omega)]
 refine⟨⟨by simp;omega,by simp,λv hv=>by rw[List.mem_singleton.1 hv];exact⟨s0,s1⟩,λv a b=>?_,λv a b=>by rw[hs v a b];split<;>omega,by rw[hs s s0 s1,if_pos rfl],by simp,λj hj=>?_,λv hv hne=>absurd (List.mem_singleton.1 hv) hne⟩,by omega,λj hj=>by omega,rfl⟩
 · rw[hs v a b,List.mem_singleton]
   by_cases c:v=s
   · rw[if_pos c];exact⟨λ_=>c,λ_=>by omega⟩
   · rw[if_neg c];exact⟨λq=>by omega,λq=>absurd q c⟩
 · have:j=0:=by simp at hj;omega
   subst this
   have e:gI [s] ((0:Nat):Int)=s:=rfl
   rw[e,hs s s0 s1,if_pos rfl];omega
theorem jP.row{R:List Int×List Int}(h:jP n2 s W O P R lv qu i)(hi:(i:Int)<qu.length)(n0:0<=n2):iL n2 s W O P R lv qu i 0 (gI qu (i:Int)):=by
 have hql:=h.l.ql n0
 refine⟨h.l,hi,rfl,h.dn,λm hm=>by omega,?_⟩
 have hg:=h.g
 obtain⟨f,hf⟩:∃f,n2.toNat-i=f+1:=⟨n2.toNat-i-1,by omega⟩
 rw[hf] at hg
 unfold kS at hg
 rw[if_pos hi] at hg
 rw[show n2.toNat-(i+1)=f by omega,List.drop_zero]
 exact hg
theorem iL.no{R:List Int×List Int}(h:iL n2 s W O P R lv qu i k v)(hk:(k:Int)<(gI O v).length)(hn:¬(0<bK W (gI (gI O v) (k:Int))/\gI lv (bF W (gI (gI O v) (k:Int)))<0/\dr W P v (gI (gI O v) (k:Int))=0)):iL n2 s W O P R lv qu i (k+1) v:=by
 refine⟨h.l,h.le,h.hv,h.dn,λm hm hl hr hz=>?_,?_⟩
 · by_cases c:m=k
   · subst c
     exact Int.not_lt.1 λj=>hn ⟨hr,j,hz⟩
   · exact h.row m (by omega) hl hr hz
 · have hg:=h.g
   rw[eW hk,List.foldl_cons] at hg
   have e:fC W P v (lv,qu) (gI (gI O v) (k:Int))=(lv,qu):=by unfold fC;rw[if_neg hn]
   rwa[e] at hg
theorem iL.yes{R:List Int×List Int}(hs:iP n2 W O)(h:iL n2 s W O P R lv qu i k v)(hk:(k:Int)<(gI O v).length)(hr:0<bK W (gI (gI O v) (k:Int)))(hlt:gI lv (bF W (gI (gI O v) (k:Int)))<0)(hz:dr W P v (gI (gI O v) (k:Int))=0){nv tv:Int}(hnv:nv=gI lv v+1)(htv:tv=bF W (gI (gI O v) (k:Int))):iL n2 s W O P R (lv.set tv.toNat nv) (qu++[tv]) i (k+1) v:=by
 have hvq:v∈qu:=by rw[<-h.hv];exact bk (by omega) h.le
 obtain⟨v0,v1⟩:=h.l.qr v hvq
 obtain⟨hw,hfr⟩:=hs.row v v0 v1 _ (bk (xs:=gI O v) (i:=(k:Int)) (by omega) hk)
 have hg0:=h.g
 rw[eW hk,List.foldl_cons] at hg0
 have hrow:=h.row
 generalize hwe:gI (gI O v) (k:Int)=w at*
 subst htv hnv
 obtain⟨t0,t1⟩:=hs.to w hw
 have hll:=h.l.ll
 have hle:=h.le
 have hlv:0<=gI lv v:=(h.l.iff v v0 v1).2 hvq
 have hnq:bF W w∉qu:=λq=>by have:=(h.l.iff _ t0 t1).2 q;omega
 have hset:∀u,0<=u->gI (lv.set (bF W w).toNat (gI lv v+1)) u=if u=bF W w then gI lv v+1 else gI lv u:=λu a=>ct t0 (by omega) a
 have hne:∀u∈qu,u≠bF W w:=λu hu e=>hnq (by rw[<-e];exact hu)
 have hold:∀u∈qu,gI (lv.set (bF W w).toNat (gI lv v+1)) u=gI lv u:=λu hu=>by rw[hset u (h.l.qr u hu).1,if_neg (hne u hu)]
 have hmono:∀u,0<=u->0<=gI lv u->0<=gI (lv.set (bF W w).toNat (gI lv v+1)) u:=λu a b=>by rw[hset u a];split<;>omega
 have hqj:∀j:Nat,(j:Int)<qu.length->gI (qu++[bF W w]) (j:Int)=gI qu (j:Int):=λj hj=>ju hj (by omega)
 have hvi:(i:Int)=(i:Int):=rfl
 have hlvi:gI lv v<=(i:Int):=by have:=h.l.at_ i hle;rwa[h.hv] at this
 refine⟨⟨by rw[List.length_set];exact hll,?_,λu hu=>?_,λu a b=>?_,λu a b=>?_,by rw[hold s h.l.sq];exact h.l.s0,List.mem_append_left _ h.l.sq,λj hj=>?_,λu hu hus=>?_⟩,by rw[List.length_append,List.length_singleton];omega,by rw[hqj i hle];exact h.hv,λj hj w' hw' hr' hz'=>?_,λm hm hl hr' hz'=>?_,?_⟩
 · rw[List.nodup_append]
   exact⟨h.l.qn,by simp,λa ha b hb e=>hne a ha (by rw[e,List.mem_singleton.1 hb])⟩
 · rcases List.mem_append.1 hu with q|q
   · exact h.l.qr u q
   · rw[List.mem_singleton.1 q];exact⟨t0,t1⟩
 · rw[hset u a,List.mem_append,List.mem_singleton]
   by_cases c:u=bF W w
   · rw[if_pos c];exact⟨λ_=>.inr c,λ_=>by omega⟩
   · rw[if_neg c,h.l.iff u a b];exact⟨λq=>.inl q,λq=>q.resolve_right c⟩
 · rw[hset u a]
   have:=h.l.neg u a b
   split<;>omega
 · rw[List.length_append,List.length_singleton] at hj
   by_cases c:(j:Int)<qu.length
   · rw[hqj j c,hold _ (bk (by omega) c)];exact h.l.at_ j c
   · have e:(j:Int)=(qu.length:Int):=by omega
     rw[e,l7,hset _ t0,if_pos rfl]
     omega
 · rcases List.mem_append.1 hu with q|q
   · obtain⟨w',⟨a1,a2,a3,a4⟩,b,c⟩:=h.l.par u q hus
     refine⟨w',⟨a1,a2,?_,a4⟩,b,List.mem_append_left _ c⟩
     rw[b] at a3 ⊢
     rw[hold u q,hold _ c];exact a3
   · rw[List.mem_singleton.1 q]
     refine⟨w,⟨hw,hr,?_,by rw[hfr];exact hz⟩,rfl,by rw[hfr];exact List.mem_append_left _ hvq⟩
     rw[hfr,hold v hvq,hset _ t0,if_pos rfl]
 · have hjl:(j:Int)<qu.length:=by omega
   rw[hqj j hjl] at hw' hz'
   have hr2:=h.l.qr _ (bk (xs:=qu) (i:=(j:Int)) (by omega) hjl)
   exact hmono _ (hs.to w' (hs.row _ hr2.1 hr2.2 w' hw').1).1 (h.dn j hj w' hw' hr' hz')
 · by_cases c:m=k
   · rw[c,hwe] at*
     rw[hset _ t0,if_pos rfl];omega
   · exact hmono _ (hs.to _ (hs.row v v0 v1 _ (bk (xs:=gI O v) (i:=(m:Int)) (by omega) hl)).1).1 (hrow m (by omega) hl hr' hz')
 · have e:fC W P v (lv,qu) w=(lv.set (bF W w).toNat (gI lv v+1),qu++[bF W w]):=by unfold fC;rw[if_pos ⟨hr,hlt,hz⟩]
   rwa[e] at hg0
theorem iL.done{R:List Int×List Int}(h:iL n2 s W O P R lv qu i k v)(hk:¬(k:Int)<(gI O v).length):jP n2 s W O P R lv qu (i+1):=by
 refine⟨h.l,by have:=h.le;omega,λj hj w hw hr hz=>?_,?_⟩
 · by_cases c:j=i
   · subst c
     rw[h.hv] at hw hz
     obtain⟨m,hm,e⟩:=List.mem_iff_getElem.1 hw
     have e4:∀(L:List Int) (j:Nat) (hj:j<L.length),gI L (j:Int)=L[j]:=λL j hj=>by simp[gI,hj]
     have:=h.row m (by omega) (by omega)
     rw[e4 _ m hm,e] at this
     exact this hr hz
   · exact h.dn j (by omega) w hw hr hz
 · have hg:=h.g
   rw[List.drop_eq_nil_of_le (by omega)] at hg
   exact hg
theorem jP.fin{R:List Int×List Int}(h:jP n2 s W O P R lv qu i)(hi:¬(i:Int)<qu.length):lv=R.1:=by
 have hg:=h.g
 have e:∀f,kS W O P f i (lv,qu)=(lv,qu):=λf=>by
   cases f with
   |zero=>rfl
   |succ f=>unfold kS;rw[if_neg hi]
 rw[e] at hg
 rw[<-hg]
structure pF(n2 s:Int)(W:List bS)(P lv:List Int):Prop where
  l:∃qu,qa n2 s W P lv qu
  cl:∀w,dC W w->0<=gI lv (dg W w)->0<bK W w->dr W P (dg W w) w=0->0<=gI lv (bF W w)
theorem jP.end_{R:List Int×List Int}(hs:iP n2 W O)(h:jP n2 s W O P R lv qu i)(hi:¬(i:Int)<qu.length):pF n2 s W P lv:=by
 refine⟨⟨qu,h.l⟩,λw hw hf hr hz=>?_⟩
 have hfr:=hs.fr hw
 have hm:=(h.l.iff _ hfr.1 hfr.2).1 hf
 obtain⟨j,hj,e⟩:=List.mem_iff_getElem.1 hm
 have e4:∀(L:List Int) (j:Nat) (hj:j<L.length),gI L (j:Int)=L[j]:=λL j hj=>by simp[gI,hj]
 have ej:gI qu (j:Int)=dg W w:=by rw[e4 _ j hj,e]
 have:=h.dn j (by omega) w (by rw[ej];exact hs.all w hw) hr (by rw[ej];exact hz)
 exact this
theorem py(h:pF n2 s W P lv)(hz:ZpW W P s v):0<=gI lv v:=by
 induction hz with
 |nil=>obtain⟨qu,hq⟩:=h.l;rw[hq.s0];exact Int.le_refl _
 |step _ b c d ih=>exact h.cl _ b ih c d
end TL
/-
  TlFlo4: what is pushed from a node to the sink, over levels.
  By an AI agent.
-/
set_option linter.all false
namespace TL
variable{n2 s t v u w x y d B M k n most:Int}{W W' W0 W1:List bS}{O:List (List Int)}{P P' lv nx nx':List Int}{m f i:Nat}
def di(W:List bS)(l:List Int):Int:=(l.map (bK W)).sum
def du(W:List bS)(w k:Int):List bS:=
  (W.set w.toNat (bF W w,bK W w-k,eZ W w)).set (c6 w).toNat (bF (W.set w.toNat (bF W w,bK W w-k,eZ W w)) (c6 w),bK (W.set w.toNat (bF W w,bK W w-k,eZ W w)) (c6 w)+k,eZ (W.set w.toNat (bF W w,bK W w-k,eZ W w)) (c6 w))
theorem eJ(hs:iP n2 W O)(hw:dC W w)(x0:0<=x):bF (du W w k) x=bF W x/\eZ (du W w k) x=eZ W x/\bK (du W w k) x=(if x=c6 w then bK W x+k else if x=w then bK W x-k else bK W x):=by
 have ht:=hs.tw hw
 obtain⟨p1,p2,p3,p4⟩:=dV (w:=w) hw.1
 have h0:=hw.1
 have h1:=hw.2
 have t0:=ht.1
 have t1:=ht.2
 have e1:∀y,0<=y->gI (W.set w.toNat (bF W w,bK W w-k,eZ W w)) y=if y=w then(bF W w,bK W w-k,eZ W w) else gI W y:=λy a=>ct h0 h1 a
 have e2:gI (du W w k) x=if x=c6 w then(bF (W.set w.toNat (bF W w,bK W w-k,eZ W w)) (c6 w),bK (W.set w.toNat (bF W w,bK W w-k,eZ W w)) (c6 w)+k,eZ (W.set w.toNat (bF W w,bK W w-k,eZ W w)) (c6 w)) else gI (W.set w.toNat (bF W w,bK W w-k,eZ W w)) x:=by
   unfold du
   exact ct t0 (by rw[List.length_set];exact t1) x0
 have e3:=e1 (c6 w) t0
 rw[if_neg p3] at e3
 have q1:bF (du W w k) x=(gI (du W w k) x).1:=rfl
 have q2:eZ (du W w k) x=(gI (du W w k) x).2.2:=rfl
 have q3:bK (du W w k) x=(gI (du W w k) x).2.1:=rfl
 rw[q1,q2,q3,e2]
 by_cases c:x=c6 w
 · rw[if_pos c,if_pos c]
   have r1:bF (W.set w.toNat (bF W w,bK W w-k,eZ W w)) (c6 w)=bF W (c6 w):=congrArg Prod.fst e3
   have r2:eZ (W.set w.toNat (bF W w,bK W w-k,eZ W w)) (c6 w)=eZ W (c6 w):=congrArg (λz=>z.2.2) e3
   have r3:bK (W.set w.toNat (bF W w,bK W w-k,eZ W w)) (c6 w)=bK W (c6 w):=congrArg (λz=>z.2.1) e3
   rw[r1,r2,r3,c]
   exact⟨rfl,rfl,rfl⟩
 · rw[if_neg c,if_neg c,e1 x x0]
   by_cases e:x=w
   · rw[if_pos e,if_pos e,e];exact⟨rfl,rfl,rfl⟩
   · rw[if_neg e,if_neg e];exact⟨rfl,rfl,rfl⟩
theorem oS:(du W w k).length=W.length:=by unfold du;simp
structure kA(W W':List bS):Prop where
  ln:W'.length=W.length
  to:∀w,0<=w->bF W' w=bF W w
  cs:∀w,0<=w->eZ W' w=eZ W w
  rm:∀w,dC W w->bK W' w+bK W' (c6 w)=bK W w+bK W (c6 w)
theorem kA.refl(W:List bS):kA W W:=⟨rfl,λ_ _=>rfl,λ_ _=>rfl,λ_ _=>rfl⟩
theorem kA.inn(h:kA W W'):dC W' w↔dC W w:=by unfold dC;rw[h.ln]
theorem kA.trans{W2:List bS}(h:kA W W')(h2:kA W' W2):kA W W2:=⟨h2.ln.trans h.ln,λw a=>(h2.to w a).trans (h.to w a),λw a=>(h2.cs w a).trans (h.cs w a),λw a=>(h2.rm w (h.inn.2 a)).trans (h.rm w a)⟩
theorem kA.fr(h:kA W W')(h0:0<=w):dg W' w=dg W w:=h.to _ (dV h0).2.1
theorem kA.rd(h:kA W W')(h0:0<=w):dr W' P v w=dr W P v w:=by unfold dr;rw[h.to w h0,h.cs w h0]
theorem kA.sh(hs:iP n2 W O)(h:kA W W'):iP n2 W' O:=by
 refine⟨by rw[h.ln];exact hs.ev,hs.ol,λw hw=>by rw[h.to w hw.1];exact hs.to w (h.inn.1 hw),λv a b w hw=>?_,λw hw=>by rw[h.fr hw.1];exact hs.all w (h.inn.1 hw),hs.nd,λw hw=>?_,by rw[h.ln];exact hs.len⟩
 · obtain⟨p,q⟩:=hs.row v a b w hw
   exact⟨h.inn.2 p,by rw[h.fr p.1];exact q⟩
 · have:=h.inn.1 hw
   rw[h.cs w hw.1,h.cs _ (dV hw.1).2.1]
   exact hs.cs w this
theorem pQ(hs:iP n2 W O)(hw:dC W w):kA W (du W w k):=by
 refine⟨oS,λx a=>(eJ hs hw a).1,λx a=>(eJ hs hw a).2.1,λx hx=>?_⟩
 have hx2:=hs.tw hx
 obtain⟨p1,p2,p3,p4⟩:=dV (w:=w) hw.1
 obtain⟨q1,q2,q3,q4⟩:=dV (w:=x) hx.1
 rw[(eJ hs hw hx.1).2.2,(eJ hs hw hx2.1).2.2]
 by_cases c:x=c6 w
 · have:c6 x=w:=by rw[c,p1]
   rw[if_pos c,this,if_neg (λj=>p3 j.symm),if_pos rfl];omega
 · rw[if_neg c]
   have h1:¬c6 x=w:=λj=>c (by rw[<-j,q1])
   by_cases e:x=w
   · rw[if_pos e,e,if_pos rfl];omega
   · rw[if_neg e,if_neg h1]
     have h2:¬c6 x=c6 w:=λj=>e (by rw[<-q1,j,p1])
     rw[if_neg h2]
theorem ja{l:List Int}(h:∀x∈l,bK W' x=bK W x):di W' l=di W l:=by
 unfold di
 rw[List.map_congr_left h]
theorem i9:∀(l:List Int),l.Nodup->w∈l->(∀x∈l,bK W' x=if x=w then bK W x+k else bK W x)->di W' l=di W l+k
 |[],_,hw,_=>by cases hw
 |a::l,hn,hw,h=>by
   obtain⟨n1,n2⟩:=List.nodup_cons.1 hn
   have ha:=h a (List.mem_cons_self ..)
   show bK W' a+di W' l=bK W a+di W l+k
   by_cases c:a=w
   · rw[if_pos c] at ha
     have:di W' l=di W l:=ja λx hx=>by rw[h x (List.mem_cons_of_mem _ hx),if_neg (λe=>n1 (by rw[c,<-e];exact hx))]
     omega
   · rw[if_neg c] at ha
     have hw':w∈l:=(List.mem_cons.1 hw).resolve_left λe=>c e.symm
     have:=i9 l n2 hw' λx hx=>h x (List.mem_cons_of_mem _ hx)
     omega
theorem oB(hs:iP n2 W O)(hw:dC W w)(hne:dg W w≠bF W w)(u0:0<=u)(u1:u<n2):di (du W w k) (gI O u)=di W (gI O u)-(if u=dg W w then k else 0)+(if u=bF W w then k else 0):=by
 have hrow:=hs.row u u0 u1
 obtain⟨p1,p2,p3,p4⟩:=dV (w:=w) hw.1
 have hat:∀x∈gI O u,bK (du W w k) x=(if x=c6 w then bK W x+k else if x=w then bK W x-k else bK W x):=λx hx=>(eJ hs hw (hrow x hx).1.1).2.2
 by_cases c:u=dg W w
 · have c2:¬u=bF W w:=λe=>hne (by rw[<-c,e])
   rw[if_pos c,if_neg c2]
   have hm:w∈gI O u:=by rw[c];exact hs.all w hw
   have:=i9 (W':=du W w k) (W:=W) (k:= -k) (gI O u) (hs.nd u u0 u1) hm λx hx=>by
     rw[hat x hx]
     have:¬x=c6 w:=λe=>c2 (by
       have:=(hrow x hx).2
       rw[e,iy hw.1] at this
       exact this.symm)
     rw[if_neg this];split<;>omega
   omega
 · rw[if_neg c]
   by_cases c2:u=bF W w
   · rw[if_pos c2]
     have hm:c6 w∈gI O u:=by
       have:=hs.all _ (hs.tw hw)
       rw[iy hw.1] at this
       rw[c2];exact this
     have:=i9 (W':=du W w k) (W:=W) (k:=k) (gI O u) (hs.nd u u0 u1) hm λx hx=>by
       rw[hat x hx]
       have:¬x=w:=λe=>c (by
         have:=(hrow x hx).2
         rw[e] at this
         exact this.symm)
       rw[if_neg this]
     omega
   · rw[if_neg c2]
     have:=ja (W':=du W w k) (W:=W) (l:=gI O u) λx hx=>by
       rw[hat x hx]
       have h1:¬x=c6 w:=λe=>c2 (by
         have:=(hrow x hx).2
         rw[e,iy hw.1] at this
         exact this.symm)
       have h2:¬x=w:=λe=>c (by
         have:=(hrow x hx).2
         rw[e] at this
         exact this.symm)
       rw[if_neg h1,if_neg h2]
     omega
def cz(O:List (List Int))(P lv:List Int)(t:Int):Nat->Int->Int->List bS->List Int->Int×List bS×List Int
  |0,_,_,W,nx=>(0,W,nx)
  |f+1,v,most,W,nx=>
    if v=t then(most,W,nx)
    else if¬gI nx v<((gI O v).length:Int) then(0,W,nx)
    else if bK W (gI (gI O v) (gI nx v))=0\/¬gI lv (bF W (gI (gI O v) (gI nx v)))=gI lv v+1\/¬dr W P v (gI (gI O v) (gI nx v))=0 then cz O P lv t f v most W (nx.set v.toNat (gI nx v+1))
    else
      let r:=cz O P lv t f (bF W (gI (gI O v) (gI nx v))) (min most (bK W (gI (gI O v) (gI nx v)))) W nx
      if 0<r.1 then(r.1,du r.2.1 (gI (gI O v) (gI nx v)) r.1,r.2.2)
      else cz O P lv t f v most r.2.1 (r.2.2.set v.toNat (gI r.2.2 v+1))
structure qj(n2:Int)(O:List (List Int))(nx:List Int):Prop where
 nl:(nx.length:Int)=n2
 rg:∀v,0<=v->v<n2->0<=gI nx v/\gI nx v<=((gI O v).length:Int)
def ky(n2:Int)(O:List (List Int))(nx:List Int):Nat:=((dc n2.toNat).map λu=>((gI O u).length-(gI nx u).toNat)).sum
def ep(n2:Int)(O:List (List Int))(nx lv:List Int)(v:Int):Nat:=ky n2 O nx+(n2+1-gI lv v).toNat
theorem ij{l:List Int}{F G:Int->Nat}(h:∀x∈l,F x<=G x):(l.map F).sum<=(l.map G).sum:=by
 induction l with
 |nil=>simp
 |cons a l ih=>
   have:=h a (List.mem_cons_self ..)
   have:=ih λx hx=>h x (List.mem_cons_of_mem _ hx)
   simp only[List.map_cons,List.sum_cons];omega
theorem kW{l:List Int}{F G:Int->Nat}(h:∀x∈l,F x<=G x)(hv:v∈l)(hlt:F v<G v):(l.map F).sum<(l.map G).sum:=by
 induction l with
 |nil=>cases hv
 |cons a l ih=>
   have h1:=h a (List.mem_cons_self ..)
   have h2:∀x∈l,F x<=G x:=λx hx=>h x (List.mem_cons_of_mem _ hx)
   simp only[List.map_cons,List.sum_cons]
   rcases List.mem_cons.1 hv with q|q
   · rw[q] at hlt
     have:=ij h2
     omega
   · have:=ih h2 q
     omega
theorem ic(hn:qj n2 O nx)(h:∀u,0<=u->u<n2->gI nx u<=gI nx' u):ky n2 O nx'<=ky n2 O nx:=by
 refine ij λx hx=>?_
 obtain⟨a,b⟩:=iJ.1 hx
 have:=h x a (by omega)
 have:=hn.rg x a (by omega)
 omega
theorem eg(hn:qj n2 O nx)(v0:0<=v)(v1:v<n2)(hlt:gI nx v<((gI O v).length:Int)):qj n2 O (nx.set v.toNat (gI nx v+1))/\(∀u,0<=u->gI (nx.set v.toNat (gI nx v+1)) u=if u=v then gI nx v+1 else gI nx u)/\ky n2 O (nx.set v.toNat (gI nx v+1))<ky n2 O nx:=by
 have hl:=hn.nl
 have hs:∀u,0<=u->gI (nx.set v.toNat (gI nx v+1)) u=if u=v then gI nx v+1 else gI nx u:=λu a=>ct v0 (by omega) a
 have hv:=hn.rg v v0 v1
 refine⟨⟨by rw[List.length_set];exact hl,λu a b=>?_⟩,hs,?_⟩
 · rw[hs u a]
   have:=hn.rg u a b
   by_cases c:u=v
   · rw[if_pos c,c];omega
   · rw[if_neg c];exact this
 · refine kW (v:=v) (λx hx=>?_) (iJ.2 ⟨v0,by omega⟩) ?_
   · obtain⟨a,b⟩:=iJ.1 hx
     rw[hs x a]
     by_cases c:x=v
     · rw[if_pos c,c];omega
     · rw[if_neg c];exact Nat.le_refl _
   · rw[hs v v0,if_pos rfl];omega
structure ob(n2:Int)(W:List bS)(O:List (List Int))(lv nx:List Int):Prop where
  sh:iP n2 W O
  rm:∀w,dC W w->0<=bK W w
  nx:qj n2 O nx
  lv:∀v,0<=v->v<n2-> -1<=gI lv v/\gI lv v<n2
  rb:∀w,dC W w->bK W w+bK W (c6 w)<=1048576
structure qQ(n2 t v most:Int)(W:List bS)(O:List (List Int))(P lv nx:List Int)(r:Int×List bS×List Int):Prop where
  k0:0<=r.1
  k1:r.1<=most
  sm:kA W r.2.1
  rm:∀w,dC W w->0<=bK r.2.1 w
  nxi:qj n2 O r.2.2
  mn:∀u,0<=u->u<n2->gI nx u<=gI r.2.2 u
  sum:∀u,0<=u->u<n2->di r.2.1 (gI O u)=di W (gI O u)-(if u=v then r.1 else 0)+(if u=t then r.1 else 0)
  pos:∀w,dC W w->0<bK r.2.1 w->0<bK W w\/dr W P (dg W w) w=0
  loc:∀w,dC W w->(gI lv (dg W w)<gI lv v\/gI lv (bF W w)<gI lv v)->bK r.2.1 w=bK W w
  jn:∀u,0<=u->u<n2->gI lv u<gI lv v->gI r.2.2 u=gI nx u
  z:r.1=0->r.2.1=W
theorem hO:∀(f:Nat) (v:Int) (most:Int) (W:List bS) (nx:List Int),0<=most->ob n2 W O lv nx->0<=v->v<n2->qQ n2 t v most W O P lv nx (cz O P lv t f v most W nx)
 |0,v,most,W,nx,hm,h,v0,v1=>by
   unfold cz
   exact⟨Int.le_refl _,hm,.refl W,h.rm,h.nx,λ_ _ _=>Int.le_refl _,λu _ _=>by simp,λw _ q=>.inl q,λ_ _ _=>rfl,λ_ _ _ _=>rfl,λ_=>rfl⟩
 |f+1,v,most,W,nx,hm,h,v0,v1=>by
   unfold cz
   by_cases c1:v=t
   · rw[if_pos c1]
     refine⟨hm,Int.le_refl _,.refl W,h.rm,h.nx,λ_ _ _=>Int.le_refl _,λu _ _=>?_,λw _ q=>.inl q,λ_ _ _=>rfl,λ_ _ _ _=>rfl,λ_=>rfl⟩
     show di W (gI O u)=di W (gI O u)-(if u=v then most else 0)+(if u=t then most else 0)
     rw[c1];omega
   · rw[if_neg c1]
     by_cases c2:gI nx v<((gI O v).length:Int)
     · rw[if_neg (λj=>j c2)]
       obtain⟨n1,n2',n3⟩:=eg h.nx v0 v1 c2
       have hnr:=h.nx.rg v v0 v1
       obtain⟨hw,hfr⟩:=h.sh.row v v0 v1 _ (bk (xs:=gI O v) hnr.1 c2)
       by_cases c3:bK W (gI (gI O v) (gI nx v))=0\/¬gI lv (bF W (gI (gI O v) (gI nx v)))=gI lv v+1\/¬dr W P v (gI (gI O v) (gI nx v))=0
       · rw[if_pos c3]
         have ih:=hO f v most W _ hm ⟨h.sh,h.rm,n1,h.lv,h.rb⟩ v0 v1
         exact⟨ih.k0,ih.k1,ih.sm,ih.rm,ih.nxi,λu a b=>Int.le_trans (by rw[n2' u a];split<;>rename_i e<;>first|(rw[e];omega)|exact Int.le_refl _) (ih.mn u a b),ih.sum,ih.pos,ih.loc,λu a b q=>by rw[ih.jn u a b q,n2' u a,if_neg (λe=>by rw[e] at q;omega)],ih.z⟩
       · rw[if_neg c3]
         have e1:¬bK W (gI (gI O v) (gI nx v))=0:=λj=>c3 (.inl j)
         have e2:gI lv (bF W (gI (gI O v) (gI nx v)))=gI lv v+1:=Classical.byContradiction λj=>c3 (.inr (.inl j))
         have e3:dr W P v (gI (gI O v) (gI nx v))=0:=Classical.byContradiction λj=>c3 (.inr (.inr j))
         generalize gI (gI O v) (gI nx v)=w at*
         have hrw:=h.rm w hw
         have hto:=h.sh.to w hw
         have ih:=hO f (bF W w) (min most (bK W w)) W nx (by omega) h hto.1 hto.2
         simp only
         generalize cz O P lv t f (bF W w) (min most (bK W w)) W nx=r at ih
         have hr1:bK r.2.1 w=bK W w:=ih.loc w hw (.inl (by rw[hfr];omega))
         have hrt:bK r.2.1 (c6 w)=bK W (c6 w):=ih.loc _ (h.sh.tw hw) (.inr (by have:bF W (c6 w)=v:=hfr;rw[this];omega))
         by_cases c4:0<r.1
         · rw[if_pos c4]
           have hs':=ih.sm.sh h.sh
           have hw':=ih.sm.inn.2 hw
           have hk1:=ih.k1
           have hfr':dg r.2.1 w=v:=by rw[ih.sm.fr hw.1];exact hfr
           have hto':bF r.2.1 w=bF W w:=ih.sm.to w hw.1
           have hne:dg r.2.1 w≠bF r.2.1 w:=λe=>by rw[hfr',hto'] at e;rw[<-e] at e2;omega
           obtain⟨p1,p2,p3,p4⟩:=dV (w:=w) hw.1
           refine⟨ih.k0,by show r.1<=most;omega,ih.sm.trans (pQ hs' hw'),λx hx=>?_,ih.nxi,ih.mn,λu a b=>?_,λx hx hp=>?_,λx hx hl=>?_,λu a b q=>ih.jn u a b (by omega),λq=>by have:r.1=0:=q;omega⟩
           · show 0<=bK (du r.2.1 w r.1) x
             rw[(eJ hs' hw' hx.1).2.2]
             have:=ih.rm x hx
             by_cases d:x=c6 w
             · rw[if_pos d];omega
             · rw[if_neg d]
               by_cases e:x=w
               · rw[if_pos e,e,hr1];omega
               · rw[if_neg e];exact this
           · show di (du r.2.1 w r.1) (gI O u)=_
             rw[oB hs' hw' hne a b,ih.sum u a b,hfr',hto']
             show _=di W (gI O u)-(if u=v then r.1 else 0)+(if u=t then r.1 else 0)
             omega
           · have hp:0<bK (du r.2.1 w r.1) x:=hp
             rw[(eJ hs' hw' hx.1).2.2] at hp
             by_cases d:x=c6 w
             · right
               rw[d]
               have hcs:=(h.sh.cs w hw).1
               rw[iy hw.1]
               unfold dr at e3 ⊢
               have:bF W (c6 w)=v:=hfr
               rw[this];omega
             · rw[if_neg d] at hp
               by_cases e:x=w
               · left;rw[e];omega
               · rw[if_neg e] at hp
                 exact ih.pos x hx hp
           · show bK (du r.2.1 w r.1) x=bK W x
             rw[(eJ hs' hw' hx.1).2.2]
             have d:¬x=c6 w:=λd=>by
               rw[d,iy hw.1] at hl
               have:bF W (c6 w)=v:=hfr
               rw[this] at hl;omega
             have e:¬x=w:=λe=>by rw[e,hfr] at hl;omega
             rw[if_neg d,if_neg e]
             exact ih.loc x hx (by omega)
         · rw[if_neg c4]
           have hz:r.1=0:=by have:=ih.k0;omega
           have hW:=ih.z hz
           rw[hW]
           have hjv:gI r.2.2 v=gI nx v:=ih.jn v v0 v1 (by omega)
           obtain⟨m1,m2,m3⟩:=eg ih.nxi v0 v1 (by rw[hjv];exact c2)
           have ih2:=hO f v most W _ hm ⟨h.sh,h.rm,m1,h.lv,h.rb⟩ v0 v1
           exact⟨ih2.k0,ih2.k1,ih2.sm,ih2.rm,ih2.nxi,λu a b=>Int.le_trans (ih.mn u a b) (Int.le_trans (by rw[m2 u a];split<;>rename_i e<;>first|(rw[e];omega)|exact Int.le_refl _) (ih2.mn u a b)),ih2.sum,ih2.pos,ih2.loc,λu a b q=>by rw[ih2.jn u a b q,m2 u a,if_neg (λe=>by rw[e] at q;omega),ih.jn u a b (by omega)],ih2.z⟩
     · rw[if_pos c2]
       exact⟨Int.le_refl _,hm,.refl W,h.rm,h.nx,λ_ _ _=>Int.le_refl _,λu _ _=>by simp,λw _ q=>.inl q,λ_ _ _=>rfl,λ_ _ _ _=>rfl,λ_=>rfl⟩
end TL
/-
  TlFlo5: a push, step by step; the first push over levels sends something.
  By an AI agent.
-/
set_option linter.all false
namespace TL
variable{n2 s t v u w x y d B M k n most:Int}{W W' W0 W1:List bS}{O:List (List Int)}{P P' lv nx nx':List Int}{m f i:Nat}{R:Int×List bS×List Int}
theorem qQ.pui{r:Int×List bS×List Int}(h:ob n2 W O lv nx)(e:qQ n2 t v most W O P lv nx r):ob n2 r.2.1 O lv r.2.2:=by
 refine⟨e.sm.sh h.sh,λw hw=>e.rm w (e.sm.inn.1 hw),e.nxi,h.lv,λw hw=>?_⟩
 have:=e.sm.rm w (e.sm.inn.1 hw)
 have:=h.rb w (e.sm.inn.1 hw)
 omega
structure jA(n2 t v most:Int)(O:List (List Int))(P lv:List Int)(R:Int×List bS×List Int)(f:Nat)(W:List bS)(nx:List Int):Prop where
  i:ob n2 W O lv nx
  mu:ep n2 O nx lv v<=f
  v0:0<=v
  v1:v<n2
  m0:0<=most
  nt:v≠t
  g:cz O P lv t f v most W nx=R
theorem jA.pos(h:jA n2 t v most O P lv R f W nx):∃g,f=g+1:=by
 have:=h.mu
 have:=(h.i.lv v h.v0 h.v1).2
 unfold ep at*
 exact⟨f-1,by omega⟩
theorem jA.done(h:jA n2 t v most O P lv R f W nx)(hk:¬gI nx v<((gI O v).length:Int)):R=(0,W,nx):=by
 obtain⟨g,rfl⟩:=h.pos
 have hg:=h.g
 unfold cz at hg
 rw[if_neg h.nt,if_pos hk] at hg
 exact hg.symm
theorem jA.skip(h:jA n2 t v most O P lv R f W nx)(hk:gI nx v<((gI O v).length:Int))(hc:bK W (gI (gI O v) (gI nx v))=0\/¬gI lv (bF W (gI (gI O v) (gI nx v)))=gI lv v+1\/¬dr W P v (gI (gI O v) (gI nx v))=0):jA n2 t v most O P lv R (f-1) W (nx.set v.toNat (gI nx v+1))/\f-1<f:=by
 have hm:=h.mu
 obtain⟨g,rfl⟩:=h.pos
 have hg:=h.g
 unfold cz at hg
 rw[if_neg h.nt,if_neg (λj=>j hk),if_pos hc] at hg
 obtain⟨n1,n2',n3⟩:=eg h.i.nx h.v0 h.v1 hk
 refine⟨⟨⟨h.i.sh,h.i.rm,n1,h.i.lv,h.i.rb⟩,?_,h.v0,h.v1,h.m0,h.nt,hg⟩,by omega⟩
 unfold ep at*
 omega
theorem jA.way(h:jA n2 t v most O P lv R f W nx)(hk:gI nx v<((gI O v).length:Int)):dC W (gI (gI O v) (gI nx v))/\dg W (gI (gI O v) (gI nx v))=v:=h.i.sh.row v h.v0 h.v1 _ (bk (xs:=gI O v) (h.i.nx.rg v h.v0 h.v1).1 hk)
theorem jA.call(h:jA n2 t v most O P lv R f W nx)(hk:gI nx v<((gI O v).length:Int))(c2:gI lv (bF W (gI (gI O v) (gI nx v)))=gI lv v+1):ep n2 O nx lv (bF W (gI (gI O v) (gI nx v)))<=f-1/\f-1<f/\(0<=bF W (gI (gI O v) (gI nx v))/\bF W (gI (gI O v) (gI nx v))<n2)/\0<=min most (bK W (gI (gI O v) (gI nx v))):=by
 have hm:=h.mu
 obtain⟨hw,_⟩:=h.way hk
 have ht:=h.i.sh.to _ hw
 have h3:=h.i.rm _ hw
 have h4:=h.m0
 have h5:=(h.i.lv v h.v0 h.v1).2
 obtain⟨g,rfl⟩:=h.pos
 refine⟨?_,by omega,ht,by omega⟩
 unfold ep at*
 rw[c2]
 omega
theorem jA.rec_(h:jA n2 t v most O P lv R f W nx)(hk:gI nx v<((gI O v).length:Int))(c1:¬bK W (gI (gI O v) (gI nx v))=0)(c2:gI lv (bF W (gI (gI O v) (gI nx v)))=gI lv v+1)(c3:dr W P v (gI (gI O v) (gI nx v))=0){r:Int×List bS×List Int}(hr:r=cz O P lv t (f-1) (bF W (gI (gI O v) (gI nx v))) (min most (bK W (gI (gI O v) (gI nx v)))) W nx):qQ n2 t (bF W (gI (gI O v) (gI nx v))) (min most (bK W (gI (gI O v) (gI nx v)))) W O P lv nx r/\bK r.2.1 (gI (gI O v) (gI nx v))=bK W (gI (gI O v) (gI nx v))/\gI r.2.2 v=gI nx v/\(0<r.1->R=(r.1,du r.2.1 (gI (gI O v) (gI nx v)) r.1,r.2.2))/\(¬0<r.1->jA n2 t v most O P lv R (f-1) r.2.1 (r.2.2.set v.toNat (gI r.2.2 v+1))):=by
 obtain⟨q1,q2,q3,q4⟩:=h.call hk c2
 obtain⟨hw,hfr⟩:=h.way hk
 have hm:=h.mu
 obtain⟨g,rfl⟩:=h.pos
 have hg:=h.g
 unfold cz at hg
 rw[if_neg h.nt,if_neg (λj=>j hk),if_neg (λj=>by
   rcases j with j|j|j
   · exact c1 j
   · exact j c2
   · exact j c3)] at hg
 simp only[Nat.add_sub_cancel] at hr hg ⊢
 have ih:=hO (t:=t) (P:=P) g (bF W (gI (gI O v) (gI nx v))) (min most (bK W (gI (gI O v) (gI nx v)))) W nx q4 h.i q3.1 q3.2
 rw[<-hr] at hg ih
 generalize gI (gI O v) (gI nx v)=w at*
 have hr1:bK r.2.1 w=bK W w:=ih.loc w hw (.inl (by rw[hfr];omega))
 have hjv:gI r.2.2 v=gI nx v:=ih.jn v h.v0 h.v1 (by omega)
 refine⟨ih,hr1,hjv,λhp=>?_,λhp=>?_⟩
 · rw[if_pos hp] at hg
   exact hg.symm
 · rw[if_neg hp] at hg
   obtain⟨m1,m2,m3⟩:=eg ih.nxi h.v0 h.v1 (by rw[hjv];exact hk)
   have hi:=ih.pui h.i
   refine⟨⟨hi.sh,hi.rm,m1,hi.lv,hi.rb⟩,?_,h.v0,h.v1,h.m0,h.nt,hg⟩
   have:=ic h.i.nx ih.mn
   unfold ep at*
   omega
def rz(n2 t:Int)(W:List bS)(O:List (List Int))(P lv nx:List Int):Prop:=
 ∀u,0<=u->u<n2->∀j:Nat,(j:Int)<gI nx u->rX W P lv (gI (gI O u) (j:Int))->bF W (gI (gI O u) (j:Int))≠t/\gI nx (bF W (gI (gI O u) (j:Int)))=((gI O (bF W (gI (gI O u) (j:Int)))).length:Int)
theorem kG(h:ob n2 W O lv nx)(hd:rz n2 t W O P lv nx)(v0:0<=v)(v1:v<n2)(hlt:gI nx v<((gI O v).length:Int))(hn:rX W P lv (gI (gI O v) (gI nx v))->bF W (gI (gI O v) (gI nx v))≠t/\bF W (gI (gI O v) (gI nx v))≠v/\gI nx (bF W (gI (gI O v) (gI nx v)))=((gI O (bF W (gI (gI O v) (gI nx v)))).length:Int)):rz n2 t W O P lv (nx.set v.toNat (gI nx v+1)):=by
 obtain⟨_,hs,_⟩:=eg h.nx v0 v1 hlt
 intro u u0 u1 j hj ha
 rw[hs u u0] at hj
 have hrow:(j:Int)<((gI O u).length:Int):=by
   have:=(h.nx.rg u u0 u1).2
   by_cases c:u=v
   · rw[if_pos c] at hj;rw[c];omega
   · rw[if_neg c] at hj;omega
 have hw:=(h.sh.row u u0 u1 _ (bk (xs:=gI O u) (i:=(j:Int)) (by omega) hrow)).1
 have ht:=(h.sh.to _ hw).1
 rw[hs _ ht]
 by_cases c:u=v/\(j:Int)=gI nx v
 · obtain⟨rfl,e⟩:=c
   rw[e] at ha ⊢
   obtain⟨a1,a2,a3⟩:=hn ha
   rw[if_neg a2]
   exact⟨a1,a3⟩
 · obtain⟨a1,a2⟩:=hd u u0 u1 j (by
     by_cases e:u=v
     · rw[if_pos e] at hj
       have:¬(j:Int)=gI nx v:=λq=>c ⟨e,q⟩
       rw[e];omega
     · rw[if_neg e] at hj;exact hj) ha
   refine⟨a1,?_⟩
   rw[if_neg (λe=>by rw[e] at a2;omega)]
   exact a2
theorem hG:∀(f:Nat) (v most:Int) (nx:List Int),0<most->ob n2 W O lv nx->0<=v->v<n2->ep n2 O nx lv v<=f->rz n2 t W O P lv nx->(cz O P lv t f v most W nx).1=0->v≠t/\rz n2 t W O P lv (cz O P lv t f v most W nx).2.2/\gI (cz O P lv t f v most W nx).2.2 v=((gI O v).length:Int)
 |0,v,most,nx,hm,h,v0,v1,hmu,hd,hz=>by
   have:=(h.lv v v0 v1).2
   unfold ep at hmu
   omega
 |f+1,v,most,nx,hm,h,v0,v1,hmu,hd,hz=>by
   unfold cz at hz ⊢
   by_cases c1:v=t
   · rw[if_pos c1] at hz
     have:most=0:=hz
     omega
   · rw[if_neg c1] at hz ⊢
     by_cases c2:gI nx v<((gI O v).length:Int)
     · rw[if_neg (λj=>j c2)] at hz ⊢
       obtain⟨n1,n2',n3⟩:=eg h.nx v0 v1 c2
       have hnr:=h.nx.rg v v0 v1
       obtain⟨hw,hfr⟩:=h.sh.row v v0 v1 _ (bk (xs:=gI O v) hnr.1 c2)
       have hdn:=kG (P:=P) (t:=t) h hd v0 v1 c2
       by_cases c3:bK W (gI (gI O v) (gI nx v))=0\/¬gI lv (bF W (gI (gI O v) (gI nx v)))=gI lv v+1\/¬dr W P v (gI (gI O v) (gI nx v))=0
       · rw[if_pos c3] at hz ⊢
         refine hG f v most _ hm ⟨h.sh,h.rm,n1,h.lv,h.rb⟩ v0 v1 (by unfold ep at*;omega) (hdn λ⟨_,a,b,c⟩=>?_) hz
         rw[hfr] at b c
         rcases c3 with j|j|j
         · omega
         · exact absurd b j
         · exact absurd c j
       · rw[if_neg c3] at hz ⊢
         have e1:¬bK W (gI (gI O v) (gI nx v))=0:=λj=>c3 (.inl j)
         have e2:gI lv (bF W (gI (gI O v) (gI nx v)))=gI lv v+1:=Classical.byContradiction λj=>c3 (.inr (.inl j))
         generalize hwe:gI (gI O v) (gI nx v)=w at*
         have hrw:=h.rm w hw
         have hto:=h.sh.to w hw
         have hlv:=(h.lv v v0 v1).2
         have hq:ep n2 O nx lv (bF W w)<=f:=by unfold ep at*;rw[e2];omega
         have ih:=hO (t:=t) (P:=P) f (bF W w) (min most (bK W w)) W nx (by omega) h hto.1 hto.2
         have ihd:=hG f (bF W w) (min most (bK W w)) nx (by omega) h hto.1 hto.2 hq hd
         simp only at hz ⊢
         generalize cz O P lv t f (bF W w) (min most (bK W w)) W nx=r at*
         by_cases c4:0<r.1
         · rw[if_pos c4] at hz
           have:r.1=0:=hz
           omega
         · rw[if_neg c4] at hz ⊢
           have hz1:r.1=0:=by have:=ih.k0;omega
           have hW:=ih.z hz1
           obtain⟨d1,d2,d3⟩:=ihd hz1
           rw[hW] at hz ⊢
           have hjv:gI r.2.2 v=gI nx v:=ih.jn v v0 v1 (by omega)
           obtain⟨m1,m2,m3⟩:=eg ih.nxi v0 v1 (by rw[hjv];exact c2)
           have hi:ob n2 W O lv r.2.2:=⟨h.sh,h.rm,ih.nxi,h.lv,h.rb⟩
           have hrw2:w=gI (gI O v) (gI r.2.2 v):=by rw[hjv,hwe]
           have hd2:=kG (P:=P) (t:=t) hi d2 v0 v1 (by rw[hjv];exact c2) (by
             rw[<-hrw2]
             exact λ_=>⟨d1,λe=>by rw[e] at e2;omega,d3⟩)
           have:=ic h.nx ih.mn
           exact hG f v most _ hm ⟨h.sh,h.rm,m1,h.lv,h.rb⟩ v0 v1 (by unfold ep at*;omega) hd2 hz
     · rw[if_pos c2]
       refine⟨c1,hd,?_⟩
       have:=(h.nx.rg v v0 v1).2
       show gI nx v=_
       omega
def pu(n2:Int)(O:List (List Int))(P lv:List Int)(t v most:Int)(W:List bS)(nx:List Int):Int×List bS×List Int:=cz O P lv t (ep n2 O nx lv v) v most W nx
def fg(n2:Int):List Int:=List.replicate n2.toNat 0
theorem ra(n0:0<=n2):qj n2 O (fg n2):=⟨by unfold fg;simp;omega,λv a b=>by unfold fg;rw[dz a (by omega)];omega⟩
theorem mM(h:ob n2 W O lv (fg n2))(hl:pF n2 s W P lv)(s0:0<=s)(s1:s<n2)(hst:s≠t)(t0:0<=t)(t1:t<n2)(ht:0<=gI lv t)(hm:0<most):0<(pu n2 O P lv t s most W (fg n2)).1:=by
 have hok:=hO (t:=t) (P:=P) (ep n2 O (fg n2) lv s) s most W (fg n2) (by omega) h s0 s1
 refine Classical.byContradiction λhc=>?_
 have hz:(pu n2 O P lv t s most W (fg n2)).1=0:=by have:=hok.k0;unfold pu at hc ⊢;omega
 have hd0:rz n2 t W O P lv (fg n2):=λu a b j hj=>by
   unfold fg at hj
   rw[dz a (by omega)] at hj
   omega
 obtain⟨a1,a2,a3⟩:=hG _ s most _ hm h s0 s1 (Nat.le_refl _) hd0 hz
 obtain⟨qu,hq⟩:=hl.l
 have nI:∀(m:Nat) (u:Int),(gI lv u).toNat<=m->u∈qu->u≠t/\gI (cz O P lv t (ep n2 O (fg n2) lv s) s most W (fg n2)).2.2 u=((gI O u).length:Int):=by
   intro m
   induction m with
   |zero=>
     intro u hu hm
     by_cases c:u=s
     · rw[c];exact⟨hst,a3⟩
     · obtain⟨w,⟨b1,b2,b3,b4⟩,b5,b6⟩:=hq.par u hm c
       have hf:=hq.qr _ b6
       have:=(hq.iff _ hf.1 hf.2).2 b6
       rw[b5] at b3
       omega
   |succ m ih=>
     intro u hu hm
     by_cases c:u=s
     · rw[c];exact⟨hst,a3⟩
     · obtain⟨w,hA,b5,b6⟩:=hq.par u hm c
       have hA2:=hA
       obtain⟨b1,b2,b3,b4⟩:=hA2
       have hf:=hq.qr _ b6
       rw[b5] at b3
       obtain⟨i1,i2⟩:=ih _ (by omega) b6
       obtain⟨j,hj,e⟩:=List.mem_iff_getElem.1 (h.sh.all w b1)
       have e4:∀(L:List Int) (j:Nat) (hj:j<L.length),gI L (j:Int)=L[j]:=λL j hj=>by simp[gI,hj]
       have e5:gI (gI O (dg W w)) (j:Int)=w:=by rw[e4 _ j hj,e]
       have:=a2 _ hf.1 hf.2 j (by rw[i2];omega) (by rw[e5];exact hA)
       rw[e5,b5] at this
       exact this
 exact(nI _ t (Nat.le_refl _) ((hq.iff t t0 t1).1 ht)).1 rfl
end TL
