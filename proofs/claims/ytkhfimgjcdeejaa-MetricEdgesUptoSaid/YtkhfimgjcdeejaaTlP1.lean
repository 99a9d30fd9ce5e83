/- Plain texts of this claim, part 1. By an AI agent. -/
import Derived.Test.YtkhfimgjcdeejaaTlP0
import Derived.Carry
import Derived.Deep.Slices
import Derived.Laws.Externs
import Derived.Laws.FloatArith
import Derived.Laws.FloatBits
import Derived.Laws.NewFold
import Derived.Laws.StructEq
import Derived.Lib.SmallJoins
import Derived.OrdersHeld
import Derived.RowKit
/-
  TlHold: regions that draw their order, where what is read stays: on the kit's OrdersHeld.
  By an AI agent.
-/
set_option linter.all false
namespace TL
open Go
section
variable{P:Program}{n:Nat}{l:List Oper}{S:World->Prop}{K:Fr->World->Prop}{f:Fr}{w:World}{done:List Nat}{fuel:Nat}
def ja(P:Program)(n:Nat)(l:List Oper)(S:World->Prop)(K:Fr->World->Prop)(fuel:Nat)(done:List Nat)(f:Fr)(w:World):Prop:=
  ∀a,Ag n a f->wpAnyH P .any l.toArray (λe a' w'=>e= .normal/\∃f',Ag n a' f'/\K f' w') S fuel (br l.length done) a w
theorem aX.same{J:bS->Prop}{γ γ':aT}{w w':World}(h:aX J γ w γ' w'):aX J γ w γ w':=⟨h.os,h.tape,h.output,h.size,λ_ _ _=>rfl,h.keep,h.drawn⟩
theorem db{fid:Nat}{R:Ending->World->Prop}{k:List Item}{id:Nat}(γ:aT)(J:bS->Prop)(hm:P.follows .mixedOrders=true)
   (h:∀w1,aX no γ w γ w1->ja P n l (λw'=>aX J γ w1 γ w') (dr P fid n R k) l.length [] f w1):dr P fid n R (.code (.region id l.toArray true)::k) f w:=
 ep λa ha=>wp_region_held hm (by
   have h0:=h _ (aX.refl _ _ _).drew a ha
   have hmask:br l.length []=Array.replicate l.toArray.size false:=by
     apply Array.ext
     · simp[br]
     · intro j h1 h2;simp[br]
   rw[hmask] at h0
   simpa using h0)
theorem bZ{fid:Nat}{R:Ending->World->Prop}{k:List Item}{id:Nat}{σ:Type}(Mid:σ->Fr->World->Prop)(γ:aT)(J:bS->Prop)(hm:P.follows .mixedOrders=true)
    (h:(∀s f w,Mid s f w->dr P fid n R k f w)->∀w1,aX no γ w γ w1->ja P n l (λw'=>aX J γ w1 γ w') (dr P fid n R k) l.length [] f w1)(hk:∀s f w,Mid s f w->dr P fid n R k f w):dr P fid n R (.code (.region id l.toArray true)::k) f w:=
  db γ J hm (h hk)
variable{dst:Option Tmp}{op:Op}{ty:TypeId}{pos:String}{after:Array Edge}{g:Option (Nat×Bool)}{v:Value}
theorem mR(i:Nat)(hi:l[i]? =some ⟨dst,op,ty,pos,after,g⟩)(hn:dB l=true)(hc:(dg l done i&&ec l done i&&gi n ⟨dst,op,ty,pos,after,g⟩)=true)
   (hw:bR l ⟨dst,op,ty,pos,after,g⟩ f=true)(hS:S w)(h:∀w,S w->(execOp (ev f) ⟨dst,op,ty,pos,after,g⟩).run P w= .ok (.value v) w)(hk:ja P n l S K fuel (i::done) (dF f dst v) w):ja P n l S K (fuel+1) done f w:=by
 simp only[Bool.and_eq_true] at hc
 obtain⟨⟨hr,hf⟩,hd⟩:=hc
 obtain⟨hlt,hr'⟩:=d7 hr
 intro a ha
 refine wpAnyH_first (v:=v) (by simpa using hi) (dT hn) (λc a w h=>by cases h.1) fuel _ a w (dq hi hf) hr' (.inl ⟨by rw[ha.yielded];exact hw,λw hs=>by rw[ha.eval];exact h w hs⟩) hS ?_
 rw[c8 done hlt]
 exact hk _ (ha.put hd v)
def mp(P:Program)(n:Nat)(l:List Oper)(S:World->Prop)(K:Fr->World->Prop)(fuel:Nat)(done:List Nat)(f:Fr)(w:World)(i:Nat):Prop:=
  ∃o,l[i]? =some o/\i<l.length/\(bR l o f=true/\gi n o=true/\e5 P o f w (λv w'=>S w'/\ja P n l S K fuel (i::done) (dF f o.dst v) w'))
theorem bx(i:Nat)(hi:l[i]? =some ⟨dst,op,ty,pos,after,g⟩)(hc:gi n ⟨dst,op,ty,pos,after,g⟩=true)(hw:bR l ⟨dst,op,ty,pos,after,g⟩ f=true)
   (h:e5 P ⟨dst,op,ty,pos,after,g⟩ f w (λv w'=>S w'/\ja P n l S K fuel (i::done) (dF f dst v) w')):mp P n l S K fuel done f w i:=
 ⟨_,hi,(List.getElem?_eq_some_iff.1 hi).1,hw,hc,h⟩
def kW(P:Program)(n:Nat)(l:List Oper)(S:World->Prop)(K:Fr->World->Prop)(fuel:Nat)(done:List Nat)(f:Fr)(w:World):List Nat->Prop
 |[]=>True
 |i::r=>mp P n l S K fuel done f w i/\kW P n l S K fuel done f w r
theorem kW.mem{L:List Nat}(h:kW P n l S K fuel done f w L):∀i∈L,mp P n l S K fuel done f w i:=by
 induction L with
 |nil=>intro i hi;cases hi
 |cons j r ih=>
   intro i hi
   rcases List.mem_cons.1 hi with rfl|hi
   · exact h.1
   · exact ih h.2 i hi
theorem bt(i:Nat)(L:List Nat)(hr:decide (Region.ready .any l.toArray (br l.length done)=i::L)=true)(h:kW P n l S K fuel done f w (i::L)):ja P n l S K (fuel+1) done f w:=by
 have hr:=of_decide_eq_true hr
 intro a ha
 refine⟨λh0=>(by rw[hr] at h0;cases h0),λk hk=>?_⟩
 rw[hr] at hk
 obtain⟨o,hi,hlt,hw,hd,ho⟩:=h.mem k (by simpa using hk)
 obtain⟨dst,op,ty,pos,after,g⟩:=o
 refine dw ha hi hw ho λv w' hk=>⟨hk.1,?_⟩
 rw[c8 done hlt]
 exact hk.2 _ (ha.put hd v)
theorem av(i:Nat)(hi:l[i]? =some ⟨dst,op,ty,pos,after,g⟩)(hc:(decide (Region.ready .any l.toArray (br l.length done)=[i])&&gi n ⟨dst,op,ty,pos,after,g⟩)=true)
   (hw:bR l ⟨dst,op,ty,pos,after,g⟩ f=true)(h:e5 P ⟨dst,op,ty,pos,after,g⟩ f w (λv w'=>S w'/\ja P n l S K fuel (i::done) (dF f dst v) w')):ja P n l S K (fuel+1) done f w:=by
 simp only[Bool.and_eq_true] at hc
 exact bt i [] hc.1 ⟨bx i hi hc.2 hw h,trivial⟩
theorem bv(hr:decide (Region.ready .any l.toArray (br l.length done)=[])=true)(h:K f w):ja P n l S K 0 done f w:=λ_ ha=>⟨of_decide_eq_true hr,rfl,f,ha,h⟩
end
end TL
namespace TL
open Go
end TL
/-
  TlNet: nets, and what layer 3 says of them, as plain functions.
  By an AI agent.
-/
set_option linter.all false
namespace TL
abbrev dj:=Int×List (Int×Int)
def kV(n:Int)(e:Int×Int):Prop:=(0<=e.1/\e.1<n)/\0<=e.2/\e.2<n
instance (n:Int)(e:Int×Int):Decidable (kV n e):=by unfold kV;infer_instance
def du(g:dj):Prop:=0<=g.1/\g.1<=1024/\g.2.length<=3072/\∀e∈g.2,kV g.1 e
instance (g:dj):Decidable (du g):=by unfold du;infer_instance
def eb(g:dj):Bool:=decide (du g)
theorem jI{g:dj}(h:du g):eb g=true:=decide_eq_true h
theorem cM{g:dj}(h:¬du g):eb g=false:=decide_eq_false h
end TL
namespace TL
end TL
namespace TL
end TL
namespace TL
end TL
namespace TL
def lK(g:dj)(h:Int):Int:=pI (gI g.2 (h/2)) (h%2)
def na(g:dj)(v:Int)(k:Nat):List Int:=((List.range (2*k)).map (λ(i:Nat)=>(i:Int))).filter λh=>decide (lK g h=v)
def nO(g:dj)(v:Int):List Int:=na g v g.2.length
end TL
namespace TL
end TL
namespace TL
end TL
namespace TL
end TL
namespace TL
section
variable{l0 l1:Int}{F:Int×Int->Int}{g:dj}{k:Nat}
end
end TL
/-
  TlKeep: rows of an own list given away one by one while the list stays readable; rows with a mark behind each.
  By an AI agent.
-/
set_option linter.all false
namespace TL
open Go
section
variable{P:Program}{w:World}{t t':TypeId}{f:Fr}{x y:Operand}{dst:Option Tmp}{ty:TypeId}{pos:String}{after:Array Edge}{g:Option (Nat×Bool)}{N:Value->World->Prop}{α:Type}[Rp α]{γ:aT}{v u:Value}{xss:List (List α)}{l:List α}{i k j:Nat}
end
section
variable{α:Type}[Rp α][Fl α]{γ γ':aT}{w w':World}{v:Value}{us:List Vc}{xss:List (List α)}{i k j q:Nat}
end
inductive Rw where
  |mk (l:List Int) (m:Int)
  |pl (l:List Int)
instance:Inhabited Rw:=⟨.pl []⟩
theorem jL{α:Type}[Rp α]{γ:aT}{S:bS->Prop}{w:World}{v:Value}{xs:List α}{m:α}(h:Sl γ S w (nU v) (xs++[m])):∃a l c,v= .slice a l c:=by
 rcases h with⟨_,h0⟩|⟨b,off,cap,hv,_⟩
 · simp at h0
 · cases v<;>simp[nU] at hv
   exact⟨_,_,_,rfl⟩
def n2(γ:aT)(S:bS->Prop)(w:World)(v:Value):Rw->Prop
  | .mk l m=>Sl γ S w (nU v) (l++[m])
  | .pl l=>Sl γ S w v l
theorem n2.one{γ:aT}{S:bS->Prop}{w:World}{v:Value}{x:Rw}(h:n2 γ S w v x):v.oneCell'=true:=by
 cases x with
 |mk l m=>
   obtain⟨a,b,c,rfl⟩:=jL h
   rfl
 |pl l=>
   rcases h with⟨⟨_,rfl⟩,_⟩|⟨b,off,cap,rfl,_⟩<;>rfl
theorem n2.tr{γ γ':aT}{S S':bS->Prop}{w w':World}{v:Value}{x:Rw}(hsz:w.heap.size<=w'.heap.size)(h:∀b,b<w.heap.size->S (γ b)->w'.heap[b]? =w.heap[b]? /\S' (γ' b))(hx:n2 γ S w v x):n2 γ' S' w' v x:=by
 cases x with
 |mk l m=>exact Sl.tr h hx hsz
 |pl l=>exact Sl.tr h hx hsz
instance:Rp Rw where
 sz:=1
 rep γ S w cs x:=∃v,cs=[v]/\n2 γ S w v x
 len:=by rintro _ _ _ _ _ ⟨v,rfl,_⟩;rfl
 one:=by
   rintro _ _ _ _ _ ⟨v,rfl,h⟩ u hu
   obtain rfl:u=v:=by simpa using hu
   exact h.one
 tr:=by
   rintro _ _ _ _ _ _ _ _ hs h ⟨v,rfl,hv⟩
   exact⟨v,rfl,hv.tr hs h⟩
section
variable{P:Program}{w:World}{t t':TypeId}{f:Fr}{x y:Operand}{dst:Option Tmp}{ty:TypeId}{pos:String}{after:Array Edge}{g:Option (Nat×Bool)}{N:Value->World->Prop}{γ:aT}{v u:Value}{xss:List (List Int)}{l:List Int}{i:Nat}
end
end TL
/-
  TlEq: structs compared; a pointer looked at for nil; a bit turned.
  By an AI agent.
-/
set_option linter.all false
namespace TL
open Go
section
variable{P:Program}{f:Fr}{w:World}{dst:Option Tmp}{ty:TypeId}{pos:String}{after:Array Edge}{g:Option (Nat×Bool)}{t t' e:TypeId}{x y:Operand}
theorem ar{a:Addr}(hx:ev f x= .pointer (some a)):(execOp (ev f) ⟨dst,.nilCheck x,ty,pos,after,g⟩).run P w= .ok (.value (.pointer (some a))) w:=by
 simp only[execOp,hx,Sem.run_pure]
inductive EqV (P:Program) (t:TypeId):Value->Value->Bool->Prop
 |int {a b:Int} (h:P.underlying t=some (.int .i64)):EqV P t (.int .i64 a) (.int .i64 b) (decide (a=b))
 |bool {a b:Bool} (h:P.underlying t=some .bool):EqV P t (.bool a) (.bool b) (decide (a=b))
inductive EqF (P:Program) (xs ys:Array Value):List Field->List Bool->Prop
 |nil:EqF P xs ys [] []
 |cons {fd:Field} {fs:List Field} {bs:List Bool} {a b z:Value} {r:Bool} {size bytes:Nat} (hn:(fd.name != "_")=true) (he:Tp P fd.type false size bytes z) (ha:xs[fd.offset]? =some a) (hb:ys[fd.offset]? =some b) (hq:EqV P fd.type a b r) (hr:EqF P xs ys fs bs):EqF P xs ys (fd::fs) (r::bs)
theorem eL{xs ys:Array Value}{fs:List Field}{bs:List Bool}(h:EqF P xs ys fs bs)(d:Nat):(Op.eqFields (d+1) xs ys fs).run P w= .ok (bs.all id) w:=by
 induction h with
 |nil=>simp[Op.eqFields,Sem.run_pure]
 | @cons fd fs bs a b z r size bytes hn he ha hb hq hr ih=>
   have hn':fd.name≠ "_" :=by simpa using hn
   have h1:=fO (P:=P) (w:=w) he ha
   have h2:=fO (P:=P) (w:=w) he hb
   have h3:(Op.equalIn (d+1) fd.type a b).run P w= .ok r w:=by
     cases hq with
     |int h=>simp[Op.equalIn,bf h,Sem.run_pure];rfl
     |bool h=>simp[Op.equalIn,bf h,Sem.run_pure];rfl
   simp only[Op.eqFields,if_pos hn',Sem.run_bind,h1,h2,h3,Result.andThen_ok]
   cases r with
   |true=>simp[ih]
   |false=>simp[Sem.run_pure]
theorem gN{fs:Array Field}{xs ys:List Value}{bs:List Bool}{q:Bool}(ht:P.underlying t=some (.struct fs))(hp:P.stoodInHeld t=false)(hg:P.eqGuardType P.depth t=false)(hx:ev f x= .agg xs.toArray)(hy:ev f y= .agg ys.toArray)(h:EqF P xs.toArray ys.toArray fs.toList bs)(hq:bs.all id=q):
   (execOp (ev f) ⟨dst,.binOp .eql t x y t',ty,pos,after,g⟩).run P w= .ok (.value (.bool q)) w:=by
 have e1:P.fieldsOf t=fs:=by simp[Program.fieldsOf,ht]
 have hr:(Op.equal t (.agg xs.toArray) (.agg ys.toArray)).run P w= .ok q w:=by
   have:=run_equalIn_struct (P:=P) w 9999 t xs.toArray ys.toArray (by rw[e1];exact ht) hp
   rw[e1,eL h 9998,hq] at this
   exact this
 exact gb .eql hx hy (by simp[eqGuard,hg]) (by simp[binOp,hr])
end
end TL
namespace TL
open Go
section
variable{P:Program}{f:Fr}{w:World}{dst:Option Tmp}{ty:TypeId}{pos:String}{after:Array Edge}{g:Option (Nat×Bool)}{t:TypeId}{x:Operand}
end
end TL
namespace TL
open Go
section
variable{P:Program}{f:Fr}{w:World}{dst:Option Tmp}{ty:TypeId}{pos:String}{after:Array Edge}{g:Option (Nat×Bool)}{t t':TypeId}{x y:Operand}{m n:Int}
end
end TL
namespace TL
open Go
end TL
/-
  TlRot: rotations: which may be, turned to their least, faces.
  By an AI agent.
-/
set_option linter.all false
namespace TL
abbrev lH:=List (List Int)
def nk(g:dj)(r:lH):Prop:=(r.length:Int)=g.1/\(∀v:Nat,v<r.length->∀h∈gI r (v:Int),(0<=h/\h<2*(g.2.length:Int))/\lK g h=v)/\r.flatten.Nodup/\(r.flatten.length:Int)=2*g.2.length
instance (g:dj)(r:lH):Decidable (nk g r):=by unfold nk;infer_instance
section
variable{seen:List Bool}{n:Int}{g:dj}{r:lH}{k i:Nat}
end
end TL
namespace TL
end TL
/-
  TlShort: short names for the commonest steps (used by packed claims only).
  By an AI agent.
-/
set_option linter.all false
namespace TL
open Go
abbrev vi(x:Int):Value:=Value.int .i64 x
abbrev vp(b o:Nat):Value:=Value.pointer (some ⟨b,o,none⟩)
abbrev vn:Value:=Value.slice none 0 0
abbrev vt(l:List Value):Value:=Value.tuple (List.toArray l)
abbrev vg(l:List Value):Value:=Value.agg (List.toArray l)
theorem cg(L:List Nat){γ γ':aT}{w w':World}(h:aX (inl L) γ w γ' w'):aX (inl L) γ w γ' w':=h
theorem dt{p:Prop}[Decidable p](h:p):decide p=true:=decide_eq_true h
theorem df{p:Prop}[Decidable p](h:¬p):decide p=false:=decide_eq_false h
section
variable{P:Program}{all rest:List Oper}{K:Fr->World->Prop}{f:Fr}{w w':World}{x:Operand}
variable{dst:Option Tmp}{op:Op}{ty:TypeId}{pos:String}{after:Array Edge}{g:Option (Nat×Bool)}{o:Oper}
theorem lv(v:Value)(hw:bR all ⟨dst,op,ty,pos,after,g⟩ f=true)(h:(execOp (ev f) ⟨dst,op,ty,pos,after,g⟩).run P w= .ok (.value v) w')(hk:et P all rest K (dF f dst v) w'):et P all (⟨dst,op,ty,pos,after,g⟩::rest) K f w:=fk hw h hk
theorem lx{v:Value}(h:(execOp (ev f) ⟨dst,op,ty,pos,after,none⟩).run P w= .ok (.value v) w')(hk:et P all rest K (dF f dst v) w'):et P all (⟨dst,op,ty,pos,after,none⟩::rest) K f w:=fk rfl h hk
theorem lw(v:Value)(h:(execOp (ev f) ⟨dst,op,ty,pos,after,none⟩).run P w= .ok (.value v) w')(hk:et P all rest K (dF f dst v) w'):et P all (⟨dst,op,ty,pos,after,none⟩::rest) K f w:=fk rfl h hk
theorem mv(v:Value)(hk:et P all rest K (dF f dst v) w)(h:ev f x=v:=by exact rfl):et P all (⟨dst,.move x,ty,pos,after,none⟩::rest) K f w:=fk rfl (aW h) hk
theorem ma(v:Value)(hk:et P all rest K (dF f dst v) w)(h:ev f x=v:=by exact rfl):et P all (⟨dst,.assign x,ty,pos,after,none⟩::rest) K f w:=fk rfl (dH h) hk
theorem mi(v:Int)(hk:et P all rest K (dF f dst (.int .i64 v)) w)(h:ev f x= .int .i64 v:=by exact rfl):et P all (⟨dst,.move x,ty,pos,after,none⟩::rest) K f w:=fk rfl (aW h) hk
theorem ai(v:Int)(hk:et P all rest K (dF f dst (.int .i64 v)) w)(h:ev f x= .int .i64 v:=by exact rfl):et P all (⟨dst,.assign x,ty,pos,after,none⟩::rest) K f w:=fk rfl (dH h) hk
theorem mz{v:Value}(h:ev f x=v)(hk:et P all rest K (dF f dst v) w):et P all (⟨dst,.move x,ty,pos,after,none⟩::rest) K f w:=fk rfl (aW h) hk
theorem lo(h:e5 P ⟨dst,op,ty,pos,after,none⟩ f w (λv w'=>et P all rest K (dF f dst v) w')):et P all (⟨dst,op,ty,pos,after,none⟩::rest) K f w:=cq rfl h
theorem wy{j:Nat}{x:Bool}{d:Nat}{b:Bool}(hx:b=x)(hg:o.guard=some (j,x):=by exact rfl)(hj:(all[j]?).bind (·.dst)=some d:=by exact rfl)(hb:f d= .bool b:=by exact rfl):bR all o f=true:=mH hg hj hb hx
theorem wn{j:Nat}{x:Bool}{d:Nat}{b:Bool}(hx:b= !x)(hg:o.guard=some (j,x):=by exact rfl)(hj:(all[j]?).bind (·.dst)=some d:=by exact rfl)(hb:f d= .bool b:=by exact rfl):bR all o f=false:=mc hg hj hb hx
variable{C:World->Prop}{KQ:Fr->Prop}
theorem qv(v:Value)(h:∀w,C w->(execOp (ev f) ⟨dst,op,ty,pos,after,none⟩).run P w= .ok (.value v) w)(hk:fD P all C rest KQ (dF f dst v)):fD P all C (⟨dst,op,ty,pos,after,none⟩::rest) KQ f:=c6 rfl h hk
theorem qx{v:Value}(h:∀w,C w->(execOp (ev f) ⟨dst,op,ty,pos,after,none⟩).run P w= .ok (.value v) w)(hk:fD P all C rest KQ (dF f dst v)):fD P all C (⟨dst,op,ty,pos,after,none⟩::rest) KQ f:=c6 rfl h hk
theorem qm(v:Value)(hk:fD P all C rest KQ (dF f dst v))(h:ev f x=v:=by exact rfl):fD P all C (⟨dst,.move x,ty,pos,after,none⟩::rest) KQ f:=c6 rfl (λ_ _=>aW h) hk
theorem qz{v:Value}(h:ev f x=v)(hk:fD P all C rest KQ (dF f dst v)):fD P all C (⟨dst,.move x,ty,pos,after,none⟩::rest) KQ f:=c6 rfl (λ_ _=>aW h) hk
end
section
variable{P:Program}{n:Nat}{l:List Oper}{S:World->Prop}{K:Fr->World->Prop}{f:Fr}{w:World}{done:List Nat}{fuel:Nat}{qs:List Nat}
variable{dst:Option Tmp}{op:Op}{ty:TypeId}{pos:String}{after:Array Edge}{g:Option (Nat×Bool)}{v:Value}
theorem ht(i:Nat)(hi:l[i]? =some ⟨dst,op,ty,pos,after,none⟩)(hS:S w)(h:∀w,S w->(execOp (ev f) ⟨dst,op,ty,pos,after,none⟩).run P w= .ok (.value v) w)(hk:ja P n l S K fuel (i::done) (dF f dst v) w)(hn:dB l=true:=by kernel_rfl)(hc:(dg l done i&&ec l done i&&gi n ⟨dst,op,ty,pos,after,none⟩)=true:=by kernel_rfl):ja P n l S K (fuel+1) done f w:=mR i hi hn hc rfl hS h hk
theorem xv(i:Nat)(M:List Nat)(hi:l[i]? =some ⟨dst,op,ty,pos,after,none⟩)(h:(execOp (ev f) ⟨dst,op,ty,pos,after,none⟩).run P w= .ok (.value v) w)(hk:gO P n l qs K fuel (i::done) (dF f dst v) w)(hn:dB l=true:=by kernel_rfl)(hc:(qs.contains i&&dg l done i&&ec l done i&&gW l qs done M i&&gi n ⟨dst,op,ty,pos,after,none⟩)=true:=by kernel_rfl):gO P n l qs K (fuel+1) done f w:=nw i M hi hn hc rfl h hk
theorem xh(i:Nat)(M:List Nat)(hi:l[i]? =some ⟨dst,op,ty,pos,after,none⟩)(h:∀w',cA w.heap.size w w'->(execOp (ev f) ⟨dst,op,ty,pos,after,none⟩).run P w'= .ok (.value v) w')(hk:gO P n l qs K fuel (i::done) (dF f dst v) w)(hn:dB l=true:=by kernel_rfl)(hc:(qs.contains i&&dg l done i&&ec l done i&&h7 l qs done M i&&gi n ⟨dst,op,ty,pos,after,none⟩)=true:=by kernel_rfl):gO P n l qs K (fuel+1) done f w:=my i M hi hn hc rfl h hk
theorem xp(i:Nat)(hi:l[i]? =some ⟨dst,op,ty,pos,after,none⟩)(h:∀w,(execOp (ev f) ⟨dst,op,ty,pos,after,none⟩).run P w= .ok (.value v) w)(hk:gO P n l qs K fuel (i::done) (dF f dst v) w)(hn:dB l=true:=by kernel_rfl)(hc:(qs.contains i&&dg l done i&&ec l done i&&gi n ⟨dst,op,ty,pos,after,none⟩)=true:=by kernel_rfl):gO P n l qs K (fuel+1) done f w:=mL i hi hn hc rfl h hk
end
section
variable{γ γ':aT}{w w':World}{v:Value}{j k:Nat}{L:List Nat}
theorem bu.ca{w0:World}(h:bu w0 γ w)(hc:aX (inl L) γ w γ' w')(hj:L.contains 0=false:=by exact rfl):bu w0 γ' w':=h.chg hc (bi hj)
theorem bu.ce{w0:World}(h:bu w0 γ w)(hc:aX (is k) γ w γ' w')(hj:Nat.beq 0 k=false:=by exact rfl):bu w0 γ' w':=h.chg hc (ea hj)
theorem bu.cn{w0:World}(h:bu w0 γ w)(hc:aX no γ w γ' w'):bu w0 γ' w':=h.chg hc (eD _)
theorem Bx.ca{b:Nat}{cs:List Value}(h:Bx γ (is j) w b cs)(hc:aX (inl L) γ w γ' w')(hj:L.contains j=false:=by exact rfl):Bx γ' (is j) w' b cs:=h.chg hc (bi hj)
theorem Bx.ce{b:Nat}{cs:List Value}(h:Bx γ (is j) w b cs)(hc:aX (is k) γ w γ' w')(hj:Nat.beq j k=false:=by exact rfl):Bx γ' (is j) w' b cs:=h.chg hc (ea hj)
theorem Bx.cn{J:bS->Prop}{b:Nat}{cs:List Value}(h:Bx γ J w b cs)(hc:aX no γ w γ' w'):Bx γ' J w' b cs:=h.chg hc (eD _)
theorem Sl.ca{α:Type}[Rp α]{xs:List α}(h:Sl γ (is j) w v xs)(hc:aX (inl L) γ w γ' w')(hj:L.contains j=false:=by exact rfl):Sl γ' (is j) w' v xs:=h.chg hc (bi hj)
theorem Sl.ce{α:Type}[Rp α]{xs:List α}(h:Sl γ (is j) w v xs)(hc:aX (is k) γ w γ' w')(hj:Nat.beq j k=false:=by exact rfl):Sl γ' (is j) w' v xs:=h.chg hc (ea hj)
theorem Sl.cn{α:Type}[Rp α]{S:bS->Prop}{xs:List α}(h:Sl γ S w v xs)(hc:aX no γ w γ' w'):Sl γ' S w' v xs:=h.chg hc (eD _)
theorem Ow.ca{α:Type}[Rp α]{xs:List α}(h:Ow γ (is j) (is j) w v xs)(hc:aX (inl L) γ w γ' w')(hj:L.contains j=false:=by exact rfl):Ow γ' (is j) (is j) w' v xs:=h.chg hc (bi hj) (bi hj)
theorem Ow.ce{α:Type}[Rp α]{xs:List α}(h:Ow γ (is j) (is j) w v xs)(hc:aX (is k) γ w γ' w')(hj:Nat.beq j k=false:=by exact rfl):Ow γ' (is j) (is j) w' v xs:=h.chg hc (ea hj) (ea hj)
theorem Ow.cn{α:Type}[Rp α]{J S:bS->Prop}{xs:List α}(h:Ow γ J S w v xs)(hc:aX no γ w γ' w'):Ow γ' J S w' v xs:=h.chg hc (eD _) (eD _)
theorem d8.ca{α:Type}[Rp α]{xs:List (List α)}(h:d8 γ j w v xs)(hc:aX (inl L) γ w γ' w')(hj:L.contains j=false:=by exact rfl):d8 γ' j w' v xs:=h.chg hc (bi hj)
theorem d8.ce{α:Type}[Rp α]{xs:List (List α)}(h:d8 γ j w v xs)(hc:aX (is k) γ w γ' w')(hj:Nat.beq j k=false:=by exact rfl):d8 γ' j w' v xs:=h.chg hc (ea hj)
theorem d8.cn{α:Type}[Rp α]{xs:List (List α)}(h:d8 γ j w v xs)(hc:aX no γ w γ' w'):d8 γ' j w' v xs:=h.chg hc (eD _)
theorem dC.ca{α:Type}[Rp α]{h0:Nat}{xs:List (List α)}(h:dC γ j h0 w v xs)(hc:aX (inl L) γ w γ' w')(hj:L.contains j=false:=by exact rfl):dC γ' j h0 w' v xs:=h.chg hc (bi hj)
theorem dC.ce{α:Type}[Rp α]{h0:Nat}{xs:List (List α)}(h:dC γ j h0 w v xs)(hc:aX (is k) γ w γ' w')(hj:Nat.beq j k=false:=by exact rfl):dC γ' j h0 w' v xs:=h.chg hc (ea hj)
theorem dC.cn{α:Type}[Rp α]{h0:Nat}{xs:List (List α)}(h:dC γ j h0 w v xs)(hc:aX no γ w γ' w'):dC γ' j h0 w' v xs:=h.chg hc (eD _)
def nL(δ g:aT)(w:World)(ren:Nat->Nat):Prop:=(∀{α:Type} [Rp α] {i:Nat} {v:Value} {xs:List α},Ow δ (is i) (is i) w v xs->∀k:Nat,Nat.beq i 0=false->ren i=k->Ow g (is k) (is k) w v xs)/\(∀{α:Type} [Rp α] {i:Nat} {v:Value} {xs:List (List α)},d8 δ i w v xs->∀k:Nat,Nat.beq i 0=false->ren i=k->d8 g k w v xs)
theorem n5{δ:aT}(γ:aT)(fr:gy w δ w')(ren:Nat->Nat):∃g,aX no γ w g w'/\nL δ g w' ren:=
 ⟨_,kC fr.below γ δ ren,λh k hi hr=>h.glue fr.col hi hr,λh k hi hr=>h.glue fr.col hi hr⟩
theorem Ow.gl{α:Type}[Rp α]{δ g:aT}{ren:Nat->Nat}{i:Nat}{xs:List α}(h:Ow δ (is i) (is i) w v xs)(G:nL δ g w ren)(k:Nat)(hi:Nat.beq i 0=false:=by exact rfl)(hr:ren i=k:=by exact rfl):Ow g (is k) (is k) w v xs:=G.1 h k hi hr
theorem d8.gl{α:Type}[Rp α]{δ g:aT}{ren:Nat->Nat}{i:Nat}{xs:List (List α)}(h:d8 δ i w v xs)(G:nL δ g w ren)(k:Nat)(hi:Nat.beq i 0=false:=by exact rfl)(hr:ren i=k:=by exact rfl):d8 g k w v xs:=G.2 h k hi hr
end
end TL
/-
  TlGeom: points with whole coordinates: turns, segments, how they meet.
  By an AI agent.
-/
set_option linter.all false
namespace TL
abbrev Pt:=Int×Int
def ld(x y:Int):Int:=if x<y then-1 else if y<x then 1 else 0
def nD(a b:Pt):Int:=a.1*b.2-a.2*b.1
def nj(b a:Pt):Pt:=(b.1-a.1,b.2-a.2)
def jK(a b c:Pt):Int:=ld (nD (nj b a) (nj c a)) 0
def mh(a b p:Pt):Prop:=(min a.1 b.1<=p.1/\p.1<=max a.1 b.1)/\min a.2 b.2<=p.2/\p.2<=max a.2 b.2
instance (a b p:Pt):Decidable (mh a b p):=by unfold mh;infer_instance
def k5(a b p:Pt):Prop:=jK a b p=0/\mh a b p
instance (a b p:Pt):Decidable (k5 a b p):=by unfold k5;infer_instance
def i8(a b:Pt):Int:=if ld a.1 b.1≠0 then ld a.1 b.1 else ld a.2 b.2
def n8(a b c d:Pt):Int:=
 let a':=if 0<i8 a b then b else a
 let b':=if 0<i8 a b then a else b
 let c':=if 0<i8 c d then d else c
 let d':=if 0<i8 c d then c else d
 let low:=if 0<i8 c' a' then c' else a'
 let high:=if i8 d' b'<0 then d' else b'
 if 0<i8 low high then 0 else if i8 low high=0 then 2 else 3
def es(a b c d:Pt):Int:=
 if jK a b c=0/\jK a b d=0/\jK c d a=0/\jK c d b=0 then n8 a b c d
 else if jK a b c*jK a b d<0/\jK c d a*jK c d b<0 then 1
 else if k5 a b c\/k5 a b d\/k5 c d a\/k5 c d b then 2 else 0
def nd(p:Pt):Int:=p.1*1073741824+p.2
end TL
namespace TL
def de(p:Pt):Prop:=(-1048576<=p.1/\p.1<=1048576)/\ -1048576<=p.2/\p.2<=1048576
instance (p:Pt):Decidable (de p):=by unfold de;infer_instance
def em(ps:List Pt):Prop:=ps.length<=4096/\∀p∈ps,de p
instance (ps:List Pt):Decidable (em ps):=by unfold em;infer_instance
theorem jZ{ps:List Pt}(h:∀j:Nat,j<ps.length->de (gI ps (j:Int))):∀p∈ps,de p:=λp hp=>by
 obtain⟨i,hi,rfl⟩:=List.mem_iff_getElem.1 hp
 have:=h i hi
 have e:gI ps (i:Int)=ps[i]:=by simp[gI,hi]
 rwa[e] at this
def jb(p:Pt):Int:=if 0<p.1\/p.1=0/\0<p.2 then 0 else 1
section
variable{a b c d:Pt}
end
end TL
/-
  TlGeomR: what is told of many points: areas, boxes, whether a polyline is simple.
  By an AI agent.
-/
set_option linter.all false
namespace TL
def iE(ps:List Pt):Nat->Pt
 |0=>gI ps 0
 |k+1=>(min (iE ps k).1 (gI ps (k:Int)).1,min (iE ps k).2 (gI ps (k:Int)).2)
def iG(ps:List Pt):Nat->Pt
 |0=>gI ps 0
 |k+1=>(max (iG ps k).1 (gI ps (k:Int)).1,max (iG ps k).2 (gI ps (k:Int)).2)
def gM(ps:List Pt):Prop:=4<=(ps.length:Int)/\gI ps 0=gI ps ((ps.length:Int)-1)
instance (ps:List Pt):Decidable (gM ps):=by unfold gM;infer_instance
def jp(ps:List Pt)(i k:Nat):Prop:=k=i+1\/i=0/\(k:Int)=(ps.length:Int)-2/\gM ps
instance (ps:List Pt)(i k:Nat):Decidable (jp ps i k):=by unfold jp;infer_instance
def o4(ps:List Pt)(i k:Nat):Int:=es (gI ps (i:Int)) (gI ps ((i:Int)+1)) (gI ps (k:Int)) (gI ps ((k:Int)+1))
def lY(ps:List Pt)(i k:Nat):Prop:=jp ps i k/\o4 ps i k=3\/¬jp ps i k/\o4 ps i k≠0
instance (ps:List Pt)(i k:Nat):Decidable (lY ps i k):=by unfold lY;infer_instance
def mm(ps:List Pt)(i:Nat):Prop:=gI ps (i:Int)≠gI ps ((i:Int)+1)/\∀k<ps.length,i<k->(k:Int)<=(ps.length:Int)-2->¬lY ps i k
instance (ps:List Pt)(i:Nat):Decidable (mm ps i):=by unfold mm;infer_instance
def n6(ps:List Pt):Prop:=∀i<ps.length,(i:Int)<=(ps.length:Int)-2->mm ps i
instance (ps:List Pt):Decidable (n6 ps):=by unfold n6;infer_instance
section
variable{ps:List Pt}
variable{i k:Nat}
end
end TL
/-
  TlConv: whole numbers turned to another kind, a string's byte, functions that bear values.
  By an AI agent.
-/
set_option linter.all false
namespace TL
open Go
section
variable{P:Program}{w:World}{f:Fr}{dst:Option Tmp}{ty:TypeId}{pos:String}{after:Array Edge}{g:Option (Nat×Bool)}{x y:Operand}{s d t:TypeId}{m:Int}{k k0:IntKind}
end
end TL
namespace TL
open Go
section
variable{P:Program}{w:World}{f:Fr}{dst:Option Tmp}{ty:TypeId}{pos:String}{after:Array Edge}{g:Option (Nat×Bool)}{x y:Operand}{t t':TypeId}
theorem dI{fs:Array Field}{xs ys:List Value}{bs:List Bool}{q:Bool}(ht:P.underlying t=some (.struct fs))(hp:P.stoodInHeld t=false)(hg:P.eqGuardType P.depth t=false)(hx:ev f x= .agg xs.toArray)(hy:ev f y= .agg ys.toArray)(h:EqF P xs.toArray ys.toArray fs.toList bs)(hq:bs.all id=q):
   (execOp (ev f) ⟨dst,.binOp .neq t x y t',ty,pos,after,g⟩).run P w= .ok (.value (.bool !q)) w:=by
 have e1:P.fieldsOf t=fs:=by simp[Program.fieldsOf,ht]
 have hr:(Op.equal t (.agg xs.toArray) (.agg ys.toArray)).run P w= .ok q w:=by
   have:=run_equalIn_struct (P:=P) w 9999 t xs.toArray ys.toArray (by rw[e1];exact ht) hp
   rw[e1,eL h 9998,hq] at this
   exact this
 exact gb .neq hx hy (by simp[eqGuard,hg]) (by simp[binOp,hr])
end
end TL
namespace TL
open Go
section
variable{P:Program}{w:World}{f:Fr}{dst:Option Tmp}{ty:TypeId}{pos:String}{after:Array Edge}{g:Option (Nat×Bool)}{x y:Operand}{t t':TypeId}
end
end TL
/-
  TlGeomM: meeting segments: moved, turned, named another way about; what ends they share.
  By an AI agent.
-/
set_option linter.all false
namespace TL
section
variable{a b c d:Pt}
def ip(a b c d e:Pt):Prop:=k5 a b e/\k5 c d e
instance (a b c d e:Pt):Decidable (ip a b c d e):=by unfold ip;infer_instance
def ku(a b c d:Pt):Prop:=jK a b c*jK a b d<0/\jK c d a*jK c d b<0
instance (a b c d:Pt):Decidable (ku a b c d):=by unfold ku;infer_instance
end
end TL
/-
  TlGeomS: polylines gone back, and two of them named the other way about.
  By an AI agent.
-/
set_option linter.all false
namespace TL
abbrev Sg:=Pt×Pt
def kB(ps:List Pt):Nat->List Sg
 |0=>[]
 |k+1=>kB ps k++[(gI ps (k:Int),gI ps ((k:Int)+1))]
def lk(ps:List Pt):List Sg:=if ps.length=1 then[(gI ps 0,gI ps 0)] else kB ps (ps.length-1)
def lJ(ps:List Pt):Pt:=gI ps ((ps.length:Int)-1)
def mI(ps:List Pt)(p:Pt):Prop:=p=gI ps 0\/p=lJ ps
instance (ps:List Pt)(p:Pt):Decidable (mI ps p):=by unfold mI;infer_instance
def lD(q:List Pt)(s t:Sg)(x:Pt):Prop:=mI q x/\k5 s.1 s.2 x/\k5 t.1 t.2 x
instance (q:List Pt)(s t:Sg)(x:Pt):Decidable (lD q s t x):=by unfold lD;infer_instance
def jT(p q:List Pt)(s t:Sg):Prop:=lD q s t (gI p 0)\/lD q s t (lJ p)
instance (p q:List Pt)(s t:Sg):Decidable (jT p q s t):=by unfold jT;infer_instance
def mo(p q:List Pt)(s t:Sg):Prop:=es s.1 s.2 t.1 t.2=3\/es s.1 s.2 t.1 t.2≠0/\¬jT p q s t
instance (p q:List Pt)(s t:Sg):Decidable (mo p q s t):=by unfold mo;infer_instance
def nt(p q:List Pt):Prop:=∀s∈lk p,∀t∈lk q,¬mo p q s t
instance (p q:List Pt):Decidable (nt p q):=by unfold nt;infer_instance
section
variable{p q:List Pt}
end
end TL
namespace TL
section
variable{p q:List Pt}{i k:Nat}
variable{s t:Sg}
end
end TL
namespace TL
section
variable{p q:List Pt}{s t:Sg}{i:Nat}
end
end TL
/-
  TlGeomX: polylines: the document's way and the code's.
  By an AI agent.
-/
set_option linter.all false
namespace TL
section
variable{a b c d:Pt}
end
section
variable{ps:List Pt}{i k:Nat}
end
def nV(but:List Pt)(s t:Sg):Prop:=es s.1 s.2 t.1 t.2=3\/(es s.1 s.2 t.1 t.2=1/\¬∃x∈but,ip s.1 s.2 t.1 t.2 x)\/((es s.1 s.2 t.1 t.2≠0/\es s.1 s.2 t.1 t.2≠1)/\∃e∈[s.1,s.2,t.1,t.2],ip s.1 s.2 t.1 t.2 e/\e∉but)
instance (but:List Pt)(s t:Sg):Decidable (nV but s t):=by unfold nV;infer_instance
def nn(p q but:List Pt):Prop:=∃s∈lk p,∃t∈lk q,nV but s t
instance (p q but:List Pt):Decidable (nn p q but):=by unfold nn;infer_instance
section
variable{p q B:List Pt}
end
end TL
namespace TL
section
variable{p q but:List Pt}{i k:Nat}
variable{s t:Sg}
end
end TL
/-
  TlAround: points round another one: the order, its laws, the list that is sorted by it.
  By an AI agent.
-/
set_option linter.all false
namespace TL
def nz(p:Pt):Int:=p.1*p.1+p.2*p.2
def o9(a b:Pt)(i k:Int):Prop:=jb a<jb b\/jb a=jb b/\(nD a b<0\/nD a b=0/\(nz a<nz b\/nz a=nz b/\i<k))
def vA(o:Pt)(ps:List Pt)(i:Int):Pt:=nj (gI ps i) o
def oc(o:Pt)(ps:List Pt)(i k:Int):Prop:=o9 (vA o ps i) (vA o ps k) i k
def o8(o:Pt)(ps:List Pt)(k:Nat)(l:List Int):Prop:=l.Pairwise (oc o ps)/\∀x,x∈l↔0<=x/\x<(k:Int)
section
variable{o:Pt}{ps:List Pt}{k:Nat}{l l':List Int}
open Classical in
noncomputable def arL (o:Pt) (ps:List Pt):List Int:=if h:∃l,o8 o ps ps.length l then choose h else[]
end
section
variable{o:Pt}{ps:List Pt}{k:Nat}{l:List Int}{q:Int}
end
section
variable{o:Pt}{ps:List Pt}
end
end TL
/-
  TlJudge: plots: their flaws, as the code and the document gather them.
  By an AI agent.
-/
set_option linter.all false
namespace TL
abbrev dA:=Int×Int×Int
abbrev d9:=List Pt×List (List Pt)
def dE{β:Type}(f:Nat->List β):Nat->List β
  |0=>[]
  |k+1=>dE f k++f k
section
variable{β:Type}{f h:Nat->List β}{k n:Nat}{x:β}{F B:List β}
theorem dZ:∀{k:Nat},dE f k=[]↔∀j,j<k->f j=[]
 |0=>by simp[dE]
 |k+1=>by
   rw[dE,List.append_eq_nil_iff,dZ]
   constructor
   · rintro⟨h1,h2⟩ j hj
     by_cases e:j=k
     · subst e;exact h2
     · exact h1 j (by omega)
   · intro h
     exact⟨λj hj=>h j (by omega),h k (by omega)⟩
theorem je{c:Nat}:∀{k:Nat},(∀j,j<k->(f j).length<=c)->(dE f k).length<=k*c
 |0,_=>by simp[dE]
 |k+1,e=>by
   have h1:=je (k:=k) λj hj=>e j (by omega)
   have h2:=e k (by omega)
   rw[dE,List.length_append,Nat.succ_mul]
   omega
theorem dX(e:∀j,(f j).length<=1):(dE f k).length<=k:=by
 have:=je (f:=f) (k:=k) (c:=1) λj _=>e j
 omega
theorem j9(hF:F=B++dE f k)(hf:f k=[x]):F++[x]=B++dE f (k+1):=by rw[hF,dE,hf,List.append_assoc]
theorem mT(hF:F=B++dE f k)(hf:f k=[]):F=B++dE f (k+1):=by rw[hF,dE,hf,List.append_nil]
theorem kd(hF:F=dE f k)(hf:f k=[x]):F++[x]=dE f (k+1):=by rw[hF,dE,hf]
theorem lb(hF:F=dE f k)(hf:f k=[]):F=dE f (k+1):=by rw[hF,dE,hf,List.append_nil]
end
def fl{β:Type}(p:Prop)[Decidable p](x:β):List β:=if p then[x] else[]
section
variable{β:Type}{p:Prop}[Decidable p]{x:β}
theorem iD(h:p):fl p x=[x]:=if_pos h
theorem lN(h:¬p):fl p x=[]:=if_neg h
theorem jS:(fl p x).length<=1:=by unfold fl;split<;>simp
theorem gU:fl p x=[]↔¬p:=by unfold fl;split<;>simp_all
end
def nE(l:List Pt):Prop:=2<=(l.length:Int)/\em l
instance (l:List Pt):Decidable (nE l):=by unfold nE;infer_instance
def hH(p:d9)(v:Nat):List dA:=fl (¬de (gI p.1 (v:Int))) (2,(v:Int),0)
def jo(p:d9)(e:Nat):List dA:=fl (¬nE (gI p.2 (e:Int))) (3,(e:Int),0)
def c9(g:dj)(p:d9):List dA:=
 if(p.1.length:Int)=g.1/\(p.2.length:Int)=g.2.length then dE (hH p) p.1.length++dE (jo p) p.2.length else[(1,0,0)]
def lR(g:dj)(p:d9)(e:Int):Prop:=gI (gI p.2 e) 0=gI p.1 (gI g.2 e).1/\gI (gI p.2 e) (((gI p.2 e).length:Int)-1)=gI p.1 (gI g.2 e).2
instance (g:dj)(p:d9)(e:Int):Decidable (lR g p e):=by unfold lR;infer_instance
def lP(l:List Pt)(q:Pt):Prop:=∃s∈kB l (l.length-1),k5 s.1 s.2 q
instance (l:List Pt)(q:Pt):Decidable (lP l q):=by unfold lP;infer_instance
def ka(s t:Sg)(but:List Pt):Prop:=es s.1 s.2 t.1 t.2=0\/(es s.1 s.2 t.1 t.2=1\/es s.1 s.2 t.1 t.2=2)/\∃x∈but,ip s.1 s.2 t.1 t.2 x
instance (s t:Sg)(but:List Pt):Decidable (ka s t but):=by unfold ka;infer_instance
def nf(a b but:List Pt):Prop:=∀s∈kB a (a.length-1),∀t∈kB b (b.length-1),ka s t but
instance (a b but:List Pt):Decidable (nf a b but):=by unfold nf;infer_instance
section
variable{g:dj}{p:d9}
structure mQ(g:dj)(p:d9):Prop where
  n:(p.1.length:Int)=g.1
  m:(p.2.length:Int)=g.2.length
  pt:∀v:Int,0<=v->v<p.1.length->de (gI p.1 v)
  ln:∀e:Int,0<=e->e<p.2.length->2<=((gI p.2 e).length:Int)/\em (gI p.2 e)
theorem ff:c9 g p=[]↔mQ g p:=by
 unfold c9
 by_cases c:(p.1.length:Int)=g.1/\(p.2.length:Int)=g.2.length
 · rw[if_pos c,List.append_eq_nil_iff,dZ,dZ]
   constructor
   · rintro⟨h1,h2⟩
     refine⟨c.1,c.2,λv h0 hv=>?_,λe h0 he=>?_⟩
     · have:=h1 v.toNat (by omega)
       unfold hH at this
       rw[gU,Int.toNat_of_nonneg h0] at this
       exact Classical.not_not.1 this
     · have:=h2 e.toNat (by omega)
       unfold jo at this
       rw[gU,Int.toNat_of_nonneg h0] at this
       exact Classical.not_not.1 this
   · intro h
     exact⟨λv hv=>gU.2 (Classical.not_not.2 (h.pt _ (by omega) (by omega))),λe he=>gU.2 (Classical.not_not.2 (h.ln _ (by omega) (by omega)))⟩
 · rw[if_neg c]
   exact⟨λh=>by simp at h,λh=>absurd ⟨h.n,h.m⟩ c⟩
theorem gH(v:Nat):(hH p v).length<=1:=jS
theorem jh(v:Nat):(jo p v).length<=1:=jS
theorem iu(hm:du g):((c9 g p).length:Int)<=5000:=by
 obtain⟨_,h2,h3,_⟩:=hm
 unfold c9
 split
 · rename_i c
   have l1:=dX (f:=hH p) (k:=p.1.length) gH
   have l2:=dX (f:=jo p) (k:=p.2.length) jh
   rw[List.length_append];omega
 · simp
end
end TL
namespace TL
section
variable{l:List Pt}{p:Pt}{i:Nat}
end
section
variable{a b c d:Pt}{but:List Pt}{k:Nat}{m:Int}
end
def nI(p:d9)(h:Int):Pt:=if h%2=0 then gI (gI p.2 (h/2)) 1 else gI (gI p.2 (h/2)) (((gI p.2 (h/2)).length:Int)-2)
def nX(u v:Pt):Int:=u.1*v.1+u.2*v.2
def jO(u v:Pt):Prop:=nD u v=0/\0<nX u v
instance (u v:Pt):Decidable (jO u v):=by unfold jO;infer_instance
end TL
namespace TL
end TL
namespace TL
section
variable{g:dj}{p:d9}{F G B:List dA}{v e k i:Nat}
theorem m6(h:decide (em [gI p.1 (v:Int)])=true):hH p v=[]:=lN (Classical.not_not.2 ((of_decide_eq_true h).2 _ (by simp)))
theorem mf(h:¬decide (em [gI p.1 (v:Int)])=true):hH p v=[(2,(v:Int),0)]:=
 iD λho=>h (decide_eq_true ⟨by simp,λx hx=>by obtain rfl:=List.mem_singleton.1 hx;exact ho⟩)
theorem nb(h:(((gI p.2 (e:Int)).length:Nat):Int)<2):jo p e=[(3,(e:Int),0)]:=iD λho=>by have:=ho.1;omega
theorem n3(h:¬decide (em (gI p.2 (e:Int)))=true):jo p e=[(3,(e:Int),0)]:=iD λho=>h (decide_eq_true ho.2)
theorem nv(h0:¬(((gI p.2 (e:Int)).length:Nat):Int)<2)(h:decide (em (gI p.2 (e:Int)))=true):jo p e=[]:=lN λho=>ho ⟨by omega,of_decide_eq_true h⟩
theorem kz{β:Type}{f h:Nat->List β}{F:List β}{k n:Nat}(hF:F=dE f k)(hk:k=n):F=dE f n++dE h 0:=by
 subst hk;rw[hF];simp[dE]
theorem nu(h:¬((p.1.length:Nat):Int)=g.1):[(1,0,0)]=c9 g p:=by unfold c9;rw[if_neg λc=>h c.1]
theorem np(h:¬((p.2.length:Nat):Int)=(g.2.length:Int)):[(1,0,0)]=c9 g p:=by unfold c9;rw[if_neg λc=>h c.2]
theorem n4(h1:((p.1.length:Nat):Int)=g.1)(h2:((p.2.length:Nat):Int)=(g.2.length:Int))(hG:G=dE (hH p) p.1.length++dE (jo p) e)(he:e=p.2.length):G=c9 g p:=by
 unfold c9;rw[if_pos ⟨h1,h2⟩,hG,he]
theorem lA(hF:F=dE (hH p) v):F.length<=v:=by rw[hF];exact dX gH
theorem l9(hF:F=dE (hH p) v++dE (jo p) e):F.length<=v+e:=by
 rw[hF,List.length_append]
 have l1:=dX (f:=hH p) (k:=v) gH
 have l2:=dX (f:=jo p) (k:=e) jh
 omega
theorem ml(hF:F=c9 g p)(h:¬0<(F.length:Int)):F=[]/\c9 g p=[]/\mQ g p:=by
 have:F=[]:=List.eq_nil_of_length_eq_zero (by omega)
 have h2:c9 g p=[]:=hF▸this
 exact⟨this,h2,ff.1 h2⟩
end
section
variable{g:dj}{p:d9}{e f:Int}
end
section
variable{a b but:List Pt}{i k:Nat}
end
section
variable{g:dj}{p:d9}{e f:Nat}{b:Bool}
end
end TL
/-
  TlMap: maps that the call makes.
  By an AI agent.
-/
set_option linter.all false
namespace TL
open Go
class Ky (K:Type) where
  val:K->Value
section
variable{P:Program}{f:Fr}{w:World}{dst:Option Tmp}{ty:TypeId}{pos:String}{after:Array Edge}{g:Option (Nat×Bool)}{t:TypeId}{x y z:Operand}{N:Value->World->Prop}
end
instance:Ky Int where
 val k:=.int .i64 k
instance:Ky (Int×Int) where
 val k:=.agg (List.toArray [.int .i64 k.1,.int .i64 k.2])
end TL
namespace TL
open Go
end TL
/-
  TlStill: in a region that draws its order: an operation before which only reading ones may come is taken first.
  By an AI agent.
-/
set_option linter.all false
namespace TL
open Go
theorem ap.asBool(v:Value):ap (Go.asBool v):=by
 unfold Go.asBool
 repeat' (first|exact ap.pure _|exact ap.stuck _|exact ap.unsupported _|split)
theorem fj(op:BinOp)(x y:ByteArray):ap (Op.stringOp op x y):=by
 unfold Op.stringOp
 dsimp only
 repeat' (first|exact ap.pure _|exact ap.stuck _|exact ap.unsupported _|split)
theorem iA(x y:Value):ap (Builtin.min2 x y):=by
 unfold Builtin.min2
 repeat' (first|exact ap.pure _|exact ap.stuck _|exact ap.unsupported _|exact ap.bind (ap.choose _) λ_=>ap.pure _|exact ap.bind (fj _ _ _) λ_=>ap.bind (ap.asBool _) λ_=>ap.pure _|split)
theorem iQ(x y:Value):ap (Builtin.max2 x y):=by
 unfold Builtin.max2
 repeat' (first|exact ap.pure _|exact ap.stuck _|exact ap.unsupported _|exact ap.bind (ap.choose _) λ_=>ap.pure _|exact ap.bind (fj _ _ _) λ_=>ap.bind (ap.asBool _) λ_=>ap.pure _|split)
theorem eB{f:Value->Value->Sem Value}(hf:∀x y,ap (f x y)):∀(l:List Value) (x:Value),ap (l.foldlM f x)
 |[],x=>by simp only[List.foldlM_nil];exact ap.pure _
 |y::l,x=>by simp only[List.foldlM_cons];exact ap.bind (hf x y) λz=>eB hf l z
def cT:Op->Bool
 | .call c=>match c.callee with
   | .builtin .min| .builtin .max=>true
   |_=>false
 |o=>dn o
theorem i4{ρ:Operand->Value}{o:Oper}(h:cT o.op=true):ap (execOp ρ o)/\∀P w nx w',(execOp ρ o).run P w= .ok nx w'->∃u,nx= .value u:=by
 obtain⟨dst,op,ty,pos,after,g⟩:=o
 cases op
 case call c=>
   obtain⟨callee,args,at_⟩:=c
   cases callee with
   |builtin b=>
     cases b<;>simp only[cT,Bool.false_eq_true] at h
     case min=>
       have e:execOp ρ ⟨dst,.call {callee:=.builtin .min,args:=args,argTypes:=at_},ty,pos,after,g⟩=(do pure (Next.value (<-Builtin.min_ at_ ty (args.map ρ)))):=by
         simp[execOp,resolve,invoke,builtin]
       rw[e]
       refine⟨ap.bind ?_ λ_=>ap.pure _,λP w nx w' hr=>eN hr⟩
       unfold Builtin.min_
       split
       · exact ap.stuck _
       · exact eB iA _ _
     case max=>
       have e:execOp ρ ⟨dst,.call {callee:=.builtin .max,args:=args,argTypes:=at_},ty,pos,after,g⟩=(do pure (Next.value (<-Builtin.max_ at_ ty (args.map ρ)))):=by
         simp[execOp,resolve,invoke,builtin]
       rw[e]
       refine⟨ap.bind ?_ λ_=>ap.pure _,λP w nx w' hr=>eN hr⟩
       unfold Builtin.max_
       split
       · exact ap.stuck _
       · exact eB iQ _ _
   |_=>simp only[cT,Bool.false_eq_true] at h
 all_goals
   first
   |(simp only[cT,dn,Bool.false_eq_true] at h;done)
   |exact⟨fP (by simpa[cT] using h),λP w nx w' hr=>eN hr⟩
section
variable{P:Program}{ops:Array Oper}{Q:Exit->Act->World->Prop}{md:Region.Mode}{S:World->Prop}
def nB(P:Program)(ops:Array Oper)(w:World)(o:Oper)(v:Value)(a:Act):Prop:=Region.wanted o (yielded ops a.tmps)=true/\(execOp a.eval o).run P w= .ok (.value v) w
theorem nB.wpOp{i:Nat}{o:Oper}{v:Value}{a:Act}{w:World}(hi:ops[i]? =some o)(hy:nB P ops w o v a){K:Act->World->Prop}(h:K (a.put o.dst v) w):wpOp P ops Q i K a w:=by
 unfold Go.wpOp
 simp only[hi,hy.1,if_true,Oper.wp,hy.2,Oper.upon]
 exact .inl h
theorem iL{i:Nat}{oi:Oper}{v:Value}{w0:World}{M D:Array Bool}(hi:ops[i]? =some oi)(hsel:∀(j:Nat) (o:Oper) cs b,ops[j]? =some o->o.op≠ .select cs b)
   (hQ:∀c a w,Q (.panic c) (a.put oi.dst v) w->Q (.panic c) a w)
   (hM:∀j oj,ops[j]? =some oj->M.getD j false=false->j≠i->∃e∈oj.after,Region.binds md e=true/\M.getD e.on false=false)
   (hMq:∀j oj,ops[j]? =some oj->M.getD j false=true->D.getD j true=false->j≠i->cT oj.op=true):
   ∀(fuel:Nat) (listed:Array Bool) (a:Act) (w:World),cA w0.heap.size w0 w->S w->(∀j,listed.getD j false=true->M.getD j false=true)->(∀j,listed.getD j true=false->D.getD j true=false)->
     (∀j oj,ops[j]? =some oj->j≠i->listed.getD j true=false->(∀e∈oj.after,Region.binds md e=true->e.on≠i)->oi.apart ops oj=true)->
     i∈Region.ready md ops listed->(∀w,cA w0.heap.size w0 w->nB P ops w oi v a)->
     wpAnyH P md ops Q S fuel (listed.setIfInBounds i true) (a.put oi.dst v) w->wpAnyH P md ops Q S (fuel+1) listed a w:=by
 intro fuel
 induction fuel with
 |zero=>
   intro listed a w hw hS _ _ _ hr hy H
   refine⟨λh=>(by rw[h] at hr;cases hr),λj hj=>?_⟩
   by_cases hji:j=i
   · subst hji;exact(hy w hw).wpOp hi ⟨hS,H⟩
   · have:=ready_mono hj hji
     rw[H.1] at this
     cases this
 |succ fuel ih=>
   intro listed a w hw hS hsub hD hfree hr hy H
   refine⟨λh=>(by rw[h] at hr;cases hr),λj hj=>?_⟩
   by_cases hji:j=i
   · subst hji;exact(hy w hw).wpOp hi ⟨hS,H⟩
   · obtain⟨hjun,oj,hoj,hall⟩:=mem_ready.1 hj
     have hMj:M.getD j false=true:=by
       cases hm:M.getD j false with
       |true=>rfl
       |false=>
         obtain⟨e,he,hb,hn⟩:=hM j oj hoj hm hji
         have:=hsub _ (hall e he hb)
         rw[hn] at this;cases this
     have hkk:=hMq j oj hoj hMj (hD j hjun) hji
     have h1:=H.2 j (ready_mono hj hji)
     have hnot:∀e∈oj.after,Region.binds md e=true->e.on≠i:=λe he hb heq=>by
       have h1:=hall e he hb
       have h0:=(mem_ready.1 hr).1
       rw[heq] at h1
       rw[getD_both h0] at h1
       cases h1
     have hap:=hfree j oj hoj hji hjun hnot
     have hfree':∀k ok,ops[k]? =some ok->k≠i->(listed.setIfInBounds j true).getD k true=false->
         (∀e∈ok.after,Region.binds md e=true->e.on≠i)->oi.apart ops ok=true:=λk ok hk hki hun hno=>by
       refine hfree k ok hk hki ?_ hno
       by_cases hjk:j=k
       · subst hjk;exact hjun
       · rw[getD_set_ne true hjk] at hun;exact hun
     have hsub':∀k,(listed.setIfInBounds j true).getD k false=true->M.getD k false=true:=λk hk=>by
       by_cases hjk:j=k
       · subst hjk;exact hMj
       · rw[getD_set_ne false hjk] at hk;exact hsub k hk
     have hD':∀k,(listed.setIfInBounds j true).getD k true=false->D.getD k true=false:=λk hk=>by
       by_cases hjk:j=k
       · subst hjk;exact hD j hjun
       · rw[getD_set_ne true hjk] at hk;exact hD k hk
     obtain⟨g1,g2,g3⟩:=Oper.apart_spec hap
     have keep:∀u w,cA w0.heap.size w0 w->nB P ops w oi v (a.put oj.dst u):=λu w hw=>by
       obtain⟨k1,k2⟩:=hy w hw
       refine⟨by rw[wanted_put oi a oj.dst u g3];exact k1,?_⟩
       rw[execOp_put oi (λcs b=>hsel i oi cs b hi) a oj.dst u g3];exact k2
     unfold Go.wpOp at h1 ⊢
     simp only[hoj] at h1 ⊢
     rw[wanted_put oj a oi.dst v g1] at h1
     cases hwt:Region.wanted oj (yielded ops a.tmps) with
     |false=>
       simp only[hwt,Bool.false_eq_true,if_false] at h1 ⊢
       refine⟨h1.1,ih (listed.setIfInBounds j true) (a.put oj.dst undef) w hw h1.1 hsub' hD' hfree' (ready_mono hr (Ne.symm hji)) (keep undef) ?_⟩
       rw[<-Act.put_comm a v undef g2,Array.setIfInBounds_comm _ _ hji]
       exact h1.2
     |true=>
       simp only[hwt,if_true] at h1 ⊢
       obtain⟨hke,hval⟩:=i4 (ρ:=a.eval) hkk
       rcases h1 with h1|⟨h1,h2⟩
       · left
         unfold Oper.wp at h1 ⊢
         rw[execOp_put oj (λcs b=>hsel j oj cs b hoj) a oi.dst v g1] at h1
         obtain⟨dst,op,ty,pos,after,gd⟩:=oj
         cases hrun:(execOp a.eval ⟨dst,op,ty,pos,after,gd⟩).run P w with
         |halt x w'=>
           rw[hrun] at h1
           cases x<;>simp only[Oper.upon] at h1 ⊢
           case panic u=>exact hQ _ _ _ h1
         |ok nx w'=>
           rw[hrun] at h1
           have hb:=hke P w nx w' hrun
           have hw':cA w0.heap.size w0 w':=hw.trans (hb.mono hw.size)
           obtain⟨u,rfl⟩:=hval P w nx w' hrun
           simp only[Oper.upon] at h1 ⊢
           refine⟨h1.1,ih (listed.setIfInBounds j true) (a.put dst u) w' hw' h1.1 hsub' hD' hfree' (ready_mono hr (Ne.symm hji)) (keep u) ?_⟩
           have h3:=h1.2
           rw[show(a.put oi.dst v).put dst u=(a.put dst u).put oi.dst v from Act.put_comm a v u g2,Array.setIfInBounds_comm _ _ (Ne.symm hji)] at h3
           exact h3
       · right
         refine⟨?_,h2⟩
         unfold Oper.asks at*
         rw[execOp_put oj (λcs b=>hsel j oj cs b hoj) a oi.dst v g1] at h1
         exact h1
end
end TL
namespace TL
open Go
section
variable{P:Program}{n:Nat}{l:List Oper}{S:World->Prop}{K:Fr->World->Prop}{f:Fr}{w:World}{done:List Nat}{fuel:Nat}
variable{dst:Option Tmp}{op:Op}{ty:TypeId}{pos:String}{after:Array Edge}{g:Option (Nat×Bool)}{v:Value}
def jl(l:List Oper)(done M:List Nat)(i:Nat):Bool:=
 ((List.range l.length).all λj=>M.contains j||j==i||match l[j]? with
     |some oj=>oj.after.any λe=>Region.binds .any e&& !M.contains e.on
     |none=>true)&&
 (M.all λj=>j==i||done.contains j||match l[j]? with
     |some oj=>cT oj.op
     |none=>false)&&(done.all λj=>M.contains j&&decide (j<l.length))&&M.all λj=>decide (j<l.length)
theorem fB(i:Nat)(M:List Nat)(hi:l[i]? =some ⟨dst,op,ty,pos,after,g⟩)(hn:dB l=true)(hc:(dg l done i&&ec l done i&&jl l done M i&&gi n ⟨dst,op,ty,pos,after,g⟩)=true)
    (hw:bR l ⟨dst,op,ty,pos,after,g⟩ f=true)(hS:S w)(h:∀w',cA w.heap.size w w'->(execOp (ev f) ⟨dst,op,ty,pos,after,g⟩).run P w'= .ok (.value v) w')(hk:ja P n l S K fuel (i::done) (dF f dst v) w):ja P n l S K (fuel+1) done f w:=by
  simp only[Bool.and_eq_true] at hc
  obtain⟨⟨⟨hr,hf⟩,hb⟩,hd⟩:=hc
  obtain⟨hlt,hr'⟩:=d7 hr
  intro a ha
  unfold jl at hb
  simp only[Bool.and_eq_true,List.all_eq_true,List.mem_range] at hb
  obtain⟨⟨⟨b1,b2⟩,b3⟩,b4⟩:=hb
  have hgM:∀j,(br l.length M).getD j false=true↔j∈M:=λj=>by
    rw[bG]
    by_cases hjl:j<l.length
    · simp[hjl]
    · simp only[hjl,if_false,Bool.false_eq_true,false_iff]
      exact λhm=>hjl (by simpa using b4 j hm)
  refine iL (v:=v) (w0:=w) (M:=br l.length M) (D:=br l.length done) (by simpa using hi) (dT hn) (λc a w h=>by cases h.1) (λj oj hj hm hne=>?_) (λj oj hj hm hD hne=>?_) fuel _ a w (cA.refl _ _) hS (λj hj=>?_) (λj hj=>hj) (dq hi hf) hr' (λw' hw'=>?_) ?_
  · have hj':l[j]? =some oj:=by simpa using hj
    have hjl:j<l.length:=(List.getElem?_eq_some_iff.1 hj').1
    have h1:=b1 j hjl
    have hmM:M.contains j=false:=by
      cases hc:M.contains j with
      |false=>rfl
      |true=>have h9:=(hgM j).2 (by simpa using hc);rw[hm] at h9;cases h9
    simp only[hmM,hj',Bool.false_or,Bool.or_eq_true,beq_iff_eq,hne,false_or] at h1
    obtain⟨e,he,hbb⟩:=Array.any_eq_true'.1 h1
    simp only[Bool.and_eq_true,Bool.not_eq_true'] at hbb
    refine⟨e,he,hbb.1,?_⟩
    cases hc:(br l.length M).getD e.on false with
    |false=>rfl
    |true=>
      have:=(hgM _).1 hc
      have h2:=hbb.2
      simp[this] at h2
  · have h1:=b2 j ((hgM j).1 hm)
    have hj':l[j]? =some oj:=by simpa using hj
    have hjl:j<l.length:=(List.getElem?_eq_some_iff.1 hj').1
    rw[bG,if_pos hjl] at hD
    have hd:done.contains j=false:=by simpa using hD
    simp only[hj',Bool.or_eq_true,beq_iff_eq,hne,hd,false_or,Bool.false_eq_true] at h1
    exact h1
  · rw[bG] at hj
    split at hj
    · have h1:=b3 j (by simpa using hj)
      exact(hgM j).2 (by simpa using h1.1)
    · cases hj
  · refine⟨?_,?_⟩
    · rw[ha.yielded];exact hw
    · rw[ha.eval];exact h w' hw'
  · rw[c8 done hlt]
    exact hk _ (ha.put hd v)
end
end TL
namespace TL
open Go
end TL
set_option linter.unusedVariables false
namespace TL
variable{a b c d:Int×Int}
theorem o1{A B C D:Prop}[Decidable A](h:decide A=true):A\/B\/C\/D:=.inl (of_decide_eq_true h)
theorem o2{A B C D:Prop}[Decidable B](h:decide B=true):A\/B\/C\/D:=.inr (.inl (of_decide_eq_true h))
theorem o5{A B C D:Prop}[Decidable A][Decidable B][Decidable C][Decidable D](h1:¬decide A=true)(h2:¬decide B=true)(h3:¬decide C=true)(h4:¬decide D=true):¬(A\/B\/C\/D):=by
 rintro(h|h|h|h)
 · exact h1 (decide_eq_true h)
 · exact h2 (decide_eq_true h)
 · exact h3 (decide_eq_true h)
 · exact h4 (decide_eq_true h)
end TL
/-
  TlCyc: lists gone round: what stands behind what; rotations turned, and moved.
  By an AI agent.
-/
set_option linter.all false
namespace TL
def ob(l:List Int)(h:Int):Int:=gI l ((((l.idxOf h:Nat):Int)+1)%(l.length:Int))
section
variable{g:dj}{r:lH}{to:List Int}
end
end TL
/-
  TlOrb: going round by a permutation; two places changed; what that does to the numbers of rounds.
  By an AI agent.
-/
set_option linter.all false
namespace TL
def tr(a b x:Int):Int:=if x=a then b else if x=b then a else x
end TL
/-
  TlEul: Euler's count of a rotation.
  By an AI agent.
-/
set_option linter.all false
namespace TL
def cy(r:lH)(x:Int):Int:=match r.find? (λl=>decide (x∈l)) with
  |some l=>ob l x
  |none=>x
end TL
/-
  TlDual: faces as nodes: the dual, corners' faces, edges laid, taken and split, ways over faces, as plain functions.
  By an AI agent.
-/
set_option linter.all false
namespace TL
def lI(g:dj)(r:lH)(c:Int×Int):Prop:=(0<=c.1/\c.1<g.1)/\if((gI r c.1).length:Int)=0 then c.2= -1 else c.2∈gI r c.1
instance (g:dj)(r:lH)(c:Int×Int):Decidable (lI g r c):=by unfold lI;infer_instance
end TL
namespace TL
end TL
namespace TL
end TL
namespace TL
section
variable{g:dj}{r:lH}{a b:Int×Int}
end
end TL
/-
  TlJudge2: what is told of a plot; its rotation.
  By an AI agent.
-/
set_option linter.all false
namespace TL
def ba(p:d9):List Pt:=p.1++p.2.flatten
theorem ko{p:d9}{l:List Pt}{k:Nat}(h:l=p.1++(p.2.take k).flatten/\(l.length:Int)<=1024+4096*(k:Int))(hk:(k:Int)<p.2.length)(hl:(gI p.2 (k:Int)).length<=4096):l++gI p.2 (k:Int)=p.1++(p.2.take (k+1)).flatten/\((l++gI p.2 (k:Int)).length:Int)<=1024+4096*((k+1:Nat):Int):=by
 refine⟨by rw[eR hk,h.1];simp,?_⟩
 rw[List.length_append];have:=h.2;omega
theorem lh{p:d9}{l:List Pt}{k:Nat}(h:l=p.1++(p.2.take k).flatten)(hk:¬(k:Int)<p.2.length):l=ba p:=by
 rw[List.take_of_length_le (by omega)] at h;exact h
def dU(p:d9):Nat->Int
 |0=>0
 |k+1=>dU p k+(((gI p.2 (k:Int)).length:Int)-2)
theorem hP{p:d9}(h:∀e:Int,0<=e->e<p.2.length->2<=((gI p.2 e).length:Int)/\em (gI p.2 e)):∀k:Nat,(k:Int)<=p.2.length->0<=dU p k/\dU p k<=4096*(k:Int)
 |0,_=>by simp[dU]
 |k+1,hk=>by
   have h1:=hP h k (by omega)
   obtain⟨h2,h3,_⟩:=h (k:Int) (by omega) (by omega)
   unfold dU;omega
def dM(f:Nat->Bool):Nat->Bool
 |0=>true
 |k+1=>dM f k&&f k
def iF(l:List Pt)(j:Nat):Bool:=decide ((gI l (j:Int)).1=(gI l ((j:Int)+1)).1\/(gI l (j:Int)).2=(gI l ((j:Int)+1)).2)
def nH(p:d9)(e:Nat):Bool:=dM (iF (gI p.2 (e:Int))) ((gI p.2 (e:Int)).length-1)
def gz(p:d9)(k:Nat):Bool:=dM (nH p) k
section
variable{p:d9}{l:List Pt}{a b:Bool}{i k:Nat}
theorem kT(h:a=gz p k):1<=(1:Nat)/\a=(gz p k&&dM (iF l) (1-1)):=⟨Nat.le_refl _,by rw[h];simp[dM]⟩
theorem nP(h:1<=i/\a=(gz p k&&dM (iF l) (i-1)))(ha:a=true)(hx:(gI l ((i:Int)-1)).1=(gI l (i:Int)).1):1<=i+1/\true=(gz p k&&dM (iF l) (i+1-1)):=by
 obtain⟨h1,h2⟩:=h
 refine⟨by omega,?_⟩
 obtain⟨j,rfl⟩:∃j,i=j+1:=⟨i-1,by omega⟩
 have e:(((j+1:Nat):Int)-1)=(j:Int):=by omega
 have e2:((j+1:Nat):Int)=(j:Int)+1:=by omega
 rw[e,e2] at hx
 rw[Nat.add_sub_cancel,dM,<-Bool.and_assoc]
 rw[Nat.add_sub_cancel] at h2
 rw[<-h2,ha]
 unfold iF
 rw[decide_eq_true (.inl hx)];rfl
theorem nW(h:1<=i/\a=(gz p k&&dM (iF l) (i-1)))(ha:a=true)(hx:¬(gI l ((i:Int)-1)).1=(gI l (i:Int)).1):1<=i+1/\decide ((gI l ((i:Int)-1)).2=(gI l (i:Int)).2)=(gz p k&&dM (iF l) (i+1-1)):=by
 obtain⟨h1,h2⟩:=h
 refine⟨by omega,?_⟩
 obtain⟨j,rfl⟩:∃j,i=j+1:=⟨i-1,by omega⟩
 have e:(((j+1:Nat):Int)-1)=(j:Int):=by omega
 have e2:((j+1:Nat):Int)=(j:Int)+1:=by omega
 rw[e,e2] at hx ⊢
 rw[Nat.add_sub_cancel,dM,<-Bool.and_assoc]
 rw[Nat.add_sub_cancel] at h2
 rw[<-h2,ha]
 unfold iF
 rw[Bool.true_and,decide_eq_decide]
 exact⟨.inr,λh=>h.resolve_left hx⟩
theorem nN(h:1<=i/\a=(gz p k&&dM (iF l) (i-1)))(ha:¬a=true):1<=i+1/\false=(gz p k&&dM (iF l) (i+1-1)):=by
 obtain⟨h1,h2⟩:=h
 refine⟨by omega,?_⟩
 obtain⟨j,rfl⟩:∃j,i=j+1:=⟨i-1,by omega⟩
 rw[Nat.add_sub_cancel,dM,<-Bool.and_assoc]
 rw[Nat.add_sub_cancel] at h2
 rw[<-h2,Bool.eq_false_iff.2 ha];rfl
theorem m9(hb:b=gz p k)(h:1<=i/\a=(gz p k&&dM (iF (gI p.2 (k:Int))) (i-1)))(hi:¬(i:Int)<(gI p.2 (k:Int)).length)(hi2:(i:Int)<=(gI p.2 (k:Int)).length):a=gz p (k+1):=by
 have:i=(gI p.2 (k:Int)).length:=by omega
 rw[h.2,this];rfl
end
def eO(p:d9):Int×Int:=
 if 0<((ba p).length:Int) then((iG (ba p) (ba p).length).1-(iE (ba p) (ba p).length).1,(iG (ba p) (ba p).length).2-(iE (ba p) (ba p).length).2) else(0,0)
def d3(p:d9):Int×Int×Int×Bool×Bool:=(dU p p.2.length,(eO p).1,(eO p).2,decide (dU p p.2.length=0),gz p p.2.length)
def a8(g:dj)(p:d9):(Int×Int×Int×Bool×Bool)×Int:=
 if du g then if c9 g p=[] then(d3 p,0) else((0,0,0,false,false),24) else((0,0,0,false,false),1)
section
variable{g:dj}{p:d9}
theorem jV(h:mQ g p):∀q∈ba p,de q:=by
 intro q hq
 unfold ba at hq
 rcases List.mem_append.1 hq with hq|hq
 · obtain⟨i,hi,rfl⟩:=List.mem_iff_getElem.1 hq
   have:=h.pt (i:Int) (by omega) (by omega)
   rwa[show gI p.1 (i:Int)=p.1[i] by simp[gI,hi]] at this
 · obtain⟨l,hl,hq⟩:=List.mem_flatten.1 hq
   obtain⟨i,hi,rfl⟩:=List.mem_iff_getElem.1 hl
   have:=(h.ln (i:Int) (by omega) (by omega)).2.2
   rw[show gI p.2 (i:Int)=p.2[i] by simp[gI,hi]] at this
   exact this q hq
theorem k9{l:List Pt}(h:∀q∈l,de q)(h0:0<l.length):∀k:Nat,k<=l.length->de (iE l k)/\de (iG l k)
 |0,_=>⟨h _ (bp (by omega) (by omega)),h _ (bp (by omega) (by omega))⟩
 |k+1,hk=>by
   obtain⟨h1,h2⟩:=k9 h h0 k (by omega)
   have h3:=h _ (bp (xs:=l) (i:=(k:Int)) (by omega) (by omega))
   unfold iE iG
   unfold de at*
   simp only
   omega
theorem jX(h:¬du g):a8 g p=((0,0,0,false,false),1):=by unfold a8;rw[if_neg h]
theorem iU(h:du g){F:List dA}(hF:F=c9 g p)(h1:0<(F.length:Int)):a8 g p=((0,0,0,false,false),24):=by
 unfold a8
 rw[if_pos h,if_neg]
 intro e
 rw[hF,e] at h1
 simp at h1
theorem gg(h:du g)(h1:c9 g p=[]):a8 g p=(d3 p,0):=by unfold a8;rw[if_pos h,if_pos h1]
theorem mX{n:Int}{a:Bool}{k q:Nat}{x1 x2 y1 y2:Int}(hn:n=dU p k)(ha:a=gz p k)(hk:k=p.2.length)(h0:0<((ba p).length:Int))(hb:(x1=(iE (ba p) q).1/\x2=(iE (ba p) q).2)/\y1=(iG (ba p) q).1/\y2=(iG (ba p) q).2)(hq:q=(ba p).length):
   (n,y1-x1,y2-x2,decide (n=0),a)=d3 p:=by
 obtain⟨⟨e1,e2⟩,e3,e4⟩:=hb
 subst hk hq
 unfold d3 eO
 rw[if_pos h0,hn,ha,e1,e2,e3,e4]
theorem mb{n:Int}{a:Bool}{k:Nat}(hn:n=dU p k)(ha:a=gz p k)(hk:k=p.2.length)(h0:¬0<((ba p).length:Int)):(n,0,0,decide (n=0),a)=d3 p:=by
 subst hk
 unfold d3 eO
 rw[if_neg h0,hn,ha]
end
def nC(p:d9)(l:List Int):List Pt:=l.map (nI p)
def mF(p:d9)(o:Pt)(l:List Int):Prop:=∃j:Nat,j<l.length/\0<j/\jO (nj (gI (nC p l) (gI (arL o (nC p l)) ((j:Int)-1))) o) (nj (gI (nC p l) (gI (arL o (nC p l)) (j:Int))) o)
noncomputable instance (p:d9) (o:Pt) (l:List Int):Decidable (mF p o l):=by unfold mF;infer_instance
def ny(g:dj)(p:d9):Prop:=∃v:Nat,v<g.1.toNat/\mF p (gI p.1 (v:Int)) (nO g (v:Int))
noncomputable instance (g:dj) (p:d9):Decidable (ny g p):=by unfold ny;infer_instance
end TL
/-
  TlFloat: floating numbers that are no NaN and have no sign: their bits, as a natural number, stand as they do; sums, roots and quotients of such.
  By an AI agent.
-/
set_option linter.all false
namespace TL
open Ieee
abbrev aD:Nat:=9218868437227405312
abbrev dm:Nat:=9221120237041090561
def mg(x:Nat):Nat:=if x<4503599627370496 then x else 4503599627370496+x%4503599627370496
def pl(x:Nat):Nat:=x/4503599627370496-1
def vl(x:Nat):Nat:=mg x*2^pl x
theorem jn:double.binade=4503599627370496:=by decide
theorem gu:double.infRung=aD:=by decide
theorem kP:double.signWeight=9223372036854775808:=by decide
theorem lg:double.leastPlace= -1074:=by decide
theorem cf{x:Nat}(h:x<aD):double.read x= .number false (mg x) (-1074+(pl x:Nat)):=by
 unfold Format.read
 simp only[jn,gu,kP,lg]
 have hh:x<9218868437227405312:=h
 have h1:x/9223372036854775808=0:=Nat.div_eq_of_lt (by omega)
 have h2:x%9223372036854775808=x:=Nat.mod_eq_of_lt (by omega)
 rw[h1,h2]
 by_cases hx:x<4503599627370496
 · rw[if_pos hx]
   have:pl x=0:=by unfold pl;omega
   simp[mg,hx,this]
 · rw[if_neg hx,if_pos h]
   simp[mg,hx,pl]
theorem dR:double.read aD= .infinity false:=by decide
theorem dx{x:Nat}(h:x<=aD):(∃m i,double.read x= .number false m i)\/double.read x= .infinity false:=by
 rcases Nat.lt_or_ge x aD with c|c
 · exact .inl ⟨_,_,cf c⟩
 · rw[show x=aD by omega];exact .inr dR
theorem fG{x:Nat}:mg x=0↔x=0:=by unfold mg;split<;>omega
theorem lQ(x:Nat):mg x<9007199254740992:=by unfold mg;split<;>omega
theorem l4{x y:Nat}(h:x<=y):pl x<=pl y:=by unfold pl;omega
theorem j3{x y:Nat}(h:x<y):vl x<vl y:=by
 unfold vl
 by_cases e:pl x=pl y
 · rw[e]
   refine Nat.mul_lt_mul_of_pos_right ?_ (Nat.two_pow_pos _)
   unfold mg;unfold pl at e
   split<;>split<;>omega
 · have hp:=l4 (Nat.le_of_lt h)
   obtain⟨d,hd⟩:∃d,pl y=pl x+1+d:=⟨pl y-pl x-1,by omega⟩
   have hy:4503599627370496<=mg y:=by
     unfold pl at e hd;unfold mg;split<;>omega
   rw[hd,Nat.pow_add,Nat.pow_succ]
   have hx:=lQ x
   have h1:0<2^pl x:=Nat.two_pow_pos _
   have h2:1<=2^d:=Nat.two_pow_pos _
   calc mg x*2^pl x<9007199254740992*2^pl x:=Nat.mul_lt_mul_of_pos_right hx h1
     _=4503599627370496*(2^pl x*2*1):=by omega
     _<=mg y*(2^pl x*2*2^d):=Nat.mul_le_mul hy (Nat.mul_le_mul_left _ h2)
theorem nm{x y:Nat}(h:x<=y):vl x<=vl y:=by
 rcases Nat.lt_or_ge x y with c|c
 · exact Nat.le_of_lt (j3 c)
 · rw[show x=y by omega];exact Nat.le_refl _
theorem ez(m k:Nat):m <<< k=m*2^k:=Nat.shiftLeft_eq m k
theorem iS(a b:Nat):min (-1074+(a:Int)) (-1074+(b:Int))= -1074+((min a b:Nat):Int):=by omega
theorem lV(a b:Nat):(-1074+(a:Int)-(-1074+((min a b:Nat):Int))).toNat=a-min a b:=by omega
theorem ke(a b:Nat):(-1074+(b:Int)-(-1074+((min a b:Nat):Int))).toNat=b-min a b:=by omega
theorem el{a b:Nat}(h:b<=a):2^(a-b)*2^b=2^a:=by rw[<-Nat.pow_add];congr 1;omega
theorem l8(a b:Nat):compare (a:Int) (b:Int)=compare a b:=by
 rcases Nat.lt_trichotomy a b with h|h|h
 · simp[compare,compareOfLessAndEq,h]
 · subst h;simp[compare,compareOfLessAndEq]
 · have h1:¬a<b:=by omega
   have h2:¬a=b:=by omega
   have h3:¬(a:Int)<b:=by omega
   have h4:¬(a:Int)=b:=by omega
   simp[compare,compareOfLessAndEq,h1,h2,h3,h4]
theorem eG{a b:Nat}(h:a<b):compare a b= .lt:=by simp[compare,compareOfLessAndEq,h]
theorem dQ{a b:Nat}(h:b<a):compare a b= .gt:=by simp[compare,compareOfLessAndEq,Nat.not_lt.2 (Nat.le_of_lt h),Nat.ne_of_gt h]
theorem dJ(a:Nat):compare a a= .eq:=by simp[compare,compareOfLessAndEq]
theorem dp{x y:Nat}(hx:x<=aD)(hy:y<=aD):double.order x y=some (compare x y):=by
  unfold Format.order
  rcases Nat.lt_or_ge x aD with cx|cx<;>rcases Nat.lt_or_ge y aD with cy|cy
  · rw[cf cx,cf cy]
    simp only[Datum.order,signed,iS,lV,ke,l8,ez,Bool.false_eq_true,if_false]
    have k1:=el (a:=pl x) (b:=min (pl x) (pl y)) (by omega)
    have k2:=el (a:=pl y) (b:=min (pl x) (pl y)) (by omega)
    have h0:0<2^min (pl x) (pl y):=Nat.two_pow_pos _
    have e1:vl x=mg x*2^(pl x-min (pl x) (pl y))*2^min (pl x) (pl y):=by rw[Nat.mul_assoc,k1];rfl
    have e2:vl y=mg y*2^(pl y-min (pl x) (pl y))*2^min (pl x) (pl y):=by rw[Nat.mul_assoc,k2];rfl
    rcases Nat.lt_trichotomy x y with c|c|c
    · rw[eG c];congr 1;refine eG ?_
      have:=j3 c;rw[e1,e2] at this;exact Nat.lt_of_mul_lt_mul_right this
    · subst c;rw[dJ,dJ]
    · rw[dQ c];congr 1;refine dQ ?_
      have:=j3 c;rw[e1,e2] at this;exact Nat.lt_of_mul_lt_mul_right this
  · rw[cf cx,show y=aD by omega,dR];simp[Datum.order,eG cx]
  · rw[cf cy,show x=aD by omega,dR];simp[Datum.order,dQ cy]
  · rw[show x=aD by omega,show y=aD by omega,dR];simp[Datum.order,dJ]
theorem dy(m:Nat)(p:Int):double.nearest false m p<=aD:=by
 unfold Format.nearest
 dsimp only
 split
 · simp[Format.word]
 · simp only[Format.word,Bool.false_eq_true,if_false]
   exact Nat.le_trans (Nat.min_le_right _ _) (Nat.le_of_eq gu)
theorem cU:double.write (.infinity false)=aD:=by decide
theorem gn(s:Bool){r:Nat}(h:r<=aD):∀q t,double.read (double.word s r)≠ .nan q t:=by
 intro q t
 unfold Format.read
 simp only[jn,gu,kP,lg]
 have h2:double.word s r%9223372036854775808=r:=by
   have h':r<=9218868437227405312:=h
   unfold Format.word;rw[kP];split<;>omega
 rw[h2]
 have h':r<=9218868437227405312:=h
 split
 · simp
 · split
   · simp
   · rename_i c;have c':¬r<9218868437227405312:=c
     rw[if_pos (show r=aD by show r=9218868437227405312;omega)];simp
theorem jG(s:Bool)(m:Nat)(p:Int):∃r,r<=aD/\double.nearest s m p=double.word s r:=by
 unfold Format.nearest
 dsimp only
 split
 · exact⟨0,by omega,rfl⟩
 · exact⟨_,Nat.le_trans (Nat.min_le_right _ _) (Nat.le_of_eq gu),rfl⟩
def cr(x y:Nat):Nat:=(double.add x y).getD dm
def cF(x y:Nat):Nat:=(double.sub x y).getD dm
def eM(x y:Nat):Nat:=(double.mul x y).getD dm
def aJ(x y:Nat):Nat:=(double.div x y).getD dm
def ao(x:Nat):Nat:=(double.sqrt x).getD dm
theorem jA{o:Option Nat}{d:Nat}(h:o.isSome=true):o=some (o.getD d):=by cases o<;>simp_all
theorem e9{x y:Nat}(hx:x<=aD)(hy:y<=aD):double.add x y=some (cr x y)/\cr x y<=aD:=by
 have:∃z,double.add x y=some z/\z<=aD:=by
   unfold Format.add
   rcases dx hx with⟨m,i,e⟩|e<;>rcases dx hy with⟨n,j,e'⟩|e'<;>rw[e,e']
   · refine⟨_,rfl,?_⟩
     have k:(if signed false m (i-min i j).toNat+signed false n (j-min i j).toNat=0 then false&&false else decide (signed false m (i-min i j).toNat+signed false n (j-min i j).toNat<0))=false:=by
       simp only[signed,Bool.false_eq_true,if_false]
       split
       · rfl
       · exact decide_eq_false (Int.not_lt.2 (Int.add_nonneg (Int.natCast_nonneg _) (Int.natCast_nonneg _)))
     simp only[k]
     exact dy _ _
   · exact⟨_,rfl,Nat.le_of_eq cU⟩
   · exact⟨_,rfl,Nat.le_of_eq cU⟩
   · exact⟨_,rfl,Nat.le_of_eq cU⟩
 obtain⟨z,h1,h2⟩:=this
 unfold cr;rw[h1];exact⟨rfl,h2⟩
theorem jU{x y:Nat}(hx:x<aD)(hy:y<=aD):double.sub x y=some (cF x y):=by
 refine jA ?_
 unfold Format.sub
 rw[cf hx]
 rcases dx hy with⟨n,j,e⟩|e<;>rw[e]<;>rfl
def ng(x:Nat):Prop:=∀q t,double.read x≠ .nan q t
theorem gp{d:Datum}(h:∀q t,d≠ .nan q t):ng (double.write d):=by
 cases d with
 |nan q t=>exact absurd rfl (h q t)
 |infinity s=>exact gn s (r:=aD) (Nat.le_refl _)
 |number s m i=>
   obtain⟨r,hr,e⟩:=jG s m i
   show ng (double.nearest s m i)
   rw[e];exact gn s hr
theorem kM{x y:Nat}(hx:x<aD)(hy:y<=aD):ng (cF x y):=by
 have h:=jU hx hy
 unfold Format.sub at h
 rw[cf hx] at h
 rcases dx hy with⟨n,j,e⟩|e<;>rw[e] at h
 · rw[<-Option.some.inj h];exact gp (λq t=>by simp)
 · rw[<-Option.some.inj h];exact gp (λq t=>by simp)
theorem lT{x:Nat}(h:ng x):double.mul x x=some (eM x x)/\eM x x<=aD:=by
 have:∃z,double.mul x x=some z/\z<=aD:=by
   unfold Format.mul
   cases e:double.read x with
   |nan q t=>exact absurd e (h q t)
   |infinity s=>exact⟨_,rfl,by cases s<;>decide⟩
   |number s m i=>
     refine⟨_,rfl,?_⟩
     simp only[Datum.product,Bool.xor_self]
     exact dy _ _
 obtain⟨z,h1,h2⟩:=this
 unfold eM;rw[h1];exact⟨rfl,h2⟩
theorem iw{x y:Nat}(hx:x<=aD)(hy:y<aD)(h:¬y=0):double.div x y=some (aJ x y)/\aJ x y<=aD:=by
 have:∃z,double.div x y=some z/\z<=aD:=by
   unfold Format.div
   rw[cf hy]
   have h0:¬mg y=0:=λe=>h (fG.1 e)
   rcases dx hx with⟨m,i,e⟩|e<;>rw[e]
   · simp only[Datum.quotient,if_neg h0,Option.map_some]
     exact⟨_,rfl,dy _ _⟩
   · exact⟨_,rfl,Nat.le_of_eq cU⟩
 obtain⟨z,h1,h2⟩:=this
 unfold aJ;rw[h1];exact⟨rfl,h2⟩
theorem ks{x:Nat}(hx:x<=aD)(h:¬x=0):double.div x 0=some aD:=by
 unfold Format.div
 rw[cf (x:=0) (by omega)]
 have h0:mg 0=0:=rfl
 rcases Nat.lt_or_ge x aD with c|c
 · have h1:¬mg x=0:=λe=>h (fG.1 e)
   rw[cf c]
   simp only[Datum.quotient,h0,if_neg h1,if_true]
   rfl
 · rw[show x=aD by omega,dR];rfl
theorem eK{x:Nat}(hx:x<=aD):double.sqrt x=some (ao x)/\ao x<=aD:=by
 have:∃z,double.sqrt x=some z/\z<=aD:=by
   unfold Format.sqrt
   rcases dx hx with⟨m,i,e⟩|e<;>rw[e]
   · simp only[Datum.root]
     split
     · exact⟨_,rfl,dy _ _⟩
     · exact⟨_,rfl,dy _ _⟩
   · exact⟨_,rfl,Nat.le_of_eq cU⟩
 obtain⟨z,h1,h2⟩:=this
 unfold ao;rw[h1];exact⟨rfl,h2⟩
end TL
/-
  TlFloat2: how far a rounded number lies from what is rounded; sums and roots that are finite; sums with nought.
  By an AI agent.
-/
set_option linter.all false
namespace TL
open Ieee
def fw(n d:Nat):Nat:=n/2^d+(if 2^d<2*(n%2^d)\/2^d=2*(n%2^d)/\n/2^d%2=1 then 1 else 0)
theorem n0(s:Bool)(n d:Nat):Toward.even.cut s n d=fw n d:=by
 unfold Toward.cut fw
 simp only[ez,Nat.one_mul]
 have hb:∀g:Nat,(n/g+(decide (g<2*(n%g))||g==2*(n%g)&&n/g%2==1).toNat)=n/g+(if g<2*(n%g)\/g=2*(n%g)/\n/g%2=1 then 1 else 0):=by
   intro g
   congr 1
   by_cases c:g<2*(n%g)\/g=2*(n%g)/\n/g%2=1
   · rw[if_pos c]
     have:(decide (g<2*(n%g))||g==2*(n%g)&&n/g%2==1)=true:=by simpa using c
     rw[this];rfl
   · rw[if_neg c]
     have:(decide (g<2*(n%g))||g==2*(n%g)&&n/g%2==1)=false:=by
       rw[<-Bool.not_eq_true];simpa using c
     rw[this];rfl
 rw[hb]
 rcases(Nat.lt_or_ge (n.log2+2) d).symm with c|c
 · rw[Nat.min_eq_left c]
 · rw[Nat.min_eq_right (Nat.le_of_lt c)]
   have h1:n<2^(n.log2+1):=Nat.lt_log2_self
   have h2:2^(n.log2+2)=2*2^(n.log2+1):=by rw[Nat.pow_succ];omega
   have h3:2^(n.log2+2)<=2^d:=Nat.pow_le_pow_right (by omega) (by omega)
   rw[Nat.div_eq_of_lt (show n<2^(n.log2+2) by omega),Nat.mod_eq_of_lt (show n<2^(n.log2+2) by omega),Nat.div_eq_of_lt (show n<2^d by omega),Nat.mod_eq_of_lt (show n<2^d by omega)]
   rw[if_neg (by omega),if_neg (by omega)]
theorem ey(n d k:Nat):fw (n*2^k) (d+k)=fw n d:=by
 unfold fw
 have h0:0<2^k:=Nat.two_pow_pos _
 rw[Nat.pow_add,Nat.mul_div_mul_right _ _ h0,Nat.mul_mod_mul_right]
 have e:2*(n%2^d*2^k)=2*(n%2^d)*2^k:=by rw[Nat.mul_assoc]
 rw[e]
 congr 1
 have a1:2^d*2^k<2*(n%2^d)*2^k↔2^d<2*(n%2^d):=⟨λh=>Nat.lt_of_mul_lt_mul_right h,λh=>Nat.mul_lt_mul_of_pos_right h h0⟩
 have a2:2^d*2^k=2*(n%2^d)*2^k↔2^d=2*(n%2^d):=⟨λh=>Nat.eq_of_mul_eq_mul_right h0 h,λh=>congrArg (· *2^k) h⟩
 simp only[a1,a2]
theorem ej(n:Nat):fw n 0=n:=by unfold fw;simp[Nat.mod_one]
def rd(T:Nat):Nat:=if T=0 then 0 else min ((T.log2-52)*4503599627370496+fw T (T.log2-52)) aD
theorem eE{m:Nat}(h:m≠0)(k:Nat):(m*2^k).log2=m.log2+k:=by
 have h0:0<2^k:=Nat.two_pow_pos _
 have hp:m*2^k≠0:=by
   intro e;rcases Nat.mul_eq_zero.1 e with c|c<;>omega
 refine(Nat.log2_eq_iff hp).2 ⟨?_,?_⟩
 · rw[Nat.pow_add];exact Nat.mul_le_mul_right _ (Nat.log2_self_le h)
 · rw[Nat.add_right_comm,Nat.pow_add];exact Nat.mul_lt_mul_of_pos_right Nat.lt_log2_self h0
theorem gG(m i:Nat):double.nearest false m (-1074+(i:Int))=rd (m*2^i):=by
 unfold Format.nearest rd
 by_cases h:m=0
 · subst h;simp[Format.word]
 have h0:0<2^i:=Nat.two_pow_pos _
 have hp:m*2^i≠0:=by
   intro e;rcases Nat.mul_eq_zero.1 e with c|c<;>omega
 rw[if_neg h,if_neg hp]
 simp only[jn,lg,Format.word,Bool.false_eq_true,if_false,n0,eE h,show double.fractionBits=52 from rfl]
 have hI:double.infRung=aD:=gu
 rw[hI]
 have e1:(max (-1074+(i:Int)+(m.log2:Int)-((52:Nat):Int)) (-1074)-(-1074)).toNat=m.log2+i-52:=by omega
 rw[e1]
 congr 2
 rw[ez]
 rcases(Nat.lt_or_ge (m.log2+i-52) i).symm with c|c
 · have e2:((-1074+(i:Int))-max (-1074+(i:Int)+(m.log2:Int)-((52:Nat):Int)) (-1074)).toNat=0:=by omega
   have e3:(max (-1074+(i:Int)+(m.log2:Int)-((52:Nat):Int)) (-1074)-(-1074+(i:Int))).toNat=m.log2+i-52-i:=by omega
   rw[e2,e3,Nat.pow_zero,Nat.mul_one]
   conv=>rhs;rw[show m.log2+i-52=(m.log2+i-52-i)+i by omega]
   rw[ey]
 · have e2:((-1074+(i:Int))-max (-1074+(i:Int)+(m.log2:Int)-((52:Nat):Int)) (-1074)).toNat=i-(m.log2+i-52):=by omega
   have e3:(max (-1074+(i:Int)+(m.log2:Int)-((52:Nat):Int)) (-1074)-(-1074+(i:Int))).toNat=0:=by omega
   rw[e2,e3,ej]
   generalize hE:m.log2+i-52=E at c ⊢
   have nd:=ey (m*2^(i-E)) 0 E
   rw[Nat.zero_add,ej,Nat.mul_assoc,<-Nat.pow_add,Nat.sub_add_cancel (Nat.le_of_lt c)] at nd
   exact nd.symm
theorem iH{T:Nat}(h:T≠0):rd T≠0:=by
 unfold rd;rw[if_neg h]
 have h1:1<=T/2^(T.log2-52):=by
   refine(Nat.le_div_iff_mul_le (Nat.two_pow_pos _)).2 ?_
   rw[Nat.one_mul]
   exact Nat.le_trans (Nat.pow_le_pow_right (by omega) (by omega)) (Nat.log2_self_le h)
 have h2:1<=fw T (T.log2-52):=Nat.le_trans h1 (Nat.le_add_right _ _)
 have hI:aD=9218868437227405312:=rfl
 have h3:1<=(T.log2-52)*4503599627370496+fw T (T.log2-52):=by omega
 rw[Nat.min_def];split<;>omega
theorem k7{T k:Nat}(h:T<2^(k+1))(hk:52<=k):rd T<=(k-50)*4503599627370496:=by
  unfold rd
  by_cases h0:T=0
  · rw[if_pos h0];exact Nat.zero_le _
  rw[if_neg h0]
  refine Nat.le_trans (Nat.min_le_left _ _) ?_
  have hl:T.log2<=k:=by have:=(Nat.log2_lt h0).2 h;omega
  have h1:T/2^(T.log2-52)<9007199254740992:=by
    refine(Nat.div_lt_iff_lt_mul (Nat.two_pow_pos _)).2 ?_
    refine Nat.lt_of_lt_of_le (Nat.lt_log2_self (n:=T)) ?_
    rw[show(9007199254740992:Nat)=2^53 by decide,<-Nat.pow_add]
    exact Nat.pow_le_pow_right (by omega) (by omega)
  have h2:fw T (T.log2-52)<=9007199254740992:=by
    unfold fw;split<;>omega
  omega
theorem lU{x e:Nat}(h:x<=e*4503599627370496)(he:1<=e):vl x<=2^(51+e):=by
 have h1:vl (e*4503599627370496)=2^(51+e):=by
   unfold vl mg pl
   rw[if_neg (by omega),Nat.mul_mod_left,Nat.mul_div_cancel _ (by omega),Nat.add_zero,show(4503599627370496:Nat)=2^52 by decide,<-Nat.pow_add]
   congr 1;omega
 rw[<-h1];exact nm h
theorem iK{x y:Nat}(hx:x<aD)(hy:y<aD):cr x y=rd (vl x+vl y):=by
 unfold cr Format.add
 rw[cf hx,cf hy]
 simp only[Datum.sum,signed,iS,lV,ke,ez,Bool.false_eq_true,if_false,Option.map_some,Option.getD_some]
 have k1:=el (a:=pl x) (b:=min (pl x) (pl y)) (by omega)
 have k2:=el (a:=pl y) (b:=min (pl x) (pl y)) (by omega)
 have k:(if((mg x*2^(pl x-min (pl x) (pl y)):Nat):Int)+((mg y*2^(pl y-min (pl x) (pl y)):Nat):Int)=0 then false&&false else decide (((mg x*2^(pl x-min (pl x) (pl y)):Nat):Int)+((mg y*2^(pl y-min (pl x) (pl y)):Nat):Int)<0))=false:=by
   split
   · rfl
   · exact decide_eq_false (Int.not_lt.2 (Int.add_nonneg (Int.natCast_nonneg _) (Int.natCast_nonneg _)))
 rw[k]
 show double.nearest false _ _=_
 rw[gG]
 congr 1
 rw[<-Int.natCast_add,Int.natAbs_natCast,Nat.add_mul,Nat.mul_assoc,k1,Nat.mul_assoc,k2]
 rfl
theorem nc{x:Nat}(h:x<aD):rd (vl x)=x:=by
 have hI:aD=9218868437227405312:=rfl
 unfold rd
 by_cases h0:x=0
 · subst h0;rfl
 have hm:mg x≠0:=λe=>h0 (fG.1 e)
 have hv:vl x≠0:=by
   intro e;rcases Nat.mul_eq_zero.1 e with c|c
   · exact hm c
   · have:=Nat.two_pow_pos (pl x);omega
 rw[if_neg hv]
 unfold vl
 rw[eE hm]
 by_cases hs:x<4503599627370496
 · have e1:mg x=x:=by unfold mg;rw[if_pos hs]
   have e2:pl x=0:=by unfold pl;omega
   have e3:x.log2<52:=(Nat.log2_lt h0).2 hs
   rw[e1,e2,show x.log2+0-52=0 by omega,ej,Nat.pow_zero,Nat.mul_one,Nat.zero_mul,Nat.zero_add,Nat.min_eq_left (Nat.le_of_lt h)]
 · have e1:mg x=4503599627370496+x%4503599627370496:=by unfold mg;rw[if_neg hs]
   have e3:(mg x).log2=52:=(Nat.log2_eq_iff hm).2 ⟨by rw[e1];show 4503599627370496<=_;omega,by rw[e1];show _<9007199254740992;omega⟩
   rw[e3,show 52+pl x-52=0+pl x by omega,ey,ej,e1]
   have:(0+pl x)*4503599627370496+(4503599627370496+x%4503599627370496)=x:=by unfold pl;omega
   rw[this,Nat.min_eq_left (Nat.le_of_lt h)]
theorem ji:vl 0=0:=rfl
theorem k8{x:Nat}(h:x<=aD):cr 0 x=x:=by
 rcases Nat.lt_or_ge x aD with c|c
 · rw[iK (by decide) c,ji,Nat.zero_add,nc c]
 · rw[show x=aD by omega];decide
theorem jm{x y:Nat}(hx:x<aD)(hy:y<aD)(h:x≠0):cr x y≠0:=by
 rw[iK hx hy]
 refine iH ?_
 have:0<vl x:=by have:=j3 (show 0<x by omega);rw[ji] at this;exact this
 omega
theorem iz{x y e:Nat}(hx:x<=e*4503599627370496)(hy:y<=e*4503599627370496)(he:1<=e)(h2:e<2047):cr x y<=(e+2)*4503599627370496:=by
  have hI:aD=9218868437227405312:=rfl
  rw[iK (by omega) (by omega)]
  have h1:=lU hx he
  have h2:=lU hy he
  have h3:2^(52+e)=2*2^(51+e):=by rw[show 52+e=51+e+1 by omega,Nat.pow_succ];omega
  have h4:2^(52+e+1)=2*2^(52+e):=by rw[Nat.pow_succ];omega
  have h5:0<2^(51+e):=Nat.two_pow_pos _
  have:=k7 (T:=vl x+vl y) (k:=52+e) (by omega) (by omega)
  rw[show 52+e-50=e+2 by omega] at this
  exact this
theorem e8(n:Nat):∀t r:Nat,Datum.rootFrom n t r<r+2^t
 |0,r=>by simp[Datum.rootFrom]
 |t+1,r=>by
   unfold Datum.rootFrom
   simp only[ez,Nat.one_mul]
   have h0:0<2^t:=Nat.two_pow_pos _
   split
   · have:=e8 n t (r+2^t);rw[Nat.pow_succ];omega
   · have:=e8 n t r;rw[Nat.pow_succ];omega
theorem l6{x e:Nat}(hx:x<=e*4503599627370496)(he:1<=e)(h2:e<2047):ao x<=(520+e/2)*4503599627370496/\(x≠0->ao x≠0):=by
  have hI:aD=9218868437227405312:=rfl
  unfold ao Format.sqrt
  rw[cf (by omega)]
  simp only[Datum.root]
  by_cases h0:mg x=0
  · have hx0:=fG.1 h0
    subst hx0
    simp only[if_pos h0,Option.map_some,Option.getD_some]
    refine⟨?_,λh=>absurd rfl h⟩
    have:double.write (.number false (mg 0) (-1074+(pl 0:Nat)))=0:=by decide
    rw[this];exact Nat.zero_le _
  simp only[if_neg h0,Option.map_some,Option.getD_some,Bool.false_eq_true,if_false,show double.fractionBits+2=54 from rfl]
  generalize hm1:2*54-(mg x).log2=m1
  generalize hm2:m1+((-1074+(pl x:Int)-(m1:Int))%2).toNat=m2
  generalize hn:mg x <<< m2=n
  generalize hw:Datum.rootFrom n (n.log2/2+1) 0=q
  have hl:(mg x).log2<=52:=by have:=(Nat.log2_lt h0 (k:=53)).2 (lQ x);omega
  have hp:pl x<=e-1:=by unfold pl;omega
  have hnl:n.log2=(mg x).log2+m2:=by rw[<-hn,ez,eE h0]
  have hnb:n.log2<=109:=by omega
  have hq:=e8 n (n.log2/2+1) 0
  rw[hw] at hq
  have hq2:2^(n.log2/2+1)<=2^55:=Nat.pow_le_pow_right (by omega) (by omega)
  have hb:(q*q !=n).toNat<=1:=by cases(q*q !=n)<;>simp
  have hj:∃j:Nat,(-1074+(pl x:Int)-(m2:Int))/2-1= -1074+(j:Int)/\j<=508+e/2:=by
    refine⟨((-1074+(pl x:Int)-(m2:Int))/2-1+1074).toNat,?_,?_⟩<;>omega
  obtain⟨j,hj1,hj2⟩:=hj
  show double.nearest false _ _<=_/\(x≠0->double.nearest false _ _≠0)
  rw[hj1,gG]
  refine⟨?_,λhx0=>iH ?_⟩
  · have hT:(2*q+(q*q !=n).toNat)*2^j<2^(569+e/2+1):=by
      have a1:2*q+(q*q !=n).toNat<2^57:=by
        have:(2:Nat)^57=4*2^55:=by decide
        omega
      calc(2*q+(q*q !=n).toNat)*2^j<2^57*2^j:=Nat.mul_lt_mul_of_pos_right a1 (Nat.two_pow_pos _)
        _=2^(57+j):=(Nat.pow_add _ _ _).symm
        _<=_:=Nat.pow_le_pow_right (by omega) (by omega)
    have:=k7 hT (by omega)
    refine Nat.le_trans this (Nat.mul_le_mul_right _ (by omega))
  · intro e0
    rcases Nat.mul_eq_zero.1 e0 with c|c
    · have hq0:q=0:=by omega
      have hn0:n=0:=by
        rw[hq0] at c
        by_cases hz:n=0
        · exact hz
        · have:((0:Nat)*0 !=n)=true:=by simp;omega
          rw[this] at c;simp at c
      rw[<-hn,ez] at hn0
      rcases Nat.mul_eq_zero.1 hn0 with d|d
      · exact h0 d
      · have:=Nat.two_pow_pos m2;omega
    · have:=Nat.two_pow_pos j;omega
def kt(n:Nat):Nat:=double.nearest false n 0
theorem j1(n:Nat):kt n=rd (n*2^1074):=gG n 1074
theorem kn{n:Nat}(k:Nat)(h:n<2^64):n*2^k<2^(63+k+1):=by
 rw[show 63+k+1=64+k by omega,Nat.pow_add]
 exact Nat.mul_lt_mul_of_pos_right h (Nat.two_pow_pos _)
theorem kH{n:Nat}(h:n<2^64):kt n<=1088*4503599627370496:=by
 rw[j1]
 exact Nat.le_trans (k7 (kn 1074 h) (by decide)) (by decide)
theorem jY{n:Nat}(h:n≠0):kt n≠0:=by
 rw[j1];refine iH ?_
 intro e;rcases Nat.mul_eq_zero.1 e with c|c
 · exact h c
 · have:=Nat.two_pow_pos 1074;omega
end TL
/-
  TlFl: floating numbers in a walk: what each operation comes to.
  By an AI agent.
-/
set_option linter.all false
namespace TL
open Go
abbrev Fb:=Nat
instance:Rp Nat where
 sz:=1
 rep _ _ _ cs x:=cs=[.float .f64 x]
 len h:=by subst h;rfl
 one h:=by subst h;simp[Value.oneCell']
 tr _ _ h:=h
instance:Fl Nat where
 cells x:=[.float .f64 x]
 rep_iff:=Iff.rfl
def ak(m:Int):Nat:=FloatKind.f64.nearest m
theorem fU(n:Nat):ak (n:Int)=kt n:=by
 unfold ak FloatKind.nearest FloatKind.encode kt
 rw[decide_eq_false (by omega)];rfl
theorem eU{m:Int}(h:0<=m):ak m<=aD:=by
 obtain⟨n,rfl⟩:=Int.eq_ofNat_of_zero_le h
 rw[fU];exact dy _ _
theorem ia{m:Int}(h:0<=m)(h2:m<9223372036854775808):ak m<=1088*4503599627370496:=by
 obtain⟨n,rfl⟩:=Int.eq_ofNat_of_zero_le h
 rw[fU]
 refine kH ?_
 have:(n:Int)<9223372036854775808:=h2
 have e:(2:Nat)^64=18446744073709551616:=by decide
 omega
theorem eJ{m:Int}(h:0<m):ak m≠0:=by
 obtain⟨n,rfl⟩:=Int.eq_ofNat_of_zero_le (Int.le_of_lt h)
 rw[fU]
 refine jY ?_
 have:0<(n:Int):=h
 omega
theorem jJ:ak 0=0:=by decide
def bo(x:Nat):Bool:=Ieee.double.order x x !=some .eq
theorem jr{x:Nat}(h:x<=aD):bo x=false:=by
 unfold bo;rw[dp h h,dJ];rfl
theorem jW(t:Nat)(q:Nat×Nat):bo ((Question.nanBits .f64 q.1 q.2).cut t)=true:=by
 have h:∃n s,(Question.nanBits .f64 q.1 q.2).cut t=s*9223372036854775808+(9218868437227405313+n)/\n<4503599627370495/\s<2:=by
   refine⟨(t/2)%(2^52-1),t%2,?_,Nat.mod_lt _ (by decide),Nat.mod_lt _ (by decide)⟩
   simp only[Question.cut];omega
 obtain⟨n,s,e,hn,hs⟩:=h
 rw[e]
 unfold bo Ieee.Format.order Ieee.Format.read
 simp only[jn,gu,kP,lg]
 have h2:(s*9223372036854775808+(9218868437227405313+n))%9223372036854775808=9218868437227405313+n:=by omega
 rw[h2]
 have hI:aD=9218868437227405312:=rfl
 rw[if_neg (by omega),if_neg (by omega),if_neg (by omega)]
 rfl
section
variable{P:Program}{f:Fr}{w:World}{dst:Option Tmp}{ty:TypeId}{pos:String}{after:Array Edge}{g:Option (Nat×Bool)}{t t' s d:TypeId}{x y:Operand}{a b r:Nat}
variable{N:Value->World->Prop}
theorem j6{m:Int}{us:TypeDesc}(hs:P.underlying s=some us)(hd:P.underlying d=some (.float .f64))(hx:ev f x= .int .i64 m):(execOp (ev f) ⟨dst,.convert s d x,ty,pos,after,g⟩).run P w= .ok (.value (.float .f64 (ak m))) w:=by
 simp[execOp,convert,hx,bf hs,bf hd,Conv.intToFloat,ak]
theorem eo(op:BinOp):(eqGuard op t x y (.float .f64 a) (.float .f64 b)).run P w= .ok () w:=by
 unfold eqGuard
 split<;>rfl
theorem iJ(hx:ev f x= .float .f64 a)(hy:ev f y= .float .f64 b)(h:Ieee.double.add a b=some r):(execOp (ev f) ⟨dst,.binOp .add t x y t',ty,pos,after,g⟩).run P w= .ok (.value (.float .f64 r)) w:=
 gb .add hx hy (eo _) (run_float_arith w .add t .f64 a b r h)
theorem mY(hx:ev f x= .float .f64 a)(hy:ev f y= .float .f64 b)(h:Ieee.double.sub a b=some r):(execOp (ev f) ⟨dst,.binOp .sub t x y t',ty,pos,after,g⟩).run P w= .ok (.value (.float .f64 r)) w:=
 gb .sub hx hy (eo _) (run_float_arith w .sub t .f64 a b r h)
theorem m5(hx:ev f x= .float .f64 a)(hy:ev f y= .float .f64 b)(h:Ieee.double.mul a b=some r):(execOp (ev f) ⟨dst,.binOp .mul t x y t',ty,pos,after,g⟩).run P w= .ok (.value (.float .f64 r)) w:=
 gb .mul hx hy (eo _) (run_float_arith w .mul t .f64 a b r h)
theorem km(hx:ev f x= .float .f64 a)(hy:ev f y= .float .f64 b)(h:Ieee.double.div a b=some r):(execOp (ev f) ⟨dst,.binOp .quo t x y t',ty,pos,after,g⟩).run P w= .ok (.value (.float .f64 r)) w:=
 gb .quo hx hy (eo _) (run_float_arith w .quo t .f64 a b r h)
def fR:Option Nat->Nat->Prop
  |some v,r=>r=v
  |none,r=>bo r=true
theorem jQ(γ:aT)(w:World):aX no γ w γ w.drew:=⟨rfl,rfl,rfl,Nat.le_refl _,λ_ _ _=>rfl,λ_ _ _=>rfl,Nat.le_succ _⟩
theorem iq(γ:aT)(hx:ev f x= .float .f64 a)(hy:ev f y= .float .f64 b)(hk:∀r w',aX no γ w γ w'->fR (Ieee.double.div a b) r->N (.float .f64 r) w'):e5 P ⟨dst,.binOp .quo t x y t',ty,pos,after,g⟩ f w N:=by
 have hg:=eo (P:=P) (w:=w) (t:=t) (x:=x) (y:=y) (a:=a) (b:=b) .quo
 unfold e5
 cases e:Ieee.double.div a b with
 |some v=>
   rw[km hx hy e]
   exact hk v w (aX.refl _ _ _) (by rw[e];rfl)
 |none=>
   have h:(binOp .quo t (.float .f64 a) (.float .f64 b)).run P w= .ok (.float .f64 ((Question.nanBits .f64 a b).cut (w.tape w.drawn (.nanBits .f64 a b)))) w.drew:=by
     have e':FloatKind.f64.format.div a b=none:=e
     simp[binOp,Op.floatArith,e',run_choose_drew,Question.forced]
   have h2:(execOp (ev f) ⟨dst,.binOp .quo t x y t',ty,pos,after,g⟩).run P w= .ok (.value (.float .f64 ((Question.nanBits .f64 a b).cut (w.tape w.drawn (.nanBits .f64 a b))))) w.drew:=by
     simp only[execOp,hx,hy,Sem.run_bind,hg,Result.andThen_ok,h,Sem.run_pure]
   rw[h2]
   exact hk _ _ (jQ _ _) (by rw[e];exact jW _ (a,b))
theorem gK{op:BinOp}{q:Bool}(hx:ev f x= .float .f64 a)(hy:ev f y= .float .f64 b)(h:∀w:World,(binOp op t (.float .f64 a) (.float .f64 b)).run P w= .ok (.bool q) w):(execOp (ev f) ⟨dst,.binOp op t x y t',ty,pos,after,g⟩).run P w= .ok (.value (.bool q)) w:=
 gb op hx hy (eo _) (h w)
theorem bB{q:Bool}(hx:ev f x= .float .f64 a)(hy:ev f y= .float .f64 b)(h:(Ieee.double.order a b==some .eq)=q):(execOp (ev f) ⟨dst,.binOp .eql t x y t',ty,pos,after,g⟩).run P w= .ok (.value (.bool q)) w:=
 gK hx hy (λw=>by rw[binOp_float_cmp_eql];show Sem.run P (pure (Value.bool (Ieee.double.order a b==some .eq))) w=_;rw[h];rfl)
theorem cV{q:Bool}(hx:ev f x= .float .f64 a)(hy:ev f y= .float .f64 b)(h:(Ieee.double.order a b !=some .eq)=q):(execOp (ev f) ⟨dst,.binOp .neq t x y t',ty,pos,after,g⟩).run P w= .ok (.value (.bool q)) w:=
 gK hx hy (λw=>by rw[binOp_float_cmp_neq];show Sem.run P (pure (Value.bool (Ieee.double.order a b !=some .eq))) w=_;rw[h];rfl)
theorem m8(ha:a<=aD)(hb:b<=aD):(Ieee.double.order a b==some .eq)=decide (a=b):=by
 rw[dp ha hb]
 rcases Nat.lt_trichotomy a b with h|h|h
 · rw[eG h,decide_eq_false (by omega)];rfl
 · rw[h,dJ];simp
 · rw[dQ h,decide_eq_false (by omega)];rfl
theorem iy(hx:ev f x= .float .f64 a)(hy:ev f y= .float .f64 b)(ha:a<=aD)(hb:b<=aD):(execOp (ev f) ⟨dst,.binOp .eql t x y t',ty,pos,after,g⟩).run P w= .ok (.value (.bool (decide (a=b)))) w:=
 bB hx hy (m8 ha hb)
theorem mK(hx:ev f x= .float .f64 a)(hy:ev f y= .float .f64 b)(ha:a<=aD)(hb:b<=aD):(execOp (ev f) ⟨dst,.binOp .gtr t x y t',ty,pos,after,g⟩).run P w= .ok (.value (.bool (decide (b<a)))) w:=
 gK hx hy (λw=>by
   rw[binOp_float_cmp_gtr]
   show Sem.run P (pure (Value.bool (Ieee.double.order a b==some .gt))) w=_
   rw[dp ha hb]
   rcases Nat.lt_trichotomy a b with h|h|h
   · rw[eG h,decide_eq_false (by omega)];rfl
   · rw[h,dJ,decide_eq_false (by omega)];rfl
   · rw[dQ h,decide_eq_true h];rfl)
theorem cv(hx:ev f x= .float .f64 a)(hy:ev f y= .float .f64 a):(execOp (ev f) ⟨dst,.binOp .neq t x y t',ty,pos,after,g⟩).run P w= .ok (.value (.bool (bo a))) w:=
  cV hx hy rfl
theorem m0{at_:Array TypeId}(hx:ev f x= .float .f64 a)(hy:ev f y= .float .f64 b)(ha:a<=aD)(hb:b<=aD):(execOp (ev f) ⟨dst,.call {callee:=.builtin .min,args:= #[x,y],argTypes:=at_},ty,pos,after,g⟩).run P w= .ok (.value (.float .f64 (min a b))) w:=by
 have h:(Builtin.min2 (.float .f64 a) (.float .f64 b)).run P w= .ok (.float .f64 (min a b)) w:=by
   have e:FloatKind.f64.format.order a b=some (compare a b):=dp ha hb
   rcases Nat.lt_trichotomy a b with h|h|h
   · rw[eG h] at e;simp only[Builtin.min2,e,Nat.min_eq_left (Nat.le_of_lt h)];rfl
   · rw[h,dJ] at e;simp only[Builtin.min2,h,e,Nat.min_self,ite_self];rfl
   · rw[dQ h] at e;simp only[Builtin.min2,e,Nat.min_eq_right (Nat.le_of_lt h)];rfl
 simp[execOp,resolve,invoke,builtin,hx,hy,Builtin.min_,h]
theorem mw{at_:Array TypeId}(hx:ev f x= .float .f64 a)(hy:ev f y= .float .f64 b)(ha:a<=aD)(hb:b<=aD):(execOp (ev f) ⟨dst,.call {callee:=.builtin .max,args:= #[x,y],argTypes:=at_},ty,pos,after,g⟩).run P w= .ok (.value (.float .f64 (max a b))) w:=by
 have h:(Builtin.max2 (.float .f64 a) (.float .f64 b)).run P w= .ok (.float .f64 (max a b)) w:=by
   have e:FloatKind.f64.format.order a b=some (compare a b):=dp ha hb
   rcases Nat.lt_trichotomy a b with h|h|h
   · rw[eG h] at e;simp only[Builtin.max2,e,Nat.max_eq_right (Nat.le_of_lt h)];rfl
   · rw[h,dJ] at e;simp only[Builtin.max2,h,e,Nat.max_self,ite_self];rfl
   · rw[dQ h] at e;simp only[Builtin.max2,e,Nat.max_eq_left (Nat.le_of_lt h)];rfl
 simp[execOp,resolve,invoke,builtin,hx,hy,Builtin.max_,h]
theorem lL{fid:Nat}{fn:Func}{e:Array Value->Sem Value}{v u:Value}{at_:Array TypeId}(hf:P.funcs[fid]? =some fn)(hname:(fn.name== "runtime.NumGoroutine")=false)(hb:fn.body.isNone=true)(hn:(Extern.findNext fn).isNone=true)(he:Extern.find fn=some e)(hx:ev f x=v)(h:(e #[v]).run P w= .ok u w):
   (execOp (ev f) ⟨dst,.call {callee:=.value (.func fid),args:= #[x],argTypes:=at_},ty,pos,after,g⟩).run P w= .ok (.value u) w:=by
 have hn':Extern.findNext fn=none:=by simpa using hn
 have:=run_callFunc_extern hf hname hb hn' he #[v] w
 rw[h] at this
 have ha:(#[x]).map (ev f)= #[v]:=by simp[hx]
 have h0:∀q:Operand,ev f (.func fid)= .func (.func fid) #[] #[]:=λ_=>rfl
 simp only[execOp,resolve,h0 x,Deferred.ofValue,invoke,ha,Sem.run_bind,Sem.run_pure,Result.andThen_ok,Array.append_empty,Array.empty_append]
 exact this
theorem mE{fid:Nat}{fn:Func}{at_:Array TypeId}(hf:P.funcs[fid]? =some fn)(hname:(fn.name== "runtime.NumGoroutine")=false)(hb:fn.body.isNone=true)(hn:(Extern.findNext fn).isNone=true)(he:Extern.find fn=some Extern.MathSqrt.sqrt)(hx:ev f x= .float .f64 a)(h:Ieee.double.sqrt a=some r):
   (execOp (ev f) ⟨dst,.call {callee:=.value (.func fid),args:= #[x],argTypes:=at_},ty,pos,after,g⟩).run P w= .ok (.value (.float .f64 r)) w:=
 lL hf hname hb hn he hx (by
   have h':FloatKind.f64.format.sqrt a=some r:=h
   have e:Extern.MathSqrt.sqrt #[.float .f64 a]=(match FloatKind.f64.format.sqrt a with|some r=>pure (.float .f64 r)|none=>do pure (.float .f64 (<-choose (.nanBits .f64 a a)))):=rfl
   rw[e,h'];rfl)
theorem fZ{fid:Nat}{fn:Func}{at_:Array TypeId}{n:Int}(hf:P.funcs[fid]? =some fn)(hname:(fn.name== "runtime.NumGoroutine")=false)(hb:fn.body.isNone=true)(hn:(Extern.findNext fn).isNone=true)(he:Extern.find fn=some Extern.MathFloatBits.float64frombits)(hx:ev f x= .int .u64 n):
   (execOp (ev f) ⟨dst,.call {callee:=.value (.func fid),args:= #[x],argTypes:=at_},ty,pos,after,g⟩).run P w= .ok (.value (.float .f64 n.toNat)) w:=
 lL hf hname hb hn he hx rfl
end
end TL
/-
  TlMet: what layer 29 (metric) computes, in plain words.
  By an AI agent.
-/
set_option linter.all false
namespace TL
open Go
def la(a b:Pt):Int:=(b.1-a.1)*(b.1-a.1)+(b.2-a.2)*(b.2-a.2)
def aY(a b:Pt):Nat:=ak (la a b)
def k6(l:List Pt)(k:Nat):Nat:=ao (aY (gI l (k:Int)) (gI l ((k:Int)+1)))
def gR(l:List Pt):Nat->Nat
 |0=>k6 l 0
 |k+1=>cr (gR l k) (k6 l (k+1))
def dO(l:List Pt):Nat:=gR l (l.length-2)
def aC(p:d9):List Nat:=p.2.map dO
def fh(l:List Nat):Nat->Nat
 |0=>0
 |k+1=>cr (fh l k) (gI l (k:Int))
def gc(l:List Nat):Nat->Nat
 |0=>aD
 |k+1=>min (gc l k) (gI l (k:Int))
def fM(l:List Nat):Nat->Nat
 |0=>0
 |k+1=>max (fM l k) (gI l (k:Int))
def mt(m:Nat)(l:List Nat):Nat->Nat
 |0=>0
 |k+1=>cr (mt m l k) (eM (cF (gI l (k:Int)) m) (cF (gI l (k:Int)) m))
def dY(l:List Nat):Nat:=aJ (fh l l.length) (ak (l.length:Int))
def eZ(l:List Nat):Nat:=aJ (fM l l.length) (gc l l.length)
def ek(l:List Nat):Nat:=aJ (mt (dY l) l l.length) (ak (l.length:Int))
def ii(g:dj)(p:d9):Nat:=aJ (ak g.1) (ak (((d3 p).2.1+1)*((d3 p).2.2.1+1)))
abbrev o7:=Nat×Nat×Nat×Nat×Nat×Nat×Nat
def i7(l:List Nat)(x:Nat):o7:=(fh l l.length,dY l,gc l l.length,fM l l.length,eZ l,ek l,x)
def aL(g:dj)(p:d9):Int:=if du g then(a8 g p).2 else 1
def a9(g:dj)(p:d9):o7×Int:=if aL g p=0 then(i7 (aC p) (ii g p),0) else((0,0,0,0,0,0,0),aL g p)
def bj(g:dj)(p:d9):List Nat×Int:=if aL g p=0 then(aC p,0) else([],aL g p)
theorem fb(x:Int):0<=x*x:=by
 rcases Int.le_total 0 x with h|h
 · exact Int.mul_nonneg h h
 · exact Int.mul_nonneg_of_nonpos_of_nonpos h h
theorem kA(a b:Pt):0<=la a b:=Int.add_nonneg (fb _) (fb _)
theorem bW(a b:Pt):aY a b<=aD:=eU (kA a b)
theorem iX(l:List Pt)(k:Nat):k6 l k<=aD:=(eK (bW _ _)).2
theorem gV(l:List Pt):∀k,gR l k<=aD
 |0=>iX l 0
 |k+1=>(e9 (gV l k) (iX l (k+1))).2
theorem kL(l:List Pt):dO l<=aD:=gV l _
theorem j5(p:d9)(k:Int):gI (aC p) k<=aD:=by
 unfold gI
 rcases Nat.lt_or_ge k.toNat (aC p).length with h|h
 · have e:(aC p).getD k.toNat default=(aC p)[k.toNat]:=by simp[h]
   rw[e]
   have hm:(aC p)[k.toNat]∈aC p:=List.getElem_mem _
   obtain⟨q,_,hq⟩:=List.mem_map.1 hm
   rw[<-hq];exact kL _
 · have e:(aC p).getD k.toNat default=0:=by simp[List.getD,h]
   rw[e];exact Nat.zero_le _
theorem kp{l:List Pt}{i s:Nat}(h:s=gR l (i-2)/\2<=i):cr s (ao (aY (gI l ((i:Int)-1)) (gI l (i:Int))))=gR l (i+1-2)/\2<=i+1:=by
 obtain⟨h1,h2⟩:=h
 obtain⟨k,rfl⟩:∃k,i=k+2:=⟨i-2,by omega⟩
 refine⟨?_,by omega⟩
 rw[h1,show k+2-2=k by omega,show k+2+1-2=k+1 by omega]
 show _=cr (gR l k) (k6 l (k+1))
 unfold k6
 rw[show(((k+2:Nat):Int)-1)=((k+1:Nat):Int) by omega,show((k+2:Nat):Int)=((k+1:Nat):Int)+1 by omega]
theorem kJ{l:List Pt}{i s:Nat}(h:s=gR l (i-2)/\2<=i)(hi:¬(i:Int)<(l.length:Int))(hle:(i:Int)<=max (l.length:Int) 2)(h2:2<=l.length):s=dO l:=by
 rw[h.1];unfold dO;congr 1;omega
theorem j7{g:dj}{p:d9}(h:¬du g):aL g p=1:=by unfold aL;rw[if_neg h]
theorem gL{g:dj}{p:d9}(h:du g):aL g p=(a8 g p).2:=by unfold aL;rw[if_pos h]
theorem gS{g:dj}{p:d9}(h:aL g p=0):du g/\mQ g p/\(a8 g p).1=d3 p:=by
 by_cases hm:du g
 · rw[gL hm] at h
   unfold a8 at h ⊢
   rw[if_pos hm] at h ⊢
   by_cases hs:c9 g p=[]
   · rw[if_pos hs];exact⟨hm,ff.1 hs,rfl⟩
   · rw[if_neg hs] at h;exact absurd h (by decide)
 · rw[j7 hm] at h;exact absurd h (by decide)
theorem j8{l:List Nat}(h:∀k,gI l k<=aD):∀k,fh l k<=aD
 |0=>Nat.zero_le _
 |k+1=>(e9 (j8 h k) (h _)).2
theorem ns{o:Option Nat}{r v:Nat}(h:fR o r)(e:o=some v):r=v:=by subst e;exact h
end TL
namespace TL
open Go
theorem ju{f:Nat}(h:f<=aD):decide (9218868437227405311<f)=decide (f=aD):=by
 have hI:aD=9218868437227405312:=rfl
 rw[decide_eq_decide];omega
def ad(x:Nat):Nat:=if bo x=true then dm else x
theorem l3{x:Nat}(h:bo x=true):dm=ad x:=by unfold ad;rw[if_pos h]
theorem kE{x:Nat}(h:¬bo x=true):x=ad x:=by unfold ad;rw[if_neg h]
theorem l7{x:Nat}(h:¬bo x=true)(h0:x=0):0=ad x:=by unfold ad;rw[if_neg h,h0]
theorem j2{x:Int}(h1: -2097152<=x)(h2:x<=2097152):x*x<=4398046511104:=by
 rcases Int.le_total 0 x with h|h
 · calc x*x<=2097152*2097152:=Int.mul_le_mul h2 h2 h (by omega)
     _=_:=rfl
 · have e:x*x=(-x)*(-x):=(Int.neg_mul_neg x x).symm
   rw[e]
   calc(-x)*(-x)<=2097152*2097152:=Int.mul_le_mul (by omega) (by omega) (by omega) (by omega)
     _=_:=rfl
theorem jw{p:d9}{l:List Nat}{k:Nat}(h:l=(p.2.take k).map dO)(hk:(k:Int)<(p.2.length:Int)):l++[dO (gI p.2 (k:Int))]=(p.2.take (k+1)).map dO:=by
 have hk':k<p.2.length:=by omega
 rw[h,List.take_succ_eq_append_getElem hk',List.map_append]
 simp[gI,hk']
theorem kg{p:d9}{l:List Nat}{k:Nat}(h:l=(p.2.take k).map dO)(hk:¬(k:Int)<(p.2.length:Int)):l=aC p:=by
 rw[h,List.take_of_length_le (by omega)];rfl
end TL
namespace TL
open Go
theorem iC{x y v:Nat}(hx:x<=aD)(hy:y<=aD)(h:Ieee.double.div x y=some v):v<=aD:=by
 unfold Ieee.Format.div at h
 rcases dx hx with⟨m,i,e⟩|e<;>rcases dx hy with⟨n,j,e'⟩|e'<;>rw[e,e'] at h
 · simp only[Ieee.Datum.quotient] at h
   split at h
   · split at h
     · cases h
     · rw[<-Option.some.inj h];exact Nat.le_of_eq cU
   · rw[<-Option.some.inj h];exact dy _ _
 · rw[<-Option.some.inj h];exact dy _ _
 · rw[<-Option.some.inj h];exact Nat.le_of_eq cU
 · cases h
theorem nR{o:Option Nat}{r:Nat}(h:fR o r)(hn:¬bo r=true):r=o.getD dm:=by
 cases o with
 |some v=>exact h
 |none=>exact absurd h hn
theorem nS{o:Option Nat}{r:Nat}(h:fR o r)(hv:∀v,o=some v->v<=aD)(ht:bo r=true):ad r=o.getD dm:=by
 cases o with
 |some v=>
   obtain rfl:r=v:=h
   rw[jr (hv r rfl)] at ht;cases ht
 |none=>unfold ad;rw[if_pos ht];rfl
theorem gh{o:Option Nat}{r:Nat}(h:fR o r)(hv:∀v,o=some v->v<=aD):bo r=true\/r<=aD:=by
 cases o with
 |some v=>exact .inr (by obtain rfl:r=v:=h;exact hv r rfl)
 |none=>exact .inl h
theorem gP{m:Int}(h:0<=m)(h2:m<9223372036854775808):ak m<aD:=by
 have:=ia h h2
 have hI:aD=9218868437227405312:=rfl
 omega
theorem i2{l:List Nat}{s r:Nat}(hl:∀k,gI l k<=aD)(hs:s=fh l l.length)(h:fR (Ieee.double.div s (ak (l.length:Int))) r)(h0:0<l.length)(hb:(l.length:Int)<9223372036854775808):r=dY l/\r<=aD:=by
 have:=iw (x:=s) (y:=ak (l.length:Int)) (by rw[hs];exact j8 hl _) (gP (by omega) hb) (eJ (by omega))
 have e:=ns h this.1
 refine⟨?_,by rw[e];exact this.2⟩
 rw[e,hs];rfl
theorem mG{l:List Nat}{r:Nat}(h:0<l.length->r=dY l):mt r l l.length=mt (dY l) l l.length:=by
 rcases Nat.eq_zero_or_pos l.length with c|c
 · rw[c];rfl
 · rw[h c]
theorem im{l:List Pt}:∀k,(iE l k).1<=(iG l k).1/\(iE l k).2<=(iG l k).2
 |0=>⟨Int.le_refl _,Int.le_refl _⟩
 |k+1=>by
   obtain⟨h1,h2⟩:=im (l:=l) k
   unfold iE iG
   simp only
   omega
theorem lu{g:dj}{p:d9}(hs:mQ g p)(hlp:(a8 g p).1=d3 p):((0<=(a8 g p).1.2.1/\(a8 g p).1.2.1<=2097152)/\0<=(a8 g p).1.2.2.1/\(a8 g p).1.2.2.1<=2097152)/\0<((a8 g p).1.2.1+1)*((a8 g p).1.2.2.1+1)/\((a8 g p).1.2.1+1)*((a8 g p).1.2.2.1+1)<=4398050705409:=by
 rw[hlp]
 have hw:(0<=(d3 p).2.1/\(d3 p).2.1<=2097152)/\0<=(d3 p).2.2.1/\(d3 p).2.2.1<=2097152:=by
   show(0<=(eO p).1/\(eO p).1<=2097152)/\0<=(eO p).2/\(eO p).2<=2097152
   unfold eO
   split
   · rename_i h0
     have:=k9 (jV hs) (by omega) (ba p).length (Nat.le_refl _)
     have h2:=im (l:=ba p) (ba p).length
     unfold de at this
     simp only
     omega
   · decide
 refine⟨hw,Int.mul_pos (by omega) (by omega),?_⟩
 calc((d3 p).2.1+1)*((d3 p).2.2.1+1)<=2097153*2097153:=Int.mul_le_mul (by omega) (by omega) (by omega) (by omega)
   _=_:=rfl
theorem ch{g:dj}{p:d9}(h:aL g p=0):a9 g p=(i7 (aC p) (ii g p),0):=by unfold a9;rw[if_pos h]
theorem ki{g:dj}{p:d9}(h:¬aL g p=0):a9 g p=((0,0,0,0,0,0,0),aL g p):=by unfold a9;rw[if_neg h]
end TL
namespace TL
open Go
theorem gC{o:Option Nat}{r v:Nat}(h:fR o r)(hv:∀v,o=some v->v<=aD)(e:o.getD dm=v):(bo r=true->ad r=v)/\(¬bo r=true->r=v):=
 ⟨λt=>(nS h hv t).trans e,λt=>(nR h t).trans e⟩
theorem nh{r v:Nat}(h:r<=aD)(e:r=v):(bo r=true->ad r=v)/\(¬bo r=true->r=v):=
 ⟨λt=>absurd t (by rw[jr h];decide),λ_=>e⟩
theorem cE{g:dj}{p:d9}{a b c d e f x:Nat}(h:aL g p=0)(ha:a=fh (aC p) (aC p).length)(hb:b=dY (aC p))(hc:c=gc (aC p) (aC p).length)(hd:d=fM (aC p) (aC p).length)(he:e=eZ (aC p))(hf:f=ek (aC p))(hx:x=ii g p):(a,b,c,d,e,f,x)=(a9 g p).1:=by
 rw[ch h,ha,hb,hc,hd,he,hf,hx];rfl
theorem kN{g:dj}{p:d9}(hlp:(a8 g p).1=d3 p):aJ (ak g.1) (ak (((a8 g p).1.2.1+1)*((a8 g p).1.2.2.1+1)))=ii g p:=by rw[hlp];rfl
end TL
namespace TL
open Go
abbrev kU:=Int×Int×Nat
def mJ(a b:Pt):kU:=(b.1-a.1,b.2-a.2,ao (aY a b))
def fY(L:List (List kU))(a b:Pt)(v:Int):List (List kU):=if a=b then L else L.set v.toNat (gI L v++[mJ a b])
def bh(g:dj)(p:d9):Nat->List (List kU)
 |0=>List.replicate g.1.toNat []
 |e+1=>fY (fY (bh g p e) (gI (gI p.2 (e:Int)) 0) (gI (gI p.2 (e:Int)) 1) (gI g.2 (e:Int)).1) (gI (gI p.2 (e:Int)) (((gI p.2 (e:Int)).length:Int)-1)) (gI (gI p.2 (e:Int)) (((gI p.2 (e:Int)).length:Int)-2)) (gI g.2 (e:Int)).2
theorem ik(L:List (List kU))(a b:Pt)(v:Int):(fY L a b v).length=L.length:=by
 unfold fY;split
 · rfl
 · rw[List.length_set]
theorem gv(g:dj)(p:d9):∀e,(bh g p e).length=g.1.toNat
 |0=>List.length_replicate ..
 |e+1=>by unfold bh;rw[ik,ik,gv g p e]
theorem gJ{L M X:List (List kU)}{a b a' b':Pt}{u v:Int}(h1:a=b/\M=L\/¬a=b/\M=L.set u.toNat (gI L u++[mJ a b]))(h2:a'=b'/\X=M\/¬a'=b'/\X=M.set v.toNat (gI M v++[mJ a' b'])):X=fY (fY L a b u) a' b' v:=by
 have e1:M=fY L a b u:=by
   unfold fY
   rcases h1 with⟨c,h⟩|⟨c,h⟩
   · rw[if_pos c,h]
   · rw[if_neg c,h]
 rw[<-e1];unfold fY
 rcases h2 with⟨c,h⟩|⟨c,h⟩
 · rw[if_pos c,h]
 · rw[if_neg c,h]
end TL
namespace TL
open Go
theorem cO{L:List (List kU)}{n:Nat}{u v:Int}{x:kU}(h:∀v,(gI L v).length<=n):(gI (L.set u.toNat (gI L u++[x])) v).length<=n+1:=by
 unfold gI
 rw[List.getD_eq_getElem?_getD,List.getElem?_set]
 split
 · split
   · have:=h u;simp;unfold gI at this;simpa using this
   · exact Nat.zero_le _
 · have:=h v;unfold gI at this;rw[List.getD_eq_getElem?_getD] at this;omega
theorem hX{L:List (List kU)}{a b:Pt}{u:Int}{n:Nat}(h:∀v,(gI L v).length<=n)(v:Int):(gI (fY L a b u) v).length<=n+1:=by
 unfold fY;split
 · have:=h v;omega
 · exact cO h
theorem gA(g:dj)(p:d9):∀(e:Nat) (v:Int),(gI (bh g p e) v).length<=2*e
 |0,v=>by
   show(gI (List.replicate g.1.toNat []) v).length<=0
   unfold gI;rw[List.getD_eq_getElem?_getD,List.getElem?_replicate];split
   · exact Nat.le_refl _
   · exact Nat.le_refl _
 |e+1,v=>by
   have:=hX (a:=gI (gI p.2 (e:Int)) (((gI p.2 (e:Int)).length:Int)-1)) (b:=gI (gI p.2 (e:Int)) (((gI p.2 (e:Int)).length:Int)-2)) (u:=(gI g.2 (e:Int)).2) (hX (a:=gI (gI p.2 (e:Int)) 0) (b:=gI (gI p.2 (e:Int)) 1) (u:=(gI g.2 (e:Int)).1) (gA g p e)) v
   unfold bh;omega
end TL
namespace TL
theorem bY{α:Type}{xs:List α}{y:α}{n:Nat}(h:xs.length<=n)(hn:n<1099511627776):xs.length+[y].length<=1099511627776:=by
 show xs.length+1<=_;omega
end TL
namespace TL
open Go
def bJ(g:dj)(p:d9):Nat×Int:=if aL g p=0 then(13830554455654793216,0) else(0,aL g p)
theorem gx{g:dj}{p:d9}(h:¬aL g p=0):0=(bJ g p).1/\aL g p=(bJ g p).2:=by unfold bJ;rw[if_neg h];exact⟨rfl,rfl⟩
theorem ie{g:dj}{p:d9}(h:aL g p=0):13830554455654793216=(bJ g p).1/\0=(bJ g p).2:=by unfold bJ;rw[if_pos h];exact⟨rfl,rfl⟩
end TL
/-
  TlMet2: the small plot that layer 29's statements try first, and what MetricEdges says.
  By an AI agent.
-/
set_option linter.all false
namespace TL
open Go
abbrev BG:dj:=(2,[(0,1)])
abbrev BP:d9:=([(0,0),(3,4)],[[(0,0),(3,4)]])
theorem lC:∀k:Int,gI (aC BP) k<aD:=by
 have h:aC BP=[4617315517961601024]:=by decide+kernel
 intro k
 rw[h];unfold gI
 match k.toNat with
 |0=>decide
 |n+1=>show(0:Nat)<aD;decide
theorem lF:∀v:Int,(gI (bh BG BP BG.2.length) v).length<=1:=by
 have h:(bh BG BP BG.2.length).map List.length=[1,1]:=by decide+kernel
 intro v
 have h2:(gI (bh BG BP BG.2.length) v).length=gI ((bh BG BP BG.2.length).map List.length) v\/(gI (bh BG BP BG.2.length) v).length=0:=by
   unfold gI
   rw[List.getD_eq_getElem?_getD,List.getD_eq_getElem?_getD,List.getElem?_map]
   cases(bh BG BP BG.2.length)[v.toNat]? with
   |none=>exact .inr rfl
   |some x=>exact .inl rfl
 rcases h2 with h2|h2
 · rw[h2,h];unfold gI
   match v.toNat with
   |0=>decide
   |1=>decide
   |n+2=>show(0:Nat)<=1;decide
 · omega
theorem kh:(a9 BG BP).1.2.2.2.2.1<=aD:=by decide+kernel
end TL
namespace TL
open Go
structure eH(ps:List Pt):Prop where
 h2:2<=ps.length
 h20:ps.length<=20
 ok:em ps
 ne:gI ps 0≠gI ps 1
section
variable{ps:List Pt}
theorem eH.p0(h:eH ps):de (gI ps 0):=h.ok.2 _ (bp (by omega) (by have:=h.h2;omega))
theorem eH.p1(h:eH ps):de (gI ps 1):=h.ok.2 _ (bp (by omega) (by have:=h.h2;omega))
theorem g0(h:eH ps){E:List (Int×Int)}{Ls:List (List Pt)}(hm:Ls.length=E.length)(hE:E.length<=3072)(he:∀e∈E,(0<=e.1/\e.1<=1)/\0<=e.2/\e.2<=1)(hl:∀l∈Ls,(2<=l.length/\l.length<=4096)/\∀q∈l,de q):aL ((ps.length:Int),E) (ps,Ls)=0:=by
 have h2:=h.h2
 have h20:=h.h20
 have hmay:du ((ps.length:Int),E):=⟨by omega,by show(ps.length:Int)<=1024;omega,hE,λe h=>by
   obtain⟨⟨a,b⟩,c,d⟩:=he e h
   show(0<=e.1/\e.1<(ps.length:Int))/\0<=e.2/\e.2<(ps.length:Int)
   omega⟩
 have hs:mQ ((ps.length:Int),E) (ps,Ls):=⟨rfl,by show(Ls.length:Int)=(E.length:Int);omega,λv h0 h1=>h.ok.2 _ (bp h0 h1),λe h0 h1=>by
   obtain⟨⟨a,b⟩,c⟩:=hl _ (bp (xs:=Ls) h0 h1)
   exact⟨by show 2<=((gI Ls e).length:Int);omega,b,c⟩⟩
 rw[gL hmay,gg hmay (ff.2 hs)]
theorem jN{a b:Pt}(ha:de a)(hb:de b):ao (aY a b)<=1064*4503599627370496/\(a≠b->ao (aY a b)≠0):=by
  obtain⟨⟨a1,a2⟩,a3,a4⟩:=ha
  obtain⟨⟨b1,b2⟩,b3,b4⟩:=hb
  have m1:=fb (b.1-a.1)
  have m2:=fb (b.2-a.2)
  have m3:=j2 (x:=b.1-a.1) (by omega) (by omega)
  have m4:=j2 (x:=b.2-a.2) (by omega) (by omega)
  have h1:0<=la a b:=kA a b
  have h2:la a b<9223372036854775808:=by unfold la;omega
  obtain⟨k1,k2⟩:=l6 (x:=aY a b) (e:=1088) (ia h1 h2) (by omega) (by omega)
  refine⟨k1,λhne=>k2 (eJ ?_)⟩
  rcases Int.lt_or_eq_of_le h1 with c|c
  · exact c
  · exfalso
    have e1:(b.1-a.1)*(b.1-a.1)=0:=by unfold la at c;omega
    have e2:(b.2-a.2)*(b.2-a.2)=0:=by unfold la at c;omega
    have f1:b.1-a.1=0:=by rcases Int.mul_eq_zero.1 e1 with c|c<;>exact c
    have f2:b.2-a.2=0:=by rcases Int.mul_eq_zero.1 e2 with c|c<;>exact c
    exact hne (Prod.ext (by omega) (by omega))
theorem fV(a:Pt):ao (aY a a)=0:=by
 have:la a a=0:=by unfold la;simp
 unfold aY;rw[this,jJ];decide+kernel
theorem nF(h:eH ps):aL ((ps.length:Int),[]) (ps,[])=0:=g0 h rfl (by show 0<=3072;omega) (λe h=>by cases h) (λl h=>by cases h)
theorem n9(k:Int):gI (aC (ps,[])) k<aD:=by show(0:Nat)<aD;decide
theorem kx(x:Nat):i7 [] x=(0,dm,aD,0,0,dm,x):=by
 have h1:dY []=dm:=by decide+kernel
 have h2:eZ []=0:=by decide+kernel
 have h3:ek []=dm:=by decide+kernel
 unfold i7;rw[h1,h2,h3];rfl
theorem ms(x:Nat):i7 [0] x=(0,0,0,0,dm,0,x):=by
 have h0:fh [0] 1=0:=by decide+kernel
 have h1:dY [0]=0:=by decide+kernel
 have h2:eZ [0]=dm:=by decide+kernel
 have h3:ek [0]=0:=by decide+kernel
 unfold i7;rw[h1,h2,h3];show(fh [0] 1,_,gc [0] 1,fM [0] 1,_)=_;rw[h0];rfl
theorem gf(h:eH ps):∃x,a9 ((ps.length:Int),[]) (ps,[])=((0,dm,aD,0,0,dm,x),0):=⟨_,by rw[ch (nF h)];show(i7 [] _,_)=_;rw[kx]⟩
theorem o3(h:eH ps):aL ((ps.length:Int),[(0,0)]) (ps,[[gI ps 0,gI ps 0]])=0:=g0 h rfl (by show 1<=3072;omega) (λe h=>by simp at h;subst h;simp) (λl hl=>by
 simp at hl;subst hl
 refine⟨⟨by simp,by simp⟩,λq hq=>?_⟩
 simp at hq;subst hq;exact h.p0)
theorem lO:aC (ps,[[gI ps 0,gI ps 0]])=[0]:=by
 show[ao (aY (gI ps 0) (gI ps 0))]=[0]
 rw[fV]
theorem kf(k:Int):gI (aC (ps,[[gI ps 0,gI ps 0]])) k<aD:=by
 rw[lO];unfold gI
 match k.toNat with
 |0=>decide
 |n+1=>show(0:Nat)<aD;decide
theorem jg(h:eH ps):∃x,a9 ((ps.length:Int),[(0,0)]) (ps,[[gI ps 0,gI ps 0]])=((0,0,0,0,dm,0,x),0):=⟨_,by rw[ch (o3 h),lO,ms]⟩
def ly(ps:List Pt)(Ls:List (List Pt)):Prop:=Ls=[[gI ps 0,gI ps 0],[gI ps 0,gI ps 1]]\/Ls=[[gI ps 0,gI ps 0],[gI ps 0,gI ps 1,gI ps 0,gI ps 1]]
theorem nZ(h:eH ps){Ls:List (List Pt)}(hc:ly ps Ls):aL ((ps.length:Int),[(0,0),(0,1)]) (ps,Ls)=0:=by
 have h0:=h.p0
 have h1:=h.p1
 refine g0 h (by rcases hc with rfl|rfl<;>rfl) (by show 2<=3072;omega) (λe h=>?_) (λl hl=>?_)
 · simp at h;rcases h with rfl|rfl<;>simp
 · rcases hc with rfl|rfl<;>simp at hl<;>rcases hl with rfl|rfl
   all_goals
     refine⟨⟨by simp,by simp⟩,λq hq=>?_⟩
     simp at hq
   · subst hq;exact h0
   · rcases hq with rfl|rfl
     · exact h0
     · exact h1
   · subst hq;exact h0
   · rcases hq with rfl|rfl|rfl|rfl<;>assumption
theorem lX(h:eH ps){Ls:List (List Pt)}(hc:ly ps Ls):∃L,aC (ps,Ls)=[0,L]/\L<aD/\L≠0:=by
 obtain⟨s1,s2⟩:=jN h.p0 h.p1
 obtain⟨t1,_⟩:=jN h.p1 h.p0
 have s3:=s2 h.ne
 have hI:aD=9218868437227405312:=rfl
 rcases hc with rfl|rfl
 · refine⟨ao (aY (gI ps 0) (gI ps 1)),?_,by omega,s3⟩
   show[ao (aY (gI ps 0) (gI ps 0)),ao (aY (gI ps 0) (gI ps 1))]=_
   rw[fV]
 · refine⟨cr (cr (ao (aY (gI ps 0) (gI ps 1))) (ao (aY (gI ps 1) (gI ps 0)))) (ao (aY (gI ps 0) (gI ps 1))),?_,?_,?_⟩
   · show[ao (aY (gI ps 0) (gI ps 0)),_]=_
     rw[fV];rfl
   · have u1:=iz s1 t1 (by omega) (by omega)
     have u2:=iz (e:=1066) (x:=cr (ao (aY (gI ps 0) (gI ps 1))) (ao (aY (gI ps 1) (gI ps 0)))) (y:=ao (aY (gI ps 0) (gI ps 1))) (by omega) (by omega) (by omega) (by omega)
     omega
   · have u1:=iz s1 t1 (by omega) (by omega)
     exact jm (by omega) (by omega) (jm (by omega) (by omega) s3)
theorem dN(h:eH ps){Ls:List (List Pt)}(hc:ly ps Ls)(k:Int):gI (aC (ps,Ls)) k<aD:=by
 obtain⟨L,e,h1,_⟩:=lX h hc
 rw[e];unfold gI
 match k.toNat with
 |0=>show(0:Nat)<aD;decide
 |1=>exact h1
 |n+2=>show(0:Nat)<aD;decide
theorem io(h:eH ps){Ls:List (List Pt)}(hc:ly ps Ls):∃L m s x,a9 ((ps.length:Int),[(0,0),(0,1)]) (ps,Ls)=((L,m,0,L,aD,s,x),0)/\L<aD/\L≠0:=by
 obtain⟨L,e,h1,h2⟩:=lX h hc
 refine⟨L,dY [0,L],ek [0,L],ii ((ps.length:Int),[(0,0),(0,1)]) (ps,Ls),?_,h1,h2⟩
 rw[ch (nZ h hc),e]
 have k1:fh [0,L] 2=L:=by
   show cr (cr 0 0) L=L
   rw[k8 (by decide),k8 (Nat.le_of_lt h1)]
 have k2:gc [0,L] 2=0:=by show min (min aD 0) L=0;omega
 have k3:fM [0,L] 2=L:=by show max (max 0 0) L=L;omega
 have k4:eZ [0,L]=aD:=by
   show aJ (fM [0,L] 2) (gc [0,L] 2)=aD
   rw[k2,k3];unfold aJ;rw[ks (Nat.le_of_lt h1) h2];rfl
 unfold i7
 show((fh [0,L] 2,_,gc [0,L] 2,fM [0,L] 2,_,_,_),_)=_
 rw[k1,k2,k3,k4]
end
end TL
namespace TL
open Go
section
variable{ps:List Pt}{Ls:List (List Pt)}
abbrev mA(ps:List Pt):=a9 ((ps.length:Int),[]) (ps,[])
abbrev mB(ps:List Pt):=a9 ((ps.length:Int),[(0,0)]) (ps,[[gI ps 0,gI ps 0]])
abbrev mC(ps:List Pt)(Ls:List (List Pt)):=a9 ((ps.length:Int),[(0,0),(0,1)]) (ps,Ls)
theorem nK(h:eH ps):(mA ps).2=0:=by obtain⟨x,e⟩:=gf h;unfold mA;rw[e]
theorem nT(h:eH ps):(mA ps).1.2.1=dm:=by obtain⟨x,e⟩:=gf h;unfold mA;rw[e]
theorem nr(h:eH ps):(mA ps).1.2.2.1=aD:=by obtain⟨x,e⟩:=gf h;unfold mA;rw[e]
theorem nG(h:eH ps):(mA ps).1.2.2.2.1=0:=by obtain⟨x,e⟩:=gf h;unfold mA;rw[e]
theorem nJ(h:eH ps):(mA ps).1.2.2.2.2.1=0:=by obtain⟨x,e⟩:=gf h;unfold mA;rw[e]
theorem nY(h:eH ps):(mA ps).1.1=0:=by obtain⟨x,e⟩:=gf h;unfold mA;rw[e]
theorem nM(h:eH ps):(mA ps).1.2.2.2.2.2.1=dm:=by obtain⟨x,e⟩:=gf h;unfold mA;rw[e]
theorem mr(h:eH ps):(mB ps).2=0:=by obtain⟨x,e⟩:=jg h;unfold mB;rw[e]
theorem mZ(h:eH ps):(mB ps).1.2.2.2.2.1=dm:=by obtain⟨x,e⟩:=jg h;unfold mB;rw[e]
theorem mP(h:eH ps):(mB ps).1.2.1=0:=by obtain⟨x,e⟩:=jg h;unfold mB;rw[e]
theorem m7(h:eH ps):(mB ps).1.2.2.2.2.2.1=0:=by obtain⟨x,e⟩:=jg h;unfold mB;rw[e]
theorem fz(h:eH ps)(hc:ly ps Ls):(mC ps Ls).2=0:=by obtain⟨L,m,s,x,e,_⟩:=io h hc;unfold mC;rw[e]
theorem dd(h:eH ps)(hc:ly ps Ls):(mC ps Ls).1.2.2.2.2.1=aD:=by obtain⟨L,m,s,x,e,_⟩:=io h hc;unfold mC;rw[e]
theorem fx(h:eH ps)(hc:ly ps Ls):(mC ps Ls).1.2.2.1=0:=by obtain⟨L,m,s,x,e,_⟩:=io h hc;unfold mC;rw[e]
theorem dc(h:eH ps)(hc:ly ps Ls):(mC ps Ls).1.2.2.2.1<aD/\(mC ps Ls).1.2.2.2.1≠0:=by obtain⟨L,m,s,x,e,h1,h2⟩:=io h hc;unfold mC;rw[e];exact⟨h1,h2⟩
theorem fp(h:eH ps)(hc:ly ps Ls):(mC ps Ls).1.1=(mC ps Ls).1.2.2.2.1:=by obtain⟨L,m,s,x,e,h1,h2⟩:=io h hc;unfold mC;rw[e]
theorem kr{a:Nat}(h:a=dm):bo a=true:=by subst h;decide+kernel
theorem dG{a:Nat}(h:a=aD):decide (a=aD)=true:=decide_eq_true h
theorem gD{a:Nat}(h:a=0):(Ieee.double.order a 0 !=some .eq)=false:=by subst h;decide+kernel
theorem fv{a:Nat}(h:a=0):(Ieee.double.order a 0==some .eq)=true:=by subst h;decide+kernel
theorem fu{a:Nat}(h:a<aD/\a≠0):(Ieee.double.order a 0==some .gt)=true:=by
 rw[dp (Nat.le_of_lt h.1) (Nat.zero_le _),dQ (by omega)];rfl
theorem ft{a b:Nat}(h:a=b)(hb:b<aD/\b≠0):(Ieee.double.order a b==some .eq)=true:=by
 rw[h,dp (Nat.le_of_lt hb.1) (Nat.le_of_lt hb.1),dJ];rfl
theorem fa{a:Nat}(h:a=aD):a<=aD:=Nat.le_of_eq h
end
end TL
/-
  TlLit: a list of lists that is written out, with one list in it, as an owned list of lists.
  By an AI agent.
-/
set_option linter.all false
namespace TL
open Go
theorem gE{α:Type}[Rp α]{γ:aT}{w:World}{i k:Nat}{v u:Value}{c:Vc}{l:List α}(hcv:c.v=u)(ho:Ow γ (is i) (is i) w v [c])(hu:Ow γ (is k) (is k) w u l)(hk:Nat.beq i k=false):
   ∃γ',aX (nQ i k) γ w γ' w/\d8 γ' i w v [l]:=by
 have hik:i≠k:=λe=>by subst e;simp at hk
 refine⟨recol (recol γ i (i,0)) k (i,1),⟨rfl,rfl,rfl,Nat.le_refl _,λb hb hn=>?_,λb hb hn=>rfl,Nat.le_refl _⟩,[c],ho.recol ?_ ?_,rfl,λr u' x hu' hx'=>?_⟩
 · have h1:¬(γ b).1=i:=λh=>hn (.inl h)
   have h2:¬(γ b).1=k:=λh=>hn (.inr h)
   unfold recol
   rw[if_neg h1,if_neg h2]
 · intro b hb
   have hb':(γ b).1=i:=hb
   unfold recol bw
   rw[if_pos hb',if_neg hik]
 · intro b hb
   have hb':(γ b).1=i:=hb
   unfold recol bw
   rw[if_pos hb',if_neg hik]
 · match r with
   |0=>
     obtain rfl:c=u':=by simpa using hu'
     obtain rfl:l=x:=by simpa using hx'
     rw[hcv]
     have hto:∀b,is k (γ b)->bw i 1 (recol (recol γ i (i,0)) k (i,1) b):=λb hb=>by
       have hb':(γ b).1=k:=hb
       have h1:¬(γ b).1=i:=λh=>hik (h.symm.trans hb')
       unfold recol bw
       rw[if_neg h1,if_pos hb']
     exact hu.recol hto hto
   |r+1=>simp at hu'
end TL
namespace TL
open Go
theorem cK{P:Program}{f:Fr}{w:World}{dst:Option Tmp}{ty:TypeId}{pos:String}{after:Array Edge}{g:Option (Nat×Bool)}{t t':TypeId}{x y:Operand}{a b:Nat}{q:Bool}(hx:ev f x= .float .f64 a)(hy:ev f y= .float .f64 b)(h:(Ieee.double.order a b==some .gt)=q):(execOp (ev f) ⟨dst,.binOp .gtr t x y t',ty,pos,after,g⟩).run P w= .ok (.value (.bool q)) w:=
 gK hx hy (λw=>by rw[binOp_float_cmp_gtr];show Sem.run P (pure (Value.bool (Ieee.double.order a b==some .gt))) w=_;rw[h];rfl)
end TL
/-
  TlOpen: arguments opened: what a law's reader says of a slice is what a walk wants of it.
  By an AI agent.
-/
namespace TL
open Go Go.Proofs Go.ChangeShapes Go.WideShapes Go.Joins Go.Deep
structure iB{H:Type}(f:DataW H->Nat):Prop where
 slice:∀l s:List (DataW H),l.length<=f (.slice l s)
 elem:∀l s:List (DataW H),∀d∈l,f d<=f (.slice l s)
 part:∀l:List (DataW H),∀d∈l,f d<=f (.agg l)
def kX(α:Type)[Rp α](P:Program)(t:TypeId):Prop:=
  ∀{H:Type} (enc:TypeId×Value->H) (w:World) (fuel:Nat) (cs:List Value) (x:DataW H×List MemPlace),DataW.trod enc P w 0 (λ_=>true) true fuel t cs=some x->∃y:α,Rp.rep c0 any w cs y
theorem jc{P:Program}{t:TypeId}(ht:P.underlying t=some (.int .i64)):kX Int P t:=by
 intro H enc w fuel cs x h
 obtain⟨n,rfl,_,_⟩:=DataW.trod_int ht h
 exact⟨n,rfl⟩
theorem jx{α:Type}[Rp α][Inhabited α]{P:Program}{t e:TypeId}(ht:P.underlying t=some (.slice e))(hc:P.cellsOf e=Rp.sz α)(hz:0<Rp.sz α)(he:kX α P e)
    {H:Type}{enc:TypeId×Value->H}{w:World}{f:DataW H->Nat}(hf:iB f){fuel:Nat}{v:Value}{x:DataW H×List MemPlace}
    (hs:∀a len cap,v= .slice (some a) len cap->a.spot=none)(h:DataW.trod enc P w 0 (λ_=>true) true fuel t [v]=some x)(hb:f x.1<=1048576):∃xs:List α,Ro w v xs:=by
  rcases Deep.open_slice ht h with⟨h0,_⟩|⟨a,len,cap,m,n,D,Pl,h0,_,hlc,_,hm,rfl,hx⟩
  · obtain rfl:v= .slice none 0 0:=by simpa using h0
    exact⟨[],.inl ⟨⟨_,rfl⟩,rfl⟩⟩
  · obtain rfl:v= .slice (some a) len cap:=by simpa using h0
    have hsp:=hs a len cap rfl
    obtain⟨b,off,spot⟩:=a
    obtain rfl:spot=none:=hsp
    simp only[if_true] at hm
    subst hm
    obtain⟨Y,hY⟩:=Deep.choose_lt (α:=α) (n:=len) (p:=λi y=>∃cs,(∀j,j<Rp.sz α->w.cell? ⟨b,off+i*Rp.sz α+j,none⟩=cs[j]?)/\Rp.rep c0 any w cs y) (λi hi=>by
      obtain⟨cs',h1,h2⟩:=hx i (by omega)
      obtain⟨y,hy⟩:=he enc w n cs' _ h2
      refine⟨y,cs',λj hj=>?_,hy⟩
      obtain⟨_,hl,hcell⟩:=World.cells?_some h1
      have:=hcell j (by omega)
      rw[Deep.add_add,hc] at this
      rw[<-this]
      unfold Addr.add
      by_cases hij:i*Rp.sz α+j=0
      · rw[if_pos hij,Nat.add_assoc,hij];rfl
      · rw[if_neg hij,Nat.add_assoc])
    have hlen:((List.range len).map Y).length=len:=by simp
    have hbound:=Nat.le_trans (hf.slice _ _) hb
    refine⟨(List.range len).map Y,.inr ⟨b,off,m,by rw[hlen],⟨by omega,by simp at hbound;omega⟩,λi y hi=>?_⟩⟩
    have hil:i<len:=by
      have:=(List.getElem?_eq_some_iff.1 hi).1
      omega
    obtain rfl:Y i=y:=by simpa[hil] using hi
    obtain⟨cs,h1,h2⟩:=hY i hil
    refine⟨?_,trivial,cs,h1,h2⟩
    have h3:=h1 0 hz
    have h4:=Rp.len h2
    have h5:0<cs.length:=by omega
    rw[List.getElem?_eq_getElem h5] at h3
    by_cases hbl:b<w.heap.size
    · exact hbl
    · have:w.heap[b]? =none:=Array.getElem?_eq_none (by omega)
      simp[World.cell?,this] at h3
theorem h6{P:Program}{w:World}{base:Nat}{t e:TypeId}{v:Value}(ht:P.underlying t=some (.slice e))(h:Cell.okWide P w .any base t v):∀a len cap,v= .slice (some a) len cap->a.spot=none:=by
 rintro a len cap rfl
 simp only[Cell.okWide,Cell.ok,ht] at h
 exact h.2.2.2.1
theorem jz{α:Type}[Rp α][Inhabited α]{P:Program}{t e:TypeId}(ht:P.underlying t=some (.slice e))(hc:P.cellsOf e=Rp.sz α)(hz:0<Rp.sz α)(he:kX α P e)
    {H:Type}{enc:TypeId×Value->H}{w:World}{f:DataW H->Nat}(hf:iB f){base:Nat}{v:Value}{d:DataW H}{p:List MemPlace}
    (hval:Value.okWide P w .any base t v)(h:DataW.Trod enc P w 0 (λ_=>true) true t v d p)(hb:f d<=1048576):∃xs:List α,Ro w v xs:=by
  obtain⟨a,len,cap,rfl⟩:=okWide_slice ht hval
  obtain⟨fuel,hfu⟩:=h
  refine jx ht hc hz he hf (h6 (w:=w) (base:=base) ht ?_) (x:=(d,p)) hfu hb
  simpa[Value.okWide,ht] using hval
end TL
/-
  TlPost: what is owed behind a law that returns true and writes nothing of the caller's.
  By an AI agent.
-/
namespace TL
open Go Go.Proofs Go.ChangeShapes Go.WideShapes Go.RowKit
def j4(P:Program)(ts:List TypeId):Bool:=ts.all λt=>P.readableRec t&&decide (t<P.types.size)
theorem gr{H:Type}{enc:TypeId×Value->H}{P:Program}(hl:laidOutB P=true){W W':World}(hb:Below W.heap.size W W')(sp:Nat->Bool):
   ∀{ts:List TypeId} {vs:List Value} {ds:List (DataW H)} {ps:List MemPlace},j4 P ts=true->DataW.TrodAll enc P W 0 (λ_=>true) true ts vs ds ps->(∀p∈ps,p.block<W.heap.size)->(∀p∈ps,sp p.block=true)->DataW.TrodAll enc P W' 0 sp true ts vs ds ps
 |[],[],[],_,_,h,_,_=>h
 |[],[],_::_,_,_,h,_,_=>h.elim
 |[],_::_,_,_,_,h,_,_=>by cases‹List (DataW H)›<;>exact h.elim
 |_::_,[],_,_,_,h,_,_=>by cases‹List (DataW H)›<;>exact h.elim
 |_::_,_::_,[],_,_,h,_,_=>h.elim
 |t::ts,v::vs,d::ds,ps,hr,h,hlt,hsp=>by
   obtain⟨p,q,h1,h2,rfl⟩:=h
   simp only[j4,List.all_cons,Bool.and_eq_true,decide_eq_true_eq] at hr
   exact⟨p,q,WideElems.Trod_stays hl hr.1.1 hr.1.2 h1 (λx hx=>hb.same (hlt x (by simp[hx]))) (λx hx=>hsp x (by simp[hx])),
     gr hl hb sp hr.2 h2 (λx hx=>hlt x (by simp[hx])) (λx hx=>hsp x (by simp[hx])),rfl⟩
theorem kw{H:Type}{enc:TypeId×Value->H}{P:Program}{f:Func}{s:ChangeSpec}{W W':World}{args:Array Value}{ds gs:List (DataW H)}{before:List MemPlace}{tb:TypeId}
   (hl:laidOutB P=true)(hr:j4 P f.params.toList=true)(hv:s.vars=[])(hrt:f.resultTypes= #[tb])(htb:P.underlying tb=some .bool)
   (hW:DataW.Whole enc P f.params.toList s.vars false W args.toList ds gs before)(hfn:s.fn H (ds++gs)={results:=[.lit (.bool true)],args:=ds})(hB:Below W.heap.size W W'):
   s.post enc P f false true false false W args (.bool true) W':=by
 have hlt:=hW.lt
 have hW0:=hW
 obtain⟨p,q,hA,hV,rfl,hfz,_⟩:=hW
 rw[hv] at hV
 obtain⟨rfl,rfl⟩:=trodVars_none hV
 simp only[List.append_nil] at hlt hfz hW0 hfn
 have hres:∀(b:Nat) (sp:Nat->Bool) (hd:Bool),DataW.TrodAll enc P W' b sp hd f.resultTypes.toList ((Value.bool true).resultList f.resultTypes.size) (s.fn H (ds++[])).results []:=λb sp hd=>by
   rw[hrt,List.append_nil,hfn]
   exact trodAll_cons_mk (shut_bool htb true) trodAll_mk0
 have hargs:∀sp:Nat->Bool,(∀x∈p,sp x.block=true)->DataW.TrodAll enc P W' 0 sp true f.params.toList args.toList (s.fn H (ds++[])).args p:=λsp hsp=>by
   rw[List.append_nil,hfn]
   exact gr hl hB sp hr hA hlt hsp
 have hvars:∀sp:Nat->Bool,DataW.TrodVars enc P W' sp s.vars (s.fn H (ds++[])).vars []:=λsp=>by
   rw[List.append_nil,hfn,hv]
   rfl
 refine⟨ds,[],p,[],p,[],hW0,hres _ _ _,hargs _ (λx hx=>by simpa using hlt x hx),hvars _,World.keptBut_mono (λx hx=>⟨hx,Or.inr (by simpa using hx)⟩) (hB.frame _),λ_=>?_⟩
 refine⟨?_,_,_,([]++p)++[],⟨[]++p,[],trodAll_append (hargs _ (λ_ _=>rfl)) (hres _ _ _),hvars _,rfl,?_,?_⟩,?_⟩
 · exact ok_one hrt rfl (okWide_bool_mk htb true)
 · intro b off hp
   have hp':MemPlace.cell b off∈p:=by simpa using hp
   rw[hB.frozen (p:=⟨b,off,none⟩) (hlt _ hp')]
   exact hfz b off hp'
 · intro ha;cases ha
 · intro x hx _
   simpa using hx
end TL
/-
  TlOpenP: arguments that are points, or lists of points.
  By an AI agent.
-/
set_option linter.all false
namespace TL
open Go Go.Proofs Go.ChangeShapes Go.WideShapes Go.Joins Go.Deep
theorem lZ{P:Program}{t e:TypeId}{f0 f1:Field}(hs:P.underlying t=some (.struct #[f0,f1]))(hone:oneCellFields P #[f0,f1]=true)(hC:P.cellsOf t=2)(h0:f0.type=e)(h1:f1.type=e)(he:P.underlying e=some (.int .i64)):kX (Int×Int) P t:=by
 intro H enc w fuel cs x h
 obtain⟨y0,y1,n,_,hl,k0,k1⟩:=trod_struct2 hs h
 obtain⟨o0,c0⟩:=hone_of hone 0 f0 rfl
 obtain⟨o1,c1⟩:=hone_of hone 1 f1 rfl
 rw[hC] at hl
 match cs,hl with
 |[v0,v1],_=>
   have k0':DataW.trod enc P w 0 (λ_=>true) true n f0.type [v0]=some y0:=by simpa[o0,c0] using k0
   have k1':DataW.trod enc P w 0 (λ_=>true) true n f1.type [v1]=some y1:=by simpa[o1,c1] using k1
   rw[h0] at k0'
   rw[h1] at k1'
   obtain⟨a,ha⟩:=jc he enc w n [v0] y0 k0'
   obtain⟨b,hb⟩:=jc he enc w n [v1] y1 k1'
   exact⟨(a,b),[v0],[v1],rfl,ha,hb⟩
end TL
