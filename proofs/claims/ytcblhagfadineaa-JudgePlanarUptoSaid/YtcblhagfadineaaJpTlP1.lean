/- Plain texts of this claim, part 1. By an AI agent. -/
import Derived.Test.YtcblhagfadineaaJpTlP0
import Derived.Laws.StructEq
import Derived.OrdersHeld
/-
  TlHold: regions that draw their order, where what is read stays: on the kit's OrdersHeld.
  By an AI agent.
-/
set_option linter.all false
namespace TL
open Go
section
variable{P:Program}{n:Nat}{l:List Oper}{S:World->Prop}{K:Fr->World->Prop}{f:Fr}{w:World}{done:List Nat}{fuel:Nat}
def r4(P:Program)(n:Nat)(l:List Oper)(S:World->Prop)(K:Fr->World->Prop)(fuel:Nat)(done:List Nat)(f:Fr)(w:World):Prop:=
  ∀a,Ag n a f->wpAnyH P .any l.toArray (λe a' w'=>e= .normal/\∃f',Ag n a' f'/\K f' w') S fuel (bW l.length done) a w
theorem b5.same{J:cd->Prop}{γ γ':aH}{w w':World}(h:b5 J γ w γ' w'):b5 J γ w γ w':=⟨h.os,h.tape,h.output,h.size,λ_ _ _=>rfl,h.keep,h.drawn⟩
theorem dQ{fid:Nat}{R:Ending->World->Prop}{k:List Item}{id:Nat}(γ:aH)(J:cd->Prop)(hm:P.follows .mixedOrders=true)
   (h:∀w1,b5 no γ w γ w1->r4 P n l (λw'=>b5 J γ w1 γ w') (fh P fid n R k) l.length [] f w1):fh P fid n R (.code (.region id l.toArray true)::k) f w:=
 iE λa ha=>wp_region_held hm (by
   have h0:=h _ (b5.refl _ _ _).drew a ha
   have hmask:bW l.length []=Array.replicate l.toArray.size false:=by
     apply Array.ext
     · simp[bW]
     · intro j h1 h2;simp[bW]
   rw[hmask] at h0
   simpa using h0)
theorem ez{fid:Nat}{R:Ending->World->Prop}{k:List Item}{id:Nat}{σ:Type}(Mid:σ->Fr->World->Prop)(γ:aH)(J:cd->Prop)(hm:P.follows .mixedOrders=true)
    (h:(∀s f w,Mid s f w->fh P fid n R k f w)->∀w1,b5 no γ w γ w1->r4 P n l (λw'=>b5 J γ w1 γ w') (fh P fid n R k) l.length [] f w1)(hk:∀s f w,Mid s f w->fh P fid n R k f w):fh P fid n R (.code (.region id l.toArray true)::k) f w:=
  dQ γ J hm (h hk)
variable{dst:Option Tmp}{op:Op}{ty:TypeId}{pos:String}{after:Array Edge}{g:Option (Nat×Bool)}{v:Value}
theorem yL(i:Nat)(hi:l[i]? =some ⟨dst,op,ty,pos,after,g⟩)(hn:hU l=true)(hc:(gM l done i&&jM l done i&&nI n ⟨dst,op,ty,pos,after,g⟩)=true)
   (hw:cU l ⟨dst,op,ty,pos,after,g⟩ f=true)(hS:S w)(h:∀w,S w->(execOp (ev f) ⟨dst,op,ty,pos,after,g⟩).run P w= .ok (.value v) w)(hk:r4 P n l S K fuel (i::done) (gX f dst v) w):r4 P n l S K (fuel+1) done f w:=by
 simp only[Bool.and_eq_true] at hc
 obtain⟨⟨hr,hf⟩,hd⟩:=hc
 obtain⟨hlt,hr'⟩:=ga hr
 intro a ha
 refine wpAnyH_first (v:=v) (by simpa using hi) (jJ hn) (λc a w h=>by cases h.1) fuel _ a w (gC hi hf) hr' (.inl ⟨by rw[ha.yielded];exact hw,λw hs=>by rw[ha.eval];exact h w hs⟩) hS ?_
 rw[ew done hlt]
 exact hk _ (ha.put hd v)
def zs(P:Program)(n:Nat)(l:List Oper)(S:World->Prop)(K:Fr->World->Prop)(fuel:Nat)(done:List Nat)(f:Fr)(w:World)(i:Nat):Prop:=
  ∃o,l[i]? =some o/\i<l.length/\(cU l o f=true/\nI n o=true/\gF P o f w (λv w'=>S w'/\r4 P n l S K fuel (i::done) (gX f o.dst v) w'))
theorem dr(i:Nat)(hi:l[i]? =some ⟨dst,op,ty,pos,after,g⟩)(hc:nI n ⟨dst,op,ty,pos,after,g⟩=true)(hw:cU l ⟨dst,op,ty,pos,after,g⟩ f=true)
   (h:gF P ⟨dst,op,ty,pos,after,g⟩ f w (λv w'=>S w'/\r4 P n l S K fuel (i::done) (gX f dst v) w')):zs P n l S K fuel done f w i:=
 ⟨_,hi,(List.getElem?_eq_some_iff.1 hi).1,hw,hc,h⟩
def xb(P:Program)(n:Nat)(l:List Oper)(S:World->Prop)(K:Fr->World->Prop)(fuel:Nat)(done:List Nat)(f:Fr)(w:World):List Nat->Prop
 |[]=>True
 |i::r=>zs P n l S K fuel done f w i/\xb P n l S K fuel done f w r
theorem xb.mem{L:List Nat}(h:xb P n l S K fuel done f w L):∀i∈L,zs P n l S K fuel done f w i:=by
 induction L with
 |nil=>intro i hi;cases hi
 |cons j r ih=>
   intro i hi
   rcases List.mem_cons.1 hi with rfl|hi
   · exact h.1
   · exact ih h.2 i hi
theorem dz(i:Nat)(L:List Nat)(hr:decide (Region.ready .any l.toArray (bW l.length done)=i::L)=true)(h:xb P n l S K fuel done f w (i::L)):r4 P n l S K (fuel+1) done f w:=by
 have hr:=of_decide_eq_true hr
 intro a ha
 refine⟨λh0=>(by rw[hr] at h0;cases h0),λk hk=>?_⟩
 rw[hr] at hk
 obtain⟨o,hi,hlt,hw,hd,ho⟩:=h.mem k (by simpa using hk)
 obtain⟨dst,op,ty,pos,after,g⟩:=o
 refine kH ha hi hw ho λv w' hk=>⟨hk.1,?_⟩
 rw[ew done hlt]
 exact hk.2 _ (ha.put hd v)
theorem aO(i:Nat)(hi:l[i]? =some ⟨dst,op,ty,pos,after,g⟩)(hc:(decide (Region.ready .any l.toArray (bW l.length done)=[i])&&nI n ⟨dst,op,ty,pos,after,g⟩)=true)
   (hw:cU l ⟨dst,op,ty,pos,after,g⟩ f=true)(h:gF P ⟨dst,op,ty,pos,after,g⟩ f w (λv w'=>S w'/\r4 P n l S K fuel (i::done) (gX f dst v) w')):r4 P n l S K (fuel+1) done f w:=by
 simp only[Bool.and_eq_true] at hc
 exact dz i [] hc.1 ⟨dr i hi hc.2 hw h,trivial⟩
theorem cK(hr:decide (Region.ready .any l.toArray (bW l.length done)=[])=true)(h:K f w):r4 P n l S K 0 done f w:=λ_ ha=>⟨of_decide_eq_true hr,rfl,f,ha,h⟩
end
end TL
namespace TL
open Go
end TL
/-
  TlNet: nets, and what layer 3 says of them, as plain functions.
  By an AI agent.
-/
set_option linter.all false
namespace TL
abbrev bG:=Int×List (Int×Int)
def ox(n:Int)(e:Int×Int):Prop:=(0<=e.1/\e.1<n)/\0<=e.2/\e.2<n
instance (n:Int)(e:Int×Int):Decidable (ox n e):=by unfold ox;infer_instance
def bF(g:bG):Prop:=0<=g.1/\g.1<=1024/\g.2.length<=3072/\∀e∈g.2,ox g.1 e
instance (g:bG):Decidable (bF g):=by unfold bF;infer_instance
def d6(g:bG):Bool:=decide (bF g)
theorem mF{g:bG}(h:bF g):d6 g=true:=decide_eq_true h
theorem c5{g:bG}(h:¬bF g):d6 g=false:=decide_eq_false h
end TL
namespace TL
theorem vO{α:Type}[Inhabited α]{xs:List α}{k:Nat}(h:(k:Int)<xs.length):xs.drop k=gI xs k::xs.drop (k+1):=by
 have h':k<xs.length:=by omega
 rw[List.drop_eq_getElem_cons h']
 simp[gI,h']
theorem dN{α:Type}[Inhabited α]{xs:List α}{i j:Int}{y:α}(hi:0<=i)(hi':i<xs.length)(hj:0<=j):gI (xs.set i.toNat y) j=if j=i then y else gI xs j:=by
 unfold gI
 by_cases h:j=i
 · subst h
   have:j.toNat<xs.length:=by omega
   simp[this]
 · have:i.toNat≠j.toNat:=by omega
   simp[h,List.getElem?_set_ne this]
theorem ku{α:Type}[Inhabited α]{n:Nat}{x:α}{i:Int}(h0:0<=i)(h1:i<n):gI (List.replicate n x) i=x:=by
 have:i.toNat<n:=by omega
 simp[gI,this]
end TL
namespace TL
end TL
namespace TL
end TL
namespace TL
def aL(g:bG)(h:Int):Int:=pI (gI g.2 (h/2)) (h%2)
def gA(g:bG)(v:Int)(k:Nat):List Int:=((List.range (2*k)).map (λ(i:Nat)=>(i:Int))).filter λh=>decide (aL g h=v)
def bP(g:bG)(v:Int):List Int:=gA g v g.2.length
theorem lT(g:bG)(k:Nat):aL g (2*(k:Int))=(gI g.2 k).1:=by
 unfold aL
 have h1:2*(k:Int)/2=k:=by omega
 have h2:2*(k:Int)%2=0:=by omega
 rw[h1,h2];rfl
theorem mR(g:bG)(k:Nat):aL g (2*(k:Int)+1)=(gI g.2 k).2:=by
 unfold aL
 have h1:(2*(k:Int)+1)/2=k:=by omega
 have h2:(2*(k:Int)+1)%2=1:=by omega
 rw[h1,h2];rfl
theorem pj(g:bG)(v:Int)(k:Nat):gA g v (k+1)=gA g v k++((if(gI g.2 k).1=v then[2*(k:Int)] else[])++(if(gI g.2 k).2=v then[2*(k:Int)+1] else[])):=by
 unfold gA
 rw[show 2*(k+1)=2*k+1+1 by omega,List.range_succ,List.range_succ]
 simp only[List.map_append,List.filter_append,List.map_cons,List.map_nil,List.append_assoc]
 congr 1
 have e1:((2*k:Nat):Int)=2*(k:Int):=by omega
 have e2:((2*k+1:Nat):Int)=2*(k:Int)+1:=by omega
 rw[e1,e2]
 congr 1
 · by_cases h:(gI g.2 (k:Int)).1=v
   · simp[lT,h]
   · simp[lT,h]
 · by_cases h:(gI g.2 (k:Int)).2=v
   · simp[mR,h]
   · simp[mR,h]
theorem mU(g:bG)(v:Int)(k:Nat):(gA g v k).length<=2*k:=by
 unfold gA
 have:=List.length_filter_le (λh=>decide (aL g h=v)) ((List.range (2*k)).map (λ(i:Nat)=>(i:Int)))
 simpa using this
end TL
namespace TL
theorem gk{α:Type}[Inhabited α]{l l':List α}(hl:l.length=l'.length)(h:∀i:Nat,i<l.length->gI l i=gI l' i):l=l':=by
 apply List.ext_getElem hl
 intro i h1 h2
 have:=h i h1
 simpa[gI,h1,h2] using this
end TL
namespace TL
def oo(x:List Int)(i:Nat):Int:=((x.take i).drop 1).foldl min (gI x 0)
def dI(x:List Int):Int:=oo x x.length
theorem lX{x:List Int}{i:Nat}(h1:1<=i)(hi:(i:Int)<x.length):(x.take (i+1)).drop 1=(x.take i).drop 1++[gI x i]:=by
 rw[bC hi,List.drop_append_of_le_length (by simp;omega)]
theorem sj{x:List Int}{i:Nat}(h1:1<=i)(hi:(i:Int)<x.length):oo x (i+1)=min (oo x i) (gI x i):=by
 unfold oo;rw[lX h1 hi];simp
end TL
namespace TL
end TL
namespace TL
section
variable{l0 l1:Int}{F:Int×Int->Int}{g:bG}{k:Nat}
end
end TL
/-
  TlNetLaws: what follows of nets: parts of parts, subs of subs.
  By an AI agent.
-/
set_option linter.all false
namespace TL
theorem sR{α β:Type}[Inhabited α][Inhabited β](f:α->β){l:List α}{i:Int}(h0:0<=i)(h1:i<l.length):gI (l.map f) i=f (gI l i):=by
 have:i.toNat<l.length:=by omega
 simp[gI,this]
end TL
/-
  TlNetSums: degrees' sum; all edges, all nodes; moved there and back.
  By an AI agent.
-/
set_option linter.all false
namespace TL
def bI(n:Nat):List Int:=(List.range n).map λ(i:Nat)=>(i:Int)
theorem e9(n:Nat):(bI n).length=n:=by simp[bI]
theorem mr(n:Nat):bI (n+1)=bI n++[(n:Int)]:=by simp[bI,List.range_succ]
theorem cY{n:Nat}{x:Int}:x∈bI n↔0<=x/\x<n:=by
 unfold bI
 rw[List.mem_map]
 constructor
 · rintro⟨i,hi,rfl⟩
   have:=List.mem_range.1 hi
   omega
 · rintro⟨h1,h2⟩
   exact⟨x.toNat,List.mem_range.2 (by omega),by omega⟩
theorem eU(n:Nat):(bI n).Nodup:=by
 induction n with
 |zero=>simp[bI]
 |succ n ih=>
   rw[mr,List.nodup_append]
   refine⟨ih,by simp,λa ha b hb=>?_⟩
   have:=cY.1 ha
   have:=List.mem_singleton.1 hb
   omega
theorem rz{n:Nat}{i:Int}(h0:0<=i)(h1:i<n):gI (bI n) i=i:=by
 have:i.toNat<n:=by omega
 simp[gI,bI,this]
 omega
theorem uk{α:Type}[Inhabited α](l:List α):(bI l.length).map (gI l)=l:=by
 apply List.ext_getElem
 · simp[bI]
 · intro i h1 h2;simp[bI,gI,h2]
theorem qi:∀(n:Nat) (l:List Int),l.Nodup->(∀x∈l,0<=x/\x<(n:Int))->l.length<=n
 |0,l,_,h=>by
   cases l with
   |nil=>simp
   |cons a l=>have:=h a (by simp);omega
 |n+1,l,hn,h=>by
   have h1:(l.erase (n:Int)).Nodup:=hn.erase _
   have h2:=qi n (l.erase (n:Int)) h1 (λx hx=>by
     have h3:=hn.mem_erase_iff.1 hx
     have:=h x h3.2
     omega)
   by_cases hm:(n:Int)∈l
   · have:=List.length_erase_of_mem hm
     omega
   · rw[List.erase_of_not_mem hm] at h2
     omega
theorem me{n:Nat}{l:List Int}(hn:l.Nodup)(h:∀x∈l,0<=x/\x<(n:Int))(hl:l.length=n){u:Int}(h0:0<=u)(h1:u<n):u∈l:=by
 by_cases hu:u∈l
 · exact hu
 · have:=qi n (u::l) (List.nodup_cons.2 ⟨hu,hn⟩) (λx hx=>by
     rcases List.mem_cons.1 hx with rfl|hx
     · exact⟨h0,h1⟩
     · exact h x hx)
   simp at this
   omega
end TL
/-
  TlRef3: what the document's own answer of layer 3 goes through.
  By an AI agent.
-/
set_option linter.all false
namespace TL
def nc(g:bG)(v:Int)(h:Nat):List Int:=((List.range h).map (λ(i:Nat)=>(i:Int))).filter λh=>decide (aL g h=v)
theorem rR(g:bG)(v:Int)(h:Nat):nc g v (h+1)=if aL g h=v then nc g v h++[(h:Int)] else nc g v h:=by
 unfold nc
 rw[List.range_succ,List.map_append,List.filter_append]
 by_cases e:aL g (h:Int)=v
 · rw[if_pos e];simp[e]
 · rw[if_neg e];simp[e]
theorem uW(g:bG)(v:Int)(h:Nat):(nc g v h).length<=h:=by
 unfold nc
 have:=List.length_filter_le (λh=>decide (aL g h=v)) ((List.range h).map (λ(i:Nat)=>(i:Int)))
 simpa using this
theorem uZ(g:bG)(v:Int){h:Nat}(hh:h=2*g.2.length):nc g v h=bP g v:=by subst hh;rfl
theorem lF{g:bG}(hm:bF g){h:Int}(h0:0<=h)(h1:h<2*(g.2.length:Int)):0<=aL g h/\aL g h<g.1:=by
 have hok:=hm.2.2.2 _ (aR (xs:=g.2) (i:=h/2) (by omega) (by omega))
 unfold ox at hok
 unfold aL pI
 split<;>omega
end TL
/-
  TlKeep: rows of an own list given away one by one while the list stays readable; rows with a mark behind each.
  By an AI agent.
-/
set_option linter.all false
namespace TL
open Go
def j3(q i k:Nat):cd->Prop:=λc=>c.1=q\/(c.1=i/\c.2=0)\/c.1=k
theorem b5.l3{L:List Nat}{q i k:Nat}{γ γ':aH}{w w':World}(h:b5 (j3 q i k) γ w γ' w')(h1:L.contains q=true)(h2:L.contains i=true)(h3:L.contains k=true):b5 (inl L) γ w γ' w':=h.mono λc hc=>by
 unfold inl
 rcases hc with hc|hc|hc
 · rw[hc];exact h1
 · rw[hc.1];exact h2
 · rw[hc];exact h3
section
variable{P:Program}{w:World}{t t':TypeId}{f:Fr}{x y:Operand}{dst:Option Tmp}{ty:TypeId}{pos:String}{after:Array Edge}{g:Option (Nat×Bool)}{N:Value->World->Prop}{α:Type}[Rp α]{γ:aH}{v u:Value}{xss:List (List α)}{l:List α}{i k j:Nat}
end
section
variable{α:Type}[Rp α][Fl α]{γ γ':aH}{w w':World}{v:Value}{us:List Vc}{xss:List (List α)}{i k j q:Nat}
end
inductive Rw where
  |mk (l:List Int) (m:Int)
  |pl (l:List Int)
instance:Inhabited Rw:=⟨.pl []⟩
theorem sH{α:Type}[Rp α]{γ:aH}{S:cd->Prop}{w:World}{v:Value}{xs:List α}{m:α}(h:Sl γ S w (Ak v) (xs++[m])):∃a l c,v= .slice a l c:=by
 rcases h with⟨_,h0⟩|⟨b,off,cap,hv,_⟩
 · simp at h0
 · cases v<;>simp[Ak] at hv
   exact⟨_,_,_,rfl⟩
def zu(γ:aH)(S:cd->Prop)(w:World)(v:Value):Rw->Prop
  | .mk l m=>Sl γ S w (Ak v) (l++[m])
  | .pl l=>Sl γ S w v l
theorem zu.one{γ:aH}{S:cd->Prop}{w:World}{v:Value}{x:Rw}(h:zu γ S w v x):v.oneCell'=true:=by
 cases x with
 |mk l m=>
   obtain⟨a,b,c,rfl⟩:=sH h
   rfl
 |pl l=>
   rcases h with⟨⟨_,rfl⟩,_⟩|⟨b,off,cap,rfl,_⟩<;>rfl
theorem zu.tr{γ γ':aH}{S S':cd->Prop}{w w':World}{v:Value}{x:Rw}(hsz:w.heap.size<=w'.heap.size)(h:∀b,b<w.heap.size->S (γ b)->w'.heap[b]? =w.heap[b]? /\S' (γ' b))(hx:zu γ S w v x):zu γ' S' w' v x:=by
 cases x with
 |mk l m=>exact Sl.tr h hx hsz
 |pl l=>exact Sl.tr h hx hsz
instance:Rp Rw where
 sz:=1
 rep γ S w cs x:=∃v,cs=[v]/\zu γ S w v x
 len:=by rintro _ _ _ _ _ ⟨v,rfl,_⟩;rfl
 one:=by
   rintro _ _ _ _ _ ⟨v,rfl,h⟩ u hu
   obtain rfl:u=v:=by simpa using hu
   exact h.one
 tr:=by
   rintro _ _ _ _ _ _ _ _ hs h ⟨v,rfl,hv⟩
   exact⟨v,rfl,hv.tr hs h⟩
section
variable{P:Program}{w:World}{t t':TypeId}{f:Fr}{x y:Operand}{dst:Option Tmp}{ty:TypeId}{pos:String}{after:Array Edge}{g:Option (Nat×Bool)}{N:Value->World->Prop}{γ:aH}{v u:Value}{xss:List (List Int)}{l:List Int}{i:Nat}
end
end TL
/-
  TlEq: structs compared; a pointer looked at for nil; a bit turned.
  By an AI agent.
-/
set_option linter.all false
namespace TL
open Go
section
variable{P:Program}{f:Fr}{w:World}{dst:Option Tmp}{ty:TypeId}{pos:String}{after:Array Edge}{g:Option (Nat×Bool)}{t t' e:TypeId}{x y:Operand}
theorem aB{a:Addr}(hx:ev f x= .pointer (some a)):(execOp (ev f) ⟨dst,.nilCheck x,ty,pos,after,g⟩).run P w= .ok (.value (.pointer (some a))) w:=by
 simp only[execOp,hx,Sem.run_pure]
inductive EqV (P:Program) (t:TypeId):Value->Value->Bool->Prop
 |int {a b:Int} (h:P.underlying t=some (.int .i64)):EqV P t (.int .i64 a) (.int .i64 b) (decide (a=b))
 |bool {a b:Bool} (h:P.underlying t=some .bool):EqV P t (.bool a) (.bool b) (decide (a=b))
inductive EqF (P:Program) (xs ys:Array Value):List Field->List Bool->Prop
 |nil:EqF P xs ys [] []
 |cons {fd:Field} {fs:List Field} {bs:List Bool} {a b z:Value} {r:Bool} {size bytes:Nat} (hn:(fd.name != "_")=true) (he:Tp P fd.type false size bytes z) (ha:xs[fd.offset]? =some a) (hb:ys[fd.offset]? =some b) (hq:EqV P fd.type a b r) (hr:EqF P xs ys fs bs):EqF P xs ys (fd::fs) (r::bs)
theorem gP{xs ys:Array Value}{fs:List Field}{bs:List Bool}(h:EqF P xs ys fs bs)(d:Nat):(Op.eqFields (d+1) xs ys fs).run P w= .ok (bs.all id) w:=by
 induction h with
 |nil=>simp[Op.eqFields,Sem.run_pure]
 | @cons fd fs bs a b z r size bytes hn he ha hb hq hr ih=>
   have hn':fd.name≠ "_" :=by simpa using hn
   have h1:=i6 (P:=P) (w:=w) he ha
   have h2:=i6 (P:=P) (w:=w) he hb
   have h3:(Op.equalIn (d+1) fd.type a b).run P w= .ok r w:=by
     cases hq with
     |int h=>simp[Op.equalIn,aS h,Sem.run_pure];rfl
     |bool h=>simp[Op.equalIn,aS h,Sem.run_pure];rfl
   simp only[Op.eqFields,if_pos hn',Sem.run_bind,h1,h2,h3,Result.andThen_ok]
   cases r with
   |true=>simp[ih]
   |false=>simp[Sem.run_pure]
theorem fE{fs:Array Field}{xs ys:List Value}{bs:List Bool}{q:Bool}(ht:P.underlying t=some (.struct fs))(hp:P.stoodInHeld t=false)(hg:P.eqGuardType P.depth t=false)(hx:ev f x= .agg xs.toArray)(hy:ev f y= .agg ys.toArray)(h:EqF P xs.toArray ys.toArray fs.toList bs)(hq:bs.all id=q):
   (execOp (ev f) ⟨dst,.binOp .eql t x y t',ty,pos,after,g⟩).run P w= .ok (.value (.bool q)) w:=by
 have e1:P.fieldsOf t=fs:=by simp[Program.fieldsOf,ht]
 have hr:(Op.equal t (.agg xs.toArray) (.agg ys.toArray)).run P w= .ok q w:=by
   have:=run_equalIn_struct (P:=P) w 9999 t xs.toArray ys.toArray (by rw[e1];exact ht) hp
   rw[e1,gP h 9998,hq] at this
   exact this
 exact uI .eql hx hy (by simp[eqGuard,hg]) (by simp[binOp,hr])
def bX(h:Int):Int:=if h%2=0 then h+1 else h-1
end
end TL
namespace TL
open Go
section
variable{P:Program}{f:Fr}{w:World}{dst:Option Tmp}{ty:TypeId}{pos:String}{after:Array Edge}{g:Option (Nat×Bool)}{t:TypeId}{x:Operand}
end
end TL
namespace TL
open Go
section
variable{P:Program}{f:Fr}{w:World}{dst:Option Tmp}{ty:TypeId}{pos:String}{after:Array Edge}{g:Option (Nat×Bool)}{t t':TypeId}{x y:Operand}{m n:Int}
theorem yk(hx:ev f x= .int .i64 m)(hy:ev f y= .int .i64 n)(hn:0<n)(hm: -4611686018427387904<=m/\m<=4611686018427387904):(execOp (ev f) ⟨dst,.binOp .quo t x y t',ty,pos,after,g⟩).run P w= .ok (.value (.int .i64 (Int.tdiv m n))) w:=by
 refine c7 .quo x y hx hy ?_
 have h0:¬n=0:=by omega
 have h1:pB (Int.tdiv m n):=by
   have h2:=Int.natAbs_tdiv_le_natAbs m n
   constructor<;>omega
 simp[binOp,Op.intDiv,h0,jL h1]
end
end TL
namespace TL
open Go
theorem zL{f:Fr}{x:Operand}{xs:List Operand}{v:Value}{vs:List Value}(h:ev f x=v)(h2:xs.map (ev f)=vs):(x::xs).map (ev f)=v::vs:=by subst h h2;rfl
end TL
/-
  TlRot: rotations: which may be, turned to their xU, faces.
  By an AI agent.
-/
set_option linter.all false
namespace TL
abbrev bY:=List (List Int)
def cM(g:bG)(r:bY):Prop:=(r.length:Int)=g.1/\(∀v:Nat,v<r.length->∀h∈gI r (v:Int),(0<=h/\h<2*(g.2.length:Int))/\aL g h=v)/\r.flatten.Nodup/\(r.flatten.length:Int)=2*g.2.length
instance (g:bG)(r:bY):Decidable (cM g r):=by unfold cM;infer_instance
def bR(g:bG)(r:bY):Int:=if bF g then if cM g r then 0 else 4 else 1
theorem x4{g:bG}{r:bY}(h:bR g r=0):bF g/\cM g r:=by
 unfold bR at h
 by_cases h1:bF g
 · by_cases h2:cM g r
   · exact⟨h1,h2⟩
   · rw[if_pos h1,if_neg h2] at h;cases h
 · rw[if_neg h1] at h;cases h
theorem jy{g:bG}{r:bY}(h1:bF g)(h2:cM g r):bR g r=0:=by unfold bR;rw[if_pos h1,if_pos h2]
theorem ed{g:bG}{r:bY}(h1:bF g)(h2:¬cM g r):bR g r=4:=by unfold bR;rw[if_pos h1,if_neg h2]
theorem ig{n:Int}{l:List Int}(h0:0<=n)(hn:l.Nodup)(h:∀x∈l,0<=x/\x<n):(l.length:Int)<=n:=by
 have:=qi n.toNat l hn (λx hx=>by have:=h x hx;omega)
 omega
theorem fP{r:bY}{k:Nat}(hk:(k:Int)<r.length):(r.take (k+1)).flatten=(r.take k).flatten++gI r (k:Int):=by
 rw[bC hk];simp
structure fq(seen:List Bool)(P:List Int)(n:Int):Prop where
  len:(seen.length:Int)=n
  seen:∀h,0<=h->h<n->gI seen h=decide (h∈P)
  nodup:P.Nodup
  rng:∀h∈P,0<=h/\h<n
theorem fq.start{n:Int}(hn:0<=n):fq (List.replicate n.toNat false) [] n:=
 ⟨by simp;omega,λh h0 h1=>by rw[ku h0 (by omega)];simp,by simp,by simp⟩
theorem fq.next{seen:List Bool}{P:List Int}{n h:Int}(hi:fq seen P n)(h0:0<=h)(h1:h<n)(hs:gI seen h=false):fq (seen.set h.toNat true) (P++[h]) n:=by
 have hl:=hi.len
 have hn:h∉P:=by
   have:=hi.seen h h0 h1
   rw[hs] at this
   simpa using this.symm
 refine⟨by simpa using hl,λx hx0 hx1=>?_,?_,λx hx=>?_⟩
 · rw[dN h0 (by omega) hx0]
   by_cases e:x=h
   · subst e;simp
   · rw[if_neg e,hi.seen x hx0 hx1];simp[e]
 · rw[List.nodup_append]
   refine⟨hi.nodup,by simp,λa ha b hb=>?_⟩
   obtain rfl:=List.mem_singleton.1 hb
   intro e;subst e;exact hn ha
 · rcases List.mem_append.1 hx with hx|hx
   · exact hi.rng x hx
   · obtain rfl:=List.mem_singleton.1 hx;exact⟨h0,h1⟩
theorem fq.bd{seen:List Bool}{P:List Int}{n:Int}(hi:fq seen P n):(P.length:Int)<=n:=ig (by have:=hi.len;omega) hi.nodup hi.rng
theorem fq.mem{seen:List Bool}{P:List Int}{n h:Int}(hi:fq seen P n)(h0:0<=h)(h1:h<n)(hs:gI seen h=true):h∈P:=by
 have:=hi.seen h h0 h1
 rw[hs] at this
 simpa using this.symm
structure cu(seen:List Bool)(n:Int)(g:bG)(r:bY)(k i:Nat):Prop where
  rm:fq seen ((r.take k).flatten++(gI r (k:Int)).take i) (2*(g.2.length:Int))
  n:n=(((r.take k).flatten++(gI r (k:Int)).take i).length:Int)
  ok:∀v:Nat,v<k->∀h∈gI r (v:Int),(0<=h/\h<2*(g.2.length:Int))/\aL g h=v
  row:∀h∈(gI r (k:Int)).take i,(0<=h/\h<2*(g.2.length:Int))/\aL g h=k
theorem cu.start(g:bG)(r:bY):cu (List.replicate (2*(g.2.length:Int)).toNat false) 0 g r 0 0:=
 ⟨by simpa using fq.start (n:=2*(g.2.length:Int)) (by omega),by simp,λv hv=>by omega,by simp⟩
section
variable{seen:List Bool}{n:Int}{g:bG}{r:bY}{k i:Nat}
theorem cu.bd(h:cu seen n g r k i):0<=n/\n<=2*(g.2.length:Int):=by
 have h1:=h.rm.bd
 rw[h.n]
 exact⟨by omega,h1⟩
theorem cu.next(h:cu seen n g r k i)(hi:(i:Int)<(gI r (k:Int)).length)(h0:0<=gI (gI r (k:Int)) (i:Int))(h1:gI (gI r (k:Int)) (i:Int)<2*(g.2.length:Int))(hs:gI seen (gI (gI r (k:Int)) (i:Int))=false)(hf:aL g (gI (gI r (k:Int)) (i:Int))=k):
   cu (seen.set (gI (gI r (k:Int)) (i:Int)).toNat true) (n+1) g r k (i+1):=by
 have e:=bC hi
 refine⟨?_,?_,h.ok,λx hx=>?_⟩
 · rw[e,<-List.append_assoc];exact h.rm.next h0 h1 hs
 · rw[e,<-List.append_assoc,List.length_append,h.n];simp
 · rw[e] at hx
   rcases List.mem_append.1 hx with hx|hx
   · exact h.row x hx
   · obtain rfl:=List.mem_singleton.1 hx;exact⟨⟨h0,h1⟩,hf⟩
theorem cu.row_done(h:cu seen n g r k i)(hk:(k:Int)<r.length)(hi:¬(i:Int)<(gI r (k:Int)).length):cu seen n g r (k+1) 0:=by
 have e:(gI r (k:Int)).take i=gI r (k:Int):=List.take_of_length_le (by omega)
 have h1:=h.rm
 have h2:=h.n
 have h3:=h.row
 rw[e] at h1 h2 h3
 refine⟨by rw[fP hk];simpa using h1,by rw[fP hk];simpa using h2,λv hv x hx=>?_,by simp⟩
 by_cases hvk:v=k
 · subst hvk;exact h3 x hx
 · exact h.ok v (by omega) x hx
theorem cu.bad(h:cu seen n g r k i)(hk:(k:Int)<r.length)(hi:(i:Int)<(gI r (k:Int)).length)(hb:¬((0<=gI (gI r (k:Int)) (i:Int)/\gI (gI r (k:Int)) (i:Int)<2*(g.2.length:Int))/\aL g (gI (gI r (k:Int)) (i:Int))=k)):¬cM g r:=λhr=>
 hb (hr.2.1 k (by omega) _ (aR (by omega) hi))
theorem cu.twice(h:cu seen n g r k i)(hk:(k:Int)<r.length)(hi:(i:Int)<(gI r (k:Int)).length)(h0:0<=gI (gI r (k:Int)) (i:Int))(h1:gI (gI r (k:Int)) (i:Int)<2*(g.2.length:Int))(hs:gI seen (gI (gI r (k:Int)) (i:Int))=true):¬cM g r:=λhr=>by
 have hm:=h.rm.mem h0 h1 hs
 have hn:=hr.2.2.1
 have hsub:List.Sublist ((r.take k).flatten++(gI r (k:Int)).take i++[gI (gI r (k:Int)) (i:Int)]) r.flatten:=by
   rw[List.append_assoc,<-bC hi]
   have e1:r=r.take (k+1)++r.drop (k+1):=(List.take_append_drop _ _).symm
   have e2:r.flatten=(r.take (k+1)).flatten++(r.drop (k+1)).flatten:=by rw[<-List.flatten_append,<-e1]
   rw[e2,fP hk]
   exact(List.Sublist.append_left (List.take_sublist _ _) _).trans (List.sublist_append_left _ _)
 have:=hn.sublist hsub
 rw[List.nodup_append] at this
 exact this.2.2 _ hm _ (by simp) rfl
theorem cu.fin(h:cu seen n g r k i)(hl:(r.length:Int)=g.1)(hk:k=r.length)(hi:i=0):cM g r↔n=2*(g.2.length:Int):=by
 subst hk hi
 have h1:=h.rm
 have h2:=h.n
 simp only[List.take_zero,List.append_nil,List.take_length] at h1 h2
 rw[h2]
 exact⟨λhr=>hr.2.2.2,λe=>⟨hl,h.ok,h1.nodup,e⟩⟩
end
def gS(l:List Int):List Int:=if l=[] then[] else l.drop (l.idxOf (dI l))++l.take (l.idxOf (dI l))
def cG(r:bY):bY:=r.map gS
def dy(s:List Int)(v:Int):Int:=if v∈s then(s.idxOf v:Int) else-1
theorem uv{s:List Int}{v:Int}{i:Nat}(h:∀j:Nat,j<i->¬v=gI s (j:Int))(hi:(i:Int)<s.length)(he:v=gI s (i:Int)):(i:Int)=dy s v:=by
 have hlt:i<s.length:=by omega
 have e:gI s (i:Int)=s[i]:=by simp[gI,hlt]
 have hm:v∈s:=by rw[he];exact aR (by omega) hi
 unfold dy
 rw[if_pos hm]
 have hlt2:=List.idxOf_lt_length_iff.2 hm
 have h1:¬s.idxOf v<i:=λhlt'=>h _ hlt' (by simp[gI,hlt2])
 have h2:¬i<s.idxOf v:=λhlt'=>by
   have:=List.not_of_lt_findIdx (xs:=s) (p:=(· ==v)) (i:=i) hlt'
   simp at this
   exact this (by rw[<-e,<-he])
 omega
theorem vU{s:List Int}{v:Int}{i:Nat}(h:∀j:Nat,j<i->¬v=gI s (j:Int))(hi:¬(i:Int)<s.length):(-1:Int)=dy s v:=by
 unfold dy
 rw[if_neg]
 intro hm
 obtain⟨j,hj,e⟩:=List.mem_iff_getElem.1 hm
 exact h j (by omega) (by simp[gI,hj,e])
theorem iO:∀(l:List Int) (a:Int),l.foldl min a=a\/l.foldl min a∈l
 |[],a=>.inl rfl
 |x::l,a=>by
   simp only[List.foldl_cons]
   rcases iO l (min a x) with h|h
   · rw[h]
     rcases Int.le_total a x with h1|h1
     · rw[Int.min_eq_left h1];exact .inl rfl
     · rw[Int.min_eq_right h1];exact .inr (by simp)
   · exact .inr (by simp[h])
theorem vW{l:List Int}(hl:l≠[]):dI l=(l.drop 1).foldl min (gI l 0):=by
 unfold dI oo;rw[List.take_length]
theorem v6{l:List Int}(hl:l≠[]):dI l∈l:=by
 rw[vW hl]
 cases l with
 |nil=>exact absurd rfl hl
 |cons a l=>
   simp only[List.drop_succ_cons,List.drop_zero]
   rcases iO l (gI (a::l) 0) with h|h
   · rw[h];simp[gI]
   · exact List.mem_cons_of_mem _ h
theorem su{l:List Int}(hl:l≠[]):gS l=l.drop (dy l (dI l)).toNat++l.take (dy l (dI l)).toNat/\0<=dy l (dI l)/\dy l (dI l)<l.length:=by
 have hm:=v6 hl
 unfold gS dy
 rw[if_neg hl,if_pos hm]
 have:=List.idxOf_lt_length_iff.2 hm
 exact⟨by simp,by omega,by omega⟩
end TL
namespace TL
theorem uz{α β:Type}[Inhabited α]{f:α->β}{r:List α}{k:Nat}{d y:β}(hk:(k:Int)<r.length)(hy:y=f (gI r (k:Int))):(List.map f (List.take k r)++List.replicate (r.length-k) d).set (k:Int).toNat y=List.map f (List.take (k+1) r)++List.replicate (r.length-(k+1)) d:=by
 have hl:(List.map f (List.take k r)).length=k:=by simp;omega
 have e:r.length-k=(r.length-(k+1))+1:=by omega
 rw[e,List.replicate_succ,bC hk,List.map_append,hy]
 simp only[Int.toNat_natCast]
 rw[List.set_append_right _ _ (by omega),hl]
 simp
theorem uu{α β:Type}[Inhabited α]{f:α->β}{r:List α}{k:Nat}{d:β}(hk:(k:Int)<r.length)(hy:f (gI r (k:Int))=d):(List.map f (List.take k r)++List.replicate (r.length-k) d)=List.map f (List.take (k+1) r)++List.replicate (r.length-(k+1)) d:=by
 have e:r.length-k=(r.length-(k+1))+1:=by omega
 rw[e,List.replicate_succ,bC hk,List.map_append,List.map_cons,hy]
 simp
end TL
/-
  TlMap: maps that the call makes.
  By an AI agent.
-/
set_option linter.all false
namespace TL
open Go
class Ky (K:Type) where
  val:K->Value
structure qY(P:Program)(kt:TypeId)(K:Type)[DecidableEq K][Ky K]:Prop where
 check:∀(b:Bool) (k:K) (w:World),(Instr.checkKey b 10000 kt (Ky.val k)).run P w= .ok () w
 find:∀(k:K) (es:List MapEntry) (ks:List K) (w:World),es.map (·.key)=ks.map Ky.val->(Instr.findKey kt (Ky.val k) es).run P w= .ok ((ks.findIdx? (· =k)).bind λi=>(es[i]?).map λe=>(i,e.val)) w
 bits:∀k:K,Instr.sameBits 10000 (Ky.val k) (Ky.val k)=true
section
variable{P:Program}{f:Fr}{w:World}{dst:Option Tmp}{ty:TypeId}{pos:String}{after:Array Edge}{g:Option (Nat×Bool)}{t:TypeId}{x y z:Operand}{N:Value->World->Prop}
theorem dJ{r:Nat}{es:Array MapEntry}{clock:Nat}(h:w.heap[r]? =some (.map es clock)):(getObj r).run P w= .ok (.map es clock) w:=by
 simp[getObj,Sem.run,h]
theorem fJ{r:Nat}{es:Array MapEntry}{clock:Nat}{o:Obj}(h:w.heap[r]? =some (.map es clock)):(setObj r o).run P w= .ok () {w with heap:=w.heap.setIfInBounds r o}:=by
 simp[setObj,Sem.run,h]
theorem j5(γ:aH){r:Nat}(o:Obj){J:cd->Prop}(hJ:J (γ r)):b5 J γ w γ {w with heap:=w.heap.setIfInBounds r o}:=
 ⟨rfl,rfl,rfl,by simp,λ_ _ _=>rfl,λk _ hk=>by
   have:r≠k:=λh=>hk (h▸hJ)
   simp[Array.getElem?_setIfInBounds_ne this],Nat.le_refl _⟩
theorem io{r:Nat}{o o':Obj}(h:w.heap[r]? =some o'):({w with heap:=w.heap.setIfInBounds r o}:World).heap[r]? =some o:=by
 have:=cO h
 simp[this]
end
instance:Ky Int where
 val k:=.int .i64 k
instance:Ky (Int×Int) where
 val k:=.agg (List.toArray [.int .i64 k.1,.int .i64 k.2])
end TL
namespace TL
open Go
end TL
/-
  TlShort: short names for the commonest steps (used by packed claims only).
  By an AI agent.
-/
set_option linter.all false
namespace TL
open Go
abbrev vi(x:Int):Value:=Value.int .i64 x
abbrev vp(b o:Nat):Value:=Value.pointer (some ⟨b,o,none⟩)
abbrev vn:Value:=Value.slice none 0 0
abbrev vt(l:List Value):Value:=Value.tuple (List.toArray l)
abbrev vg(l:List Value):Value:=Value.agg (List.toArray l)
theorem cg(L:List Nat){γ γ':aH}{w w':World}(h:b5 (inl L) γ w γ' w'):b5 (inl L) γ w γ' w':=h
theorem dt{p:Prop}[Decidable p](h:p):decide p=true:=decide_eq_true h
theorem df{p:Prop}[Decidable p](h:¬p):decide p=false:=decide_eq_false h
section
variable{P:Program}{all rest:List Oper}{K:Fr->World->Prop}{f:Fr}{w w':World}{x:Operand}
variable{dst:Option Tmp}{op:Op}{ty:TypeId}{pos:String}{after:Array Edge}{g:Option (Nat×Bool)}{o:Oper}
theorem lv(v:Value)(hw:cU all ⟨dst,op,ty,pos,after,g⟩ f=true)(h:(execOp (ev f) ⟨dst,op,ty,pos,after,g⟩).run P w= .ok (.value v) w')(hk:iM P all rest K (gX f dst v) w'):iM P all (⟨dst,op,ty,pos,after,g⟩::rest) K f w:=kI hw h hk
theorem lx{v:Value}(h:(execOp (ev f) ⟨dst,op,ty,pos,after,none⟩).run P w= .ok (.value v) w')(hk:iM P all rest K (gX f dst v) w'):iM P all (⟨dst,op,ty,pos,after,none⟩::rest) K f w:=kI rfl h hk
theorem lw(v:Value)(h:(execOp (ev f) ⟨dst,op,ty,pos,after,none⟩).run P w= .ok (.value v) w')(hk:iM P all rest K (gX f dst v) w'):iM P all (⟨dst,op,ty,pos,after,none⟩::rest) K f w:=kI rfl h hk
theorem mv(v:Value)(hk:iM P all rest K (gX f dst v) w)(h:ev f x=v:=by exact rfl):iM P all (⟨dst,.move x,ty,pos,after,none⟩::rest) K f w:=kI rfl (aD h) hk
theorem ma(v:Value)(hk:iM P all rest K (gX f dst v) w)(h:ev f x=v:=by exact rfl):iM P all (⟨dst,.assign x,ty,pos,after,none⟩::rest) K f w:=kI rfl (bS h) hk
theorem mi(v:Int)(hk:iM P all rest K (gX f dst (.int .i64 v)) w)(h:ev f x= .int .i64 v:=by exact rfl):iM P all (⟨dst,.move x,ty,pos,after,none⟩::rest) K f w:=kI rfl (aD h) hk
theorem ai(v:Int)(hk:iM P all rest K (gX f dst (.int .i64 v)) w)(h:ev f x= .int .i64 v:=by exact rfl):iM P all (⟨dst,.assign x,ty,pos,after,none⟩::rest) K f w:=kI rfl (bS h) hk
theorem mz{v:Value}(h:ev f x=v)(hk:iM P all rest K (gX f dst v) w):iM P all (⟨dst,.move x,ty,pos,after,none⟩::rest) K f w:=kI rfl (aD h) hk
theorem lo(h:gF P ⟨dst,op,ty,pos,after,none⟩ f w (λv w'=>iM P all rest K (gX f dst v) w')):iM P all (⟨dst,op,ty,pos,after,none⟩::rest) K f w:=cj rfl h
theorem wy{j:Nat}{x:Bool}{d:Nat}{b:Bool}(hx:b=x)(hg:o.guard=some (j,x):=by exact rfl)(hj:(all[j]?).bind (·.dst)=some d:=by exact rfl)(hb:f d= .bool b:=by exact rfl):cU all o f=true:=z7 hg hj hb hx
theorem wn{j:Nat}{x:Bool}{d:Nat}{b:Bool}(hx:b= !x)(hg:o.guard=some (j,x):=by exact rfl)(hj:(all[j]?).bind (·.dst)=some d:=by exact rfl)(hb:f d= .bool b:=by exact rfl):cU all o f=false:=zh hg hj hb hx
variable{C:World->Prop}{KQ:Fr->Prop}
theorem qv(v:Value)(h:∀w,C w->(execOp (ev f) ⟨dst,op,ty,pos,after,none⟩).run P w= .ok (.value v) w)(hk:l6 P all C rest KQ (gX f dst v)):l6 P all C (⟨dst,op,ty,pos,after,none⟩::rest) KQ f:=aW rfl h hk
theorem qx{v:Value}(h:∀w,C w->(execOp (ev f) ⟨dst,op,ty,pos,after,none⟩).run P w= .ok (.value v) w)(hk:l6 P all C rest KQ (gX f dst v)):l6 P all C (⟨dst,op,ty,pos,after,none⟩::rest) KQ f:=aW rfl h hk
theorem qm(v:Value)(hk:l6 P all C rest KQ (gX f dst v))(h:ev f x=v:=by exact rfl):l6 P all C (⟨dst,.move x,ty,pos,after,none⟩::rest) KQ f:=aW rfl (λ_ _=>aD h) hk
theorem qz{v:Value}(h:ev f x=v)(hk:l6 P all C rest KQ (gX f dst v)):l6 P all C (⟨dst,.move x,ty,pos,after,none⟩::rest) KQ f:=aW rfl (λ_ _=>aD h) hk
end
section
variable{P:Program}{n:Nat}{l:List Oper}{S:World->Prop}{K:Fr->World->Prop}{f:Fr}{w:World}{done:List Nat}{fuel:Nat}{qs:List Nat}
variable{dst:Option Tmp}{op:Op}{ty:TypeId}{pos:String}{after:Array Edge}{g:Option (Nat×Bool)}{v:Value}
theorem ht(i:Nat)(hi:l[i]? =some ⟨dst,op,ty,pos,after,none⟩)(hS:S w)(h:∀w,S w->(execOp (ev f) ⟨dst,op,ty,pos,after,none⟩).run P w= .ok (.value v) w)(hk:r4 P n l S K fuel (i::done) (gX f dst v) w)(hn:hU l=true:=by kernel_rfl)(hc:(gM l done i&&jM l done i&&nI n ⟨dst,op,ty,pos,after,none⟩)=true:=by kernel_rfl):r4 P n l S K (fuel+1) done f w:=yL i hi hn hc rfl hS h hk
theorem xv(i:Nat)(M:List Nat)(hi:l[i]? =some ⟨dst,op,ty,pos,after,none⟩)(h:(execOp (ev f) ⟨dst,op,ty,pos,after,none⟩).run P w= .ok (.value v) w)(hk:sJ P n l qs K fuel (i::done) (gX f dst v) w)(hn:hU l=true:=by kernel_rfl)(hc:(qs.contains i&&gM l done i&&jM l done i&&nm l qs done M i&&nI n ⟨dst,op,ty,pos,after,none⟩)=true:=by kernel_rfl):sJ P n l qs K (fuel+1) done f w:=zC i M hi hn hc rfl h hk
theorem xp(i:Nat)(hi:l[i]? =some ⟨dst,op,ty,pos,after,none⟩)(h:∀w,(execOp (ev f) ⟨dst,op,ty,pos,after,none⟩).run P w= .ok (.value v) w)(hk:sJ P n l qs K fuel (i::done) (gX f dst v) w)(hn:hU l=true:=by kernel_rfl)(hc:(qs.contains i&&gM l done i&&jM l done i&&nI n ⟨dst,op,ty,pos,after,none⟩)=true:=by kernel_rfl):sJ P n l qs K (fuel+1) done f w:=y6 i hi hn hc rfl h hk
end
section
variable{γ γ':aH}{w w':World}{v:Value}{j k:Nat}{L:List Nat}
theorem aX.ca{w0:World}(h:aX w0 γ w)(hc:b5 (inl L) γ w γ' w')(hj:L.contains 0=false:=by exact rfl):aX w0 γ' w':=h.chg hc (bA hj)
theorem aX.ce{w0:World}(h:aX w0 γ w)(hc:b5 (is k) γ w γ' w')(hj:Nat.beq 0 k=false:=by exact rfl):aX w0 γ' w':=h.chg hc (fm hj)
theorem aX.cn{w0:World}(h:aX w0 γ w)(hc:b5 no γ w γ' w'):aX w0 γ' w':=h.chg hc (i5 _)
theorem Bx.ca{b:Nat}{cs:List Value}(h:Bx γ (is j) w b cs)(hc:b5 (inl L) γ w γ' w')(hj:L.contains j=false:=by exact rfl):Bx γ' (is j) w' b cs:=h.chg hc (bA hj)
theorem Bx.ce{b:Nat}{cs:List Value}(h:Bx γ (is j) w b cs)(hc:b5 (is k) γ w γ' w')(hj:Nat.beq j k=false:=by exact rfl):Bx γ' (is j) w' b cs:=h.chg hc (fm hj)
theorem Bx.cn{J:cd->Prop}{b:Nat}{cs:List Value}(h:Bx γ J w b cs)(hc:b5 no γ w γ' w'):Bx γ' J w' b cs:=h.chg hc (i5 _)
theorem Sl.ca{α:Type}[Rp α]{xs:List α}(h:Sl γ (is j) w v xs)(hc:b5 (inl L) γ w γ' w')(hj:L.contains j=false:=by exact rfl):Sl γ' (is j) w' v xs:=h.chg hc (bA hj)
theorem Sl.ce{α:Type}[Rp α]{xs:List α}(h:Sl γ (is j) w v xs)(hc:b5 (is k) γ w γ' w')(hj:Nat.beq j k=false:=by exact rfl):Sl γ' (is j) w' v xs:=h.chg hc (fm hj)
theorem Sl.cn{α:Type}[Rp α]{S:cd->Prop}{xs:List α}(h:Sl γ S w v xs)(hc:b5 no γ w γ' w'):Sl γ' S w' v xs:=h.chg hc (i5 _)
theorem Ow.ca{α:Type}[Rp α]{xs:List α}(h:Ow γ (is j) (is j) w v xs)(hc:b5 (inl L) γ w γ' w')(hj:L.contains j=false:=by exact rfl):Ow γ' (is j) (is j) w' v xs:=h.chg hc (bA hj) (bA hj)
theorem Ow.ce{α:Type}[Rp α]{xs:List α}(h:Ow γ (is j) (is j) w v xs)(hc:b5 (is k) γ w γ' w')(hj:Nat.beq j k=false:=by exact rfl):Ow γ' (is j) (is j) w' v xs:=h.chg hc (fm hj) (fm hj)
theorem Ow.cn{α:Type}[Rp α]{J S:cd->Prop}{xs:List α}(h:Ow γ J S w v xs)(hc:b5 no γ w γ' w'):Ow γ' J S w' v xs:=h.chg hc (i5 _) (i5 _)
theorem dT.ca{α:Type}[Rp α]{xs:List (List α)}(h:dT γ j w v xs)(hc:b5 (inl L) γ w γ' w')(hj:L.contains j=false:=by exact rfl):dT γ' j w' v xs:=h.chg hc (bA hj)
theorem dT.ce{α:Type}[Rp α]{xs:List (List α)}(h:dT γ j w v xs)(hc:b5 (is k) γ w γ' w')(hj:Nat.beq j k=false:=by exact rfl):dT γ' j w' v xs:=h.chg hc (fm hj)
theorem dT.cn{α:Type}[Rp α]{xs:List (List α)}(h:dT γ j w v xs)(hc:b5 no γ w γ' w'):dT γ' j w' v xs:=h.chg hc (i5 _)
theorem gp.ca{α:Type}[Rp α]{h0:Nat}{xs:List (List α)}(h:gp γ j h0 w v xs)(hc:b5 (inl L) γ w γ' w')(hj:L.contains j=false:=by exact rfl):gp γ' j h0 w' v xs:=h.chg hc (bA hj)
theorem gp.ce{α:Type}[Rp α]{h0:Nat}{xs:List (List α)}(h:gp γ j h0 w v xs)(hc:b5 (is k) γ w γ' w')(hj:Nat.beq j k=false:=by exact rfl):gp γ' j h0 w' v xs:=h.chg hc (fm hj)
theorem gp.cn{α:Type}[Rp α]{h0:Nat}{xs:List (List α)}(h:gp γ j h0 w v xs)(hc:b5 no γ w γ' w'):gp γ' j h0 w' v xs:=h.chg hc (i5 _)
def An(δ g:aH)(w:World)(ren:Nat->Nat):Prop:=(∀{α:Type} [Rp α] {i:Nat} {v:Value} {xs:List α},Ow δ (is i) (is i) w v xs->∀k:Nat,Nat.beq i 0=false->ren i=k->Ow g (is k) (is k) w v xs)/\(∀{α:Type} [Rp α] {i:Nat} {v:Value} {xs:List (List α)},dT δ i w v xs->∀k:Nat,Nat.beq i 0=false->ren i=k->dT g k w v xs)
theorem nH{δ:aH}(γ:aH)(fr:fI w δ w')(ren:Nat->Nat):∃g,b5 no γ w g w'/\An δ g w' ren:=
 ⟨_,uE fr.below γ δ ren,λh k hi hr=>h.glue fr.col hi hr,λh k hi hr=>h.glue fr.col hi hr⟩
theorem Ow.gl{α:Type}[Rp α]{δ g:aH}{ren:Nat->Nat}{i:Nat}{xs:List α}(h:Ow δ (is i) (is i) w v xs)(G:An δ g w ren)(k:Nat)(hi:Nat.beq i 0=false:=by exact rfl)(hr:ren i=k:=by exact rfl):Ow g (is k) (is k) w v xs:=G.1 h k hi hr
theorem dT.gl{α:Type}[Rp α]{δ g:aH}{ren:Nat->Nat}{i:Nat}{xs:List (List α)}(h:dT δ i w v xs)(G:An δ g w ren)(k:Nat)(hi:Nat.beq i 0=false:=by exact rfl)(hr:ren i=k:=by exact rfl):dT g k w v xs:=G.2 h k hi hr
end
section
variable{K:Type}[DecidableEq K][Ky K]
end
end TL
/-
  TlGeom: points with whole coordinates: turns, segments, how they meet.
  By an AI agent.
-/
set_option linter.all false
namespace TL
abbrev Pt:=Int×Int
def bw(x y:Int):Int:=if x<y then-1 else if y<x then 1 else 0
theorem k6(x:Int):bw x 0=x.sign:=by
 unfold bw
 rcases Int.lt_trichotomy x 0 with h|h|h
 · rw[if_pos h,Int.sign_eq_neg_one_of_neg h]
 · subst h;rfl
 · rw[if_neg (by omega),if_pos h,Int.sign_eq_one_of_pos h]
theorem i8(x:Int):x.sign= -1/\x<0\/x.sign=0/\x=0\/x.sign=1/\0<x:=by
 rcases Int.lt_trichotomy x 0 with h|h|h
 · exact .inl ⟨Int.sign_eq_neg_one_of_neg h,h⟩
 · exact .inr (.inl ⟨by rw[h];rfl,h⟩)
 · exact .inr (.inr ⟨Int.sign_eq_one_of_pos h,h⟩)
def co(a b:Pt):Int:=a.1*b.2-a.2*b.1
def aG(b a:Pt):Pt:=(b.1-a.1,b.2-a.2)
def bz(a b c:Pt):Int:=bw (co (aG b a) (aG c a)) 0
theorem lS{a b c:Pt}:bz a b c=0↔(b.1-a.1)*(c.2-a.2)=(b.2-a.2)*(c.1-a.1):=by
 unfold bz
 rw[k6,Int.sign_eq_zero_iff_zero]
 unfold co aG
 simp only
 omega
theorem la(a b c:Pt): -1<=bz a b c/\bz a b c<=1:=by unfold bz bw;split<;>(try split)<;>omega
theorem lQ(a b c:Pt):bz b a c= -bz a b c:=by
 unfold bz
 rw[k6,k6,<-Int.sign_neg]
 congr 1
 unfold co aG
 simp only
 grind
def iS(a b p:Pt):Prop:=(min a.1 b.1<=p.1/\p.1<=max a.1 b.1)/\min a.2 b.2<=p.2/\p.2<=max a.2 b.2
instance (a b p:Pt):Decidable (iS a b p):=by unfold iS;infer_instance
def dc(a b p:Pt):Prop:=bz a b p=0/\iS a b p
instance (a b p:Pt):Decidable (dc a b p):=by unfold dc;infer_instance
theorem tF{a b p:Pt}:dc b a p↔dc a b p:=by
 unfold dc iS
 rw[lQ]
 omega
theorem eH(a b:Pt):dc a b a/\dc a b b:=by
 have e1:bz a b a=0:=lS.2 (by simp)
 have e2:bz a b b=0:=lS.2 (by rw[Int.mul_comm])
 unfold dc iS
 rw[e1,e2]
 omega
def bN(a b:Pt):Int:=if bw a.1 b.1≠0 then bw a.1 b.1 else bw a.2 b.2
def fo(a b c d:Pt):Int:=
 let a':=if 0<bN a b then b else a
 let b':=if 0<bN a b then a else b
 let c':=if 0<bN c d then d else c
 let d':=if 0<bN c d then c else d
 let low:=if 0<bN c' a' then c' else a'
 let high:=if bN d' b'<0 then d' else b'
 if 0<bN low high then 0 else if bN low high=0 then 2 else 3
def aZ(a b c d:Pt):Int:=
 if bz a b c=0/\bz a b d=0/\bz c d a=0/\bz c d b=0 then fo a b c d
 else if bz a b c*bz a b d<0/\bz c d a*bz c d b<0 then 1
 else if dc a b c\/dc a b d\/dc c d a\/dc c d b then 2 else 0
def key(p:Pt):Int:=p.1*1073741824+p.2
def fW(p:Pt):Prop:=(-4194304<=p.1/\p.1<=4194304)/\ -4194304<=p.2/\p.2<=4194304
theorem gr{a b:Pt}(ha:fW a)(hb:fW b):bN a b=bw (key a) (key b):=by
 unfold bN bw key
 unfold fW at ha hb
 repeat' split
 all_goals omega
def eP(a b c d:Int):Int:=
 if min (max a b) (max c d)<max (min a b) (min c d) then 0 else if min (max a b) (max c d)=max (min a b) (min c d) then 2 else 3
theorem gZ{x y:Int}:0<bw x y↔y<x:=by unfold bw;split<;>(try split)<;>omega
theorem o7{x y:Int}:bw x y<0↔x<y:=by unfold bw;split<;>(try split)<;>omega
theorem qB{x y:Int}:bw x y=0↔x=y:=by unfold bw;split<;>(try split)<;>omega
theorem sk{a b c d:Pt}(ha:fW a)(hb:fW b)(hc:fW c)(hd:fW d):fo a b c d=eP (key a) (key b) (key c) (key d):=by
 unfold fo
 simp only
 have e1:0<bN a b↔key b<key a:=by rw[gr ha hb,gZ]
 have e2:0<bN c d↔key d<key c:=by rw[gr hc hd,gZ]
 have fin:∀a b c d:Pt,fW a->fW b->fW c->fW d->key a<=key b->key c<=key d->
     (if 0<bN (if 0<bN c a then c else a) (if bN d b<0 then d else b) then(0:Int) else if bN (if 0<bN c a then c else a) (if bN d b<0 then d else b)=0 then 2 else 3)=eP (key a) (key b) (key c) (key d):=by
   intro a b c d ha hb hc hd h1 h2
   have e3:0<bN c a↔key a<key c:=by rw[gr hc ha,gZ]
   have e4:bN d b<0↔key d<key b:=by rw[gr hd hb,o7]
   have low:∃p,(if 0<bN c a then c else a)=p/\fW p/\key p=max (key a) (key c):=by
     by_cases h:0<bN c a
     · rw[if_pos h];exact⟨c,rfl,hc,by have:=e3.1 h;omega⟩
     · rw[if_neg h];exact⟨a,rfl,ha,by have:=mt e3.2 h;omega⟩
   have high:∃p,(if bN d b<0 then d else b)=p/\fW p/\key p=min (key b) (key d):=by
     by_cases h:bN d b<0
     · rw[if_pos h];exact⟨d,rfl,hd,by have:=e4.1 h;omega⟩
     · rw[if_neg h];exact⟨b,rfl,hb,by have:=mt e4.2 h;omega⟩
   obtain⟨p,ep,hp,kp⟩:=low
   obtain⟨q,eq,hq,kq⟩:=high
   rw[ep,eq,gr hp hq]
   unfold eP
   have m1:max (key a) (key b)=key b:=by omega
   have m2:max (key c) (key d)=key d:=by omega
   have m3:min (key a) (key b)=key a:=by omega
   have m4:min (key c) (key d)=key c:=by omega
   rw[m1,m2,m3,m4,<-kp,<-kq]
   by_cases c1:key q<key p
   · rw[if_pos (gZ.2 c1),if_pos c1]
   · rw[if_neg (mt gZ.1 c1),if_neg c1]
     by_cases c2:key q=key p
     · rw[if_pos (qB.2 c2.symm),if_pos c2]
     · rw[if_neg (λh=>c2 (qB.1 h).symm),if_neg c2]
 have lk1:∀x y z t:Int,eP y x z t=eP x y z t:=λx y z t=>by unfold eP;rw[Int.max_comm y x,Int.min_comm y x]
 have lk2:∀x y z t:Int,eP x y t z=eP x y z t:=λx y z t=>by unfold eP;rw[Int.max_comm t z,Int.min_comm t z]
 by_cases c1:0<bN a b
 · have k1:=e1.1 c1
   by_cases c2:0<bN c d
   · have k2:=e2.1 c2
     simp only[if_pos c1,if_pos c2]
     rw[fin b a d c hb ha hd hc (by omega) (by omega),lk1,lk2]
   · have k2:=mt e2.2 c2
     simp only[if_pos c1,if_neg c2]
     rw[fin b a c d hb ha hc hd (by omega) (by omega),lk1]
 · have k1:=mt e1.2 c1
   by_cases c2:0<bN c d
   · have k2:=e2.1 c2
     simp only[if_neg c1,if_pos c2]
     rw[fin a b d c ha hb hd hc (by omega) (by omega),lk2]
   · have k2:=mt e2.2 c2
     simp only[if_neg c1,if_neg c2]
     rw[fin a b c d ha hb hc hd (by omega) (by omega)]
theorem od(x y z t:Int):(min (max x y) (max z t)<max (min x y) (min z t))↔((x<z/\x<t)/\y<z/\y<t)\/((z<x/\t<x)/\z<y/\t<y):=by omega
theorem pa(x y z t:Int):(max (min x y) (min z t)<min (max x y) (max z t))↔((x<y\/y<x)/\(z<t\/t<z))/\((x<z\/x<t)\/y<z\/y<t)/\((z<x\/t<x)\/z<y\/t<y):=by omega
theorem lG{x y z t x' y' z' t':Int}(h1:x<y↔x'<y')(h1':y<x↔y'<x')(h2:x<z↔x'<z')(h2':z<x↔z'<x')(h3:x<t↔x'<t')(h3':t<x↔t'<x')(h4:y<z↔y'<z')(h4':z<y↔z'<y')(h5:y<t↔y'<t')(h5':t<y↔t'<y')(h6:z<t↔z'<t')(h6':t<z↔t'<z'):eP x' y' z' t'=eP x y z t:=by
  have e1:(min (max x' y') (max z' t')<max (min x' y') (min z' t'))↔(min (max x y) (max z t)<max (min x y) (min z t)):=by
    rw[od,od,h2,h2',h3,h3',h4,h4',h5,h5']
  have e2:(max (min x' y') (min z' t')<min (max x' y') (max z' t'))↔(max (min x y) (min z t)<min (max x y) (max z t)):=by
    rw[pa,pa,h1,h1',h2,h2',h3,h3',h4,h4',h5,h5',h6,h6']
  have e3:(min (max x' y') (max z' t')=max (min x' y') (min z' t'))↔(min (max x y) (max z t)=max (min x y) (min z t)):=by
    constructor
    · intro h
      have a:=mt e1.2 (by omega)
      have b:=mt e2.2 (by omega)
      omega
    · intro h
      have a:=mt e1.1 (by omega)
      have b:=mt e2.1 (by omega)
      omega
  unfold eP
  simp only[e1,e3]
theorem sc(x y z t:Int):eP (-x) (-y) (-z) (-t)=eP x y z t:=by
 unfold eP
 have e1:(min (max (-x) (-y)) (max (-z) (-t))<max (min (-x) (-y)) (min (-z) (-t)))↔(min (max x y) (max z t)<max (min x y) (min z t)):=by omega
 have e2:(min (max (-x) (-y)) (max (-z) (-t))=max (min (-x) (-y)) (min (-z) (-t)))↔(min (max x y) (max z t)=max (min x y) (min z t)):=by omega
 simp only[e1,e2]
end TL
namespace TL
theorem gJ{x y:Int}(h1: -16777216<=x/\x<=16777216)(h2: -16777216<=y/\y<=16777216): -281474976710656<=x*y/\x*y<=281474976710656:=by
 have h:=Int.natAbs_mul x y
 have a:x.natAbs<=16777216:=by omega
 have b:y.natAbs<=16777216:=by omega
 have c:x.natAbs*y.natAbs<=16777216*16777216:=Nat.mul_le_mul a b
 omega
def A4(p:Pt):Prop:=(-16777216<=p.1/\p.1<=16777216)/\ -16777216<=p.2/\p.2<=16777216
theorem kS{a b:Pt}(ha:fW a)(hb:fW b):A4 (aG b a):=by
 unfold fW at ha hb
 unfold A4 aG
 simp only
 omega
def cI(p:Pt):Prop:=(-1048576<=p.1/\p.1<=1048576)/\ -1048576<=p.2/\p.2<=1048576
instance (p:Pt):Decidable (cI p):=by unfold cI;infer_instance
theorem cI.bd{p:Pt}(h:cI p):fW p:=by unfold cI at h;unfold fW;omega
def dW(ps:List Pt):Prop:=ps.length<=4096/\∀p∈ps,cI p
instance (ps:List Pt):Decidable (dW ps):=by unfold dW;infer_instance
theorem yq{ps:List Pt}(h:∀j:Nat,j<ps.length->cI (gI ps (j:Int))):∀p∈ps,cI p:=λp hp=>by
 obtain⟨i,hi,rfl⟩:=List.mem_iff_getElem.1 hp
 have:=h i hi
 have e:gI ps (i:Int)=ps[i]:=by simp[gI,hi]
 rwa[e] at this
def li:List Int->Int
 |[]=>0
 |x::l=>if x=0 then li l else x
theorem tD(a b:Pt):bN a b=li [bw a.1 b.1,bw a.2 b.2]:=by
 unfold bN li
 by_cases h:bw a.1 b.1=0
 · rw[if_neg (by simp[h]),if_pos h]
   unfold li
   by_cases h2:bw a.2 b.2=0
   · rw[if_pos h2,h2];rfl
   · rw[if_neg h2]
 · rw[if_pos h,if_neg h]
theorem tW{l:List Int}{k:Nat}(h:∀j:Nat,j<k->gI l (j:Int)=0)(hk:(k:Int)<l.length)(hx:gI l (k:Int)≠0):gI l (k:Int)=li l:=by
 induction l generalizing k with
 |nil=>simp at hk;omega
 |cons a l ih=>
   cases k with
   |zero=>
     have e:gI (a::l) ((0:Nat):Int)=a:=by simp[gI]
     rw[e] at hx ⊢
     unfold li;rw[if_neg hx]
   |succ k=>
     have e:∀j:Nat,gI (a::l) ((j+1:Nat):Int)=gI l (j:Int):=λj=>by simp[gI]
     have e0:gI (a::l) ((0:Nat):Int)=a:=by simp[gI]
     have h0:=h 0 (by omega)
     rw[e0] at h0
     rw[e] at hx ⊢
     unfold li;rw[if_pos h0]
     exact ih (λj hj=>by rw[<-e];exact h (j+1) (by omega)) (by simp at hk;omega) hx
theorem u7{l:List Int}{k:Nat}(h:∀j:Nat,j<k->gI l (j:Int)=0)(hk:¬(k:Int)<l.length):0=li l:=by
 induction l generalizing k with
 |nil=>rfl
 |cons a l ih=>
   have e:∀j:Nat,gI (a::l) ((j+1:Nat):Int)=gI l (j:Int):=λj=>by simp[gI]
   have e0:gI (a::l) ((0:Nat):Int)=a:=by simp[gI]
   simp at hk
   have h0:=h 0 (by omega)
   rw[e0] at h0
   unfold li;rw[if_pos h0]
   exact ih (k:=k-1) (λj hj=>by rw[<-e];exact h (j+1) (by omega)) (by omega)
def eO(a b c:Pt):Bool×Int:=if cI a/\cI b/\cI c then(decide (dc a b c),0) else(false,1)
def db(a b c d:Pt):Int×Int:=if(cI a/\cI b)/\cI c/\cI d then(aZ a b c d,0) else(0,1)
theorem zE{a b c:Pt}:dW [a,b,c]↔cI a/\cI b/\cI c:=by simp[dW]
theorem zQ{a b c d:Pt}:dW [a,b,c,d]↔(cI a/\cI b)/\cI c/\cI d:=by simp[dW,and_assoc]
theorem yt{a:Pt}:dW [a]↔cI a:=by simp[dW]
def bv(p:Pt):Int:=if 0<p.1\/p.1=0/\0<p.2 then 0 else 1
section
variable{a b c d:Pt}
theorem pP(h1:bz a b c=0)(h2:bz a b d=0)(h3:bz c d a=0)(h4:bz c d b=0):fo a b c d=aZ a b c d:=by
 unfold aZ;rw[if_pos ⟨h1,h2,h3,h4⟩]
theorem nL(h1:bz a b c*bz a b d<0)(h2:bz c d a*bz c d b<0):1=aZ a b c d:=by
 unfold aZ
 rw[if_neg (λh=>by rw[h.1,Int.zero_mul] at h1;omega),if_pos ⟨h1,h2⟩]
theorem fZ(h0:¬(bz a b c=0/\bz a b d=0/\bz c d a=0/\bz c d b=0))(h1:¬(bz a b c*bz a b d<0/\bz c d a*bz c d b<0))(h2:dc a b c\/dc a b d\/dc c d a\/dc c d b):2=aZ a b c d:=by
 unfold aZ
 rw[if_neg h0,if_neg h1,if_pos h2]
theorem oZ(h0:¬(bz a b c=0/\bz a b d=0/\bz c d a=0/\bz c d b=0))(h1:¬(bz a b c*bz a b d<0/\bz c d a*bz c d b<0))(h2:¬(dc a b c\/dc a b d\/dc c d a\/dc c d b)):0=aZ a b c d:=by
 unfold aZ
 rw[if_neg h0,if_neg h1,if_neg h2]
end
end TL
/-
  TlGeomL: how segments meet, moved, turned, named another way about.
  By an AI agent.
-/
set_option linter.all false
namespace TL
theorem mf(x y:Int):bw x y=(x-y).sign:=by
 unfold bw
 rcases i8 (x-y) with⟨h,h'⟩|⟨h,h'⟩|⟨h,h'⟩
 · rw[h,if_pos (by omega)]
 · rw[h,if_neg (by omega),if_neg (by omega)]
 · rw[h,if_neg (by omega),if_pos (by omega)]
def il(u w:Pt):Prop:=u.1*w.2=u.2*w.1
def Dw(w p:Pt):Int:=p.1*w.1+p.2*w.2
theorem q9(w p q:Pt):Dw w (aG p q)=Dw w p-Dw w q:=by
 unfold Dw aG;simp only;grind
theorem lN{u w:Pt}(h:il u w):u.1*(w.1*w.1+w.2*w.2)=Dw w u*w.1/\u.2*(w.1*w.1+w.2*w.2)=Dw w u*w.2:=by
 unfold il at h
 unfold Dw
 constructor<;>grind
theorem kj(x:Int):0<=x*x:=by
 rcases Int.le_total 0 x with h|h
 · exact Int.mul_nonneg h h
 · exact Int.mul_nonneg_of_nonpos_of_nonpos h h
theorem ve{x:Int}(h:x≠0):0<x*x:=by
 have h1:=kj x
 have h2:x*x≠0:=λe=>by rcases Int.mul_eq_zero.1 e with e|e<;>exact h e
 omega
theorem uy{w:Pt}(hw:w≠(0,0)):(w.1*w.1+w.2*w.2).sign=1:=by
 have h1:0<=w.1*w.1:=kj _
 have h2:0<=w.2*w.2:=kj _
 refine Int.sign_eq_one_of_pos ?_
 by_cases c:w.1=0
 · by_cases d:w.2=0
   · exact absurd (Prod.ext c d) hw
   · have:=ve d
     omega
 · have:=ve c
   omega
theorem jW{u w:Pt}(hw:w≠(0,0))(h:il u w):u.1.sign=(Dw w u).sign*w.1.sign/\u.2.sign=(Dw w u).sign*w.2.sign:=by
 obtain⟨h1,h2⟩:=lN h
 have hn:=uy hw
 have e1:=congrArg Int.sign h1
 have e2:=congrArg Int.sign h2
 rw[Int.sign_mul,Int.sign_mul,hn,Int.mul_one] at e1 e2
 exact⟨e1,e2⟩
def m7(u:Pt):Int:=if u.1≠0 then u.1.sign else u.2.sign
theorem td(a b:Pt):bN a b=m7 (aG a b):=by
 unfold bN m7 aG
 simp only
 rw[mf,mf]
 by_cases h:a.1-b.1=0
 · rw[h];simp
 · rw[if_pos (λe=>h (Int.sign_eq_zero_iff_zero.1 e)),if_pos h]
theorem wx{u w:Pt}(hw:w≠(0,0))(h:il u w):m7 u=(Dw w u).sign*m7 w:=by
 obtain⟨h1,h2⟩:=jW hw h
 unfold m7
 by_cases c:w.1=0
 · rw[c] at h1
   have hu:u.1=0:=by
     have:u.1.sign=0:=by rw[h1];simp
     exact Int.sign_eq_zero_iff_zero.1 this
   rw[if_neg (by simp[hu]),if_neg (by simp[c]),h2]
 · rw[if_pos c]
   by_cases d:u.1=0
   · rw[if_neg (by simp[d])]
     rw[d] at h1
     have h3:(Dw w u).sign*w.1.sign=0:=by rw[<-h1];rfl
     rcases Int.mul_eq_zero.1 h3 with e|e
     · rw[h2,e];simp
     · exact absurd (Int.sign_eq_zero_iff_zero.1 e) c
   · rw[if_pos d,h1]
theorem ul{w:Pt}(hw:w≠(0,0)):m7 w=1\/m7 w= -1:=by
 unfold m7
 by_cases c:w.1=0
 · rw[if_neg (by simp[c])]
   have:w.2≠0:=λd=>hw (Prod.ext c d)
   rcases i8 w.2 with⟨h,h'⟩|⟨h,h'⟩|⟨h,h'⟩
   · exact .inr h
   · exact absurd h' this
   · exact .inl h
 · rw[if_pos c]
   rcases i8 w.1 with⟨h,h'⟩|⟨h,h'⟩|⟨h,h'⟩
   · exact .inr h
   · exact absurd h' c
   · exact .inl h
structure pi(l:List Pt)(w:Pt):Prop where
  pr:∀p∈l,∀q∈l,il (aG p q) w
  one:w=(0,0)->∀p∈l,∀q∈l,p=q
theorem jz(a:Pt)(w:Pt):il (aG a a) w:=by unfold TL.il aG;simp
theorem l5{a b w:Pt}(h:il (aG a b) w):il (aG b a) w:=by
 unfold TL.il aG at*;simp only at*;grind
theorem jp{a b c w:Pt}(h1:il (aG a b) w)(h2:il (aG b c) w):il (aG a c) w:=by
 unfold TL.il aG at*;simp only at*;grind
theorem fD{a b c:Pt}:bz a b c=0↔il (aG c a) (aG b a):=by
 rw[lS]
 unfold TL.il aG
 simp only
 constructor
 · intro h;grind
 · intro h;grind
theorem gx{a b:Pt}:aG a b=(0,0)↔a=b:=by
 unfold aG
 constructor
 · intro h
   have h1:=congrArg Prod.fst h
   have h2:=congrArg Prod.snd h
   simp only at h1 h2
   exact Prod.ext (by omega) (by omega)
 · rintro rfl;simp
theorem pi.base{l:List Pt}{w o:Pt}(h1:∀p∈l,il (aG p o) w)(h2:w=(0,0)->∀p∈l,p=o):pi l w:=
 ⟨λp hp q hq=>jp (h1 p hp) (l5 (h1 q hq)),λe p hp q hq=>by rw[h2 e p hp,h2 e q hq]⟩
theorem yO{a b c d:Pt}(h1:bz a b c=0)(h2:bz a b d=0)(h3:bz c d a=0)(h4:bz c d b=0):∃w,pi [a,b,c,d] w:=by
 have k1:=fD.1 h1
 have k2:=fD.1 h2
 have k3:=fD.1 h3
 by_cases hab:a=b
 · subst hab
   by_cases hcd:c=d
   · subst hcd
     refine⟨aG c a,pi.base (o:=a) (λp hp=>?_) (λe p hp=>?_)⟩
     · simp only[List.mem_cons,List.not_mem_nil,or_false] at hp
       rcases hp with rfl|rfl|rfl|rfl
       · exact jz _ _
       · exact jz _ _
       · unfold TL.il;rw[Int.mul_comm]
       · unfold TL.il;rw[Int.mul_comm]
     · have:=gx.1 e
       simp only[List.mem_cons,List.not_mem_nil,or_false] at hp
       rcases hp with rfl|rfl|rfl|rfl
       · rfl
       · rfl
       · exact this
       · exact this
   · refine⟨aG d c,pi.base (o:=c) (λp hp=>?_) (λe p hp=>absurd (gx.1 e).symm hcd)⟩
     simp only[List.mem_cons,List.not_mem_nil,or_false] at hp
     rcases hp with rfl|rfl|rfl|rfl
     · exact k3
     · exact k3
     · exact jz _ _
     · unfold TL.il;rw[Int.mul_comm]
 · refine⟨aG b a,pi.base (o:=a) (λp hp=>?_) (λe p hp=>absurd (gx.1 e).symm hab)⟩
   simp only[List.mem_cons,List.not_mem_nil,or_false] at hp
   rcases hp with rfl|rfl|rfl|rfl
   · exact jz _ _
   · unfold TL.il;rw[Int.mul_comm]
   · exact k1
   · exact k2
theorem pi.ord{l:List Pt}{w p q:Pt}(h:pi l w)(hw:w≠(0,0))(hp:p∈l)(hq:q∈l):bN p q=(Dw w p-Dw w q).sign*m7 w:=by
 rw[td,wx hw (h.pr p hp q hq),q9]
theorem pi.inj{l:List Pt}{w p q:Pt}(h:pi l w)(hp:p∈l)(hq:q∈l)(e:Dw w p=Dw w q):p=q:=by
 by_cases hw:w=(0,0)
 · exact h.one hw p hp q hq
 · have h1:=jW hw (h.pr p hp q hq)
   rw[q9,e] at h1
   have e1:(aG p q).1.sign=0:=by rw[h1.1];simp
   have e2:(aG p q).2.sign=0:=by rw[h1.2];simp
   exact gx.1 (Prod.ext (Int.sign_eq_zero_iff_zero.1 e1) (Int.sign_eq_zero_iff_zero.1 e2))
theorem yW{a b c d w:Pt}(ha:fW a)(hb:fW b)(hc:fW c)(hd:fW d)(h:pi [a,b,c,d] w):fo a b c d=eP (Dw w a) (Dw w b) (Dw w c) (Dw w d):=by
  rw[sk ha hb hc hd]
  by_cases hw:w=(0,0)
  · have e1:=h.one hw b (by simp) a (by simp)
    have e2:=h.one hw c (by simp) a (by simp)
    have e3:=h.one hw d (by simp) a (by simp)
    subst e1 e2 e3
    unfold eP
    simp
  · have key:∀p q,p∈[a,b,c,d]->q∈[a,b,c,d]->fW p->fW q->(key p<key q↔(Dw w p-Dw w q).sign*m7 w<0):=λp q hp hq bp bq=>by
      rw[<-h.ord hw hp hq,gr bp bq,o7]
    rcases ul hw with e|e
    · have key2:∀p q,p∈[a,b,c,d]->q∈[a,b,c,d]->fW p->fW q->(Dw w p<Dw w q↔TL.key p<TL.key q):=λp q hp hq bp bq=>by
        rw[key p q hp hq bp bq,e]
        rcases i8 (Dw w p-Dw w q) with⟨s,s'⟩|⟨s,s'⟩|⟨s,s'⟩<;>rw[s]<;>omega
      exact lG (key2 a b (by simp) (by simp) ha hb) (key2 b a (by simp) (by simp) hb ha) (key2 a c (by simp) (by simp) ha hc) (key2 c a (by simp) (by simp) hc ha) (key2 a d (by simp) (by simp) ha hd) (key2 d a (by simp) (by simp) hd ha) (key2 b c (by simp) (by simp) hb hc) (key2 c b (by simp) (by simp) hc hb) (key2 b d (by simp) (by simp) hb hd) (key2 d b (by simp) (by simp) hd hb) (key2 c d (by simp) (by simp) hc hd) (key2 d c (by simp) (by simp) hd hc)
    · have key2:∀p q,p∈[a,b,c,d]->q∈[a,b,c,d]->fW p->fW q->(Dw w p<Dw w q↔-TL.key p< -TL.key q):=λp q hp hq bp bq=>by
        have:=key q p hq hp bq bp
        rw[e] at this
        rcases i8 (Dw w q-Dw w p) with⟨s,s'⟩|⟨s,s'⟩|⟨s,s'⟩<;>rw[s] at this<;>omega
      rw[<-sc]
      exact lG (key2 a b (by simp) (by simp) ha hb) (key2 b a (by simp) (by simp) hb ha) (key2 a c (by simp) (by simp) ha hc) (key2 c a (by simp) (by simp) hc ha) (key2 a d (by simp) (by simp) ha hd) (key2 d a (by simp) (by simp) hd ha) (key2 b c (by simp) (by simp) hb hc) (key2 c b (by simp) (by simp) hc hb) (key2 b d (by simp) (by simp) hb hd) (key2 d b (by simp) (by simp) hd hb) (key2 c d (by simp) (by simp) hc hd) (key2 d c (by simp) (by simp) hd hc)
theorem gD(a b p:Int):(min a b<=p/\p<=max a b)↔(p-a).sign*(p-b).sign<=0:=by
 rcases i8 (p-a) with⟨s,s'⟩|⟨s,s'⟩|⟨s,s'⟩<;>rcases i8 (p-b) with⟨t,t'⟩|⟨t,t'⟩|⟨t,t'⟩<;>rw[s,t]<;>omega
theorem xE{l:List Pt}{w a b p:Pt}(h:pi l w)(ha:a∈l)(hb:b∈l)(hp:p∈l):iS a b p↔min (Dw w a) (Dw w b)<=Dw w p/\Dw w p<=max (Dw w a) (Dw w b):=by
 by_cases hw:w=(0,0)
 · have e1:=h.one hw b hb a ha
   have e2:=h.one hw p hp a ha
   subst e1 e2
   unfold iS
   omega
 · obtain⟨u1,u2⟩:=jW hw (h.pr p hp a ha)
   obtain⟨v1,v2⟩:=jW hw (h.pr p hp b hb)
   rw[q9] at u1 u2 v1 v2
   unfold iS
   rw[gD,gD,gD]
   have f1:(p.1-a.1).sign=(aG p a).1.sign:=rfl
   have f2:(p.2-a.2).sign=(aG p a).2.sign:=rfl
   have f3:(p.1-b.1).sign=(aG p b).1.sign:=rfl
   have f4:(p.2-b.2).sign=(aG p b).2.sign:=rfl
   rw[f1,f2,f3,f4,u1,u2,v1,v2]
   have hne:w.1≠0\/w.2≠0:=by
     by_cases c:w.1=0
     · exact .inr λd=>hw (Prod.ext c d)
     · exact .inl c
   rcases i8 (Dw w p-Dw w a) with⟨s,_⟩|⟨s,_⟩|⟨s,_⟩<;>rcases i8 (Dw w p-Dw w b) with⟨t,_⟩|⟨t,_⟩|⟨t,_⟩<;>rcases i8 w.1 with⟨x,x'⟩|⟨x,x'⟩|⟨x,x'⟩<;>rcases i8 w.2 with⟨y,y'⟩|⟨y,y'⟩|⟨y,y'⟩<;>rw[s,t,x,y]<;>omega
end TL
/-
  TlGeomM: meeting segments: moved, turned, named another way about; what ends they share.
  By an AI agent.
-/
set_option linter.all false
namespace TL
theorem pi.sub{l l':List Pt}{w:Pt}(h:pi l w)(hs:∀p∈l',p∈l):pi l' w:=
 ⟨λp hp q hq=>h.pr p (hs p hp) q (hs q hq),λe p hp q hq=>h.one e p (hs p hp) q (hs q hq)⟩
section
variable{a b c d:Pt}
def di(a b c d e:Pt):Prop:=dc a b e/\dc c d e
instance (a b c d e:Pt):Decidable (di a b c d e):=by unfold di;infer_instance
def cH(a b c d:Pt):Prop:=bz a b c*bz a b d<0/\bz c d a*bz c d b<0
instance (a b c d:Pt):Decidable (cH a b c d):=by unfold cH;infer_instance
theorem iX(h:cH a b c d){e:Pt}(he:e∈[a,b,c,d]):¬di a b c d e:=λhb=>by
 obtain⟨h1,h2⟩:=h
 have k1:=hb.1.1
 have k2:=hb.2.1
 simp only[List.mem_cons,List.not_mem_nil,or_false] at he
 rcases he with rfl|rfl|rfl|rfl
 · rw[k2] at h2;simp at h2
 · rw[k2] at h2;simp at h2
 · rw[k1] at h1;simp at h1
 · rw[k1] at h1;simp at h1
theorem nU:(∃e∈[a,b,c,d],di a b c d e)↔(dc a b c\/dc a b d\/dc c d a\/dc c d b):=by
 have h1:=eH a b
 have h2:=eH c d
 unfold di
 constructor
 · rintro⟨e,he,k1,k2⟩
   simp only[List.mem_cons,List.not_mem_nil,or_false] at he
   rcases he with rfl|rfl|rfl|rfl
   · exact .inr (.inr (.inl k2))
   · exact .inr (.inr (.inr k2))
   · exact .inl k1
   · exact .inr (.inl k1)
 · rintro(h|h|h|h)
   · exact⟨c,by simp,h,h2.1⟩
   · exact⟨d,by simp,h,h2.2⟩
   · exact⟨a,by simp,h1.1,h⟩
   · exact⟨b,by simp,h1.2,h⟩
theorem yK(h1:bz a b c=0)(h2:bz a b d=0)(h3:bz c d a=0)(h4:bz c d b=0){w:Pt}(h:pi [a,b,c,d] w){e:Pt}(he:e∈[a,b,c,d]):di a b c d e↔max (min (Dw w a) (Dw w b)) (min (Dw w c) (Dw w d))<=Dw w e/\Dw w e<=min (max (Dw w a) (Dw w b)) (max (Dw w c) (Dw w d)):=by
  have t1:bz a b e=0:=by
    simp only[List.mem_cons,List.not_mem_nil,or_false] at he
    rcases he with rfl|rfl|rfl|rfl
    · exact(eH _ _).1.1
    · exact(eH _ _).2.1
    · exact h1
    · exact h2
  have t2:bz c d e=0:=by
    simp only[List.mem_cons,List.not_mem_nil,or_false] at he
    rcases he with rfl|rfl|rfl|rfl
    · exact h3
    · exact h4
    · exact(eH _ _).1.1
    · exact(eH _ _).2.1
  unfold di dc
  rw[xE h (a:=a) (b:=b) (by simp) (by simp) he,xE h (a:=c) (b:=d) (by simp) (by simp) he,t1,t2]
  omega
theorem mn(ha:fW a)(hb:fW b)(hc:fW c)(hd:fW d):
    (aZ a b c d=0/\¬cH a b c d/\∀e∈[a,b,c,d],¬di a b c d e)\/(aZ a b c d=1/\cH a b c d)\/
    (aZ a b c d=2/\¬cH a b c d/\(∃e∈[a,b,c,d],di a b c d e)/\∀e∈[a,b,c,d],∀e'∈[a,b,c,d],di a b c d e->di a b c d e'->e=e')\/
    (aZ a b c d=3/\¬cH a b c d/\∃e∈[a,b,c,d],∃e'∈[a,b,c,d],(di a b c d e/\di a b c d e')/\e≠e'):=by
  unfold aZ
  by_cases h:bz a b c=0/\bz a b d=0/\bz c d a=0/\bz c d b=0
  · obtain⟨w,hw⟩:=yO h.1 h.2.1 h.2.2.1 h.2.2.2
    have hbo:=λ {e:Pt} (he:e∈[a,b,c,d])=>yK h.1 h.2.1 h.2.2.1 h.2.2.2 hw he
    have hno:¬cH a b c d:=λhc=>by have:=hc.1;rw[h.1] at this;simp at this
    rw[if_pos h,yW ha hb hc hd hw]
    have low:∃e∈[a,b,c,d],Dw w e=max (min (Dw w a) (Dw w b)) (min (Dw w c) (Dw w d)):=by
      have:max (min (Dw w a) (Dw w b)) (min (Dw w c) (Dw w d))=Dw w a\/max (min (Dw w a) (Dw w b)) (min (Dw w c) (Dw w d))=Dw w b\/max (min (Dw w a) (Dw w b)) (min (Dw w c) (Dw w d))=Dw w c\/max (min (Dw w a) (Dw w b)) (min (Dw w c) (Dw w d))=Dw w d:=by omega
      rcases this with e|e|e|e
      · exact⟨a,by simp,e.symm⟩
      · exact⟨b,by simp,e.symm⟩
      · exact⟨c,by simp,e.symm⟩
      · exact⟨d,by simp,e.symm⟩
    have high:∃e∈[a,b,c,d],Dw w e=min (max (Dw w a) (Dw w b)) (max (Dw w c) (Dw w d)):=by
      have:min (max (Dw w a) (Dw w b)) (max (Dw w c) (Dw w d))=Dw w a\/min (max (Dw w a) (Dw w b)) (max (Dw w c) (Dw w d))=Dw w b\/min (max (Dw w a) (Dw w b)) (max (Dw w c) (Dw w d))=Dw w c\/min (max (Dw w a) (Dw w b)) (max (Dw w c) (Dw w d))=Dw w d:=by omega
      rcases this with e|e|e|e
      · exact⟨a,by simp,e.symm⟩
      · exact⟨b,by simp,e.symm⟩
      · exact⟨c,by simp,e.symm⟩
      · exact⟨d,by simp,e.symm⟩
    unfold eP
    generalize hL:max (min (Dw w a) (Dw w b)) (min (Dw w c) (Dw w d))=L at hbo low
    generalize hH:min (max (Dw w a) (Dw w b)) (max (Dw w c) (Dw w d))=H at hbo high
    by_cases c1:H<L
    · rw[if_pos c1]
      exact .inl ⟨rfl,hno,λe he hb=>by have:=(hbo he).1 hb;omega⟩
    · rw[if_neg c1]
      obtain⟨p,hp,ep⟩:=low
      obtain⟨q,hq,eq⟩:=high
      have bp:=(hbo hp).2 (by omega)
      have bq:=(hbo hq).2 (by omega)
      by_cases c2:H=L
      · rw[if_pos c2]
        refine .inr (.inr (.inl ⟨rfl,hno,⟨p,hp,bp⟩,λe he e' he' b1 b2=>?_⟩))
        have k1:=(hbo he).1 b1
        have k2:=(hbo he').1 b2
        exact hw.inj he he' (by omega)
      · rw[if_neg c2]
        exact .inr (.inr (.inr ⟨rfl,hno,p,hp,q,hq,⟨bp,bq⟩,λe=>by subst e;omega⟩))
  · rw[if_neg h]
    by_cases h2:cH a b c d
    · rw[if_pos (show bz a b c*bz a b d<0/\bz c d a*bz c d b<0 from h2)];exact .inr (.inl ⟨rfl,h2⟩)
    · rw[if_neg (show¬(bz a b c*bz a b d<0/\bz c d a*bz c d b<0) from h2)]
      by_cases h3:dc a b c\/dc a b d\/dc c d a\/dc c d b
      · rw[if_pos h3]
        refine .inr (.inr (.inl ⟨rfl,h2,nU.2 h3,λe he e' he' b1 b2=>?_⟩))
        refine Classical.byContradiction λhne=>h ?_
        -- two points that both have: all lie on their line
        have hw:aG e' e≠(0,0):=λe0=>hne (gx.1 e0).symm
        have pt:∀{u v w:Pt},w≠(0,0)->il u w->il v w->il u v:=λ {u v w} hw h1 h2=>by
          obtain⟨s1,s2⟩:=lN h1
          obtain⟨t1,t2⟩:=lN h2
          have hn:=uy hw
          generalize hN:w.1*w.1+w.2*w.2=N at*
          have hN0:N≠0:=λe=>by rw[e] at hn;simp at hn
          unfold il
          have:N*(N*(u.1*v.2))=N*(N*(u.2*v.1)):=by
            have f1:N*(N*(u.1*v.2))=(u.1*N)*(v.2*N):=by grind
            have f2:N*(N*(u.2*v.1))=(u.2*N)*(v.1*N):=by grind
            rw[f1,f2,s1,s2,t1,t2];grind
          exact Int.eq_of_mul_eq_mul_left hN0 (Int.eq_of_mul_eq_mul_left hN0 this)
        have ps:∀{u v:Pt},il u v->il v u:=λ {u v} h=>by unfold il at*;grind
        -- a segment with two points of it
        have seg:∀{a b:Pt},dc a b e->dc a b e'->il (aG b a) (aG e' e)/\il (aG e a) (aG e' e):=λ {a b} k1 k2=>by
          have p1:=fD.1 k1.1
          have p2:=fD.1 k2.1
          by_cases hab:a=b
          · subst hab
            have x1:=k1.2
            have x2:=k2.2
            unfold iS at x1 x2
            exact absurd (Prod.ext (by omega) (by omega):e=e') hne
          · have hba:aG b a≠(0,0):=λe0=>hab (gx.1 e0).symm
            have p3:il (aG e' e) (aG b a):=jp p2 (l5 p1)
            exact⟨ps p3,pt hba p1 p3⟩
        obtain⟨a1,a2⟩:=seg b1.1 b2.1
        obtain⟨c1,c2⟩:=seg b1.2 b2.2
        have ca:il (aG c a) (aG e' e):=jp (l5 c2) a2
        have da:il (aG d a) (aG e' e):=jp c1 ca
        have ac:il (aG a c) (aG e' e):=l5 ca
        have bc:il (aG b c) (aG e' e):=jp a1 ac
        exact⟨fD.2 (pt hw ca a1),fD.2 (pt hw da a1),fD.2 (pt hw ac c1),fD.2 (pt hw bc c1)⟩
      · rw[if_neg h3]
        exact .inl ⟨rfl,h2,λe he hb=>h3 (nU.1 ⟨e,he,hb⟩)⟩
end
end TL
/-
  TlGeomR: what is told of many points: areas, boxes, whether a polyline is simple.
  By an AI agent.
-/
set_option linter.all false
namespace TL
def sL(ps:List Pt):Nat->Pt
 |0=>gI ps 0
 |k+1=>(min (sL ps k).1 (gI ps (k:Int)).1,min (sL ps k).2 (gI ps (k:Int)).2)
def sO(ps:List Pt):Nat->Pt
 |0=>gI ps 0
 |k+1=>(max (sO ps k).1 (gI ps (k:Int)).1,max (sO ps k).2 (gI ps (k:Int)).2)
def c6(ps:List Pt):Prop:=4<=(ps.length:Int)/\gI ps 0=gI ps ((ps.length:Int)-1)
instance (ps:List Pt):Decidable (c6 ps):=by unfold c6;infer_instance
def gf(ps:List Pt)(i k:Nat):Prop:=k=i+1\/i=0/\(k:Int)=(ps.length:Int)-2/\c6 ps
instance (ps:List Pt)(i k:Nat):Decidable (gf ps i k):=by unfold gf;infer_instance
def Ai(ps:List Pt)(i k:Nat):Int:=aZ (gI ps (i:Int)) (gI ps ((i:Int)+1)) (gI ps (k:Int)) (gI ps ((k:Int)+1))
def iW(ps:List Pt)(i k:Nat):Prop:=gf ps i k/\Ai ps i k=3\/¬gf ps i k/\Ai ps i k≠0
instance (ps:List Pt)(i k:Nat):Decidable (iW ps i k):=by unfold iW;infer_instance
def sq(ps:List Pt)(i:Nat):Prop:=gI ps (i:Int)≠gI ps ((i:Int)+1)/\∀k<ps.length,i<k->(k:Int)<=(ps.length:Int)-2->¬iW ps i k
instance (ps:List Pt)(i:Nat):Decidable (sq ps i):=by unfold sq;infer_instance
def kP(ps:List Pt):Prop:=∀i<ps.length,(i:Int)<=(ps.length:Int)-2->sq ps i
instance (ps:List Pt):Decidable (kP ps):=by unfold kP;infer_instance
def dP(ps:List Pt):Bool×Int:=if(ps.length:Int)=0\/¬dW ps then(false,1) else(decide (kP ps),0)
section
variable{ps:List Pt}
theorem jY(h:(ps.length:Int)=0\/¬dW ps):dP ps=(false,1):=by unfold dP;rw[if_pos h]
theorem dx(h0:¬(ps.length:Int)=0)(h:dW ps):dP ps=(decide (kP ps),0):=by unfold dP;rw[if_neg (by rintro(c|c);exact h0 c;exact c h)]
theorem yP{i:Nat}(hi:(i:Int)<=(ps.length:Int)-2)(h:gI ps (i:Int)=gI ps ((i:Int)+1)):false=decide (kP ps):=
 (decide_eq_false λhs=>(hs i (by omega) hi).1 h).symm
theorem jh{i k:Nat}(hi:(i:Int)<=(ps.length:Int)-2)(hk:(k:Int)<=(ps.length:Int)-2)(hik:i<k)(h:iW ps i k):false=decide (kP ps):=
 (decide_eq_false λhs=>(hs i (by omega) hi).2 k (by omega) hik hk h).symm
theorem vJ{i:Nat}(h:∀j:Nat,j<i->sq ps j)(hi:¬(i:Int)<=(ps.length:Int)-2):true=decide (kP ps):=
 (decide_eq_true λj _ hj2=>h j (by omega)).symm
variable{i k:Nat}
theorem xB(h:(k:Int)=(i:Int)+1):gf ps i k:=.inl (by omega)
theorem xF(h1:(i:Int)=0)(h2:(k:Int)=(ps.length:Int)-2)(h3:decide (c6 ps)=true):gf ps i k:=.inr ⟨by omega,h2,of_decide_eq_true h3⟩
theorem re(h:¬(k:Int)=(i:Int)+1)(h1:¬(i:Int)=0):¬gf ps i k:=by
 rintro(c|⟨c,_⟩)<;>omega
theorem qE(h:¬(k:Int)=(i:Int)+1)(h1:¬(k:Int)=(ps.length:Int)-2):¬gf ps i k:=by
 rintro(c|⟨_,c,_⟩)<;>omega
theorem ry(h:¬(k:Int)=(i:Int)+1)(h1:¬decide (c6 ps)=true):¬gf ps i k:=by
 rintro(c|⟨_,_,c⟩)
 · omega
 · exact h1 (decide_eq_true c)
theorem zK(hj:gf ps i k)(hm:aZ (gI ps (i:Int)) (gI ps ((i:Int)+1)) (gI ps (k:Int)) (gI ps ((k:Int)+1))=3):iW ps i k:=.inl ⟨hj,hm⟩
theorem yJ(hj:¬gf ps i k)(hm:¬aZ (gI ps (i:Int)) (gI ps ((i:Int)+1)) (gI ps (k:Int)) (gI ps ((k:Int)+1))=0):iW ps i k:=.inr ⟨hj,hm⟩
theorem xK(hj:gf ps i k)(hm:¬aZ (gI ps (i:Int)) (gI ps ((i:Int)+1)) (gI ps (k:Int)) (gI ps ((k:Int)+1))=3):¬iW ps i k:=by
 rintro(⟨_,h⟩|⟨h,_⟩)
 · exact hm h
 · exact h hj
theorem ug(hj:¬gf ps i k)(hm:aZ (gI ps (i:Int)) (gI ps ((i:Int)+1)) (gI ps (k:Int)) (gI ps ((k:Int)+1))=0):¬iW ps i k:=by
 rintro(⟨h,_⟩|⟨_,h⟩)
 · exact hj h
 · exact h hm
end
end TL
/-
  TlGeomS: polylines gone back, and two of them named the other way about.
  By an AI agent.
-/
set_option linter.all false
namespace TL
abbrev Sg:=Pt×Pt
def nX(ps:List Pt):Nat->List Sg
 |0=>[]
 |k+1=>nX ps k++[(gI ps (k:Int),gI ps ((k:Int)+1))]
def x9(ps:List Pt):List Sg:=if ps.length=1 then[(gI ps 0,gI ps 0)] else nX ps (ps.length-1)
theorem fO{ps:List Pt}{s:Sg}:∀{k:Nat},s∈nX ps k↔∃i:Nat,i<k/\s=(gI ps (i:Int),gI ps ((i:Int)+1))
 |0=>by simp[nX]
 |k+1=>by
   rw[nX,List.mem_append,fO,List.mem_singleton]
   constructor
   · rintro(⟨i,hi,e⟩|e)
     · exact⟨i,by omega,e⟩
     · exact⟨k,by omega,e⟩
   · rintro⟨i,hi,e⟩
     by_cases c:i=k
     · subst c;exact .inr e
     · exact .inl ⟨i,by omega,e⟩
def y4(ps:List Pt):Pt:=gI ps ((ps.length:Int)-1)
def yj(ps:List Pt)(p:Pt):Prop:=p=gI ps 0\/p=y4 ps
instance (ps:List Pt)(p:Pt):Decidable (yj ps p):=by unfold yj;infer_instance
def wg(q:List Pt)(s t:Sg)(x:Pt):Prop:=yj q x/\dc s.1 s.2 x/\dc t.1 t.2 x
instance (q:List Pt)(s t:Sg)(x:Pt):Decidable (wg q s t x):=by unfold wg;infer_instance
def tT(p q:List Pt)(s t:Sg):Prop:=wg q s t (gI p 0)\/wg q s t (y4 p)
instance (p q:List Pt)(s t:Sg):Decidable (tT p q s t):=by unfold tT;infer_instance
def yi(p q:List Pt)(s t:Sg):Prop:=aZ s.1 s.2 t.1 t.2=3\/aZ s.1 s.2 t.1 t.2≠0/\¬tT p q s t
instance (p q:List Pt)(s t:Sg):Decidable (yi p q s t):=by unfold yi;infer_instance
def zT(p q:List Pt):Prop:=∀s∈x9 p,∀t∈x9 q,¬yi p q s t
instance (p q:List Pt):Decidable (zT p q):=by unfold zT;infer_instance
section
variable{p q:List Pt}
end
end TL
namespace TL
section
variable{p q:List Pt}{i k:Nat}
variable{s t:Sg}
end
end TL
namespace TL
section
variable{p q:List Pt}{s t:Sg}{i:Nat}
end
end TL
/-
  TlGeomX: polylines: the document's way and the code's.
  By an AI agent.
-/
set_option linter.all false
namespace TL
section
variable{a b c d:Pt}
end
section
variable{ps:List Pt}{i k:Nat}
end
def Ah(but:List Pt)(s t:Sg):Prop:=aZ s.1 s.2 t.1 t.2=3\/(aZ s.1 s.2 t.1 t.2=1/\¬∃x∈but,di s.1 s.2 t.1 t.2 x)\/((aZ s.1 s.2 t.1 t.2≠0/\aZ s.1 s.2 t.1 t.2≠1)/\∃e∈[s.1,s.2,t.1,t.2],di s.1 s.2 t.1 t.2 e/\e∉but)
instance (but:List Pt)(s t:Sg):Decidable (Ah but s t):=by unfold Ah;infer_instance
def zx(p q but:List Pt):Prop:=∃s∈x9 p,∃t∈x9 q,Ah but s t
instance (p q but:List Pt):Decidable (zx p q but):=by unfold zx;infer_instance
section
variable{p q B:List Pt}
end
end TL
namespace TL
section
variable{p q but:List Pt}{i k:Nat}
variable{s t:Sg}
end
end TL
/-
  TlAround: points round another one: the order, its laws, the list that is sorted by it.
  By an AI agent.
-/
set_option linter.all false
namespace TL
def xD(p:Pt):Int:=p.1*p.1+p.2*p.2
def Up(p:Pt):Prop:=0<p.1\/p.1=0/\0<p.2
theorem yC(u v w:Pt):v.1*co u w=w.1*co u v+u.1*co v w:=by
 unfold co;grind
theorem bU(u v:Pt):co v u= -co u v:=by unfold co;grind
theorem l4(u:Pt):co u u=0:=by unfold co;grind
theorem pV{u v w:Pt}(hu:Up u)(hv:Up v)(hw:Up w)(c1:co u v<=0)(c2:co v w<=0):co u w<=0/\(co u v<0\/co v w<0->co u w<0):=by
 have hid:=yC u v w
 have hu0:0<=u.1:=by rcases hu with h|h<;>omega
 have hw0:0<=w.1:=by rcases hw with h|h<;>omega
 rcases hv with hv|⟨hv,hv2⟩
 · have hw1:0<w.1:=by
     rcases hw with h|⟨h,h2⟩
     · exact h
     · exfalso
       have:co v w=v.1*w.2:=by unfold co;rw[h];omega
       have:=Int.mul_pos hv h2
       omega
   have k1:w.1*co u v<=0:=Int.mul_nonpos_of_nonneg_of_nonpos hw0 c1
   have k2:u.1*co v w<=0:=Int.mul_nonpos_of_nonneg_of_nonpos hu0 c2
   refine⟨?_,?_⟩
   · refine Int.not_lt.1 λh=>?_
     have:=Int.mul_pos hv h
     omega
   · intro hs
     refine Int.not_le.1 λh=>?_
     have k3:0<=v.1*co u w:=Int.mul_nonneg (by omega) h
     rcases hs with hs|hs
     · have:=Int.mul_neg_of_pos_of_neg hw1 hs
       omega
     · rcases hu with hu|⟨hu,hu2⟩
       · have:=Int.mul_neg_of_pos_of_neg hu hs
         omega
       · have e:co u w= -(u.2*w.1):=by unfold co;rw[hu];omega
         have:=Int.mul_pos hu2 hw1
         omega
 · have e1:co u v=u.1*v.2:=by unfold co;rw[hv];omega
   have hu1:u.1=0:=by
     rcases hu with h|h
     · have:=Int.mul_pos h hv2
       omega
     · exact h.1
   have hu2:0<u.2:=by rcases hu with h|h<;>omega
   have e2:co u w= -(u.2*w.1):=by unfold co;rw[hu1];omega
   have e3:co v w= -(v.2*w.1):=by unfold co;rw[hv];omega
   have k1:=Int.mul_nonneg (Int.le_of_lt hu2) hw0
   refine⟨by omega,?_⟩
   rintro(h|h)
   · rw[e1,hu1] at h;omega
   · have:0<w.1:=by
       rcases hw with h'|h'
       · exact h'
       · rw[e3,h'.1] at h;omega
     have:=Int.mul_pos hu2 this
     omega
def nz(p:Pt):Prop:=¬(p.1=0/\p.2=0)
def mu(p:Pt):Pt:=(-p.1,-p.2)
theorem jw(u v:Pt):co (mu u) (mu v)=co u v:=by unfold co mu;grind
theorem lg{p:Pt}(h:nz p):(bv p=0/\Up p)\/(bv p=1/\Up (mu p)):=by
 unfold bv Up mu
 unfold nz at h
 split
 · exact .inl ⟨rfl,by assumption⟩
 · refine .inr ⟨rfl,?_⟩
   dsimp
   omega
theorem pO{u v w:Pt}(hu:nz u)(hv:nz v)(hw:nz w)(h1:bv u=bv v)(h2:bv v=bv w)(c1:co u v<=0)(c2:co v w<=0):co u w<=0/\(co u v<0\/co v w<0->co u w<0):=by
 rcases lg hu with⟨a1,a2⟩|⟨a1,a2⟩<;>rcases lg hv with⟨b1,b2⟩|⟨b1,b2⟩<;>rcases lg hw with⟨d1,d2⟩|⟨d1,d2⟩<;>try (exfalso;omega)
 · exact pV a2 b2 d2 c1 c2
 · have:=pV a2 b2 d2 (by rw[jw];exact c1) (by rw[jw];exact c2)
   simpa only[jw] using this
def ph(a b:Pt)(i k:Int):Prop:=bv a<bv b\/bv a=bv b/\(co a b<0\/co a b=0/\(xD a<xD b\/xD a=xD b/\i<k))
theorem fU(a:Pt)(i:Int):¬ph a a i i:=by
 unfold ph;rw[l4];omega
theorem zn{a b c:Pt}{i j k:Int}(ha:nz a)(hb:nz b)(hc:nz c)(h1:ph a b i j)(h2:ph b c j k):ph a c i k:=by
 unfold ph at*
 rcases h1 with h1|⟨h1,h1'⟩
 · rcases h2 with h2|⟨h2,_⟩
   · exact .inl (by omega)
   · exact .inl (by omega)
 · rcases h2 with h2|⟨h2,h2'⟩
   · exact .inl (by omega)
   · refine .inr ⟨by omega,?_⟩
     have t:=pO ha hb hc h1 h2 (by omega) (by omega)
     have t':=pO hc hb ha h2.symm h1.symm
     have a1:=bU a b
     have a2:=bU b c
     have a3:=bU a c
     rcases h1' with h1'|⟨h1',h1''⟩
     · exact .inl (t.2 (.inl h1'))
     · rcases h2' with h2'|⟨h2',h2''⟩
       · exact .inl (t.2 (.inr h2'))
       · have:=t' (by omega) (by omega)
         exact .inr ⟨by omega,by omega⟩
theorem kR{a b:Pt}{i k:Int}(h:i≠k):ph a b i k\/ph b a k i:=by
 unfold ph
 have:=bU a b
 omega
def vA(o:Pt)(ps:List Pt)(i:Int):Pt:=aG (gI ps i) o
def lY(o:Pt)(ps:List Pt)(i k:Int):Prop:=ph (vA o ps i) (vA o ps k) i k
def zy(o:Pt)(ps:List Pt)(i k:Int):Int:=li [bw (bv (vA o ps i)) (bv (vA o ps k)),bw (co (vA o ps i) (vA o ps k)) 0,bw (xD (vA o ps i)) (xD (vA o ps k)),bw i k]
theorem jO{x y:Int}:bw x y<0↔x<y:=by unfold bw;split<;>(try split)<;>omega
theorem iF{x y:Int}:bw x y=0↔x=y:=by unfold bw;split<;>(try split)<;>omega
theorem yh{o:Pt}{ps:List Pt}{i k:Int}:zy o ps i k<0↔lY o ps i k:=by
 unfold zy lY ph
 generalize bv (vA o ps i)=a1
 generalize bv (vA o ps k)=a2
 generalize co (vA o ps i) (vA o ps k)=b1
 generalize xD (vA o ps i)=c1
 generalize xD (vA o ps k)=c2
 have q1:= @jO a1 a2
 have q2:= @iF a1 a2
 have q3:= @jO b1 0
 have q4:= @iF b1 0
 have q5:= @jO c1 c2
 have q6:= @iF c1 c2
 have q7:= @jO i k
 have q8:= @iF i k
 simp only[li]
 split
 · split
   · split
     · split
       · omega
       · omega
     · omega
   · omega
 · omega
def jc(o:Pt)(ps:List Pt):Prop:=∀i:Nat,i<ps.length->gI ps (i:Int)≠o
theorem jc.nz{o:Pt}{ps:List Pt}(h:jc o ps){i:Int}(h0:0<=i)(h1:i<ps.length):nz (vA o ps i):=by
 have k:=h i.toNat (by omega)
 rw[Int.toNat_of_nonneg h0] at k
 intro⟨e1,e2⟩
 unfold vA aG at e1 e2
 simp only at e1 e2
 exact k (Prod.ext (by omega) (by omega))
def vq(o:Pt)(ps:List Pt)(k:Nat)(l:List Int):Prop:=l.Pairwise (lY o ps)/\∀x,x∈l↔0<=x/\x<(k:Int)
theorem pC{α:Type}{R:α->α->Prop}:∀{l1 l2:List α},(∀a,a∈l1->∀b,b∈l1->R a b->¬R b a)->l1.Pairwise R->l2.Pairwise R->(∀x,x∈l1↔x∈l2)->l1=l2
 |[],[],_,_,_,_=>rfl
 |[],b::t2,_,_,_,h=>by have:=(h b).2 (by simp);simp at this
 |a::t1,[],_,_,_,h=>by have:=(h a).1 (by simp);simp at this
 |a::t1,b::t2,ha,h1,h2,h=>by
   rw[List.pairwise_cons] at h1 h2
   have e:a=b:=by
     rcases List.mem_cons.1 ((h a).1 (by simp)) with e|m1
     · exact e
     · rcases List.mem_cons.1 ((h b).2 (by simp)) with e|m2
       · exact e.symm
       · exact absurd (h2.1 a m1) (ha a (by simp) b (by simp[m2]) (h1.1 b m2))
   subst e
   have n1:a∉t1:=λm=>ha a (by simp) a (by simp) (h1.1 a m) (h1.1 a m)
   have n2:a∉t2:=λm=>ha a (by simp) a (by simp) (h2.1 a m) (h2.1 a m)
   have:=pC (R:=R) (l1:=t1) (l2:=t2) (λx hx y hy=>ha x (by simp[hx]) y (by simp[hy])) h1.2 h2.2 λx=>by
     constructor
     · intro m
       rcases List.mem_cons.1 ((h x).1 (by simp[m])) with e|m'
       · subst e;exact absurd m n1
       · exact m'
     · intro m
       rcases List.mem_cons.1 ((h x).2 (by simp[m])) with e|m'
       · subst e;exact absurd m n2
       · exact m'
   rw[this]
section
variable{o:Pt}{ps:List Pt}{k:Nat}{l l':List Int}
theorem n8(hz:jc o ps){i j k:Int}(hi:0<=i/\i<ps.length)(hj:0<=j/\j<ps.length)(hk:0<=k/\k<ps.length)(h1:lY o ps i j)(h2:lY o ps j k):lY o ps i k:=
 zn (hz.nz hi.1 hi.2) (hz.nz hj.1 hj.2) (hz.nz hk.1 hk.2) h1 h2
theorem tV(hz:jc o ps){i j:Int}(hi:0<=i/\i<ps.length)(hj:0<=j/\j<ps.length)(h1:lY o ps i j):¬lY o ps j i:=λh2=>fU _ _ (n8 hz hi hj hi h1 h2)
theorem oY(hz:jc o ps)(hk:k<=ps.length)(h:vq o ps k l)(h':vq o ps k l'):l=l':=
 pC (λa ha b hb h1=>tV hz (by have:=(h.2 a).1 ha;omega) (by have:=(h.2 b).1 hb;omega) h1) h.1 h'.1 λx=>(h.2 x).trans (h'.2 x).symm
theorem rx(hz:jc o ps)(hk:k<ps.length)(h:vq o ps k l){m:Nat}(hm:m<=l.length)(h1:∀j:Nat,m<=j->j<l.length->lY o ps (k:Int) (gI l (j:Int)))(h2:m=0\/¬lY o ps (k:Int) (gI l ((m:Int)-1))):
   vq o ps (k+1) (l.take m++(k:Int)::l.drop m):=by
 have hin:∀j:Nat,j<l.length->0<=gI l (j:Int)/\gI l (j:Int)<(k:Int):=λj hj=>(h.2 _).1 (aR (by omega) (by omega))
 constructor
 · have hs:(l.take m++l.drop m).Pairwise (lY o ps):=by rw[List.take_append_drop];exact h.1
   rw[List.pairwise_append] at hs ⊢
   refine⟨hs.1,?_,?_⟩
   · rw[List.pairwise_cons]
     refine⟨λx hx=>?_,hs.2.1⟩
     obtain⟨j,hj,rfl⟩:=List.mem_iff_getElem.1 hx
     rw[List.length_drop] at hj
     have:=h1 (m+j) (by omega) (by omega)
     rw[List.getElem_drop]
     have e:gI l ((m+j:Nat):Int)=l[m+j]:=by simp only[gI];rw[Int.toNat_natCast];simp[show m+j<l.length by omega]
     rwa[e] at this
   · intro x hx y hy
     rcases List.mem_cons.1 hy with rfl|hy
     · -- x lies ahead of m
       obtain⟨j,hj,rfl⟩:=List.mem_iff_getElem.1 hx
       have hj':j<m/\j<l.length:=by rw[List.length_take] at hj;omega
       rw[List.getElem_take]
       have e:∀q (hq:q<l.length),gI l (q:Int)=l[q]:=λq hq=>by simp only[gI];rw[Int.toNat_natCast];simp[hq]
       have hlast:lY o ps (gI l ((m:Int)-1)) (k:Int):=by
         have hb:=hin (m-1) (by omega)
         rw[show((m-1:Nat):Int)=(m:Int)-1 by omega] at hb
         rcases kR (a:=vA o ps (k:Int)) (b:=vA o ps (gI l ((m:Int)-1))) (i:=(k:Int)) (k:=gI l ((m:Int)-1)) (by omega) with q|q
         · exact absurd q (by rcases h2 with h2|h2;(· omega);(· exact h2))
         · exact q
       by_cases hjm:j=m-1
       · subst hjm
         rw[<-e _ hj'.2,show((m-1:Nat):Int)=(m:Int)-1 by omega]
         exact hlast
       · have hp:=List.pairwise_iff_getElem.1 h.1 j (m-1) hj'.2 (by omega) (by omega)
         rw[<-e _ hj'.2,<-e (m-1) (by omega)] at hp
         rw[<-e _ hj'.2]
         have b1:=hin j hj'.2
         have b2:=hin (m-1) (by omega)
         rw[show((m-1:Nat):Int)=(m:Int)-1 by omega] at hp b2
         exact n8 hz (by omega) (by omega) (by omega) hp hlast
     · exact hs.2.2 x hx y hy
 · intro x
   have:x∈l.take m++(k:Int)::l.drop m↔x=(k:Int)\/x∈l:=by
     conv=>rhs;rw[<-List.take_append_drop m l]
     simp only[List.mem_append,List.mem_cons]
     constructor
     · rintro(h|h|h)<;>simp[h]
     · rintro(h|h|h)<;>simp[h]
   rw[this,h.2 x]
   omega
theorem sZ(l:List Int)(P:Int->Prop):∀m:Nat,m<=l.length->(∀j:Nat,m<=j->j<l.length->P (gI l (j:Int)))->∃m':Nat,m'<=l.length/\(∀j:Nat,m'<=j->j<l.length->P (gI l (j:Int)))/\(m'=0\/¬P (gI l ((m':Int)-1)))
 |0,h0,h=>⟨0,h0,h,.inl rfl⟩
 |m+1,h0,h=>by
   by_cases hp:P (gI l (m:Int))
   · exact sZ l P m (by omega) (λj hj hl=>by
       by_cases e:j=m
       · subst e;exact hp
       · exact h j (by omega) hl)
   · exact⟨m+1,h0,h,.inr (by rwa[show((m+1:Nat):Int)-1=(m:Int) by omega])⟩
theorem pn(hz:jc o ps):∀k:Nat,k<=ps.length->∃l,vq o ps k l
 |0,_=>⟨[],.nil,λx=>by simp⟩
 |k+1,hk=>by
   obtain⟨l,hl⟩:=pn hz k (by omega)
   obtain⟨m,h0,h1,h2⟩:=sZ l (lY o ps (k:Int)) l.length (Nat.le_refl _) (λj hj h=>by omega)
   exact⟨_,rx hz (by omega) hl h0 h1 h2⟩
open Classical in
noncomputable def arL (o:Pt) (ps:List Pt):List Int:=if h:∃l,vq o ps ps.length l then choose h else[]
theorem gE(hz:jc o ps):vq o ps ps.length (arL o ps):=by
 have h:=pn hz ps.length (Nat.le_refl _)
 unfold arL
 rw[dif_pos h]
 exact Classical.choose_spec h
theorem zd(hz:jc o ps)(h:vq o ps ps.length l):l=arL o ps:=oY hz (Nat.le_refl _) h (gE hz)
end
def fX(n:Nat):List Int:=(List.range n).map λ(i:Nat)=>(i:Int)
theorem tq(n:Nat):(fX n).length=n:=by simp[fX]
theorem rW(n:Nat):fX (n+1)=fX n++[(n:Int)]:=by simp[fX,List.range_succ]
open Classical in
noncomputable def arR (o:Pt) (ps:List Pt):List Int×Int:=if(cI o/\dW ps)/\jc o ps then(arL o ps,0) else([],1)
theorem pU{o:Pt}{ps:List Pt}(h1:cI o)(h2:dW ps)(h3:jc o ps):arR o ps=(arL o ps,0):=if_pos ⟨⟨h1,h2⟩,h3⟩
theorem ka{o:Pt}{ps:List Pt}(h:¬((cI o/\dW ps)/\jc o ps)):arR o ps=([],1):=if_neg h
theorem uK{o:Pt}{ps:List Pt}{k:Nat}(h0:(k:Int)<ps.length)(h:gI ps (k:Int)=o):¬jc o ps:=λhz=>hz k (by omega) h
theorem uC{x:Int}(h1: -2097152<=x)(h2:x<=2097152):0<=x*x/\x*x<=4398046511104:=by
 have:=gJ (x:=x) (y:=x) (by omega) (by omega)
 constructor
 · rcases Int.le_total 0 x with h|h
   · exact Int.mul_nonneg h h
   · exact Int.mul_nonneg_of_nonpos_of_nonpos h h
 · rcases Int.le_total 0 x with h|h
   · exact Int.mul_le_mul h2 h2 h (by omega)
   · have e:=Int.neg_mul_neg x x
     have:(-x)*(-x)<=2097152*2097152:=Int.mul_le_mul (by omega) (by omega) (by omega) (by omega)
     omega
theorem A2{o:Pt}{ps:List Pt}{i:Int}(ho:cI o)(hp:dW ps)(h0:0<=i)(h1:i<ps.length):
   (-2097152<=(vA o ps i).1/\(vA o ps i).1<=2097152)/\ -2097152<=(vA o ps i).2/\(vA o ps i).2<=2097152:=by
 have:=hp.2 _ (aR h0 h1)
 unfold cI at this ho
 unfold vA aG
 simp only
 omega
theorem xQ{o:Pt}{ps:List Pt}{i:Int}(ho:cI o)(hp:dW ps)(h0:0<=i)(h1:i<ps.length):
   ((0<=(vA o ps i).1*(vA o ps i).1/\(vA o ps i).1*(vA o ps i).1<=4398046511104)/\0<=(vA o ps i).2*(vA o ps i).2/\(vA o ps i).2*(vA o ps i).2<=4398046511104):=by
 have⟨⟨a,b⟩,c,d⟩:=A2 ho hp h0 h1
 exact⟨uC a b,uC c d⟩
section
variable{o:Pt}{ps:List Pt}{k:Nat}{l:List Int}{q:Int}
theorem r6(hz:jc o ps)(hk:k<=ps.length)(h:vq o ps k l):l.length=k:=by
 induction k generalizing l with
 |zero=>
   cases l with
   |nil=>rfl
   |cons a t=>have:=(h.2 a).1 (by simp);omega
 |succ k ih=>
   obtain⟨l0,hl0⟩:=pn hz k (by omega)
   obtain⟨m,h0,h1,h2⟩:=sZ l0 (lY o ps (k:Int)) l0.length (Nat.le_refl _) (λj hj h=>by omega)
   have:=oY hz hk h (rx hz (by omega) hl0 h0 h1 h2)
   have hl:=ih (by omega) hl0
   rw[this]
   simp[List.length_append,List.length_take,List.length_drop]
   omega
end
theorem oQ{o:Pt}{ps:List Pt}(hz:jc o ps){l:List Int}(hp:l.Perm (fX ps.length))(hs:l.Pairwise λx y=>¬lY o ps y x):l=arL o ps:=by
  refine zd hz ⟨?_,λx=>?_⟩
  · have hn:l.Nodup:=hp.nodup_iff.2 (by unfold fX;exact List.Pairwise.map _ (λ(a b:Nat) (h:a≠b) (e:(a:Int)=(b:Int))=>h (by omega)) List.nodup_range)
    refine(List.Pairwise.and hs hn).imp ?_
    intro x y ⟨h1,h2⟩
    rcases kR (a:=vA o ps x) (b:=vA o ps y) (i:=x) (k:=y) h2 with q|q
    · exact q
    · exact absurd q h1
  · rw[hp.mem_iff]
    unfold fX
    simp only[List.mem_map,List.mem_range]
    constructor
    · rintro⟨a,h,rfl⟩;omega
    · intro h
      exact⟨x.toNat,by omega,by omega⟩
section
variable{o:Pt}{ps:List Pt}
theorem iw(hz:jc o ps):(arL o ps).length=ps.length:=r6 hz (Nat.le_refl _) (gE hz)
theorem kx(hz:jc o ps){i:Int}(h0:0<=i)(h1:i<ps.length):0<=gI (arL o ps) i/\gI (arL o ps) i<(ps.length:Int):=
 ((gE hz).2 _).1 (aR h0 (by rw[iw hz];exact h1))
theorem pS(hz:jc o ps){i j:Int}(h0:0<=i)(hij:i<j)(h1:j<ps.length):lY o ps (gI (arL o ps) i) (gI (arL o ps) j):=by
 have hl:=iw hz
 have:=List.pairwise_iff_getElem.1 (gE hz).1 i.toNat j.toNat (by omega) (by omega) (by omega)
 have e1:=i9 (xs:=arL o ps) (i:=i) h0 (by omega)
 have e2:=i9 (xs:=arL o ps) (i:=j) (by omega) (by omega)
 rw[List.getElem?_eq_getElem (by omega)] at e1 e2
 rw[<-Option.some.inj e1,<-Option.some.inj e2]
 exact this
theorem ze(hz:jc o ps){i j:Int}(h0:0<=i)(hij:i<j)(h1:j<ps.length):gI (arL o ps) i≠gI (arL o ps) j:=λe=>by
 have:=pS hz h0 hij h1
 rw[e] at this
 exact fU _ _ this
end
end TL
/-
  TlFace: half-edges' next ones, faces.
  By an AI agent.
-/
set_option linter.all false
namespace TL
def eJ(r:bY)(h:Int):Int:=
  match r.find? (λl=>decide (h∈l)) with
  |some l=>gI l ((((l.idxOf h:Nat):Int)+1)%(l.length:Int))
  |none=>0
def bb(g:bG)(r:bY):List Int:=(bI (2*g.2.length)).map λk=>eJ r (bX k)
theorem rN{h:Int}(h0:0<=h):bX (bX h)=h:=by
 unfold bX
 by_cases e:h%2=0
 · rw[if_pos e,if_neg (by omega)];omega
 · rw[if_neg e,if_pos (by omega)];omega
theorem jE{n h:Int}(h0:0<=h)(h1:h<2*n):0<=bX h/\bX h<2*n:=by
 unfold bX
 split<;>omega
theorem rv{g:bG}{r:bY}(hr:cM g r){v:Nat}(hv:(v:Int)<r.length){h:Int}(hh:h∈gI r (v:Int)):r.find? (λl=>decide (h∈l))=some (gI r (v:Int)):=by
 have hlt:v<r.length:=by omega
 have e:gI r (v:Int)=r[v]:=by simp[gI,hlt]
 rw[e] at hh ⊢
 refine List.find?_eq_some_iff_getElem.2 ⟨by simpa using hh,v,hlt,rfl,λj hj=>?_⟩
 have hj':j<r.length:=by omega
 have h1:=(hr.2.1 v hlt h (by rw[e];exact hh)).2
 simp only[Bool.not_eq_true',decide_eq_false_iff_not]
 intro hm
 have ej:gI r (j:Int)=r[j]:=by simp[gI,hj']
 have h2:=(hr.2.1 j hj' h (by rw[ej];exact hm)).2
 omega
theorem gu:∀{r:bY} {l:List Int},l∈r->List.Sublist l r.flatten
 |a::r,l,h=>by
   rcases List.mem_cons.1 h with rfl|h
   · rw[List.flatten_cons];exact List.sublist_append_left _ _
   · rw[List.flatten_cons];exact(gu h).trans (List.sublist_append_right _ _)
theorem mK{g:bG}{r:bY}(hr:cM g r){v:Nat}(hv:(v:Int)<r.length):(gI r (v:Int)).Nodup:=by
 have hm:=aR (xs:=r) (i:=(v:Int)) (by omega) hv
 exact hr.2.2.1.sublist (gu hm)
theorem ti{l:List Int}(hn:l.Nodup){i:Nat}(hi:(i:Int)<l.length):l.idxOf (gI l (i:Int))=i:=by
 have hlt:i<l.length:=by omega
 have e:gI l (i:Int)=l[i]:=by simp[gI,hlt]
 rw[e]
 exact hn.idxOf_getElem i hlt
theorem lJ{g:bG}{r:bY}(hr:cM g r){v i:Nat}(hv:(v:Int)<r.length)(hi:(i:Int)<(gI r (v:Int)).length):eJ r (gI (gI r (v:Int)) (i:Int))=gI (gI r (v:Int)) (((i:Int)+1)%((gI r (v:Int)).length:Int)):=by
 unfold eJ
 rw[rv hr hv (aR (by omega) hi)]
 simp only
 rw[ti (mK hr hv) hi]
theorem iG{g:bG}{r:bY}(hr:cM g r){h:Int}(h0:0<=h)(h1:h<2*(g.2.length:Int)):∃v i:Nat,(v:Int)<r.length/\(i:Int)<(gI r (v:Int)).length/\gI (gI r (v:Int)) (i:Int)=h:=by
 obtain⟨a,b,c,d⟩:=hr
 have hm:=me c (n:=2*g.2.length) (λx hx=>by
   obtain⟨l,hl,hxl⟩:=List.mem_flatten.1 hx
   obtain⟨v,hv,e⟩:=List.mem_iff_getElem.1 hl
   have ev:gI r (v:Int)=l:=by rw[<-e];simp[gI,hv]
   have:=(b v hv x (by rw[ev];exact hxl)).1
   omega) (by omega) h0 (by omega)
 obtain⟨l,hl,hxl⟩:=List.mem_flatten.1 hm
 obtain⟨v,hv,e⟩:=List.mem_iff_getElem.1 hl
 have ev:gI r (v:Int)=l:=by rw[<-e];simp[gI,hv]
 obtain⟨i,hi,e2⟩:=List.mem_iff_getElem.1 hxl
 exact⟨v,i,by omega,by rw[ev];omega,by rw[ev];simp[gI,hi,e2]⟩
theorem xc{g:bG}{r:bY}(hr:cM g r){h:Int}(h0:0<=h)(h1:h<2*(g.2.length:Int)):0<=eJ r h/\eJ r h<2*(g.2.length:Int):=by
 obtain⟨v,i,hv,hi,rfl⟩:=iG hr h0 h1
 rw[lJ hr hv hi]
 have hm:0<=((i:Int)+1)%((gI r (v:Int)).length:Int)/\((i:Int)+1)%((gI r (v:Int)).length:Int)<((gI r (v:Int)).length:Int):=⟨Int.emod_nonneg _ (by omega),Int.emod_lt_of_pos _ (by omega)⟩
 exact(hr.2.1 v (by omega) _ (aR hm.1 hm.2)).1
theorem eT(g:bG)(r:bY):((bb g r).length:Int)=2*(g.2.length:Int):=by simp[bb,e9]
theorem jn{g:bG}{r:bY}{k:Int}(h0:0<=k)(h1:k<2*(g.2.length:Int)):gI (bb g r) k=eJ r (bX k):=by
 unfold bb
 rw[sR _ h0 (by rw[e9];omega),rz h0 (by omega)]
theorem sX{g:bG}{r:bY}(hr:cM g r){k:Int}(h0:0<=k)(h1:k<2*(g.2.length:Int)):0<=gI (bb g r) k/\gI (bb g r) k<2*(g.2.length:Int):=by
 rw[jn h0 h1]
 have:=jE h0 h1
 exact xc hr this.1 this.2
def gv(nx:List Int):Nat->List Int->Int->List Int
 |0,_,_=>[]
 |n+1,seen,k=>if k∈seen then[] else k::gv nx n (seen++[k]) (gI nx k)
def eD(nx:List Int)(seen:List Int)(k:Int):List Int:=gv nx (nx.length-seen.length) seen k
def c4(nx:List Int):List Int->List Int->List (List Int)
 |[],_=>[]
 |h::hs,seen=>if h∈seen then c4 nx hs seen else eD nx seen h::c4 nx hs (seen++eD nx seen h)
def cx(nx:List Int)(r:bY):List (List Int):=c4 nx (bI nx.length) []++(r.filter λl=>decide (l.length=0)).map λ_=>[]
theorem oX{nx seen:List Int}{k:Int}(h:k∈seen):eD nx seen k=[]:=by
 unfold eD
 cases nx.length-seen.length with
 |zero=>rfl
 |succ n=>simp[gv,h]
theorem px{nx seen:List Int}{k:Int}(h:k∉seen)(hl:seen.length<nx.length):eD nx seen k=k::eD nx (seen++[k]) (gI nx k):=by
 unfold eD
 rw[show nx.length-seen.length=(nx.length-(seen++[k]).length)+1 by simp;omega]
 simp[gv,h]
end TL
namespace TL
theorem fq.low{seen:List Bool}{P:List Int}{n h:Int}(hi:fq seen P n)(h0:0<=h)(h1:h<n)(hs:¬gI seen h=true):h∉P:=by
 have:=hi.seen h h0 h1
 intro hm
 rw[this] at hs
 simp[hm] at hs
structure eM(seen:List Bool)(l:List (List Int))(nx:List Int)(S:List Int)(q:Nat):Prop where
  rm:fq seen S nx.length
  eq:l++c4 nx ((bI nx.length).drop q) S=c4 nx (bI nx.length) []
  le:l.length<=q
theorem eM.start(nx:List Int):eM (List.replicate nx.length false) [] nx [] 0:=by
 refine⟨by simpa using fq.start (n:=(nx.length:Int)) (by omega),by simp,by simp⟩
theorem mL{n q:Nat}(h:(q:Int)<n):(bI n).drop q=(q:Int)::(bI n).drop (q+1):=by
 have:=vO (xs:=bI n) (k:=q) (by rw[e9];exact h)
 rw[rz (by omega) h] at this
 exact this
structure gc(seen:List Bool)(f:List Int)(nx:List Int)(S:List Int)(q:Nat)(k:Int):Prop where
  rm:fq seen (S++f) nx.length
  eq:f++eD nx (S++f) k=eD nx S (q:Int)
  k0:0<=k
  k1:k<nx.length
theorem gc.start{seen:List Bool}{l:List (List Int)}{nx S:List Int}{q:Nat}(h:eM seen l nx S q)(hq:(q:Int)<nx.length):gc seen [] nx S q (q:Int):=
 ⟨by simpa using h.rm,by simp,by omega,hq⟩
theorem gc.next{seen:List Bool}{f nx S:List Int}{q:Nat}{k:Int}(h:gc seen f nx S q k)(hs:¬gI seen k=true)(hin:0<=gI nx k/\gI nx k<nx.length):gc (seen.set k.toNat true) (f++[k]) nx S q (gI nx k)/\f.length<nx.length:=by
 have hk:=h.rm.low h.k0 h.k1 hs
 have h1:=h.rm.next h.k0 h.k1 (Bool.eq_false_iff.2 hs)
 have h2:=h1.bd
 simp only[List.length_append,List.length_cons,List.length_nil] at h2
 refine⟨⟨by rw[<-List.append_assoc];exact h1,?_,hin.1,hin.2⟩,by omega⟩
 have h3:=h.eq
 rw[px hk (by simp only[List.length_append];omega)] at h3
 rw[<-h3]
 simp[List.append_assoc]
theorem gc.done{seen:List Bool}{f nx S:List Int}{q:Nat}{k:Int}(h:gc seen f nx S q k)(hs:gI seen k=true):f=eD nx S (q:Int):=by
 have hk:=h.rm.mem h.k0 h.k1 hs
 have h3:=h.eq
 rw[oX hk,List.append_nil] at h3
 exact h3
theorem eM.yes{seen0 seen:List Bool}{l:List (List Int)}{nx S f:List Int}{q:Nat}{k:Int}(h:eM seen0 l nx S q)(ho:gc seen f nx S q k)(hs:gI seen k=true)(hf:0<(f.length:Int))(hq:(q:Int)<nx.length):eM seen (l++[f]) nx (S++f) (q+1):=by
 have e:=ho.done hs
 have hq2:(q:Int)∉S:=λhm=>by rw[oX hm] at e;subst e;simp at hf
 refine⟨ho.rm,?_,by have:=h.le;simp;omega⟩
 rw[<-h.eq,mL hq]
 simp only[c4]
 rw[if_neg hq2,<-e]
 simp[List.append_assoc]
theorem eM.no{seen0 seen:List Bool}{l:List (List Int)}{nx S f:List Int}{q:Nat}{k:Int}(h:eM seen0 l nx S q)(ho:gc seen f nx S q k)(hs:gI seen k=true)(hf:¬0<(f.length:Int))(hq:(q:Int)<nx.length):eM seen l nx S (q+1):=by
 have e:=ho.done hs
 have hf0:f=[]:=List.eq_nil_of_length_eq_zero (by omega)
 subst hf0
 have hq2:(q:Int)∈S:=by
   by_cases hm:(q:Int)∈S
   · exact hm
   · have hb:=h.rm
     have h1:=hb.next (h:=(q:Int)) (by omega) hq (by
       have:=hb.seen (q:Int) (by omega) hq
       rw[this];simpa using hm)
     have h2:=h1.bd
     simp only[List.length_append,List.length_cons,List.length_nil] at h2
     rw[px hm (by omega)] at e
     cases e
 refine⟨by simpa using ho.rm,?_,by have:=h.le;omega⟩
 rw[<-h.eq,mL hq]
 simp only[c4]
 rw[if_pos hq2]
theorem eM.done{seen:List Bool}{l:List (List Int)}{nx S:List Int}{q:Nat}(h:eM seen l nx S q)(hq:¬(q:Int)<nx.length):l=c4 nx (bI nx.length) []:=by
 have:=h.eq
 rw[List.drop_of_length_le (by rw[e9];omega)] at this
 simpa[c4] using this
theorem s9{r:bY}{p:Nat}{l L0:List (List Int)}(hp:(p:Int)<r.length)(h:l=L0++((r.take p).filter λl=>decide (l.length=0)).map λ_=>[])(he:((gI r (p:Int)).length:Int)=0):l++[[]]=L0++((r.take (p+1)).filter λl=>decide (l.length=0)).map λ_=>[]:=by
  have he':gI r (p:Int)=[]:=List.eq_nil_of_length_eq_zero (by omega)
  rw[bC hp,List.filter_append,h,he']
  simp
theorem u3{r:bY}{p:Nat}{l L0:List (List Int)}(hp:(p:Int)<r.length)(h:l=L0++((r.take p).filter λl=>decide (l.length=0)).map λ_=>[])(he:¬((gI r (p:Int)).length:Int)=0):l=L0++((r.take (p+1)).filter λl=>decide (l.length=0)).map λ_=>[]:=by
 have he':¬gI r (p:Int)=[]:=λe=>he (by rw[e];rfl)
 rw[bC hp,List.filter_append,h]
 simp[he']
theorem rL{r:bY}{p:Nat}{l L0:List (List Int)}(h:l=L0++((r.take p).filter λl=>decide (l.length=0)).map λ_=>[]):l.length<=L0.length+p:=by
 rw[h,List.length_append,List.length_map]
 have h1:=List.length_filter_le (λl:List Int=>decide (l.length=0)) (r.take p)
 have h2:=List.length_take_le p r
 omega
structure dZ(out:List (List Int))(g:bG)(k:Nat):Prop where
  len:(out.length:Int)=g.1
  at_:∀v,0<=v->v<g.1->gI out v=gA g v k
theorem dZ.start{g:bG}(h:0<=g.1):dZ (List.replicate g.1.toNat []) g 0:=⟨by simp;omega,λv h0 h1=>by rw[ku h0 (by omega)];simp[gA]⟩
theorem dZ.next{out:List (List Int)}{g:bG}{k:Nat}(h:dZ out g k)(h1:0<=(gI g.2 k).1)(h2:(gI g.2 k).1<g.1)(h3:0<=(gI g.2 k).2)(h4:(gI g.2 k).2<g.1){a b:Int}(ha:a=2*(k:Int))(hb:b=2*(k:Int)+1):
   dZ ((out.set (gI g.2 k).1.toNat (gI out (gI g.2 k).1++[a])).set (gI g.2 k).2.toNat (gI (out.set (gI g.2 k).1.toNat (gI out (gI g.2 k).1++[a])) (gI g.2 k).2++[b])) g (k+1):=by
 have hl:=h.len
 refine⟨by simpa using hl,λv h5 h6=>?_⟩
 rw[dN h3 (by simp;omega) h5,dN h1 (by omega) h3,dN h1 (by omega) h5,pj,h.at_ _ h1 h2,h.at_ _ h3 h4,h.at_ v h5 h6,ha,hb]
 by_cases e2:v=(gI g.2 (k:Int)).2
 · by_cases e1:v=(gI g.2 (k:Int)).1
   · rw[<-e1,<-e2];simp
   · have e3:¬(gI g.2 (k:Int)).2=(gI g.2 (k:Int)).1:=λh=>e1 (e2.trans h)
     have e6:¬(gI g.2 (k:Int)).1=(gI g.2 (k:Int)).2:=λh=>e3 h.symm
     simp[e2,e3,e6]
 · have e4:¬(gI g.2 (k:Int)).2=v:=λh=>e2 h.symm
   by_cases e1:v=(gI g.2 (k:Int)).1
   · rw[if_neg e2,if_pos e1,if_neg e4,if_pos e1.symm,<-e1];simp
   · have e5:¬(gI g.2 (k:Int)).1=v:=λh=>e1 h.symm
     rw[if_neg e2,if_neg e1,if_neg e4,if_neg e5];simp
end TL
namespace TL
theorem vV{g:bG}{r:bY}(hr:cM g r){k:Nat}(hk:(k:Int)<r.length):((gI r (k:Int)).length:Int)<=2*(g.2.length:Int):=by
 have:=(gu (aR (xs:=r) (i:=(k:Int)) (by omega) hk)).length_le
 have h2:=hr.2.2.2
 omega
end TL
/-
  TlWalk: going through a net breadth first, and its components, as the program does.
  By an AI agent.
-/
set_option linter.all false
namespace TL
def dV(g:bG)(h:Int):Int:=pI (gI g.2 (h/2)) (1-h%2)
theorem i2{g:bG}(hm:bF g){h:Int}(h0:0<=h)(h1:h<2*(g.2.length:Int)):0<=dV g h/\dV g h<g.1:=by
 have hok:=hm.2.2.2 _ (aR (xs:=g.2) (i:=h/2) (by omega) (by omega))
 unfold ox at hok
 unfold dV pI
 split<;>omega
structure Bf where
 order:List Int
 by_:List Int
 far:List Int
def gg(g:bG)(v:Int)(s:Bf)(h:Int):Bf:=
 if gI s.far (dV g h)<0 then⟨s.order++[dV g h],s.by_.set (dV g h).toNat h,s.far.set (dV g h).toNat (gI s.far v+1)⟩ else s
def mq(g:bG)(v:Int)(s:Bf):Bf:=(bP g v).foldl (gg g v) s
def n9(g:bG):Nat->Nat->Bf->Bf
 |0,_,s=>s
 |n+1,i,s=>if i<s.order.length then n9 g n (i+1) (mq g (gI s.order (i:Int)) s) else s
def eG(g:bG)(s0:Int):Bf:=⟨[s0],List.replicate g.1.toNat (-1),(List.replicate g.1.toNat (-1)).set s0.toNat 0⟩
def fM(g:bG)(s0:Int):Bf:=n9 g g.1.toNat 0 (eG g s0)
structure kJ(g:bG)(s:Bf):Prop where
 far:(s.far.length:Int)=g.1
 by_:(s.by_.length:Int)=g.1
 nodup:s.order.Nodup
 rng:∀x∈s.order,0<=x/\x<g.1
 iff:∀w,0<=w->w<g.1->(gI s.far w<0↔w∉s.order)
 le:∀w,0<=w->w<g.1->gI s.far w<=s.order.length
theorem kJ.start{g:bG}{s0:Int}(h0:0<=s0)(h1:s0<g.1):kJ g (eG g s0):=by
 refine⟨by simp[eG];omega,by simp[eG];omega,by simp[eG],by simp[eG];omega,λw hw0 hw1=>?_,λw hw0 hw1=>?_⟩
 · simp only[eG]
   rw[dN h0 (by simp;omega) hw0]
   by_cases e:w=s0
   · subst e;simp
   · rw[if_neg e,ku hw0 (by omega)];simp[e]
 · simp only[eG]
   rw[dN h0 (by simp;omega) hw0]
   by_cases e:w=s0
   · subst e;simp
   · rw[if_neg e,ku hw0 (by omega)];simp
theorem kJ.len{g:bG}{s:Bf}(h:kJ g s)(hg:0<=g.1):(s.order.length:Int)<=g.1:=ig hg h.nodup h.rng
theorem kJ.one{g:bG}{s:Bf}{v h:Int}(hs:kJ g s)(hv:v∈s.order)(h0:0<=dV g h)(h1:dV g h<g.1):kJ g (gg g v s h):=by
 obtain⟨hv0,hv1⟩:=hs.rng v hv
 unfold gg
 by_cases c:gI s.far (dV g h)<0
 · rw[if_pos c]
   have hn:=(hs.iff _ h0 h1).1 c
   have hf:=hs.far
   have hlv:=hs.le v hv0 hv1
   refine⟨by simpa using hs.far,by simpa using hs.by_,?_,λx hx=>?_,λw hw0 hw1=>?_,λw hw0 hw1=>?_⟩
   · rw[List.nodup_append]
     refine⟨hs.nodup,by simp,λa ha b hb=>?_⟩
     obtain rfl:=List.mem_singleton.1 hb
     intro e;subst e;exact hn ha
   · rcases List.mem_append.1 hx with hx|hx
     · exact hs.rng x hx
     · obtain rfl:=List.mem_singleton.1 hx;exact⟨h0,h1⟩
   · simp only
     rw[dN h0 (by omega) hw0]
     by_cases e:w=dV g h
     · subst e
       rw[if_pos rfl]
       have hx:¬gI s.far v<0:=λhh=>(hs.iff v hv0 hv1).1 hh hv
       constructor
       · intro hh;omega
       · intro hh;simp at hh
     · rw[if_neg e,hs.iff w hw0 hw1];simp[e]
   · simp only
     rw[dN h0 (by omega) hw0]
     by_cases e:w=dV g h
     · subst e;rw[if_pos rfl];simp;omega
     · rw[if_neg e]
       have:=hs.le w hw0 hw1
       simp;omega
 · rw[if_neg c];exact hs
end TL
namespace TL
theorem fv{g:bG}{v h:Int}(hh:h∈bP g v):(0<=h/\h<2*(g.2.length:Int))/\aL g h=v:=by
 unfold bP gA at hh
 obtain⟨h1,h2⟩:=List.mem_filter.1 hh
 obtain⟨k,hk,rfl⟩:=List.mem_map.1 h1
 have:=List.mem_range.1 hk
 exact⟨by omega,by simpa using h2⟩
theorem st(g:bG)(v:Int)(s:Bf)(h:Int):∃t,(gg g v s h).order=s.order++t:=by
 unfold gg
 split
 · exact⟨_,rfl⟩
 · exact⟨[],by simp⟩
def iv(g:bG)(p:List Int×Int)(v:Int):List Int×Int:=
 if 0<=gI p.1 v then p else((fM g v).order.foldl (λl w=>l.set w.toNat p.2) p.1,p.2+1)
def bl(g:bG)(k:Nat):List Int×Int:=(bI k).foldl (iv g) (List.replicate g.1.toNat (-1),0)
def bE(g:bG):List Int×Int×Int:=if bF g then((bl g g.1.toNat).1,(bl g g.1.toNat).2,0) else([],0,1)
theorem gj(g:bG)(k:Nat):bl g (k+1)=iv g (bl g k) (k:Int):=by
 unfold bl
 rw[mr,List.foldl_append];rfl
theorem kd(g:bG):∀k:Nat,(bl g k).1.length=g.1.toNat/\0<=(bl g k).2/\(bl g k).2<=k:=by
 intro k
 induction k with
 |zero=>simp[bl,bI]
 |succ k ih=>
   rw[gj]
   unfold iv
   have key:∀(l:List Int) (p:List Int) (x:Int),(l.foldl (λl w=>l.set w.toNat x) p).length=p.length:=by
     intro l
     induction l with
     |nil=>intro p x;rfl
     |cons a l ih=>intro p x;rw[List.foldl_cons,ih];simp
   split
   · exact⟨ih.1,ih.2.1,by omega⟩
   · simp only
     rw[key]
     exact⟨ih.1,by omega,by omega⟩
theorem gR(x:Int):∀(l p:List Int),(l.foldl (λl w=>l.set w.toNat x) p).length=p.length
 |[],p=>rfl
 |a::l,p=>by rw[List.foldl_cons,gR x l];simp
def du(g:bG)(r:bY):bY×Int:=if bR g r=0 then(cG r,0) else([],bR g r)
end TL
namespace TL
theorem rK{k n:Nat}{x:Int}(hk:k<n):(List.replicate k x++List.replicate (n-k) 0).set (k:Int).toNat x=List.replicate (k+1) x++List.replicate (n-(k+1)) (0:Int):=by
 have e:n-k=(n-(k+1))+1:=by omega
 rw[e,List.replicate_succ]
 simp only[Int.toNat_natCast]
 rw[List.set_append_right _ _ (by simp)]
 simp only[List.length_replicate,Nat.sub_self,List.set_cons_zero]
 rw[List.replicate_succ']
 simp
theorem dZ.rl{out:List (List Int)}{g:bG}{k:Nat}(h:dZ out g k){v:Int}(h0:0<=v)(h1:v<g.1):((gI out v).length:Int)<=2*(k:Int):=by
 rw[h.at_ v h0 h1]
 have:=mU g v k
 omega
theorem dZ.rl2{out:List (List Int)}{g:bG}{k:Nat}(h:dZ out g k){u v:Int}(h2:0<=u)(h3:u<g.1)(h0:0<=v)(h1:v<g.1)(a:Int):((gI (out.set u.toNat (gI out u++[a])) v).length:Int)<=2*(k:Int)+1:=by
 have hl:=h.len
 rw[dN h2 (by omega) h0]
 split
 · have:=h.rl h2 h3;simp;omega
 · have:=h.rl h0 h1;omega
theorem dZ.done{out:List (List Int)}{g:bG}{k:Nat}(h:dZ out g k)(hk:k=g.2.length):∀v,0<=v->v<g.1->gI out v=bP g v:=λv h0 h1=>by
 subst hk;exact h.at_ v h0 h1
end TL
namespace TL
theorem qg{g:bG}{part:List Int}{n:Int}{q:Nat}(h:part=(bl g q).1/\n=(bl g q).2)(c:0<=gI part (q:Int)):part=(bl g (q+1)).1/\n=(bl g (q+1)).2:=by
 have h1:bl g (q+1)=bl g q:=by
   rw[gj]
   unfold iv
   rw[if_pos (by rw[<-h.1];exact c)]
 rw[h1];exact h
theorem lB{g:bG}(hm:bF g){q:Nat}(hq:(q:Int)=g.1){part:List Int}{n:Int}(h:part=(bl g q).1/\n=(bl g q).2):part=(bE g).1/\n=(bE g).2.1/\0=(bE g).2.2:=by
 have e:q=g.1.toNat:=by omega
 subst e
 unfold bE
 rw[if_pos hm]
 exact⟨h.1,h.2,rfl⟩
theorem mV(g:bG)(hm:bF g):0<=(bE g).2.1/\(bE g).2.1<=g.1:=by
 unfold bE
 rw[if_pos hm]
 have:=kd g g.1.toNat
 have h2:=hm.1
 exact⟨this.2.1,by show(bl g g.1.toNat).2<=g.1;omega⟩
theorem jb(nx:List Int):∀(l S:List Int),(c4 nx l S).length<=l.length
 |[],S=>by simp[c4]
 |h::l,S=>by
   simp only[c4]
   split
   · have:=jb nx l S;simp;omega
   · have:=jb nx l (S++eD nx S h);simp;omega
theorem pM(nx:List Int)(r:bY):(cx nx r).length<=nx.length+r.length:=by
 unfold cx
 have h1:=jb nx (bI nx.length) []
 rw[e9] at h1
 have h2:=List.length_filter_le (λl:List Int=>decide (l.length=0)) r
 rw[List.length_append,List.length_map]
 omega
end TL
namespace TL
end TL
/-
  TlRotSame: lists that begin elsewhere are the same rotation.
  By an AI agent.
-/
set_option linter.all false
namespace TL
theorem mP:∀(c a:bY),c.length=a.length->(∀q:Nat,q<a.length->List.Perm (gI c (q:Int)) (gI a (q:Int)))->List.Perm c.flatten a.flatten
 |[],[],_,_=>by simp
 |x::c,y::a,hl,h=>by
   have h0:=h 0 (by simp)
   have e0:gI (x::c) ((0:Nat):Int)=x:=rfl
   have e1:gI (y::a) ((0:Nat):Int)=y:=rfl
   rw[e0,e1] at h0
   rw[List.flatten_cons,List.flatten_cons]
   refine h0.append (mP c a (by simpa using hl) λq hq=>?_)
   have:=h (q+1) (by simp;omega)
   have e2:gI (x::c) ((q+1:Nat):Int)=gI c (q:Int):=by simp[gI]
   have e3:gI (y::a) ((q+1:Nat):Int)=gI a (q:Int):=by simp[gI]
   rw[e2,e3] at this
   exact this
 |[],_::_,hl,_=>by simp at hl
 |_::_,[],hl,_=>by simp at hl
end TL
namespace TL
end TL
namespace TL
end TL
/-
  TlRot2: rotations: faces of half-edges, first ones, parts, moved ones.
  By an AI agent.
-/
set_option linter.all false
namespace TL
def bh(g:bG):bY:=(List.range g.1.toNat).map λ(v:Nat)=>bP g (v:Int)
def bM(g:bG):bY×Int:=if bF g then(bh g,0) else([],1)
theorem dZ.first{out:bY}{g:bG}{k:Nat}(h:dZ out g k)(hk:k=g.2.length):out=bh g:=by
 have hl:=h.len
 apply gk
 · simp[bh];omega
 · intro i hi
   rw[h.done hk _ (by omega) (by omega)]
   have:i<g.1.toNat:=by omega
   simp[bh,gI,this]
structure ef(out:bY)(g:bG)(h:Nat):Prop where
  len:(out.length:Int)=g.1
  at_:∀v,0<=v->v<g.1->gI out v=nc g v h
theorem ef.start{g:bG}(h:0<=g.1):ef (List.replicate g.1.toNat []) g 0:=⟨by simp;omega,λv h0 h1=>by rw[ku h0 (by omega)];simp[nc]⟩
theorem ef.next{out:bY}{g:bG}{h:Nat}(hi:ef out g h)(h0:0<=aL g h)(h1:aL g h<g.1):ef (out.set (aL g h).toNat (gI out (aL g h)++[(h:Int)])) g (h+1):=by
 have hl:=hi.len
 refine⟨by simpa using hl,λv h2 h3=>?_⟩
 rw[dN h0 (by omega) h2,rR]
 by_cases e:v=aL g (h:Int)
 · rw[if_pos e,if_pos e.symm,hi.at_ _ h0 h1,<-e]
 · rw[if_neg e,if_neg (λh=>e h.symm),hi.at_ v h2 h3]
theorem ef.bd{out:bY}{g:bG}{h:Nat}(hi:ef out g h){v:Int}(h0:0<=v)(h1:v<g.1):(gI out v).length<=h:=by
 rw[hi.at_ v h0 h1];exact uW g v h
theorem ef.done{out:bY}{g:bG}{h:Nat}(hi:ef out g h)(hh:h=2*g.2.length):out=bh g:=by
 have hl:=hi.len
 apply gk
 · simp[bh];omega
 · intro i hlt
   rw[hi.at_ _ (by omega) (by omega),uZ g _ hh]
   have:i<g.1.toNat:=by omega
   simp[bh,gI,this]
end TL
