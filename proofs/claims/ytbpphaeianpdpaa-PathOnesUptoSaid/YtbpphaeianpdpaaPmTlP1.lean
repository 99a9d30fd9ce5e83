/- Plain texts of this claim, part 1. By an AI agent. -/
import Derived.Test.YtbpphaeianpdpaaPmTlP0
import Derived.Laws.Externs
import Derived.Laws.FloatArith
import Derived.Laws.FloatBits
import Derived.Laws.NewFold
import Derived.Laws.StructEq
import Derived.OrdersHeld
/-
  TlHold: regions that draw their order, where what is read stays: on the kit's OrdersHeld.
  By an AI agent.
-/
set_option linter.all false
namespace TL
open Go
section
variable{P:Program}{n:Nat}{l:List Oper}{S:World->Prop}{K:Fr->World->Prop}{f:Fr}{w:World}{done:List Nat}{fuel:Nat}
def m6(P:Program)(n:Nat)(l:List Oper)(S:World->Prop)(K:Fr->World->Prop)(fuel:Nat)(done:List Nat)(f:Fr)(w:World):Prop:=
  ∀a,Ag n a f->wpAnyH P .any l.toArray (λe a' w'=>e= .normal/\∃f',Ag n a' f'/\K f' w') S fuel (bm l.length done) a w
theorem bc.same{J:bO->Prop}{γ γ':ay}{w w':World}(h:bc J γ w γ' w'):bc J γ w γ w':=⟨h.os,h.tape,h.output,h.size,λ_ _ _=>rfl,h.keep,h.drawn⟩
theorem di{fid:Nat}{R:Ending->World->Prop}{k:List Item}{id:Nat}(γ:ay)(J:bO->Prop)(hm:P.follows .mixedOrders=true)
   (h:∀w1,bc no γ w γ w1->m6 P n l (λw'=>bc J γ w1 γ w') (db P fid n R k) l.length [] f w1):db P fid n R (.code (.region id l.toArray true)::k) f w:=
 eI λa ha=>wp_region_held hm (by
   have h0:=h _ (bc.refl _ _ _).drew a ha
   have hmask:bm l.length []=Array.replicate l.toArray.size false:=by
     apply Array.ext
     · simp[bm]
     · intro j h1 h2;simp[bm]
   rw[hmask] at h0
   simpa using h0)
theorem jv{fid:Nat}{R:Ending->World->Prop}{k:List Item}{id:Nat}{σ:Type}(Mid:σ->Fr->World->Prop)(γ:ay)(J:bO->Prop)(hm:P.follows .mixedOrders=true)
    (h:(∀s f w,Mid s f w->db P fid n R k f w)->∀w1,bc no γ w γ w1->m6 P n l (λw'=>bc J γ w1 γ w') (db P fid n R k) l.length [] f w1)(hk:∀s f w,Mid s f w->db P fid n R k f w):db P fid n R (.code (.region id l.toArray true)::k) f w:=
  di γ J hm (h hk)
variable{dst:Option Tmp}{op:Op}{ty:TypeId}{pos:String}{after:Array Edge}{g:Option (Nat×Bool)}{v:Value}
theorem qt(i:Nat)(hi:l[i]? =some ⟨dst,op,ty,pos,after,g⟩)(hn:dW l=true)(hc:(dF l done i&&eO l done i&&gD n ⟨dst,op,ty,pos,after,g⟩)=true)
   (hw:bK l ⟨dst,op,ty,pos,after,g⟩ f=true)(hS:S w)(h:∀w,S w->(execOp (ev f) ⟨dst,op,ty,pos,after,g⟩).run P w= .ok (.value v) w)(hk:m6 P n l S K fuel (i::done) (dJ f dst v) w):m6 P n l S K (fuel+1) done f w:=by
 simp only[Bool.and_eq_true] at hc
 obtain⟨⟨hr,hf⟩,hd⟩:=hc
 obtain⟨hlt,hr'⟩:=dy hr
 intro a ha
 refine wpAnyH_first (v:=v) (by simpa using hi) (fl hn) (λc a w h=>by cases h.1) fuel _ a w (dT hi hf) hr' (.inl ⟨by rw[ha.yielded];exact hw,λw hs=>by rw[ha.eval];exact h w hs⟩) hS ?_
 rw[bT done hlt]
 exact hk _ (ha.put hd v)
def qM(P:Program)(n:Nat)(l:List Oper)(S:World->Prop)(K:Fr->World->Prop)(fuel:Nat)(done:List Nat)(f:Fr)(w:World)(i:Nat):Prop:=
  ∃o,l[i]? =some o/\i<l.length/\(bK l o f=true/\gD n o=true/\eu P o f w (λv w'=>S w'/\m6 P n l S K fuel (i::done) (dJ f o.dst v) w'))
theorem mT(i:Nat)(hi:l[i]? =some ⟨dst,op,ty,pos,after,g⟩)(hc:gD n ⟨dst,op,ty,pos,after,g⟩=true)(hw:bK l ⟨dst,op,ty,pos,after,g⟩ f=true)
   (h:eu P ⟨dst,op,ty,pos,after,g⟩ f w (λv w'=>S w'/\m6 P n l S K fuel (i::done) (dJ f dst v) w')):qM P n l S K fuel done f w i:=
 ⟨_,hi,(List.getElem?_eq_some_iff.1 hi).1,hw,hc,h⟩
def px(P:Program)(n:Nat)(l:List Oper)(S:World->Prop)(K:Fr->World->Prop)(fuel:Nat)(done:List Nat)(f:Fr)(w:World):List Nat->Prop
 |[]=>True
 |i::r=>qM P n l S K fuel done f w i/\px P n l S K fuel done f w r
theorem px.mem{L:List Nat}(h:px P n l S K fuel done f w L):∀i∈L,qM P n l S K fuel done f w i:=by
 induction L with
 |nil=>intro i hi;cases hi
 |cons j r ih=>
   intro i hi
   rcases List.mem_cons.1 hi with rfl|hi
   · exact h.1
   · exact ih h.2 i hi
theorem ka(i:Nat)(L:List Nat)(hr:decide (Region.ready .any l.toArray (bm l.length done)=i::L)=true)(h:px P n l S K fuel done f w (i::L)):m6 P n l S K (fuel+1) done f w:=by
 have hr:=of_decide_eq_true hr
 intro a ha
 refine⟨λh0=>(by rw[hr] at h0;cases h0),λk hk=>?_⟩
 rw[hr] at hk
 obtain⟨o,hi,hlt,hw,hd,ho⟩:=h.mem k (by simpa using hk)
 obtain⟨dst,op,ty,pos,after,g⟩:=o
 refine d6 ha hi hw ho λv w' hk=>⟨hk.1,?_⟩
 rw[bT done hlt]
 exact hk.2 _ (ha.put hd v)
theorem cP(i:Nat)(hi:l[i]? =some ⟨dst,op,ty,pos,after,g⟩)(hc:(decide (Region.ready .any l.toArray (bm l.length done)=[i])&&gD n ⟨dst,op,ty,pos,after,g⟩)=true)
   (hw:bK l ⟨dst,op,ty,pos,after,g⟩ f=true)(h:eu P ⟨dst,op,ty,pos,after,g⟩ f w (λv w'=>S w'/\m6 P n l S K fuel (i::done) (dJ f dst v) w')):m6 P n l S K (fuel+1) done f w:=by
 simp only[Bool.and_eq_true] at hc
 exact ka i [] hc.1 ⟨mT i hi hc.2 hw h,trivial⟩
theorem i5(hr:decide (Region.ready .any l.toArray (bm l.length done)=[])=true)(h:K f w):m6 P n l S K 0 done f w:=λ_ ha=>⟨of_decide_eq_true hr,rfl,f,ha,h⟩
end
end TL
namespace TL
open Go
end TL
/-
  TlNet: nets, and what layer 3 says of them, as plain functions.
  By an AI agent.
-/
set_option linter.all false
namespace TL
abbrev aM:=Int×List (Int×Int)
def js(n:Int)(e:Int×Int):Prop:=(0<=e.1/\e.1<n)/\0<=e.2/\e.2<n
instance (n:Int)(e:Int×Int):Decidable (js n e):=by unfold js;infer_instance
def aY(g:aM):Prop:=0<=g.1/\g.1<=1024/\g.2.length<=3072/\∀e∈g.2,js g.1 e
instance (g:aM):Decidable (aY g):=by unfold aY;infer_instance
def bX(g:aM):Bool:=decide (aY g)
theorem ib{g:aM}(h:aY g):bX g=true:=decide_eq_true h
theorem bE{g:aM}(h:¬aY g):bX g=false:=decide_eq_false h
end TL
namespace TL
def cU(n:Int):List Int->List Int->Int
  |[],_=>0
  |i::r,seen=>if i<0\/n<=i then 2 else if i∈seen then 18 else cU n r (seen++[i])
def bu(l:List Int)(n:Int):Int:=cU n l []
theorem fA{α:Type}[Inhabited α]{xs:List α}{k:Nat}(h:(k:Int)<xs.length):xs.drop k=gI xs k::xs.drop (k+1):=by
 have h':k<xs.length:=by omega
 rw[List.drop_eq_getElem_cons h']
 simp[gI,h']
theorem bx{α:Type}[Inhabited α]{xs:List α}{i j:Int}{y:α}(hi:0<=i)(hi':i<xs.length)(hj:0<=j):gI (xs.set i.toNat y) j=if j=i then y else gI xs j:=by
 unfold gI
 by_cases h:j=i
 · subst h
   have:j.toNat<xs.length:=by omega
   simp[this]
 · have:i.toNat≠j.toNat:=by omega
   simp[h,List.getElem?_set_ne this]
theorem ku{α:Type}[Inhabited α]{n:Nat}{x:α}{i:Int}(h0:0<=i)(h1:i<n):gI (List.replicate n x) i=x:=by
 have:i.toNat<n:=by omega
 simp[gI,this]
theorem fg{n:Int}:∀(l seen:List Int),cU n l seen=0->(∀i∈l,0<=i/\i<n)/\l.Nodup/\∀i∈l,i∉seen
 |[],seen,_=>by simp
 |i::r,seen,h=>by
   simp only[cU] at h
   split at h
   · cases h
   · split at h
     · cases h
     · rename_i h1 h2
       obtain⟨a,b,c⟩:=fg r (seen++[i]) h
       refine⟨λj hj=>?_,List.nodup_cons.2 ⟨λhi=>c i hi (by simp),b⟩,λj hj=>?_⟩
       · rcases List.mem_cons.1 hj with rfl|hj
         · omega
         · exact a j hj
       · rcases List.mem_cons.1 hj with rfl|hj
         · exact h2
         · exact λhs=>c j hj (by simp[hs])
theorem kt{n:Int}{l:List Int}(h:bu l n=0):(∀i∈l,0<=i/\i<n)/\l.Nodup:=⟨(fg l [] h).1,(fg l [] h).2.1⟩
def b9(g:aM)(keep:List Int):aM×Int:=
 if aY g then
   if bu keep g.2.length=0 then((g.1,keep.map (gI g.2)),0) else((0,[]),bu keep g.2.length)
 else((0,[]),1)
end TL
namespace TL
end TL
namespace TL
end TL
namespace TL
def aT(g:aM)(h:Int):Int:=pI (gI g.2 (h/2)) (h%2)
def dN(g:aM)(v:Int)(k:Nat):List Int:=((List.range (2*k)).map (λ(i:Nat)=>(i:Int))).filter λh=>decide (aT g h=v)
def cS(g:aM)(v:Int):List Int:=dN g v g.2.length
theorem gy(g:aM)(k:Nat):aT g (2*(k:Int))=(gI g.2 k).1:=by
 unfold aT
 have h1:2*(k:Int)/2=k:=by omega
 have h2:2*(k:Int)%2=0:=by omega
 rw[h1,h2];rfl
theorem ig(g:aM)(k:Nat):aT g (2*(k:Int)+1)=(gI g.2 k).2:=by
 unfold aT
 have h1:(2*(k:Int)+1)/2=k:=by omega
 have h2:(2*(k:Int)+1)%2=1:=by omega
 rw[h1,h2];rfl
theorem kz(g:aM)(v:Int)(k:Nat):dN g v (k+1)=dN g v k++((if(gI g.2 k).1=v then[2*(k:Int)] else[])++(if(gI g.2 k).2=v then[2*(k:Int)+1] else[])):=by
 unfold dN
 rw[show 2*(k+1)=2*k+1+1 by omega,List.range_succ,List.range_succ]
 simp only[List.map_append,List.filter_append,List.map_cons,List.map_nil,List.append_assoc]
 congr 1
 have e1:((2*k:Nat):Int)=2*(k:Int):=by omega
 have e2:((2*k+1:Nat):Int)=2*(k:Int)+1:=by omega
 rw[e1,e2]
 congr 1
 · by_cases h:(gI g.2 (k:Int)).1=v
   · simp[gy,h]
   · simp[gy,h]
 · by_cases h:(gI g.2 (k:Int)).2=v
   · simp[ig,h]
   · simp[ig,h]
theorem lL(g:aM)(v:Int)(k:Nat):(dN g v k).length<=2*k:=by
 unfold dN
 have:=List.length_filter_le (λh=>decide (aT g h=v)) ((List.range (2*k)).map (λ(i:Nat)=>(i:Int)))
 simpa using this
end TL
namespace TL
theorem dB{α:Type}[Inhabited α]{l l':List α}(hl:l.length=l'.length)(h:∀i:Nat,i<l.length->gI l i=gI l' i):l=l':=by
 apply List.ext_getElem hl
 intro i h1 h2
 have:=h i h1
 simpa[gI,h1,h2] using this
end TL
namespace TL
end TL
namespace TL
end TL
namespace TL
section
variable{l0 l1:Int}{F:Int×Int->Int}{g:aM}{k:Nat}
end
end TL
/-
  TlNetLaws: what follows of nets: parts of parts, subs of subs.
  By an AI agent.
-/
set_option linter.all false
namespace TL
theorem fm{n:Int}:∀(l seen:List Int),(∀i∈l,0<=i/\i<n)->l.Nodup->(∀i∈l,i∉seen)->cU n l seen=0
 |[],_,_,_,_=>rfl
 |i::r,seen,h1,h2,h3=>by
   have h4:=h1 i (by simp)
   obtain⟨h5,h6⟩:=List.nodup_cons.1 h2
   simp only[cU]
   rw[if_neg (by omega),if_neg (h3 i (by simp))]
   refine fm r _ (λj hj=>h1 j (by simp[hj])) h6 (λj hj hs=>?_)
   rcases List.mem_append.1 hs with h|h
   · exact h3 j (by simp[hj]) h
   · obtain rfl:=List.mem_singleton.1 h
     exact h5 hj
theorem iR{n:Int}{l:List Int}(h1:∀i∈l,0<=i/\i<n)(h2:l.Nodup):bu l n=0:=fm l [] h1 h2 (by simp)
theorem iC{α β:Type}[Inhabited α][Inhabited β](f:α->β){l:List α}{i:Int}(h0:0<=i)(h1:i<l.length):gI (l.map f) i=f (gI l i):=by
 have:i.toNat<l.length:=by omega
 simp[gI,this]
end TL
/-
  TlNet2: nets copied, renamed, moved, joined, split, merged: what they come to.
  By an AI agent.
-/
set_option linter.all false
namespace TL
end TL
namespace TL
structure cO(l:List Int)(n:Int)(k:Nat):Prop where
  rest:cU n (l.drop k) (l.take k)=bu l n
theorem cO.start(l:List Int)(n:Int):cO l n 0:=⟨by simp[bu]⟩
theorem cO.next{l:List Int}{n:Int}{k:Nat}(h:cO l n k)(hk:(k:Int)<l.length)(h0:0<=gI l k)(h1:gI l k<n)(h2:gI l k∉l.take k):cO l n (k+1):=by
 refine⟨?_⟩
 rw[<-h.rest,fA hk,cM hk]
 simp only[cU]
 rw[if_neg (by omega),if_neg h2]
theorem cO.bad{l:List Int}{n:Int}{k:Nat}(h:cO l n k)(hk:(k:Int)<l.length)(h0:gI l k<0\/n<=gI l k):2=bu l n:=by
 rw[<-h.rest,fA hk]
 simp only[cU]
 rw[if_pos h0]
theorem cO.twice{l:List Int}{n:Int}{k:Nat}(h:cO l n k)(hk:(k:Int)<l.length)(h0:0<=gI l k)(h1:gI l k<n)(h2:gI l k∈l.take k):18=bu l n:=by
 rw[<-h.rest,fA hk]
 simp only[cU]
 rw[if_neg (by omega),if_pos h2]
theorem cO.done{l:List Int}{n:Int}{k:Nat}(h:cO l n k)(hk:¬(k:Int)<l.length):0=bu l n:=by
 rw[<-h.rest,List.drop_eq_nil_of_le (by omega)]
 rfl
theorem jp{l:List Int}{j i:Nat}(hj:j<i)(hi:(i:Int)<l.length):gI l (j:Int)∈l.take i:=by
 have h1:j<l.length:=by omega
 have:gI l (j:Int)=l[j]:=by simp[gI,h1]
 rw[this,List.mem_take_iff_getElem]
 exact⟨j,by omega,rfl⟩
end TL
/-
  TlNetSums: degrees' sum; all edges, all nodes; moved there and back.
  By an AI agent.
-/
set_option linter.all false
namespace TL
def bF(n:Nat):List Int:=(List.range n).map λ(i:Nat)=>(i:Int)
theorem dL(n:Nat):(bF n).length=n:=by simp[bF]
theorem i8(n:Nat):bF (n+1)=bF n++[(n:Int)]:=by simp[bF,List.range_succ]
theorem fD{n:Nat}{x:Int}:x∈bF n↔0<=x/\x<n:=by
 unfold bF
 rw[List.mem_map]
 constructor
 · rintro⟨i,hi,rfl⟩
   have:=List.mem_range.1 hi
   omega
 · rintro⟨h1,h2⟩
   exact⟨x.toNat,List.mem_range.2 (by omega),by omega⟩
theorem gQ(n:Nat):(bF n).Nodup:=by
 induction n with
 |zero=>simp[bF]
 |succ n ih=>
   rw[i8,List.nodup_append]
   refine⟨ih,by simp,λa ha b hb=>?_⟩
   have:=fD.1 ha
   have:=List.mem_singleton.1 hb
   omega
theorem oK{n:Nat}{i:Int}(h0:0<=i)(h1:i<n):gI (bF n) i=i:=by
 have:i.toNat<n:=by omega
 simp[gI,bF,this]
 omega
theorem mS:∀(n:Nat) (l:List Int),l.Nodup->(∀x∈l,0<=x/\x<(n:Int))->l.length<=n
 |0,l,_,h=>by
   cases l with
   |nil=>simp
   |cons a l=>have:=h a (by simp);omega
 |n+1,l,hn,h=>by
   have h1:(l.erase (n:Int)).Nodup:=hn.erase _
   have h2:=mS n (l.erase (n:Int)) h1 (λx hx=>by
     have h3:=hn.mem_erase_iff.1 hx
     have:=h x h3.2
     omega)
   by_cases hm:(n:Int)∈l
   · have:=List.length_erase_of_mem hm
     omega
   · rw[List.erase_of_not_mem hm] at h2
     omega
end TL
/-
  TlRef3: what the document's own answer of layer 3 goes through.
  By an AI agent.
-/
set_option linter.all false
namespace TL
theorem bS{g:aM}(hm:aY g){h:Int}(h0:0<=h)(h1:h<2*(g.2.length:Int)):0<=aT g h/\aT g h<g.1:=by
 have hok:=hm.2.2.2 _ (bh (xs:=g.2) (i:=h/2) (by omega) (by omega))
 unfold js at hok
 unfold aT pI
 split<;>omega
end TL
/-
  TlKeep: rows of an own list given away one by one while the list stays readable; rows with a mark behind each.
  By an AI agent.
-/
set_option linter.all false
namespace TL
open Go
def j3(q i k:Nat):bO->Prop:=λc=>c.1=q\/(c.1=i/\c.2=0)\/c.1=k
theorem bc.l3{L:List Nat}{q i k:Nat}{γ γ':ay}{w w':World}(h:bc (j3 q i k) γ w γ' w')(h1:L.contains q=true)(h2:L.contains i=true)(h3:L.contains k=true):bc (inl L) γ w γ' w':=h.mono λc hc=>by
 unfold inl
 rcases hc with hc|hc|hc
 · rw[hc];exact h1
 · rw[hc.1];exact h2
 · rw[hc];exact h3
section
variable{P:Program}{w:World}{t t':TypeId}{f:Fr}{x y:Operand}{dst:Option Tmp}{ty:TypeId}{pos:String}{after:Array Edge}{g:Option (Nat×Bool)}{N:Value->World->Prop}{α:Type}[Rp α]{γ:ay}{v u:Value}{xss:List (List α)}{l:List α}{i k j:Nat}
end
section
variable{α:Type}[Rp α][Fl α]{γ γ':ay}{w w':World}{v:Value}{us:List Vc}{xss:List (List α)}{i k j q:Nat}
end
inductive Rw where
  |mk (l:List Int) (m:Int)
  |pl (l:List Int)
instance:Inhabited Rw:=⟨.pl []⟩
theorem lG{α:Type}[Rp α]{γ:ay}{S:bO->Prop}{w:World}{v:Value}{xs:List α}{m:α}(h:Sl γ S w (rO v) (xs++[m])):∃a l c,v= .slice a l c:=by
 rcases h with⟨_,h0⟩|⟨b,off,cap,hv,_⟩
 · simp at h0
 · cases v<;>simp[rO] at hv
   exact⟨_,_,_,rfl⟩
def r4(γ:ay)(S:bO->Prop)(w:World)(v:Value):Rw->Prop
  | .mk l m=>Sl γ S w (rO v) (l++[m])
  | .pl l=>Sl γ S w v l
theorem r4.one{γ:ay}{S:bO->Prop}{w:World}{v:Value}{x:Rw}(h:r4 γ S w v x):v.oneCell'=true:=by
 cases x with
 |mk l m=>
   obtain⟨a,b,c,rfl⟩:=lG h
   rfl
 |pl l=>
   rcases h with⟨⟨_,rfl⟩,_⟩|⟨b,off,cap,rfl,_⟩<;>rfl
theorem r4.tr{γ γ':ay}{S S':bO->Prop}{w w':World}{v:Value}{x:Rw}(hsz:w.heap.size<=w'.heap.size)(h:∀b,b<w.heap.size->S (γ b)->w'.heap[b]? =w.heap[b]? /\S' (γ' b))(hx:r4 γ S w v x):r4 γ' S' w' v x:=by
 cases x with
 |mk l m=>exact Sl.tr h hx hsz
 |pl l=>exact Sl.tr h hx hsz
instance:Rp Rw where
 sz:=1
 rep γ S w cs x:=∃v,cs=[v]/\r4 γ S w v x
 len:=by rintro _ _ _ _ _ ⟨v,rfl,_⟩;rfl
 one:=by
   rintro _ _ _ _ _ ⟨v,rfl,h⟩ u hu
   obtain rfl:u=v:=by simpa using hu
   exact h.one
 tr:=by
   rintro _ _ _ _ _ _ _ _ hs h ⟨v,rfl,hv⟩
   exact⟨v,rfl,hv.tr hs h⟩
section
variable{P:Program}{w:World}{t t':TypeId}{f:Fr}{x y:Operand}{dst:Option Tmp}{ty:TypeId}{pos:String}{after:Array Edge}{g:Option (Nat×Bool)}{N:Value->World->Prop}{γ:ay}{v u:Value}{xss:List (List Int)}{l:List Int}{i:Nat}
end
end TL
/-
  TlEq: structs compared; a pointer looked at for nil; a bit turned.
  By an AI agent.
-/
set_option linter.all false
namespace TL
open Go
section
variable{P:Program}{f:Fr}{w:World}{dst:Option Tmp}{ty:TypeId}{pos:String}{after:Array Edge}{g:Option (Nat×Bool)}{t t' e:TypeId}{x y:Operand}
theorem b6{a:Addr}(hx:ev f x= .pointer (some a)):(execOp (ev f) ⟨dst,.nilCheck x,ty,pos,after,g⟩).run P w= .ok (.value (.pointer (some a))) w:=by
 simp only[execOp,hx,Sem.run_pure]
end
end TL
namespace TL
open Go
section
variable{P:Program}{f:Fr}{w:World}{dst:Option Tmp}{ty:TypeId}{pos:String}{after:Array Edge}{g:Option (Nat×Bool)}{t:TypeId}{x:Operand}
end
end TL
namespace TL
open Go
section
variable{P:Program}{f:Fr}{w:World}{dst:Option Tmp}{ty:TypeId}{pos:String}{after:Array Edge}{g:Option (Nat×Bool)}{t t':TypeId}{x y:Operand}{m n:Int}
theorem q5(hx:ev f x= .int .i64 m)(hy:ev f y= .int .i64 n)(hn:0<n)(hm: -4611686018427387904<=m/\m<=4611686018427387904):(execOp (ev f) ⟨dst,.binOp .quo t x y t',ty,pos,after,g⟩).run P w= .ok (.value (.int .i64 (Int.tdiv m n))) w:=by
 refine bt .quo x y hx hy ?_
 have h0:¬n=0:=by omega
 have h1:mK (Int.tdiv m n):=by
   have h2:=Int.natAbs_tdiv_le_natAbs m n
   constructor<;>omega
 simp[binOp,Op.intDiv,h0,eB h1]
end
end TL
namespace TL
open Go
theorem my{f:Fr}{x:Operand}{xs:List Operand}{v:Value}{vs:List Value}(h:ev f x=v)(h2:xs.map (ev f)=vs):(x::xs).map (ev f)=v::vs:=by subst h h2;rfl
end TL
/-
  TlRot: rotations: which may be, turned to their least, faces.
  By an AI agent.
-/
set_option linter.all false
namespace TL
abbrev kg:=List (List Int)
def rr(g:aM)(r:kg):Prop:=(r.length:Int)=g.1/\(∀v:Nat,v<r.length->∀h∈gI r (v:Int),(0<=h/\h<2*(g.2.length:Int))/\aT g h=v)/\r.flatten.Nodup/\(r.flatten.length:Int)=2*g.2.length
instance (g:aM)(r:kg):Decidable (rr g r):=by unfold rr;infer_instance
theorem mm{n:Int}{l:List Int}(h0:0<=n)(hn:l.Nodup)(h:∀x∈l,0<=x/\x<n):(l.length:Int)<=n:=by
 have:=mS n.toNat l hn (λx hx=>by have:=h x hx;omega)
 omega
section
variable{seen:List Bool}{n:Int}{g:aM}{r:kg}{k i:Nat}
end
end TL
namespace TL
end TL
/-
  TlShort: short names for the commonest steps (used by packed claims only).
  By an AI agent.
-/
set_option linter.all false
namespace TL
open Go
abbrev vi(x:Int):Value:=Value.int .i64 x
abbrev vp(b o:Nat):Value:=Value.pointer (some ⟨b,o,none⟩)
abbrev vn:Value:=Value.slice none 0 0
abbrev vt(l:List Value):Value:=Value.tuple (List.toArray l)
abbrev vg(l:List Value):Value:=Value.agg (List.toArray l)
theorem cg(L:List Nat){γ γ':ay}{w w':World}(h:bc (inl L) γ w γ' w'):bc (inl L) γ w γ' w':=h
theorem dt{p:Prop}[Decidable p](h:p):decide p=true:=decide_eq_true h
theorem df{p:Prop}[Decidable p](h:¬p):decide p=false:=decide_eq_false h
section
variable{P:Program}{all rest:List Oper}{K:Fr->World->Prop}{f:Fr}{w w':World}{x:Operand}
variable{dst:Option Tmp}{op:Op}{ty:TypeId}{pos:String}{after:Array Edge}{g:Option (Nat×Bool)}{o:Oper}
theorem lv(v:Value)(hw:bK all ⟨dst,op,ty,pos,after,g⟩ f=true)(h:(execOp (ev f) ⟨dst,op,ty,pos,after,g⟩).run P w= .ok (.value v) w')(hk:eR P all rest K (dJ f dst v) w'):eR P all (⟨dst,op,ty,pos,after,g⟩::rest) K f w:=fU hw h hk
theorem lx{v:Value}(h:(execOp (ev f) ⟨dst,op,ty,pos,after,none⟩).run P w= .ok (.value v) w')(hk:eR P all rest K (dJ f dst v) w'):eR P all (⟨dst,op,ty,pos,after,none⟩::rest) K f w:=fU rfl h hk
theorem lw(v:Value)(h:(execOp (ev f) ⟨dst,op,ty,pos,after,none⟩).run P w= .ok (.value v) w')(hk:eR P all rest K (dJ f dst v) w'):eR P all (⟨dst,op,ty,pos,after,none⟩::rest) K f w:=fU rfl h hk
theorem mv(v:Value)(hk:eR P all rest K (dJ f dst v) w)(h:ev f x=v:=by exact rfl):eR P all (⟨dst,.move x,ty,pos,after,none⟩::rest) K f w:=fU rfl (al h) hk
theorem ma(v:Value)(hk:eR P all rest K (dJ f dst v) w)(h:ev f x=v:=by exact rfl):eR P all (⟨dst,.assign x,ty,pos,after,none⟩::rest) K f w:=fU rfl (aR h) hk
theorem mi(v:Int)(hk:eR P all rest K (dJ f dst (.int .i64 v)) w)(h:ev f x= .int .i64 v:=by exact rfl):eR P all (⟨dst,.move x,ty,pos,after,none⟩::rest) K f w:=fU rfl (al h) hk
theorem ai(v:Int)(hk:eR P all rest K (dJ f dst (.int .i64 v)) w)(h:ev f x= .int .i64 v:=by exact rfl):eR P all (⟨dst,.assign x,ty,pos,after,none⟩::rest) K f w:=fU rfl (aR h) hk
theorem mz{v:Value}(h:ev f x=v)(hk:eR P all rest K (dJ f dst v) w):eR P all (⟨dst,.move x,ty,pos,after,none⟩::rest) K f w:=fU rfl (al h) hk
theorem lo(h:eu P ⟨dst,op,ty,pos,after,none⟩ f w (λv w'=>eR P all rest K (dJ f dst v) w')):eR P all (⟨dst,op,ty,pos,after,none⟩::rest) K f w:=d8 rfl h
theorem wy{j:Nat}{x:Bool}{d:Nat}{b:Bool}(hx:b=x)(hg:o.guard=some (j,x):=by exact rfl)(hj:(all[j]?).bind (·.dst)=some d:=by exact rfl)(hb:f d= .bool b:=by exact rfl):bK all o f=true:=qi hg hj hb hx
theorem wn{j:Nat}{x:Bool}{d:Nat}{b:Bool}(hx:b= !x)(hg:o.guard=some (j,x):=by exact rfl)(hj:(all[j]?).bind (·.dst)=some d:=by exact rfl)(hb:f d= .bool b:=by exact rfl):bK all o f=false:=qd hg hj hb hx
variable{C:World->Prop}{KQ:Fr->Prop}
theorem qv(v:Value)(h:∀w,C w->(execOp (ev f) ⟨dst,op,ty,pos,after,none⟩).run P w= .ok (.value v) w)(hk:gh P all C rest KQ (dJ f dst v)):gh P all C (⟨dst,op,ty,pos,after,none⟩::rest) KQ f:=aB rfl h hk
theorem qx{v:Value}(h:∀w,C w->(execOp (ev f) ⟨dst,op,ty,pos,after,none⟩).run P w= .ok (.value v) w)(hk:gh P all C rest KQ (dJ f dst v)):gh P all C (⟨dst,op,ty,pos,after,none⟩::rest) KQ f:=aB rfl h hk
theorem qm(v:Value)(hk:gh P all C rest KQ (dJ f dst v))(h:ev f x=v:=by exact rfl):gh P all C (⟨dst,.move x,ty,pos,after,none⟩::rest) KQ f:=aB rfl (λ_ _=>al h) hk
theorem qz{v:Value}(h:ev f x=v)(hk:gh P all C rest KQ (dJ f dst v)):gh P all C (⟨dst,.move x,ty,pos,after,none⟩::rest) KQ f:=aB rfl (λ_ _=>al h) hk
end
section
variable{P:Program}{n:Nat}{l:List Oper}{S:World->Prop}{K:Fr->World->Prop}{f:Fr}{w:World}{done:List Nat}{fuel:Nat}{qs:List Nat}
variable{dst:Option Tmp}{op:Op}{ty:TypeId}{pos:String}{after:Array Edge}{g:Option (Nat×Bool)}{v:Value}
theorem ht(i:Nat)(hi:l[i]? =some ⟨dst,op,ty,pos,after,none⟩)(hS:S w)(h:∀w,S w->(execOp (ev f) ⟨dst,op,ty,pos,after,none⟩).run P w= .ok (.value v) w)(hk:m6 P n l S K fuel (i::done) (dJ f dst v) w)(hn:dW l=true:=by kernel_rfl)(hc:(dF l done i&&eO l done i&&gD n ⟨dst,op,ty,pos,after,none⟩)=true:=by kernel_rfl):m6 P n l S K (fuel+1) done f w:=qt i hi hn hc rfl hS h hk
theorem xv(i:Nat)(M:List Nat)(hi:l[i]? =some ⟨dst,op,ty,pos,after,none⟩)(h:(execOp (ev f) ⟨dst,op,ty,pos,after,none⟩).run P w= .ok (.value v) w)(hk:gB P n l qs K fuel (i::done) (dJ f dst v) w)(hn:dW l=true:=by kernel_rfl)(hc:(qs.contains i&&dF l done i&&eO l done i&&j9 l qs done M i&&gD n ⟨dst,op,ty,pos,after,none⟩)=true:=by kernel_rfl):gB P n l qs K (fuel+1) done f w:=r9 i M hi hn hc rfl h hk
theorem xh(i:Nat)(M:List Nat)(hi:l[i]? =some ⟨dst,op,ty,pos,after,none⟩)(h:∀w',cr w.heap.size w w'->(execOp (ev f) ⟨dst,op,ty,pos,after,none⟩).run P w'= .ok (.value v) w')(hk:gB P n l qs K fuel (i::done) (dJ f dst v) w)(hn:dW l=true:=by kernel_rfl)(hc:(qs.contains i&&dF l done i&&eO l done i&&jf l qs done M i&&gD n ⟨dst,op,ty,pos,after,none⟩)=true:=by kernel_rfl):gB P n l qs K (fuel+1) done f w:=qB i M hi hn hc rfl h hk
theorem xp(i:Nat)(hi:l[i]? =some ⟨dst,op,ty,pos,after,none⟩)(h:∀w,(execOp (ev f) ⟨dst,op,ty,pos,after,none⟩).run P w= .ok (.value v) w)(hk:gB P n l qs K fuel (i::done) (dJ f dst v) w)(hn:dW l=true:=by kernel_rfl)(hc:(qs.contains i&&dF l done i&&eO l done i&&gD n ⟨dst,op,ty,pos,after,none⟩)=true:=by kernel_rfl):gB P n l qs K (fuel+1) done f w:=qS i hi hn hc rfl h hk
end
section
variable{γ γ':ay}{w w':World}{v:Value}{j k:Nat}{L:List Nat}
theorem b7.ca{w0:World}(h:b7 w0 γ w)(hc:bc (inl L) γ w γ' w')(hj:L.contains 0=false:=by exact rfl):b7 w0 γ' w':=h.chg hc (cw hj)
theorem b7.ce{w0:World}(h:b7 w0 γ w)(hc:bc (is k) γ w γ' w')(hj:Nat.beq 0 k=false:=by exact rfl):b7 w0 γ' w':=h.chg hc (ed hj)
theorem b7.cn{w0:World}(h:b7 w0 γ w)(hc:bc no γ w γ' w'):b7 w0 γ' w':=h.chg hc (f4 _)
theorem Bx.ca{b:Nat}{cs:List Value}(h:Bx γ (is j) w b cs)(hc:bc (inl L) γ w γ' w')(hj:L.contains j=false:=by exact rfl):Bx γ' (is j) w' b cs:=h.chg hc (cw hj)
theorem Bx.ce{b:Nat}{cs:List Value}(h:Bx γ (is j) w b cs)(hc:bc (is k) γ w γ' w')(hj:Nat.beq j k=false:=by exact rfl):Bx γ' (is j) w' b cs:=h.chg hc (ed hj)
theorem Bx.cn{J:bO->Prop}{b:Nat}{cs:List Value}(h:Bx γ J w b cs)(hc:bc no γ w γ' w'):Bx γ' J w' b cs:=h.chg hc (f4 _)
theorem Sl.ca{α:Type}[Rp α]{xs:List α}(h:Sl γ (is j) w v xs)(hc:bc (inl L) γ w γ' w')(hj:L.contains j=false:=by exact rfl):Sl γ' (is j) w' v xs:=h.chg hc (cw hj)
theorem Sl.ce{α:Type}[Rp α]{xs:List α}(h:Sl γ (is j) w v xs)(hc:bc (is k) γ w γ' w')(hj:Nat.beq j k=false:=by exact rfl):Sl γ' (is j) w' v xs:=h.chg hc (ed hj)
theorem Sl.cn{α:Type}[Rp α]{S:bO->Prop}{xs:List α}(h:Sl γ S w v xs)(hc:bc no γ w γ' w'):Sl γ' S w' v xs:=h.chg hc (f4 _)
theorem Ow.ca{α:Type}[Rp α]{xs:List α}(h:Ow γ (is j) (is j) w v xs)(hc:bc (inl L) γ w γ' w')(hj:L.contains j=false:=by exact rfl):Ow γ' (is j) (is j) w' v xs:=h.chg hc (cw hj) (cw hj)
theorem Ow.ce{α:Type}[Rp α]{xs:List α}(h:Ow γ (is j) (is j) w v xs)(hc:bc (is k) γ w γ' w')(hj:Nat.beq j k=false:=by exact rfl):Ow γ' (is j) (is j) w' v xs:=h.chg hc (ed hj) (ed hj)
theorem Ow.cn{α:Type}[Rp α]{J S:bO->Prop}{xs:List α}(h:Ow γ J S w v xs)(hc:bc no γ w γ' w'):Ow γ' J S w' v xs:=h.chg hc (f4 _) (f4 _)
theorem da.ca{α:Type}[Rp α]{xs:List (List α)}(h:da γ j w v xs)(hc:bc (inl L) γ w γ' w')(hj:L.contains j=false:=by exact rfl):da γ' j w' v xs:=h.chg hc (cw hj)
theorem da.ce{α:Type}[Rp α]{xs:List (List α)}(h:da γ j w v xs)(hc:bc (is k) γ w γ' w')(hj:Nat.beq j k=false:=by exact rfl):da γ' j w' v xs:=h.chg hc (ed hj)
theorem da.cn{α:Type}[Rp α]{xs:List (List α)}(h:da γ j w v xs)(hc:bc no γ w γ' w'):da γ' j w' v xs:=h.chg hc (f4 _)
theorem dG.ca{α:Type}[Rp α]{h0:Nat}{xs:List (List α)}(h:dG γ j h0 w v xs)(hc:bc (inl L) γ w γ' w')(hj:L.contains j=false:=by exact rfl):dG γ' j h0 w' v xs:=h.chg hc (cw hj)
theorem dG.ce{α:Type}[Rp α]{h0:Nat}{xs:List (List α)}(h:dG γ j h0 w v xs)(hc:bc (is k) γ w γ' w')(hj:Nat.beq j k=false:=by exact rfl):dG γ' j h0 w' v xs:=h.chg hc (ed hj)
theorem dG.cn{α:Type}[Rp α]{h0:Nat}{xs:List (List α)}(h:dG γ j h0 w v xs)(hc:bc no γ w γ' w'):dG γ' j h0 w' v xs:=h.chg hc (f4 _)
def rZ(δ g:ay)(w:World)(ren:Nat->Nat):Prop:=(∀{α:Type} [Rp α] {i:Nat} {v:Value} {xs:List α},Ow δ (is i) (is i) w v xs->∀k:Nat,Nat.beq i 0=false->ren i=k->Ow g (is k) (is k) w v xs)/\(∀{α:Type} [Rp α] {i:Nat} {v:Value} {xs:List (List α)},da δ i w v xs->∀k:Nat,Nat.beq i 0=false->ren i=k->da g k w v xs)
theorem ky{δ:ay}(γ:ay)(fr:eQ w δ w')(ren:Nat->Nat):∃g,bc no γ w g w'/\rZ δ g w' ren:=
 ⟨_,mj fr.below γ δ ren,λh k hi hr=>h.glue fr.col hi hr,λh k hi hr=>h.glue fr.col hi hr⟩
theorem Ow.gl{α:Type}[Rp α]{δ g:ay}{ren:Nat->Nat}{i:Nat}{xs:List α}(h:Ow δ (is i) (is i) w v xs)(G:rZ δ g w ren)(k:Nat)(hi:Nat.beq i 0=false:=by exact rfl)(hr:ren i=k:=by exact rfl):Ow g (is k) (is k) w v xs:=G.1 h k hi hr
theorem da.gl{α:Type}[Rp α]{δ g:ay}{ren:Nat->Nat}{i:Nat}{xs:List (List α)}(h:da δ i w v xs)(G:rZ δ g w ren)(k:Nat)(hi:Nat.beq i 0=false:=by exact rfl)(hr:ren i=k:=by exact rfl):da g k w v xs:=G.2 h k hi hr
end
end TL
/-
  TlGeom: points with whole coordinates: turns, segments, how they meet.
  By an AI agent.
-/
set_option linter.all false
namespace TL
abbrev Pt:=Int×Int
def pC(x y:Int):Int:=if x<y then-1 else if y<x then 1 else 0
def rN(a b:Pt):Int:=a.1*b.2-a.2*b.1
def r7(b a:Pt):Pt:=(b.1-a.1,b.2-a.2)
def lP(a b c:Pt):Int:=pC (rN (r7 b a) (r7 c a)) 0
def qX(a b p:Pt):Prop:=(min a.1 b.1<=p.1/\p.1<=max a.1 b.1)/\min a.2 b.2<=p.2/\p.2<=max a.2 b.2
instance (a b p:Pt):Decidable (qX a b p):=by unfold qX;infer_instance
def mh(a b p:Pt):Prop:=lP a b p=0/\qX a b p
instance (a b p:Pt):Decidable (mh a b p):=by unfold mh;infer_instance
def jN(a b:Pt):Int:=if pC a.1 b.1≠0 then pC a.1 b.1 else pC a.2 b.2
def rE(a b c d:Pt):Int:=
 let a':=if 0<jN a b then b else a
 let b':=if 0<jN a b then a else b
 let c':=if 0<jN c d then d else c
 let d':=if 0<jN c d then c else d
 let low:=if 0<jN c' a' then c' else a'
 let high:=if jN d' b'<0 then d' else b'
 if 0<jN low high then 0 else if jN low high=0 then 2 else 3
def eU(a b c d:Pt):Int:=
 if lP a b c=0/\lP a b d=0/\lP c d a=0/\lP c d b=0 then rE a b c d
 else if lP a b c*lP a b d<0/\lP c d a*lP c d b<0 then 1
 else if mh a b c\/mh a b d\/mh c d a\/mh c d b then 2 else 0
def hX(p:Pt):Int:=p.1*1073741824+p.2
end TL
namespace TL
def rS(p:Pt):Prop:=(-1048576<=p.1/\p.1<=1048576)/\ -1048576<=p.2/\p.2<=1048576
instance (p:Pt):Decidable (rS p):=by unfold rS;infer_instance
def s3(ps:List Pt):Prop:=ps.length<=4096/\∀p∈ps,rS p
instance (ps:List Pt):Decidable (s3 ps):=by unfold s3;infer_instance
def lm(p:Pt):Int:=if 0<p.1\/p.1=0/\0<p.2 then 0 else 1
section
variable{a b c d:Pt}
end
end TL
/-
  TlGeomR: what is told of many points: areas, boxes, whether a polyline is simple.
  By an AI agent.
-/
set_option linter.all false
namespace TL
def j4(ps:List Pt):Prop:=4<=(ps.length:Int)/\gI ps 0=gI ps ((ps.length:Int)-1)
instance (ps:List Pt):Decidable (j4 ps):=by unfold j4;infer_instance
def li(ps:List Pt)(i k:Nat):Prop:=k=i+1\/i=0/\(k:Int)=(ps.length:Int)-2/\j4 ps
instance (ps:List Pt)(i k:Nat):Decidable (li ps i k):=by unfold li;infer_instance
def s9(ps:List Pt)(i k:Nat):Int:=eU (gI ps (i:Int)) (gI ps ((i:Int)+1)) (gI ps (k:Int)) (gI ps ((k:Int)+1))
def qa(ps:List Pt)(i k:Nat):Prop:=li ps i k/\s9 ps i k=3\/¬li ps i k/\s9 ps i k≠0
instance (ps:List Pt)(i k:Nat):Decidable (qa ps i k):=by unfold qa;infer_instance
def qF(ps:List Pt)(i:Nat):Prop:=gI ps (i:Int)≠gI ps ((i:Int)+1)/\∀k<ps.length,i<k->(k:Int)<=(ps.length:Int)-2->¬qa ps i k
instance (ps:List Pt)(i:Nat):Decidable (qF ps i):=by unfold qF;infer_instance
def rj(ps:List Pt):Prop:=∀i<ps.length,(i:Int)<=(ps.length:Int)-2->qF ps i
instance (ps:List Pt):Decidable (rj ps):=by unfold rj;infer_instance
section
variable{ps:List Pt}
variable{i k:Nat}
end
end TL
/-
  TlConv: whole numbers turned to another kind, a string's byte, functions that bear values.
  By an AI agent.
-/
set_option linter.all false
namespace TL
open Go
section
variable{P:Program}{w:World}{f:Fr}{dst:Option Tmp}{ty:TypeId}{pos:String}{after:Array Edge}{g:Option (Nat×Bool)}{x y:Operand}{s d t:TypeId}{m:Int}{k k0:IntKind}
theorem iS{us:TypeDesc}(hs:P.underlying s=some us)(hd:P.underlying d=some (.int k))(hx:ev f x= .int k0 m)(hw:k.wrap m=m):(execOp (ev f) ⟨dst,.convert s d x,ty,pos,after,g⟩).run P w= .ok (.value (.int k m)) w:=by
 simp[execOp,convert,hx,aD hs,aD hd,Conv.intToInt,hw]
theorem jm{i r:Int}{b:UInt8}{str:ByteArray}(ht:P.underlying t=some .string)(hx:ev f x= .string str)(hy:ev f y= .int k i)(h0:0<=i)(hb:str[i.toNat]? =some b)(hr:(b.toNat:Int)=r):(execOp (ev f) ⟨dst,.index t x y,ty,pos,after,g⟩).run P w= .ok (.value (.int .u8 r)) w:=by
 simp[execOp,Instr.index,asIntOf,hx,hy,aD ht,h0,hb,hr]
theorem ke{fid:Nat}{cs:List Operand}{vals:List Value}(h:cs.map (ev f)=vals):(execOp (ev f) ⟨dst,.makeFunc (.func fid) #[] cs.toArray,ty,pos,after,g⟩).run P w= .ok (.value (.func (.func fid) #[] vals.toArray)) w:=by
 have h:cs.toArray.map (ev f)=vals.toArray:=by rw[<-h];simp
 simp[execOp,Instr.makeFunc,h]
end
end TL
namespace TL
open Go
section
variable{P:Program}{w:World}{f:Fr}{dst:Option Tmp}{ty:TypeId}{pos:String}{after:Array Edge}{g:Option (Nat×Bool)}{x y:Operand}{t t':TypeId}
end
end TL
namespace TL
open Go
section
variable{P:Program}{w:World}{f:Fr}{dst:Option Tmp}{ty:TypeId}{pos:String}{after:Array Edge}{g:Option (Nat×Bool)}{x y:Operand}{t t':TypeId}
end
end TL
/-
  TlGeomM: meeting segments: moved, turned, named another way about; what ends they share.
  By an AI agent.
-/
set_option linter.all false
namespace TL
section
variable{a b c d:Pt}
def jz(a b c d e:Pt):Prop:=mh a b e/\mh c d e
instance (a b c d e:Pt):Decidable (jz a b c d e):=by unfold jz;infer_instance
def mq(a b c d:Pt):Prop:=lP a b c*lP a b d<0/\lP c d a*lP c d b<0
instance (a b c d:Pt):Decidable (mq a b c d):=by unfold mq;infer_instance
end
end TL
/-
  TlGeomS: polylines gone back, and two of them named the other way about.
  By an AI agent.
-/
set_option linter.all false
namespace TL
abbrev Sg:=Pt×Pt
def n5(ps:List Pt):Nat->List Sg
 |0=>[]
 |k+1=>n5 ps k++[(gI ps (k:Int),gI ps ((k:Int)+1))]
def oI(ps:List Pt):List Sg:=if ps.length=1 then[(gI ps 0,gI ps 0)] else n5 ps (ps.length-1)
def pT(ps:List Pt):Pt:=gI ps ((ps.length:Int)-1)
def pZ(ps:List Pt)(p:Pt):Prop:=p=gI ps 0\/p=pT ps
instance (ps:List Pt)(p:Pt):Decidable (pZ ps p):=by unfold pZ;infer_instance
def nU(q:List Pt)(s t:Sg)(x:Pt):Prop:=pZ q x/\mh s.1 s.2 x/\mh t.1 t.2 x
instance (q:List Pt)(s t:Sg)(x:Pt):Decidable (nU q s t x):=by unfold nU;infer_instance
def mF(p q:List Pt)(s t:Sg):Prop:=nU q s t (gI p 0)\/nU q s t (pT p)
instance (p q:List Pt)(s t:Sg):Decidable (mF p q s t):=by unfold mF;infer_instance
def qO(p q:List Pt)(s t:Sg):Prop:=eU s.1 s.2 t.1 t.2=3\/eU s.1 s.2 t.1 t.2≠0/\¬mF p q s t
instance (p q:List Pt)(s t:Sg):Decidable (qO p q s t):=by unfold qO;infer_instance
def rD(p q:List Pt):Prop:=∀s∈oI p,∀t∈oI q,¬qO p q s t
instance (p q:List Pt):Decidable (rD p q):=by unfold rD;infer_instance
section
variable{p q:List Pt}
end
end TL
namespace TL
section
variable{p q:List Pt}{i k:Nat}
variable{s t:Sg}
end
end TL
namespace TL
section
variable{p q:List Pt}{s t:Sg}{i:Nat}
end
end TL
/-
  TlGeomX: polylines: the document's way and the code's.
  By an AI agent.
-/
set_option linter.all false
namespace TL
section
variable{a b c d:Pt}
end
section
variable{ps:List Pt}{i k:Nat}
end
def rU(but:List Pt)(s t:Sg):Prop:=eU s.1 s.2 t.1 t.2=3\/(eU s.1 s.2 t.1 t.2=1/\¬∃x∈but,jz s.1 s.2 t.1 t.2 x)\/((eU s.1 s.2 t.1 t.2≠0/\eU s.1 s.2 t.1 t.2≠1)/\∃e∈[s.1,s.2,t.1,t.2],jz s.1 s.2 t.1 t.2 e/\e∉but)
instance (but:List Pt)(s t:Sg):Decidable (rU but s t):=by unfold rU;infer_instance
def rp(p q but:List Pt):Prop:=∃s∈oI p,∃t∈oI q,rU but s t
instance (p q but:List Pt):Decidable (rp p q but):=by unfold rp;infer_instance
section
variable{p q B:List Pt}
end
end TL
namespace TL
section
variable{p q but:List Pt}{i k:Nat}
variable{s t:Sg}
end
end TL
/-
  TlAround: points round another one: the order, its laws, the list that is sorted by it.
  By an AI agent.
-/
set_option linter.all false
namespace TL
def rL(p:Pt):Int:=p.1*p.1+p.2*p.2
def sh(a b:Pt)(i k:Int):Prop:=lm a<lm b\/lm a=lm b/\(rN a b<0\/rN a b=0/\(rL a<rL b\/rL a=rL b/\i<k))
def vA(o:Pt)(ps:List Pt)(i:Int):Pt:=r7 (gI ps i) o
def sc(o:Pt)(ps:List Pt)(i k:Int):Prop:=sh (vA o ps i) (vA o ps k) i k
def sd(o:Pt)(ps:List Pt)(k:Nat)(l:List Int):Prop:=l.Pairwise (sc o ps)/\∀x,x∈l↔0<=x/\x<(k:Int)
section
variable{o:Pt}{ps:List Pt}{k:Nat}{l l':List Int}
open Classical in
noncomputable def arL (o:Pt) (ps:List Pt):List Int:=if h:∃l,sd o ps ps.length l then choose h else[]
end
section
variable{o:Pt}{ps:List Pt}{k:Nat}{l:List Int}{q:Int}
end
section
variable{o:Pt}{ps:List Pt}
end
end TL
/-
  TlFace: half-edges' next ones, faces.
  By an AI agent.
-/
set_option linter.all false
namespace TL
end TL
namespace TL
structure dE(s s0:List Int)(i:Nat)(j:Int):Prop where
  len:s.length=s0.length
  jj:j=(s0.length:Int)-1-i
  out:∀q:Nat,q<s0.length->(q<i\/j<q)->gI s (q:Int)=gI s0 ((s0.length:Int)-1-q)
  mid:∀q:Nat,i<=q->(q:Int)<=j->gI s (q:Int)=gI s0 (q:Int)
theorem dE.start(s0:List Int):dE s0 s0 0 ((s0.length:Int)-1):=⟨rfl,by omega,λq hq h=>by omega,λq _ _=>rfl⟩
theorem dE.next{s s0:List Int}{i:Nat}{j:Int}(h:dE s s0 i j)(hij:(i:Int)<j):dE ((s.set (i:Int).toNat (gI s j)).set j.toNat (gI s (i:Int))) s0 (i+1) (j-1):=by
 have hl:=h.len
 have hj:=h.jj
 have e1:=h.mid i (Nat.le_refl _) (by omega)
 have e2:=h.mid j.toNat (by omega) (by omega)
 rw[show((j.toNat:Nat):Int)=j by omega] at e2
 refine⟨by simpa using hl,by omega,λq hq hh=>?_,λq h1 h2=>?_⟩
 · rw[bx (by omega) (by simp;omega) (by omega),bx (by omega) (by omega) (by omega)]
   by_cases c1:(q:Int)=j
   · rw[if_pos c1,e1];congr 1;omega
   · by_cases c2:(q:Int)=i
     · rw[if_neg c1,if_pos c2,e2];congr 1;omega
     · rw[if_neg c1,if_neg c2];exact h.out q hq (by omega)
 · rw[bx (by omega) (by simp;omega) (by omega),bx (by omega) (by omega) (by omega),if_neg (by omega),if_neg (by omega)]
   exact h.mid q (by omega) (by omega)
theorem dE.done{s s0:List Int}{i:Nat}{j:Int}(h:dE s s0 i j)(hij:¬(i:Int)<j):s=s0.reverse:=by
 have hl:=h.len
 have hj:=h.jj
 apply dB
 · simpa using hl
 · intro q hq
   have hr:gI s0.reverse (q:Int)=gI s0 ((s0.length:Int)-1-q):=by
     have hq':q<s0.length:=by omega
     have e:((s0.length:Int)-1-q).toNat=s0.length-1-q:=by omega
     have e2:s0.length-1-q<s0.length:=by omega
     simp[gI,hq',e,e2,List.getElem?_reverse hq']
   rw[hr]
   by_cases c:q<i\/j<(q:Int)
   · exact h.out q (by omega) c
   · rw[h.mid q (by omega) (by omega)];congr 1;omega
structure c7(out:List (List Int))(g:aM)(k:Nat):Prop where
  len:(out.length:Int)=g.1
  at_:∀v,0<=v->v<g.1->gI out v=dN g v k
theorem c7.start{g:aM}(h:0<=g.1):c7 (List.replicate g.1.toNat []) g 0:=⟨by simp;omega,λv h0 h1=>by rw[ku h0 (by omega)];simp[dN]⟩
theorem c7.next{out:List (List Int)}{g:aM}{k:Nat}(h:c7 out g k)(h1:0<=(gI g.2 k).1)(h2:(gI g.2 k).1<g.1)(h3:0<=(gI g.2 k).2)(h4:(gI g.2 k).2<g.1){a b:Int}(ha:a=2*(k:Int))(hb:b=2*(k:Int)+1):
   c7 ((out.set (gI g.2 k).1.toNat (gI out (gI g.2 k).1++[a])).set (gI g.2 k).2.toNat (gI (out.set (gI g.2 k).1.toNat (gI out (gI g.2 k).1++[a])) (gI g.2 k).2++[b])) g (k+1):=by
 have hl:=h.len
 refine⟨by simpa using hl,λv h5 h6=>?_⟩
 rw[bx h3 (by simp;omega) h5,bx h1 (by omega) h3,bx h1 (by omega) h5,kz,h.at_ _ h1 h2,h.at_ _ h3 h4,h.at_ v h5 h6,ha,hb]
 by_cases e2:v=(gI g.2 (k:Int)).2
 · by_cases e1:v=(gI g.2 (k:Int)).1
   · rw[<-e1,<-e2];simp
   · have e3:¬(gI g.2 (k:Int)).2=(gI g.2 (k:Int)).1:=λh=>e1 (e2.trans h)
     have e6:¬(gI g.2 (k:Int)).1=(gI g.2 (k:Int)).2:=λh=>e3 h.symm
     simp[e2,e3,e6]
 · have e4:¬(gI g.2 (k:Int)).2=v:=λh=>e2 h.symm
   by_cases e1:v=(gI g.2 (k:Int)).1
   · rw[if_neg e2,if_pos e1,if_neg e4,if_pos e1.symm,<-e1];simp
   · have e5:¬(gI g.2 (k:Int)).1=v:=λh=>e1 h.symm
     rw[if_neg e2,if_neg e1,if_neg e4,if_neg e5];simp
end TL
namespace TL
end TL
/-
  TlWalk: going through a net breadth first, and its components, as the program does.
  By an AI agent.
-/
set_option linter.all false
namespace TL
def cA(g:aM)(h:Int):Int:=pI (gI g.2 (h/2)) (1-h%2)
theorem fN{g:aM}(hm:aY g){h:Int}(h0:0<=h)(h1:h<2*(g.2.length:Int)):0<=cA g h/\cA g h<g.1:=by
 have hok:=hm.2.2.2 _ (bh (xs:=g.2) (i:=h/2) (by omega) (by omega))
 unfold js at hok
 unfold cA pI
 split<;>omega
structure Bf where
 order:List Int
 by_:List Int
 far:List Int
def cF(g:aM)(v:Int)(s:Bf)(h:Int):Bf:=
 if gI s.far (cA g h)<0 then⟨s.order++[cA g h],s.by_.set (cA g h).toNat h,s.far.set (cA g h).toNat (gI s.far v+1)⟩ else s
def dY(g:aM)(v:Int)(s:Bf):Bf:=(cS g v).foldl (cF g v) s
def je(g:aM):Nat->Nat->Bf->Bf
 |0,_,s=>s
 |n+1,i,s=>if i<s.order.length then je g n (i+1) (dY g (gI s.order (i:Int)) s) else s
def cj(g:aM)(s0:Int):Bf:=⟨[s0],List.replicate g.1.toNat (-1),(List.replicate g.1.toNat (-1)).set s0.toNat 0⟩
def aK(g:aM)(s0:Int):Bf:=je g g.1.toNat 0 (cj g s0)
structure fF(g:aM)(s:Bf):Prop where
 far:(s.far.length:Int)=g.1
 by_:(s.by_.length:Int)=g.1
 nodup:s.order.Nodup
 rng:∀x∈s.order,0<=x/\x<g.1
 iff:∀w,0<=w->w<g.1->(gI s.far w<0↔w∉s.order)
 le:∀w,0<=w->w<g.1->gI s.far w<=s.order.length
theorem fF.start{g:aM}{s0:Int}(h0:0<=s0)(h1:s0<g.1):fF g (cj g s0):=by
 refine⟨by simp[cj];omega,by simp[cj];omega,by simp[cj],by simp[cj];omega,λw hw0 hw1=>?_,λw hw0 hw1=>?_⟩
 · simp only[cj]
   rw[bx h0 (by simp;omega) hw0]
   by_cases e:w=s0
   · subst e;simp
   · rw[if_neg e,ku hw0 (by omega)];simp[e]
 · simp only[cj]
   rw[bx h0 (by simp;omega) hw0]
   by_cases e:w=s0
   · subst e;simp
   · rw[if_neg e,ku hw0 (by omega)];simp
theorem fF.len{g:aM}{s:Bf}(h:fF g s)(hg:0<=g.1):(s.order.length:Int)<=g.1:=mm hg h.nodup h.rng
theorem fF.one{g:aM}{s:Bf}{v h:Int}(hs:fF g s)(hv:v∈s.order)(h0:0<=cA g h)(h1:cA g h<g.1):fF g (cF g v s h):=by
 obtain⟨hv0,hv1⟩:=hs.rng v hv
 unfold cF
 by_cases c:gI s.far (cA g h)<0
 · rw[if_pos c]
   have hn:=(hs.iff _ h0 h1).1 c
   have hf:=hs.far
   have hlv:=hs.le v hv0 hv1
   refine⟨by simpa using hs.far,by simpa using hs.by_,?_,λx hx=>?_,λw hw0 hw1=>?_,λw hw0 hw1=>?_⟩
   · rw[List.nodup_append]
     refine⟨hs.nodup,by simp,λa ha b hb=>?_⟩
     obtain rfl:=List.mem_singleton.1 hb
     intro e;subst e;exact hn ha
   · rcases List.mem_append.1 hx with hx|hx
     · exact hs.rng x hx
     · obtain rfl:=List.mem_singleton.1 hx;exact⟨h0,h1⟩
   · simp only
     rw[bx h0 (by omega) hw0]
     by_cases e:w=cA g h
     · subst e
       rw[if_pos rfl]
       have hx:¬gI s.far v<0:=λhh=>(hs.iff v hv0 hv1).1 hh hv
       constructor
       · intro hh;omega
       · intro hh;simp at hh
     · rw[if_neg e,hs.iff w hw0 hw1];simp[e]
   · simp only
     rw[bx h0 (by omega) hw0]
     by_cases e:w=cA g h
     · subst e;rw[if_pos rfl];simp;omega
     · rw[if_neg e]
       have:=hs.le w hw0 hw1
       simp;omega
 · rw[if_neg c];exact hs
end TL
namespace TL
theorem gj{g:aM}{v h:Int}(hh:h∈cS g v):(0<=h/\h<2*(g.2.length:Int))/\aT g h=v:=by
 unfold cS dN at hh
 obtain⟨h1,h2⟩:=List.mem_filter.1 hh
 obtain⟨k,hk,rfl⟩:=List.mem_map.1 h1
 have:=List.mem_range.1 hk
 exact⟨by omega,by simpa using h2⟩
theorem lM(g:aM)(v:Int)(s:Bf)(h:Int):∃t,(cF g v s h).order=s.order++t:=by
 unfold cF
 split
 · exact⟨_,rfl⟩
 · exact⟨[],by simp⟩
structure bW(s:Bf)(g:aM)(s0:Bf)(v:Int)(j:Nat):Prop where
  eq:s=((cS g v).take j).foldl (cF g v) s0
  ok:fF g s
  mem:v∈s.order
  pre:∃t,s.order=s0.order++t
theorem bW.start{g:aM}{s0:Bf}{v:Int}(h:fF g s0)(hv:v∈s0.order):bW s0 g s0 v 0:=⟨rfl,h,hv,[],by simp⟩
theorem bW.next{s s0:Bf}{g:aM}{v:Int}{j:Nat}(h:bW s g s0 v j)(hm:aY g)(hj:(j:Int)<(cS g v).length):bW (cF g v s (gI (cS g v) (j:Int))) g s0 v (j+1):=by
 have hin:=(gj (bh (xs:=cS g v) (i:=(j:Int)) (by omega) hj)).1
 have ht:=fN hm hin.1 hin.2
 obtain⟨t,ht2⟩:=h.pre
 obtain⟨t',ht3⟩:=lM g v s (gI (cS g v) (j:Int))
 refine⟨by rw[cM hj,List.foldl_append,<-h.eq];rfl,h.ok.one h.mem ht.1 ht.2,by rw[ht3];simp[h.mem],t++t',by rw[ht3,ht2,List.append_assoc]⟩
theorem bW.done{s s0:Bf}{g:aM}{v:Int}{j:Nat}(h:bW s g s0 v j)(hj:¬(j:Int)<(cS g v).length):s=dY g v s0:=by
 rw[h.eq,List.take_of_length_le (by omega)];rfl
structure dc(s:Bf)(g:aM)(s0:Int)(i:Nat):Prop where
  ok:fF g s
  le:(i:Int)<=s.order.length
  eq:je g (g.1.toNat-i) i s=aK g s0
theorem dc.start{g:aM}{s0:Int}(h0:0<=s0)(h1:s0<g.1):dc (cj g s0) g s0 0:=⟨fF.start h0 h1,by omega,rfl⟩
theorem dc.next{s s':Bf}{g:aM}{s0:Int}{i j:Nat}(h:dc s g s0 i)(hg:0<=g.1)(hi:(i:Int)<s.order.length)(hr:bW s' g s (gI s.order (i:Int)) j)(hj:¬(j:Int)<(cS g (gI s.order (i:Int))).length):dc s' g s0 (i+1):=by
 obtain⟨t,ht⟩:=hr.pre
 have hl:=h.ok.len hg
 refine⟨hr.ok,by rw[ht];simp;omega,?_⟩
 rw[<-h.eq,show g.1.toNat-i=(g.1.toNat-(i+1))+1 by omega]
 simp only[je]
 rw[if_pos (by omega),hr.done hj]
theorem dc.done{s:Bf}{g:aM}{s0:Int}{i:Nat}(h:dc s g s0 i)(hi:¬(i:Int)<s.order.length):s=aK g s0:=by
 rw[<-h.eq]
 cases g.1.toNat-i with
 |zero=>rfl
 |succ n=>simp only[je];rw[if_neg (by omega)]
end TL
namespace TL
theorem lD{k n:Nat}{x:Int}(hk:k<n):(List.replicate k x++List.replicate (n-k) 0).set (k:Int).toNat x=List.replicate (k+1) x++List.replicate (n-(k+1)) (0:Int):=by
 have e:n-k=(n-(k+1))+1:=by omega
 rw[e,List.replicate_succ]
 simp only[Int.toNat_natCast]
 rw[List.set_append_right _ _ (by simp)]
 simp only[List.length_replicate,Nat.sub_self,List.set_cons_zero]
 rw[List.replicate_succ']
 simp
theorem c7.rl{out:List (List Int)}{g:aM}{k:Nat}(h:c7 out g k){v:Int}(h0:0<=v)(h1:v<g.1):((gI out v).length:Int)<=2*(k:Int):=by
 rw[h.at_ v h0 h1]
 have:=lL g v k
 omega
theorem c7.rl2{out:List (List Int)}{g:aM}{k:Nat}(h:c7 out g k){u v:Int}(h2:0<=u)(h3:u<g.1)(h0:0<=v)(h1:v<g.1)(a:Int):((gI (out.set u.toNat (gI out u++[a])) v).length:Int)<=2*(k:Int)+1:=by
 have hl:=h.len
 rw[bx h2 (by omega) h0]
 split
 · have:=h.rl h2 h3;simp;omega
 · have:=h.rl h0 h1;omega
theorem c7.done{out:List (List Int)}{g:aM}{k:Nat}(h:c7 out g k)(hk:k=g.2.length):∀v,0<=v->v<g.1->gI out v=cS g v:=λv h0 h1=>by
 subst hk;exact h.at_ v h0 h1
theorem bW.yes{O B F:List Int}{s0:Bf}{g:aM}{v h:Int}{j:Nat}(hr:bW ⟨O,B,F⟩ g s0 v j)(hm:aY g)(hj:(j:Int)<(cS g v).length)(hh:h=gI (cS g v) (j:Int))(c:gI F (cA g h)<0):bW ⟨O++[cA g h],B.set (cA g h).toNat h,F.set (cA g h).toNat (gI F v+1)⟩ g s0 v (j+1):=by
 have h1:=hr.next hm hj
 rw[<-hh] at h1
 unfold cF at h1
 rw[if_pos (show gI (Bf.mk O B F).far (cA g h)<0 from c)] at h1
 exact h1
theorem bW.no{O B F:List Int}{s0:Bf}{g:aM}{v h:Int}{j:Nat}(hr:bW ⟨O,B,F⟩ g s0 v j)(hm:aY g)(hj:(j:Int)<(cS g v).length)(hh:h=gI (cS g v) (j:Int))(c:¬gI F (cA g h)<0):bW ⟨O,B,F⟩ g s0 v (j+1):=by
 have h1:=hr.next hm hj
 rw[<-hh] at h1
 unfold cF at h1
 rw[if_neg (show¬gI (Bf.mk O B F).far (cA g h)<0 from c)] at h1
 exact h1
theorem bW.facts{O B F:List Int}{s0:Bf}{g:aM}{v:Int}{j:Nat}(hr:bW ⟨O,B,F⟩ g s0 v j)(hg:0<=g.1):(F.length:Int)=g.1/\(B.length:Int)=g.1/\(O.length:Int)<=g.1/\(0<=v/\v<g.1)/\gI F v<=O.length/\¬gI F v<0:=by
 have h1:=hr.ok
 have hv:=h1.rng v hr.mem
 exact⟨h1.far,h1.by_,h1.len hg,hv,h1.le v hv.1 hv.2,λhh=>(h1.iff v hv.1 hv.2).1 hh hr.mem⟩
theorem dc.facts{O B F:List Int}{g:aM}{s0:Int}{i:Nat}(hr:dc ⟨O,B,F⟩ g s0 i)(hg:0<=g.1):(F.length:Int)=g.1/\(B.length:Int)=g.1/\(O.length:Int)<=g.1/\(i:Int)<=O.length:=⟨hr.ok.far,hr.ok.by_,hr.ok.len hg,hr.le⟩
theorem dc.node{O B F:List Int}{g:aM}{s0:Int}{i:Nat}(hr:dc ⟨O,B,F⟩ g s0 i)(hi:(i:Int)<O.length):0<=gI O (i:Int)/\gI O (i:Int)<g.1:=hr.ok.rng _ (bh (by omega) hi)
theorem dc.row{O B F:List Int}{g:aM}{s0:Int}{i:Nat}(hr:dc ⟨O,B,F⟩ g s0 i)(hi:(i:Int)<O.length):bW ⟨O,B,F⟩ g ⟨O,B,F⟩ (gI O (i:Int)) 0:=bW.start hr.ok (bh (by omega) hi)
end TL
namespace TL
end TL
namespace TL
end TL
/-
  TlRot2: rotations: faces of half-edges, first ones, parts, moved ones.
  By an AI agent.
-/
set_option linter.all false
namespace TL
def af(g:aM):kg:=(List.range g.1.toNat).map λ(v:Nat)=>cS g (v:Int)
theorem c7.first{out:kg}{g:aM}{k:Nat}(h:c7 out g k)(hk:k=g.2.length):out=af g:=by
 have hl:=h.len
 apply dB
 · simp[af];omega
 · intro i hi
   rw[h.done hk _ (by omega) (by omega)]
   have:i<g.1.toNat:=by omega
   simp[af,gI,this]
end TL
/-
  TlJudge: plots: their flaws, as the code and the document gather them.
  By an AI agent.
-/
set_option linter.all false
namespace TL
abbrev sj:=Int×Int×Int
abbrev hF:=List Pt×List (List Pt)
section
variable{β:Type}{f h:Nat->List β}{k n:Nat}{x:β}{F B:List β}
end
section
variable{β:Type}{p:Prop}[Decidable p]{x:β}
end
def s8(l:List Pt):Prop:=2<=(l.length:Int)/\s3 l
instance (l:List Pt):Decidable (s8 l):=by unfold s8;infer_instance
def pM(g:aM)(p:hF)(e:Int):Prop:=gI (gI p.2 e) 0=gI p.1 (gI g.2 e).1/\gI (gI p.2 e) (((gI p.2 e).length:Int)-1)=gI p.1 (gI g.2 e).2
instance (g:aM)(p:hF)(e:Int):Decidable (pM g p e):=by unfold pM;infer_instance
def pQ(l:List Pt)(q:Pt):Prop:=∃s∈n5 l (l.length-1),mh s.1 s.2 q
instance (l:List Pt)(q:Pt):Decidable (pQ l q):=by unfold pQ;infer_instance
def mL(s t:Sg)(but:List Pt):Prop:=eU s.1 s.2 t.1 t.2=0\/(eU s.1 s.2 t.1 t.2=1\/eU s.1 s.2 t.1 t.2=2)/\∃x∈but,jz s.1 s.2 t.1 t.2 x
instance (s t:Sg)(but:List Pt):Decidable (mL s t but):=by unfold mL;infer_instance
def rv(a b but:List Pt):Prop:=∀s∈n5 a (a.length-1),∀t∈n5 b (b.length-1),mL s t but
instance (a b but:List Pt):Decidable (rv a b but):=by unfold rv;infer_instance
section
variable{g:aM}{p:hF}
end
end TL
namespace TL
section
variable{l:List Pt}{p:Pt}{i:Nat}
end
section
variable{a b c d:Pt}{but:List Pt}{k:Nat}{m:Int}
end
def rQ(p:hF)(h:Int):Pt:=if h%2=0 then gI (gI p.2 (h/2)) 1 else gI (gI p.2 (h/2)) (((gI p.2 (h/2)).length:Int)-2)
def rX(u v:Pt):Int:=u.1*v.1+u.2*v.2
def m8(u v:Pt):Prop:=rN u v=0/\0<rX u v
instance (u v:Pt):Decidable (m8 u v):=by unfold m8;infer_instance
end TL
namespace TL
end TL
namespace TL
section
variable{g:aM}{p:hF}{F G B:List sj}{v e k i:Nat}
end
section
variable{g:aM}{p:hF}{e f:Int}
end
section
variable{a b but:List Pt}{i k:Nat}
end
section
variable{g:aM}{p:hF}{e f:Nat}{b:Bool}
end
end TL
/-
  TlMap: maps that the call makes.
  By an AI agent.
-/
set_option linter.all false
namespace TL
open Go
class Ky (K:Type) where
  val:K->Value
section
variable{P:Program}{f:Fr}{w:World}{dst:Option Tmp}{ty:TypeId}{pos:String}{after:Array Edge}{g:Option (Nat×Bool)}{t:TypeId}{x y z:Operand}{N:Value->World->Prop}
end
instance:Ky Int where
 val k:=.int .i64 k
instance:Ky (Int×Int) where
 val k:=.agg (List.toArray [.int .i64 k.1,.int .i64 k.2])
end TL
namespace TL
open Go
end TL
/-
  TlFloat: floating numbers that are no NaN and have no sign: their bits, as a natural number, stand as they do; sums, roots and quotients of such.
  By an AI agent.
-/
set_option linter.all false
namespace TL
open Ieee
abbrev az:Nat:=9218868437227405312
abbrev qk:Nat:=9221120237041090561
def mg(x:Nat):Nat:=if x<4503599627370496 then x else 4503599627370496+x%4503599627370496
def pl(x:Nat):Nat:=x/4503599627370496-1
def vl(x:Nat):Nat:=mg x*2^pl x
theorem kU:double.binade=4503599627370496:=by decide
theorem jB:double.infRung=az:=by decide
theorem qE:double.signWeight=9223372036854775808:=by decide
theorem oe:double.leastPlace= -1074:=by decide
theorem cm{x:Nat}(h:x<az):double.read x= .number false (mg x) (-1074+(pl x:Nat)):=by
 unfold Format.read
 simp only[kU,jB,qE,oe]
 have hh:x<9218868437227405312:=h
 have h1:x/9223372036854775808=0:=Nat.div_eq_of_lt (by omega)
 have h2:x%9223372036854775808=x:=Nat.mod_eq_of_lt (by omega)
 rw[h1,h2]
 by_cases hx:x<4503599627370496
 · rw[if_pos hx]
   have:pl x=0:=by unfold pl;omega
   simp[mg,hx,this]
 · rw[if_neg hx,if_pos h]
   simp[mg,hx,pl]
theorem cZ:double.read az= .infinity false:=by decide
theorem ga{x:Nat}(h:x<=az):(∃m i,double.read x= .number false m i)\/double.read x= .infinity false:=by
 rcases Nat.lt_or_ge x az with c|c
 · exact .inl ⟨_,_,cm c⟩
 · rw[show x=az by omega];exact .inr cZ
theorem iG{x:Nat}:mg x=0↔x=0:=by unfold mg;split<;>omega
theorem pY(x:Nat):mg x<9007199254740992:=by unfold mg;split<;>omega
theorem oL{x y:Nat}(h:x<=y):pl x<=pl y:=by unfold pl;omega
theorem mo{x y:Nat}(h:x<y):vl x<vl y:=by
 unfold vl
 by_cases e:pl x=pl y
 · rw[e]
   refine Nat.mul_lt_mul_of_pos_right ?_ (Nat.two_pow_pos _)
   unfold mg;unfold pl at e
   split<;>split<;>omega
 · have hp:=oL (Nat.le_of_lt h)
   obtain⟨d,hd⟩:∃d,pl y=pl x+1+d:=⟨pl y-pl x-1,by omega⟩
   have hy:4503599627370496<=mg y:=by
     unfold pl at e hd;unfold mg;split<;>omega
   rw[hd,Nat.pow_add,Nat.pow_succ]
   have hx:=pY x
   have h1:0<2^pl x:=Nat.two_pow_pos _
   have h2:1<=2^d:=Nat.two_pow_pos _
   calc mg x*2^pl x<9007199254740992*2^pl x:=Nat.mul_lt_mul_of_pos_right hx h1
     _=4503599627370496*(2^pl x*2*1):=by omega
     _<=mg y*(2^pl x*2*2^d):=Nat.mul_le_mul hy (Nat.mul_le_mul_left _ h2)
theorem rG{x y:Nat}(h:x<=y):vl x<=vl y:=by
 rcases Nat.lt_or_ge x y with c|c
 · exact Nat.le_of_lt (mo c)
 · rw[show x=y by omega];exact Nat.le_refl _
theorem gW(m k:Nat):m <<< k=m*2^k:=Nat.shiftLeft_eq m k
theorem l7(a b:Nat):min (-1074+(a:Int)) (-1074+(b:Int))= -1074+((min a b:Nat):Int):=by omega
theorem pH(a b:Nat):(-1074+(a:Int)-(-1074+((min a b:Nat):Int))).toNat=a-min a b:=by omega
theorem mt(a b:Nat):(-1074+(b:Int)-(-1074+((min a b:Nat):Int))).toNat=b-min a b:=by omega
theorem eH{a b:Nat}(h:b<=a):2^(a-b)*2^b=2^a:=by rw[<-Nat.pow_add];congr 1;omega
theorem o9(a b:Nat):compare (a:Int) (b:Int)=compare a b:=by
 rcases Nat.lt_trichotomy a b with h|h|h
 · simp[compare,compareOfLessAndEq,h]
 · subst h;simp[compare,compareOfLessAndEq]
 · have h1:¬a<b:=by omega
   have h2:¬a=b:=by omega
   have h3:¬(a:Int)<b:=by omega
   have h4:¬(a:Int)=b:=by omega
   simp[compare,compareOfLessAndEq,h1,h2,h3,h4]
theorem f3{a b:Nat}(h:a<b):compare a b= .lt:=by simp[compare,compareOfLessAndEq,h]
theorem ez{a b:Nat}(h:b<a):compare a b= .gt:=by simp[compare,compareOfLessAndEq,Nat.not_lt.2 (Nat.le_of_lt h),Nat.ne_of_gt h]
theorem dH(a:Nat):compare a a= .eq:=by simp[compare,compareOfLessAndEq]
theorem dq{x y:Nat}(hx:x<=az)(hy:y<=az):double.order x y=some (compare x y):=by
  unfold Format.order
  rcases Nat.lt_or_ge x az with cx|cx<;>rcases Nat.lt_or_ge y az with cy|cy
  · rw[cm cx,cm cy]
    simp only[Datum.order,signed,l7,pH,mt,o9,gW,Bool.false_eq_true,if_false]
    have k1:=eH (a:=pl x) (b:=min (pl x) (pl y)) (by omega)
    have k2:=eH (a:=pl y) (b:=min (pl x) (pl y)) (by omega)
    have h0:0<2^min (pl x) (pl y):=Nat.two_pow_pos _
    have e1:vl x=mg x*2^(pl x-min (pl x) (pl y))*2^min (pl x) (pl y):=by rw[Nat.mul_assoc,k1];rfl
    have e2:vl y=mg y*2^(pl y-min (pl x) (pl y))*2^min (pl x) (pl y):=by rw[Nat.mul_assoc,k2];rfl
    rcases Nat.lt_trichotomy x y with c|c|c
    · rw[f3 c];congr 1;refine f3 ?_
      have:=mo c;rw[e1,e2] at this;exact Nat.lt_of_mul_lt_mul_right this
    · subst c;rw[dH,dH]
    · rw[ez c];congr 1;refine ez ?_
      have:=mo c;rw[e1,e2] at this;exact Nat.lt_of_mul_lt_mul_right this
  · rw[cm cx,show y=az by omega,cZ];simp[Datum.order,f3 cx]
  · rw[cm cy,show x=az by omega,cZ];simp[Datum.order,ez cy]
  · rw[show x=az by omega,show y=az by omega,cZ];simp[Datum.order,dH]
theorem lg(m:Nat)(p:Int):double.nearest false m p<=az:=by
 unfold Format.nearest
 dsimp only
 split
 · simp[Format.word]
 · simp only[Format.word,Bool.false_eq_true,if_false]
   exact Nat.le_trans (Nat.min_le_right _ _) (Nat.le_of_eq jB)
theorem fH:double.write (.infinity false)=az:=by decide
def aU(x y:Nat):Nat:=(double.add x y).getD qk
theorem qP{x y:Nat}(hx:x<=az)(hy:y<=az):double.add x y=some (aU x y)/\aU x y<=az:=by
 have:∃z,double.add x y=some z/\z<=az:=by
   unfold Format.add
   rcases ga hx with⟨m,i,e⟩|e<;>rcases ga hy with⟨n,j,e'⟩|e'<;>rw[e,e']
   · refine⟨_,rfl,?_⟩
     have k:(if signed false m (i-min i j).toNat+signed false n (j-min i j).toNat=0 then false&&false else decide (signed false m (i-min i j).toNat+signed false n (j-min i j).toNat<0))=false:=by
       simp only[signed,Bool.false_eq_true,if_false]
       split
       · rfl
       · exact decide_eq_false (Int.not_lt.2 (Int.add_nonneg (Int.natCast_nonneg _) (Int.natCast_nonneg _)))
     simp only[k]
     exact lg _ _
   · exact⟨_,rfl,Nat.le_of_eq fH⟩
   · exact⟨_,rfl,Nat.le_of_eq fH⟩
   · exact⟨_,rfl,Nat.le_of_eq fH⟩
 obtain⟨z,h1,h2⟩:=this
 unfold aU;rw[h1];exact⟨rfl,h2⟩
end TL
/-
  TlFloat2: how far a rounded number lies from what is rounded; sums and roots that are finite; sums with nought.
  By an AI agent.
-/
set_option linter.all false
namespace TL
open Ieee
def iL(n d:Nat):Nat:=n/2^d+(if 2^d<2*(n%2^d)\/2^d=2*(n%2^d)/\n/2^d%2=1 then 1 else 0)
theorem qT(s:Bool)(n d:Nat):Toward.even.cut s n d=iL n d:=by
 unfold Toward.cut iL
 simp only[gW,Nat.one_mul]
 have hb:∀g:Nat,(n/g+(decide (g<2*(n%g))||g==2*(n%g)&&n/g%2==1).toNat)=n/g+(if g<2*(n%g)\/g=2*(n%g)/\n/g%2=1 then 1 else 0):=by
   intro g
   congr 1
   by_cases c:g<2*(n%g)\/g=2*(n%g)/\n/g%2=1
   · rw[if_pos c]
     have:(decide (g<2*(n%g))||g==2*(n%g)&&n/g%2==1)=true:=by simpa using c
     rw[this];rfl
   · rw[if_neg c]
     have:(decide (g<2*(n%g))||g==2*(n%g)&&n/g%2==1)=false:=by
       rw[<-Bool.not_eq_true];simpa using c
     rw[this];rfl
 rw[hb]
 rcases(Nat.lt_or_ge (n.log2+2) d).symm with c|c
 · rw[Nat.min_eq_left c]
 · rw[Nat.min_eq_right (Nat.le_of_lt c)]
   have h1:n<2^(n.log2+1):=Nat.lt_log2_self
   have h2:2^(n.log2+2)=2*2^(n.log2+1):=by rw[Nat.pow_succ];omega
   have h3:2^(n.log2+2)<=2^d:=Nat.pow_le_pow_right (by omega) (by omega)
   rw[Nat.div_eq_of_lt (show n<2^(n.log2+2) by omega),Nat.mod_eq_of_lt (show n<2^(n.log2+2) by omega),Nat.div_eq_of_lt (show n<2^d by omega),Nat.mod_eq_of_lt (show n<2^d by omega)]
   rw[if_neg (by omega),if_neg (by omega)]
theorem fc(n d k:Nat):iL (n*2^k) (d+k)=iL n d:=by
 unfold iL
 have h0:0<2^k:=Nat.two_pow_pos _
 rw[Nat.pow_add,Nat.mul_div_mul_right _ _ h0,Nat.mul_mod_mul_right]
 have e:2*(n%2^d*2^k)=2*(n%2^d)*2^k:=by rw[Nat.mul_assoc]
 rw[e]
 congr 1
 have a1:2^d*2^k<2*(n%2^d)*2^k↔2^d<2*(n%2^d):=⟨λh=>Nat.lt_of_mul_lt_mul_right h,λh=>Nat.mul_lt_mul_of_pos_right h h0⟩
 have a2:2^d*2^k=2*(n%2^d)*2^k↔2^d=2*(n%2^d):=⟨λh=>Nat.eq_of_mul_eq_mul_right h0 h,λh=>congrArg (· *2^k) h⟩
 simp only[a1,a2]
theorem eG(n:Nat):iL n 0=n:=by unfold iL;simp[Nat.mod_one]
def rd(T:Nat):Nat:=if T=0 then 0 else min ((T.log2-52)*4503599627370496+iL T (T.log2-52)) az
theorem gO{m:Nat}(h:m≠0)(k:Nat):(m*2^k).log2=m.log2+k:=by
 have h0:0<2^k:=Nat.two_pow_pos _
 have hp:m*2^k≠0:=by
   intro e;rcases Nat.mul_eq_zero.1 e with c|c<;>omega
 refine(Nat.log2_eq_iff hp).2 ⟨?_,?_⟩
 · rw[Nat.pow_add];exact Nat.mul_le_mul_right _ (Nat.log2_self_le h)
 · rw[Nat.add_right_comm,Nat.pow_add];exact Nat.mul_lt_mul_of_pos_right Nat.lt_log2_self h0
theorem kS(m i:Nat):double.nearest false m (-1074+(i:Int))=rd (m*2^i):=by
 unfold Format.nearest rd
 by_cases h:m=0
 · subst h;simp[Format.word]
 have h0:0<2^i:=Nat.two_pow_pos _
 have hp:m*2^i≠0:=by
   intro e;rcases Nat.mul_eq_zero.1 e with c|c<;>omega
 rw[if_neg h,if_neg hp]
 simp only[kU,oe,Format.word,Bool.false_eq_true,if_false,qT,gO h,show double.fractionBits=52 from rfl]
 have hI:double.infRung=az:=jB
 rw[hI]
 have e1:(max (-1074+(i:Int)+(m.log2:Int)-((52:Nat):Int)) (-1074)-(-1074)).toNat=m.log2+i-52:=by omega
 rw[e1]
 congr 2
 rw[gW]
 rcases(Nat.lt_or_ge (m.log2+i-52) i).symm with c|c
 · have e2:((-1074+(i:Int))-max (-1074+(i:Int)+(m.log2:Int)-((52:Nat):Int)) (-1074)).toNat=0:=by omega
   have e3:(max (-1074+(i:Int)+(m.log2:Int)-((52:Nat):Int)) (-1074)-(-1074+(i:Int))).toNat=m.log2+i-52-i:=by omega
   rw[e2,e3,Nat.pow_zero,Nat.mul_one]
   conv=>rhs;rw[show m.log2+i-52=(m.log2+i-52-i)+i by omega]
   rw[fc]
 · have e2:((-1074+(i:Int))-max (-1074+(i:Int)+(m.log2:Int)-((52:Nat):Int)) (-1074)).toNat=i-(m.log2+i-52):=by omega
   have e3:(max (-1074+(i:Int)+(m.log2:Int)-((52:Nat):Int)) (-1074)-(-1074+(i:Int))).toNat=0:=by omega
   rw[e2,e3,eG]
   generalize hE:m.log2+i-52=E at c ⊢
   have hX:=fc (m*2^(i-E)) 0 E
   rw[Nat.zero_add,eG,Nat.mul_assoc,<-Nat.pow_add,Nat.sub_add_cancel (Nat.le_of_lt c)] at hX
   exact hX.symm
theorem mA{x y:Nat}(hx:x<az)(hy:y<az):aU x y=rd (vl x+vl y):=by
 unfold aU Format.add
 rw[cm hx,cm hy]
 simp only[Datum.sum,signed,l7,pH,mt,gW,Bool.false_eq_true,if_false,Option.map_some,Option.getD_some]
 have k1:=eH (a:=pl x) (b:=min (pl x) (pl y)) (by omega)
 have k2:=eH (a:=pl y) (b:=min (pl x) (pl y)) (by omega)
 have k:(if((mg x*2^(pl x-min (pl x) (pl y)):Nat):Int)+((mg y*2^(pl y-min (pl x) (pl y)):Nat):Int)=0 then false&&false else decide (((mg x*2^(pl x-min (pl x) (pl y)):Nat):Int)+((mg y*2^(pl y-min (pl x) (pl y)):Nat):Int)<0))=false:=by
   split
   · rfl
   · exact decide_eq_false (Int.not_lt.2 (Int.add_nonneg (Int.natCast_nonneg _) (Int.natCast_nonneg _)))
 rw[k]
 show double.nearest false _ _=_
 rw[kS]
 congr 1
 rw[<-Int.natCast_add,Int.natAbs_natCast,Nat.add_mul,Nat.mul_assoc,k1,Nat.mul_assoc,k2]
 rfl
theorem rh{x:Nat}(h:x<az):rd (vl x)=x:=by
 have hI:az=9218868437227405312:=rfl
 unfold rd
 by_cases h0:x=0
 · subst h0;rfl
 have hm:mg x≠0:=λe=>h0 (iG.1 e)
 have hv:vl x≠0:=by
   intro e;rcases Nat.mul_eq_zero.1 e with c|c
   · exact hm c
   · have:=Nat.two_pow_pos (pl x);omega
 rw[if_neg hv]
 unfold vl
 rw[gO hm]
 by_cases hs:x<4503599627370496
 · have e1:mg x=x:=by unfold mg;rw[if_pos hs]
   have e2:pl x=0:=by unfold pl;omega
   have e3:x.log2<52:=(Nat.log2_lt h0).2 hs
   rw[e1,e2,show x.log2+0-52=0 by omega,eG,Nat.pow_zero,Nat.mul_one,Nat.zero_mul,Nat.zero_add,Nat.min_eq_left (Nat.le_of_lt h)]
 · have e1:mg x=4503599627370496+x%4503599627370496:=by unfold mg;rw[if_neg hs]
   have e3:(mg x).log2=52:=(Nat.log2_eq_iff hm).2 ⟨by rw[e1];show 4503599627370496<=_;omega,by rw[e1];show _<9007199254740992;omega⟩
   rw[e3,show 52+pl x-52=0+pl x by omega,fc,eG,e1]
   have:(0+pl x)*4503599627370496+(4503599627370496+x%4503599627370496)=x:=by unfold pl;omega
   rw[this,Nat.min_eq_left (Nat.le_of_lt h)]
def c8(n:Nat):Nat:=double.nearest false n 0
theorem l5(n:Nat):c8 n=rd (n*2^1074):=kS n 1074
theorem ct:c8 0=0:=by decide
end TL
/-
  TlFl: floating numbers in a walk: what each operation comes to.
  By an AI agent.
-/
set_option linter.all false
namespace TL
open Go
abbrev Fb:=Nat
instance:Rp Nat where
 sz:=1
 rep _ _ _ cs x:=cs=[.float .f64 x]
 len h:=by subst h;rfl
 one h:=by subst h;simp[Value.oneCell']
 tr _ _ h:=h
instance:Fl Nat where
 cells x:=[.float .f64 x]
 rep_iff:=Iff.rfl
def cV(m:Int):Nat:=FloatKind.f64.nearest m
theorem jH(n:Nat):cV (n:Int)=c8 n:=by
 unfold cV FloatKind.nearest FloatKind.encode c8
 rw[decide_eq_false (by omega)];rfl
theorem iF{m:Int}(h:0<=m):cV m<=az:=by
 obtain⟨n,rfl⟩:=Int.eq_ofNat_of_zero_le h
 rw[jH];exact lg _ _
def e8(x:Nat):Bool:=Ieee.double.order x x !=some .eq
theorem o6{x:Nat}(h:x<=az):e8 x=false:=by
 unfold e8;rw[dq h h,dH];rfl
section
variable{P:Program}{f:Fr}{w:World}{dst:Option Tmp}{ty:TypeId}{pos:String}{after:Array Edge}{g:Option (Nat×Bool)}{t t' s d:TypeId}{x y:Operand}{a b r:Nat}
variable{N:Value->World->Prop}
theorem mN{m:Int}{us:TypeDesc}(hs:P.underlying s=some us)(hd:P.underlying d=some (.float .f64))(hx:ev f x= .int .i64 m):(execOp (ev f) ⟨dst,.convert s d x,ty,pos,after,g⟩).run P w= .ok (.value (.float .f64 (cV m))) w:=by
 simp[execOp,convert,hx,aD hs,aD hd,Conv.intToFloat,cV]
theorem kN(op:BinOp):(eqGuard op t x y (.float .f64 a) (.float .f64 b)).run P w= .ok () w:=by
 unfold eqGuard
 split<;>rfl
theorem qL(hx:ev f x= .float .f64 a)(hy:ev f y= .float .f64 b)(h:Ieee.double.add a b=some r):(execOp (ev f) ⟨dst,.binOp .add t x y t',ty,pos,after,g⟩).run P w= .ok (.value (.float .f64 r)) w:=
 mD .add hx hy (kN _) (run_float_arith w .add t .f64 a b r h)
theorem fP{op:BinOp}{q:Bool}(hx:ev f x= .float .f64 a)(hy:ev f y= .float .f64 b)(h:∀w:World,(binOp op t (.float .f64 a) (.float .f64 b)).run P w= .ok (.bool q) w):(execOp (ev f) ⟨dst,.binOp op t x y t',ty,pos,after,g⟩).run P w= .ok (.value (.bool q)) w:=
 mD op hx hy (kN _) (h w)
theorem od{q:Bool}(hx:ev f x= .float .f64 a)(hy:ev f y= .float .f64 b)(h:(Ieee.double.order a b==some .eq)=q):(execOp (ev f) ⟨dst,.binOp .eql t x y t',ty,pos,after,g⟩).run P w= .ok (.value (.bool q)) w:=
 fP hx hy (λw=>by rw[binOp_float_cmp_eql];show Sem.run P (pure (Value.bool (Ieee.double.order a b==some .eq))) w=_;rw[h];rfl)
theorem kF{q:Bool}(hx:ev f x= .float .f64 a)(hy:ev f y= .float .f64 b)(h:(Ieee.double.order a b !=some .eq)=q):(execOp (ev f) ⟨dst,.binOp .neq t x y t',ty,pos,after,g⟩).run P w= .ok (.value (.bool q)) w:=
 fP hx hy (λw=>by rw[binOp_float_cmp_neq];show Sem.run P (pure (Value.bool (Ieee.double.order a b !=some .eq))) w=_;rw[h];rfl)
theorem mw(ha:a<=az)(hb:b<=az):(Ieee.double.order a b==some .eq)=decide (a=b):=by
 rw[dq ha hb]
 rcases Nat.lt_trichotomy a b with h|h|h
 · rw[f3 h,decide_eq_false (by omega)];rfl
 · rw[h,dH];simp
 · rw[ez h,decide_eq_false (by omega)];rfl
theorem kf(hx:ev f x= .float .f64 a)(hy:ev f y= .float .f64 b)(ha:a<=az)(hb:b<=az):(execOp (ev f) ⟨dst,.binOp .eql t x y t',ty,pos,after,g⟩).run P w= .ok (.value (.bool (decide (a=b)))) w:=
 od hx hy (mw ha hb)
theorem gS(hx:ev f x= .float .f64 a)(hy:ev f y= .float .f64 b)(ha:a<=az)(hb:b<=az):(execOp (ev f) ⟨dst,.binOp .neq t x y t',ty,pos,after,g⟩).run P w= .ok (.value (.bool (!decide (a=b)))) w:=
 kF hx hy (by rw[bne,mw ha hb])
theorem k9(hx:ev f x= .float .f64 a)(hy:ev f y= .float .f64 a):(execOp (ev f) ⟨dst,.binOp .neq t x y t',ty,pos,after,g⟩).run P w= .ok (.value (.bool (e8 a))) w:=
  kF hx hy rfl
theorem pU{fid:Nat}{fn:Func}{e:Array Value->Sem Value}{v u:Value}{at_:Array TypeId}(hf:P.funcs[fid]? =some fn)(hname:(fn.name== "runtime.NumGoroutine")=false)(hb:fn.body.isNone=true)(hn:(Extern.findNext fn).isNone=true)(he:Extern.find fn=some e)(hx:ev f x=v)(h:(e #[v]).run P w= .ok u w):
   (execOp (ev f) ⟨dst,.call {callee:=.value (.func fid),args:= #[x],argTypes:=at_},ty,pos,after,g⟩).run P w= .ok (.value u) w:=by
 have hn':Extern.findNext fn=none:=by simpa using hn
 have:=run_callFunc_extern hf hname hb hn' he #[v] w
 rw[h] at this
 have ha:(#[x]).map (ev f)= #[v]:=by simp[hx]
 have h0:∀q:Operand,ev f (.func fid)= .func (.func fid) #[] #[]:=λ_=>rfl
 simp only[execOp,resolve,h0 x,Deferred.ofValue,invoke,ha,Sem.run_bind,Sem.run_pure,Result.andThen_ok,Array.append_empty,Array.empty_append]
 exact this
theorem eZ{fid:Nat}{fn:Func}{at_:Array TypeId}{n:Int}(hf:P.funcs[fid]? =some fn)(hname:(fn.name== "runtime.NumGoroutine")=false)(hb:fn.body.isNone=true)(hn:(Extern.findNext fn).isNone=true)(he:Extern.find fn=some Extern.MathFloatBits.float64frombits)(hx:ev f x= .int .u64 n):
   (execOp (ev f) ⟨dst,.call {callee:=.value (.func fid),args:= #[x],argTypes:=at_},ty,pos,after,g⟩).run P w= .ok (.value (.float .f64 n.toNat)) w:=
 pU hf hname hb hn he hx rfl
end
end TL
/-
  TlLit: a list of lists that is written out, with one list in it, as an owned list of lists.
  By an AI agent.
-/
set_option linter.all false
namespace TL
open Go
end TL
namespace TL
open Go
theorem oN{P:Program}{f:Fr}{w:World}{dst:Option Tmp}{ty:TypeId}{pos:String}{after:Array Edge}{g:Option (Nat×Bool)}{t t':TypeId}{x y:Operand}{a b:Nat}{q:Bool}(hx:ev f x= .float .f64 a)(hy:ev f y= .float .f64 b)(h:(Ieee.double.order a b==some .gt)=q):(execOp (ev f) ⟨dst,.binOp .gtr t x y t',ty,pos,after,g⟩).run P w= .ok (.value (.bool q)) w:=
 fP hx hy (λw=>by rw[binOp_float_cmp_gtr];show Sem.run P (pure (Value.bool (Ieee.double.order a b==some .gt))) w=_;rw[h];rfl)
end TL
namespace TL
open Go
theorem fS{P:Program}{f:Fr}{w:World}{dst:Option Tmp}{ty:TypeId}{pos:String}{after:Array Edge}{g:Option (Nat×Bool)}{x:Operand}{a:Nat}{fid:Nat}{fn:Func}{at_:Array TypeId}(hf:P.funcs[fid]? =some fn)(hname:(fn.name== "runtime.NumGoroutine")=false)(hb:fn.body.isNone=true)(hn:(Extern.findNext fn).isNone=true)(he:Extern.find fn=some Extern.MathFloatBits.float64bits)(hx:ev f x= .float .f64 a):
   (execOp (ev f) ⟨dst,.call {callee:=.value (.func fid),args:= #[x],argTypes:=at_},ty,pos,after,g⟩).run P w= .ok (.value (.int .u64 (a:Int))) w:=
 pU hf hname hb hn he hx rfl
end TL
namespace TL
open Go
theorem mQ{P:Program}{f:Fr}{w:World}{dst:Option Tmp}{ty:TypeId}{pos:String}{after:Array Edge}{g:Option (Nat×Bool)}{t t':TypeId}{x y:Operand}{a b:Nat}(hx:ev f x= .float .f64 a)(hy:ev f y= .float .f64 b)(ha:a<=az)(hb:b<=az):(execOp (ev f) ⟨dst,.binOp .lss t x y t',ty,pos,after,g⟩).run P w= .ok (.value (.bool (decide (a<b)))) w:=
 fP hx hy (λw=>by
   rw[binOp_float_cmp_lss]
   show Sem.run P (pure (Value.bool (Ieee.double.order a b==some .lt))) w=_
   rw[dq ha hb]
   rcases Nat.lt_trichotomy a b with h|h|h
   · rw[f3 h,decide_eq_true h];rfl
   · rw[h,dH,decide_eq_false (by omega)];rfl
   · rw[ez h,decide_eq_false (by omega)];rfl)
end TL
/-
  TlJudge2: what is told of a plot; its rotation.
  By an AI agent.
-/
set_option linter.all false
namespace TL
section
variable{p:hF}{l:List Pt}{a b:Bool}{i k:Nat}
end
section
variable{g:aM}{p:hF}
end
def rI(p:hF)(l:List Int):List Pt:=l.map (rQ p)
def qw(p:hF)(o:Pt)(l:List Int):Prop:=∃j:Nat,j<l.length/\0<j/\m8 (r7 (gI (rI p l) (gI (arL o (rI p l)) ((j:Int)-1))) o) (r7 (gI (rI p l) (gI (arL o (rI p l)) (j:Int))) o)
noncomputable instance (p:hF) (o:Pt) (l:List Int):Decidable (qw p o l):=by unfold qw;infer_instance
def rc(g:aM)(p:hF):Prop:=∃v:Nat,v<g.1.toNat/\qw p (gI p.1 (v:Int)) (cS g (v:Int))
noncomputable instance (g:aM) (p:hF):Decidable (rc g p):=by unfold rc;infer_instance
end TL
/-
  TlMet: what layer 29 (metric) computes, in plain words.
  By an AI agent.
-/
set_option linter.all false
namespace TL
open Go
end TL
namespace TL
open Go
def co(x:Nat):Nat:=if e8 x=true then qk else x
theorem ou{x:Nat}(h:e8 x=true):qk=co x:=by unfold co;rw[if_pos h]
theorem oC{x:Nat}(h:¬e8 x=true):x=co x:=by unfold co;rw[if_neg h]
theorem oY{x:Nat}(h:¬e8 x=true)(h0:x=0):0=co x:=by unfold co;rw[if_neg h,h0]
end TL
namespace TL
open Go
end TL
namespace TL
open Go
end TL
namespace TL
open Go
end TL
namespace TL
open Go
end TL
namespace TL
end TL
namespace TL
open Go
end TL
/-
  TlZf: weights: floating numbers that are at least 0, of either sign of 0: in sums and comparisons such a one stands for its magnitude (zf).
  By an AI agent.
-/
set_option linter.all false
namespace TL
open Ieee
def ck(a b:Nat):Bool:=Ieee.double.order a b==some .gt
def eK(a b:Nat):Bool:=Ieee.double.order a b==some .gt||Ieee.double.order a b==some .eq
def qc(a b:Nat):Bool:=Ieee.double.order a b==some .lt
abbrev dS(x:Nat):Prop:=eK x 0=true
def zf(x:Nat):Nat:=x%9223372036854775808
theorem pN{x:Nat}(h:x<=az):zf x=x:=by
 have hI:az=9218868437227405312:=rfl
 exact Nat.mod_eq_of_lt (by omega)
theorem kT{x:Nat}(h:x<=az):dS x:=by
 unfold dS eK
 rw[dq h (Nat.zero_le _)]
 rcases Nat.eq_zero_or_pos x with e|e
 · subst e;rw[dH];rfl
 · rw[ez e];rfl
theorem la(x:Nat):double.read x=double.read (zf x)\/(double.read x=(double.read (zf x)).opposite/\(x/9223372036854775808)%2=1):=by
 have e1:zf x/9223372036854775808=0:=Nat.div_eq_of_lt (Nat.mod_lt _ (by decide))
 have e2:zf x%9223372036854775808=x%9223372036854775808:=Nat.mod_mod _ _
 unfold Format.read
 simp only[kU,jB,qE,oe]
 rw[e1,e2]
 rcases Nat.mod_two_eq_zero_or_one (x/9223372036854775808) with h|h
 · left;rw[h]
 · right
   refine⟨?_,h⟩
   rw[h]
   split
   · rfl
   · split
     · rfl
     · split<;>rfl
theorem re{m:Nat}{i j:Int}(h:¬m=0):Datum.order (.number true m i) (.number false 0 j)=some .lt:=by
 have h1:∀k:Nat,0<m <<< k:=λk=>by rw[gW];exact Nat.mul_pos (Nat.pos_of_ne_zero h) (Nat.two_pow_pos _)
 simp only[Datum.order,signed,if_true,Nat.zero_shiftLeft,Bool.false_eq_true,if_false]
 have h2:=h1 (i-min i j).toNat
 generalize m <<< (i-min i j).toNat=q at h2
 have h3: -(q:Int)<((0:Nat):Int):=by omega
 simp only[compare,compareOfLessAndEq,h3,if_true]
theorem iM:double.read 0= .number false 0 (-1074):=by decide
theorem qN{x:Nat}(h:¬x<=az)(h2:x<9223372036854775808):∃s t,double.read x= .nan s t:=by
 have hI:az=9218868437227405312:=rfl
 unfold Format.read
 simp only[kU,jB,qE,oe]
 rw[Nat.mod_eq_of_lt h2,if_neg (by omega),if_neg (by omega),if_neg (by omega)]
 exact⟨_,_,rfl⟩
theorem gn{x:Nat}(h:dS x):zf x<=az/\(double.read x=double.read (zf x)\/(zf x=0/\double.read x= .number true 0 (-1074))):=by
  have hz:zf x<9223372036854775808:=Nat.mod_lt _ (by decide)
  unfold dS eK Format.order at h
  rw[iM] at h
  have hle:zf x<=az:=by
    by_cases c:zf x<=az
    · exact c
    · obtain⟨s,t,e⟩:=qN c hz
      exfalso
      rcases la x with k|⟨k,_⟩<;>rw[k,e] at h<;>simp[Datum.order,Datum.opposite] at h
  refine⟨hle,?_⟩
  rcases la x with k|⟨k,_⟩
  · exact .inl k
  · right
    rcases Nat.lt_or_ge (zf x) az with c|c
    · rw[k,cm c] at h
      rw[k,cm c]
      by_cases h0:mg (zf x)=0
      · have:=iG.1 h0
        refine⟨this,?_⟩
        rw[this];rfl
      · exfalso
        rw[Datum.opposite,show(!false)=true from rfl,re h0] at h
        exact absurd h (by decide)
    · have e:zf x=az:=Nat.le_antisymm hle c
      rw[k,e,cZ] at h
      exfalso
      simp[Datum.order,Datum.opposite] at h
structure pL(x x':Nat):Prop where
  le:x'<=az
  l:∀y,double.order x y=double.order x' y
  r:∀y,double.order y x=double.order y x'
theorem nv{x:Nat}(h:x<=az):pL x x:=⟨h,λ_=>rfl,λ_=>rfl⟩
theorem iE{x:Nat}(h:dS x):pL x (zf x):=by
 obtain⟨h1,h2⟩:=gn h
 refine⟨h1,λy=>?_,λy=>?_⟩<;>unfold Format.order<;>rcases h2 with k|⟨k0,k⟩
 · rw[k]
 · rw[k,k0,iM]
   cases double.read y<;>simp[Datum.order,signed]
 · rw[k]
 · rw[k,k0,iM]
   cases double.read y<;>simp[Datum.order,signed]
theorem j5{d x:Nat}(hd:d<=az)(h:dS x):double.add d x=some (aU d (zf x))/\aU d (zf x)<=az:=by
 obtain⟨h1,h2⟩:=gn h
 obtain⟨a1,a2⟩:=qP hd h1
 refine⟨?_,a2⟩
 rw[<-a1]
 unfold Format.add
 rcases h2 with k|⟨k0,k⟩
 · rw[k]
 · rw[k,k0,iM]
   rcases ga hd with⟨m,i,e⟩|e<;>rw[e]<;>simp[Datum.sum,signed]
theorem qr{x x' y y':Nat}(h:pL x x')(k:pL y y'):ck x y=decide (y'<x'):=by
 unfold ck
 rw[h.l,k.r,dq h.le k.le]
 rcases Nat.lt_trichotomy x' y' with c|c|c
 · rw[f3 c,decide_eq_false (by omega)];rfl
 · rw[c,dH,decide_eq_false (by omega)];rfl
 · rw[ez c,decide_eq_true c];rfl
theorem qp{x x' y y':Nat}(h:pL x x')(k:pL y y'):qc x y=decide (x'<y'):=by
 unfold qc
 rw[h.l,k.r,dq h.le k.le]
 rcases Nat.lt_trichotomy x' y' with c|c|c
 · rw[f3 c,decide_eq_true c];rfl
 · rw[c,dH,decide_eq_false (by omega)];rfl
 · rw[ez c,decide_eq_false (by omega)];rfl
theorem k8{x:Nat}(h:dS x):ck x 9218868437227405311=decide (zf x=az):=by
  have hI:az=9218868437227405312:=rfl
  have h1:=(gn h).1
  rw[qr (iE h) (nv (by omega)),decide_eq_decide];omega
theorem pO{x:Nat}(h:dS x):e8 x=false:=by
 unfold e8
 have k:=iE h
 rw[k.l,k.r,dq k.le k.le,dH];rfl
open Go
theorem nP{P:Program}{f:Fr}{w:World}{dst:Option Tmp}{ty:TypeId}{pos:String}{after:Array Edge}{g:Option (Nat×Bool)}{t t':TypeId}{x y:Operand}{a b a' b':Nat}(hx:ev f x= .float .f64 a)(hy:ev f y= .float .f64 b)(ha:pL a a')(hb:pL b b'):(execOp (ev f) ⟨dst,.binOp .lss t x y t',ty,pos,after,g⟩).run P w= .ok (.value (.bool (decide (a'<b')))) w:=
 fP hx hy (λw=>by rw[binOp_float_cmp_lss];show Sem.run P (pure (Value.bool (qc a b))) w=_;rw[qp ha hb];rfl)
theorem o7{P:Program}{f:Fr}{w:World}{dst:Option Tmp}{ty:TypeId}{pos:String}{after:Array Edge}{g:Option (Nat×Bool)}{t t':TypeId}{x y:Operand}{a b:Nat}{q:Bool}(hx:ev f x= .float .f64 a)(hy:ev f y= .float .f64 b)(h:eK a b=q):(execOp (ev f) ⟨dst,.binOp .geq t x y t',ty,pos,after,g⟩).run P w= .ok (.value (.bool q)) w:=
 fP hx hy (λw=>by rw[binOp_float_cmp_geq];show Sem.run P (pure (Value.bool (eK a b))) w=_;rw[h];rfl)
end TL
/-
  TlPq: a heap of places (how far, which node), as container/heap keeps it: what is taken is the least, and nothing else is lost.
  By an AI agent.
-/
set_option linter.all false
namespace TL
abbrev Pl:=Nat×Int
def cv(a b:Pl):Prop:=a.1<b.1\/a.1=b.1/\a.2<b.2
instance (a b:Pl):Decidable (cv a b):=by unfold cv;infer_instance
theorem dU(a:Pl):¬cv a a:=by unfold cv;omega
theorem dR{a b c:Pl}(h1:¬cv b a)(h2:¬cv c b):¬cv c a:=by unfold cv at*;omega
theorem gJ{a b:Pl}(h:cv a b):¬cv b a:=by unfold cv at*;omega
theorem po{a b:Pl}(h1:¬cv a b)(h2:¬cv b a):a=b:=by
 unfold cv at*
 exact Prod.ext (by omega) (by omega)
def cz(xs:List Pl)(i:Nat):Pl:=gI xs (i:Int)
theorem dm{xs:List Pl}{i:Nat}(h:i<xs.length):cz xs i=xs[i]:=by unfold cz gI;simp[h]
def jV(xs:List Pl)(i j:Nat):List Pl:=(xs.set i (cz xs j)).set j (cz xs i)
theorem cq(xs:List Pl)(i j:Nat):(jV xs i j).length=xs.length:=by unfold jV;rw[List.length_set,List.length_set]
theorem fQ{xs:List Pl}{i j k:Nat}(hi:i<xs.length)(hj:j<xs.length)(hk:k<xs.length):cz (jV xs i j) k=if k=j then cz xs i else if k=i then cz xs j else cz xs k:=by
 rw[dm (by rw[cq];exact hk)]
 unfold jV
 rw[List.getElem_set]
 by_cases h1:j=k
 · rw[if_pos h1,if_pos h1.symm]
 · rw[if_neg h1,if_neg (λe=>h1 e.symm),List.getElem_set]
   by_cases h2:i=k
   · rw[if_pos h2,if_pos h2.symm]
   · rw[if_neg h2,if_neg (λe=>h2 e.symm),dm hk]
theorem dO{xs:List Pl}{i j:Nat}(hi:i<xs.length)(hj:j<xs.length):(jV xs i j).Perm xs:=by
 unfold jV
 rw[dm hi,dm hj]
 exact List.set_set_perm hi hj
def i3(xs:List Pl)(i n:Nat):Nat:=if 2*i+1+1<n/\cv (cz xs (2*i+1+1)) (cz xs (2*i+1)) then 2*i+1+1 else 2*i+1
def dn:Nat->List Pl->Nat->Nat->List Pl
 |0,xs,_,_=>xs
 |k+1,xs,i,n=>if n<=2*i+1 then xs else if cv (cz xs (i3 xs i n)) (cz xs i) then dn k (jV xs i (i3 xs i n)) (i3 xs i n) n else xs
def up:Nat->List Pl->Nat->List Pl
 |0,xs,_=>xs
 |k+1,xs,j=>if(j-1)/2=j\/¬cv (cz xs j) (cz xs ((j-1)/2)) then xs else up k (jV xs ((j-1)/2) j) ((j-1)/2)
def eV(xs:List Pl)(n:Nat):Prop:=∀k,1<=k->k<n->¬cv (cz xs k) (cz xs ((k-1)/2))
theorem nu{xs:List Pl}{n:Nat}(h:eV xs n):∀k,k<n->¬cv (cz xs k) (cz xs 0):=by
 intro k
 induction k using Nat.strongRecOn with
 |ind k ih=>
   intro hk
   by_cases h0:k=0
   · subst h0;exact dU _
   · exact dR (ih ((k-1)/2) (by omega) (by omega)) (h k (by omega) hk)
structure q9(xs:List Pl)(i n:Nat):Prop where
  len:n<=xs.length
  ok:∀k,1<=k->k<n->(k-1)/2≠i->¬cv (cz xs k) (cz xs ((k-1)/2))
  gr:1<=i->∀k,1<=k->k<n->(k-1)/2=i->¬cv (cz xs k) (cz xs ((i-1)/2))
theorem iW{xs:List Pl}{i n:Nat}(h:¬n<=2*i+1):i3 xs i n<n/\(i3 xs i n-1)/2=i/\i<i3 xs i n/\∀k,k<n->(k-1)/2=i->1<=k->¬cv (cz xs k) (cz xs (i3 xs i n)):=by
 unfold i3
 split
 · rename_i c
   refine⟨by omega,by omega,by omega,λk hk hp h1=>?_⟩
   have:k=2*i+1\/k=2*i+1+1:=by omega
   rcases this with rfl|rfl
   · exact gJ c.2
   · exact dU _
 · rename_i c
   refine⟨by omega,by omega,by omega,λk hk hp h1=>?_⟩
   have:k=2*i+1\/k=2*i+1+1:=by omega
   rcases this with rfl|rfl
   · exact dU _
   · exact λe=>c ⟨hk,e⟩
theorem q9.next{xs:List Pl}{i n:Nat}(h:q9 xs i n)(hn:¬n<=2*i+1)(hl:cv (cz xs (i3 xs i n)) (cz xs i)):q9 (jV xs i (i3 xs i n)) (i3 xs i n) n:=by
 obtain⟨c1,c2,c3,c4⟩:=iW (xs:=xs) hn
 have hlen:=h.len
 generalize i3 xs i n=c at c1 c2 c3 c4 hl ⊢
 have A:∀k,k<n->cz (jV xs i c) k=if k=c then cz xs i else if k=i then cz xs c else cz xs k:=λk hk=>fQ (by omega) (by omega) (by omega)
 refine⟨by rw[cq];exact hlen,λk h1 h2 h3=>?_,λ_ k h1 h2 h3=>?_⟩
 · rw[A k h2,A ((k-1)/2) (by omega)]
   rw[if_neg (show¬(k-1)/2=c from h3)]
   by_cases hk:k=c
   · subst hk;rw[if_pos rfl,if_pos c2];exact gJ hl
   · rw[if_neg hk]
     by_cases hi:k=i
     · subst hi
       rw[if_pos rfl,if_neg (by omega)]
       exact h.gr h1 c (by omega) c1 c2
     · rw[if_neg hi]
       by_cases hp:(k-1)/2=i
       · rw[if_pos hp];exact c4 k h2 hp h1
       · rw[if_neg hp];exact h.ok k h1 h2 hp
 · rw[A k h2,A ((c-1)/2) (by omega),if_neg (by omega),if_neg (by omega),if_neg (by omega),if_pos c2]
   have:=h.ok k h1 h2 (by omega)
   rw[h3] at this
   exact this
theorem q9.fin{xs:List Pl}{i n:Nat}(h:q9 xs i n)(hf:n<=2*i+1\/¬cv (cz xs (i3 xs i n)) (cz xs i)):eV xs n:=by
 intro k h1 h2
 by_cases hp:(k-1)/2=i
 · by_cases hn:n<=2*i+1
   · omega
   · obtain⟨c1,c2,c3,c4⟩:=iW (xs:=xs) hn
     rw[hp]
     exact dR (hf.resolve_left hn) (c4 k h2 hp h1)
 · exact h.ok k h1 h2 hp
theorem kX:∀(f:Nat) (xs:List Pl) (i n:Nat),q9 xs i n->n<=f+i->eV (dn f xs i n) n/\(dn f xs i n).length=xs.length/\(dn f xs i n).Perm xs/\∀k,n<=k->k<xs.length->cz (dn f xs i n) k=cz xs k
 |0,xs,i,n,h,hf=>⟨h.fin (.inl (by omega)),rfl,List.Perm.refl _,λ_ _ _=>rfl⟩
 |f+1,xs,i,n,h,hf=>by
   unfold dn
   by_cases hn:n<=2*i+1
   · rw[if_pos hn];exact⟨h.fin (.inl hn),rfl,List.Perm.refl _,λ_ _ _=>rfl⟩
   · rw[if_neg hn]
     by_cases hl:cv (cz xs (i3 xs i n)) (cz xs i)
     · rw[if_pos hl]
       obtain⟨c1,c2,c3,c4⟩:=iW (xs:=xs) hn
       have hlen:=h.len
       obtain⟨k1,k2,k3,k4⟩:=kX f _ _ n (h.next hn hl) (by omega)
       refine⟨k1,by rw[k2,cq],k3.trans (dO (by omega) (by omega)),λk h1 h2=>?_⟩
       rw[k4 k h1 (by rw[cq];exact h2),fQ (by omega) (by omega) h2,if_neg (by omega),if_neg (by omega)]
     · rw[if_neg hl];exact⟨h.fin (.inr hl),rfl,List.Perm.refl _,λ_ _ _=>rfl⟩
structure rW(xs:List Pl)(j:Nat):Prop where
  len:j<xs.length
  ok:∀k,1<=k->k<xs.length->k≠j->¬cv (cz xs k) (cz xs ((k-1)/2))
  gr:1<=j->∀k,1<=k->k<xs.length->(k-1)/2=j->¬cv (cz xs k) (cz xs ((j-1)/2))
theorem ld:∀(f:Nat) (xs:List Pl) (j:Nat),rW xs j->j<=f->eV (up f xs j) xs.length/\(up f xs j).length=xs.length/\(up f xs j).Perm xs
 |0,xs,j,h,hf=>⟨λk h1 h2=>h.ok k h1 h2 (by omega),rfl,List.Perm.refl _⟩
 |f+1,xs,j,h,hf=>by
   have hlen:=h.len
   unfold up
   by_cases hc:(j-1)/2=j\/¬cv (cz xs j) (cz xs ((j-1)/2))
   · rw[if_pos hc]
     refine⟨λk h1 h2=>?_,rfl,List.Perm.refl _⟩
     by_cases e:k=j
     · subst e;rcases hc with hc|hc
       · omega
       · exact hc
     · exact h.ok k h1 h2 e
   · rw[if_neg hc]
     obtain⟨c1,c2⟩:=not_or.1 hc
     have hl:=Classical.not_not.1 c2
     have hj:1<=j:=by omega
     have A:∀k,k<xs.length->cz (jV xs ((j-1)/2) j) k=if k=j then cz xs ((j-1)/2) else if k=(j-1)/2 then cz xs j else cz xs k:=λk hk=>fQ (by omega) (by omega) (by omega)
     have hX:rW (jV xs ((j-1)/2) j) ((j-1)/2):=by
       refine⟨by rw[cq];omega,λk h1 h2 h3=>?_,λhi k h1 h2 h3=>?_⟩
       · rw[cq] at h2
         rw[A k h2,A ((k-1)/2) (by omega)]
         by_cases e:k=j
         · subst e
           rw[if_pos rfl,if_neg (by omega),if_pos rfl];exact gJ hl
         · rw[if_neg e,if_neg h3]
           by_cases p1:(k-1)/2=j
           · rw[if_pos p1];exact h.gr hj k h1 h2 p1
           · rw[if_neg p1]
             by_cases p2:(k-1)/2=(j-1)/2
             · rw[if_pos p2]
               have:=h.ok k h1 h2 e
               rw[p2] at this
               exact dR (gJ hl) this
             · rw[if_neg p2];exact h.ok k h1 h2 e
       · rw[cq] at h2
         have hpj:((j-1)/2-1)/2<xs.length:=by omega
         rw[A k h2,A _ hpj,if_neg (show¬((j-1)/2-1)/2=j by omega),if_neg (show¬((j-1)/2-1)/2=(j-1)/2 by omega)]
         have hq:=h.ok ((j-1)/2) (by omega) (by omega) (by omega)
         by_cases e:k=j
         · rw[if_pos e];exact hq
         · rw[if_neg e,if_neg (by omega)]
           have:=h.ok k h1 h2 e
           rw[h3] at this
           exact dR hq this
     obtain⟨k1,k2,k3⟩:=ld f _ _ hX (by omega)
     rw[cq] at k1 k2
     exact⟨k1,k2,k3.trans (dO (by omega) (by omega))⟩
def i7(xs:List Pl)(x:Pl):List Pl:=up xs.length (xs++[x]) xs.length
theorem mr{xs:List Pl}{x:Pl}{k:Nat}(h:k<xs.length):cz (xs++[x]) k=cz xs k:=by
 rw[dm (by rw[List.length_append];exact Nat.lt_of_lt_of_le h (Nat.le_add_right _ _)),dm h,List.getElem_append_left h]
theorem lR{xs:List Pl}(x:Pl)(h:eV xs xs.length):eV (i7 xs x) (xs.length+1)/\(i7 xs x).length=xs.length+1/\(i7 xs x).Perm (x::xs):=by
 have hl:(xs++[x]).length=xs.length+1:=by rw[List.length_append];rfl
 have hu:rW (xs++[x]) xs.length:=by
   refine⟨by omega,λk h1 h2 h3=>?_,λ_ k h1 h2 h3=>by omega⟩
   rw[mr (by omega),mr (by omega)]
   exact h k h1 (by omega)
 obtain⟨k1,k2,k3⟩:=ld xs.length _ _ hu (Nat.le_refl _)
 rw[hl] at k1 k2
 exact⟨k1,k2,k3.trans (List.perm_append_comm (l₁:=xs) (l₂:=[x]))⟩
def cT(xs:List Pl):List Pl:=dn (xs.length-1) (jV xs 0 (xs.length-1)) 0 (xs.length-1)
theorem gG{xs:List Pl}(h:eV xs xs.length)(h0:0<xs.length):eV ((cT xs).take (xs.length-1)) (xs.length-1)/\(cT xs).length=xs.length/\cz (cT xs) (xs.length-1)=cz xs 0/\xs.Perm (cz xs 0::(cT xs).take (xs.length-1)):=by
 have hd:q9 (jV xs 0 (xs.length-1)) 0 (xs.length-1):=by
   refine⟨by rw[cq];omega,λk h1 h2 h3=>?_,λh1=>by omega⟩
   rw[fQ (by omega) (by omega) (by omega),fQ (by omega) (by omega) (by omega),if_neg (by omega),if_neg (by omega),if_neg (by omega),if_neg h3]
   exact h k h1 (by omega)
 obtain⟨k1,k2,k3,k4⟩:=kX (xs.length-1) _ _ _ hd (by omega)
 rw[cq] at k2 k4
 have e1:cz (cT xs) (xs.length-1)=cz xs 0:=by
   unfold cT
   rw[k4 (xs.length-1) (Nat.le_refl _) (by omega),fQ (by omega) (by omega) (by omega),if_pos rfl]
 have hpl:(cT xs).length=xs.length:=k2
 have hat:∀k,k<xs.length-1->cz ((cT xs).take (xs.length-1)) k=cz (cT xs) k:=by
   intro k hk
   rw[dm (by rw[List.length_take];omega),dm (by omega),List.getElem_take]
 refine⟨λk h1 h2=>?_,hpl,e1,?_⟩
 · rw[hat k h2,hat _ (by omega)];exact k1 k h1 h2
 · have p1:(cT xs).Perm xs:=k3.trans (dO (by omega) (by omega))
   have e2:cT xs=(cT xs).take (xs.length-1)++[cz xs 0]:=by
     rw[<-e1,dm (by omega)]
     have:=List.take_append_getElem (i:=xs.length-1) (show xs.length-1<(cT xs).length by omega)
     rw[this,List.take_of_length_le (by omega)]
   have p2:((cT xs).take (xs.length-1)++[cz xs 0]).Perm (cz xs 0::(cT xs).take (xs.length-1)):=List.perm_append_comm
   rw[<-e2] at p2
   exact p1.symm.trans p2
end TL
namespace TL
theorem qJ{a b:Pl}(h:¬a.1=b.1):decide (a.1<b.1)=decide (cv a b):=by rw[decide_eq_decide];unfold cv;omega
theorem qy{a b:Pl}(h:a.1=b.1):decide (a.2<b.2)=decide (cv a b):=by rw[decide_eq_decide];unfold cv;omega
end TL
/-
  TlWay: ways of the least weight (package path): what From tells, as the document does it (the nearest node that is not settled, again and again), and that a heap of waiting nodes finds the same.
  By an AI agent.
-/
set_option linter.all false
namespace TL
abbrev FS:=List Nat×List Int
def dd(g:aM)(ws:List Nat):Int:=if aY g/\ws.length=g.2.length then(if∀x∈ws,dS x then 0 else 13) else 1
def ch(g:aM)(ws:List Nat)(d:Nat)(s:FS)(h:Int):FS:=
 if zf (gI ws (h/2))=az then s else if aU d (zf (gI ws (h/2)))<gI s.1 (cA g h) then(s.1.set (cA g h).toNat (aU d (zf (gI ws (h/2)))),s.2.set (cA g h).toNat h) else s
def dV(g:aM)(ws:List Nat)(d:Nat)(hs:List Int)(s:FS):FS:=hs.foldl (ch g ws d) s
def bz(far:List Nat)(se:List Bool):Nat->Int
 |0=> -1
 |k+1=>if gI se (k:Int)=false/\gI far (k:Int)<az/\(bz far se k<0\/gI far (k:Int)<gI far (bz far se k)) then(k:Int) else bz far se k
def hZ(g:aM)(ws:List Nat):Nat->FS->List Bool->FS
 |0,s,_=>s
 |f+1,s,se=>if bz s.1 se g.1.toNat<0 then s else hZ g ws f (dV g ws (gI s.1 (bz s.1 se g.1.toNat)) (gI (af g) (bz s.1 se g.1.toNat)) s) (se.set (bz s.1 se g.1.toNat).toNat true)
def ci(n:Nat)(s:Int):FS:=((List.replicate n az).set s.toNat 0,List.replicate n (-1))
def fV(g:aM)(ws:List Nat)(s:Int):FS:=hZ g ws g.1.toNat (ci g.1.toNat s) (List.replicate g.1.toNat false)
def av(g:aM)(ws:List Nat)(s:Int):FS×Int:=if dd g ws=0 then(if 0<=s/\s<g.1 then(fV g ws s,0) else(([],[]),2)) else(([],[]),dd g ws)
theorem qh{g:aM}{ws:List Nat}(h:dd g ws=0):aY g/\ws.length=g.2.length/\∀x∈ws,dS x:=by
 unfold dd at h
 by_cases c:aY g/\ws.length=g.2.length
 · rw[if_pos c] at h
   by_cases d:∀x∈ws,dS x
   · exact⟨c.1,c.2,d⟩
   · rw[if_neg d] at h;exact absurd h (by decide)
 · rw[if_neg c] at h;exact absurd h (by decide)
theorem kw{g:aM}{ws:List Nat}{s:Int}(h:¬dd g ws=0):av g ws s=(([],[]),dd g ws):=by unfold av;rw[if_neg h]
theorem gM{g:aM}{ws:List Nat}{s:Int}(h:dd g ws=0)(h2:¬(0<=s/\s<g.1)):av g ws s=(([],[]),2):=by unfold av;rw[if_pos h,if_neg h2]
theorem jg{g:aM}{ws:List Nat}{s:Int}(h:dd g ws=0)(h2:0<=s/\s<g.1):av g ws s=(fV g ws s,0):=by unfold av;rw[if_pos h,if_pos h2]
-- what is picked
theorem jb(far:List Nat)(se:List Bool):∀k,bz far se k<k
 |0=>by unfold bz;omega
 |k+1=>by
   have:=jb far se k
   unfold bz;split<;>omega
def dz(far:List Nat)(se:List Bool)(v:Int):Prop:=gI se v=false/\gI far v<az
theorem i9{far:List Nat}{se:List Bool}:∀{k:Nat},(∀v:Nat,v<k->¬dz far se v)->bz far se k= -1
 |0,_=>rfl
 |k+1,h=>by
   have i:=i9 (k:=k) (λv hv=>h v (by omega))
   unfold bz
   rw[if_neg,i]
   intro c
   exact h k (by omega) ⟨c.1,c.2.1⟩
theorem kB{far:List Nat}{se:List Bool}{u:Nat}(hu:dz far se u):∀{k:Nat},u<k->(∀v:Nat,v<k->dz far se v->¬cv (gI far v,(v:Int)) (gI far u,(u:Int)))->bz far se k=u
  |0,h,_=>by omega
  |k+1,h,hm=>by
    unfold bz
    by_cases e:u=k
    · subst e
      rw[if_pos]
      refine⟨hu.1,hu.2,?_⟩
      by_cases c:bz far se u<0
      · exact .inl c
      · right
        -- what was picked ahead of it waits and is farther
        have aux:∀k,¬bz far se k<0->dz far se (bz far se k):=by
          intro k
          induction k with
          |zero=>intro c;unfold bz at c;omega
          |succ k ih=>
            intro c
            unfold bz at c ⊢
            split
            · rename_i d;exact⟨d.1,d.2.1⟩
            · rename_i d;rw[if_neg d] at c;exact ih c
        have h1:=aux u c
        have h2:=jb far se u
        obtain⟨v,hv⟩:∃v:Nat,bz far se u=v:=⟨(bz far se u).toNat,by omega⟩
        rw[hv] at h1 h2 ⊢
        have:=hm v (by omega) h1
        unfold cv at this
        simp only at this
        omega
    · have i:=kB hu (k:=k) (by omega) (λv hv=>hm v (by omega))
      rw[i,if_neg]
      intro c
      have:=hm k (by omega) ⟨c.1,c.2.1⟩
      have c3:=c.2.2
      unfold cv at this
      simp only at this
      omega
-- once all are settled no more rounds matter
def eJ(se:List Bool):Nat:=se.count false
theorem g5{se:List Bool}{u:Nat}(hu:u<se.length)(h:gI se (u:Int)=false):eJ (se.set u true)+1=eJ se:=by
 have e:se[u]=false:=by
   have:gI se (u:Int)=se[u]:=by simp[gI,hu]
   rw[<-this];exact h
 unfold eJ
 have hp:0<se.count false:=List.count_pos_iff.2 (e▸List.getElem_mem hu)
 rw[List.count_set hu,e]
 simp
 omega
end TL
namespace TL
theorem mu{x:Nat}(h:x<=az):co x=x:=by unfold co;rw[o6 h];rfl
theorem q6{g:aM}{ws:List Nat}(h:¬decide (aY g)=true):dd g ws=1:=by unfold dd;rw[if_neg];exact λc=>h (decide_eq_true c.1)
theorem qD{g:aM}{ws:List Nat}(h:¬(ws.length:Int)=(g.2.length:Int)):dd g ws=1:=by unfold dd;rw[if_neg];exact λc=>h (by rw[c.2])
theorem qW{g:aM}{ws:List Nat}{k:Int}(hm:decide (aY g)=true)(hl:(ws.length:Int)=(g.2.length:Int))(hk:0<=k/\k<ws.length)(h:¬eK (gI ws k) 0=true):dd g ws=13:=by
 unfold dd
 rw[if_pos ⟨of_decide_eq_true hm,by omega⟩,if_neg]
 exact λc=>h (c _ (bh hk.1 hk.2))
theorem pE{ws:List Nat}{k:Nat}(h:∀i:Nat,i<k->dS (gI ws (i:Int)))(hk:eK (gI ws (k:Int)) 0=true):∀i:Nat,i<k+1->dS (gI ws (i:Int)):=by
 intro i hi
 by_cases e:i=k
 · subst e;exact hk
 · exact h i (by omega)
theorem qo{g:aM}{ws:List Nat}{k:Nat}(hm:decide (aY g)=true)(hl:(ws.length:Int)=(g.2.length:Int))(h:∀i:Nat,i<k->dS (gI ws (i:Int)))(hk:¬(k:Int)<ws.length):dd g ws=0:=by
 unfold dd
 rw[if_pos ⟨of_decide_eq_true hm,by omega⟩,if_pos]
 intro x hx
 obtain⟨i,hi,e⟩:=List.mem_iff_getElem.1 hx
 have:=h i (by omega)
 simp only[gI,Int.toNat_natCast,List.getD_eq_getElem?_getD,List.getElem?_eq_getElem hi,Option.getD_some] at this
 rw[<-e];exact this
end TL
/-
  TlDfs: components found by a stack: the document's way.
  By an AI agent.
-/
set_option linter.all false
namespace TL
theorem gZ{g:aM}{v:Int}(h0:0<=v)(h1:v<g.1):gI (af g) v=cS g v:=by
 unfold af gI
 have:v.toNat<g.1.toNat:=by omega
 simp[List.getD_eq_getElem?_getD,this]
 congr 1
 omega
theorem lC(g:aM)(h:0<=g.1):((af g).length:Int)=g.1:=by simp[af];omega
section
variable{g:aM}{c0 c todo x:List Int}{n s:Int}
variable{v:Int}{k M:Nat}
end
end TL
/-
  TlWayH: From with a heap: what holds while it runs.
  By an AI agent.
-/
set_option linter.all false
namespace TL
theorem dx{xs:List Pl}{i:Int}(h:0<=i):cz xs i.toNat=gI xs i:=by unfold cz;rw[Int.toNat_of_nonneg h]
theorem kq{xs:List Pl}{i j:Int}(hi:0<=i)(hj:0<=j):(xs.set i.toNat (gI xs j)).set j.toNat (gI xs i)=jV xs i.toNat j.toNat:=by
 unfold jV;rw[dx hi,dx hj]
-- down
structure jW(q xd:List Pl)(i:Int):Prop where
 len:xd.length=q.length
 perm:xd.Perm q
 i0:0<=i
 i1:i<q.length
 fin:∃f,q.length<=f+i.toNat+1/\dn f xd i.toNat (q.length-1)=cT q
theorem jW.start{q:List Pl}(h:0<(q.length:Int)):jW q ((q.set (Int.toNat 0) (gI q ((q.length:Int)-1))).set (Int.toNat ((q.length:Int)-1)) (gI q 0)) 0:=by
 rw[kq (by omega) (by omega)]
 have e:Int.toNat ((q.length:Int)-1)=q.length-1:=by omega
 rw[e]
 exact⟨cq _ _ _,dO (by simp;omega) (by omega),by omega,h,q.length-1,by simp;omega,rfl⟩
theorem jW.end1{q xd:List Pl}{i:Int}(h:jW q xd i)(hc:((q.length:Int)-1)<=((2*i)+1)):xd=cT q:=by
 obtain⟨f,h1,h2⟩:=h.fin
 have i0:=h.i0
 rw[<-h2]
 cases f with
 |zero=>rfl
 |succ f=>unfold dn;rw[if_pos (by omega)]
theorem jW.end2{q xd:List Pl}{i c:Int}(h:jW q xd i)(hn:¬((q.length:Int)-1)<=((2*i)+1))(hc:(i3 xd i.toNat (q.length-1):Int)=c)(hl:¬(decide (cv (gI xd c) (gI xd i)))=true):xd=cT q:=by
 obtain⟨f,h1,h2⟩:=h.fin
 have i0:=h.i0
 rw[<-h2]
 cases f with
 |zero=>rfl
 |succ f=>
   unfold dn;rw[if_neg (by omega),if_neg]
   intro k
   apply hl
   rw[dx i0] at k
   rw[<-hc]
   exact decide_eq_true k
theorem jW.next{q xd:List Pl}{i c:Int}(h:jW q xd i)(hn:¬((q.length:Int)-1)<=((2*i)+1))(hc:(i3 xd i.toNat (q.length-1):Int)=c)(hl:(decide (cv (gI xd c) (gI xd i)))=true):jW q ((xd.set i.toNat (gI xd c)).set c.toNat (gI xd i)) c:=by
 obtain⟨f,h1,h2⟩:=h.fin
 have i0:=h.i0
 have hlen:=h.len
 have c0:0<=c:=by omega
 obtain⟨k1,k2,k3,k4⟩:=iW (xs:=xd) (i:=i.toNat) (n:=q.length-1) (by omega)
 rw[kq i0 c0]
 have e:i3 xd i.toNat (q.length-1)=c.toNat:=by omega
 refine⟨by rw[cq,hlen],(dO (by omega) (by omega)).trans h.perm,c0,by omega,?_⟩
 cases f with
 |zero=>omega
 |succ f=>
   refine⟨f,by omega,?_⟩
   rw[<-h2]
   conv=>rhs;unfold dn
   rw[if_neg (by omega),if_pos,e]
   rw[dx i0,e,dx c0]
   exact of_decide_eq_true hl
theorem pV{xd:List Pl}{n:Nat}{i:Int}(i0:0<=i)(h:(((2*i)+1)+1)<((n:Int)-1))(hp:(decide (cv (gI xd (((2*i)+1)+1)) (gI xd ((2*i)+1))))=true):(i3 xd i.toNat (n-1):Int)=((2*i)+1)+1:=by
 unfold i3
 have hp:=of_decide_eq_true hp
 have e1:cz xd (2*i.toNat+1+1)=gI xd (((2*i)+1)+1):=by rw[<-dx (by omega)];congr 1;omega
 have e2:cz xd (2*i.toNat+1)=gI xd ((2*i)+1):=by rw[<-dx (by omega)];congr 1;omega
 rw[if_pos ⟨by omega,by rw[e1,e2];exact hp⟩];omega
theorem kD{xd:List Pl}{n:Nat}{i:Int}(i0:0<=i)(h:¬(((2*i)+1)+1)<((n:Int)-1)\/¬(decide (cv (gI xd (((2*i)+1)+1)) (gI xd ((2*i)+1))))=true):(i3 xd i.toNat (n-1):Int)=(2*i)+1:=by
 unfold i3
 have e1:cz xd (2*i.toNat+1+1)=gI xd (((2*i)+1)+1):=by rw[<-dx (by omega)];congr 1;omega
 have e2:cz xd (2*i.toNat+1)=gI xd ((2*i)+1):=by rw[<-dx (by omega)];congr 1;omega
 rw[if_neg,show((2*i.toNat+1:Nat):Int)=2*i+1 by omega]
 rintro⟨a,b⟩
 rw[e1,e2] at b
 rcases h with h|h
 · omega
 · exact h (decide_eq_true b)
theorem jW.nn{q xd:List Pl}{i:Int}(h:jW q xd i)(hq:∀x∈q,x.1<=az):∀x∈xd,x.1<=az:=λx hx=>hq x (h.perm.mem_iff.1 hx)
-- up
def pn(l:List Pl):List Pl:=up (l.length-1) l (l.length-1)
theorem pk(q:List Pl)(x:Pl):i7 q x=pn (q++[x]):=by unfold i7 pn;rw[List.length_append];rfl
structure kY(l xu:List Pl)(j:Int):Prop where
 len:xu.length=l.length
 perm:xu.Perm l
 j0:0<=j
 j1:j<l.length
 fin:∃f,j.toNat<=f/\up f xu j.toNat=pn l
theorem kY.start{l:List Pl}(h:0<(l.length:Int)):kY l l ((l.length:Int)-1):=
 ⟨rfl,List.Perm.refl _,by omega,by omega,l.length-1,by omega,by rw[show((l.length:Int)-1).toNat=l.length-1 by omega];rfl⟩
theorem kY.end1{l xu:List Pl}{j:Int}(h:kY l xu j)(hc:Int.tdiv (j-1) 2=j):xu=pn l:=by
 obtain⟨f,h1,h2⟩:=h.fin
 have j0:=h.j0
 have:j=0:=by
   rcases Int.lt_or_le 0 j with c|c
   · rw[Int.tdiv_eq_ediv_of_nonneg (by omega)] at hc;omega
   · omega
 subst this
 rw[<-h2]
 cases f with
 |zero=>rfl
 |succ f=>unfold up;rw[if_pos (.inl (by decide))]
theorem ec{j:Int}(j0:0<=j)(hc:¬Int.tdiv (j-1) 2=j):1<=j/\Int.tdiv (j-1) 2=(j-1)/2:=by
 by_cases c:1<=j
 · exact⟨c,Int.tdiv_eq_ediv_of_nonneg (by omega)⟩
 · have:j=0:=by omega
   subst this
   exact absurd (by decide) hc
theorem kY.end2{l xu:List Pl}{j:Int}(h:kY l xu j)(hc:¬Int.tdiv (j-1) 2=j)(hl:¬(decide (cv (gI xu j) (gI xu (Int.tdiv (j-1) 2))))=true):xu=pn l:=by
 obtain⟨f,h1,h2⟩:=h.fin
 have j0:=h.j0
 obtain⟨c1,c2⟩:=ec j0 hc
 rw[<-h2]
 cases f with
 |zero=>rfl
 |succ f=>
   have hh:¬cv (cz xu j.toNat) (cz xu ((j.toNat-1)/2)):=by
     intro k
     apply hl
     rw[c2,<-dx j0,<-dx (by omega),show((j-1)/2).toNat=(j.toNat-1)/2 by omega]
     exact decide_eq_true k
   unfold up;rw[if_pos (.inr hh)]
theorem kY.next{l xu:List Pl}{j:Int}(h:kY l xu j)(hc:¬Int.tdiv (j-1) 2=j)(hl:(decide (cv (gI xu j) (gI xu (Int.tdiv (j-1) 2))))=true):kY l ((xu.set (Int.tdiv (j-1) 2).toNat (gI xu j)).set j.toNat (gI xu (Int.tdiv (j-1) 2))) (Int.tdiv (j-1) 2):=by
 obtain⟨f,h1,h2⟩:=h.fin
 have j0:=h.j0
 have j1:=h.j1
 have hlen:=h.len
 obtain⟨c1,c2⟩:=ec j0 hc
 rw[c2] at hl ⊢
 rw[kq (by omega) j0]
 refine⟨by rw[cq,hlen],(dO (by omega) (by omega)).trans h.perm,by omega,by omega,?_⟩
 cases f with
 |zero=>omega
 |succ f=>
   refine⟨f,by omega,?_⟩
   rw[<-h2]
   conv=>rhs;unfold up
   have e:((j-1)/2).toNat=(j.toNat-1)/2:=by omega
   rw[if_neg,e]
   rintro(k|k)
   · omega
   · apply k
     rw[dx j0,<-e,dx (by omega)]
     exact of_decide_eq_true hl
theorem kY.nn{l xu:List Pl}{j:Int}(h:kY l xu j)(hq:∀y∈l,y.1<=az):∀y∈xu,y.1<=az:=λy hy=>hq y (h.perm.mem_iff.1 hy)
-- all of it
structure rM(g:aM)(q:List Pl)(far:List Nat)(by_:List Int)(se:List Bool):Prop where
  lf:(far.length:Int)=g.1
  lb:(by_.length:Int)=g.1
  ls:(se.length:Int)=g.1
  hp:eV q q.length
  nn:∀x∈far,x<=az
  qin:∀p∈q,(0<=p.2/\p.2<g.1)/\p.1<az/\gI far p.2<=p.1
  cov:∀v:Int,0<=v->v<g.1->dz far se v->(gI far v,v)∈q
def gP(g:aM)(q:List Pl)(se:List Bool):Nat:=eJ se*(2*g.2.length+1)+q.length
structure WI(g:aM)(ws:List Nat)(s:Int)(q:List Pl)(far:List Nat)(by_:List Int)(se:List Bool):Prop where
 h:rM g q far by_ se
 res:∃f,eJ se<=f/\hZ g ws f (far,by_) se=fV g ws s
 sz:gP g q se<=1024*6145+1
theorem rM.qn{g:aM}{q:List Pl}{far:List Nat}{by_:List Int}{se:List Bool}(h:rM g q far by_ se):∀p∈q,p.1<=az:=λp hp=>Nat.le_of_lt (h.qin p hp).2.1
theorem WI.ql{g:aM}{ws:List Nat}{s:Int}{q:List Pl}{far:List Nat}{by_:List Int}{se:List Bool}(h:WI g ws s q far by_ se):(q.length:Int)<=6292481:=by
 have:=h.sz;unfold gP at this;omega
theorem dC{α:Type}[Inhabited α]{n:Nat}{x:α}{v:Int}(h0:0<=v)(h1:v<n):gI (List.replicate n x) v=x:=by
 obtain⟨k,rfl⟩:∃k:Nat,v=(k:Int):=⟨v.toNat,by omega⟩
 have:k<n:=by omega
 simp[gI,this]
theorem WI.start{g:aM}{ws:List Nat}{s:Int}(hm:aY g)(h0:0<=s)(h1:s<g.1):WI g ws s [(0,s)] (ci g.1.toNat s).1 (ci g.1.toNat s).2 (List.replicate g.1.toNat false):=by
 obtain⟨m1,m2,m3,m4⟩:=hm
 have hf:∀v:Int,0<=v->v<g.1->gI (ci g.1.toNat s).1 v=if v=s then 0 else az:=by
   intro v v0 v1
   unfold ci
   rw[bx h0 (by simp;omega) v0]
   by_cases e:v=s
   · rw[if_pos e,if_pos e]
   · rw[if_neg e,if_neg e,dC v0 (by omega)]
 refine⟨⟨by simp[ci];omega,by simp[ci];omega,by simp;omega,λk h1 h2=>by simp at h2;omega,?_,?_,?_⟩,⟨g.1.toNat,?_,rfl⟩,?_⟩
 · intro x hx
   unfold ci at hx
   rcases List.mem_or_eq_of_mem_set hx with e|e
   · rw[List.eq_of_mem_replicate e];exact Nat.le_refl _
   · rw[e];exact Nat.zero_le _
 · intro p hp
   rw[List.mem_singleton] at hp
   subst hp
   refine⟨⟨h0,h1⟩,(show 0<az by decide),?_⟩
   show gI (ci g.1.toNat s).1 s<=0
   rw[hf s h0 h1,if_pos rfl];exact Nat.le_refl _
 · intro v v0 v1 hw
   have h2:=hw.2
   rw[hf v v0 v1] at h2 ⊢
   by_cases e:v=s
   · subst e;rw[if_pos rfl];exact List.mem_singleton.2 rfl
   · rw[if_neg e] at h2;exact absurd h2 (Nat.lt_irrefl _)
 · unfold eJ;rw[List.count_replicate];simp
 · unfold gP eJ;rw[List.count_replicate]
   simp only[beq_self_eq_true,if_true,List.length_singleton]
   have:g.1.toNat*(2*g.2.length+1)<=1024*6145:=Nat.mul_le_mul (by omega) (by omega)
   omega
end TL
/-
  TlWayI: From with a heap: one round.
  By an AI agent.
-/
set_option linter.all false
namespace TL
variable{g:aM}{ws:List Nat}{s:Int}{q r:List Pl}{p:Pl}{far:List Nat}{by_:List Int}{se:List Bool}
structure ly(g:aM)(q:List Pl)(far:List Nat)(p:Pl)(r:List Pl):Prop where
 p2:0<=p.2/\p.2<g.1
 p1:p.1<az
 pf:gI far p.2<=p.1
 len:r.length+1=q.length
 hp:eV r r.length
 perm:q.Perm (p::r)
 min:∀x∈q,¬cv x p
theorem WI.pop{xj:List Pl}{L:Int}(h:WI g ws s q far by_ se)(hq:0<(q.length:Int))(hj:xj=cT q)(hL:L=(q.length:Int)-1):ly g q far (gI xj L) (xj.take L.toNat):=by
 have hq':0<q.length:=by omega
 obtain⟨h1,h2,h3,h4⟩:=gG h.h.hp hq'
 subst hj hL
 have e0:((q.length:Int)-1).toNat=q.length-1:=by omega
 have e1:gI (cT q) ((q.length:Int)-1)=cz q 0:=by
   rw[<-h3,<-dx (by omega),e0]
 rw[e1,e0]
 have hm:cz q 0∈q:=by rw[dm hq'];exact List.getElem_mem _
 have hl:((cT q).take (q.length-1)).length=q.length-1:=by rw[List.length_take,h2];omega
 obtain⟨a1,a2,a3⟩:=h.h.qin _ hm
 refine⟨a1,a2,a3,by rw[hl];omega,by rw[hl];exact h1,h4,λx hx=>?_⟩
 obtain⟨k,hk,e⟩:=List.mem_iff_getElem.1 hx
 have:=nu h.h.hp k hk
 rw[dm hk,e] at this
 exact this
theorem WI.popx{xj:List Pl}(h:WI g ws s q far by_ se)(hq:0<(q.length:Int))(hj:xj=cT q):ly g q far (gI xj ((xj.length:Int)-1)) (xj.take (Int.toNat ((xj.length:Int)-1)))/\xj.length=q.length:=by
 have hl:xj.length=q.length:=by rw[hj];exact(gG h.h.hp (by omega)).2.1
 exact⟨h.pop hq hj (by rw[hl]),hl⟩
theorem ly.ne(pd:ly g q far p r){x:Pl}(hx:x∈q)(h:x.2≠p.2):x∈r:=by
 rcases List.mem_cons.1 (pd.perm.mem_iff.1 hx) with e|e
 · rw[e] at h;exact absurd rfl h
 · exact e
theorem WI.skip(h:WI g ws s q far by_ se)(pd:ly g q far p r)(hs:gI se p.2=true):WI g ws s r far by_ se/\gP g r se<gP g q se:=by
 have hl:=pd.len
 have hm:gP g r se<gP g q se:=by unfold gP;omega
 refine⟨⟨⟨h.h.lf,h.h.lb,h.h.ls,pd.hp,h.h.nn,λx hx=>h.h.qin x (pd.perm.mem_iff.2 (List.mem_cons_of_mem _ hx)),λv v0 v1 hw=>?_⟩,h.res,by have:=h.sz;omega⟩,hm⟩
 refine pd.ne (h.h.cov v v0 v1 hw) (λe=>?_)
 have e:v=p.2:=e
 have:=hw.1
 rw[e,hs] at this
 cases this
structure RI(g:aM)(ws:List Nat)(s:Int)(M:Nat)(u:Int)(d:Nat)(q:List Pl)(far:List Nat)(by_:List Int)(se:List Bool)(k:Nat):Prop where
 h:rM g q far by_ se
 res:∃f,eJ se<=f/\hZ g ws f (dV g ws d ((gI (af g) u).drop k) (far,by_)) se=fV g ws s
 sz:gP g q se+2*g.2.length+2<=M+k
 mx:M<=1024*6145+1
theorem WI.settle(h:WI g ws s q far by_ se)(pd:ly g q far p r)(hs:¬gI se p.2=true):RI g ws s (gP g q se) p.2 p.1 r far by_ (se.set p.2.toNat true) 0:=by
 have hl:=pd.len
 obtain⟨p20,p21⟩:=pd.p2
 have hlf:=h.h.lf
 have hls:=h.h.ls
 have hs':gI se p.2=false:=by simpa using hs
 have hw:dz far se p.2:=⟨hs',Nat.lt_of_le_of_lt pd.pf pd.p1⟩
 have hin:=h.h.cov p.2 p20 p21 hw
 have hd:gI far p.2=p.1:=by
   have:=pd.min _ hin
   have h2:=pd.pf
   unfold cv at this
   simp only at this
   omega
 obtain⟨un,hun⟩:∃un:Nat,p.2=(un:Int):=⟨p.2.toNat,by omega⟩
 have hpk:bz far se g.1.toNat=p.2:=by
   rw[hun]
   refine kB (by rw[<-hun];exact hw) (by omega) (λv hv hwv=>?_)
   have h1:=h.h.cov v (by omega) (by omega) hwv
   have h2:=pd.min _ h1
   rw[<-hun,hd]
   exact h2
 have hu:eJ (se.set un true)+1=eJ se:=g5 (by omega) (by rw[<-hun];exact hs')
 have hT:p.2.toNat=un:=by omega
 rw[hT]
 have gset:∀v:Int,0<=v->gI (se.set un true) v=if v=p.2 then true else gI se v:=by
   intro v v0
   rw[<-hT,bx p20 (by omega) v0]
 refine⟨⟨hlf,h.h.lb,by rw[List.length_set];exact hls,pd.hp,h.h.nn,λx hx=>h.h.qin x (pd.perm.mem_iff.2 (List.mem_cons_of_mem _ hx)),λv v0 v1 hwv=>?_⟩,?_,?_,h.sz⟩
 · have h1:=hwv.1
   rw[gset v v0] at h1
   by_cases e:v=p.2
   · rw[if_pos e] at h1;cases h1
   · rw[if_neg e] at h1
     exact pd.ne (h.h.cov v v0 v1 ⟨h1,hwv.2⟩) e
 · obtain⟨f,f1,f2⟩:=h.res
   cases f with
   |zero=>omega
   |succ f=>
     refine⟨f,by omega,?_⟩
     rw[<-f2]
     conv=>rhs;unfold hZ
     rw[show(far,by_).1=far from rfl,hpk,if_neg (by omega),hd,hT,List.drop_zero]
 · unfold gP
   have e:eJ se=eJ (se.set un true)+1:=hu.symm
   rw[e,Nat.add_mul];omega
theorem gH(d:Nat)(x:Int)(l:List Int)(t:FS):dV g ws d (x::l) t=dV g ws d l (ch g ws d t x):=rfl
variable{M:Nat}{u:Int}{d:Nat}{k:Nat}
theorem RI.same(h:RI g ws s M u d q far by_ se k)(hk:(k:Int)<(gI (af g) u).length)(e:ch g ws d (far,by_) (gI (gI (af g) u) (k:Int))=(far,by_)):RI g ws s M u d q far by_ se (k+1):=by
 refine⟨h.h,?_,by have:=h.sz;omega,h.mx⟩
 have:=h.res
 rw[fA hk,gH,e] at this
 exact this
theorem RI.inf(h:RI g ws s M u d q far by_ se k)(hk:(k:Int)<(gI (af g) u).length)(e:zf (gI ws (gI (gI (af g) u) (k:Int)/2))=az):RI g ws s M u d q far by_ se (k+1):=
 h.same hk (by unfold ch;rw[if_pos e])
theorem RI.no(h:RI g ws s M u d q far by_ se k)(hk:(k:Int)<(gI (af g) u).length)(e:¬aU d (zf (gI ws (gI (gI (af g) u) (k:Int)/2)))<gI far (cA g (gI (gI (af g) u) (k:Int)))):RI g ws s M u d q far by_ se (k+1):=
 h.same hk (by
   unfold ch
   by_cases c:zf (gI ws (gI (gI (af g) u) (k:Int)/2))=az
   · rw[if_pos c]
   · rw[if_neg c];exact if_neg e)
theorem RI.push(h:RI g ws s M u d q far by_ se k)(hk:(k:Int)<(gI (af g) u).length){hh t:Int}{x:Nat}(ehh:gI (gI (af g) u) (k:Int)=hh)(et:cA g hh=t)(ex:aU d (zf (gI ws (hh/2)))=x)(t0:0<=t)(t1:t<g.1)
   (hi:¬zf (gI ws (hh/2))=az)(e:x<gI far t):RI g ws s M u d (i7 q (x,t)) (far.set t.toNat x) (by_.set t.toNat hh) se (k+1):=by
 have hlf:=h.h.lf
 have hlb:=h.h.lb
 obtain⟨p1,p2,p3⟩:=lR (x,t) h.h.hp
 have ht:gI far t<=az:=h.h.nn _ (bh t0 (by omega))
 have gset:∀v:Int,0<=v->gI (far.set t.toNat x) v=if v=t then x else gI far v:=λv v0=>bx t0 (by omega) v0
 refine⟨⟨by rw[List.length_set];exact hlf,by rw[List.length_set];exact hlb,h.h.ls,by rw[p2];exact p1,λy hy=>?_,λy hy=>?_,λv v0 v1 hw=>?_⟩,?_,?_,h.mx⟩
 · rcases List.mem_or_eq_of_mem_set hy with c|c
   · exact h.h.nn _ c
   · rw[c];omega
 · rcases List.mem_cons.1 (p3.mem_iff.1 hy) with c|c
   · subst c
     refine⟨⟨t0,t1⟩,Nat.lt_of_lt_of_le e ht,?_⟩
     show gI (far.set t.toNat x) t<=x
     rw[gset t t0,if_pos rfl];exact Nat.le_refl _
   · obtain⟨a1,a2,a3⟩:=h.h.qin y c
     refine⟨a1,a2,?_⟩
     rw[gset _ a1.1]
     split
     · rename_i e2;rw[e2] at a3;omega
     · exact a3
 · have h2:=hw.2
   rw[gset v v0] at h2 ⊢
   by_cases e2:v=t
   · rw[if_pos e2,e2];exact p3.mem_iff.2 (List.mem_cons_self ..)
   · rw[if_neg e2] at h2 ⊢
     exact p3.mem_iff.2 (List.mem_cons_of_mem _ (h.h.cov v v0 v1 ⟨hw.1,h2⟩))
 · have:=h.res
   rw[fA hk,gH,ehh] at this
   have e3:ch g ws d (far,by_) hh=(far.set t.toNat x,by_.set t.toNat hh):=by
     unfold ch
     rw[if_neg hi,et,ex,if_pos e]
   rw[e3] at this
   exact this
 · have:=h.sz
   unfold gP at this ⊢
   rw[p2];omega
theorem kI(hm:aY g)(u0:0<=u)(u1:u<g.1):(gI (af g) u).length<=2*g.2.length:=by
 rw[gZ u0 u1]
 unfold cS dN
 refine Nat.le_trans (List.length_filter_le _ _) (by simp)
theorem RI.done(hm:aY g)(u0:0<=u)(u1:u<g.1)(h:RI g ws s M u d q far by_ se k)(hk:¬(k:Int)<(gI (af g) u).length)(hle:(k:Int)<=(gI (af g) u).length):WI g ws s q far by_ se/\gP g q se<M:=by
 have h1:=kI hm u0 u1
 have h2:=h.sz
 have h3:=h.mx
 refine⟨⟨h.h,?_,by omega⟩,by omega⟩
 have:=h.res
 rw[List.drop_eq_nil_of_le (by omega)] at this
 exact this
theorem RI.ql(h:RI g ws s M u d q far by_ se k):(q.length:Int)<=6292481+k:=by
 have:=h.sz;have h2:=h.mx;unfold gP at this;omega
theorem WI.done(h:WI g ws s q far by_ se)(hq:¬0<(q.length:Int)):(far,by_)=fV g ws s:=by
 obtain⟨f,_,h2⟩:=h.res
 have hq':q=[]:=List.length_eq_zero_iff.1 (by omega)
 have hlf:=h.h.lf
 rw[<-h2]
 cases f with
 |zero=>rfl
 |succ f=>
   unfold hZ
   rw[if_pos]
   rw[i9 (far:=far) (se:=se)]
   · decide
   · intro v hv hw
     have:=h.h.cov v (by omega) (by omega) hw
     rw[hq'] at this;cases this
theorem ju(hm:aY g)(u0:0<=u)(u1:u<g.1)(hk:(k:Int)<(gI (af g) u).length):0<=gI (gI (af g) u) (k:Int)/\gI (gI (af g) u) (k:Int)<2*(g.2.length:Int)/\aT g (gI (gI (af g) u) (k:Int))=u:=by
 have h1:=bh (xs:=gI (af g) u) (i:=(k:Int)) (by omega) hk
 generalize gI (gI (af g) u) (k:Int)=x at h1 ⊢
 rw[gZ u0 u1] at h1
 unfold cS dN at h1
 obtain⟨a,b⟩:=List.mem_filter.1 h1
 obtain⟨i,hi,rfl⟩:=List.mem_map.1 a
 have:=List.mem_range.1 hi
 exact⟨by omega,by omega,of_decide_eq_true b⟩
end TL
namespace TL
structure eT(g:aM)(f0:List Nat)(b0:List Int)(v:Nat):Prop where
 lf:(f0.length:Int)=g.1
 lb:(b0.length:Int)=g.1
 ff:∀k:Nat,k<v->gI f0 (k:Int)=az
 fb:∀k:Nat,k<v->gI b0 (k:Int)= -1
theorem eT.start{g:aM}(hm:aY g):eT g (List.replicate (Int.toNat g.1) (0:Nat)) (List.replicate (Int.toNat g.1) (0:Int)) 0:=by
 have:=hm.1
 exact⟨by simp;omega,by simp;omega,λk h=>by omega,λk h=>by omega⟩
theorem eT.next{g:aM}{f0:List Nat}{b0:List Int}{v:Nat}(h:eT g f0 b0 v)(hv:(v:Int)<g.1):eT g (f0.set (Int.toNat (v:Int)) az) (b0.set (Int.toNat (v:Int)) (-1)) (v+1):=by
 have h1:=h.lf
 have h2:=h.lb
 refine⟨by rw[List.length_set];exact h1,by rw[List.length_set];exact h2,λk hk=>?_,λk hk=>?_⟩
 · rw[bx (by omega) (by omega) (by omega)]
   by_cases e:(k:Int)=v
   · rw[if_pos e]
   · rw[if_neg e];exact h.ff k (by omega)
 · rw[bx (by omega) (by omega) (by omega)]
   by_cases e:(k:Int)=v
   · rw[if_pos e]
   · rw[if_neg e];exact h.fb k (by omega)
theorem eT.done{g:aM}{ws:List Nat}{s:Int}{f0:List Nat}{b0:List Int}{v:Nat}(h:eT g f0 b0 v)(hm:aY g)(hv:¬(v:Int)<g.1)(s0:0<=s)(s1:s<g.1):WI g ws s [(0,s)] (f0.set s.toNat 0) b0 (List.replicate (Int.toNat g.1) false):=by
 have h1:=h.lf
 have h2:=h.lb
 have e1:f0=List.replicate g.1.toNat az:=by
   apply dB
   · simp;omega
   · intro i hi
     rw[h.ff i (by omega),dC (by omega) (by omega)]
 have e2:b0=List.replicate g.1.toNat (-1):=by
   apply dB
   · simp;omega
   · intro i hi
     rw[h.fb i (by omega),dC (by omega) (by omega)]
 rw[e1,e2]
 exact WI.start hm s0 s1
variable{g:aM}{ws:List Nat}{s:Int}{q:List Pl}{far:List Nat}{by_:List Int}{se:List Bool}{M k:Nat}{u:Int}{d:Nat}
theorem pX(hw:∀x∈ws,dS x)(hl:ws.length=g.2.length){h:Int}(h0:0<=h)(h1:h<2*(g.2.length:Int)):dS (gI ws (h/2)):=hw _ (bh (by omega) (by omega))
theorem RI.inf'(h:RI g ws s M u d q far by_ se k)(hk:(k:Int)<(gI (af g) u).length)(hg:dS (gI ws (gI (gI (af g) u) (k:Int)/2)))(e:ck (gI ws (gI (gI (af g) u) (k:Int)/2)) 9218868437227405311=true):RI g ws s M u d q far by_ se (k+1):=
 h.inf hk (by rw[k8 hg] at e;exact of_decide_eq_true e)
theorem RI.push'(h:RI g ws s M u d q far by_ se k)(hk:(k:Int)<(gI (af g) u).length){hh t:Int}{x:Nat}{qn:List Pl}(ehh:gI (gI (af g) u) (k:Int)=hh)(et:cA g hh=t)(ex:aU d (zf (gI ws (hh/2)))=x)(t0:0<=t)(t1:t<g.1)(hg:dS (gI ws (hh/2)))
   (hi:¬ck (gI ws (hh/2)) 9218868437227405311=true)(e:x<gI far t)(hq:qn=pn (q++[(x,t)])):RI g ws s M u d qn (far.set t.toNat x) (by_.set t.toNat hh) se (k+1):=by
 rw[hq,<-pk]
 exact h.push hk ehh et ex t0 t1 (λc=>hi (by rw[k8 hg];exact decide_eq_true c)) e
end TL
namespace TL
variable{g:aM}{ws:List Nat}{s:Int}{q:List Pl}{far:List Nat}{by_:List Int}{se:List Bool}{M k:Nat}{u:Int}{d:Nat}
theorem RI.fnn(h:RI g ws s M u d q far by_ se k){t:Int}(t0:0<=t)(t1:t<g.1):gI far t<=az:=h.h.nn _ (bh t0 (by have:=h.h.lf;omega))
end TL
/-
  TlWayT: the way that leads to a node, from how the nodes were reached (package path's To), as the document has it.
  By an AI agent.
-/
set_option linter.all false
namespace TL
def ek(g:aM)(by_:List Int):Nat->Int->List Int->List Int×Int
 |0,v,l=>if gI by_ v= -1 then(l,0) else([],14)
 |f+1,v,l=>if gI by_ v= -1 then(l,0) else if gI by_ v<0\/2*(g.2.length:Int)<=gI by_ v\/¬cA g (gI by_ v)=v then([],14) else ek g by_ f (aT g (gI by_ v)) (gI by_ v::l)
def eA(fs:FS)(g:aM):Prop:=aY g/\(fs.1.length:Int)=g.1/\(fs.2.length:Int)=g.1
instance (fs:FS)(g:aM):Decidable (eA fs g):=by unfold eA;infer_instance
def dw(fs:FS)(g:aM)(t:Int):List Int×Int:=
 if eA fs g then(if 0<=t/\t<g.1 then(if ck (gI fs.1 t) 9218868437227405311=true then([],14) else ek g fs.2 g.1.toNat t []) else([],2)) else([],1)
variable{fs:FS}{g:aM}{t v:Int}{l:List Int}{n:Nat}
theorem lW(h:¬eA fs g):dw fs g t=([],1):=by unfold dw;rw[if_neg h]
theorem pt(h:eA fs g)(h2:¬(0<=t/\t<g.1)):dw fs g t=([],2):=by unfold dw;rw[if_pos h,if_neg h2]
theorem rH(h:eA fs g)(h2:0<=t/\t<g.1)(h3:ck (gI fs.1 t) 9218868437227405311=true):dw fs g t=([],14):=by unfold dw;rw[if_pos h,if_pos h2,if_pos h3]
theorem hG(h:eA fs g)(h2:0<=t/\t<g.1)(h3:¬ck (gI fs.1 t) 9218868437227405311=true):dw fs g t=ek g fs.2 g.1.toNat t []:=by unfold dw;rw[if_pos h,if_pos h2,if_neg h3]
structure lZ(g:aM)(by_:List Int)(t v:Int)(l:List Int)(n:Nat):Prop where
  v0:0<=v
  v1:v<g.1
  ll:l.length=n
  ln:(n:Int)<=g.1
  eq:ek g by_ (g.1.toNat-n) v l=ek g by_ g.1.toNat t []
variable{by_:List Int}
theorem lZ.start(t0:0<=t)(t1:t<g.1):lZ g by_ t t [] 0:=⟨t0,t1,rfl,by omega,rfl⟩
theorem lZ.fin(h:lZ g by_ t v l n)(hv:gI by_ v= -1):ek g by_ g.1.toNat t []=(l,0):=by
 rw[<-h.eq]
 cases g.1.toNat-n<;>(unfold ek;rw[if_pos hv])
theorem lZ.no(h:lZ g by_ t v l n)(hv:¬gI by_ v= -1)(hh:(n:Int)=g.1\/gI by_ v<0\/2*(g.2.length:Int)<=gI by_ v\/¬cA g (gI by_ v)=v):ek g by_ g.1.toNat t []=([],14):=by
 rw[<-h.eq]
 have h1:=h.ln
 cases hc:g.1.toNat-n with
 |zero=>unfold ek;rw[if_neg hv]
 |succ k=>
   unfold ek;rw[if_neg hv,if_pos]
   rcases hh with e|e
   · omega
   · exact e
theorem lZ.next(hm:aY g)(h:lZ g by_ t v l n)(hv:¬gI by_ v= -1)(hn:¬(n:Int)=g.1)(h0:¬gI by_ v<0)(h1:¬2*(g.2.length:Int)<=gI by_ v)(h2:cA g (gI by_ v)=v):lZ g by_ t (aT g (gI by_ v)) (gI by_ v::l) (n+1):=by
 have hl:=h.ln
 obtain⟨a,b⟩:=bS hm (h:=gI by_ v) (by omega) (by omega)
 refine⟨a,b,by rw[List.length_cons,h.ll],by omega,?_⟩
 rw[<-h.eq]
 have e:g.1.toNat-n=(g.1.toNat-(n+1))+1:=by omega
 rw[e]
 conv=>rhs;unfold ek
 rw[if_neg hv,if_neg]
 rintro(c|c|c)
 · exact h0 c
 · exact h1 c
 · exact c h2
end TL
/-
  TlFloat4: a sum of numbers that are at least 0 is not less than either; sums of small whole numbers are the whole numbers' sums.
  By an AI agent.
-/
set_option linter.all false
namespace TL
open Ieee
theorem qH{x:Nat}:x=pl x*4503599627370496+mg x:=by
 unfold mg pl
 split<;>omega
theorem r6{T x:Nat}(hx:x<az)(h:vl x<=T):x<=rd T:=by
 by_cases h0:x=0
 · subst h0;exact Nat.zero_le _
 have hm:mg x≠0:=λe=>h0 (iG.1 e)
 have hv:vl x≠0:=by
   intro e;rcases Nat.mul_eq_zero.1 e with c|c
   · exact hm c
   · have:=Nat.two_pow_pos (pl x);omega
 have hT:T≠0:=by omega
 unfold rd
 rw[if_neg hT]
 refine Nat.le_min.2 ⟨?_,Nat.le_of_lt hx⟩
 have hc:T/2^(T.log2-52)<=iL T (T.log2-52):=Nat.le_add_right _ _
 have hL:=Nat.lt_log2_self (n:=T)
 have hlo:=Nat.log2_self_le hT
 have ex:=qH (x:=x)
 have mlt:=pY x
 by_cases c1:pl x<T.log2-52
 · have h1:4503599627370496<=T/2^(T.log2-52):=by
     refine(Nat.le_div_iff_mul_le (Nat.two_pow_pos _)).2 ?_
     rw[show(4503599627370496:Nat)=2^52 by decide,<-Nat.pow_add]
     exact Nat.le_trans (Nat.pow_le_pow_right (by omega) (by omega)) hlo
   omega
 · by_cases c2:T.log2-52<pl x
   · exfalso
     have hn:¬x<4503599627370496:=by
       intro c;unfold pl at c2;omega
     have e1:4503599627370496<=mg x:=by unfold mg;rw[if_neg hn];omega
     have h2:2^(52+pl x)<=vl x:=by
       unfold vl;rw[Nat.pow_add];exact Nat.mul_le_mul_right _ e1
     have h3:2^(T.log2+1)<=2^(52+pl x):=Nat.pow_le_pow_right (by omega) (by omega)
     omega
   · have e:pl x=T.log2-52:=by omega
     have h1:mg x<=T/2^(T.log2-52):=by
       refine(Nat.le_div_iff_mul_le (Nat.two_pow_pos _)).2 ?_
       rw[<-e];exact h
     omega
theorem qu{x y:Nat}(hx:x<=az)(hy:y<=az):x<=aU x y:=by
 rcases Nat.lt_or_ge x az with c|c
 · rcases Nat.lt_or_ge y az with d|d
   · rw[mA c d];exact r6 c (Nat.le_add_right _ _)
   · obtain rfl:y=az:=Nat.le_antisymm hy d
     have:aU x az=az:=by
       unfold aU Format.add
       rw[cm c,cZ]
       rfl
     rw[this];exact hx
 · obtain rfl:x=az:=Nat.le_antisymm hx c
   have:aU az y=az:=by
     unfold aU Format.add
     rw[cZ]
     rcases ga hy with⟨m,i,e⟩|e<;>rw[e]<;>rfl
   rw[this];exact Nat.le_refl _
theorem fx{n:Nat}(h:n<9007199254740992):c8 n<az/\vl (c8 n)=n*2^1074:=by
  have hI:az=9218868437227405312:=rfl
  by_cases h0:n=0
  · subst h0
    rw[ct]
    refine⟨by decide,?_⟩
    generalize(2:Nat)^1074=K
    rw[Nat.zero_mul];rfl
  have hL:n.log2<53:=(Nat.log2_lt h0).2 h
  have hlo:=Nat.log2_self_le h0
  have hhi:=Nat.lt_log2_self (n:=n)
  obtain⟨L,eL⟩:∃L,L=n.log2:=⟨_,rfl⟩
  rw[<-eL] at hL hlo hhi
  obtain⟨m,em⟩:∃m,m=n*2^(52-L):=⟨_,rfl⟩
  have m1:4503599627370496<=m:=by
    rw[em,show(4503599627370496:Nat)=2^L*2^(52-L) by rw[<-Nat.pow_add,show L+(52-L)=52 by omega]]
    exact Nat.mul_le_mul_right _ hlo
  have m2:m<9007199254740992:=by
    rw[em,show(9007199254740992:Nat)=2^(L+1)*2^(52-L) by rw[<-Nat.pow_add,show L+1+(52-L)=53 by omega]]
    exact Nat.mul_lt_mul_of_pos_right hhi (Nat.two_pow_pos _)
  have hx:(1022+L)*4503599627370496+m<az:=by omega
  have hv:vl ((1022+L)*4503599627370496+m)=n*2^1074:=by
    have e1:mg ((1022+L)*4503599627370496+m)=m:=by unfold mg;rw[if_neg (by omega)];omega
    have e2:pl ((1022+L)*4503599627370496+m)=1022+L:=by unfold pl;omega
    unfold vl
    rw[e1,e2,em,Nat.mul_assoc,<-Nat.pow_add,show 52-L+(1022+L)=1074 by omega]
  have e:=rh hx
  rw[hv,<-l5] at e
  rw[e]
  exact⟨hx,hv⟩
theorem dP{a b:Nat}(h:a+b<9007199254740992):aU (c8 a) (c8 b)=c8 (a+b):=by
 obtain⟨a1,a2⟩:=fx (n:=a) (by omega)
 obtain⟨b1,b2⟩:=fx (n:=b) (by omega)
 rw[mA a1 b1,a2,b2,l5,Nat.add_mul]
theorem gv{a b:Nat}(hb:b<9007199254740992)(h:a<b):c8 a<c8 b:=by
 obtain⟨a1,a2⟩:=fx (n:=a) (by omega)
 obtain⟨b1,b2⟩:=fx (n:=b) hb
 rcases Nat.lt_or_ge (c8 a) (c8 b) with c|c
 · exact c
 · exfalso
   have h2:=rG c
   rw[a2,b2] at h2
   have hp:=Nat.two_pow_pos 1074
   generalize(2:Nat)^1074=K at h2 hp
   have:=Nat.le_of_mul_le_mul_right h2 hp
   omega
theorem gu{a b:Nat}(hb:b<9007199254740992)(h:a<=b):c8 a<=c8 b:=by
 rcases Nat.lt_or_ge a b with c|c
 · exact Nat.le_of_lt (gv hb c)
 · rw[Nat.le_antisymm h c];exact Nat.le_refl _
theorem mP{a b:Nat}(ha:a<9007199254740992)(hb:b<9007199254740992)(h:c8 a=c8 b):a=b:=by
 rcases Nat.lt_trichotomy a b with c|c|c
 · have:=gv hb c;omega
 · exact c
 · have:=gv ha c;omega
theorem cN{n:Nat}(h:n<9007199254740992):c8 n<az:=(fx h).1
end TL
