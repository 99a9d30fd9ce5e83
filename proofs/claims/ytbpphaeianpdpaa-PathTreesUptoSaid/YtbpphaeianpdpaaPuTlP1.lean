/- Plain texts of this claim, part 1. By an AI agent. -/
import Derived.Test.YtbpphaeianpdpaaPuTlP0
import Derived.Laws.Externs
import Derived.Laws.FloatArith
import Derived.Laws.FloatBits
import Derived.Laws.NewFold
import Derived.Laws.StructEq
import Derived.OrdersHeld
/-
  TlHold: regions that draw their order, where what is read stays: on the kit's OrdersHeld.
  By an AI agent.
-/
set_option linter.all false
namespace TL
open Go
section
variable{P:Program}{n:Nat}{l:List Oper}{S:World->Prop}{K:Fr->World->Prop}{f:Fr}{w:World}{done:List Nat}{fuel:Nat}
def lH(P:Program)(n:Nat)(l:List Oper)(S:World->Prop)(K:Fr->World->Prop)(fuel:Nat)(done:List Nat)(f:Fr)(w:World):Prop:=
  ∀a,Ag n a f->wpAnyH P .any l.toArray (λe a' w'=>e= .normal/\∃f',Ag n a' f'/\K f' w') S fuel (bc l.length done) a w
theorem aZ.same{J:bF->Prop}{γ γ':aw}{w w':World}(h:aZ J γ w γ' w'):aZ J γ w γ w':=⟨h.os,h.tape,h.output,h.size,λ_ _ _=>rfl,h.keep,h.drawn⟩
theorem d5{fid:Nat}{R:Ending->World->Prop}{k:List Item}{id:Nat}(γ:aw)(J:bF->Prop)(hm:P.follows .mixedOrders=true)
   (h:∀w1,aZ no γ w γ w1->lH P n l (λw'=>aZ J γ w1 γ w') (cW P fid n R k) l.length [] f w1):cW P fid n R (.code (.region id l.toArray true)::k) f w:=
 eK λa ha=>wp_region_held hm (by
   have h0:=h _ (aZ.refl _ _ _).drew a ha
   have hmask:bc l.length []=Array.replicate l.toArray.size false:=by
     apply Array.ext
     · simp[bc]
     · intro j h1 h2;simp[bc]
   rw[hmask] at h0
   simpa using h0)
theorem g5{fid:Nat}{R:Ending->World->Prop}{k:List Item}{id:Nat}{σ:Type}(Mid:σ->Fr->World->Prop)(γ:aw)(J:bF->Prop)(hm:P.follows .mixedOrders=true)
    (h:(∀s f w,Mid s f w->cW P fid n R k f w)->∀w1,aZ no γ w γ w1->lH P n l (λw'=>aZ J γ w1 γ w') (cW P fid n R k) l.length [] f w1)(hk:∀s f w,Mid s f w->cW P fid n R k f w):cW P fid n R (.code (.region id l.toArray true)::k) f w:=
  d5 γ J hm (h hk)
variable{dst:Option Tmp}{op:Op}{ty:TypeId}{pos:String}{after:Array Edge}{g:Option (Nat×Bool)}{v:Value}
theorem px(i:Nat)(hi:l[i]? =some ⟨dst,op,ty,pos,after,g⟩)(hn:dP l=true)(hc:(dB l done i&&eU l done i&&gx n ⟨dst,op,ty,pos,after,g⟩)=true)
   (hw:bx l ⟨dst,op,ty,pos,after,g⟩ f=true)(hS:S w)(h:∀w,S w->(execOp (ev f) ⟨dst,op,ty,pos,after,g⟩).run P w= .ok (.value v) w)(hk:lH P n l S K fuel (i::done) (dE f dst v) w):lH P n l S K (fuel+1) done f w:=by
 simp only[Bool.and_eq_true] at hc
 obtain⟨⟨hr,hf⟩,hd⟩:=hc
 obtain⟨hlt,hr'⟩:=dp hr
 intro a ha
 refine wpAnyH_first (v:=v) (by simpa using hi) (fk hn) (λc a w h=>by cases h.1) fuel _ a w (dO hi hf) hr' (.inl ⟨by rw[ha.yielded];exact hw,λw hs=>by rw[ha.eval];exact h w hs⟩) hS ?_
 rw[bK done hlt]
 exact hk _ (ha.put hd v)
def pz(P:Program)(n:Nat)(l:List Oper)(S:World->Prop)(K:Fr->World->Prop)(fuel:Nat)(done:List Nat)(f:Fr)(w:World)(i:Nat):Prop:=
  ∃o,l[i]? =some o/\i<l.length/\(bx l o f=true/\gx n o=true/\eb P o f w (λv w'=>S w'/\lH P n l S K fuel (i::done) (dE f o.dst v) w'))
theorem fQ(i:Nat)(hi:l[i]? =some ⟨dst,op,ty,pos,after,g⟩)(hc:gx n ⟨dst,op,ty,pos,after,g⟩=true)(hw:bx l ⟨dst,op,ty,pos,after,g⟩ f=true)
   (h:eb P ⟨dst,op,ty,pos,after,g⟩ f w (λv w'=>S w'/\lH P n l S K fuel (i::done) (dE f dst v) w')):pz P n l S K fuel done f w i:=
 ⟨_,hi,(List.getElem?_eq_some_iff.1 hi).1,hw,hc,h⟩
def nW(P:Program)(n:Nat)(l:List Oper)(S:World->Prop)(K:Fr->World->Prop)(fuel:Nat)(done:List Nat)(f:Fr)(w:World):List Nat->Prop
 |[]=>True
 |i::r=>pz P n l S K fuel done f w i/\nW P n l S K fuel done f w r
theorem nW.mem{L:List Nat}(h:nW P n l S K fuel done f w L):∀i∈L,pz P n l S K fuel done f w i:=by
 induction L with
 |nil=>intro i hi;cases hi
 |cons j r ih=>
   intro i hi
   rcases List.mem_cons.1 hi with rfl|hi
   · exact h.1
   · exact ih h.2 i hi
theorem fg(i:Nat)(L:List Nat)(hr:decide (Region.ready .any l.toArray (bc l.length done)=i::L)=true)(h:nW P n l S K fuel done f w (i::L)):lH P n l S K (fuel+1) done f w:=by
 have hr:=of_decide_eq_true hr
 intro a ha
 refine⟨λh0=>(by rw[hr] at h0;cases h0),λk hk=>?_⟩
 rw[hr] at hk
 obtain⟨o,hi,hlt,hw,hd,ho⟩:=h.mem k (by simpa using hk)
 obtain⟨dst,op,ty,pos,after,g⟩:=o
 refine cO ha hi hw ho λv w' hk=>⟨hk.1,?_⟩
 rw[bK done hlt]
 exact hk.2 _ (ha.put hd v)
theorem bf(i:Nat)(hi:l[i]? =some ⟨dst,op,ty,pos,after,g⟩)(hc:(decide (Region.ready .any l.toArray (bc l.length done)=[i])&&gx n ⟨dst,op,ty,pos,after,g⟩)=true)
   (hw:bx l ⟨dst,op,ty,pos,after,g⟩ f=true)(h:eb P ⟨dst,op,ty,pos,after,g⟩ f w (λv w'=>S w'/\lH P n l S K fuel (i::done) (dE f dst v) w')):lH P n l S K (fuel+1) done f w:=by
 simp only[Bool.and_eq_true] at hc
 exact fg i [] hc.1 ⟨fQ i hi hc.2 hw h,trivial⟩
theorem el(hr:decide (Region.ready .any l.toArray (bc l.length done)=[])=true)(h:K f w):lH P n l S K 0 done f w:=λ_ ha=>⟨of_decide_eq_true hr,rfl,f,ha,h⟩
end
end TL
namespace TL
open Go
end TL
/-
  TlNet: nets, and what layer 3 says of them, as plain functions.
  By an AI agent.
-/
set_option linter.all false
namespace TL
abbrev aD:=Int×List (Int×Int)
def jp(n:Int)(e:Int×Int):Prop:=(0<=e.1/\e.1<n)/\0<=e.2/\e.2<n
instance (n:Int)(e:Int×Int):Decidable (jp n e):=by unfold jp;infer_instance
def aV(g:aD):Prop:=0<=g.1/\g.1<=1024/\g.2.length<=3072/\∀e∈g.2,jp g.1 e
instance (g:aD):Decidable (aV g):=by unfold aV;infer_instance
def cl(g:aD):Bool:=decide (aV g)
theorem ig{g:aD}(h:aV g):cl g=true:=decide_eq_true h
theorem bs{g:aD}(h:¬aV g):cl g=false:=decide_eq_false h
end TL
namespace TL
def cL(n:Int):List Int->List Int->Int
  |[],_=>0
  |i::r,seen=>if i<0\/n<=i then 2 else if i∈seen then 18 else cL n r (seen++[i])
def bo(l:List Int)(n:Int):Int:=cL n l []
theorem fG{α:Type}[Inhabited α]{xs:List α}{k:Nat}(h:(k:Int)<xs.length):xs.drop k=gI xs k::xs.drop (k+1):=by
 have h':k<xs.length:=by omega
 rw[List.drop_eq_getElem_cons h']
 simp[gI,h']
theorem bB{α:Type}[Inhabited α]{xs:List α}{i j:Int}{y:α}(hi:0<=i)(hi':i<xs.length)(hj:0<=j):gI (xs.set i.toNat y) j=if j=i then y else gI xs j:=by
 unfold gI
 by_cases h:j=i
 · subst h
   have:j.toNat<xs.length:=by omega
   simp[this]
 · have:i.toNat≠j.toNat:=by omega
   simp[h,List.getElem?_set_ne this]
theorem fP{α:Type}[Inhabited α]{n:Nat}{x:α}{i:Int}(h0:0<=i)(h1:i<n):gI (List.replicate n x) i=x:=by
 have:i.toNat<n:=by omega
 simp[gI,this]
theorem eY{n:Int}:∀(l seen:List Int),cL n l seen=0->(∀i∈l,0<=i/\i<n)/\l.Nodup/\∀i∈l,i∉seen
 |[],seen,_=>by simp
 |i::r,seen,h=>by
   simp only[cL] at h
   split at h
   · cases h
   · split at h
     · cases h
     · rename_i h1 h2
       obtain⟨a,b,c⟩:=eY r (seen++[i]) h
       refine⟨λj hj=>?_,List.nodup_cons.2 ⟨λhi=>c i hi (by simp),b⟩,λj hj=>?_⟩
       · rcases List.mem_cons.1 hj with rfl|hj
         · omega
         · exact a j hj
       · rcases List.mem_cons.1 hj with rfl|hj
         · exact h2
         · exact λhs=>c j hj (by simp[hs])
theorem jZ{n:Int}{l:List Int}(h:bo l n=0):(∀i∈l,0<=i/\i<n)/\l.Nodup:=⟨(eY l [] h).1,(eY l [] h).2.1⟩
def bv(g:aD)(keep:List Int):aD×Int:=
 if aV g then
   if bo keep g.2.length=0 then((g.1,keep.map (gI g.2)),0) else((0,[]),bo keep g.2.length)
 else((0,[]),1)
end TL
namespace TL
end TL
namespace TL
end TL
namespace TL
def aB(g:aD)(h:Int):Int:=pI (gI g.2 (h/2)) (h%2)
def dK(g:aD)(v:Int)(k:Nat):List Int:=((List.range (2*k)).map (λ(i:Nat)=>(i:Int))).filter λh=>decide (aB g h=v)
def bW(g:aD)(v:Int):List Int:=dK g v g.2.length
theorem gD(g:aD)(k:Nat):aB g (2*(k:Int))=(gI g.2 k).1:=by
 unfold aB
 have h1:2*(k:Int)/2=k:=by omega
 have h2:2*(k:Int)%2=0:=by omega
 rw[h1,h2];rfl
theorem i8(g:aD)(k:Nat):aB g (2*(k:Int)+1)=(gI g.2 k).2:=by
 unfold aB
 have h1:(2*(k:Int)+1)/2=k:=by omega
 have h2:(2*(k:Int)+1)%2=1:=by omega
 rw[h1,h2];rfl
theorem jO(g:aD)(v:Int)(k:Nat):dK g v (k+1)=dK g v k++((if(gI g.2 k).1=v then[2*(k:Int)] else[])++(if(gI g.2 k).2=v then[2*(k:Int)+1] else[])):=by
 unfold dK
 rw[show 2*(k+1)=2*k+1+1 by omega,List.range_succ,List.range_succ]
 simp only[List.map_append,List.filter_append,List.map_cons,List.map_nil,List.append_assoc]
 congr 1
 have e1:((2*k:Nat):Int)=2*(k:Int):=by omega
 have e2:((2*k+1:Nat):Int)=2*(k:Int)+1:=by omega
 rw[e1,e2]
 congr 1
 · by_cases h:(gI g.2 (k:Int)).1=v
   · simp[gD,h]
   · simp[gD,h]
 · by_cases h:(gI g.2 (k:Int)).2=v
   · simp[i8,h]
   · simp[i8,h]
theorem lh(g:aD)(v:Int)(k:Nat):(dK g v k).length<=2*k:=by
 unfold dK
 have:=List.length_filter_le (λh=>decide (aB g h=v)) ((List.range (2*k)).map (λ(i:Nat)=>(i:Int)))
 simpa using this
end TL
namespace TL
theorem cB{α:Type}[Inhabited α]{l l':List α}(hl:l.length=l'.length)(h:∀i:Nat,i<l.length->gI l i=gI l' i):l=l':=by
 apply List.ext_getElem hl
 intro i h1 h2
 have:=h i h1
 simpa[gI,h1,h2] using this
end TL
namespace TL
end TL
namespace TL
end TL
namespace TL
section
variable{l0 l1:Int}{F:Int×Int->Int}{g:aD}{k:Nat}
end
end TL
/-
  TlNetLaws: what follows of nets: parts of parts, subs of subs.
  By an AI agent.
-/
set_option linter.all false
namespace TL
theorem fu{n:Int}:∀(l seen:List Int),(∀i∈l,0<=i/\i<n)->l.Nodup->(∀i∈l,i∉seen)->cL n l seen=0
 |[],_,_,_,_=>rfl
 |i::r,seen,h1,h2,h3=>by
   have h4:=h1 i (by simp)
   obtain⟨h5,h6⟩:=List.nodup_cons.1 h2
   simp only[cL]
   rw[if_neg (by omega),if_neg (h3 i (by simp))]
   refine fu r _ (λj hj=>h1 j (by simp[hj])) h6 (λj hj hs=>?_)
   rcases List.mem_append.1 hs with h|h
   · exact h3 j (by simp[hj]) h
   · obtain rfl:=List.mem_singleton.1 h
     exact h5 hj
theorem iK{n:Int}{l:List Int}(h1:∀i∈l,0<=i/\i<n)(h2:l.Nodup):bo l n=0:=fu l [] h1 h2 (by simp)
theorem pF{α β:Type}[Inhabited α][Inhabited β](f:α->β){l:List α}{i:Int}(h0:0<=i)(h1:i<l.length):gI (l.map f) i=f (gI l i):=by
 have:i.toNat<l.length:=by omega
 simp[gI,this]
end TL
/-
  TlNet2: nets copied, renamed, moved, joined, split, merged: what they come to.
  By an AI agent.
-/
set_option linter.all false
namespace TL
end TL
namespace TL
structure cG(l:List Int)(n:Int)(k:Nat):Prop where
  rest:cL n (l.drop k) (l.take k)=bo l n
theorem cG.start(l:List Int)(n:Int):cG l n 0:=⟨by simp[bo]⟩
theorem cG.next{l:List Int}{n:Int}{k:Nat}(h:cG l n k)(hk:(k:Int)<l.length)(h0:0<=gI l k)(h1:gI l k<n)(h2:gI l k∉l.take k):cG l n (k+1):=by
 refine⟨?_⟩
 rw[<-h.rest,fG hk,cF hk]
 simp only[cL]
 rw[if_neg (by omega),if_neg h2]
theorem cG.bad{l:List Int}{n:Int}{k:Nat}(h:cG l n k)(hk:(k:Int)<l.length)(h0:gI l k<0\/n<=gI l k):2=bo l n:=by
 rw[<-h.rest,fG hk]
 simp only[cL]
 rw[if_pos h0]
theorem cG.twice{l:List Int}{n:Int}{k:Nat}(h:cG l n k)(hk:(k:Int)<l.length)(h0:0<=gI l k)(h1:gI l k<n)(h2:gI l k∈l.take k):18=bo l n:=by
 rw[<-h.rest,fG hk]
 simp only[cL]
 rw[if_neg (by omega),if_pos h2]
theorem cG.done{l:List Int}{n:Int}{k:Nat}(h:cG l n k)(hk:¬(k:Int)<l.length):0=bo l n:=by
 rw[<-h.rest,List.drop_eq_nil_of_le (by omega)]
 rfl
theorem jc{l:List Int}{j i:Nat}(hj:j<i)(hi:(i:Int)<l.length):gI l (j:Int)∈l.take i:=by
 have h1:j<l.length:=by omega
 have:gI l (j:Int)=l[j]:=by simp[gI,h1]
 rw[this,List.mem_take_iff_getElem]
 exact⟨j,by omega,rfl⟩
end TL
/-
  TlNetSums: degrees' sum; all edges, all nodes; moved there and back.
  By an AI agent.
-/
set_option linter.all false
namespace TL
def ba(n:Nat):List Int:=(List.range n).map λ(i:Nat)=>(i:Int)
theorem cN(n:Nat):(ba n).length=n:=by simp[ba]
theorem fM(n:Nat):ba (n+1)=ba n++[(n:Int)]:=by simp[ba,List.range_succ]
theorem cE{n:Nat}{x:Int}:x∈ba n↔0<=x/\x<n:=by
 unfold ba
 rw[List.mem_map]
 constructor
 · rintro⟨i,hi,rfl⟩
   have:=List.mem_range.1 hi
   omega
 · rintro⟨h1,h2⟩
   exact⟨x.toNat,List.mem_range.2 (by omega),by omega⟩
theorem dU(n:Nat):(ba n).Nodup:=by
 induction n with
 |zero=>simp[ba]
 |succ n ih=>
   rw[fM,List.nodup_append]
   refine⟨ih,by simp,λa ha b hb=>?_⟩
   have:=cE.1 ha
   have:=List.mem_singleton.1 hb
   omega
theorem iz{n:Nat}{i:Int}(h0:0<=i)(h1:i<n):gI (ba n) i=i:=by
 have:i.toNat<n:=by omega
 simp[gI,ba,this]
 omega
theorem mh:∀(n:Nat) (l:List Int),l.Nodup->(∀x∈l,0<=x/\x<(n:Int))->l.length<=n
 |0,l,_,h=>by
   cases l with
   |nil=>simp
   |cons a l=>have:=h a (by simp);omega
 |n+1,l,hn,h=>by
   have h1:(l.erase (n:Int)).Nodup:=hn.erase _
   have h2:=mh n (l.erase (n:Int)) h1 (λx hx=>by
     have h3:=hn.mem_erase_iff.1 hx
     have:=h x h3.2
     omega)
   by_cases hm:(n:Int)∈l
   · have:=List.length_erase_of_mem hm
     omega
   · rw[List.erase_of_not_mem hm] at h2
     omega
end TL
/-
  TlRef3: what the document's own answer of layer 3 goes through.
  By an AI agent.
-/
set_option linter.all false
namespace TL
def iC(g:aD)(v:Int)(h:Nat):List Int:=((List.range h).map (λ(i:Nat)=>(i:Int))).filter λh=>decide (aB g h=v)
theorem lu(g:aD)(v:Int)(h:Nat):iC g v (h+1)=if aB g h=v then iC g v h++[(h:Int)] else iC g v h:=by
 unfold iC
 rw[List.range_succ,List.map_append,List.filter_append]
 by_cases e:aB g (h:Int)=v
 · rw[if_pos e];simp[e]
 · rw[if_neg e];simp[e]
theorem mY(g:aD)(v:Int)(h:Nat):(iC g v h).length<=h:=by
 unfold iC
 have:=List.length_filter_le (λh=>decide (aB g h=v)) ((List.range h).map (λ(i:Nat)=>(i:Int)))
 simpa using this
theorem mn(g:aD)(v:Int){h:Nat}(hh:h=2*g.2.length):iC g v h=bW g v:=by subst hh;rfl
theorem jo{g:aD}(hm:aV g){h:Int}(h0:0<=h)(h1:h<2*(g.2.length:Int)):0<=aB g h/\aB g h<g.1:=by
 have hok:=hm.2.2.2 _ (aU (xs:=g.2) (i:=h/2) (by omega) (by omega))
 unfold jp at hok
 unfold aB pI
 split<;>omega
end TL
/-
  TlKeep: rows of an own list given away one by one while the list stays readable; rows with a mark behind each.
  By an AI agent.
-/
set_option linter.all false
namespace TL
open Go
section
variable{P:Program}{w:World}{t t':TypeId}{f:Fr}{x y:Operand}{dst:Option Tmp}{ty:TypeId}{pos:String}{after:Array Edge}{g:Option (Nat×Bool)}{N:Value->World->Prop}{α:Type}[Rp α]{γ:aw}{v u:Value}{xss:List (List α)}{l:List α}{i k j:Nat}
end
section
variable{α:Type}[Rp α][Fl α]{γ γ':aw}{w w':World}{v:Value}{us:List Vc}{xss:List (List α)}{i k j q:Nat}
end
inductive Rw where
  |mk (l:List Int) (m:Int)
  |pl (l:List Int)
instance:Inhabited Rw:=⟨.pl []⟩
theorem li{α:Type}[Rp α]{γ:aw}{S:bF->Prop}{w:World}{v:Value}{xs:List α}{m:α}(h:Sl γ S w (r7 v) (xs++[m])):∃a l c,v= .slice a l c:=by
 rcases h with⟨_,h0⟩|⟨b,off,cap,hv,_⟩
 · simp at h0
 · cases v<;>simp[r7] at hv
   exact⟨_,_,_,rfl⟩
def qy(γ:aw)(S:bF->Prop)(w:World)(v:Value):Rw->Prop
  | .mk l m=>Sl γ S w (r7 v) (l++[m])
  | .pl l=>Sl γ S w v l
theorem qy.one{γ:aw}{S:bF->Prop}{w:World}{v:Value}{x:Rw}(h:qy γ S w v x):v.oneCell'=true:=by
 cases x with
 |mk l m=>
   obtain⟨a,b,c,rfl⟩:=li h
   rfl
 |pl l=>
   rcases h with⟨⟨_,rfl⟩,_⟩|⟨b,off,cap,rfl,_⟩<;>rfl
theorem qy.tr{γ γ':aw}{S S':bF->Prop}{w w':World}{v:Value}{x:Rw}(hsz:w.heap.size<=w'.heap.size)(h:∀b,b<w.heap.size->S (γ b)->w'.heap[b]? =w.heap[b]? /\S' (γ' b))(hx:qy γ S w v x):qy γ' S' w' v x:=by
 cases x with
 |mk l m=>exact Sl.tr h hx hsz
 |pl l=>exact Sl.tr h hx hsz
instance:Rp Rw where
 sz:=1
 rep γ S w cs x:=∃v,cs=[v]/\qy γ S w v x
 len:=by rintro _ _ _ _ _ ⟨v,rfl,_⟩;rfl
 one:=by
   rintro _ _ _ _ _ ⟨v,rfl,h⟩ u hu
   obtain rfl:u=v:=by simpa using hu
   exact h.one
 tr:=by
   rintro _ _ _ _ _ _ _ _ hs h ⟨v,rfl,hv⟩
   exact⟨v,rfl,hv.tr hs h⟩
section
variable{P:Program}{w:World}{t t':TypeId}{f:Fr}{x y:Operand}{dst:Option Tmp}{ty:TypeId}{pos:String}{after:Array Edge}{g:Option (Nat×Bool)}{N:Value->World->Prop}{γ:aw}{v u:Value}{xss:List (List Int)}{l:List Int}{i:Nat}
end
end TL
/-
  TlEq: structs compared; a pointer looked at for nil; a bit turned.
  By an AI agent.
-/
set_option linter.all false
namespace TL
open Go
section
variable{P:Program}{f:Fr}{w:World}{dst:Option Tmp}{ty:TypeId}{pos:String}{after:Array Edge}{g:Option (Nat×Bool)}{t t' e:TypeId}{x y:Operand}
theorem cw{a:Addr}(hx:ev f x= .pointer (some a)):(execOp (ev f) ⟨dst,.nilCheck x,ty,pos,after,g⟩).run P w= .ok (.value (.pointer (some a))) w:=by
 simp only[execOp,hx,Sem.run_pure]
end
end TL
namespace TL
open Go
section
variable{P:Program}{f:Fr}{w:World}{dst:Option Tmp}{ty:TypeId}{pos:String}{after:Array Edge}{g:Option (Nat×Bool)}{t:TypeId}{x:Operand}
end
end TL
namespace TL
open Go
section
variable{P:Program}{f:Fr}{w:World}{dst:Option Tmp}{ty:TypeId}{pos:String}{after:Array Edge}{g:Option (Nat×Bool)}{t t':TypeId}{x y:Operand}{m n:Int}
theorem qh(hx:ev f x= .int .i64 m)(hy:ev f y= .int .i64 n)(hn:0<n)(hm: -4611686018427387904<=m/\m<=4611686018427387904):(execOp (ev f) ⟨dst,.binOp .quo t x y t',ty,pos,after,g⟩).run P w= .ok (.value (.int .i64 (Int.tdiv m n))) w:=by
 refine bn .quo x y hx hy ?_
 have h0:¬n=0:=by omega
 have h1:mD (Int.tdiv m n):=by
   have h2:=Int.natAbs_tdiv_le_natAbs m n
   constructor<;>omega
 simp[binOp,Op.intDiv,h0,fH h1]
end
end TL
namespace TL
open Go
theorem rp{f:Fr}{x:Operand}{xs:List Operand}{v:Value}{vs:List Value}(h:ev f x=v)(h2:xs.map (ev f)=vs):(x::xs).map (ev f)=v::vs:=by subst h h2;rfl
end TL
/-
  TlRot: rotations: which may be, turned to their least, faces.
  By an AI agent.
-/
set_option linter.all false
namespace TL
abbrev gT:=List (List Int)
def qS(g:aD)(r:gT):Prop:=(r.length:Int)=g.1/\(∀v:Nat,v<r.length->∀h∈gI r (v:Int),(0<=h/\h<2*(g.2.length:Int))/\aB g h=v)/\r.flatten.Nodup/\(r.flatten.length:Int)=2*g.2.length
instance (g:aD)(r:gT):Decidable (qS g r):=by unfold qS;infer_instance
theorem jd{n:Int}{l:List Int}(h0:0<=n)(hn:l.Nodup)(h:∀x∈l,0<=x/\x<n):(l.length:Int)<=n:=by
 have:=mh n.toNat l hn (λx hx=>by have:=h x hx;omega)
 omega
section
variable{seen:List Bool}{n:Int}{g:aD}{r:gT}{k i:Nat}
end
end TL
namespace TL
end TL
/-
  TlShort: short names for the commonest steps (used by packed claims only).
  By an AI agent.
-/
set_option linter.all false
namespace TL
open Go
abbrev vi(x:Int):Value:=Value.int .i64 x
abbrev vp(b o:Nat):Value:=Value.pointer (some ⟨b,o,none⟩)
abbrev vn:Value:=Value.slice none 0 0
abbrev vt(l:List Value):Value:=Value.tuple (List.toArray l)
abbrev vg(l:List Value):Value:=Value.agg (List.toArray l)
theorem cg(L:List Nat){γ γ':aw}{w w':World}(h:aZ (inl L) γ w γ' w'):aZ (inl L) γ w γ' w':=h
theorem dt{p:Prop}[Decidable p](h:p):decide p=true:=decide_eq_true h
theorem df{p:Prop}[Decidable p](h:¬p):decide p=false:=decide_eq_false h
section
variable{P:Program}{all rest:List Oper}{K:Fr->World->Prop}{f:Fr}{w w':World}{x:Operand}
variable{dst:Option Tmp}{op:Op}{ty:TypeId}{pos:String}{after:Array Edge}{g:Option (Nat×Bool)}{o:Oper}
theorem lv(v:Value)(hw:bx all ⟨dst,op,ty,pos,after,g⟩ f=true)(h:(execOp (ev f) ⟨dst,op,ty,pos,after,g⟩).run P w= .ok (.value v) w')(hk:eR P all rest K (dE f dst v) w'):eR P all (⟨dst,op,ty,pos,after,g⟩::rest) K f w:=gb hw h hk
theorem lx{v:Value}(h:(execOp (ev f) ⟨dst,op,ty,pos,after,none⟩).run P w= .ok (.value v) w')(hk:eR P all rest K (dE f dst v) w'):eR P all (⟨dst,op,ty,pos,after,none⟩::rest) K f w:=gb rfl h hk
theorem lw(v:Value)(h:(execOp (ev f) ⟨dst,op,ty,pos,after,none⟩).run P w= .ok (.value v) w')(hk:eR P all rest K (dE f dst v) w'):eR P all (⟨dst,op,ty,pos,after,none⟩::rest) K f w:=gb rfl h hk
theorem mv(v:Value)(hk:eR P all rest K (dE f dst v) w)(h:ev f x=v:=by exact rfl):eR P all (⟨dst,.move x,ty,pos,after,none⟩::rest) K f w:=gb rfl (am h) hk
theorem ma(v:Value)(hk:eR P all rest K (dE f dst v) w)(h:ev f x=v:=by exact rfl):eR P all (⟨dst,.assign x,ty,pos,after,none⟩::rest) K f w:=gb rfl (bz h) hk
theorem mi(v:Int)(hk:eR P all rest K (dE f dst (.int .i64 v)) w)(h:ev f x= .int .i64 v:=by exact rfl):eR P all (⟨dst,.move x,ty,pos,after,none⟩::rest) K f w:=gb rfl (am h) hk
theorem ai(v:Int)(hk:eR P all rest K (dE f dst (.int .i64 v)) w)(h:ev f x= .int .i64 v:=by exact rfl):eR P all (⟨dst,.assign x,ty,pos,after,none⟩::rest) K f w:=gb rfl (bz h) hk
theorem mz{v:Value}(h:ev f x=v)(hk:eR P all rest K (dE f dst v) w):eR P all (⟨dst,.move x,ty,pos,after,none⟩::rest) K f w:=gb rfl (am h) hk
theorem lo(h:eb P ⟨dst,op,ty,pos,after,none⟩ f w (λv w'=>eR P all rest K (dE f dst v) w')):eR P all (⟨dst,op,ty,pos,after,none⟩::rest) K f w:=dA rfl h
theorem wy{j:Nat}{x:Bool}{d:Nat}{b:Bool}(hx:b=x)(hg:o.guard=some (j,x):=by exact rfl)(hj:(all[j]?).bind (·.dst)=some d:=by exact rfl)(hb:f d= .bool b:=by exact rfl):bx all o f=true:=qi hg hj hb hx
theorem wn{j:Nat}{x:Bool}{d:Nat}{b:Bool}(hx:b= !x)(hg:o.guard=some (j,x):=by exact rfl)(hj:(all[j]?).bind (·.dst)=some d:=by exact rfl)(hb:f d= .bool b:=by exact rfl):bx all o f=false:=qb hg hj hb hx
variable{C:World->Prop}{KQ:Fr->Prop}
theorem qv(v:Value)(h:∀w,C w->(execOp (ev f) ⟨dst,op,ty,pos,after,none⟩).run P w= .ok (.value v) w)(hk:gn P all C rest KQ (dE f dst v)):gn P all C (⟨dst,op,ty,pos,after,none⟩::rest) KQ f:=bh rfl h hk
theorem qx{v:Value}(h:∀w,C w->(execOp (ev f) ⟨dst,op,ty,pos,after,none⟩).run P w= .ok (.value v) w)(hk:gn P all C rest KQ (dE f dst v)):gn P all C (⟨dst,op,ty,pos,after,none⟩::rest) KQ f:=bh rfl h hk
theorem qm(v:Value)(hk:gn P all C rest KQ (dE f dst v))(h:ev f x=v:=by exact rfl):gn P all C (⟨dst,.move x,ty,pos,after,none⟩::rest) KQ f:=bh rfl (λ_ _=>am h) hk
theorem qz{v:Value}(h:ev f x=v)(hk:gn P all C rest KQ (dE f dst v)):gn P all C (⟨dst,.move x,ty,pos,after,none⟩::rest) KQ f:=bh rfl (λ_ _=>am h) hk
end
section
variable{P:Program}{n:Nat}{l:List Oper}{S:World->Prop}{K:Fr->World->Prop}{f:Fr}{w:World}{done:List Nat}{fuel:Nat}{qs:List Nat}
variable{dst:Option Tmp}{op:Op}{ty:TypeId}{pos:String}{after:Array Edge}{g:Option (Nat×Bool)}{v:Value}
theorem ht(i:Nat)(hi:l[i]? =some ⟨dst,op,ty,pos,after,none⟩)(hS:S w)(h:∀w,S w->(execOp (ev f) ⟨dst,op,ty,pos,after,none⟩).run P w= .ok (.value v) w)(hk:lH P n l S K fuel (i::done) (dE f dst v) w)(hn:dP l=true:=by kernel_rfl)(hc:(dB l done i&&eU l done i&&gx n ⟨dst,op,ty,pos,after,none⟩)=true:=by kernel_rfl):lH P n l S K (fuel+1) done f w:=px i hi hn hc rfl hS h hk
theorem xv(i:Nat)(M:List Nat)(hi:l[i]? =some ⟨dst,op,ty,pos,after,none⟩)(h:(execOp (ev f) ⟨dst,op,ty,pos,after,none⟩).run P w= .ok (.value v) w)(hk:gH P n l qs K fuel (i::done) (dE f dst v) w)(hn:dP l=true:=by kernel_rfl)(hc:(qs.contains i&&dB l done i&&eU l done i&&iE l qs done M i&&gx n ⟨dst,op,ty,pos,after,none⟩)=true:=by kernel_rfl):gH P n l qs K (fuel+1) done f w:=qE i M hi hn hc rfl h hk
theorem xh(i:Nat)(M:List Nat)(hi:l[i]? =some ⟨dst,op,ty,pos,after,none⟩)(h:∀w',ch w.heap.size w w'->(execOp (ev f) ⟨dst,op,ty,pos,after,none⟩).run P w'= .ok (.value v) w')(hk:gH P n l qs K fuel (i::done) (dE f dst v) w)(hn:dP l=true:=by kernel_rfl)(hc:(qs.contains i&&dB l done i&&eU l done i&&iU l qs done M i&&gx n ⟨dst,op,ty,pos,after,none⟩)=true:=by kernel_rfl):gH P n l qs K (fuel+1) done f w:=q4 i M hi hn hc rfl h hk
theorem xp(i:Nat)(hi:l[i]? =some ⟨dst,op,ty,pos,after,none⟩)(h:∀w,(execOp (ev f) ⟨dst,op,ty,pos,after,none⟩).run P w= .ok (.value v) w)(hk:gH P n l qs K fuel (i::done) (dE f dst v) w)(hn:dP l=true:=by kernel_rfl)(hc:(qs.contains i&&dB l done i&&eU l done i&&gx n ⟨dst,op,ty,pos,after,none⟩)=true:=by kernel_rfl):gH P n l qs K (fuel+1) done f w:=qe i hi hn hc rfl h hk
end
section
variable{γ γ':aw}{w w':World}{v:Value}{j k:Nat}{L:List Nat}
theorem aX.ca{w0:World}(h:aX w0 γ w)(hc:aZ (inl L) γ w γ' w')(hj:L.contains 0=false:=by exact rfl):aX w0 γ' w':=h.chg hc (bX hj)
theorem aX.ce{w0:World}(h:aX w0 γ w)(hc:aZ (is k) γ w γ' w')(hj:Nat.beq 0 k=false:=by exact rfl):aX w0 γ' w':=h.chg hc (eO hj)
theorem aX.cn{w0:World}(h:aX w0 γ w)(hc:aZ no γ w γ' w'):aX w0 γ' w':=h.chg hc (fh _)
theorem Bx.ca{b:Nat}{cs:List Value}(h:Bx γ (is j) w b cs)(hc:aZ (inl L) γ w γ' w')(hj:L.contains j=false:=by exact rfl):Bx γ' (is j) w' b cs:=h.chg hc (bX hj)
theorem Bx.ce{b:Nat}{cs:List Value}(h:Bx γ (is j) w b cs)(hc:aZ (is k) γ w γ' w')(hj:Nat.beq j k=false:=by exact rfl):Bx γ' (is j) w' b cs:=h.chg hc (eO hj)
theorem Bx.cn{J:bF->Prop}{b:Nat}{cs:List Value}(h:Bx γ J w b cs)(hc:aZ no γ w γ' w'):Bx γ' J w' b cs:=h.chg hc (fh _)
theorem Sl.ca{α:Type}[Rp α]{xs:List α}(h:Sl γ (is j) w v xs)(hc:aZ (inl L) γ w γ' w')(hj:L.contains j=false:=by exact rfl):Sl γ' (is j) w' v xs:=h.chg hc (bX hj)
theorem Sl.ce{α:Type}[Rp α]{xs:List α}(h:Sl γ (is j) w v xs)(hc:aZ (is k) γ w γ' w')(hj:Nat.beq j k=false:=by exact rfl):Sl γ' (is j) w' v xs:=h.chg hc (eO hj)
theorem Sl.cn{α:Type}[Rp α]{S:bF->Prop}{xs:List α}(h:Sl γ S w v xs)(hc:aZ no γ w γ' w'):Sl γ' S w' v xs:=h.chg hc (fh _)
theorem Ow.ca{α:Type}[Rp α]{xs:List α}(h:Ow γ (is j) (is j) w v xs)(hc:aZ (inl L) γ w γ' w')(hj:L.contains j=false:=by exact rfl):Ow γ' (is j) (is j) w' v xs:=h.chg hc (bX hj) (bX hj)
theorem Ow.ce{α:Type}[Rp α]{xs:List α}(h:Ow γ (is j) (is j) w v xs)(hc:aZ (is k) γ w γ' w')(hj:Nat.beq j k=false:=by exact rfl):Ow γ' (is j) (is j) w' v xs:=h.chg hc (eO hj) (eO hj)
theorem Ow.cn{α:Type}[Rp α]{J S:bF->Prop}{xs:List α}(h:Ow γ J S w v xs)(hc:aZ no γ w γ' w'):Ow γ' J S w' v xs:=h.chg hc (fh _) (fh _)
theorem cU.ca{α:Type}[Rp α]{xs:List (List α)}(h:cU γ j w v xs)(hc:aZ (inl L) γ w γ' w')(hj:L.contains j=false:=by exact rfl):cU γ' j w' v xs:=h.chg hc (bX hj)
theorem cU.ce{α:Type}[Rp α]{xs:List (List α)}(h:cU γ j w v xs)(hc:aZ (is k) γ w γ' w')(hj:Nat.beq j k=false:=by exact rfl):cU γ' j w' v xs:=h.chg hc (eO hj)
theorem cU.cn{α:Type}[Rp α]{xs:List (List α)}(h:cU γ j w v xs)(hc:aZ no γ w γ' w'):cU γ' j w' v xs:=h.chg hc (fh _)
theorem dy.ca{α:Type}[Rp α]{h0:Nat}{xs:List (List α)}(h:dy γ j h0 w v xs)(hc:aZ (inl L) γ w γ' w')(hj:L.contains j=false:=by exact rfl):dy γ' j h0 w' v xs:=h.chg hc (bX hj)
theorem dy.ce{α:Type}[Rp α]{h0:Nat}{xs:List (List α)}(h:dy γ j h0 w v xs)(hc:aZ (is k) γ w γ' w')(hj:Nat.beq j k=false:=by exact rfl):dy γ' j h0 w' v xs:=h.chg hc (eO hj)
theorem dy.cn{α:Type}[Rp α]{h0:Nat}{xs:List (List α)}(h:dy γ j h0 w v xs)(hc:aZ no γ w γ' w'):dy γ' j h0 w' v xs:=h.chg hc (fh _)
def rq(δ g:aw)(w:World)(ren:Nat->Nat):Prop:=(∀{α:Type} [Rp α] {i:Nat} {v:Value} {xs:List α},Ow δ (is i) (is i) w v xs->∀k:Nat,Nat.beq i 0=false->ren i=k->Ow g (is k) (is k) w v xs)/\(∀{α:Type} [Rp α] {i:Nat} {v:Value} {xs:List (List α)},cU δ i w v xs->∀k:Nat,Nat.beq i 0=false->ren i=k->cU g k w v xs)
theorem jV{δ:aw}(γ:aw)(fr:ej w δ w')(ren:Nat->Nat):∃g,aZ no γ w g w'/\rq δ g w' ren:=
 ⟨_,m6 fr.below γ δ ren,λh k hi hr=>h.glue fr.col hi hr,λh k hi hr=>h.glue fr.col hi hr⟩
theorem Ow.gl{α:Type}[Rp α]{δ g:aw}{ren:Nat->Nat}{i:Nat}{xs:List α}(h:Ow δ (is i) (is i) w v xs)(G:rq δ g w ren)(k:Nat)(hi:Nat.beq i 0=false:=by exact rfl)(hr:ren i=k:=by exact rfl):Ow g (is k) (is k) w v xs:=G.1 h k hi hr
theorem cU.gl{α:Type}[Rp α]{δ g:aw}{ren:Nat->Nat}{i:Nat}{xs:List (List α)}(h:cU δ i w v xs)(G:rq δ g w ren)(k:Nat)(hi:Nat.beq i 0=false:=by exact rfl)(hr:ren i=k:=by exact rfl):cU g k w v xs:=G.2 h k hi hr
end
end TL
/-
  TlGeom: points with whole coordinates: turns, segments, how they meet.
  By an AI agent.
-/
set_option linter.all false
namespace TL
abbrev Pt:=Int×Int
def o7(x y:Int):Int:=if x<y then-1 else if y<x then 1 else 0
def qZ(a b:Pt):Int:=a.1*b.2-a.2*b.1
def qW(b a:Pt):Pt:=(b.1-a.1,b.2-a.2)
def lg(a b c:Pt):Int:=o7 (qZ (qW b a) (qW c a)) 0
def qo(a b p:Pt):Prop:=(min a.1 b.1<=p.1/\p.1<=max a.1 b.1)/\min a.2 b.2<=p.2/\p.2<=max a.2 b.2
instance (a b p:Pt):Decidable (qo a b p):=by unfold qo;infer_instance
def lN(a b p:Pt):Prop:=lg a b p=0/\qo a b p
instance (a b p:Pt):Decidable (lN a b p):=by unfold lN;infer_instance
def jg(a b:Pt):Int:=if o7 a.1 b.1≠0 then o7 a.1 b.1 else o7 a.2 b.2
def qK(a b c d:Pt):Int:=
 let a':=if 0<jg a b then b else a
 let b':=if 0<jg a b then a else b
 let c':=if 0<jg c d then d else c
 let d':=if 0<jg c d then c else d
 let low:=if 0<jg c' a' then c' else a'
 let high:=if jg d' b'<0 then d' else b'
 if 0<jg low high then 0 else if jg low high=0 then 2 else 3
def eP(a b c d:Pt):Int:=
 if lg a b c=0/\lg a b d=0/\lg c d a=0/\lg c d b=0 then qK a b c d
 else if lg a b c*lg a b d<0/\lg c d a*lg c d b<0 then 1
 else if lN a b c\/lN a b d\/lN c d a\/lN c d b then 2 else 0
def fJ(p:Pt):Int:=p.1*1073741824+p.2
def rx(p:Pt):Prop:=(-4194304<=p.1/\p.1<=4194304)/\ -4194304<=p.2/\p.2<=4194304
end TL
namespace TL
def qw(p:Pt):Prop:=(-1048576<=p.1/\p.1<=1048576)/\ -1048576<=p.2/\p.2<=1048576
instance (p:Pt):Decidable (qw p):=by unfold qw;infer_instance
theorem qw.bd{p:Pt}(h:qw p):rx p:=by unfold qw at h;unfold rx;omega
def rc(ps:List Pt):Prop:=ps.length<=4096/\∀p∈ps,qw p
instance (ps:List Pt):Decidable (rc ps):=by unfold rc;infer_instance
def kA(p:Pt):Int:=if 0<p.1\/p.1=0/\0<p.2 then 0 else 1
section
variable{a b c d:Pt}
end
end TL
/-
  TlGeomR: what is told of many points: areas, boxes, whether a polyline is simple.
  By an AI agent.
-/
set_option linter.all false
namespace TL
def iF(ps:List Pt):Prop:=4<=(ps.length:Int)/\gI ps 0=gI ps ((ps.length:Int)-1)
instance (ps:List Pt):Decidable (iF ps):=by unfold iF;infer_instance
def kz(ps:List Pt)(i k:Nat):Prop:=k=i+1\/i=0/\(k:Int)=(ps.length:Int)-2/\iF ps
instance (ps:List Pt)(i k:Nat):Decidable (kz ps i k):=by unfold kz;infer_instance
def rr(ps:List Pt)(i k:Nat):Int:=eP (gI ps (i:Int)) (gI ps ((i:Int)+1)) (gI ps (k:Int)) (gI ps ((k:Int)+1))
def pV(ps:List Pt)(i k:Nat):Prop:=kz ps i k/\rr ps i k=3\/¬kz ps i k/\rr ps i k≠0
instance (ps:List Pt)(i k:Nat):Decidable (pV ps i k):=by unfold pV;infer_instance
def q5(ps:List Pt)(i:Nat):Prop:=gI ps (i:Int)≠gI ps ((i:Int)+1)/\∀k<ps.length,i<k->(k:Int)<=(ps.length:Int)-2->¬pV ps i k
instance (ps:List Pt)(i:Nat):Decidable (q5 ps i):=by unfold q5;infer_instance
def qU(ps:List Pt):Prop:=∀i<ps.length,(i:Int)<=(ps.length:Int)-2->q5 ps i
instance (ps:List Pt):Decidable (qU ps):=by unfold qU;infer_instance
section
variable{ps:List Pt}
variable{i k:Nat}
end
end TL
/-
  TlConv: whole numbers turned to another kind, a string's byte, functions that bear values.
  By an AI agent.
-/
set_option linter.all false
namespace TL
open Go
section
variable{P:Program}{w:World}{f:Fr}{dst:Option Tmp}{ty:TypeId}{pos:String}{after:Array Edge}{g:Option (Nat×Bool)}{x y:Operand}{s d t:TypeId}{m:Int}{k k0:IntKind}
theorem ka{us:TypeDesc}(hs:P.underlying s=some us)(hd:P.underlying d=some (.int k))(hx:ev f x= .int k0 m)(hw:k.wrap m=m):(execOp (ev f) ⟨dst,.convert s d x,ty,pos,after,g⟩).run P w= .ok (.value (.int k m)) w:=by
 simp[execOp,convert,hx,az hs,az hd,Conv.intToInt,hw]
theorem jf{i r:Int}{b:UInt8}{str:ByteArray}(ht:P.underlying t=some .string)(hx:ev f x= .string str)(hy:ev f y= .int k i)(h0:0<=i)(hb:str[i.toNat]? =some b)(hr:(b.toNat:Int)=r):(execOp (ev f) ⟨dst,.index t x y,ty,pos,after,g⟩).run P w= .ok (.value (.int .u8 r)) w:=by
 simp[execOp,Instr.index,asIntOf,hx,hy,az ht,h0,hb,hr]
theorem jM{fid:Nat}{cs:List Operand}{vals:List Value}(h:cs.map (ev f)=vals):(execOp (ev f) ⟨dst,.makeFunc (.func fid) #[] cs.toArray,ty,pos,after,g⟩).run P w= .ok (.value (.func (.func fid) #[] vals.toArray)) w:=by
 have h:cs.toArray.map (ev f)=vals.toArray:=by rw[<-h];simp
 simp[execOp,Instr.makeFunc,h]
end
end TL
namespace TL
open Go
section
variable{P:Program}{w:World}{f:Fr}{dst:Option Tmp}{ty:TypeId}{pos:String}{after:Array Edge}{g:Option (Nat×Bool)}{x y:Operand}{t t':TypeId}
end
end TL
namespace TL
open Go
section
variable{P:Program}{w:World}{f:Fr}{dst:Option Tmp}{ty:TypeId}{pos:String}{after:Array Edge}{g:Option (Nat×Bool)}{x y:Operand}{t t':TypeId}
end
end TL
/-
  TlGeomM: meeting segments: moved, turned, named another way about; what ends they share.
  By an AI agent.
-/
set_option linter.all false
namespace TL
section
variable{a b c d:Pt}
def js(a b c d e:Pt):Prop:=lN a b e/\lN c d e
instance (a b c d e:Pt):Decidable (js a b c d e):=by unfold js;infer_instance
def n3(a b c d:Pt):Prop:=lg a b c*lg a b d<0/\lg c d a*lg c d b<0
instance (a b c d:Pt):Decidable (n3 a b c d):=by unfold n3;infer_instance
end
end TL
/-
  TlGeomS: polylines gone back, and two of them named the other way about.
  By an AI agent.
-/
set_option linter.all false
namespace TL
abbrev Sg:=Pt×Pt
def ml(ps:List Pt):Nat->List Sg
 |0=>[]
 |k+1=>ml ps k++[(gI ps (k:Int),gI ps ((k:Int)+1))]
def nK(ps:List Pt):List Sg:=if ps.length=1 then[(gI ps 0,gI ps 0)] else ml ps (ps.length-1)
def pu(ps:List Pt):Pt:=gI ps ((ps.length:Int)-1)
def q9(ps:List Pt)(p:Pt):Prop:=p=gI ps 0\/p=pu ps
instance (ps:List Pt)(p:Pt):Decidable (q9 ps p):=by unfold q9;infer_instance
def ny(q:List Pt)(s t:Sg)(x:Pt):Prop:=q9 q x/\lN s.1 s.2 x/\lN t.1 t.2 x
instance (q:List Pt)(s t:Sg)(x:Pt):Decidable (ny q s t x):=by unfold ny;infer_instance
def mt(p q:List Pt)(s t:Sg):Prop:=ny q s t (gI p 0)\/ny q s t (pu p)
instance (p q:List Pt)(s t:Sg):Decidable (mt p q s t):=by unfold mt;infer_instance
def qp(p q:List Pt)(s t:Sg):Prop:=eP s.1 s.2 t.1 t.2=3\/eP s.1 s.2 t.1 t.2≠0/\¬mt p q s t
instance (p q:List Pt)(s t:Sg):Decidable (qp p q s t):=by unfold qp;infer_instance
def qB(p q:List Pt):Prop:=∀s∈nK p,∀t∈nK q,¬qp p q s t
instance (p q:List Pt):Decidable (qB p q):=by unfold qB;infer_instance
section
variable{p q:List Pt}
end
end TL
namespace TL
section
variable{p q:List Pt}{i k:Nat}
variable{s t:Sg}
end
end TL
namespace TL
section
variable{p q:List Pt}{s t:Sg}{i:Nat}
end
end TL
/-
  TlGeomX: polylines: the document's way and the code's.
  By an AI agent.
-/
set_option linter.all false
namespace TL
section
variable{a b c d:Pt}
end
section
variable{ps:List Pt}{i k:Nat}
end
def r9(but:List Pt)(s t:Sg):Prop:=eP s.1 s.2 t.1 t.2=3\/(eP s.1 s.2 t.1 t.2=1/\¬∃x∈but,js s.1 s.2 t.1 t.2 x)\/((eP s.1 s.2 t.1 t.2≠0/\eP s.1 s.2 t.1 t.2≠1)/\∃e∈[s.1,s.2,t.1,t.2],js s.1 s.2 t.1 t.2 e/\e∉but)
instance (but:List Pt)(s t:Sg):Decidable (r9 but s t):=by unfold r9;infer_instance
def qM(p q but:List Pt):Prop:=∃s∈nK p,∃t∈nK q,r9 but s t
instance (p q but:List Pt):Decidable (qM p q but):=by unfold qM;infer_instance
section
variable{p q B:List Pt}
end
end TL
namespace TL
section
variable{p q but:List Pt}{i k:Nat}
variable{s t:Sg}
end
end TL
/-
  TlAround: points round another one: the order, its laws, the list that is sorted by it.
  By an AI agent.
-/
set_option linter.all false
namespace TL
def qX(p:Pt):Int:=p.1*p.1+p.2*p.2
def rC(a b:Pt)(i k:Int):Prop:=kA a<kA b\/kA a=kA b/\(qZ a b<0\/qZ a b=0/\(qX a<qX b\/qX a=qX b/\i<k))
def vA(o:Pt)(ps:List Pt)(i:Int):Pt:=qW (gI ps i) o
def rD(o:Pt)(ps:List Pt)(i k:Int):Prop:=rC (vA o ps i) (vA o ps k) i k
def rH(o:Pt)(ps:List Pt)(k:Nat)(l:List Int):Prop:=l.Pairwise (rD o ps)/\∀x,x∈l↔0<=x/\x<(k:Int)
section
variable{o:Pt}{ps:List Pt}{k:Nat}{l l':List Int}
open Classical in
noncomputable def arL (o:Pt) (ps:List Pt):List Int:=if h:∃l,rH o ps ps.length l then choose h else[]
end
section
variable{o:Pt}{ps:List Pt}{k:Nat}{l:List Int}{q:Int}
end
section
variable{o:Pt}{ps:List Pt}
end
end TL
/-
  TlFace: half-edges' next ones, faces.
  By an AI agent.
-/
set_option linter.all false
namespace TL
end TL
namespace TL
structure dD(s s0:List Int)(i:Nat)(j:Int):Prop where
  len:s.length=s0.length
  jj:j=(s0.length:Int)-1-i
  out:∀q:Nat,q<s0.length->(q<i\/j<q)->gI s (q:Int)=gI s0 ((s0.length:Int)-1-q)
  mid:∀q:Nat,i<=q->(q:Int)<=j->gI s (q:Int)=gI s0 (q:Int)
theorem dD.start(s0:List Int):dD s0 s0 0 ((s0.length:Int)-1):=⟨rfl,by omega,λq hq h=>by omega,λq _ _=>rfl⟩
theorem dD.next{s s0:List Int}{i:Nat}{j:Int}(h:dD s s0 i j)(hij:(i:Int)<j):dD ((s.set (i:Int).toNat (gI s j)).set j.toNat (gI s (i:Int))) s0 (i+1) (j-1):=by
 have hl:=h.len
 have hj:=h.jj
 have e1:=h.mid i (Nat.le_refl _) (by omega)
 have e2:=h.mid j.toNat (by omega) (by omega)
 rw[show((j.toNat:Nat):Int)=j by omega] at e2
 refine⟨by simpa using hl,by omega,λq hq hh=>?_,λq h1 h2=>?_⟩
 · rw[bB (by omega) (by simp;omega) (by omega),bB (by omega) (by omega) (by omega)]
   by_cases c1:(q:Int)=j
   · rw[if_pos c1,e1];congr 1;omega
   · by_cases c2:(q:Int)=i
     · rw[if_neg c1,if_pos c2,e2];congr 1;omega
     · rw[if_neg c1,if_neg c2];exact h.out q hq (by omega)
 · rw[bB (by omega) (by simp;omega) (by omega),bB (by omega) (by omega) (by omega),if_neg (by omega),if_neg (by omega)]
   exact h.mid q (by omega) (by omega)
theorem dD.done{s s0:List Int}{i:Nat}{j:Int}(h:dD s s0 i j)(hij:¬(i:Int)<j):s=s0.reverse:=by
 have hl:=h.len
 have hj:=h.jj
 apply cB
 · simpa using hl
 · intro q hq
   have hr:gI s0.reverse (q:Int)=gI s0 ((s0.length:Int)-1-q):=by
     have hq':q<s0.length:=by omega
     have e:((s0.length:Int)-1-q).toNat=s0.length-1-q:=by omega
     have e2:s0.length-1-q<s0.length:=by omega
     simp[gI,hq',e,e2,List.getElem?_reverse hq']
   rw[hr]
   by_cases c:q<i\/j<(q:Int)
   · exact h.out q (by omega) c
   · rw[h.mid q (by omega) (by omega)];congr 1;omega
structure cj(out:List (List Int))(g:aD)(k:Nat):Prop where
  len:(out.length:Int)=g.1
  at_:∀v,0<=v->v<g.1->gI out v=dK g v k
theorem cj.start{g:aD}(h:0<=g.1):cj (List.replicate g.1.toNat []) g 0:=⟨by simp;omega,λv h0 h1=>by rw[fP h0 (by omega)];simp[dK]⟩
theorem cj.next{out:List (List Int)}{g:aD}{k:Nat}(h:cj out g k)(h1:0<=(gI g.2 k).1)(h2:(gI g.2 k).1<g.1)(h3:0<=(gI g.2 k).2)(h4:(gI g.2 k).2<g.1){a b:Int}(ha:a=2*(k:Int))(hb:b=2*(k:Int)+1):
   cj ((out.set (gI g.2 k).1.toNat (gI out (gI g.2 k).1++[a])).set (gI g.2 k).2.toNat (gI (out.set (gI g.2 k).1.toNat (gI out (gI g.2 k).1++[a])) (gI g.2 k).2++[b])) g (k+1):=by
 have hl:=h.len
 refine⟨by simpa using hl,λv h5 h6=>?_⟩
 rw[bB h3 (by simp;omega) h5,bB h1 (by omega) h3,bB h1 (by omega) h5,jO,h.at_ _ h1 h2,h.at_ _ h3 h4,h.at_ v h5 h6,ha,hb]
 by_cases e2:v=(gI g.2 (k:Int)).2
 · by_cases e1:v=(gI g.2 (k:Int)).1
   · rw[<-e1,<-e2];simp
   · have e3:¬(gI g.2 (k:Int)).2=(gI g.2 (k:Int)).1:=λh=>e1 (e2.trans h)
     have e6:¬(gI g.2 (k:Int)).1=(gI g.2 (k:Int)).2:=λh=>e3 h.symm
     simp[e2,e3,e6]
 · have e4:¬(gI g.2 (k:Int)).2=v:=λh=>e2 h.symm
   by_cases e1:v=(gI g.2 (k:Int)).1
   · rw[if_neg e2,if_pos e1,if_neg e4,if_pos e1.symm,<-e1];simp
   · have e5:¬(gI g.2 (k:Int)).1=v:=λh=>e1 h.symm
     rw[if_neg e2,if_neg e1,if_neg e4,if_neg e5];simp
end TL
namespace TL
end TL
/-
  TlWalk: going through a net breadth first, and its components, as the program does.
  By an AI agent.
-/
set_option linter.all false
namespace TL
def bU(g:aD)(h:Int):Int:=pI (gI g.2 (h/2)) (1-h%2)
theorem dV{g:aD}(hm:aV g){h:Int}(h0:0<=h)(h1:h<2*(g.2.length:Int)):0<=bU g h/\bU g h<g.1:=by
 have hok:=hm.2.2.2 _ (aU (xs:=g.2) (i:=h/2) (by omega) (by omega))
 unfold jp at hok
 unfold bU pI
 split<;>omega
structure Bf where
 order:List Int
 by_:List Int
 far:List Int
def dv(g:aD)(v:Int)(s:Bf)(h:Int):Bf:=
 if gI s.far (bU g h)<0 then⟨s.order++[bU g h],s.by_.set (bU g h).toNat h,s.far.set (bU g h).toNat (gI s.far v+1)⟩ else s
def il(g:aD)(v:Int)(s:Bf):Bf:=(bW g v).foldl (dv g v) s
def iQ(g:aD):Nat->Nat->Bf->Bf
 |0,_,s=>s
 |n+1,i,s=>if i<s.order.length then iQ g n (i+1) (il g (gI s.order (i:Int)) s) else s
def cC(g:aD)(s0:Int):Bf:=⟨[s0],List.replicate g.1.toNat (-1),(List.replicate g.1.toNat (-1)).set s0.toNat 0⟩
def bQ(g:aD)(s0:Int):Bf:=iQ g g.1.toNat 0 (cC g s0)
structure gf(g:aD)(s:Bf):Prop where
 far:(s.far.length:Int)=g.1
 by_:(s.by_.length:Int)=g.1
 nodup:s.order.Nodup
 rng:∀x∈s.order,0<=x/\x<g.1
 iff:∀w,0<=w->w<g.1->(gI s.far w<0↔w∉s.order)
 le:∀w,0<=w->w<g.1->gI s.far w<=s.order.length
theorem gf.start{g:aD}{s0:Int}(h0:0<=s0)(h1:s0<g.1):gf g (cC g s0):=by
 refine⟨by simp[cC];omega,by simp[cC];omega,by simp[cC],by simp[cC];omega,λw hw0 hw1=>?_,λw hw0 hw1=>?_⟩
 · simp only[cC]
   rw[bB h0 (by simp;omega) hw0]
   by_cases e:w=s0
   · subst e;simp
   · rw[if_neg e,fP hw0 (by omega)];simp[e]
 · simp only[cC]
   rw[bB h0 (by simp;omega) hw0]
   by_cases e:w=s0
   · subst e;simp
   · rw[if_neg e,fP hw0 (by omega)];simp
theorem gf.len{g:aD}{s:Bf}(h:gf g s)(hg:0<=g.1):(s.order.length:Int)<=g.1:=jd hg h.nodup h.rng
theorem gf.one{g:aD}{s:Bf}{v h:Int}(hs:gf g s)(hv:v∈s.order)(h0:0<=bU g h)(h1:bU g h<g.1):gf g (dv g v s h):=by
 obtain⟨hv0,hv1⟩:=hs.rng v hv
 unfold dv
 by_cases c:gI s.far (bU g h)<0
 · rw[if_pos c]
   have hn:=(hs.iff _ h0 h1).1 c
   have hf:=hs.far
   have hlv:=hs.le v hv0 hv1
   refine⟨by simpa using hs.far,by simpa using hs.by_,?_,λx hx=>?_,λw hw0 hw1=>?_,λw hw0 hw1=>?_⟩
   · rw[List.nodup_append]
     refine⟨hs.nodup,by simp,λa ha b hb=>?_⟩
     obtain rfl:=List.mem_singleton.1 hb
     intro e;subst e;exact hn ha
   · rcases List.mem_append.1 hx with hx|hx
     · exact hs.rng x hx
     · obtain rfl:=List.mem_singleton.1 hx;exact⟨h0,h1⟩
   · simp only
     rw[bB h0 (by omega) hw0]
     by_cases e:w=bU g h
     · subst e
       rw[if_pos rfl]
       have hx:¬gI s.far v<0:=λhh=>(hs.iff v hv0 hv1).1 hh hv
       constructor
       · intro hh;omega
       · intro hh;simp at hh
     · rw[if_neg e,hs.iff w hw0 hw1];simp[e]
   · simp only
     rw[bB h0 (by omega) hw0]
     by_cases e:w=bU g h
     · subst e;rw[if_pos rfl];simp;omega
     · rw[if_neg e]
       have:=hs.le w hw0 hw1
       simp;omega
 · rw[if_neg c];exact hs
end TL
namespace TL
theorem dr{g:aD}{v h:Int}(hh:h∈bW g v):(0<=h/\h<2*(g.2.length:Int))/\aB g h=v:=by
 unfold bW dK at hh
 obtain⟨h1,h2⟩:=List.mem_filter.1 hh
 obtain⟨k,hk,rfl⟩:=List.mem_map.1 h1
 have:=List.mem_range.1 hk
 exact⟨by omega,by simpa using h2⟩
theorem l8(g:aD)(v:Int)(s:Bf)(h:Int):∃t,(dv g v s h).order=s.order++t:=by
 unfold dv
 split
 · exact⟨_,rfl⟩
 · exact⟨[],by simp⟩
def dS(g:aD)(p:List Int×Int)(v:Int):List Int×Int:=
 if 0<=gI p.1 v then p else((bQ g v).order.foldl (λl w=>l.set w.toNat p.2) p.1,p.2+1)
def aE(g:aD)(k:Nat):List Int×Int:=(ba k).foldl (dS g) (List.replicate g.1.toNat (-1),0)
def ay(g:aD):List Int×Int×Int:=if aV g then((aE g g.1.toNat).1,(aE g g.1.toNat).2,0) else([],0,1)
theorem cP(g:aD)(k:Nat):aE g (k+1)=dS g (aE g k) (k:Int):=by
 unfold aE
 rw[fM,List.foldl_append];rfl
theorem eG(g:aD):∀k:Nat,(aE g k).1.length=g.1.toNat/\0<=(aE g k).2/\(aE g k).2<=k:=by
 intro k
 induction k with
 |zero=>simp[aE,ba]
 |succ k ih=>
   rw[cP]
   unfold dS
   have fJ:∀(l:List Int) (p:List Int) (x:Int),(l.foldl (λl w=>l.set w.toNat x) p).length=p.length:=by
     intro l
     induction l with
     |nil=>intro p x;rfl
     |cons a l ih=>intro p x;rw[List.foldl_cons,ih];simp
   split
   · exact⟨ih.1,ih.2.1,by omega⟩
   · simp only
     rw[fJ]
     exact⟨ih.1,by omega,by omega⟩
theorem dR(x:Int):∀(l p:List Int),(l.foldl (λl w=>l.set w.toNat x) p).length=p.length
 |[],p=>rfl
 |a::l,p=>by rw[List.foldl_cons,dR x l];simp
end TL
namespace TL
theorem l6{k n:Nat}{x:Int}(hk:k<n):(List.replicate k x++List.replicate (n-k) 0).set (k:Int).toNat x=List.replicate (k+1) x++List.replicate (n-(k+1)) (0:Int):=by
 have e:n-k=(n-(k+1))+1:=by omega
 rw[e,List.replicate_succ]
 simp only[Int.toNat_natCast]
 rw[List.set_append_right _ _ (by simp)]
 simp only[List.length_replicate,Nat.sub_self,List.set_cons_zero]
 rw[List.replicate_succ']
 simp
theorem cj.rl{out:List (List Int)}{g:aD}{k:Nat}(h:cj out g k){v:Int}(h0:0<=v)(h1:v<g.1):((gI out v).length:Int)<=2*(k:Int):=by
 rw[h.at_ v h0 h1]
 have:=lh g v k
 omega
theorem cj.rl2{out:List (List Int)}{g:aD}{k:Nat}(h:cj out g k){u v:Int}(h2:0<=u)(h3:u<g.1)(h0:0<=v)(h1:v<g.1)(a:Int):((gI (out.set u.toNat (gI out u++[a])) v).length:Int)<=2*(k:Int)+1:=by
 have hl:=h.len
 rw[bB h2 (by omega) h0]
 split
 · have:=h.rl h2 h3;simp;omega
 · have:=h.rl h0 h1;omega
theorem cj.done{out:List (List Int)}{g:aD}{k:Nat}(h:cj out g k)(hk:k=g.2.length):∀v,0<=v->v<g.1->gI out v=bW g v:=λv h0 h1=>by
 subst hk;exact h.at_ v h0 h1
end TL
namespace TL
theorem jW{g:aD}{part:List Int}{n:Int}{q:Nat}(h:part=(aE g q).1/\n=(aE g q).2)(c:0<=gI part (q:Int)):part=(aE g (q+1)).1/\n=(aE g (q+1)).2:=by
 have h1:aE g (q+1)=aE g q:=by
   rw[cP]
   unfold dS
   rw[if_pos (by rw[<-h.1];exact c)]
 rw[h1];exact h
theorem gL{g:aD}(hm:aV g){q:Nat}(hq:(q:Int)=g.1){part:List Int}{n:Int}(h:part=(aE g q).1/\n=(aE g q).2):part=(ay g).1/\n=(ay g).2.1/\0=(ay g).2.2:=by
 have e:q=g.1.toNat:=by omega
 subst e
 unfold ay
 rw[if_pos hm]
 exact⟨h.1,h.2,rfl⟩
theorem fL(g:aD)(hm:aV g):0<=(ay g).2.1/\(ay g).2.1<=g.1:=by
 unfold ay
 rw[if_pos hm]
 have:=eG g g.1.toNat
 have h2:=hm.1
 exact⟨this.2.1,by show(aE g g.1.toNat).2<=g.1;omega⟩
end TL
namespace TL
end TL
/-
  TlRot2: rotations: faces of half-edges, first ones, parts, moved ones.
  By an AI agent.
-/
set_option linter.all false
namespace TL
def ab(g:aD):gT:=(List.range g.1.toNat).map λ(v:Nat)=>bW g (v:Int)
theorem cj.first{out:gT}{g:aD}{k:Nat}(h:cj out g k)(hk:k=g.2.length):out=ab g:=by
 have hl:=h.len
 apply cB
 · simp[ab];omega
 · intro i hi
   rw[h.done hk _ (by omega) (by omega)]
   have:i<g.1.toNat:=by omega
   simp[ab,gI,this]
structure ct(out:gT)(g:aD)(h:Nat):Prop where
  len:(out.length:Int)=g.1
  at_:∀v,0<=v->v<g.1->gI out v=iC g v h
theorem ct.start{g:aD}(h:0<=g.1):ct (List.replicate g.1.toNat []) g 0:=⟨by simp;omega,λv h0 h1=>by rw[fP h0 (by omega)];simp[iC]⟩
theorem ct.next{out:gT}{g:aD}{h:Nat}(hi:ct out g h)(h0:0<=aB g h)(h1:aB g h<g.1):ct (out.set (aB g h).toNat (gI out (aB g h)++[(h:Int)])) g (h+1):=by
 have hl:=hi.len
 refine⟨by simpa using hl,λv h2 h3=>?_⟩
 rw[bB h0 (by omega) h2,lu]
 by_cases e:v=aB g (h:Int)
 · rw[if_pos e,if_pos e.symm,hi.at_ _ h0 h1,<-e]
 · rw[if_neg e,if_neg (λh=>e h.symm),hi.at_ v h2 h3]
theorem ct.bd{out:gT}{g:aD}{h:Nat}(hi:ct out g h){v:Int}(h0:0<=v)(h1:v<g.1):(gI out v).length<=h:=by
 rw[hi.at_ v h0 h1];exact mY g v h
theorem ct.done{out:gT}{g:aD}{h:Nat}(hi:ct out g h)(hh:h=2*g.2.length):out=ab g:=by
 have hl:=hi.len
 apply cB
 · simp[ab];omega
 · intro i hlt
   rw[hi.at_ _ (by omega) (by omega),mn g _ hh]
   have:i<g.1.toNat:=by omega
   simp[ab,gI,this]
end TL
/-
  TlJudge: plots: their flaws, as the code and the document gather them.
  By an AI agent.
-/
set_option linter.all false
namespace TL
abbrev rF:=Int×Int×Int
abbrev gU:=List Pt×List (List Pt)
section
variable{β:Type}{f h:Nat->List β}{k n:Nat}{x:β}{F B:List β}
end
section
variable{β:Type}{p:Prop}[Decidable p]{x:β}
end
def ry(l:List Pt):Prop:=2<=(l.length:Int)/\rc l
instance (l:List Pt):Decidable (ry l):=by unfold ry;infer_instance
def pi(g:aD)(p:gU)(e:Int):Prop:=gI (gI p.2 e) 0=gI p.1 (gI g.2 e).1/\gI (gI p.2 e) (((gI p.2 e).length:Int)-1)=gI p.1 (gI g.2 e).2
instance (g:aD)(p:gU)(e:Int):Decidable (pi g p e):=by unfold pi;infer_instance
def po(l:List Pt)(q:Pt):Prop:=∃s∈ml l (l.length-1),lN s.1 s.2 q
instance (l:List Pt)(q:Pt):Decidable (po l q):=by unfold po;infer_instance
def mX(s t:Sg)(but:List Pt):Prop:=eP s.1 s.2 t.1 t.2=0\/(eP s.1 s.2 t.1 t.2=1\/eP s.1 s.2 t.1 t.2=2)/\∃x∈but,js s.1 s.2 t.1 t.2 x
instance (s t:Sg)(but:List Pt):Decidable (mX s t but):=by unfold mX;infer_instance
def qA(a b but:List Pt):Prop:=∀s∈ml a (a.length-1),∀t∈ml b (b.length-1),mX s t but
instance (a b but:List Pt):Decidable (qA a b but):=by unfold qA;infer_instance
section
variable{g:aD}{p:gU}
end
end TL
namespace TL
section
variable{l:List Pt}{p:Pt}{i:Nat}
end
section
variable{a b c d:Pt}{but:List Pt}{k:Nat}{m:Int}
end
def r5(p:gU)(h:Int):Pt:=if h%2=0 then gI (gI p.2 (h/2)) 1 else gI (gI p.2 (h/2)) (((gI p.2 (h/2)).length:Int)-2)
def rn(u v:Pt):Int:=u.1*v.1+u.2*v.2
def n9(u v:Pt):Prop:=qZ u v=0/\0<rn u v
instance (u v:Pt):Decidable (n9 u v):=by unfold n9;infer_instance
end TL
namespace TL
end TL
namespace TL
section
variable{g:aD}{p:gU}{F G B:List rF}{v e k i:Nat}
end
section
variable{g:aD}{p:gU}{e f:Int}
end
section
variable{a b but:List Pt}{i k:Nat}
end
section
variable{g:aD}{p:gU}{e f:Nat}{b:Bool}
end
end TL
/-
  TlMap: maps that the call makes.
  By an AI agent.
-/
set_option linter.all false
namespace TL
open Go
class Ky (K:Type) where
  val:K->Value
section
variable{P:Program}{f:Fr}{w:World}{dst:Option Tmp}{ty:TypeId}{pos:String}{after:Array Edge}{g:Option (Nat×Bool)}{t:TypeId}{x y z:Operand}{N:Value->World->Prop}
end
instance:Ky Int where
 val k:=.int .i64 k
instance:Ky (Int×Int) where
 val k:=.agg (List.toArray [.int .i64 k.1,.int .i64 k.2])
end TL
namespace TL
open Go
end TL
/-
  TlTr: one of each class, how many classes there are; the components of a net.
  By an AI agent.
-/
set_option linter.all false
namespace TL
structure Tr(D:Int->Prop)(R:Int->Int->Prop)(l:List Int):Prop where
  nd:l.Nodup
  dom:∀x∈l,D x
  all:∀x,D x->∃y∈l,R x y
  one:∀x∈l,∀y∈l,R x y->x=y
structure lU(D:Int->Prop)(R:Int->Int->Prop):Prop where
 rfl:∀x,D x->R x x
 symm:∀x y,D x->D y->R x y->R y x
 trans:∀x y z,D x->D y->D z->R x y->R y z->R x z
theorem kH{P:Int->Int->Prop}:∀(l l':List Int),l.Nodup->(∀x∈l,∃y∈l',P x y)->(∀x∈l,∀x'∈l,∀y,y∈l'->P x y->P x' y->x=x')->l.length<=l'.length
 |[],l',_,_,_=>by simp
 |a::l,l',hn,h1,h2=>by
   obtain⟨y,hy,hp⟩:=h1 a (by simp)
   have hn':=List.nodup_cons.1 hn
   have h3:=kH (P:=P) l (l'.erase y) hn'.2 (λx hx=>by
     obtain⟨z,hz,hq⟩:=h1 x (by simp[hx])
     refine⟨z,(List.mem_erase_of_ne (λe=>?_)).2 hz,hq⟩
     subst e
     have:=h2 a (by simp) x (by simp[hx]) z hz hp hq
     subst this
     exact hn'.1 hx) (λx hx x' hx' z hz=>h2 x (by simp[hx]) x' (by simp[hx']) z (List.mem_of_mem_erase hz))
   have h4:=List.length_erase_of_mem hy
   have h5:=List.length_pos_of_mem hy
   simp;omega
theorem Tr.len{D:Int->Prop}{R:Int->Int->Prop}{l l':List Int}(he:lU D R)(h:Tr D R l)(h':Tr D R l'):l.length=l'.length:=by
 have fJ:∀{l l':List Int},Tr D R l->Tr D R l'->l.length<=l'.length:=λ {l l'} h h'=>kH (P:=R) l l' h.nd (λx hx=>h'.all x (h.dom x hx)) (λx hx x' hx' y hy h1 h2=>h.one x hx x' hx' (he.trans _ _ _ (h.dom x hx) (h'.dom y hy) (h.dom x' hx') h1 (he.symm _ _ (h.dom x' hx') (h'.dom y hy) h2)))
 exact Nat.le_antisymm (fJ h h') (fJ h' h)
theorem dX{f:Int->Int}:∀{l:List Int},l.Nodup->(∀x∈l,∀y∈l,f x=f y->x=y)->(l.map f).Nodup
 |[],_,_=>by simp
 |a::l,hn,h=>by
   have hn':=List.nodup_cons.1 hn
   rw[List.map_cons,List.nodup_cons]
   refine⟨λhm=>?_,dX hn'.2 (λx hx y hy=>h x (by simp[hx]) y (by simp[hy]))⟩
   obtain⟨y,hy,e⟩:=List.mem_map.1 hm
   have:=h a (by simp) y (by simp[hy]) e.symm
   subst this
   exact hn'.1 hy
theorem Tr.map{D D':Int->Prop}{R R':Int->Int->Prop}{l:List Int}(f:Int->Int)(h:Tr D R l)(he':lU D' R')(hd:∀x,D x->D' (f x))(hr:∀x y,D x->D y->R x y->R' (f x) (f y))(hb:∀x y,D x->D y->R' (f x) (f y)->R x y)(hs:∀z,D' z->∃x,D x/\R' z (f x)):Tr D' R' (l.map f):=by
  refine⟨dX h.nd λx hx y hy e=>?_,λz hz=>?_,λz hz=>?_,λz hz w hw hzw=>?_⟩
  · have hx':=h.dom x hx
    have hy':=h.dom y hy
    exact h.one x hx y hy (hb x y hx' hy' (by rw[<-e];exact he'.rfl _ (hd x hx')))
  · obtain⟨x,hx,rfl⟩:=List.mem_map.1 hz
    exact hd x (h.dom x hx)
  · obtain⟨x,hx,hzx⟩:=hs z hz
    obtain⟨y,hy,hxy⟩:=h.all x hx
    exact⟨f y,List.mem_map.2 ⟨y,hy,rfl⟩,he'.trans _ _ _ hz (hd x hx) (hd y (h.dom y hy)) hzx (hr x y hx (h.dom y hy) hxy)⟩
  · obtain⟨x,hx,rfl⟩:=List.mem_map.1 hz
    obtain⟨y,hy,rfl⟩:=List.mem_map.1 hw
    rw[h.one x hx y hy (hb x y (h.dom x hx) (h.dom y hy) hzw)]
def gV(D:Int->Prop)(R:Int->Int->Prop)(k:Nat):Prop:=∃l,Tr D R l/\l.length=k
theorem gV.eq{D:Int->Prop}{R:Int->Int->Prop}{k k':Nat}(he:lU D R)(h:gV D R k)(h':gV D R k'):k=k':=by
 obtain⟨l,h1,rfl⟩:=h
 obtain⟨l',h2,rfl⟩:=h'
 exact h1.len he h2
theorem gV.iff{D:Int->Prop}{R R':Int->Int->Prop}{k:Nat}(h:gV D R k)(hi:∀x y,D x->D y->(R x y↔R' x y)):gV D R' k:=by
 obtain⟨l,h1,h2⟩:=h
 refine⟨l,⟨h1.nd,h1.dom,λx hx=>?_,λx hx y hy hxy=>h1.one x hx y hy ((hi x y (h1.dom x hx) (h1.dom y hy)).2 hxy)⟩,h2⟩
 obtain⟨y,hy,hxy⟩:=h1.all x hx
 exact⟨y,hy,(hi x y hx (h1.dom y hy)).1 hxy⟩
theorem gV.map{D D':Int->Prop}{R R':Int->Int->Prop}{k:Nat}(f:Int->Int)(h:gV D R k)(he':lU D' R')(hd:∀x,D x->D' (f x))(hr:∀x y,D x->D y->R x y->R' (f x) (f y))(hb:∀x y,D x->D y->R' (f x) (f y)->R x y)(hs:∀z,D' z->∃x,D x/\R' z (f x)):gV D' R' k:=by
 obtain⟨l,h1,h2⟩:=h
 exact⟨l.map f,h1.map f he' hd hr hb hs,by rw[List.length_map,h2]⟩
def ci(g:aD)(v:Int):Prop:=0<=v/\v<g.1
def Cn(g:aD)(u v:Int):Prop:=∀R:Int->Int->Prop,lU (ci g) R->(∀e∈g.2,R e.1 e.2)->R u v
theorem Cn.eqv(g:aD):lU (ci g) (Cn g):=
 ⟨λx hx R hR _=>hR.rfl x hx,λx y hx hy h R hR he=>hR.symm x y hx hy (h R hR he),λx y z hx hy hz h1 h2 R hR he=>hR.trans x y z hx hy hz (h1 R hR he) (h2 R hR he)⟩
theorem Cn.edge{g:aD}{e:Int×Int}(h:e∈g.2):Cn g e.1 e.2:=λR _ he=>he e h
theorem Cn.half{g:aD}(hm:aV g){h:Int}(h0:0<=h)(h1:h<2*(g.2.length:Int)):Cn g (aB g h) (bU g h):=by
 have hin:=aU (xs:=g.2) (i:=h/2) (by omega) (by omega)
 have hok:=hm.2.2.2 _ hin
 have hc:=Cn.edge hin
 unfold aB bU pI
 have h2:h%2=0\/h%2=1:=by omega
 rcases h2 with e|e
 · rw[e];simpa using hc
 · rw[e]
   exact(Cn.eqv g).symm _ _ hok.1 hok.2 (by simpa using hc)
theorem pP{g:aD}{i:Nat}(hi:(i:Int)<g.2.length):2*(i:Int)∈bW g (gI g.2 (i:Int)).1/\2*(i:Int)+1∈bW g (gI g.2 (i:Int)).2/\bU g (2*(i:Int))=(gI g.2 (i:Int)).2/\bU g (2*(i:Int)+1)=(gI g.2 (i:Int)).1:=by
 have e1:(2*(i:Int))/2=i:=by omega
 have e2:(2*(i:Int))%2=0:=by omega
 have e3:(2*(i:Int)+1)/2=i:=by omega
 have e4:(2*(i:Int)+1)%2=1:=by omega
 refine⟨?_,?_,by unfold bU;rw[e1,e2];simp[pI],by unfold bU;rw[e3,e4];simp[pI]⟩
 · unfold bW dK
   refine List.mem_filter.2 ⟨List.mem_map.2 ⟨2*i,List.mem_range.2 (by omega),by push_cast;rfl⟩,?_⟩
   simp only[decide_eq_true_eq]
   unfold aB;rw[e1,e2];simp[pI]
 · unfold bW dK
   refine List.mem_filter.2 ⟨List.mem_map.2 ⟨2*i+1,List.mem_range.2 (by omega),by push_cast;rfl⟩,?_⟩
   simp only[decide_eq_true_eq]
   unfold aB;rw[e3,e4];simp[pI]
theorem i2{g:aD}{S:Int->Prop}(hS:∀x h,S x->h∈bW g x->S (bU g h)){u v:Int}(hc:Cn g u v):S u->S v:=by
 refine(hc (λu v=>S u↔S v) ⟨λ_ _=>Iff.rfl,λ_ _ _ _ h=>h.symm,λ_ _ _ _ _ _ h1 h2=>h1.trans h2⟩ (λe he=>?_)).1
 obtain⟨i,hi,rfl⟩:=List.mem_iff_getElem.1 he
 have e:gI g.2 (i:Int)=g.2[i]:=by simp[gI,hi]
 obtain⟨a,b,c,d⟩:=pP (g:=g) (i:=i) (by omega)
 rw[e] at a b c d
 exact⟨λh=>by rw[<-c];exact hS _ _ h a,λh=>by rw[<-d];exact hS _ _ h b⟩
theorem lq(g:aD)(v:Int)(s:Bf)(h:Int):∀x∈(dv g v s h).order,x∈s.order\/x=bU g h:=by
 intro x hx
 unfold dv at hx
 split at hx
 · rcases List.mem_append.1 hx with hx|hx
   · exact .inl hx
   · exact .inr (List.mem_singleton.1 hx)
 · exact .inl hx
theorem i9{g:aD}(hm:aV g){v:Int}:∀(l:List Int) (s:Bf),(∀h∈l,h∈bW g v)->gf g s->v∈s.order->
   gf g (l.foldl (dv g v) s)/\(∃t,(l.foldl (dv g v) s).order=s.order++t)/\(∀x∈(l.foldl (dv g v) s).order,x∈s.order\/∃h∈bW g v,x=bU g h)/\∀h∈l,bU g h∈(l.foldl (dv g v) s).order
 |[],s,_,hs,hv=>⟨hs,⟨[],by simp⟩,λx hx=>.inl hx,by simp⟩
 |a::l,s,hl,hs,hv=>by
   have hin:=(dr (hl a (by simp))).1
   have ht:=dV hm hin.1 hin.2
   have h1:=hs.one (v:=v) (h:=a) hv ht.1 ht.2
   obtain⟨t,ht1⟩:=l8 g v s a
   have ha:bU g a∈(dv g v s a).order:=by
     by_cases c:gI s.far (bU g a)<0
     · unfold dv;rw[if_pos c];simp
     · rw[ht1]
       have:bU g a∈s.order:=Classical.byContradiction λhn=>c ((hs.iff _ ht.1 ht.2).2 hn)
       simp[this]
   obtain⟨k1,⟨t2,k2⟩,k3,k4⟩:=i9 hm l (dv g v s a) (λh hh=>hl h (by simp[hh])) h1 (by rw[ht1];simp[hv])
   rw[List.foldl_cons]
   refine⟨k1,⟨t++t2,by rw[k2,ht1,List.append_assoc]⟩,λx hx=>?_,λh hh=>?_⟩
   · rcases k3 x hx with hx|hx
     · rcases lq g v s a x hx with hx|hx
       · exact .inl hx
       · exact .inr ⟨a,hl a (by simp),hx⟩
     · exact .inr hx
   · rcases List.mem_cons.1 hh with rfl|hh
     · rw[k2];simp[ha]
     · exact k4 h hh
theorem kq{g:aD}(hm:aV g){s0:Int}:∀(n i:Nat) (s:Bf),gf g s->(∀x∈s.order,Cn g s0 x)->s0∈s.order->ci g s0->(∀q:Nat,q<i->(q:Int)<s.order.length->∀h∈bW g (gI s.order (q:Int)),bU g h∈s.order)->(g.1:Int)<=n+i->
   gf g (iQ g n i s)/\(∀x∈(iQ g n i s).order,Cn g s0 x)/\s0∈(iQ g n i s).order/\∀x∈(iQ g n i s).order,∀h∈bW g x,bU g h∈(iQ g n i s).order
 |0,i,s,hs,hc,h0,hd,hq,hn=>by
   refine⟨hs,hc,h0,λx hx h hh=>?_⟩
   obtain⟨q,hq1,e⟩:=List.mem_iff_getElem.1 hx
   have hl:=hs.len hm.1
   change q<s.order.length at hq1
   have eq1:gI s.order (q:Int)=x:=by simp only[iQ] at e;simp[gI,hq1,e]
   exact hq q (by omega) (by omega) h (by rw[eq1];exact hh)
 |n+1,i,s,hs,hc,h0,hd,hq,hn=>by
   simp only[iQ]
   by_cases c:i<s.order.length
   · rw[if_pos c]
     have hv:=aU (xs:=s.order) (i:=(i:Int)) (by omega) (by omega)
     obtain⟨k1,⟨t,k2⟩,k3,k4⟩:=i9 hm (v:=gI s.order (i:Int)) (bW g (gI s.order (i:Int))) s (λh hh=>hh) hs hv
     have hvd:=hs.rng _ hv
     have hpre:∀q:Nat,(q:Int)<s.order.length->gI (il g (gI s.order (i:Int)) s).order (q:Int)=gI s.order (q:Int):=λq hq'=>by
       unfold il;rw[k2];unfold gI
       have:((q:Int)).toNat<s.order.length:=by omega
       simp only[Int.toNat_natCast] at this ⊢
       simp[List.getD_eq_getElem?_getD,List.getElem?_append_left this]
     refine kq hm n (i+1) (il g (gI s.order (i:Int)) s) k1 (λx hx=>?_) (by unfold il;rw[k2];simp[h0]) hd (λq hq1 hq2 h hh=>?_) (by omega)
     · rcases k3 x hx with hx|⟨h,hh,rfl⟩
       · exact hc x hx
       · have hin:=dr hh
         have h1:=Cn.half hm hin.1.1 hin.1.2
         rw[hin.2] at h1
         exact(Cn.eqv g).trans _ _ _ hd hvd (dV hm hin.1.1 hin.1.2) (hc _ hv) h1
     · by_cases e:q=i
       · subst e
         rw[hpre q (by omega)] at hh
         exact k4 h hh
       · have hq3:(q:Int)<s.order.length:=by omega
         rw[hpre q hq3] at hh
         have:=hq q (by omega) hq3 h hh
         unfold il;rw[k2];simp[this]
   · rw[if_neg c]
     refine⟨hs,hc,h0,λx hx h hh=>?_⟩
     obtain⟨q,hq1,e⟩:=List.mem_iff_getElem.1 hx
     have eq1:gI s.order (q:Int)=x:=by simp[gI,hq1,e]
     exact hq q (by omega) (by omega) h (by rw[eq1];exact hh)
theorem eo{g:aD}(hm:aV g){s0:Int}(h0:ci g s0):(∀x∈(bQ g s0).order,ci g x)/\∀x,x∈(bQ g s0).order↔Cn g s0 x:=by
 obtain⟨k1,k2,k3,k4⟩:=kq hm (s0:=s0) g.1.toNat 0 (cC g s0) (gf.start h0.1 h0.2) (by simp[cC];exact(Cn.eqv g).rfl s0 h0) (by simp[cC]) h0 (λq hq=>by omega) (by have:=hm.1;omega)
 refine⟨k1.rng,λx=>⟨k2 x,λhc=>?_⟩⟩
 exact i2 (S:=λx=>x∈(bQ g s0).order) (λx h hx hh=>k4 x hx h hh) hc k3
theorem go{n:Int}:∀(O p:List Int) (v:Int),0<=v->v<p.length->(∀x∈O,0<=x/\x<p.length)->gI (O.foldl (λl w=>l.set w.toNat n) p) v=if v∈O then n else gI p v
 |[],p,v,h0,h1,_=>by simp
 |a::O,p,v,h0,h1,ho=>by
   have ha:=ho a (by simp)
   rw[List.foldl_cons,go O _ v h0 (by simpa using h1) (λx hx=>by simpa using ho x (by simp[hx])),bB ha.1 ha.2 h0]
   by_cases e:v=a
   · subst e;simp
   · by_cases hv:v∈O
     · simp[hv]
     · simp[hv,e]
structure lM(g:aD)(p:List Int×Int)(l:List Int)(k:Nat):Prop where
  len:(p.1.length:Int)=g.1
  num:p.2=(l.length:Int)
  nd:l.Nodup
  dom:∀x∈l,ci g x
  one:∀x∈l,∀y∈l,Cn g x y->x=y
  iff:∀v,ci g v->(0<=gI p.1 v↔∃y∈l,Cn g v y)
  all:∀v:Nat,v<k->(v:Int)<g.1->∃y∈l,Cn g (v:Int) y
theorem d9{g:aD}(hm:aV g):∀k:Nat,(k:Int)<=g.1->∃l,lM g (aE g k) l k
 |0,_=>⟨[],by simp[aE,ba];have:=hm.1;omega,by simp[aE,ba],by simp,by simp,by simp,λv hv=>by
     have e:(aE g 0).1=List.replicate g.1.toNat (-1):=by simp[aE,ba]
     rw[e,fP hv.1 (by have:=hv.2;omega)];simp,λv hv=>by omega⟩
 |k+1,hk=>by
   obtain⟨l,h⟩:=d9 hm k (by omega)
   have hkd:ci g (k:Int):=⟨by omega,by omega⟩
   obtain⟨hb1,hb2⟩:=eo hm hkd
   rw[cP]
   unfold dS
   by_cases c:0<=gI (aE g k).1 (k:Int)
   · rw[if_pos c]
     refine⟨l,h.len,h.num,h.nd,h.dom,h.one,h.iff,λv hv hg=>?_⟩
     by_cases e:v=k
     · subst e;exact(h.iff _ hkd).1 c
     · exact h.all v (by omega) hg
   · rw[if_neg c]
     have hno:∀y∈l,¬Cn g (k:Int) y:=λy hy hc=>c ((h.iff _ hkd).2 ⟨y,hy,hc⟩)
     have hlen:=h.len
     have hnn:0<=(aE g k).2:=by rw[h.num];omega
     refine⟨l++[(k:Int)],?_,?_,?_,?_,?_,?_,?_⟩
     · simp only;rw[dR];exact hlen
     · simp only[h.num];simp
     · rw[List.nodup_append]
       refine⟨h.nd,by simp,λa ha b hb e=>?_⟩
       obtain rfl:=List.mem_singleton.1 hb
       subst e
       exact hno _ ha ((Cn.eqv g).rfl _ hkd)
     · intro x hx
       rcases List.mem_append.1 hx with hx|hx
       · exact h.dom x hx
       · obtain rfl:=List.mem_singleton.1 hx;exact hkd
     · intro x hx y hy hc
       rcases List.mem_append.1 hx with hx|hx
       · rcases List.mem_append.1 hy with hy|hy
         · exact h.one x hx y hy hc
         · obtain rfl:=List.mem_singleton.1 hy
           exact absurd ((Cn.eqv g).symm _ _ (h.dom x hx) hkd hc) (hno x hx)
       · obtain rfl:=List.mem_singleton.1 hx
         rcases List.mem_append.1 hy with hy|hy
         · exact absurd hc (hno y hy)
         · obtain rfl:=List.mem_singleton.1 hy;rfl
     · intro v hv
       simp only
       rw[go _ _ v hv.1 (by have:=hv.2;omega) (λx hx=>by have:=hb1 x hx;exact⟨this.1,by have:=this.2;omega⟩)]
       by_cases hvo:v∈(bQ g (k:Int)).order
       · rw[if_pos hvo]
         exact⟨λ_=>⟨(k:Int),by simp,(Cn.eqv g).symm _ _ hkd hv ((hb2 v).1 hvo)⟩,λ_=>hnn⟩
       · rw[if_neg hvo,h.iff v hv]
         constructor
         · rintro⟨y,hy,hc⟩;exact⟨y,by simp[hy],hc⟩
         · rintro⟨y,hy,hc⟩
           rcases List.mem_append.1 hy with hy|hy
           · exact⟨y,hy,hc⟩
           · obtain rfl:=List.mem_singleton.1 hy
             exact absurd ((hb2 v).2 ((Cn.eqv g).symm _ _ hv hkd hc)) hvo
     · intro v hv hg
       by_cases e:v=k
       · subst e;exact⟨(v:Int),by simp,(Cn.eqv g).rfl _ hkd⟩
       · obtain⟨y,hy,hc⟩:=h.all v (by omega) hg
         exact⟨y,by simp[hy],hc⟩
theorem d8{g:aD}(hm:aV g):∃k:Nat,(ay g).2.1=(k:Int)/\gV (ci g) (Cn g) k:=by
  have h0:=hm.1
  obtain⟨l,h⟩:=d9 hm g.1.toNat (by omega)
  refine⟨l.length,by unfold ay;rw[if_pos hm];exact h.num,l,⟨h.nd,h.dom,λx hx=>?_,h.one⟩,rfl⟩
  have:=h.all x.toNat (by have:=hx.1;have:=hx.2;omega) (by have:=hx.1;have:=hx.2;omega)
  rwa[show((x.toNat:Nat):Int)=x by have:=hx.1;omega] at this
end TL
/-
  TlCyc: lists gone round: what stands behind what; rotations turned, and moved.
  By an AI agent.
-/
set_option linter.all false
namespace TL
def rz(l:List Int)(h:Int):Int:=gI l ((((l.idxOf h:Nat):Int)+1)%(l.length:Int))
section
variable{g:aD}{r:gT}{to:List Int}
end
end TL
/-
  TlOrb: going round by a permutation; two places changed; what that does to the numbers of rounds.
  By an AI agent.
-/
set_option linter.all false
namespace TL
def Jn(R:Int->Int->Prop)(a b x y:Int):Prop:=R x y\/(R x a/\R b y)\/(R x b/\R a y)
theorem Jn.eqv{D:Int->Prop}{R:Int->Int->Prop}(h:lU D R){a b:Int}(ha:D a)(hb:D b):lU D (Jn R a b):=by
 refine⟨λx hx=>.inl (h.rfl x hx),λx y hx hy hxy=>?_,λx y z hx hy hz h1 h2=>?_⟩
 · rcases hxy with e|⟨e1,e2⟩|⟨e1,e2⟩
   · exact .inl (h.symm _ _ hx hy e)
   · exact .inr (.inr ⟨h.symm _ _ hb hy e2,h.symm _ _ hx ha e1⟩)
   · exact .inr (.inl ⟨h.symm _ _ ha hy e2,h.symm _ _ hx hb e1⟩)
 · rcases h1 with e|⟨e1,e2⟩|⟨e1,e2⟩
   · rcases h2 with f|⟨f1,f2⟩|⟨f1,f2⟩
     · exact .inl (h.trans _ _ _ hx hy hz e f)
     · exact .inr (.inl ⟨h.trans _ _ _ hx hy ha e f1,f2⟩)
     · exact .inr (.inr ⟨h.trans _ _ _ hx hy hb e f1,f2⟩)
   · rcases h2 with f|⟨f1,f2⟩|⟨f1,f2⟩
     · exact .inr (.inl ⟨e1,h.trans _ _ _ hb hy hz e2 f⟩)
     · exact .inr (.inl ⟨e1,f2⟩)
     · exact .inl (h.trans _ _ _ hx ha hz e1 f2)
   · rcases h2 with f|⟨f1,f2⟩|⟨f1,f2⟩
     · exact .inr (.inr ⟨e1,h.trans _ _ _ ha hy hz e2 f⟩)
     · exact .inl (h.trans _ _ _ hx hb hz e1 f2)
     · exact .inr (.inr ⟨e1,f2⟩)
theorem gV.join{D:Int->Prop}{R:Int->Int->Prop}(he:lU D R){a b:Int}(ha:D a)(hb:D b)(hab:¬R a b){k:Nat}(h:gV D R k):∃k',gV D (Jn R a b) k'/\k'+1=k:=by
 obtain⟨l,h,rfl⟩:=h
 obtain⟨z,hz,hbz⟩:=h.all b hb
 have hzd:=h.dom z hz
 refine⟨(l.erase z).length,⟨l.erase z,⟨h.nd.erase z,λx hx=>h.dom x (List.mem_of_mem_erase hx),λx hx=>?_,λx hx y hy hxy=>?_⟩,rfl⟩,?_⟩
 · obtain⟨y,hy,hxy⟩:=h.all x hx
   by_cases e:y=z
   · subst e
     obtain⟨w,hw,haw⟩:=h.all a ha
     refine⟨w,(List.mem_erase_of_ne λe=>hab ?_).2 hw,.inr (.inr ⟨he.trans _ _ _ hx hzd hb hxy (he.symm _ _ hb hzd hbz),haw⟩)⟩
     subst e
     exact he.trans _ _ _ ha hzd hb haw (he.symm _ _ hb hzd hbz)
   · exact⟨y,(List.mem_erase_of_ne e).2 hy,.inl hxy⟩
 · have hx':=h.nd.mem_erase_iff.1 hx
   have hy':=h.nd.mem_erase_iff.1 hy
   have hxd:=h.dom x hx'.2
   have hyd:=h.dom y hy'.2
   rcases hxy with e|⟨_,e⟩|⟨e,_⟩
   · exact h.one x hx'.2 y hy'.2 e
   · exact absurd (h.one y hy'.2 z hz (he.trans _ _ _ hyd hb hzd (he.symm _ _ hb hyd e) hbz)) hy'.1
   · exact absurd (h.one x hx'.2 z hz (he.trans _ _ _ hxd hb hzd e hbz)) hx'.1
 · have h1:=List.length_erase_of_mem hz
   have h2:=List.length_pos_of_mem hz
   omega
def In(n x:Int):Prop:=0<=x/\x<n
theorem gV.ex{n:Int}{R:Int->Int->Prop}(he:lU (In n) R):∃k,gV (In n) R k:=by
 have fJ:∀m:Nat,(m:Int)<=n->∃l:List Int,l.Nodup/\(∀x∈l,0<=x/\x<m)/\(∀x:Int,0<=x->x<m->∃y∈l,R x y)/\∀x∈l,∀y∈l,R x y->x=y:=by
   intro m
   induction m with
   |zero=>exact λ_=>⟨[],by simp,by simp,λx h0 h1=>by omega,by simp⟩
   |succ m ih=>
     intro hm
     obtain⟨l,h1,h2,h3,h4⟩:=ih (by omega)
     have hmd:In n (m:Int):=⟨by omega,by omega⟩
     by_cases c:∃y∈l,R (m:Int) y
     · refine⟨l,h1,λx hx=>by have:=h2 x hx;omega,λx h0 hx=>?_,h4⟩
       by_cases e:x=(m:Int)
       · subst e;exact c
       · exact h3 x h0 (by omega)
     · refine⟨(m:Int)::l,List.nodup_cons.2 ⟨λhm=>by have:=h2 _ hm;omega,h1⟩,λx hx=>?_,λx h0 hx=>?_,λx hx y hy hxy=>?_⟩
       · rcases List.mem_cons.1 hx with rfl|hx
         · omega
         · have:=h2 x hx;omega
       · by_cases e:x=(m:Int)
         · subst e;exact⟨(m:Int),by simp,he.rfl _ hmd⟩
         · obtain⟨y,hy,hxy⟩:=h3 x h0 (by omega)
           exact⟨y,by simp[hy],hxy⟩
       · have hlt:∀z∈l,In n z:=λz hz=>by have:=h2 z hz;exact⟨by omega,by omega⟩
         rcases List.mem_cons.1 hx with rfl|hx
         · rcases List.mem_cons.1 hy with rfl|hy
           · rfl
           · exact absurd ⟨y,hy,hxy⟩ c
         · rcases List.mem_cons.1 hy with rfl|hy
           · exact absurd ⟨x,hx,he.symm _ _ (hlt x hx) hmd hxy⟩ c
           · exact h4 x hx y hy hxy
 by_cases hn:0<=n
 · obtain⟨l,h1,h2,h3,h4⟩:=fJ n.toNat (by omega)
   exact⟨l.length,l,⟨h1,λx hx=>by have:=h2 x hx;exact⟨by omega,by omega⟩,λx hx=>h3 x hx.1 (by have:=hx.2;omega),h4⟩,rfl⟩
 · exact⟨0,[],⟨by simp,by simp,λx hx=>by have:=hx.1;have:=hx.2;omega,by simp⟩,rfl⟩
def tr(a b x:Int):Int:=if x=a then b else if x=b then a else x
end TL
/-
  TlEul: Euler's count of a rotation.
  By an AI agent.
-/
set_option linter.all false
namespace TL
def cy(r:gT)(x:Int):Int:=match r.find? (λl=>decide (x∈l)) with
  |some l=>rz l x
  |none=>x
end TL
/-
  TlDfs: components found by a stack: the document's way.
  By an AI agent.
-/
set_option linter.all false
namespace TL
def gy(c:List Int):Nat:=(c.filter λx=>decide (x<0)).length
theorem mQ{c:List Int}{w n:Int}(h0:0<=w)(h1:w<c.length)(hc:gI c w<0)(hn:0<=n):gy (c.set w.toNat n)+1=gy c:=by
 have hlt:w.toNat<c.length:=by omega
 have e0:gI c w=c[w.toNat]:=by simp[gI,hlt]
 have e1:c=c.take w.toNat++c[w.toNat]::c.drop (w.toNat+1):=by
   rw[<-List.drop_eq_getElem_cons hlt,List.take_append_drop]
 have e2:c.set w.toNat n=c.take w.toNat++n::c.drop (w.toNat+1):=List.set_eq_take_append_cons_drop.trans (if_pos hlt)
 rw[e2]
 conv=>rhs;rw[e1]
 unfold gy
 rw[List.filter_append,List.filter_append,List.filter_cons,List.filter_cons,if_neg (by simp;omega),if_pos (by rw[<-e0];simpa using hc)]
 simp
 omega
theorem gJ{g:aD}{v:Int}(h0:0<=v)(h1:v<g.1):gI (ab g) v=bW g v:=by
 unfold ab gI
 have:v.toNat<g.1.toNat:=by omega
 simp[List.getD_eq_getElem?_getD,this]
 congr 1
 omega
theorem gZ(g:aD)(h:0<=g.1):((ab g).length:Int)=g.1:=by simp[ab];omega
structure cD(g:aD)(c0 c todo x:List Int)(n s:Int):Prop where
  len:(c.length:Int)=g.1
  n0:0<=n
  sd:ci g s
  pre:∀w,ci g w->Cn g s w->gI c0 w<0
  cmp:∀w,ci g w->(Cn g s w/\gI c w=n)\/gI c w=gI c0 w
  nd:todo.Nodup
  tds:∀t∈todo,ci g t/\Cn g s t/\gI c t=n
  clo:∀v,ci g v->Cn g s v->gI c v=n->v∉todo->v∉x->∀h∈bW g v,0<=gI c (bU g h)
  src:gI c s=n
theorem cD.start{g:aD}(hm:aV g){c0:List Int}{n:Int}{q:Nat}(hq:(q:Int)<g.1)(h:c0=(aE g q).1/\n=(aE g q).2)(c:¬0<=gI c0 (q:Int)):cD g c0 (c0.set (q:Int).toNat n) [(q:Int)] [] n (q:Int):=by
 obtain⟨l,hi⟩:=d9 hm q (by omega)
 obtain⟨rfl,rfl⟩:=h
 have hqd:ci g (q:Int):=⟨by omega,hq⟩
 have hn:0<=(aE g q).2:=by rw[hi.num];omega
 have hlen:=hi.len
 have hcn:=Cn.eqv g
 have hpre:∀w,ci g w->Cn g (q:Int) w->gI (aE g q).1 w<0:=λw hw hc=>by
   refine Int.not_le.1 λh0=>c ?_
   obtain⟨y,hy,hwy⟩:=(hi.iff w hw).1 h0
   exact(hi.iff _ hqd).2 ⟨y,hy,hcn.trans _ _ _ hqd hw (hi.dom y hy) hc hwy⟩
 have hset:∀w,ci g w->gI ((aE g q).1.set (q:Int).toNat (aE g q).2) w=if w=q then(aE g q).2 else gI (aE g q).1 w:=λw hw=>bB (by omega) (by omega) hw.1
 refine⟨by simpa using hlen,hn,hqd,hpre,λw hw=>?_,by simp,λt ht=>?_,λv hv hc e hnt _=>?_,?_⟩
 · rw[hset w hw]
   by_cases e:w=q
   · subst e;exact .inl ⟨hcn.rfl _ hqd,if_pos rfl⟩
   · rw[if_neg e];exact .inr rfl
 · obtain rfl:=List.mem_singleton.1 ht
   exact⟨hqd,hcn.rfl _ hqd,by rw[hset _ hqd,if_pos rfl]⟩
 · have hne:v≠q:=λe=>hnt (by simp[e])
   rw[hset v hv,if_neg hne] at e
   have:=hpre v hv hc
   omega
 · rw[hset _ hqd,if_pos rfl]
section
variable{g:aD}{c0 c todo x:List Int}{n s:Int}
theorem cD.bd(h:cD g c0 c todo x n s):(todo.length:Int)<=g.1:=by
 have h1:=h.sd.1
 have h2:=h.sd.2
 exact jd (by omega) h.nd (λt ht=>(h.tds t ht).1)
theorem cD.pop(h:cD g c0 c todo [] n s)(ht:0<todo.length):cD g c0 c (todo.take (todo.length-1)) [gI todo ((todo.length:Int)-1)] n s/\ci g (gI todo ((todo.length:Int)-1))/\Cn g s (gI todo ((todo.length:Int)-1))/\gI c (gI todo ((todo.length:Int)-1))=n:=by
 have hm:=aU (xs:=todo) (i:=(todo.length:Int)-1) (by omega) (by omega)
 have hs:=cF (xs:=todo) (k:=todo.length-1) (by omega)
 rw[List.take_of_length_le (by omega),show((todo.length-1:Nat):Int)=(todo.length:Int)-1 by omega] at hs
 refine⟨⟨h.len,h.n0,h.sd,h.pre,h.cmp,h.nd.sublist (List.take_sublist _ _),λt ht=>h.tds t (List.mem_of_mem_take ht),λv hv hc e hnt hnx=>h.clo v hv hc e (λhm=>?_) (by simp),h.src⟩,h.tds _ hm⟩
 rw[hs] at hm
 rcases List.mem_append.1 hm with hm|hm
 · exact hnt hm
 · exact hnx hm
theorem cD.push(hm:aV g)(h:cD g c0 c todo x n s){v:Int}(hv:ci g v)(hc:Cn g s v){hh:Int}(hh0:hh∈bW g v)(hw:gI c (bU g hh)<0):cD g c0 (c.set (bU g hh).toNat n) (todo++[bU g hh]) x n s/\∀u,0<=u->0<=gI c u->0<=gI (c.set (bU g hh).toNat n) u:=by
 obtain⟨⟨a1,a2⟩,a3⟩:=dr hh0
 have hto:=dV hm a1 a2
 have hlen:=h.len
 have hn:=h.n0
 have hcw:Cn g s (bU g hh):=(Cn.eqv g).trans _ _ _ h.sd hv hto hc (by have:=Cn.half hm a1 a2;rwa[a3] at this)
 have hset:∀u,0<=u->gI (c.set (bU g hh).toNat n) u=if u=bU g hh then n else gI c u:=λu h0=>bB hto.1 (by omega) h0
 have hmono:∀u,0<=u->0<=gI c u->0<=gI (c.set (bU g hh).toNat n) u:=λu h0 h1=>by
   rw[hset u h0];split<;>omega
 refine⟨⟨by simpa using hlen,hn,h.sd,h.pre,λw hwd=>?_,?_,λt ht=>?_,λv' hv' hc' e hnt hnx h' hh'=>?_,?_⟩,hmono⟩
 · rw[hset w hwd.1]
   by_cases e:w=bU g hh
   · subst e;exact .inl ⟨hcw,if_pos rfl⟩
   · rw[if_neg e];exact h.cmp w hwd
 · rw[List.nodup_append]
   refine⟨h.nd,by simp,λa ha b hb e=>?_⟩
   obtain rfl:=List.mem_singleton.1 hb
   have:=(h.tds a ha).2.2
   rw[e] at this
   omega
 · rcases List.mem_append.1 ht with ht|ht
   · obtain⟨b1,b2,b3⟩:=h.tds t ht
     refine⟨b1,b2,?_⟩
     rw[hset t b1.1];split
     · rfl
     · exact b3
   · obtain rfl:=List.mem_singleton.1 ht
     exact⟨hto,hcw,by rw[hset _ hto.1,if_pos rfl]⟩
 · have hne:v'≠bU g hh:=λe=>hnt (by simp[e])
   rw[hset v' hv'.1,if_neg hne] at e
   have b:=dr hh'
   exact hmono _ (dV hm b.1.1 b.1.2).1 (h.clo v' hv' hc' e (λhm=>hnt (by simp[hm])) hnx h' hh')
 · rw[hset s h.sd.1];split
   · rfl
   · exact h.src
structure dY(g:aD)(c0 c todo:List Int)(n s v:Int)(k M:Nat):Prop where
  inv:cD g c0 c todo [v] n s
  vd:ci g v
  vc:Cn g s v
  row:∀i:Nat,i<k->(i:Int)<(bW g v).length->0<=gI c (bU g (gI (bW g v) (i:Int)))
  meas:todo.length+2*gy c<M
theorem cD.row(h:cD g c0 c todo [] n s)(ht:0<todo.length):dY g c0 c (todo.take (todo.length-1)) n s (gI todo ((todo.length:Int)-1)) 0 (todo.length+2*gy c):=by
 obtain⟨h1,h2,h3,h4⟩:=h.pop ht
 exact⟨h1,h2,h3,λi hi=>by omega,by rw[List.length_take];omega⟩
variable{v:Int}{k M:Nat}
theorem dY.skip(h:dY g c0 c todo n s v k M)(hk:0<=gI c (bU g (gI (bW g v) (k:Int)))):dY g c0 c todo n s v (k+1) M:=
 ⟨h.inv,h.vd,h.vc,λi hi hl=>by
   by_cases e:i=k
   · subst e;exact hk
   · exact h.row i (by omega) hl,h.meas⟩
theorem dY.push(hm:aV g)(h:dY g c0 c todo n s v k M)(hl:(k:Int)<(bW g v).length)(hk:¬0<=gI c (bU g (gI (bW g v) (k:Int)))):dY g c0 (c.set (bU g (gI (bW g v) (k:Int))).toNat n) (todo++[bU g (gI (bW g v) (k:Int))]) n s v (k+1) M:=by
 have hmem:=aU (xs:=bW g v) (i:=(k:Int)) (by omega) hl
 obtain⟨h1,h2⟩:=h.inv.push hm h.vd h.vc hmem (by omega)
 have b:=dr hmem
 have hto:=dV hm b.1.1 b.1.2
 have hlen:=h.inv.len
 have hn:=h.inv.n0
 have hme:=h.meas
 have hcn:=mQ (c:=c) (w:=bU g (gI (bW g v) (k:Int))) (n:=n) hto.1 (by omega) (by omega) hn
 refine⟨h1,h.vd,h.vc,λi hi hil=>?_,?_⟩
 · by_cases e:i=k
   · subst e
     rw[bB hto.1 (by omega) hto.1,if_pos rfl];exact hn
   · have bi:=dr (aU (xs:=bW g v) (i:=(i:Int)) (by omega) hil)
     exact h2 _ (dV hm bi.1.1 bi.1.2).1 (h.row i (by omega) hil)
 · rw[List.length_append,List.length_singleton];omega
theorem dY.done(h:dY g c0 c todo n s v k M)(hl:¬(k:Int)<(bW g v).length):cD g c0 c todo [] n s:=
 ⟨h.inv.len,h.inv.n0,h.inv.sd,h.inv.pre,h.inv.cmp,h.inv.nd,h.inv.tds,λu hu hc e hnt _ hh hhu=>by
   by_cases e2:u=v
   · subst e2
     obtain⟨i,hi,rfl⟩:=List.mem_iff_getElem.1 hhu
     have e3:gI (bW g u) (i:Int)=(bW g u)[i]:=by simp[gI,hi]
     rw[<-e3]
     exact h.row i (by omega) (by omega)
   · exact h.inv.clo u hu hc e hnt (by simp[e2]) hh hhu,h.inv.src⟩
theorem cD.done(hm:aV g){q:Nat}(h:cD g c0 c todo [] n (q:Int))(ht:¬0<todo.length)(h0:c0=(aE g q).1/\n=(aE g q).2)(hc:¬0<=gI c0 (q:Int)):c=(aE g (q+1)).1/\n+1=(aE g (q+1)).2:=by
 have hnil:todo=[]:=List.eq_nil_of_length_eq_zero (by omega)
 subst hnil
 obtain⟨hb1,hb2⟩:=eo hm h.sd
 have hpl:=eG g q
 have hall:∀w,Cn g (q:Int) w->gI c w=n:=λw hw=>
   (i2 (S:=λw=>(ci g w/\Cn g (q:Int) w)/\gI c w=n) (λx hh hx hhx=>by
     have b:=dr hhx
     have hto:=dV hm b.1.1 b.1.2
     have hcx:Cn g (q:Int) (bU g hh):=(Cn.eqv g).trans _ _ _ h.sd hx.1.1 hto hx.1.2 (by have:=Cn.half hm b.1.1 b.1.2;rwa[b.2] at this)
     have h1:=h.clo x hx.1.1 hx.1.2 hx.2 (by simp) (by simp) hh hhx
     refine⟨⟨hto,hcx⟩,?_⟩
     rcases h.cmp _ hto with e|e
     · exact e.2
     · have:=h.pre _ hto hcx
       omega) hw ⟨⟨h.sd,(Cn.eqv g).rfl _ h.sd⟩,h.src⟩).2
 have h1:aE g (q+1)=((bQ g (q:Int)).order.foldl (λl w=>l.set w.toNat (aE g q).2) (aE g q).1,(aE g q).2+1):=by
   rw[cP]
   unfold dS
   rw[if_neg (by rw[<-h0.1];exact hc)]
 have hlen:=h.len
 have hsd:=h.sd
 have hsd2:=hsd.2
 rw[h1]
 refine⟨?_,by rw[h0.2]⟩
 simp only
 have hl2:(((bQ g (q:Int)).order.foldl (λl w=>l.set w.toNat (aE g q).2) (aE g q).1).length:Int)=g.1:=by rw[dR,hpl.1];omega
 apply cB
 · omega
 · intro w hw
   have hwd:ci g (w:Int):=⟨by omega,by omega⟩
   rw[go _ _ (w:Int) (by omega) (by rw[hpl.1];omega) (λx hx=>by
     have:=hb1 x hx
     rw[hpl.1]
     have h2:=this.1
     have h3:=this.2
     omega)]
   by_cases hc':Cn g (q:Int) (w:Int)
   · rw[if_pos ((hb2 _).2 hc'),hall _ hc',h0.2]
   · rw[if_neg (λhm=>hc' ((hb2 _).1 hm)),<-h0.1]
     rcases h.cmp _ hwd with e|e
     · exact absurd e.1 hc'
     · exact e
end
end TL
/-
  TlFaces: faces: each half-edge on one, the least ahead, each right behind the twin of the one ahead; and the mirror's faces.
  By an AI agent.
-/
set_option linter.all false
namespace TL
theorem jz(n:Nat):(ba n).Pairwise (· < ·):=by
 unfold ba
 rw[List.pairwise_map]
 exact List.pairwise_lt_range.imp (λh=>by omega)
section
variable{g:aD}{r:gT}
end
end TL
/-
  TlLess: edges taken away never raise the genus.
  By an AI agent.
-/
set_option linter.all false
namespace TL
theorem gV.ext{D D':Int->Prop}{R R':Int->Int->Prop}{k:Nat}(f:Int->Int)(E:List Int)(h:gV D' R' k)(he:lU D R)(hd:∀x,D' x->D (f x))(hr:∀x y,D' x->D' y->(R' x y↔R (f x) (f y)))(hEn:E.Nodup)(hE:∀e∈E,D e)(h1:∀e∈E,∀x,D' x->¬R (f x) e)(h2:∀a∈E,∀b∈E,R a b->a=b)(hs:∀z,D z->(∃x,D' x/\R z (f x))\/∃e∈E,R z e):gV D R (k+E.length):=by
  obtain⟨l,hl,rfl⟩:=h
  refine⟨l.map f++E,⟨List.nodup_append.2 ⟨dX hl.nd (λx hx y hy e=>hl.one x hx y hy ((hr x y (hl.dom x hx) (hl.dom y hy)).2 (by rw[e];exact he.rfl _ (hd y (hl.dom y hy))))),hEn,λa ha b hb e=>?_⟩,λx hx=>?_,λz hz=>?_,λa ha b hb hab=>?_⟩,by simp⟩
  · obtain⟨x,hx,rfl⟩:=List.mem_map.1 ha
    exact h1 b hb x (hl.dom x hx) (by rw[e];exact he.rfl b (hE b hb))
  · rcases List.mem_append.1 hx with h|h
    · obtain⟨y,hy,rfl⟩:=List.mem_map.1 h;exact hd y (hl.dom y hy)
    · exact hE x h
  · rcases hs z hz with⟨x,hx,hzx⟩|⟨e,he',hze⟩
    · obtain⟨y,hy,hxy⟩:=hl.all x hx
      exact⟨f y,by simp;exact .inl ⟨y,hy,rfl⟩,he.trans _ _ _ hz (hd x hx) (hd y (hl.dom y hy)) hzx ((hr x y hx (hl.dom y hy)).1 hxy)⟩
    · exact⟨e,by simp[he'],hze⟩
  · rcases List.mem_append.1 ha with h|h
    · obtain⟨x,hx,rfl⟩:=List.mem_map.1 h
      have hxd:=hl.dom x hx
      rcases List.mem_append.1 hb with h'|h'
      · obtain⟨y,hy,rfl⟩:=List.mem_map.1 h'
        rw[hl.one x hx y hy ((hr x y hxd (hl.dom y hy)).2 hab)]
      · exact absurd hab (h1 b h' x hxd)
    · rcases List.mem_append.1 hb with h'|h'
      · obtain⟨y,hy,rfl⟩:=List.mem_map.1 h'
        exact absurd (he.symm _ _ (hE a h) (hd y (hl.dom y hy)) hab) (h1 a h y (hl.dom y hy))
      · exact h2 a h b h' hab
section
variable{m K:Nat}{f s s':Int->Int}{E:List Int}
end
end TL
/-
  TlDual: faces as nodes: the dual, corners' faces, edges laid, taken and split, ways over faces, as plain functions.
  By an AI agent.
-/
set_option linter.all false
namespace TL
def pk(g:aD)(r:gT)(c:Int×Int):Prop:=(0<=c.1/\c.1<g.1)/\if((gI r c.1).length:Int)=0 then c.2= -1 else c.2∈gI r c.1
instance (g:aD)(r:gT)(c:Int×Int):Decidable (pk g r c):=by unfold pk;infer_instance
def iW(F:Int)(to:List Int):List Int:=to.foldl (λl f=>l.set f.toNat 0) (List.replicate F.toNat (-1))
end TL
namespace TL
end TL
namespace TL
end TL
namespace TL
theorem jG{g:aD}(hm:aV g):((ay g).1.length:Int)=g.1:=by
 have:=eG g g.1.toNat
 have h0:=hm.1
 unfold ay
 rw[if_pos hm]
 simp only
 omega
section
variable{g:aD}{r:gT}{a b:Int×Int}
end
end TL
/-
  TlTake2: labels of components; components, faces and the genus of a net with one edge less.
  By an AI agent.
-/
set_option linter.all false
namespace TL
structure pO(g:aD)(p:List Int×Int):Prop where
 lt:∀v,ci g v->0<=gI p.1 v->gI p.1 v<p.2
 iff:∀u v,ci g u->ci g v->0<=gI p.1 u->0<=gI p.1 v->(gI p.1 u=gI p.1 v↔Cn g u v)
theorem gK{g:aD}(hm:aV g):∀k:Nat,(k:Int)<=g.1->pO g (aE g k)
 |0,_=>by
   have e:∀v,ci g v->gI (aE g 0).1 v= -1:=λv hv=>by
     have:(aE g 0).1=List.replicate g.1.toNat (-1):=by simp[aE,ba]
     rw[this]
     exact fP hv.1 (by have:=hv.2;omega)
   exact⟨λv hv h=>by rw[e v hv] at h;omega,λu v hu _ h=>by rw[e u hu] at h;omega⟩
 |k+1,hk=>by
   have ih:=gK hm k (by omega)
   obtain⟨l,hp⟩:=d9 hm k (by omega)
   have hkd:ci g (k:Int):=⟨by omega,by omega⟩
   obtain⟨hb1,hb2⟩:=eo hm hkd
   rw[cP]
   unfold dS
   by_cases c:0<=gI (aE g k).1 (k:Int)
   · rw[if_pos c];exact ih
   · rw[if_neg c]
     have hlen:=hp.len
     have hnum:=hp.num
     have hat:∀v,ci g v->gI ((bQ g (k:Int)).order.foldl (λl w=>l.set w.toNat (aE g k).2) (aE g k).1) v=if v∈(bQ g (k:Int)).order then(aE g k).2 else gI (aE g k).1 v:=λv hv=>
       go _ _ v hv.1 (by have:=hv.2;omega) (λx hx=>by have:=hb1 x hx;exact⟨this.1,by have:=this.2;omega⟩)
     refine⟨λv hv h=>?_,λu v hu hv h1 h2=>?_⟩
     · simp only at h ⊢
       rw[hat v hv] at h ⊢
       by_cases e:v∈(bQ g (k:Int)).order
       · rw[if_pos e];omega
       · rw[if_neg e] at h ⊢
         have:=ih.lt v hv h;omega
     · simp only at h1 h2 ⊢
       rw[hat u hu] at h1 ⊢
       rw[hat v hv] at h2 ⊢
       have hcu:=hb2 u
       have hcv:=hb2 v
       by_cases e1:u∈(bQ g (k:Int)).order
       · have d1:=hcu.1 e1
         rw[if_pos e1]
         by_cases e2:v∈(bQ g (k:Int)).order
         · rw[if_pos e2]
           exact⟨λ_=>(Cn.eqv g).trans _ _ _ hu hkd hv ((Cn.eqv g).symm _ _ hkd hu d1) (hcv.1 e2),λ_=>rfl⟩
         · rw[if_neg e2] at h2 ⊢
           have:=ih.lt v hv h2
           exact⟨λh=>by omega,λh=>absurd (hcv.2 ((Cn.eqv g).trans _ _ _ hkd hu hv d1 h)) e2⟩
       · rw[if_neg e1] at h1 ⊢
         have:=ih.lt u hu h1
         by_cases e2:v∈(bQ g (k:Int)).order
         · rw[if_pos e2]
           exact⟨λh=>by omega,λh=>absurd (hcu.2 ((Cn.eqv g).trans _ _ _ hkd hv hu (hcv.1 e2) ((Cn.eqv g).symm _ _ hu hv h))) e1⟩
         · rw[if_neg e2] at h2 ⊢
           exact ih.iff u v hu hv h1 h2
theorem lC{g:aD}(hm:aV g){u v:Int}(hu:ci g u)(hv:ci g v):gI (ay g).1 u=gI (ay g).1 v↔Cn g u v:=by
  have h0:=hm.1
  have h1:=gK hm g.1.toNat (by omega)
  obtain⟨l,h2⟩:=d9 hm g.1.toNat (by omega)
  have e:(ay g).1=(aE g g.1.toNat).1:=by unfold ay;rw[if_pos hm]
  have fJ:∀x,ci g x->0<=gI (aE g g.1.toNat).1 x:=λx hx=>(h2.iff x hx).2 (by
    have:=h2.all x.toNat (by have:=hx.1;have:=hx.2;omega) (by have:=hx.1;have:=hx.2;omega)
    rwa[Int.toNat_of_nonneg hx.1] at this)
  rw[e]
  exact h1.iff u v hu hv (fJ u hu) (fJ v hv)
theorem iG{g h:aD}{a b:Int}(hn:h.1=g.1)(ha:ci h a)(hb:ci h b)(he:∀e,e∈g.2↔e∈h.2\/e=(a,b)){u v:Int}(hu:ci h u)(hv:ci h v):Cn g u v↔Jn (Cn h) a b u v:=by
 have hd:ci g=ci h:=by unfold ci;rw[hn]
 have hle:=Cn.eqv h
 have hg:=Cn.eqv g
 rw[hd] at hg
 have hup:∀{u v:Int},Cn h u v->Cn g u v:=λ {u v} hc R hR h2=>hc R (by rw[<-hd];exact hR) λe hh=>h2 e ((he e).2 (.inl hh))
 have hab:Cn g a b:=Cn.edge ((he (a,b)).2 (.inr rfl))
 constructor
 · intro hc
   refine hc (Jn (Cn h) a b) (by rw[hd];exact Jn.eqv hle ha hb) (λe h2=>?_)
   rcases(he e).1 h2 with h3|h3
   · exact .inl (Cn.edge h3)
   · subst h3;exact .inr (.inl ⟨hle.rfl _ ha,hle.rfl _ hb⟩)
 · rintro(e|⟨e1,e2⟩|⟨e1,e2⟩)
   · exact hup e
   · exact hg.trans _ _ _ hu ha hv (hup e1) (hg.trans _ _ _ ha hb hv hab (hup e2))
   · exact hg.trans _ _ _ hu hb hv (hup e1) (hg.trans _ _ _ hb ha hv (hg.symm _ _ ha hb hab) (hup e2))
theorem jL{g h:aD}{a b:Int}(hm:aV g)(hm':aV h)(hn:h.1=g.1)(ha:ci h a)(hb:ci h b)(he:∀e,e∈g.2↔e∈h.2\/e=(a,b)):
   (Cn h a b/\(ay g).2.1=(ay h).2.1)\/(¬Cn h a b/\(ay g).2.1+1=(ay h).2.1):=by
 obtain⟨k,e1,h1⟩:=d8 hm
 obtain⟨k',e2,h2⟩:=d8 hm'
 have hd:ci g=ci h:=by unfold ci;rw[hn]
 have hle:=Cn.eqv h
 have hge:=Cn.eqv g
 rw[hd] at h1 hge
 by_cases c:Cn h a b
 · left
   have h3:gV (ci h) (Cn g) k':=h2.iff λx y hx hy=>by
     rw[iG hn ha hb he hx hy]
     constructor
     · exact λe=>.inl e
     · rintro(e|⟨f1,f2⟩|⟨f1,f2⟩)
       · exact e
       · exact hle.trans _ _ _ hx ha hy f1 (hle.trans _ _ _ ha hb hy c f2)
       · exact hle.trans _ _ _ hx hb hy f1 (hle.trans _ _ _ hb ha hy (hle.symm _ _ ha hb c) f2)
   have:=h1.eq hge h3
   exact⟨c,by omega⟩
 · right
   obtain⟨k2,h3,e3⟩:=h2.join hle ha hb c
   have h4:gV (ci h) (Cn g) k2:=h3.iff λx y hx hy=>(iG hn ha hb he hx hy).symm
   have:=h1.eq hge h4
   exact⟨c,by omega⟩
section
variable{g:aD}{r:gT}
end
end TL
/-
  TlFloat: floating numbers that are no NaN and have no sign: their bits, as a natural number, stand as they do; sums, roots and quotients of such.
  By an AI agent.
-/
set_option linter.all false
namespace TL
open Ieee
abbrev aM:Nat:=9218868437227405312
abbrev qc:Nat:=9221120237041090561
def mg(x:Nat):Nat:=if x<4503599627370496 then x else 4503599627370496+x%4503599627370496
def pl(x:Nat):Nat:=x/4503599627370496-1
def vl(x:Nat):Nat:=mg x*2^pl x
theorem lL:double.binade=4503599627370496:=by decide
theorem ki:double.infRung=aM:=by decide
theorem qr:double.signWeight=9223372036854775808:=by decide
theorem pK:double.leastPlace= -1074:=by decide
theorem dj{x:Nat}(h:x<aM):double.read x= .number false (mg x) (-1074+(pl x:Nat)):=by
 unfold Format.read
 simp only[lL,ki,qr,pK]
 have hh:x<9218868437227405312:=h
 have h1:x/9223372036854775808=0:=Nat.div_eq_of_lt (by omega)
 have h2:x%9223372036854775808=x:=Nat.mod_eq_of_lt (by omega)
 rw[h1,h2]
 by_cases hx:x<4503599627370496
 · rw[if_pos hx]
   have:pl x=0:=by unfold pl;omega
   simp[mg,hx,this]
 · rw[if_neg hx,if_pos h]
   simp[mg,hx,pl]
theorem eC:double.read aM= .infinity false:=by decide
theorem ir{x:Nat}(h:x<=aM):(∃m i,double.read x= .number false m i)\/double.read x= .infinity false:=by
 rcases Nat.lt_or_ge x aM with c|c
 · exact .inl ⟨_,_,dj c⟩
 · rw[show x=aM by omega];exact .inr eC
theorem oN{x:Nat}:mg x=0↔x=0:=by unfold mg;split<;>omega
theorem qD(x:Nat):mg x<9007199254740992:=by unfold mg;split<;>omega
theorem oo{x y:Nat}(h:x<=y):pl x<=pl y:=by unfold pl;omega
theorem pr{x y:Nat}(h:x<y):vl x<vl y:=by
 unfold vl
 by_cases e:pl x=pl y
 · rw[e]
   refine Nat.mul_lt_mul_of_pos_right ?_ (Nat.two_pow_pos _)
   unfold mg;unfold pl at e
   split<;>split<;>omega
 · have hp:=oo (Nat.le_of_lt h)
   obtain⟨d,hd⟩:∃d,pl y=pl x+1+d:=⟨pl y-pl x-1,by omega⟩
   have hy:4503599627370496<=mg y:=by
     unfold pl at e hd;unfold mg;split<;>omega
   rw[hd,Nat.pow_add,Nat.pow_succ]
   have hx:=qD x
   have h1:0<2^pl x:=Nat.two_pow_pos _
   have h2:1<=2^d:=Nat.two_pow_pos _
   calc mg x*2^pl x<9007199254740992*2^pl x:=Nat.mul_lt_mul_of_pos_right hx h1
     _=4503599627370496*(2^pl x*2*1):=by omega
     _<=mg y*(2^pl x*2*2^d):=Nat.mul_le_mul hy (Nat.mul_le_mul_left _ h2)
theorem mL(m k:Nat):m <<< k=m*2^k:=Nat.shiftLeft_eq m k
theorem nZ(a b:Nat):min (-1074+(a:Int)) (-1074+(b:Int))= -1074+((min a b:Nat):Int):=by omega
theorem qF(a b:Nat):(-1074+(a:Int)-(-1074+((min a b:Nat):Int))).toNat=a-min a b:=by omega
theorem pZ(a b:Nat):(-1074+(b:Int)-(-1074+((min a b:Nat):Int))).toNat=b-min a b:=by omega
theorem hZ{a b:Nat}(h:b<=a):2^(a-b)*2^b=2^a:=by rw[<-Nat.pow_add];congr 1;omega
theorem nA(a b:Nat):compare (a:Int) (b:Int)=compare a b:=by
 rcases Nat.lt_trichotomy a b with h|h|h
 · simp[compare,compareOfLessAndEq,h]
 · subst h;simp[compare,compareOfLessAndEq]
 · have h1:¬a<b:=by omega
   have h2:¬a=b:=by omega
   have h3:¬(a:Int)<b:=by omega
   have h4:¬(a:Int)=b:=by omega
   simp[compare,compareOfLessAndEq,h1,h2,h3,h4]
theorem ep{a b:Nat}(h:a<b):compare a b= .lt:=by simp[compare,compareOfLessAndEq,h]
theorem dQ{a b:Nat}(h:b<a):compare a b= .gt:=by simp[compare,compareOfLessAndEq,Nat.not_lt.2 (Nat.le_of_lt h),Nat.ne_of_gt h]
theorem de(a:Nat):compare a a= .eq:=by simp[compare,compareOfLessAndEq]
theorem cR{x y:Nat}(hx:x<=aM)(hy:y<=aM):double.order x y=some (compare x y):=by
  unfold Format.order
  rcases Nat.lt_or_ge x aM with cx|cx<;>rcases Nat.lt_or_ge y aM with cy|cy
  · rw[dj cx,dj cy]
    simp only[Datum.order,signed,nZ,qF,pZ,nA,mL,Bool.false_eq_true,if_false]
    have k1:=hZ (a:=pl x) (b:=min (pl x) (pl y)) (by omega)
    have k2:=hZ (a:=pl y) (b:=min (pl x) (pl y)) (by omega)
    have h0:0<2^min (pl x) (pl y):=Nat.two_pow_pos _
    have e1:vl x=mg x*2^(pl x-min (pl x) (pl y))*2^min (pl x) (pl y):=by rw[Nat.mul_assoc,k1];rfl
    have e2:vl y=mg y*2^(pl y-min (pl x) (pl y))*2^min (pl x) (pl y):=by rw[Nat.mul_assoc,k2];rfl
    rcases Nat.lt_trichotomy x y with c|c|c
    · rw[ep c];congr 1;refine ep ?_
      have:=pr c;rw[e1,e2] at this;exact Nat.lt_of_mul_lt_mul_right this
    · subst c;rw[de,de]
    · rw[dQ c];congr 1;refine dQ ?_
      have:=pr c;rw[e1,e2] at this;exact Nat.lt_of_mul_lt_mul_right this
  · rw[dj cx,show y=aM by omega,eC];simp[Datum.order,ep cx]
  · rw[dj cy,show x=aM by omega,eC];simp[Datum.order,dQ cy]
  · rw[show x=aM by omega,show y=aM by omega,eC];simp[Datum.order,de]
theorem kG(m:Nat)(p:Int):double.nearest false m p<=aM:=by
 unfold Format.nearest
 dsimp only
 split
 · simp[Format.word]
 · simp only[Format.word,Bool.false_eq_true,if_false]
   exact Nat.le_trans (Nat.min_le_right _ _) (Nat.le_of_eq ki)
theorem fT:double.write (.infinity false)=aM:=by decide
def b6(x y:Nat):Nat:=(double.add x y).getD qc
theorem jH{x y:Nat}(hx:x<=aM)(hy:y<=aM):double.add x y=some (b6 x y)/\b6 x y<=aM:=by
 have:∃z,double.add x y=some z/\z<=aM:=by
   unfold Format.add
   rcases ir hx with⟨m,i,e⟩|e<;>rcases ir hy with⟨n,j,e'⟩|e'<;>rw[e,e']
   · refine⟨_,rfl,?_⟩
     have k:(if signed false m (i-min i j).toNat+signed false n (j-min i j).toNat=0 then false&&false else decide (signed false m (i-min i j).toNat+signed false n (j-min i j).toNat<0))=false:=by
       simp only[signed,Bool.false_eq_true,if_false]
       split
       · rfl
       · exact decide_eq_false (Int.not_lt.2 (Int.add_nonneg (Int.natCast_nonneg _) (Int.natCast_nonneg _)))
     simp only[k]
     exact kG _ _
   · exact⟨_,rfl,Nat.le_of_eq fT⟩
   · exact⟨_,rfl,Nat.le_of_eq fT⟩
   · exact⟨_,rfl,Nat.le_of_eq fT⟩
 obtain⟨z,h1,h2⟩:=this
 unfold b6;rw[h1];exact⟨rfl,h2⟩
end TL
/-
  TlFloat2: how far a rounded number lies from what is rounded; sums and roots that are finite; sums with nought.
  By an AI agent.
-/
set_option linter.all false
namespace TL
open Ieee
def qN(n:Nat):Nat:=double.nearest false n 0
end TL
/-
  TlFl: floating numbers in a walk: what each operation comes to.
  By an AI agent.
-/
set_option linter.all false
namespace TL
open Go
abbrev Fb:=Nat
instance:Rp Nat where
 sz:=1
 rep _ _ _ cs x:=cs=[.float .f64 x]
 len h:=by subst h;rfl
 one h:=by subst h;simp[Value.oneCell']
 tr _ _ h:=h
instance:Fl Nat where
 cells x:=[.float .f64 x]
 rep_iff:=Iff.rfl
def fp(m:Int):Nat:=FloatKind.f64.nearest m
theorem lO(n:Nat):fp (n:Int)=qN n:=by
 unfold fp FloatKind.nearest FloatKind.encode qN
 rw[decide_eq_false (by omega)];rfl
theorem kj{m:Int}(h:0<=m):fp m<=aM:=by
 obtain⟨n,rfl⟩:=Int.eq_ofNat_of_zero_le h
 rw[lO];exact kG _ _
def dZ(x:Nat):Bool:=Ieee.double.order x x !=some .eq
theorem om{x:Nat}(h:x<=aM):dZ x=false:=by
 unfold dZ;rw[cR h h,de];rfl
section
variable{P:Program}{f:Fr}{w:World}{dst:Option Tmp}{ty:TypeId}{pos:String}{after:Array Edge}{g:Option (Nat×Bool)}{t t' s d:TypeId}{x y:Operand}{a b r:Nat}
variable{N:Value->World->Prop}
theorem kT(op:BinOp):(eqGuard op t x y (.float .f64 a) (.float .f64 b)).run P w= .ok () w:=by
 unfold eqGuard
 split<;>rfl
theorem mO(hx:ev f x= .float .f64 a)(hy:ev f y= .float .f64 b)(h:Ieee.double.add a b=some r):(execOp (ev f) ⟨dst,.binOp .add t x y t',ty,pos,after,g⟩).run P w= .ok (.value (.float .f64 r)) w:=
 lT .add hx hy (kT _) (run_float_arith w .add t .f64 a b r h)
theorem fc{op:BinOp}{q:Bool}(hx:ev f x= .float .f64 a)(hy:ev f y= .float .f64 b)(h:∀w:World,(binOp op t (.float .f64 a) (.float .f64 b)).run P w= .ok (.bool q) w):(execOp (ev f) ⟨dst,.binOp op t x y t',ty,pos,after,g⟩).run P w= .ok (.value (.bool q)) w:=
 lT op hx hy (kT _) (h w)
theorem nS{q:Bool}(hx:ev f x= .float .f64 a)(hy:ev f y= .float .f64 b)(h:(Ieee.double.order a b==some .eq)=q):(execOp (ev f) ⟨dst,.binOp .eql t x y t',ty,pos,after,g⟩).run P w= .ok (.value (.bool q)) w:=
 fc hx hy (λw=>by rw[binOp_float_cmp_eql];show Sem.run P (pure (Value.bool (Ieee.double.order a b==some .eq))) w=_;rw[h];rfl)
theorem kx{q:Bool}(hx:ev f x= .float .f64 a)(hy:ev f y= .float .f64 b)(h:(Ieee.double.order a b !=some .eq)=q):(execOp (ev f) ⟨dst,.binOp .neq t x y t',ty,pos,after,g⟩).run P w= .ok (.value (.bool q)) w:=
 fc hx hy (λw=>by rw[binOp_float_cmp_neq];show Sem.run P (pure (Value.bool (Ieee.double.order a b !=some .eq))) w=_;rw[h];rfl)
theorem m0(ha:a<=aM)(hb:b<=aM):(Ieee.double.order a b==some .eq)=decide (a=b):=by
 rw[cR ha hb]
 rcases Nat.lt_trichotomy a b with h|h|h
 · rw[ep h,decide_eq_false (by omega)];rfl
 · rw[h,de];simp
 · rw[dQ h,decide_eq_false (by omega)];rfl
theorem k8(hx:ev f x= .float .f64 a)(hy:ev f y= .float .f64 b)(ha:a<=aM)(hb:b<=aM):(execOp (ev f) ⟨dst,.binOp .eql t x y t',ty,pos,after,g⟩).run P w= .ok (.value (.bool (decide (a=b)))) w:=
 nS hx hy (m0 ha hb)
theorem lX(hx:ev f x= .float .f64 a)(hy:ev f y= .float .f64 b)(ha:a<=aM)(hb:b<=aM):(execOp (ev f) ⟨dst,.binOp .neq t x y t',ty,pos,after,g⟩).run P w= .ok (.value (.bool (!decide (a=b)))) w:=
 kx hx hy (by rw[bne,m0 ha hb])
theorem k5(hx:ev f x= .float .f64 a)(hy:ev f y= .float .f64 a):(execOp (ev f) ⟨dst,.binOp .neq t x y t',ty,pos,after,g⟩).run P w= .ok (.value (.bool (dZ a))) w:=
  kx hx hy rfl
theorem qT{fid:Nat}{fn:Func}{e:Array Value->Sem Value}{v u:Value}{at_:Array TypeId}(hf:P.funcs[fid]? =some fn)(hname:(fn.name== "runtime.NumGoroutine")=false)(hb:fn.body.isNone=true)(hn:(Extern.findNext fn).isNone=true)(he:Extern.find fn=some e)(hx:ev f x=v)(h:(e #[v]).run P w= .ok u w):
   (execOp (ev f) ⟨dst,.call {callee:=.value (.func fid),args:= #[x],argTypes:=at_},ty,pos,after,g⟩).run P w= .ok (.value u) w:=by
 have hn':Extern.findNext fn=none:=by simpa using hn
 have:=run_callFunc_extern hf hname hb hn' he #[v] w
 rw[h] at this
 have ha:(#[x]).map (ev f)= #[v]:=by simp[hx]
 have h0:∀q:Operand,ev f (.func fid)= .func (.func fid) #[] #[]:=λ_=>rfl
 simp only[execOp,resolve,h0 x,Deferred.ofValue,invoke,ha,Sem.run_bind,Sem.run_pure,Result.andThen_ok,Array.append_empty,Array.empty_append]
 exact this
theorem gC{fid:Nat}{fn:Func}{at_:Array TypeId}{n:Int}(hf:P.funcs[fid]? =some fn)(hname:(fn.name== "runtime.NumGoroutine")=false)(hb:fn.body.isNone=true)(hn:(Extern.findNext fn).isNone=true)(he:Extern.find fn=some Extern.MathFloatBits.float64frombits)(hx:ev f x= .int .u64 n):
   (execOp (ev f) ⟨dst,.call {callee:=.value (.func fid),args:= #[x],argTypes:=at_},ty,pos,after,g⟩).run P w= .ok (.value (.float .f64 n.toNat)) w:=
 qT hf hname hb hn he hx rfl
end
end TL
/-
  TlLit: a list of lists that is written out, with one list in it, as an owned list of lists.
  By an AI agent.
-/
set_option linter.all false
namespace TL
open Go
end TL
namespace TL
open Go
theorem oM{P:Program}{f:Fr}{w:World}{dst:Option Tmp}{ty:TypeId}{pos:String}{after:Array Edge}{g:Option (Nat×Bool)}{t t':TypeId}{x y:Operand}{a b:Nat}{q:Bool}(hx:ev f x= .float .f64 a)(hy:ev f y= .float .f64 b)(h:(Ieee.double.order a b==some .gt)=q):(execOp (ev f) ⟨dst,.binOp .gtr t x y t',ty,pos,after,g⟩).run P w= .ok (.value (.bool q)) w:=
 fc hx hy (λw=>by rw[binOp_float_cmp_gtr];show Sem.run P (pure (Value.bool (Ieee.double.order a b==some .gt))) w=_;rw[h];rfl)
end TL
namespace TL
open Go
end TL
namespace TL
open Go
theorem mJ{P:Program}{f:Fr}{w:World}{dst:Option Tmp}{ty:TypeId}{pos:String}{after:Array Edge}{g:Option (Nat×Bool)}{t t':TypeId}{x y:Operand}{a b:Nat}(hx:ev f x= .float .f64 a)(hy:ev f y= .float .f64 b)(ha:a<=aM)(hb:b<=aM):(execOp (ev f) ⟨dst,.binOp .lss t x y t',ty,pos,after,g⟩).run P w= .ok (.value (.bool (decide (a<b)))) w:=
 fc hx hy (λw=>by
   rw[binOp_float_cmp_lss]
   show Sem.run P (pure (Value.bool (Ieee.double.order a b==some .lt))) w=_
   rw[cR ha hb]
   rcases Nat.lt_trichotomy a b with h|h|h
   · rw[ep h,decide_eq_true h];rfl
   · rw[h,de,decide_eq_false (by omega)];rfl
   · rw[dQ h,decide_eq_false (by omega)];rfl)
end TL
/-
  TlJudge2: what is told of a plot; its rotation.
  By an AI agent.
-/
set_option linter.all false
namespace TL
section
variable{p:gU}{l:List Pt}{a b:Bool}{i k:Nat}
end
section
variable{g:aD}{p:gU}
end
def r4(p:gU)(l:List Int):List Pt:=l.map (r5 p)
def pU(p:gU)(o:Pt)(l:List Int):Prop:=∃j:Nat,j<l.length/\0<j/\n9 (qW (gI (r4 p l) (gI (arL o (r4 p l)) ((j:Int)-1))) o) (qW (gI (r4 p l) (gI (arL o (r4 p l)) (j:Int))) o)
noncomputable instance (p:gU) (o:Pt) (l:List Int):Decidable (pU p o l):=by unfold pU;infer_instance
def qJ(g:aD)(p:gU):Prop:=∃v:Nat,v<g.1.toNat/\pU p (gI p.1 (v:Int)) (bW g (v:Int))
noncomputable instance (g:aD) (p:gU):Decidable (qJ g p):=by unfold qJ;infer_instance
end TL
/-
  TlMet: what layer 29 (metric) computes, in plain words.
  By an AI agent.
-/
set_option linter.all false
namespace TL
open Go
end TL
namespace TL
open Go
def bZ(x:Nat):Nat:=if dZ x=true then qc else x
theorem nw{x:Nat}(h:dZ x=true):qc=bZ x:=by unfold bZ;rw[if_pos h]
theorem oS{x:Nat}(h:¬dZ x=true):x=bZ x:=by unfold bZ;rw[if_neg h]
theorem oD{x:Nat}(h:¬dZ x=true)(h0:x=0):0=bZ x:=by unfold bZ;rw[if_neg h,h0]
end TL
namespace TL
open Go
end TL
namespace TL
open Go
end TL
namespace TL
open Go
end TL
namespace TL
open Go
end TL
namespace TL
end TL
namespace TL
open Go
end TL
/-
  TlZf: weights: floating numbers that are at least 0, of either sign of 0: in sums and comparisons such a one stands for its magnitude (zf).
  By an AI agent.
-/
set_option linter.all false
namespace TL
open Ieee
def dz(a b:Nat):Bool:=Ieee.double.order a b==some .gt
def eN(a b:Nat):Bool:=Ieee.double.order a b==some .gt||Ieee.double.order a b==some .eq
def pE(a b:Nat):Bool:=Ieee.double.order a b==some .lt
abbrev fI(x:Nat):Prop:=eN x 0=true
def zf(x:Nat):Nat:=x%9223372036854775808
theorem mC{x:Nat}(h:x<=aM):zf x=x:=by
 have hI:aM=9218868437227405312:=rfl
 exact Nat.mod_eq_of_lt (by omega)
theorem pv{x:Nat}(h:x<=aM):fI x:=by
 unfold fI eN
 rw[cR h (Nat.zero_le _)]
 rcases Nat.eq_zero_or_pos x with e|e
 · subst e;rw[de];rfl
 · rw[dQ e];rfl
theorem kS(x:Nat):double.read x=double.read (zf x)\/(double.read x=(double.read (zf x)).opposite/\(x/9223372036854775808)%2=1):=by
 have e1:zf x/9223372036854775808=0:=Nat.div_eq_of_lt (Nat.mod_lt _ (by decide))
 have e2:zf x%9223372036854775808=x%9223372036854775808:=Nat.mod_mod _ _
 unfold Format.read
 simp only[lL,ki,qr,pK]
 rw[e1,e2]
 rcases Nat.mod_two_eq_zero_or_one (x/9223372036854775808) with h|h
 · left;rw[h]
 · right
   refine⟨?_,h⟩
   rw[h]
   split
   · rfl
   · split
     · rfl
     · split<;>rfl
theorem qC{m:Nat}{i j:Int}(h:¬m=0):Datum.order (.number true m i) (.number false 0 j)=some .lt:=by
 have h1:∀k:Nat,0<m <<< k:=λk=>by rw[mL];exact Nat.mul_pos (Nat.pos_of_ne_zero h) (Nat.two_pow_pos _)
 simp only[Datum.order,signed,if_true,Nat.zero_shiftLeft,Bool.false_eq_true,if_false]
 have h2:=h1 (i-min i j).toNat
 generalize m <<< (i-min i j).toNat=q at h2
 have h3: -(q:Int)<((0:Nat):Int):=by omega
 simp only[compare,compareOfLessAndEq,h3,if_true]
theorem j3:double.read 0= .number false 0 (-1074):=by decide
theorem pL{x:Nat}(h:¬x<=aM)(h2:x<9223372036854775808):∃s t,double.read x= .nan s t:=by
 have hI:aM=9218868437227405312:=rfl
 unfold Format.read
 simp only[lL,ki,qr,pK]
 rw[Nat.mod_eq_of_lt h2,if_neg (by omega),if_neg (by omega),if_neg (by omega)]
 exact⟨_,_,rfl⟩
theorem iO{x:Nat}(h:fI x):zf x<=aM/\(double.read x=double.read (zf x)\/(zf x=0/\double.read x= .number true 0 (-1074))):=by
  have hz:zf x<9223372036854775808:=Nat.mod_lt _ (by decide)
  unfold fI eN Format.order at h
  rw[j3] at h
  have hle:zf x<=aM:=by
    by_cases c:zf x<=aM
    · exact c
    · obtain⟨s,t,e⟩:=pL c hz
      exfalso
      rcases kS x with k|⟨k,_⟩<;>rw[k,e] at h<;>simp[Datum.order,Datum.opposite] at h
  refine⟨hle,?_⟩
  rcases kS x with k|⟨k,_⟩
  · exact .inl k
  · right
    rcases Nat.lt_or_ge (zf x) aM with c|c
    · rw[k,dj c] at h
      rw[k,dj c]
      by_cases h0:mg (zf x)=0
      · have:=oN.1 h0
        refine⟨this,?_⟩
        rw[this];rfl
      · exfalso
        rw[Datum.opposite,show(!false)=true from rfl,qC h0] at h
        exact absurd h (by decide)
    · have e:zf x=aM:=Nat.le_antisymm hle c
      rw[k,e,eC] at h
      exfalso
      simp[Datum.order,Datum.opposite] at h
structure pg(x x':Nat):Prop where
  le:x'<=aM
  l:∀y,double.order x y=double.order x' y
  r:∀y,double.order y x=double.order y x'
theorem mu{x:Nat}(h:x<=aM):pg x x:=⟨h,λ_=>rfl,λ_=>rfl⟩
theorem iI{x:Nat}(h:fI x):pg x (zf x):=by
 obtain⟨h1,h2⟩:=iO h
 refine⟨h1,λy=>?_,λy=>?_⟩<;>unfold Format.order<;>rcases h2 with k|⟨k0,k⟩
 · rw[k]
 · rw[k,k0,j3]
   cases double.read y<;>simp[Datum.order,signed]
 · rw[k]
 · rw[k,k0,j3]
   cases double.read y<;>simp[Datum.order,signed]
theorem ip{d x:Nat}(hd:d<=aM)(h:fI x):double.add d x=some (b6 d (zf x))/\b6 d (zf x)<=aM:=by
 obtain⟨h1,h2⟩:=iO h
 obtain⟨a1,a2⟩:=jH hd h1
 refine⟨?_,a2⟩
 rw[<-a1]
 unfold Format.add
 rcases h2 with k|⟨k0,k⟩
 · rw[k]
 · rw[k,k0,j3]
   rcases ir hd with⟨m,i,e⟩|e<;>rw[e]<;>simp[Datum.sum,signed]
theorem pN{x x' y y':Nat}(h:pg x x')(k:pg y y'):dz x y=decide (y'<x'):=by
 unfold dz
 rw[h.l,k.r,cR h.le k.le]
 rcases Nat.lt_trichotomy x' y' with c|c|c
 · rw[ep c,decide_eq_false (by omega)];rfl
 · rw[c,de,decide_eq_false (by omega)];rfl
 · rw[dQ c,decide_eq_true c];rfl
theorem pA{x x' y y':Nat}(h:pg x x')(k:pg y y'):pE x y=decide (x'<y'):=by
 unfold pE
 rw[h.l,k.r,cR h.le k.le]
 rcases Nat.lt_trichotomy x' y' with c|c|c
 · rw[ep c,decide_eq_true c];rfl
 · rw[c,de,decide_eq_false (by omega)];rfl
 · rw[dQ c,decide_eq_false (by omega)];rfl
theorem mV{x:Nat}(h:fI x):dz x 9218868437227405311=decide (zf x=aM):=by
  have hI:aM=9218868437227405312:=rfl
  have h1:=(iO h).1
  rw[pN (iI h) (mu (by omega)),decide_eq_decide];omega
theorem pj{x:Nat}(h:fI x):dZ x=false:=by
 unfold dZ
 have k:=iI h
 rw[k.l,k.r,cR k.le k.le,de];rfl
open Go
theorem nr{P:Program}{f:Fr}{w:World}{dst:Option Tmp}{ty:TypeId}{pos:String}{after:Array Edge}{g:Option (Nat×Bool)}{t t':TypeId}{x y:Operand}{a b a' b':Nat}(hx:ev f x= .float .f64 a)(hy:ev f y= .float .f64 b)(ha:pg a a')(hb:pg b b'):(execOp (ev f) ⟨dst,.binOp .lss t x y t',ty,pos,after,g⟩).run P w= .ok (.value (.bool (decide (a'<b')))) w:=
 fc hx hy (λw=>by rw[binOp_float_cmp_lss];show Sem.run P (pure (Value.bool (pE a b))) w=_;rw[pA ha hb];rfl)
theorem pe{P:Program}{f:Fr}{w:World}{dst:Option Tmp}{ty:TypeId}{pos:String}{after:Array Edge}{g:Option (Nat×Bool)}{t t':TypeId}{x y:Operand}{a b:Nat}{q:Bool}(hx:ev f x= .float .f64 a)(hy:ev f y= .float .f64 b)(h:eN a b=q):(execOp (ev f) ⟨dst,.binOp .geq t x y t',ty,pos,after,g⟩).run P w= .ok (.value (.bool q)) w:=
 fc hx hy (λw=>by rw[binOp_float_cmp_geq];show Sem.run P (pure (Value.bool (eN a b))) w=_;rw[h];rfl)
end TL
/-
  TlPq: a heap of places (how far, which node), as container/heap keeps it: what is taken is the least, and nothing else is lost.
  By an AI agent.
-/
set_option linter.all false
namespace TL
abbrev Pl:=Nat×Int
def c6(a b:Pl):Prop:=a.1<b.1\/a.1=b.1/\a.2<b.2
instance (a b:Pl):Decidable (c6 a b):=by unfold c6;infer_instance
theorem dW(a:Pl):¬c6 a a:=by unfold c6;omega
theorem dI{a b c:Pl}(h1:¬c6 b a)(h2:¬c6 c b):¬c6 c a:=by unfold c6 at*;omega
theorem gw{a b:Pl}(h:c6 a b):¬c6 b a:=by unfold c6 at*;omega
theorem pc{a b:Pl}(h1:¬c6 a b)(h2:¬c6 b a):a=b:=by
 unfold c6 at*
 exact Prod.ext (by omega) (by omega)
def cd(xs:List Pl)(i:Nat):Pl:=gI xs (i:Int)
theorem dg{xs:List Pl}{i:Nat}(h:i<xs.length):cd xs i=xs[i]:=by unfold cd gI;simp[h]
def jD(xs:List Pl)(i j:Nat):List Pl:=(xs.set i (cd xs j)).set j (cd xs i)
theorem c8(xs:List Pl)(i j:Nat):(jD xs i j).length=xs.length:=by unfold jD;rw[List.length_set,List.length_set]
theorem fU{xs:List Pl}{i j k:Nat}(hi:i<xs.length)(hj:j<xs.length)(hk:k<xs.length):cd (jD xs i j) k=if k=j then cd xs i else if k=i then cd xs j else cd xs k:=by
 rw[dg (by rw[c8];exact hk)]
 unfold jD
 rw[List.getElem_set]
 by_cases h1:j=k
 · rw[if_pos h1,if_pos h1.symm]
 · rw[if_neg h1,if_neg (λe=>h1 e.symm),List.getElem_set]
   by_cases h2:i=k
   · rw[if_pos h2,if_pos h2.symm]
   · rw[if_neg h2,if_neg (λe=>h2 e.symm),dg hk]
theorem dN{xs:List Pl}{i j:Nat}(hi:i<xs.length)(hj:j<xs.length):(jD xs i j).Perm xs:=by
 unfold jD
 rw[dg hi,dg hj]
 exact List.set_set_perm hi hj
def gX(xs:List Pl)(i n:Nat):Nat:=if 2*i+1+1<n/\c6 (cd xs (2*i+1+1)) (cd xs (2*i+1)) then 2*i+1+1 else 2*i+1
def dn:Nat->List Pl->Nat->Nat->List Pl
 |0,xs,_,_=>xs
 |k+1,xs,i,n=>if n<=2*i+1 then xs else if c6 (cd xs (gX xs i n)) (cd xs i) then dn k (jD xs i (gX xs i n)) (gX xs i n) n else xs
def up:Nat->List Pl->Nat->List Pl
 |0,xs,_=>xs
 |k+1,xs,j=>if(j-1)/2=j\/¬c6 (cd xs j) (cd xs ((j-1)/2)) then xs else up k (jD xs ((j-1)/2) j) ((j-1)/2)
def eV(xs:List Pl)(n:Nat):Prop:=∀k,1<=k->k<n->¬c6 (cd xs k) (cd xs ((k-1)/2))
theorem mP{xs:List Pl}{n:Nat}(h:eV xs n):∀k,k<n->¬c6 (cd xs k) (cd xs 0):=by
 intro k
 induction k using Nat.strongRecOn with
 |ind k ih=>
   intro hk
   by_cases h0:k=0
   · subst h0;exact dW _
   · exact dI (ih ((k-1)/2) (by omega) (by omega)) (h k (by omega) hk)
structure pX(xs:List Pl)(i n:Nat):Prop where
  len:n<=xs.length
  ok:∀k,1<=k->k<n->(k-1)/2≠i->¬c6 (cd xs k) (cd xs ((k-1)/2))
  gr:1<=i->∀k,1<=k->k<n->(k-1)/2=i->¬c6 (cd xs k) (cd xs ((i-1)/2))
theorem iw{xs:List Pl}{i n:Nat}(h:¬n<=2*i+1):gX xs i n<n/\(gX xs i n-1)/2=i/\i<gX xs i n/\∀k,k<n->(k-1)/2=i->1<=k->¬c6 (cd xs k) (cd xs (gX xs i n)):=by
 unfold gX
 split
 · rename_i c
   refine⟨by omega,by omega,by omega,λk hk hp h1=>?_⟩
   have:k=2*i+1\/k=2*i+1+1:=by omega
   rcases this with rfl|rfl
   · exact gw c.2
   · exact dW _
 · rename_i c
   refine⟨by omega,by omega,by omega,λk hk hp h1=>?_⟩
   have:k=2*i+1\/k=2*i+1+1:=by omega
   rcases this with rfl|rfl
   · exact dW _
   · exact λe=>c ⟨hk,e⟩
theorem pX.next{xs:List Pl}{i n:Nat}(h:pX xs i n)(hn:¬n<=2*i+1)(hl:c6 (cd xs (gX xs i n)) (cd xs i)):pX (jD xs i (gX xs i n)) (gX xs i n) n:=by
 obtain⟨c1,c2,c3,c4⟩:=iw (xs:=xs) hn
 have hlen:=h.len
 generalize gX xs i n=c at c1 c2 c3 c4 hl ⊢
 have A:∀k,k<n->cd (jD xs i c) k=if k=c then cd xs i else if k=i then cd xs c else cd xs k:=λk hk=>fU (by omega) (by omega) (by omega)
 refine⟨by rw[c8];exact hlen,λk h1 h2 h3=>?_,λ_ k h1 h2 h3=>?_⟩
 · rw[A k h2,A ((k-1)/2) (by omega)]
   rw[if_neg (show¬(k-1)/2=c from h3)]
   by_cases hk:k=c
   · subst hk;rw[if_pos rfl,if_pos c2];exact gw hl
   · rw[if_neg hk]
     by_cases hi:k=i
     · subst hi
       rw[if_pos rfl,if_neg (by omega)]
       exact h.gr h1 c (by omega) c1 c2
     · rw[if_neg hi]
       by_cases hp:(k-1)/2=i
       · rw[if_pos hp];exact c4 k h2 hp h1
       · rw[if_neg hp];exact h.ok k h1 h2 hp
 · rw[A k h2,A ((c-1)/2) (by omega),if_neg (by omega),if_neg (by omega),if_neg (by omega),if_pos c2]
   have:=h.ok k h1 h2 (by omega)
   rw[h3] at this
   exact this
theorem pX.fin{xs:List Pl}{i n:Nat}(h:pX xs i n)(hf:n<=2*i+1\/¬c6 (cd xs (gX xs i n)) (cd xs i)):eV xs n:=by
 intro k h1 h2
 by_cases hp:(k-1)/2=i
 · by_cases hn:n<=2*i+1
   · omega
   · obtain⟨c1,c2,c3,c4⟩:=iw (xs:=xs) hn
     rw[hp]
     exact dI (hf.resolve_left hn) (c4 k h2 hp h1)
 · exact h.ok k h1 h2 hp
theorem kU:∀(f:Nat) (xs:List Pl) (i n:Nat),pX xs i n->n<=f+i->eV (dn f xs i n) n/\(dn f xs i n).length=xs.length/\(dn f xs i n).Perm xs/\∀k,n<=k->k<xs.length->cd (dn f xs i n) k=cd xs k
 |0,xs,i,n,h,hf=>⟨h.fin (.inl (by omega)),rfl,List.Perm.refl _,λ_ _ _=>rfl⟩
 |f+1,xs,i,n,h,hf=>by
   unfold dn
   by_cases hn:n<=2*i+1
   · rw[if_pos hn];exact⟨h.fin (.inl hn),rfl,List.Perm.refl _,λ_ _ _=>rfl⟩
   · rw[if_neg hn]
     by_cases hl:c6 (cd xs (gX xs i n)) (cd xs i)
     · rw[if_pos hl]
       obtain⟨c1,c2,c3,c4⟩:=iw (xs:=xs) hn
       have hlen:=h.len
       obtain⟨k1,k2,k3,k4⟩:=kU f _ _ n (h.next hn hl) (by omega)
       refine⟨k1,by rw[k2,c8],k3.trans (dN (by omega) (by omega)),λk h1 h2=>?_⟩
       rw[k4 k h1 (by rw[c8];exact h2),fU (by omega) (by omega) h2,if_neg (by omega),if_neg (by omega)]
     · rw[if_neg hl];exact⟨h.fin (.inr hl),rfl,List.Perm.refl _,λ_ _ _=>rfl⟩
structure r8(xs:List Pl)(j:Nat):Prop where
  len:j<xs.length
  ok:∀k,1<=k->k<xs.length->k≠j->¬c6 (cd xs k) (cd xs ((k-1)/2))
  gr:1<=j->∀k,1<=k->k<xs.length->(k-1)/2=j->¬c6 (cd xs k) (cd xs ((j-1)/2))
theorem km:∀(f:Nat) (xs:List Pl) (j:Nat),r8 xs j->j<=f->eV (up f xs j) xs.length/\(up f xs j).length=xs.length/\(up f xs j).Perm xs
 |0,xs,j,h,hf=>⟨λk h1 h2=>h.ok k h1 h2 (by omega),rfl,List.Perm.refl _⟩
 |f+1,xs,j,h,hf=>by
   have hlen:=h.len
   unfold up
   by_cases hc:(j-1)/2=j\/¬c6 (cd xs j) (cd xs ((j-1)/2))
   · rw[if_pos hc]
     refine⟨λk h1 h2=>?_,rfl,List.Perm.refl _⟩
     by_cases e:k=j
     · subst e;rcases hc with hc|hc
       · omega
       · exact hc
     · exact h.ok k h1 h2 e
   · rw[if_neg hc]
     obtain⟨c1,c2⟩:=not_or.1 hc
     have hl:=Classical.not_not.1 c2
     have hj:1<=j:=by omega
     have A:∀k,k<xs.length->cd (jD xs ((j-1)/2) j) k=if k=j then cd xs ((j-1)/2) else if k=(j-1)/2 then cd xs j else cd xs k:=λk hk=>fU (by omega) (by omega) (by omega)
     have fJ:r8 (jD xs ((j-1)/2) j) ((j-1)/2):=by
       refine⟨by rw[c8];omega,λk h1 h2 h3=>?_,λhi k h1 h2 h3=>?_⟩
       · rw[c8] at h2
         rw[A k h2,A ((k-1)/2) (by omega)]
         by_cases e:k=j
         · subst e
           rw[if_pos rfl,if_neg (by omega),if_pos rfl];exact gw hl
         · rw[if_neg e,if_neg h3]
           by_cases p1:(k-1)/2=j
           · rw[if_pos p1];exact h.gr hj k h1 h2 p1
           · rw[if_neg p1]
             by_cases p2:(k-1)/2=(j-1)/2
             · rw[if_pos p2]
               have:=h.ok k h1 h2 e
               rw[p2] at this
               exact dI (gw hl) this
             · rw[if_neg p2];exact h.ok k h1 h2 e
       · rw[c8] at h2
         have hpj:((j-1)/2-1)/2<xs.length:=by omega
         rw[A k h2,A _ hpj,if_neg (show¬((j-1)/2-1)/2=j by omega),if_neg (show¬((j-1)/2-1)/2=(j-1)/2 by omega)]
         have hq:=h.ok ((j-1)/2) (by omega) (by omega) (by omega)
         by_cases e:k=j
         · rw[if_pos e];exact hq
         · rw[if_neg e,if_neg (by omega)]
           have:=h.ok k h1 h2 e
           rw[h3] at this
           exact dI hq this
     obtain⟨k1,k2,k3⟩:=km f _ _ fJ (by omega)
     rw[c8] at k1 k2
     exact⟨k1,k2,k3.trans (dN (by omega) (by omega))⟩
def i4(xs:List Pl)(x:Pl):List Pl:=up xs.length (xs++[x]) xs.length
theorem mj{xs:List Pl}{x:Pl}{k:Nat}(h:k<xs.length):cd (xs++[x]) k=cd xs k:=by
 rw[dg (by rw[List.length_append];exact Nat.lt_of_lt_of_le h (Nat.le_add_right _ _)),dg h,List.getElem_append_left h]
theorem lp{xs:List Pl}(x:Pl)(h:eV xs xs.length):eV (i4 xs x) (xs.length+1)/\(i4 xs x).length=xs.length+1/\(i4 xs x).Perm (x::xs):=by
 have hl:(xs++[x]).length=xs.length+1:=by rw[List.length_append];rfl
 have hu:r8 (xs++[x]) xs.length:=by
   refine⟨by omega,λk h1 h2 h3=>?_,λ_ k h1 h2 h3=>by omega⟩
   rw[mj (by omega),mj (by omega)]
   exact h k h1 (by omega)
 obtain⟨k1,k2,k3⟩:=km xs.length _ _ hu (Nat.le_refl _)
 rw[hl] at k1 k2
 exact⟨k1,k2,k3.trans (List.perm_append_comm (l₁:=xs) (l₂:=[x]))⟩
def cI(xs:List Pl):List Pl:=dn (xs.length-1) (jD xs 0 (xs.length-1)) 0 (xs.length-1)
theorem gB{xs:List Pl}(h:eV xs xs.length)(h0:0<xs.length):eV ((cI xs).take (xs.length-1)) (xs.length-1)/\(cI xs).length=xs.length/\cd (cI xs) (xs.length-1)=cd xs 0/\xs.Perm (cd xs 0::(cI xs).take (xs.length-1)):=by
 have hd:pX (jD xs 0 (xs.length-1)) 0 (xs.length-1):=by
   refine⟨by rw[c8];omega,λk h1 h2 h3=>?_,λh1=>by omega⟩
   rw[fU (by omega) (by omega) (by omega),fU (by omega) (by omega) (by omega),if_neg (by omega),if_neg (by omega),if_neg (by omega),if_neg h3]
   exact h k h1 (by omega)
 obtain⟨k1,k2,k3,k4⟩:=kU (xs.length-1) _ _ _ hd (by omega)
 rw[c8] at k2 k4
 have e1:cd (cI xs) (xs.length-1)=cd xs 0:=by
   unfold cI
   rw[k4 (xs.length-1) (Nat.le_refl _) (by omega),fU (by omega) (by omega) (by omega),if_pos rfl]
 have hpl:(cI xs).length=xs.length:=k2
 have hat:∀k,k<xs.length-1->cd ((cI xs).take (xs.length-1)) k=cd (cI xs) k:=by
   intro k hk
   rw[dg (by rw[List.length_take];omega),dg (by omega),List.getElem_take]
 refine⟨λk h1 h2=>?_,hpl,e1,?_⟩
 · rw[hat k h2,hat _ (by omega)];exact k1 k h1 h2
 · have p1:(cI xs).Perm xs:=k3.trans (dN (by omega) (by omega))
   have e2:cI xs=(cI xs).take (xs.length-1)++[cd xs 0]:=by
     rw[<-e1,dg (by omega)]
     have:=List.take_append_getElem (i:=xs.length-1) (show xs.length-1<(cI xs).length by omega)
     rw[this,List.take_of_length_le (by omega)]
   have p2:((cI xs).take (xs.length-1)++[cd xs 0]).Perm (cd xs 0::(cI xs).take (xs.length-1)):=List.perm_append_comm
   rw[<-e2] at p2
   exact p1.symm.trans p2
end TL
namespace TL
theorem pQ{a b:Pl}(h:¬a.1=b.1):decide (a.1<b.1)=decide (c6 a b):=by rw[decide_eq_decide];unfold c6;omega
theorem pY{a b:Pl}(h:a.1=b.1):decide (a.2<b.2)=decide (c6 a b):=by rw[decide_eq_decide];unfold c6;omega
end TL
/-
  TlWay: ways of the least weight (package path): what From tells, as the document does it (the nearest node that is not settled, again and again), and that a heap of waiting nodes finds the same.
  By an AI agent.
-/
set_option linter.all false
namespace TL
abbrev FS:=List Nat×List Int
def cZ(g:aD)(ws:List Nat):Int:=if aV g/\ws.length=g.2.length then(if∀x∈ws,fI x then 0 else 13) else 1
def f8(g:aD)(ws:List Nat)(d:Nat)(s:FS)(h:Int):FS:=
 if zf (gI ws (h/2))=aM then s else if b6 d (zf (gI ws (h/2)))<gI s.1 (bU g h) then(s.1.set (bU g h).toNat (b6 d (zf (gI ws (h/2)))),s.2.set (bU g h).toNat h) else s
def iS(g:aD)(ws:List Nat)(d:Nat)(hs:List Int)(s:FS):FS:=hs.foldl (f8 g ws d) s
def c9(far:List Nat)(se:List Bool):Nat->Int
 |0=> -1
 |k+1=>if gI se (k:Int)=false/\gI far (k:Int)<aM/\(c9 far se k<0\/gI far (k:Int)<gI far (c9 far se k)) then(k:Int) else c9 far se k
def ly(g:aD)(ws:List Nat):Nat->FS->List Bool->FS
 |0,s,_=>s
 |f+1,s,se=>if c9 s.1 se g.1.toNat<0 then s else ly g ws f (iS g ws (gI s.1 (c9 s.1 se g.1.toNat)) (gI (ab g) (c9 s.1 se g.1.toNat)) s) (se.set (c9 s.1 se g.1.toNat).toNat true)
def dT(n:Nat)(s:Int):FS:=((List.replicate n aM).set s.toNat 0,List.replicate n (-1))
def jn(g:aD)(ws:List Nat)(s:Int):FS:=ly g ws g.1.toNat (dT g.1.toNat s) (List.replicate g.1.toNat false)
def aY(g:aD)(ws:List Nat)(s:Int):FS×Int:=if cZ g ws=0 then(if 0<=s/\s<g.1 then(jn g ws s,0) else(([],[]),2)) else(([],[]),cZ g ws)
theorem qg{g:aD}{ws:List Nat}(h:cZ g ws=0):aV g/\ws.length=g.2.length/\∀x∈ws,fI x:=by
 unfold cZ at h
 by_cases c:aV g/\ws.length=g.2.length
 · rw[if_pos c] at h
   by_cases d:∀x∈ws,fI x
   · exact⟨c.1,c.2,d⟩
   · rw[if_neg d] at h;exact absurd h (by decide)
 · rw[if_neg c] at h;exact absurd h (by decide)
theorem mN{g:aD}{ws:List Nat}{s:Int}(h:¬cZ g ws=0):aY g ws s=(([],[]),cZ g ws):=by unfold aY;rw[if_neg h]
theorem iH{g:aD}{ws:List Nat}{s:Int}(h:cZ g ws=0)(h2:¬(0<=s/\s<g.1)):aY g ws s=(([],[]),2):=by unfold aY;rw[if_pos h,if_neg h2]
theorem mc{g:aD}{ws:List Nat}{s:Int}(h:cZ g ws=0)(h2:0<=s/\s<g.1):aY g ws s=(jn g ws s,0):=by unfold aY;rw[if_pos h,if_pos h2]
-- what is picked
theorem kk(far:List Nat)(se:List Bool):∀k,c9 far se k<k
 |0=>by unfold c9;omega
 |k+1=>by
   have:=kk far se k
   unfold c9;split<;>omega
def ij(far:List Nat)(se:List Bool)(v:Int):Prop:=gI se v=false/\gI far v<aM
theorem i6{far:List Nat}{se:List Bool}:∀{k:Nat},(∀v:Nat,v<k->¬ij far se v)->c9 far se k= -1
 |0,_=>rfl
 |k+1,h=>by
   have i:=i6 (k:=k) (λv hv=>h v (by omega))
   unfold c9
   rw[if_neg,i]
   intro c
   exact h k (by omega) ⟨c.1,c.2.1⟩
theorem kr{far:List Nat}{se:List Bool}{u:Nat}(hu:ij far se u):∀{k:Nat},u<k->(∀v:Nat,v<k->ij far se v->¬c6 (gI far v,(v:Int)) (gI far u,(u:Int)))->c9 far se k=u
  |0,h,_=>by omega
  |k+1,h,hm=>by
    unfold c9
    by_cases e:u=k
    · subst e
      rw[if_pos]
      refine⟨hu.1,hu.2,?_⟩
      by_cases c:c9 far se u<0
      · exact .inl c
      · right
        -- what was picked ahead of it waits and is farther
        have aux:∀k,¬c9 far se k<0->ij far se (c9 far se k):=by
          intro k
          induction k with
          |zero=>intro c;unfold c9 at c;omega
          |succ k ih=>
            intro c
            unfold c9 at c ⊢
            split
            · rename_i d;exact⟨d.1,d.2.1⟩
            · rename_i d;rw[if_neg d] at c;exact ih c
        have h1:=aux u c
        have h2:=kk far se u
        obtain⟨v,hv⟩:∃v:Nat,c9 far se u=v:=⟨(c9 far se u).toNat,by omega⟩
        rw[hv] at h1 h2 ⊢
        have:=hm v (by omega) h1
        unfold c6 at this
        simp only at this
        omega
    · have i:=kr hu (k:=k) (by omega) (λv hv=>hm v (by omega))
      rw[i,if_neg]
      intro c
      have:=hm k (by omega) ⟨c.1,c.2.1⟩
      have c3:=c.2.2
      unfold c6 at this
      simp only at this
      omega
-- once all are settled no more rounds matter
def gj(se:List Bool):Nat:=se.count false
theorem o8{se:List Bool}{u:Nat}(hu:u<se.length)(h:gI se (u:Int)=false):gj (se.set u true)+1=gj se:=by
 have e:se[u]=false:=by
   have:gI se (u:Int)=se[u]:=by simp[gI,hu]
   rw[<-this];exact h
 unfold gj
 have hp:0<se.count false:=List.count_pos_iff.2 (e▸List.getElem_mem hu)
 rw[List.count_set hu,e]
 simp
 omega
end TL
namespace TL
theorem nh{x:Nat}(h:x<=aM):bZ x=x:=by unfold bZ;rw[om h];rfl
theorem q7{g:aD}{ws:List Nat}(h:¬decide (aV g)=true):cZ g ws=1:=by unfold cZ;rw[if_neg];exact λc=>h (decide_eq_true c.1)
theorem qj{g:aD}{ws:List Nat}(h:¬(ws.length:Int)=(g.2.length:Int)):cZ g ws=1:=by unfold cZ;rw[if_neg];exact λc=>h (by rw[c.2])
theorem pS{g:aD}{ws:List Nat}{k:Int}(hm:decide (aV g)=true)(hl:(ws.length:Int)=(g.2.length:Int))(hk:0<=k/\k<ws.length)(h:¬eN (gI ws k) 0=true):cZ g ws=13:=by
 unfold cZ
 rw[if_pos ⟨of_decide_eq_true hm,by omega⟩,if_neg]
 exact λc=>h (c _ (aU hk.1 hk.2))
theorem oR{ws:List Nat}{k:Nat}(h:∀i:Nat,i<k->fI (gI ws (i:Int)))(hk:eN (gI ws (k:Int)) 0=true):∀i:Nat,i<k+1->fI (gI ws (i:Int)):=by
 intro i hi
 by_cases e:i=k
 · subst e;exact hk
 · exact h i (by omega)
theorem q6{g:aD}{ws:List Nat}{k:Nat}(hm:decide (aV g)=true)(hl:(ws.length:Int)=(g.2.length:Int))(h:∀i:Nat,i<k->fI (gI ws (i:Int)))(hk:¬(k:Int)<ws.length):cZ g ws=0:=by
 unfold cZ
 rw[if_pos ⟨of_decide_eq_true hm,by omega⟩,if_pos]
 intro x hx
 obtain⟨i,hi,e⟩:=List.mem_iff_getElem.1 hx
 have:=h i (by omega)
 simp only[gI,Int.toNat_natCast,List.getD_eq_getElem?_getD,List.getElem?_eq_getElem hi,Option.getD_some] at this
 rw[<-e];exact this
end TL
