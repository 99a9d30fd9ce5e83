/-
  TlSortM: edges in the order of their weights, by the library's sort; a list of numbers sorted.
  By an AI agent.
-/
import Derived.Test.YtbpphaeianpdpaaPmTlSortL
import Derived.Test.YtbpphaeianpdpaaPmTlP2
import Derived.Test.YtbpphaeianpdpaaPmTlPwS
set_option linter.all false
namespace TL
open Go Go.Proofs Go.Shelf Go.Sort Go.Lib
theorem sg{γ:ay}{J:bO->Prop}{w:World}{b:Nat}{cs:List Value}(h:Bx γ J w b cs):Bx c0 (is 0) w b cs:=⟨rfl,h.2⟩
def fi{n:Nat}(x:Fin n):Int:=((x.val:Nat):Int)
def rm(ws:List Nat){n:Nat}(x y:Fin n):Int:=m5 ws (fi x) (fi y)
theorem rJ{ws:List Nat}{n:Nat}{x y:Fin n}:ltOf (rm ws) x y=true↔gY ws (fi x) (fi y):=by
  unfold ltOf rm m5
  rw[decide_eq_true_iff]
  by_cases h:gY ws (fi x) (fi y)
  · rw[if_pos h];exact⟨λ_=>h,λ_=>by decide⟩
  · rw[if_neg h];split
    · exact⟨λc=>absurd c (by decide),λc=>absurd c h⟩
    · exact⟨λc=>absurd c (by decide),λc=>absurd c h⟩
theorem ml{ws:List Nat}{n:Nat}{x y:Fin n}:ltOf (rm ws) x y=false↔¬gY ws (fi x) (fi y):=by
  rw[<-rJ];simp
theorem rR(ws:List Nat)(n:Nat):SWO (α:=Fin n) (ltOf (rm ws)):=
  ⟨λx=>ml.2 (jZ _ _),λx y z h1 h2=>rJ.2 (nl (rJ.1 h1) (rJ.1 h2)),λx y z h1 h2=>ml.2 (dR (ml.1 h2) (ml.1 h1))⟩
theorem mH(n:Nat):(List.finRange n).map fi=bF n:=by
  apply List.ext_getElem?
  intro i
  by_cases h:i<n
  · simp[bF,fi,h]
  · simp[bF,h]
theorem mY{γ:ay}{w:World}{j j1 j2:Nat}{v ws_v:Value}{xs:List Int}{ws:List Nat}{bp:Nat}(hl:Ow γ (is j) (is j) w v xs)
    (h1:Bx γ (is j1) w bp [ws_v])(h2:Sl γ (is j2) w ws_v ws)(n1:∀c,is j1 c->¬is j c)(n2:∀c,is j2 c->¬is j c)(hx:xs=bF ws.length)(hg:∀x∈ws,dS x):
    Calls Try.prog 46 (List.toArray [v,Value.func (.func 47) #[] (List.toArray [Value.pointer (some ⟨bp,0,none⟩)])]) w λe w'=>∃x:Unit,e= .returned ((λ_=>Value.tuple #[]) x)/\(λ(_:Unit) (w':World)=>bc (is j) γ w γ w'/\Ow γ (is j) (is j) w' v (aV ws)) x w':=by
  subst hx
  by_cases hn:ws.length=0
  · have e0:bF ws.length=[]:=by rw[hn];rfl
    rw[e0] at hl
    have ea:aV ws=[]:=List.eq_nil_of_length_eq_zero ((kC ws).trans hn)
    obtain⟨p,c,hv⟩:∃p c,v=Value.slice p 0 c:=by
      rcases hl with⟨h,_⟩|⟨b,cap,c,e,h,_⟩
      · exact⟨_,_,h⟩
      · exact⟨_,_,h⟩
    have hX:=AnyF.slices_SortFunc_none (P:=Try.prog) (ρ:=gE) {mR with} p c (.func (.func 47) #[] (List.toArray [Value.pointer (some ⟨bp,0,none⟩)])) w
    rw[<-hv] at hX
    change Calls Try.prog 46 _ _ _ at hX
    refine hX.mono λe w' ⟨q1,q2⟩=>⟨(),q1,?_⟩
    subst q2
    rw[ea]
    exact⟨bc.refl _ _ _,hl⟩
  · obtain⟨m,hm⟩:∃m,ws.length=m+1:=⟨ws.length-1,by omega⟩
    have hl':Ow γ (is j) (is j) w v ((List.finRange (m+1)).map fi):=by rw[mH,<-hm];exact hl
    have hb:∀x:Fin (m+1),0<=fi x/\fi x<(ws.length:Int):=λx=>by have:=x.isLt;unfold fi;omega
    have hX:=lX mR (α:=Fin (m+1)) fi (rm ws) (rR ws _) 47 (List.toArray [Value.pointer (some ⟨bp,0,none⟩)]) (enters_of Try.func47 (by kernel_rfl) rfl)
      (λh=>by have:=congrArg List.length h;simp at this) hl' λW hW x y=>by
        have h:=lY W (fi x) (fi y) ws ws_v (h2.chg hW n2).ro bp (sg (h1.chg hW n1)) (hb x) (hb y) hg
        have e:(#[Value.int .i64 (fi x),Value.int .i64 (fi y)]++(List.toArray [Value.pointer (some ⟨bp,0,none⟩)]):Array Value)=List.toArray [Value.int .i64 (fi x),Value.int .i64 (fi y),Value.pointer (some ⟨bp,0,none⟩)]:=by simp
        rw[e];exact h
    change Calls Try.prog 46 _ _ _ at hX
    refine hX.mono λe w' ⟨q1,ds',hp,hs,hc,ho'⟩=>⟨(),q1,hc,?_⟩
    have:ds'.map fi=aV ws:=by
      refine nX ?_ ?_
      · rw[hm,<-mH];exact hp.map _
      · exact List.Pairwise.map _ (λa b h=>ml.1 h) hs
    rw[<-this];exact ho'
theorem nr{γ:ay}{w:World}{j:Nat}{v:Value}{xs ys:List Int}(hl:Ow γ (is j) (is j) w v xs)(he:(xs.mergeSort λx y=>decide (x<=y))=ys):
    Calls Try.prog 50 (List.toArray [v]) w λe w'=>∃x:Unit,e= .returned ((λ_=>Value.tuple #[]) x)/\(λ(_:Unit) (w':World)=>bc (is j) γ w γ w'/\Ow γ (is j) (is j) w' v ys) x w':=by
  subst he
  have hX:=ko qZ (λw=>(show Calls Try.prog 50 #[.slice none 0 0] w _ from(mO w))) hl
  change Calls Try.prog 50 _ _ _ at hX
  exact hX.mono λe w' ⟨q1,q2,q3⟩=>⟨(),q1,q2,q3⟩
end TL
