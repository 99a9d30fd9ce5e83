/-
  TlSortM: edges in the order of their weights, by the library's sort; a list of numbers sorted.
  By an AI agent.
-/
import Derived.Test.YtbpphaeianpdpaaPuTlSortL
import Derived.Test.YtbpphaeianpdpaaPuTlP2
import Derived.Test.YtbpphaeianpdpaaPuTlPwS
set_option linter.all false
namespace TL
open Go Go.Proofs Go.Shelf Go.Sort Go.Lib
theorem rI{γ:aw}{J:bF->Prop}{w:World}{b:Nat}{cs:List Value}(h:Bx γ J w b cs):Bx c0 (is 0) w b cs:=⟨rfl,h.2⟩
def fi{n:Nat}(x:Fin n):Int:=((x.val:Nat):Int)
def qO(ws:List Nat){n:Nat}(x y:Fin n):Int:=lD ws (fi x) (fi y)
theorem qY{ws:List Nat}{n:Nat}{x y:Fin n}:ltOf (qO ws) x y=true↔gp ws (fi x) (fi y):=by
  unfold ltOf qO lD
  rw[decide_eq_true_iff]
  by_cases h:gp ws (fi x) (fi y)
  · rw[if_pos h];exact⟨λ_=>h,λ_=>by decide⟩
  · rw[if_neg h];split
    · exact⟨λc=>absurd c (by decide),λc=>absurd c h⟩
    · exact⟨λc=>absurd c (by decide),λc=>absurd c h⟩
theorem lW{ws:List Nat}{n:Nat}{x y:Fin n}:ltOf (qO ws) x y=false↔¬gp ws (fi x) (fi y):=by
  rw[<-qY];simp
theorem rm(ws:List Nat)(n:Nat):SWO (α:=Fin n) (ltOf (qO ws)):=
  ⟨λx=>lW.2 (k7 _ _),λx y z h1 h2=>qY.2 (mq (qY.1 h1) (qY.1 h2)),λx y z h1 h2=>lW.2 (dI (lW.1 h2) (lW.1 h1))⟩
theorem mE(n:Nat):(List.finRange n).map fi=ba n:=by
  apply List.ext_getElem?
  intro i
  by_cases h:i<n
  · simp[ba,fi,h]
  · simp[ba,h]
theorem mZ{γ:aw}{w:World}{j j1 j2:Nat}{v ws_v:Value}{xs:List Int}{ws:List Nat}{bp:Nat}(hl:Ow γ (is j) (is j) w v xs)
    (h1:Bx γ (is j1) w bp [ws_v])(h2:Sl γ (is j2) w ws_v ws)(n1:∀c,is j1 c->¬is j c)(n2:∀c,is j2 c->¬is j c)(hx:xs=ba ws.length)(hg:∀x∈ws,fI x):
    Calls Try.prog 46 (List.toArray [v,Value.func (.func 47) #[] (List.toArray [Value.pointer (some ⟨bp,0,none⟩)])]) w λe w'=>∃x:Unit,e= .returned ((λ_=>Value.tuple #[]) x)/\(λ(_:Unit) (w':World)=>aZ (is j) γ w γ w'/\Ow γ (is j) (is j) w' v (aL ws)) x w':=by
  subst hx
  by_cases hn:ws.length=0
  · have e0:ba ws.length=[]:=by rw[hn];rfl
    rw[e0] at hl
    have ea:aL ws=[]:=List.eq_nil_of_length_eq_zero ((kR ws).trans hn)
    obtain⟨p,c,hv⟩:∃p c,v=Value.slice p 0 c:=by
      rcases hl with⟨h,_⟩|⟨b,cap,c,e,h,_⟩
      · exact⟨_,_,h⟩
      · exact⟨_,_,h⟩
    have fJ:=AnyF.slices_SortFunc_none (P:=Try.prog) (ρ:=gR) {mr with} p c (.func (.func 47) #[] (List.toArray [Value.pointer (some ⟨bp,0,none⟩)])) w
    rw[<-hv] at fJ
    change Calls Try.prog 46 _ _ _ at fJ
    refine fJ.mono λe w' ⟨q1,q2⟩=>⟨(),q1,?_⟩
    subst q2
    rw[ea]
    exact⟨aZ.refl _ _ _,hl⟩
  · obtain⟨m,hm⟩:∃m,ws.length=m+1:=⟨ws.length-1,by omega⟩
    have hl':Ow γ (is j) (is j) w v ((List.finRange (m+1)).map fi):=by rw[mE,<-hm];exact hl
    have hb:∀x:Fin (m+1),0<=fi x/\fi x<(ws.length:Int):=λx=>by have:=x.isLt;unfold fi;omega
    have fJ:=lj mr (α:=Fin (m+1)) fi (qO ws) (rm ws _) 47 (List.toArray [Value.pointer (some ⟨bp,0,none⟩)]) (enters_of Try.func47 (by kernel_rfl) rfl)
      (λh=>by have:=congrArg List.length h;simp at this) hl' λW hW x y=>by
        have h:=lA W (fi x) (fi y) ws ws_v (h2.chg hW n2).ro bp (rI (h1.chg hW n1)) (hb x) (hb y) hg
        have e:(#[Value.int .i64 (fi x),Value.int .i64 (fi y)]++(List.toArray [Value.pointer (some ⟨bp,0,none⟩)]):Array Value)=List.toArray [Value.int .i64 (fi x),Value.int .i64 (fi y),Value.pointer (some ⟨bp,0,none⟩)]:=by simp
        rw[e];exact h
    change Calls Try.prog 46 _ _ _ at fJ
    refine fJ.mono λe w' ⟨q1,ds',hp,hs,hc,ho'⟩=>⟨(),q1,hc,?_⟩
    have:ds'.map fi=aL ws:=by
      refine nX ?_ ?_
      · rw[hm,<-mE];exact hp.map _
      · exact List.Pairwise.map _ (λa b h=>lW.1 h) hs
    rw[<-this];exact ho'
theorem n7{γ:aw}{w:World}{j:Nat}{v:Value}{xs ys:List Int}(hl:Ow γ (is j) (is j) w v xs)(he:(xs.mergeSort λx y=>decide (x<=y))=ys):
    Calls Try.prog 50 (List.toArray [v]) w λe w'=>∃x:Unit,e= .returned ((λ_=>Value.tuple #[]) x)/\(λ(_:Unit) (w':World)=>aZ (is j) γ w γ w'/\Ow γ (is j) (is j) w' v ys) x w':=by
  subst he
  have fJ:=jI qa (λw=>(show Calls Try.prog 50 #[.slice none 0 0] w _ from(nf w))) hl
  change Calls Try.prog 50 _ _ _ at fJ
  exact fJ.mono λe w' ⟨q1,q2,q3⟩=>⟨(),q1,q2,q3⟩
end TL
