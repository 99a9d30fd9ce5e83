/-
  TlSortM: edges in the order of their weights, by the library's sort; a list of numbers sorted.
  By an AI agent.
-/
import Derived.Test.YtbpphaeianpdpaaPzTlSortL
import Derived.Test.YtbpphaeianpdpaaPzTlP2
import Derived.Test.YtbpphaeianpdpaaPzTlPwS
set_option linter.all false
namespace TL
open Go Go.Proofs Go.Shelf Go.Sort Go.Lib
theorem sq{γ:aA}{J:bS->Prop}{w:World}{b:Nat}{cs:List Value}(h:Bx γ J w b cs):Bx c0 (is 0) w b cs:=⟨rfl,h.2⟩
def fi{n:Nat}(x:Fin n):Int:=((x.val:Nat):Int)
def rL(ws:List Nat){n:Nat}(x y:Fin n):Int:=mB ws (fi x) (fi y)
theorem rR{ws:List Nat}{n:Nat}{x y:Fin n}:ltOf (rL ws) x y=true↔fX ws (fi x) (fi y):=by
  unfold ltOf rL mB
  rw[decide_eq_true_iff]
  by_cases h:fX ws (fi x) (fi y)
  · rw[if_pos h];exact⟨λ_=>h,λ_=>by decide⟩
  · rw[if_neg h];split
    · exact⟨λc=>absurd c (by decide),λc=>absurd c h⟩
    · exact⟨λc=>absurd c (by decide),λc=>absurd c h⟩
theorem nr{ws:List Nat}{n:Nat}{x y:Fin n}:ltOf (rL ws) x y=false↔¬fX ws (fi x) (fi y):=by
  rw[<-rR];simp
theorem s3(ws:List Nat)(n:Nat):SWO (α:=Fin n) (ltOf (rL ws)):=
  ⟨λx=>nr.2 (fy _ _),λx y z h1 h2=>rR.2 (nV (rR.1 h1) (rR.1 h2)),λx y z h1 h2=>nr.2 (dV (nr.1 h2) (nr.1 h1))⟩
theorem nN(n:Nat):(List.finRange n).map fi=bz n:=by
  apply List.ext_getElem?
  intro i
  by_cases h:i<n
  · simp[bz,fi,h]
  · simp[bz,h]
theorem nj{γ:aA}{w:World}{j j1 j2:Nat}{v ws_v:Value}{xs:List Int}{ws:List Nat}{bp:Nat}(hl:Ow γ (is j) (is j) w v xs)
    (h1:Bx γ (is j1) w bp [ws_v])(h2:Sl γ (is j2) w ws_v ws)(n1:∀c,is j1 c->¬is j c)(n2:∀c,is j2 c->¬is j c)(hx:xs=bz ws.length)(hg:∀x∈ws,ef x):
    Calls Try.prog 46 (List.toArray [v,Value.func (.func 47) #[] (List.toArray [Value.pointer (some ⟨bp,0,none⟩)])]) w λe w'=>∃x:Unit,e= .returned ((λ_=>Value.tuple #[]) x)/\(λ(_:Unit) (w':World)=>bi (is j) γ w γ w'/\Ow γ (is j) (is j) w' v (aS ws)) x w':=by
  subst hx
  by_cases hn:ws.length=0
  · have e0:bz ws.length=[]:=by rw[hn];rfl
    rw[e0] at hl
    have ea:aS ws=[]:=List.eq_nil_of_length_eq_zero ((eS ws).trans hn)
    obtain⟨p,c,hv⟩:∃p c,v=Value.slice p 0 c:=by
      rcases hl with⟨h,_⟩|⟨b,cap,c,e,h,_⟩
      · exact⟨_,_,h⟩
      · exact⟨_,_,h⟩
    have il:=AnyF.slices_SortFunc_none (P:=Try.prog) (ρ:=ig) {mS with} p c (.func (.func 47) #[] (List.toArray [Value.pointer (some ⟨bp,0,none⟩)])) w
    rw[<-hv] at il
    change Calls Try.prog 46 _ _ _ at il
    refine il.mono λe w' ⟨q1,q2⟩=>⟨(),q1,?_⟩
    subst q2
    rw[ea]
    exact⟨bi.refl _ _ _,hl⟩
  · obtain⟨m,hm⟩:∃m,ws.length=m+1:=⟨ws.length-1,by omega⟩
    have hl':Ow γ (is j) (is j) w v ((List.finRange (m+1)).map fi):=by rw[nN,<-hm];exact hl
    have hb:∀x:Fin (m+1),0<=fi x/\fi x<(ws.length:Int):=λx=>by have:=x.isLt;unfold fi;omega
    have il:=mw mS (α:=Fin (m+1)) fi (rL ws) (s3 ws _) 47 (List.toArray [Value.pointer (some ⟨bp,0,none⟩)]) (enters_of Try.func47 (by kernel_rfl) rfl)
      (λh=>by have:=congrArg List.length h;simp at this) hl' λW hW x y=>by
        have h:=m8 W (fi x) (fi y) ws ws_v (h2.chg hW n2).ro bp (sq (h1.chg hW n1)) (hb x) (hb y) hg
        have e:(#[Value.int .i64 (fi x),Value.int .i64 (fi y)]++(List.toArray [Value.pointer (some ⟨bp,0,none⟩)]):Array Value)=List.toArray [Value.int .i64 (fi x),Value.int .i64 (fi y),Value.pointer (some ⟨bp,0,none⟩)]:=by simp
        rw[e];exact h
    change Calls Try.prog 46 _ _ _ at il
    refine il.mono λe w' ⟨q1,ds',hp,hs,hc,ho'⟩=>⟨(),q1,hc,?_⟩
    have:ds'.map fi=aS ws:=by
      refine q5 ?_ ?_
      · rw[hm,<-nN];exact hp.map _
      · exact List.Pairwise.map _ (λa b h=>nr.1 h) hs
    rw[<-this];exact ho'
theorem mK{γ:aA}{w:World}{j:Nat}{v:Value}{xs ys:List Int}(hl:Ow γ (is j) (is j) w v xs)(he:(xs.mergeSort λx y=>decide (x<=y))=ys):
    Calls Try.prog 50 (List.toArray [v]) w λe w'=>∃x:Unit,e= .returned ((λ_=>Value.tuple #[]) x)/\(λ(_:Unit) (w':World)=>bi (is j) γ w γ w'/\Ow γ (is j) (is j) w' v ys) x w':=by
  subst he
  have il:=kd re (λw=>(show Calls Try.prog 50 #[.slice none 0 0] w _ from(nY w))) hl
  change Calls Try.prog 50 _ _ _ at il
  exact il.mono λe w' ⟨q1,q2,q3⟩=>⟨(),q1,q2,q3⟩
end TL
