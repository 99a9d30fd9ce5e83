/-
  TlSortA: points sorted round another one: the library's sort by the program's comparison.
  By an AI agent.
-/
import Derived.Test.YtcblhagfadineaaProg
import Derived.Test.YtcblhagfadineaaJpTlP4
import Derived.Test.YtcblhagfadineaaJpTlGmG
import Derived.Shelf.SlSortCmp.NoneTotal
set_option linter.all false
namespace TL
open Go Go.Proofs Go.Shelf Go.Sort Go.Lib
def mw:Go.Shelf.Ren:=⟨λ|6=>34|15=>50|14=>49|28=>68|29=>69|20=>60|21=>61|22=>62|23=>63|24=>64|25=>65|26=>66|27=>67|46=>75|47=>76|48=>77|49=>78|50=>79|57=>81|n=>n,λ|22=>39|24=>3|25=>77|3=>3|39=>91|0=>0|53=>110|55=>112|4=>4|46=>103|45=>102|50=>107|5=>5|9=>9|66=>117|70=>121|76=>123|77=>124|n=>n,λ|n=>n⟩
theorem xV:Go.Proofs.SlLaysF.n6 Try.prog mw where
  mixed:=by kernel_rfl
  f6:=⟨Try.f34.name,by decide+kernel,Try.func34.trans (congrArg some (by kernel_rfl))⟩
  f14:=⟨Try.f49.name,by decide+kernel,Try.func49.trans (congrArg some (by kernel_rfl))⟩
  f15:=Try.func50.trans (congrArg some (by kernel_rfl))
  f20:=⟨Try.f60.name,by decide+kernel,Try.func60.trans (congrArg some (by kernel_rfl))⟩
  f21:=⟨Try.f61.name,by decide+kernel,Try.func61.trans (congrArg some (by kernel_rfl))⟩
  f22:=⟨Try.f62.name,by decide+kernel,Try.func62.trans (congrArg some (by kernel_rfl))⟩
  f23:=⟨Try.f63.name,by decide+kernel,Try.func63.trans (congrArg some (by kernel_rfl))⟩
  f24:=⟨Try.f64.name,by decide+kernel,Try.func64.trans (congrArg some (by kernel_rfl))⟩
  f25:=⟨Try.f65.name,by decide+kernel,Try.func65.trans (congrArg some (by kernel_rfl))⟩
  f26:=⟨Try.f66.name,by decide+kernel,Try.func66.trans (congrArg some (by kernel_rfl))⟩
  f27:=⟨Try.f67.name,by decide+kernel,Try.func67.trans (congrArg some (by kernel_rfl))⟩
  f28:=Try.func68.trans (congrArg some (by kernel_rfl))
  f29:=Try.func69.trans (congrArg some (by kernel_rfl))
  f46:=⟨Try.f75.name,by decide+kernel,Try.func75.trans (congrArg some (by kernel_rfl))⟩
  f47:=Try.func76.trans (congrArg some (by kernel_rfl))
  f48:=Try.func77.trans (congrArg some (by kernel_rfl))
  f49:=⟨Try.f78.name,by decide+kernel,Try.func78.trans (congrArg some (by kernel_rfl))⟩
  f50:=⟨Try.f79.name,by decide+kernel,Try.func79.trans (congrArg some (by kernel_rfl))⟩
  f57:=⟨Try.f81.name,by decide+kernel,Try.func81.trans (congrArg some (by kernel_rfl))⟩
  t0:=Try.underlying0
  a0:=Try.isAgg0
  z0:=Try.sizeOf0
  v0:=Try.zeroValue0
  t3:=Try.underlying3
  a3:=Try.isAgg3
  z3:=Try.sizeOf3
  v3:=Try.zeroValue3
  t4:=Try.underlying4
  a4:=Try.isAgg4
  z4:=Try.sizeOf4
  v4:=Try.zeroValue4
  t5:=Try.underlying5
  a5:=Try.isAgg5
  z5:=Try.sizeOf5
  v5:=Try.zeroValue5
  t9:=Try.underlying9
  a9:=Try.isAgg9
  z9:=Try.sizeOf9
  v9:=Try.zeroValue9
  t22:=Try.underlying39
  a22:=Try.isAgg39
  z22:=Try.sizeOf39
  v22:=Try.zeroValue39
  a24:=Try.isAgg3
  z24:=Try.sizeOf3
  t25:=Try.underlying77
  a25:=Try.isAgg77
  z25:=Try.sizeOf77
  v25:=Try.zeroValue77
  t39:=Try.underlying91
  a39:=Try.isAgg91
  z39:=Try.sizeOf91
  v39:=Try.zeroValue91
  t45:=Try.underlying102
  a45:=Try.isAgg102
  z45:=Try.sizeOf102
  v45:=Try.zeroValue102
  t46:=Try.underlying103
  a46:=Try.isAgg103
  z46:=Try.sizeOf103
  v46:=Try.zeroValue103
  t50:=Try.underlying107
  a50:=Try.isAgg107
  z50:=Try.sizeOf107
  v50:=Try.zeroValue107
  t53:=Try.underlying110
  a53:=Try.isAgg110
  z53:=Try.sizeOf110
  v53:=Try.zeroValue110
  t55:=Try.underlying112
  a55:=Try.isAgg112
  z55:=Try.sizeOf112
  v55:=Try.zeroValue112
  t66:=Try.underlying117
  a66:=Try.isAgg117
  z66:=Try.sizeOf117
  v66:=Try.zeroValue117
  t70:=Try.underlying121
  a70:=Try.isAgg121
  z70:=Try.sizeOf121
  v70:=Try.zeroValue121
  t76:=Try.underlying123
  a76:=Try.isAgg123
  z76:=Try.sizeOf123
  v76:=Try.zeroValue123
  t77:=Try.underlying124
  a77:=Try.isAgg124
  z77:=Try.sizeOf124
  v77:=Try.zeroValue124
theorem Ar{γ:aH}{J:cd->Prop}{w:World}{b:Nat}{cs:List Value}(h:Bx γ J w b cs):Bx c0 (is 0) w b cs:=⟨rfl,h.2⟩
/-- the order of the closure, on the places of a list of points -/
def fi{n:Nat}(x:Fin n):Int:=((x.val:Nat):Int)
noncomputable def cfF (o:Pt) (ps:List Pt) {n:Nat} (x y:Fin n):Int:=zy o ps (fi x) (fi y)
theorem A7{o:Pt}{ps:List Pt}{n:Nat}{x y:Fin n}:ltOf (cfF o ps) x y=true↔lY o ps (fi x) (fi y):=by
  unfold ltOf cfF
  rw[decide_eq_true_iff];exact yh
theorem uT{o:Pt}{ps:List Pt}{n:Nat}{x y:Fin n}:ltOf (cfF o ps) x y=false↔¬lY o ps (fi x) (fi y):=by
  rw[<-A7];simp
theorem Am{o:Pt}{ps:List Pt}{n:Nat}(hn:n=ps.length)(hz:jc o ps):SWO (α:=Fin n) (ltOf (cfF o ps)):=by
  have hb:∀x:Fin n,0<=fi x/\fi x<(ps.length:Int):=λx=>by have:=x.isLt;unfold fi;omega
  refine⟨λx=>uT.2 (fU _ _),λx y z h1 h2=>A7.2 (n8 hz (hb x) (hb y) (hb z) (A7.1 h1) (A7.1 h2)),λx y z h1 h2=>uT.2 λh=>?_⟩
  have h1:=uT.1 h1
  have h2:=uT.1 h2
  by_cases e1:fi x=fi y
  · unfold lY at*;rw[e1] at h;exact h2 h
  · by_cases e2:fi y=fi z
    · unfold lY at*;rw[<-e2] at h;exact h1 h
    · have a1:lY o ps (fi y) (fi x):=(kR e1).resolve_left h1
      have a2:lY o ps (fi z) (fi y):=(kR e2).resolve_left h2
      exact tV hz (hb x) (hb z) h (n8 hz (hb z) (hb y) (hb x) a2 a1)
theorem tw(n:Nat):(List.finRange n).map fi=fX n:=by
  apply List.ext_getElem?
  intro i
  by_cases h:i<n
  · simp[fX,fi,h]
  · simp[fX,h]
theorem uU{γ:aH}{w:World}{j j1 j2 j3:Nat}{v ps_v:Value}{xs:List Int}{ps:List Pt}{o:Pt}{bp bo:Nat}(hl:Ow γ (is j) (is j) w v xs)
    (h1:Bx γ (is j1) w bp [ps_v])(h2:Sl γ (is j2) w ps_v ps)(h3:Bx γ (is j3) w bo [Value.int .i64 o.1,Value.int .i64 o.2])
    (n1:∀c,is j1 c->¬is j c)(n2:∀c,is j2 c->¬is j c)(n3:∀c,is j3 c->¬is j c)(hx:xs=fX ps.length)(hz:jc o ps)(ho:cI o)(hps:dW ps):
    Calls Try.prog 34 (List.toArray [v,Value.func (.func 35) #[] (List.toArray [Value.pointer (some ⟨bp,0,none⟩),Value.pointer (some ⟨bo,0,none⟩)])]) w λe w'=>∃x:Unit,e= .returned ((λ_=>Value.tuple #[]) x)/\(λ(_:Unit) (w':World)=>b5 (is j) γ w γ w'/\Ow γ (is j) (is j) w' v (arL o ps)) x w':=by
  subst hx
  by_cases hn:ps.length=0
  · have e0:fX ps.length=[]:=by rw[hn];rfl
    rw[e0] at hl
    have ea:arL o ps=[]:=List.eq_nil_of_length_eq_zero ((r6 hz (Nat.le_refl _) (gE hz)).trans hn)
    obtain⟨p,c,hv⟩:∃p c,v=Value.slice p 0 c:=by
      rcases hl with⟨h,_⟩|⟨b,cap,c,e,h,_⟩
      · exact⟨_,_,h⟩
      · exact⟨_,_,h⟩
    have key:=AnyF.slices_SortFunc_none (P:=Try.prog) (ρ:=mw) {xV with} p c (.func (.func 35) #[] (List.toArray [Value.pointer (some ⟨bp,0,none⟩),Value.pointer (some ⟨bo,0,none⟩)])) w
    rw[<-hv] at key
    change Calls Try.prog 34 _ _ _ at key
    refine key.mono λe w' ⟨q1,q2⟩=>⟨(),q1,?_⟩
    subst q2
    rw[ea]
    exact⟨b5.refl _ _ _,hl⟩
  · obtain⟨m,hm⟩:∃m,ps.length=m+1:=⟨ps.length-1,by omega⟩
    have hl':Ow γ (is j) (is j) w v ((List.finRange (m+1)).map fi):=by rw[tw,<-hm];exact hl
    have hb:∀x:Fin (m+1),0<=fi x/\fi x<(ps.length:Int):=λx=>by have:=x.isLt;unfold fi;omega
    have key:=sB xV (α:=Fin (m+1)) fi (cfF o ps) (Am hm.symm hz) 35 (List.toArray [Value.pointer (some ⟨bp,0,none⟩),Value.pointer (some ⟨bo,0,none⟩)]) (enters_of Try.func35 (by kernel_rfl) rfl)
      (λh=>by have:=congrArg List.length h;simp at this) hl' λW hW x y=>by
        have h:=pW W (fi x) (fi y) ps ps_v (h2.chg hW n2).ro bp (Ar (h1.chg hW n1)) o bo (Ar (h3.chg hW n3)) (hb x) (hb y) ho hps
        have e:(#[Value.int .i64 (fi x),Value.int .i64 (fi y)]++(List.toArray [Value.pointer (some ⟨bp,0,none⟩),Value.pointer (some ⟨bo,0,none⟩)]):Array Value)=List.toArray [Value.int .i64 (fi x),Value.int .i64 (fi y),Value.pointer (some ⟨bp,0,none⟩),Value.pointer (some ⟨bo,0,none⟩)]:=by simp
        rw[e];exact h
    change Calls Try.prog 34 _ _ _ at key
    refine key.mono λe w' ⟨q1,ds',hp,hs,hc,ho'⟩=>⟨(),q1,hc,?_⟩
    have:ds'.map fi=arL o ps:=by
      refine oQ hz ?_ ?_
      · rw[hm,<-tw];exact hp.map _
      · exact List.Pairwise.map _ (λa b h=>uT.1 h) hs
    rw[<-this];exact ho'
end TL
