/-
  TlSortB: the library's sort of pairs, laid at this program.
  By an AI agent.
-/
import Derived.Test.YtmakonaaojadbaaBaTlP4
import Derived.Test.YtmakonaaojadbaaProg
import Derived.Test.YtmakonaaojadbaaBaTlAli
import Derived.Shelf.SlSortCmp.NoneTotal
import Derived.Test.YtmakonaaojadbaaBaTlCtC
set_option linter.all false
namespace TL
open Go Go.Proofs Go.Shelf Go.Sort Go.Lib
def js:Go.Shelf.Ren:=⟨λ|6=>38|15=>57|14=>56|28=>73|29=>74|20=>65|21=>66|22=>67|23=>68|24=>69|25=>70|26=>71|27=>72|46=>82|47=>83|48=>84|49=>85|50=>86|57=>87|n=>n,λ|22=>22|24=>56|25=>70|3=>3|39=>89|0=>0|53=>105|55=>107|4=>4|46=>99|45=>98|50=>96|5=>5|9=>9|66=>111|70=>115|76=>117|77=>118|n=>n,λ|n=>n⟩
theorem tF:Go.Proofs.SlLaysF0.n6 Try.prog js where
  mixed:=by kernel_rfl
  f6:=⟨Try.f38.name,by decide+kernel,Try.func38.trans (congrArg some (by kernel_rfl))⟩
  f14:=⟨Try.f56.name,by decide+kernel,Try.func56.trans (congrArg some (by kernel_rfl))⟩
  f15:=Try.func57.trans (congrArg some (by kernel_rfl))
  f20:=⟨Try.f65.name,by decide+kernel,Try.func65.trans (congrArg some (by kernel_rfl))⟩
  f21:=⟨Try.f66.name,by decide+kernel,Try.func66.trans (congrArg some (by kernel_rfl))⟩
  f22:=⟨Try.f67.name,by decide+kernel,Try.func67.trans (congrArg some (by kernel_rfl))⟩
  f23:=⟨Try.f68.name,by decide+kernel,Try.func68.trans (congrArg some (by kernel_rfl))⟩
  f24:=⟨Try.f69.name,by decide+kernel,Try.func69.trans (congrArg some (by kernel_rfl))⟩
  f25:=⟨Try.f70.name,by decide+kernel,Try.func70.trans (congrArg some (by kernel_rfl))⟩
  f26:=⟨Try.f71.name,by decide+kernel,Try.func71.trans (congrArg some (by kernel_rfl))⟩
  f27:=⟨Try.f72.name,by decide+kernel,Try.func72.trans (congrArg some (by kernel_rfl))⟩
  f28:=Try.func73.trans (congrArg some (by kernel_rfl))
  f29:=Try.func74.trans (congrArg some (by kernel_rfl))
  f46:=⟨Try.f82.name,by decide+kernel,Try.func82.trans (congrArg some (by kernel_rfl))⟩
  f47:=Try.func83.trans (congrArg some (by kernel_rfl))
  f48:=Try.func84.trans (congrArg some (by kernel_rfl))
  f49:=⟨Try.f85.name,by decide+kernel,Try.func85.trans (congrArg some (by kernel_rfl))⟩
  f50:=⟨Try.f86.name,by decide+kernel,Try.func86.trans (congrArg some (by kernel_rfl))⟩
  f57:=⟨Try.f87.name,by decide+kernel,Try.func87.trans (congrArg some (by kernel_rfl))⟩
  t0:=U0
  a0:=Try.isAgg0
  z0:=Try.sizeOf0
  v0:=Try.zeroValue0
  t3:=U3
  a3:=Try.isAgg3
  z3:=Try.sizeOf3
  v3:=Try.zeroValue3
  t4:=U4
  a4:=Try.isAgg4
  z4:=Try.sizeOf4
  v4:=Try.zeroValue4
  t5:=U5
  a5:=Try.isAgg5
  z5:=Try.sizeOf5
  v5:=Try.zeroValue5
  t9:=U9
  a9:=Try.isAgg9
  z9:=Try.sizeOf9
  v9:=Try.zeroValue9
  t22:=dD
  a22:=Try.isAgg22
  z22:=Try.sizeOf22
  v22:=Try.zeroValue22
  t25:=vK
  a25:=Try.isAgg70
  z25:=Try.sizeOf70
  v25:=Try.zeroValue70
  t39:=vP
  a39:=Try.isAgg89
  z39:=Try.sizeOf89
  v39:=Try.zeroValue89
  t45:=vH
  a45:=Try.isAgg98
  z45:=Try.sizeOf98
  v45:=Try.zeroValue98
  t46:=vL
  a46:=Try.isAgg99
  z46:=Try.sizeOf99
  v46:=Try.zeroValue99
  t50:=vQ
  a50:=Try.isAgg96
  z50:=Try.sizeOf96
  v50:=Try.zeroValue96
  t53:=vo
  a53:=Try.isAgg105
  z53:=Try.sizeOf105
  v53:=Try.zeroValue105
  t55:=vy
  a55:=Try.isAgg107
  z55:=Try.sizeOf107
  v55:=Try.zeroValue107
  t66:=vf
  a66:=Try.isAgg111
  z66:=Try.sizeOf111
  v66:=Try.zeroValue111
  t70:=vv
  a70:=Try.isAgg115
  z70:=Try.sizeOf115
  v70:=Try.zeroValue115
  t76:=vh
  a76:=Try.isAgg117
  z76:=Try.sizeOf117
  v76:=Try.zeroValue117
  t77:=vw
  a77:=Try.isAgg118
  z77:=Try.sizeOf118
  v77:=Try.zeroValue118
theorem sT{x y:Int×Int}:mI x y<0↔jf x y:=by
  unfold mI jf
  simp only[eu,eQ]
  by_cases a:x.1<y.1
  · simp[a]
  · by_cases b:y.1<x.1
    · simp[a,b];omega
    · have e:x.1=y.1:=by omega
      by_cases c:x.2<y.2
      · simp[e,c]
      · by_cases d:y.2<x.2
        · simp[e,c,d]
        · simp[e,c,d]
theorem uX{x y:Int×Int}:ltOf mI x y=true↔jf x y:=by
  unfold ltOf
  rw[decide_eq_true_iff];exact sT
theorem rD{x y:Int×Int}:ltOf mI x y=false↔¬jf x y:=by rw[<-uX];simp
theorem vl:SWO (ltOf mI):=⟨λx=>rD.2 iV,λx y z h1 h2=>uX.2 (oe (uX.1 h1) (uX.1 h2)),λx y z h1 h2=>rD.2 λh=>oZ (rD.1 h2) (rD.1 h1) h⟩
theorem rt{γ:aJ}{w:World}{j:Nat}{v:Value}{xs:List (Int×Int)}(hl:Ow γ (is j) (is j) w v xs):
    Calls Try.prog 38 (List.toArray [v,Value.func (.func 39) #[] #[]]) w λe w'=>∃x:Unit,e= .returned ((λ_=>Value.tuple #[]) x)/\(λ(_:Unit) (w':World)=>bp (is j) γ w γ w'/\Ow γ (is j) (is j) w' v (gM xs)) x w':=by
  by_cases hn:xs=[]
  · subst hn
    obtain⟨p,c,hv⟩:∃p c,v=Value.slice p 0 c:=by
      rcases hl with⟨h,_⟩|⟨b,cap,c,e,h,_⟩
      · exact⟨_,_,h⟩
      · exact⟨_,_,h⟩
    have key:=AnyF.slices_SortFunc_none (P:=Try.prog) (ρ:=js) {tF with} p c (.func (.func 39) #[] #[]) w
    rw[<-hv] at key
    change Calls Try.prog 38 _ _ _ at key
    refine key.mono λe w' ⟨q1,q2⟩=>⟨(),q1,?_⟩
    subst q2
    exact⟨bp.refl _ _ _,hl⟩
  · have key:=nR (P:=Try.prog) (ρ:=js) {tF with} (λw=>Try.isAgg56 w) (λw=>Try.sizeOf56 w) mI vl 39 #[] (enters_of Try.func39 (by kernel_rfl) rfl) hn hl λW hW x y=>by
        have h:=rj W x y
        have e:(#[.agg (fO x).toArray,.agg (fO y).toArray]++ #[]:Array Value)=List.toArray [.agg (fO x).toArray,.agg (fO y).toArray]:=by simp
        rw[e];exact h
    change Calls Try.prog 38 _ _ _ at key
    refine key.mono λe w' ⟨q1,ds',hp,hs,hc,ho'⟩=>⟨(),q1,hc,?_⟩
    have:ds'=gM xs:=pB hp (hs.imp λh=>rD.1 h)
    rw[<-this];exact ho'
end TL
