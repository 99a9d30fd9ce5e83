/-
  TlSortB: the library's sort of pairs, laid at this program.
  By an AI agent.
-/
import Derived.Test.YtgneelmmomohdaaSaTlP5
import Derived.Test.YtgneelmmomohdaaProg
import Derived.Test.YtgneelmmomohdaaSaTlAli
import Derived.Shelf.SlSortCmp.NoneTotal
import Derived.Test.YtgneelmmomohdaaSaTlSpQ
set_option linter.all false
namespace TL
open Go Go.Proofs Go.Shelf Go.Sort Go.Lib
def lL:Go.Shelf.Ren:=⟨λ|6=>35|15=>61|14=>60|28=>85|29=>86|20=>77|21=>78|22=>79|23=>80|24=>81|25=>82|26=>83|27=>84|46=>95|47=>96|48=>97|49=>98|50=>99|57=>102|n=>n,λ|22=>22|24=>52|25=>62|3=>3|39=>87|0=>0|53=>115|55=>117|4=>4|46=>109|45=>108|50=>84|5=>5|9=>9|66=>132|70=>136|76=>138|77=>139|n=>n,λ|n=>n⟩
theorem Bm:Go.Proofs.SlLaysF0.n6 Try.prog lL where
  mixed:=by kernel_rfl
  f6:=⟨Try.f35.name,by decide+kernel,Try.func35.trans (congrArg some (by kernel_rfl))⟩
  f14:=⟨Try.f60.name,by decide+kernel,Try.func60.trans (congrArg some (by kernel_rfl))⟩
  f15:=Try.func61.trans (congrArg some (by kernel_rfl))
  f20:=⟨Try.f77.name,by decide+kernel,Try.func77.trans (congrArg some (by kernel_rfl))⟩
  f21:=⟨Try.f78.name,by decide+kernel,Try.func78.trans (congrArg some (by kernel_rfl))⟩
  f22:=⟨Try.f79.name,by decide+kernel,Try.func79.trans (congrArg some (by kernel_rfl))⟩
  f23:=⟨Try.f80.name,by decide+kernel,Try.func80.trans (congrArg some (by kernel_rfl))⟩
  f24:=⟨Try.f81.name,by decide+kernel,Try.func81.trans (congrArg some (by kernel_rfl))⟩
  f25:=⟨Try.f82.name,by decide+kernel,Try.func82.trans (congrArg some (by kernel_rfl))⟩
  f26:=⟨Try.f83.name,by decide+kernel,Try.func83.trans (congrArg some (by kernel_rfl))⟩
  f27:=⟨Try.f84.name,by decide+kernel,Try.func84.trans (congrArg some (by kernel_rfl))⟩
  f28:=Try.func85.trans (congrArg some (by kernel_rfl))
  f29:=Try.func86.trans (congrArg some (by kernel_rfl))
  f46:=⟨Try.f95.name,by decide+kernel,Try.func95.trans (congrArg some (by kernel_rfl))⟩
  f47:=Try.func96.trans (congrArg some (by kernel_rfl))
  f48:=Try.func97.trans (congrArg some (by kernel_rfl))
  f49:=⟨Try.f98.name,by decide+kernel,Try.func98.trans (congrArg some (by kernel_rfl))⟩
  f50:=⟨Try.f99.name,by decide+kernel,Try.func99.trans (congrArg some (by kernel_rfl))⟩
  f57:=⟨Try.f102.name,by decide+kernel,Try.func102.trans (congrArg some (by kernel_rfl))⟩
  t0:=U0
  a0:=Try.isAgg0
  z0:=Try.sizeOf0
  v0:=Try.zeroValue0
  t3:=U3
  a3:=Try.isAgg3
  z3:=Try.sizeOf3
  v3:=Try.zeroValue3
  t4:=U4
  a4:=Try.isAgg4
  z4:=Try.sizeOf4
  v4:=Try.zeroValue4
  t5:=U5
  a5:=Try.isAgg5
  z5:=Try.sizeOf5
  v5:=Try.zeroValue5
  t9:=U9
  a9:=Try.isAgg9
  z9:=Try.sizeOf9
  v9:=Try.zeroValue9
  t22:=dc
  a22:=Try.isAgg22
  z22:=Try.sizeOf22
  v22:=Try.zeroValue22
  t25:=DG
  a25:=Try.isAgg62
  z25:=Try.sizeOf62
  v25:=Try.zeroValue62
  t39:=DO
  a39:=Try.isAgg87
  z39:=Try.sizeOf87
  v39:=Try.zeroValue87
  t45:=Dh
  a45:=Try.isAgg108
  z45:=Try.sizeOf108
  v45:=Try.zeroValue108
  t46:=Du
  a46:=Try.isAgg109
  z46:=Try.sizeOf109
  v46:=Try.zeroValue109
  t50:=DK
  a50:=Try.isAgg84
  z50:=Try.sizeOf84
  v50:=Try.zeroValue84
  t53:=Dt
  a53:=Try.isAgg115
  z53:=Try.sizeOf115
  v53:=Try.zeroValue115
  t55:=Df
  a55:=Try.isAgg117
  z55:=Try.sizeOf117
  v55:=Try.zeroValue117
  t66:=Dk
  a66:=Try.isAgg132
  z66:=Try.sizeOf132
  v66:=Try.zeroValue132
  t70:=Dm
  a70:=Try.isAgg136
  z70:=Try.sizeOf136
  v70:=Try.zeroValue136
  t76:=Dw
  a76:=Try.isAgg138
  z76:=Try.sizeOf138
  v76:=Try.zeroValue138
  t77:=Dj
  a77:=Try.isAgg139
  z77:=Try.sizeOf139
  v77:=Try.zeroValue139
theorem AM{x y:Int×Int}:oz x y<0↔l7 x y:=by
  unfold oz l7
  simp only[zs,eX]
  by_cases a:x.1<y.1
  · simp[a]
  · by_cases b:y.1<x.1
    · simp[a,b];omega
    · have e:x.1=y.1:=by omega
      by_cases c:x.2<y.2
      · simp[e,c]
      · by_cases d:y.2<x.2
        · simp[e,c,d]
        · simp[e,c,d]
theorem Db{x y:Int×Int}:ltOf oz x y=true↔l7 x y:=by
  unfold ltOf
  rw[decide_eq_true_iff];exact AM
theorem xR{x y:Int×Int}:ltOf oz x y=false↔¬l7 x y:=by rw[<-Db];simp
theorem Di:SWO (ltOf oz):=⟨λx=>xR.2 mD,λx y z h1 h2=>Db.2 (sN (Db.1 h1) (Db.1 h2)),λx y z h1 h2=>xR.2 λh=>uw (xR.1 h2) (xR.1 h1) h⟩
theorem rM{γ:aG}{w:World}{j:Nat}{v:Value}{xs:List (Int×Int)}(hl:Ow γ (is j) (is j) w v xs):
    Calls Try.prog 35 (List.toArray [v,Value.func (.func 36) #[] #[]]) w λe w'=>∃x:Unit,e= .returned ((λ_=>Value.tuple #[]) x)/\(λ(_:Unit) (w':World)=>bD (is j) γ w γ w'/\Ow γ (is j) (is j) w' v (jL xs)) x w':=by
  by_cases hn:xs=[]
  · subst hn
    obtain⟨p,c,hv⟩:∃p c,v=Value.slice p 0 c:=by
      rcases hl with⟨h,_⟩|⟨b,cap,c,e,h,_⟩
      · exact⟨_,_,h⟩
      · exact⟨_,_,h⟩
    have key:=AnyF.slices_SortFunc_none (P:=Try.prog) (ρ:=lL) {Bm with} p c (.func (.func 36) #[] #[]) w
    rw[<-hv] at key
    change Calls Try.prog 35 _ _ _ at key
    refine key.mono λe w' ⟨q1,q2⟩=>⟨(),q1,?_⟩
    subst q2
    exact⟨bD.refl _ _ _,hl⟩
  · have key:=tt (P:=Try.prog) (ρ:=lL) {Bm with} (λw=>Try.isAgg52 w) (λw=>Try.sizeOf52 w) oz Di 36 #[] (enters_of Try.func36 (by kernel_rfl) rfl) hn hl λW hW x y=>by
        have h:=A4 W x y
        have e:(#[.agg (gW x).toArray,.agg (gW y).toArray]++ #[]:Array Value)=List.toArray [.agg (gW x).toArray,.agg (gW y).toArray]:=by simp
        rw[e];exact h
    change Calls Try.prog 35 _ _ _ at key
    refine key.mono λe w' ⟨q1,ds',hp,hs,hc,ho'⟩=>⟨(),q1,hc,?_⟩
    have:ds'=jL xs:=AK hp (hs.imp λh=>xR.1 h)
    rw[<-this];exact ho'
end TL
