/-
  TlSortE: the library's sort of bonds, laid at this program.
  By an AI agent.
-/
import Derived.Test.YtfpckpgnnplhnaaGreatSwTlAli
import Derived.Shelf.SlSortCmp.NoneTotal
import Derived.Test.YtfpckpgnnplhnaaGreatSwTlSqO
set_option linter.all false
namespace TL
open Go Go.Proofs Go.Shelf Go.Sort Go.Lib
def lD:Go.Shelf.Ren:=⟨λ|6=>77|15=>91|14=>93|28=>111|29=>112|20=>113|21=>114|22=>115|23=>116|24=>117|25=>118|26=>119|27=>120|46=>144|47=>140|48=>141|49=>145|50=>146|57=>157|n=>n,λ|22=>39|24=>57|25=>124|3=>3|39=>139|0=>0|53=>155|55=>157|4=>4|46=>149|45=>148|50=>96|5=>5|9=>9|66=>179|70=>183|76=>197|77=>198|n=>n,λ|n=>n⟩
theorem CP:Go.Proofs.SlLaysF0.n6 Tryz.prog lD where
  mixed:=by kernel_rfl
  f6:=⟨Tryz.f77.name,by decide+kernel,Tryz.func77.trans (congrArg some (by kernel_rfl))⟩
  f14:=⟨Tryz.f93.name,by decide+kernel,Tryz.func93.trans (congrArg some (by kernel_rfl))⟩
  f15:=Tryz.func91.trans (congrArg some (by kernel_rfl))
  f20:=⟨Tryz.f113.name,by decide+kernel,Tryz.func113.trans (congrArg some (by kernel_rfl))⟩
  f21:=⟨Tryz.f114.name,by decide+kernel,Tryz.func114.trans (congrArg some (by kernel_rfl))⟩
  f22:=⟨Tryz.f115.name,by decide+kernel,Tryz.func115.trans (congrArg some (by kernel_rfl))⟩
  f23:=⟨Tryz.f116.name,by decide+kernel,Tryz.func116.trans (congrArg some (by kernel_rfl))⟩
  f24:=⟨Tryz.f117.name,by decide+kernel,Tryz.func117.trans (congrArg some (by kernel_rfl))⟩
  f25:=⟨Tryz.f118.name,by decide+kernel,Tryz.func118.trans (congrArg some (by kernel_rfl))⟩
  f26:=⟨Tryz.f119.name,by decide+kernel,Tryz.func119.trans (congrArg some (by kernel_rfl))⟩
  f27:=⟨Tryz.f120.name,by decide+kernel,Tryz.func120.trans (congrArg some (by kernel_rfl))⟩
  f28:=Tryz.func111.trans (congrArg some (by kernel_rfl))
  f29:=Tryz.func112.trans (congrArg some (by kernel_rfl))
  f46:=⟨Tryz.f144.name,by decide+kernel,Tryz.func144.trans (congrArg some (by kernel_rfl))⟩
  f47:=Tryz.func140.trans (congrArg some (by kernel_rfl))
  f48:=Tryz.func141.trans (congrArg some (by kernel_rfl))
  f49:=⟨Tryz.f145.name,by decide+kernel,Tryz.func145.trans (congrArg some (by kernel_rfl))⟩
  f50:=⟨Tryz.f146.name,by decide+kernel,Tryz.func146.trans (congrArg some (by kernel_rfl))⟩
  f57:=⟨Tryz.f157.name,by decide+kernel,Tryz.func157.trans (congrArg some (by kernel_rfl))⟩
  t0:=U0
  a0:=Tryz.isAgg0
  z0:=Tryz.sizeOf0
  v0:=Tryz.zeroValue0
  t3:=U3
  a3:=Tryz.isAgg3
  z3:=Tryz.sizeOf3
  v3:=Tryz.zeroValue3
  t4:=U4
  a4:=Tryz.isAgg4
  z4:=Tryz.sizeOf4
  v4:=Tryz.zeroValue4
  t5:=U5
  a5:=Tryz.isAgg5
  z5:=Tryz.sizeOf5
  v5:=Tryz.zeroValue5
  t9:=U9
  a9:=Tryz.isAgg9
  z9:=Tryz.sizeOf9
  v9:=Tryz.zeroValue9
  t22:=DI
  a22:=Tryz.isAgg39
  z22:=Tryz.sizeOf39
  v22:=Tryz.zeroValue39
  t25:=EW
  a25:=Tryz.isAgg124
  z25:=Tryz.sizeOf124
  v25:=Tryz.zeroValue124
  t39:=BF
  a39:=Tryz.isAgg139
  z39:=Tryz.sizeOf139
  v39:=Tryz.zeroValue139
  t45:=Ee
  a45:=Tryz.isAgg148
  z45:=Tryz.sizeOf148
  v45:=Tryz.zeroValue148
  t46:=EF
  a46:=Tryz.isAgg149
  z46:=Tryz.sizeOf149
  v46:=Tryz.zeroValue149
  t50:=FG
  a50:=Tryz.isAgg96
  z50:=Tryz.sizeOf96
  v50:=Tryz.zeroValue96
  t53:=Eo
  a53:=Tryz.isAgg155
  z53:=Tryz.sizeOf155
  v53:=Tryz.zeroValue155
  t55:=DB
  a55:=Tryz.isAgg157
  z55:=Tryz.sizeOf157
  v55:=Tryz.zeroValue157
  t66:=Eg
  a66:=Tryz.isAgg179
  z66:=Tryz.sizeOf179
  v66:=Tryz.zeroValue179
  t70:=Ew
  a70:=Tryz.isAgg183
  z70:=Tryz.sizeOf183
  v70:=Tryz.zeroValue183
  t76:=El
  a76:=Tryz.isAgg197
  z76:=Tryz.sizeOf197
  v76:=Tryz.zeroValue197
  t77:=Ex
  a77:=Tryz.isAgg198
  z77:=Tryz.sizeOf198
  v77:=Tryz.zeroValue198
theorem yj{γ:ax}{w:World}{j:Nat}{v:Value}{xs:List Bd}(hl:Ow γ (is j) (is j) w v xs)(hq:(lq xs).Pairwise mI):
    Calls Tryz.prog 77 (List.toArray [v,Value.func (.func 78) #[] #[]]) w λe w'=>∃x:Unit,e= .returned ((λ_=>Value.tuple #[]) x)/\(λ(_:Unit) (w':World)=>bg (is j) γ w γ w'/\Ow γ (is j) (is j) w' v (lq xs)) x w':=by
  by_cases hn:xs=[]
  · subst hn
    obtain⟨p,c,hv⟩:∃p c,v=Value.slice p 0 c:=by
      rcases hl with⟨h,_⟩|⟨b,cap,c,e,h,_⟩
      · exact⟨_,_,h⟩
      · exact⟨_,_,h⟩
    have key:=AnyF.slices_SortFunc_none (P:=Tryz.prog) (ρ:=lD) {CP with} p c (.func (.func 78) #[] #[]) w
    rw[<-hv] at key
    change Calls Tryz.prog 77 _ _ _ at key
    refine key.mono λe w' ⟨q1,q2⟩=>⟨(),q1,?_⟩
    subst q2
    exact⟨bg.refl _ _ _,hl⟩
  · have key:=sj (P:=Tryz.prog) (ρ:=lD) {CP with} (λw=>Tryz.isAgg57 w) (λw=>Tryz.sizeOf57 w) oq Fn 78 #[] (enters_of Tryz.func78 (by kernel_rfl) rfl) hn hl λW hW x y=>by
        have h:=vv W x y
        have e:(#[.agg (hZ x).toArray,.agg (hZ y).toArray]++ #[]:Array Value)=List.toArray [.agg (hZ x).toArray,.agg (hZ y).toArray]:=by simp
        rw[e];exact h
    change Calls Tryz.prog 77 _ _ _ at key
    refine key.mono λe w' ⟨q1,ds',hp,hs,hc,ho'⟩=>⟨(),q1,hc,?_⟩
    have:ds'=lq xs:=Br hp (hs.imp λh=>yx.1 h) hq
    rw[<-this];exact ho'
end TL
