/-
  TlSortS: the library's Sort, Compact and BinarySearch of numbers, laid at this program.
  By an AI agent.
-/
import Derived.Test.YtfpckpgnnplhnaaGreatSwTlAli
set_option linter.all false
namespace TL
open Go Go.Proofs Go.Shelf Go.Sort Go.Lib
def sc:Go.Shelf.Ren:=⟨λ|189=>84|125=>91|257=>96|128=>111|129=>112|294=>125|295=>126|296=>127|297=>128|298=>129|299=>130|216=>97|300=>131|301=>132|328=>148|329=>140|330=>141|331=>149|332=>150|215=>92|343=>158|n=>n,λ|28=>38|3=>3|46=>139|0=>0|51=>155|53=>157|4=>4|183=>149|182=>148|131=>96|5=>5|9=>9|218=>179|222=>183|228=>197|229=>198|n=>n,λ|n=>n⟩
theorem Ds:Go.Proofs.Lays.n189 Tryz.prog sc where
  mixed:=by kernel_rfl
  f125:=Tryz.func91.trans (congrArg some (by kernel_rfl))
  f128:=Tryz.func111.trans (congrArg some (by kernel_rfl))
  f129:=Tryz.func112.trans (congrArg some (by kernel_rfl))
  f189:=Tryz.func84.trans (congrArg some (by kernel_rfl))
  f215:=Tryz.func92.trans (congrArg some (by kernel_rfl))
  f216:=Tryz.func97.trans (congrArg some (by kernel_rfl))
  f257:=Tryz.func96.trans (congrArg some (by kernel_rfl))
  f294:=Tryz.func125.trans (congrArg some (by kernel_rfl))
  f295:=Tryz.func126.trans (congrArg some (by kernel_rfl))
  f296:=Tryz.func127.trans (congrArg some (by kernel_rfl))
  f297:=Tryz.func128.trans (congrArg some (by kernel_rfl))
  f298:=Tryz.func129.trans (congrArg some (by kernel_rfl))
  f299:=Tryz.func130.trans (congrArg some (by kernel_rfl))
  f300:=Tryz.func131.trans (congrArg some (by kernel_rfl))
  f301:=Tryz.func132.trans (congrArg some (by kernel_rfl))
  f328:=Tryz.func148.trans (congrArg some (by kernel_rfl))
  f329:=Tryz.func140.trans (congrArg some (by kernel_rfl))
  f330:=Tryz.func141.trans (congrArg some (by kernel_rfl))
  f331:=Tryz.func149.trans (congrArg some (by kernel_rfl))
  f332:=Tryz.func150.trans (congrArg some (by kernel_rfl))
  f343:=Tryz.func158.trans (congrArg some (by kernel_rfl))
  t0:=U0
  a0:=Tryz.isAgg0
  z0:=Tryz.sizeOf0
  v0:=Tryz.zeroValue0
  t3:=U3
  a3:=Tryz.isAgg3
  z3:=Tryz.sizeOf3
  v3:=Tryz.zeroValue3
  t4:=U4
  a4:=Tryz.isAgg4
  z4:=Tryz.sizeOf4
  v4:=Tryz.zeroValue4
  t5:=U5
  a5:=Tryz.isAgg5
  z5:=Tryz.sizeOf5
  v5:=Tryz.zeroValue5
  t9:=U9
  a9:=Tryz.isAgg9
  z9:=Tryz.sizeOf9
  v9:=Tryz.zeroValue9
  t28:=bF
  a28:=Tryz.isAgg38
  z28:=Tryz.sizeOf38
  v28:=Tryz.zeroValue38
  t46:=BF
  a46:=Tryz.isAgg139
  z46:=Tryz.sizeOf139
  v46:=Tryz.zeroValue139
  t51:=Eo
  a51:=Tryz.isAgg155
  z51:=Tryz.sizeOf155
  v51:=Tryz.zeroValue155
  t53:=DB
  a53:=Tryz.isAgg157
  z53:=Tryz.sizeOf157
  v53:=Tryz.zeroValue157
  t131:=FG
  a131:=Tryz.isAgg96
  z131:=Tryz.sizeOf96
  v131:=Tryz.zeroValue96
  t182:=Ee
  a182:=Tryz.isAgg148
  z182:=Tryz.sizeOf148
  v182:=Tryz.zeroValue148
  t183:=EF
  a183:=Tryz.isAgg149
  z183:=Tryz.sizeOf149
  v183:=Tryz.zeroValue149
  t218:=Eg
  a218:=Tryz.isAgg179
  z218:=Tryz.sizeOf179
  v218:=Tryz.zeroValue179
  t222:=Ew
  a222:=Tryz.isAgg183
  z222:=Tryz.sizeOf183
  v222:=Tryz.zeroValue183
  t228:=El
  a228:=Tryz.isAgg197
  z228:=Tryz.sizeOf197
  v228:=Tryz.zeroValue197
  t229:=Ex
  a229:=Tryz.isAgg198
  z229:=Tryz.sizeOf198
  v229:=Tryz.zeroValue198
def uR:Go.Shelf.Ren:=⟨λ|20=>85|n=>n,λ|22=>38|3=>3|4=>4|0=>0|n=>n,λ|n=>n⟩
theorem Es:Go.Proofs.Lays2.n20 Tryz.prog uR where
  mixed:=by kernel_rfl
  f20:=Tryz.func85.trans (congrArg some (by kernel_rfl))
  t0:=U0
  a0:=Tryz.isAgg0
  z0:=Tryz.sizeOf0
  v0:=Tryz.zeroValue0
  t3:=U3
  a3:=Tryz.isAgg3
  z3:=Tryz.sizeOf3
  v3:=Tryz.zeroValue3
  t4:=U4
  a4:=Tryz.isAgg4
  z4:=Tryz.sizeOf4
  v4:=Tryz.zeroValue4
  t22:=bF
  a22:=Tryz.isAgg38
  z22:=Tryz.sizeOf38
  v22:=Tryz.zeroValue38
  i3:=by kernel_rfl
def uE:Go.Shelf.Ren:=⟨λ|25=>86|31=>97|32=>98|37=>92|n=>n,λ|22=>38|3=>3|4=>4|40=>139|0=>0|n=>n,λ|n=>n⟩
theorem EA:Go.Proofs.Lays2.n25 Tryz.prog uE where
  mixed:=by kernel_rfl
  f25:=Tryz.func86.trans (congrArg some (by kernel_rfl))
  f31:=Tryz.func97.trans (congrArg some (by kernel_rfl))
  f32:=Tryz.func98.trans (congrArg some (by kernel_rfl))
  f37:=Tryz.func92.trans (congrArg some (by kernel_rfl))
  t0:=U0
  a0:=Tryz.isAgg0
  z0:=Tryz.sizeOf0
  v0:=Tryz.zeroValue0
  t3:=U3
  a3:=Tryz.isAgg3
  z3:=Tryz.sizeOf3
  v3:=Tryz.zeroValue3
  t4:=U4
  a4:=Tryz.isAgg4
  z4:=Tryz.sizeOf4
  v4:=Tryz.zeroValue4
  t22:=bF
  a22:=Tryz.isAgg38
  z22:=Tryz.sizeOf38
  v22:=Tryz.zeroValue38
  t40:=BF
  a40:=Tryz.isAgg139
  z40:=Tryz.sizeOf139
  v40:=Tryz.zeroValue139
theorem Aj{γ:ax}{w:World}{j:Nat}{v:Value}{xs ys:List Int}(hl:Ow γ (is j) (is j) w v xs)(h0:xs≠[])(he:(xs.mergeSort λx y=>decide (x<=y))=ys):
    Calls Tryz.prog 84 (List.toArray [v]) w λe w'=>∃x:Unit,e= .returned ((λ_=>Value.tuple #[]) x)/\(λ(_:Unit) (w':World)=>bg (is j) γ w γ w'/\Ow γ (is j) (is j) w' v ys) x w':=by
  subst he
  have key:=Ct Ds hl h0
  change Calls Tryz.prog 84 _ _ _ at key
  exact key.mono λe w' ⟨q1,q2,q3⟩=>⟨(),q1,q2,q3⟩
theorem zd{γ:ax}{w:World}{j:Nat}{v:Value}{xs ys:List Int}(hl:Ow γ (is j) (is j) w v xs)(he:compact xs=ys):
    Calls Tryz.prog 85 (List.toArray [v]) w λe w'=>∃x:Value,e= .returned ((λx=>x) x)/\(λ(x:Value) (w':World)=>bg (is j) γ w γ w'/\Ow γ (is j) (is j) w' x ys) x w':=by
  subst he
  have key:=om Es hl
  change Calls Tryz.prog 85 _ _ _ at key
  exact key.mono λe w' ⟨x,q1,q2⟩=>⟨x,q1,q2⟩
theorem Ac(w0:World)(l:List Int)(l_v:Value)(hl_v:Ro w0 l_v l)(x:Int)(h0:0<(l.length:Int))(hs:l.Pairwise (· < ·)):
    Calls Tryz.prog 86 (List.toArray [l_v,vi x]) w0 λe w'=>e= .returned (vt [vi (eH l x),vb (decide (x∈l))])/\eK w0.heap.size w0 w':=by
  have key:=qe EA x hl_v (by omega) hs
  change Calls Tryz.prog 86 _ _ _ at key
  exact key
end TL
