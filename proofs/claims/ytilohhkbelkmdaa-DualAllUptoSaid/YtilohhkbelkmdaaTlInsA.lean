/-
  TlInsA: the library's Insert, laid at this program.
  By an AI agent.
-/
import Derived.Test.YtilohhkbelkmdaaProg
import Derived.Test.YtilohhkbelkmdaaTlP3
set_option linter.all false
namespace TL
open Go Go.Proofs Go.Shelf
def s8 : Go.Shelf.Ren := ⟨fun | 21 => 100 | 27 => 110 | 28 => 111 | 35 => 112 | 39 => 88 | n => n, fun | 0 => 0 | 3 => 3 | 4 => 4 | 22 => 27 | n => n, fun n => n⟩
theorem wf : Go.Proofs.Lays2.n21 Try.prog s8 where
  mixed := by kernel_rfl
  f21 := Try.func100.trans (congrArg some (by kernel_rfl))
  f27 := Try.func110.trans (congrArg some (by kernel_rfl))
  f28 := Try.func111.trans (congrArg some (by kernel_rfl))
  f35 := Try.func112.trans (congrArg some (by kernel_rfl))
  f39 := Try.func88.trans (congrArg some (by kernel_rfl))
  t0 := Try.underlying0
  a0 := Try.isAgg0
  z0 := Try.sizeOf0
  v0 := Try.zeroValue0
  t3 := Try.underlying3
  a3 := Try.isAgg3
  z3 := Try.sizeOf3
  v3 := Try.zeroValue3
  t4 := Try.underlying4
  a4 := Try.isAgg4
  z4 := Try.sizeOf4
  v4 := Try.zeroValue4
  t22 := Try.underlying27
  a22 := Try.isAgg27
  z22 := Try.sizeOf27
  v22 := Try.zeroValue27
  i3 := by kernel_rfl
end TL
