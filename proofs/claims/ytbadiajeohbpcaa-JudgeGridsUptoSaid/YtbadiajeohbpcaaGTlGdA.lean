import Derived.Test.YtbadiajeohbpcaaGTlP2
import Derived.Test.YtbadiajeohbpcaaGTlGenX
import Derived.Test.YtbadiajeohbpcaaGTlGenY
import Derived.Test.YtbadiajeohbpcaaGTlGenO
import Derived.Test.YtbadiajeohbpcaaProg
set_option linter.all false
set_option maxRecDepth 20000
namespace TL
open Go Go.Proofs
theorem fp (w0 : World) (s : List Int) (s_v : Value) (hs_v : Ro w0 s_v s) (v : Int) :
    Calls Try.prog 96 #[s_v, vi v] w0 (fun ee w => ee = .returned (Value.bool (decide (v ∈ s))) ∧ cQ w0.heap.size w0 w) := by
 refine aC Try.func96 rfl (Nat.le_of_ble_eq_true rfl) ?_
 have bH := bf.start w0
 have Rs := hs_v.sl
 refine a7 (a6 rfl (ma (Value.bool false) (aa (a7 (a6 rfl (mv s_v (mi v (lo (aF (v := vi (cY s v)) (aw (vals := [s_v, vi v]) Try.func75 nI oG rfl) (jP w0 s s_v (Rs).ro v) ?_)))))))))
 intro w1 hb2
 replace hb2 := ak hb2 c0
 refine lx (gD (m := cY s v) (n := 0) rfl rfl) (ma (Value.bool (decide (0 ≤ (cY s v)))) (aa (al (vs := [Value.bool (decide (0 ≤ (cY s v)))]) Try.func96 (.tmp rfl .nil) ?_)))
 have e0 : (decide (0 ≤ (cY s v)) : Bool) = (decide (v ∈ s)) := by
   exact nQ
 replace bH := bH.cn hb2
 exact ⟨(congrArg (a₁ := decide (0 ≤ (cY s v))) (fun (z0 : Bool) => Ending.returned (Value.bool z0)) e0), bH.below⟩
end TL
