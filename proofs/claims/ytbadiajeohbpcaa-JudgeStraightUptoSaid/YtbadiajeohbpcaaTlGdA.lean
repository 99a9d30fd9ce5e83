import Derived.Test.YtbadiajeohbpcaaTlP2
import Derived.Test.YtbadiajeohbpcaaTlGenX
import Derived.Test.YtbadiajeohbpcaaTlGenY
import Derived.Test.YtbadiajeohbpcaaTlGenO
import Derived.Test.YtbadiajeohbpcaaProg
set_option linter.all false
set_option maxRecDepth 20000
namespace TL
open Go Go.Proofs
theorem fC (w0 : World) (s : List Int) (s_v : Value) (hs_v : Ro w0 s_v s) (v : Int) :
    Calls Try.prog 96 #[s_v, vi v] w0 (fun ee w => ee = .returned (Value.bool (decide (v ∈ s))) ∧ dh w0.heap.size w0 w) := by
 refine aE Try.func96 rfl (Nat.le_of_ble_eq_true rfl) ?_
 have bH := bh.start w0
 have Rs := hs_v.sl
 refine a7 (a6 rfl (ma (Value.bool false) (ab (a7 (a6 rfl (mv s_v (mi v (lo (aH (v := vi (cZ s v)) (aA (vals := [s_v, vi v]) Try.func75 pe nX rfl) (kC w0 s s_v (Rs).ro v) ?_)))))))))
 intro w1 hb2
 replace hb2 := am hb2 c0
 refine lx (eZ (m := cZ s v) (n := 0) rfl rfl) (ma (Value.bool (decide (0 ≤ (cZ s v)))) (ab (ar (vs := [Value.bool (decide (0 ≤ (cZ s v)))]) Try.func96 (.tmp rfl .nil) ?_)))
 have e0 : (decide (0 ≤ (cZ s v)) : Bool) = (decide (v ∈ s)) := by
   exact oY
 replace bH := bH.cn hb2
 exact ⟨(congrArg (a₁ := decide (0 ≤ (cZ s v))) (fun (z0 : Bool) => Ending.returned (Value.bool z0)) e0), bH.below⟩
end TL
