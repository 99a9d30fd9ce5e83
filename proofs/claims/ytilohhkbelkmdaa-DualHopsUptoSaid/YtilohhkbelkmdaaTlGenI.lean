import Derived.Test.YtilohhkbelkmdaaTlGenA
import Derived.Test.YtilohhkbelkmdaaTlGenQ
import Derived.Test.YtilohhkbelkmdaaTlP3
import Derived.Test.YtilohhkbelkmdaaProg
set_option linter.all false
set_option maxRecDepth 20000
namespace TL
open Go Go.Proofs
theorem rTwin_ok (w0 : World) (h : Int) (hh : 0 ≤ h ∧ h < 1000000) :
    Calls Try.prog 27 #[Value.int .i64 h] w0 (fun ee w => ee = .returned (Value.int .i64 (twin h)) ∧ Bel w0.heap.size w0 w) := by
 refine calls_of_run Try.func27 rfl (Nat.le_of_ble_eq_true rfl) ?_
 have hbase := Base.start w0
 obtain ⟨hh1, hh2⟩ := hh
 refine run_seq (run_region rfl ?_)
 refine l_val (v := Value.int .i64 0) rfl (e_assign rfl) ?_
 refine l_nil (run_seq (run_seq (run_region rfl ?_)))
 refine l_val (v := Value.int .i64 h) rfl (e_move rfl) ?_
 refine l_val (v := Value.int .i64 (h % 2)) rfl (e_rem (m := h) (n := 2) rfl rfl (by omega) (by omega)) ?_
 refine l_val (v := Value.bool (decide ((h % 2) = 0))) rfl (e_eql (m := h % 2) (n := 0) rfl rfl) ?_
 refine l_nil ?_
 by_cases p1 : (h % 2) = 0
 ·
  refine run_cond_t rfl (decide_eq_true p1) ?_
  refine run_seq (run_region rfl ?_)
  refine l_val (v := Value.int .i64 h) rfl (e_move rfl) ?_
  refine l_val (v := Value.int .i64 (h + 1)) rfl (e_add (m := h) (n := 1) rfl rfl (by omega)) ?_
  refine l_val (v := Value.int .i64 (h + 1)) rfl (e_assign rfl) ?_
  refine l_nil ?_
  refine run_ret (vs := [Value.int .i64 (h + 1)]) Try.func27 (.tmp rfl .nil) ?_
  -- return 0
  have e0 : (h + 1 : Int) = (twin h) := by
    first
      | (rw [twin, if_pos (by assumption)]; done)
      | (rw [twin, if_neg (by assumption)]; done)
  exact ⟨(congrArg (a₁ := h + 1) (fun (z0 : Int) => Ending.returned (Value.int .i64 z0)) e0), hbase.below⟩
 refine run_cond_f rfl (decide_eq_false p1) ?_
 refine run_skip ?_
 refine run_seq (run_region rfl ?_)
 refine l_val (v := Value.int .i64 h) rfl (e_move rfl) ?_
 refine l_val (v := Value.int .i64 (h - 1)) rfl (e_sub (m := h) (n := 1) rfl rfl (by omega)) ?_
 refine l_val (v := Value.int .i64 (h - 1)) rfl (e_assign rfl) ?_
 refine l_nil ?_
 refine run_ret (vs := [Value.int .i64 (h - 1)]) Try.func27 (.tmp rfl .nil) ?_
 -- return 1
 have e0 : (h - 1 : Int) = (twin h) := by
   first
     | (rw [twin, if_pos (by assumption)]; done)
     | (rw [twin, if_neg (by assumption)]; done)
 exact ⟨(congrArg (a₁ := h - 1) (fun (z0 : Int) => Ending.returned (Value.int .i64 z0)) e0), hbase.below⟩
end TL
