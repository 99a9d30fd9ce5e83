import Derived.Test.YtifpjbjhkabhgaaTlGmA
import Derived.Test.YtifpjbjhkabhgaaTlAround
import Derived.Test.YtifpjbjhkabhgaaProg
import Derived.Test.YtifpjbjhkabhgaaTlNet2
import Derived.Test.YtifpjbjhkabhgaaTlEq
import Derived.Test.YtifpjbjhkabhgaaTlHold
import Derived.Test.YtifpjbjhkabhgaaTlDraw
import Derived.Test.YtifpjbjhkabhgaaTlMap
set_option linter.all false
set_option maxRecDepth 20000
namespace TL
open Go Go.Proofs
theorem mixed_gj : Try.prog.follows .mixedOrders = true := by kernel_rfl
theorem tp3_gj : Tp Try.prog 3 false 1 8 (.int .i64 0) := Tp.of (by kernel_rfl)

theorem L2half_ok (w0 : World) (o : (Int) × (Int)) (p : (Int) × (Int)) :
    Calls Try.prog 22 #[Value.agg (List.toArray [Value.int .i64 o.1, Value.int .i64 o.2]), Value.agg (List.toArray [Value.int .i64 p.1, Value.int .i64 p.2])] w0 (fun ee w => ee = .returned (Value.int .i64 (halfS (mns p o))) ∧ Bel w0.heap.size w0 w) := by
 refine calls_of_run Try.func22 rfl (Nat.le_of_ble_eq_true rfl) ?_
 have hbase := Base.start w0
 refine run_seq (run_region rfl (l_op rfl ?_))
 refine o_box c0 (is 1) (1, 0) rfl rfl ?_
 intro g4 w1 b3 ch2 bx5
 replace bx5 : Bx g4 (is 1) w1 b3 [Value.int .i64 o.1, Value.int .i64 o.2] := bx5
 refine l_op rfl ?_
 refine o_box g4 (is 2) (2, 0) rfl rfl ?_
 intro g9 w6 b8 ch7 bx10
 replace bx10 : Bx g9 (is 2) w6 b8 [Value.int .i64 p.1, Value.int .i64 p.2] := bx10
 refine l_val (v := Value.int .i64 0) rfl (e_assign rfl) ?_
 refine l_nil (run_seq (run_seq (run_region rfl ?_)))
 refine l_val (v := Value.pointer (some ⟨b8, 0, none⟩)) rfl (e_fieldAddr Try.underlying23 rfl rfl rfl rfl) ?_
 refine l_val (v := Value.int .i64 p.1) rfl (e_load_bx1 tp3_gj rfl bx10 rfl) ?_
 refine l_val (v := Value.pointer (some ⟨b3, 0, none⟩)) rfl (e_fieldAddr Try.underlying23 rfl rfl rfl rfl) ?_
 replace bx5 := bx5.chg ch7 (not_no _)
 refine l_val (v := Value.int .i64 o.1) rfl (e_load_bx1 tp3_gj rfl bx5 rfl) ?_
 refine l_val (v := Value.bool (decide (o.1 < p.1))) rfl (e_gtr (m := p.1) (n := o.1) rfl rfl) ?_
 refine l_val (v := Value.bool (decide (o.1 < p.1))) rfl (e_move rfl) ?_
 by_cases q10 : o.1 < p.1
 ·
  refine l_skip (want_n rfl rfl rfl (decide_eq_true q10)) ?_
  refine l_skip (want_n rfl rfl rfl (decide_eq_true q10)) ?_
  refine l_skip (want_n rfl rfl rfl (decide_eq_true q10)) ?_
  refine l_skip (want_n rfl rfl rfl (decide_eq_true q10)) ?_
  refine l_skip (want_n rfl rfl rfl (decide_eq_true q10)) ?_
  refine l_skip (want_n rfl rfl rfl (decide_eq_true q10)) ?_
  refine l_skip (want_u rfl rfl rfl) ?_
  refine l_skip (want_u rfl rfl rfl) ?_
  refine l_skip (want_u rfl rfl rfl) ?_
  refine l_skip (want_u rfl rfl rfl) ?_
  refine l_skip (want_u rfl rfl rfl) ?_
  refine l_skip (want_n rfl rfl rfl (decide_eq_true q10)) ?_
  refine l_val (v := Value.bool true) rfl (e_pick_t rfl (decide_eq_true q10) rfl) ?_
  refine l_nil ?_
  refine run_cond_t rfl rfl ?_
  refine run_seq ?_
  clear bx5
  clear bx10
  refine run_region rfl ?_
  refine l_val (v := Value.int .i64 0) rfl (e_assign rfl) ?_
  refine l_nil ?_
  refine run_ret (vs := [Value.int .i64 0]) Try.func22 (.tmp rfl .nil) ?_
  -- return 0
  have e0 : (0 : Int) = (halfS (mns p o)) := by
    unfold halfS mns
    first
      | (rw [if_pos (by simp only; omega)]; done)
      | (rw [if_neg (by simp only; omega)]; done)
  replace hbase := hbase.chg ch2 (not_no _)
  replace hbase := hbase.chg ch7 (not_no _)
  exact ⟨(congrArg (a₁ := 0) (fun (z0 : Int) => Ending.returned (Value.int .i64 z0)) e0), hbase.below⟩
 refine l_val (v := Value.pointer (some ⟨b8, 0, none⟩)) (want_y rfl rfl rfl (decide_eq_false q10)) (e_fieldAddr Try.underlying23 rfl rfl rfl rfl) ?_
 refine l_val (v := Value.int .i64 p.1) (want_y rfl rfl rfl (decide_eq_false q10)) (e_load_bx1 tp3_gj rfl bx10 rfl) ?_
 refine l_val (v := Value.pointer (some ⟨b3, 0, none⟩)) (want_y rfl rfl rfl (decide_eq_false q10)) (e_fieldAddr Try.underlying23 rfl rfl rfl rfl) ?_
 refine l_val (v := Value.int .i64 o.1) (want_y rfl rfl rfl (decide_eq_false q10)) (e_load_bx1 tp3_gj rfl bx5 rfl) ?_
 refine l_val (v := Value.bool (decide (p.1 = o.1))) (want_y rfl rfl rfl (decide_eq_false q10)) (e_eql (m := p.1) (n := o.1) rfl rfl) ?_
 refine l_val (v := Value.bool (decide (p.1 = o.1))) (want_y rfl rfl rfl (decide_eq_false q10)) (e_move rfl) ?_
 by_cases q16 : p.1 = o.1
 ·
  refine l_val (v := Value.pointer (some ⟨b8, 1, none⟩)) (want_y rfl rfl rfl (decide_eq_true q16)) (e_fieldAddr Try.underlying23 rfl rfl rfl rfl) ?_
  refine l_val (v := Value.int .i64 p.2) (want_y rfl rfl rfl (decide_eq_true q16)) (e_load_bx1 tp3_gj rfl bx10 rfl) ?_
  refine l_val (v := Value.pointer (some ⟨b3, 1, none⟩)) (want_y rfl rfl rfl (decide_eq_true q16)) (e_fieldAddr Try.underlying23 rfl rfl rfl rfl) ?_
  refine l_val (v := Value.int .i64 o.2) (want_y rfl rfl rfl (decide_eq_true q16)) (e_load_bx1 tp3_gj rfl bx5 rfl) ?_
  refine l_val (v := Value.bool (decide (o.2 < p.2))) (want_y rfl rfl rfl (decide_eq_true q16)) (e_gtr (m := p.2) (n := o.2) rfl rfl) ?_
  refine l_val (v := Value.bool (decide (o.2 < p.2))) (want_y rfl rfl rfl (decide_eq_false q10)) (e_pick_t rfl (decide_eq_true q16) rfl) ?_
  refine l_val (v := Value.bool (decide (o.2 < p.2))) rfl (e_pick_f rfl (decide_eq_false q10) rfl) ?_
  refine l_nil ?_
  by_cases p1 : o.2 < p.2
  ·
   refine run_cond_t rfl (decide_eq_true p1) ?_
   refine run_seq ?_
   clear bx5
   clear bx10
   refine run_region rfl ?_
   refine l_val (v := Value.int .i64 0) rfl (e_assign rfl) ?_
   refine l_nil ?_
   refine run_ret (vs := [Value.int .i64 0]) Try.func22 (.tmp rfl .nil) ?_
   -- return 1
   have e0 : (0 : Int) = (halfS (mns p o)) := by
     unfold halfS mns
     first
       | (rw [if_pos (by simp only; omega)]; done)
       | (rw [if_neg (by simp only; omega)]; done)
   replace hbase := hbase.chg ch2 (not_no _)
   replace hbase := hbase.chg ch7 (not_no _)
   exact ⟨(congrArg (a₁ := 0) (fun (z0 : Int) => Ending.returned (Value.int .i64 z0)) e0), hbase.below⟩
  refine run_cond_f rfl (decide_eq_false p1) ?_
  refine run_skip ?_
  refine run_seq ?_
  clear bx5
  clear bx10
  refine run_region rfl ?_
  refine l_val (v := Value.int .i64 1) rfl (e_assign rfl) ?_
  refine l_nil ?_
  refine run_ret (vs := [Value.int .i64 1]) Try.func22 (.tmp rfl .nil) ?_
  -- return 2
  have e0 : (1 : Int) = (halfS (mns p o)) := by
    unfold halfS mns
    first
      | (rw [if_pos (by simp only; omega)]; done)
      | (rw [if_neg (by simp only; omega)]; done)
  replace hbase := hbase.chg ch2 (not_no _)
  replace hbase := hbase.chg ch7 (not_no _)
  exact ⟨(congrArg (a₁ := 1) (fun (z0 : Int) => Ending.returned (Value.int .i64 z0)) e0), hbase.below⟩
 refine l_skip (want_n rfl rfl rfl (decide_eq_false q16)) ?_
 refine l_skip (want_n rfl rfl rfl (decide_eq_false q16)) ?_
 refine l_skip (want_n rfl rfl rfl (decide_eq_false q16)) ?_
 refine l_skip (want_n rfl rfl rfl (decide_eq_false q16)) ?_
 refine l_skip (want_n rfl rfl rfl (decide_eq_false q16)) ?_
 refine l_val (v := Value.bool false) (want_y rfl rfl rfl (decide_eq_false q10)) (e_pick_f rfl (decide_eq_false q16) rfl) ?_
 refine l_val (v := Value.bool false) rfl (e_pick_f rfl (decide_eq_false q10) rfl) ?_
 refine l_nil ?_
 refine run_cond_f rfl rfl ?_
 refine run_skip ?_
 refine run_seq ?_
 clear bx5
 clear bx10
 refine run_region rfl ?_
 refine l_val (v := Value.int .i64 1) rfl (e_assign rfl) ?_
 refine l_nil ?_
 refine run_ret (vs := [Value.int .i64 1]) Try.func22 (.tmp rfl .nil) ?_
 -- return 3
 have e0 : (1 : Int) = (halfS (mns p o)) := by
   unfold halfS mns
   first
     | (rw [if_pos (by simp only; omega)]; done)
     | (rw [if_neg (by simp only; omega)]; done)
 replace hbase := hbase.chg ch2 (not_no _)
 replace hbase := hbase.chg ch7 (not_no _)
 exact ⟨(congrArg (a₁ := 1) (fun (z0 : Int) => Ending.returned (Value.int .i64 z0)) e0), hbase.below⟩
end TL
