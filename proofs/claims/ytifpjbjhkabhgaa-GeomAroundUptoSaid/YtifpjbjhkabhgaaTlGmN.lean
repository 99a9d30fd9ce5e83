import Derived.Test.YtifpjbjhkabhgaaTlGmA
import Derived.Test.YtifpjbjhkabhgaaTlGeomF
import Derived.Test.YtifpjbjhkabhgaaProg
import Derived.Test.YtifpjbjhkabhgaaTlNet2
import Derived.Test.YtifpjbjhkabhgaaTlEq
import Derived.Test.YtifpjbjhkabhgaaTlHold
import Derived.Test.YtifpjbjhkabhgaaTlDraw
import Derived.Test.YtifpjbjhkabhgaaTlMap
set_option linter.all false
set_option maxRecDepth 20000
namespace TL
open Go Go.Proofs
theorem mixed_gn : Try.prog.follows .mixedOrders = true := by kernel_rfl
theorem tp3_gn : Tp Try.prog 3 false 1 8 (.int .i64 0) := Tp.of (by kernel_rfl)
theorem tp23_gn : Tp Try.prog 23 true 2 16 (.agg #[.int .i64 0, .int .i64 0]) := Tp.of (by kernel_rfl)
theorem bd26_gn : Try.f26.body.isNone = false := rfl
theorem nm26_gn : (Try.f26.name == "runtime.NumGoroutine") = false := by decide +kernel
theorem bd27_gn : Try.f27.body.isNone = false := rfl
theorem nm27_gn : (Try.f27.name == "runtime.NumGoroutine") = false := by decide +kernel
theorem bd48_gn : Try.f48.body.isNone = false := rfl
theorem nm48_gn : (Try.f48.name == "runtime.NumGoroutine") = false := by decide +kernel
theorem bd49_gn : Try.f49.body.isNone = false := rfl
theorem nm49_gn : (Try.f49.name == "runtime.NumGoroutine") = false := by decide +kernel

theorem sign_ok (w0 : World) (n : Int) :
    Calls Try.prog 48 #[Value.int .i64 n] w0 (fun ee w => ee = .returned (Value.int .i64 (cmpI n 0)) ∧ Bel w0.heap.size w0 w) := by
 refine calls_of_run Try.func48 rfl (Nat.le_of_ble_eq_true rfl) ?_
 have hbase := Base.start w0
 refine run_seq (run_region rfl ?_)
 refine l_val (v := Value.int .i64 0) rfl (e_assign rfl) ?_
 refine l_nil (run_seq ?_)
 refine run_block ?_
 refine run_seq (run_region rfl ?_)
 refine l_val (v := Value.int .i64 n) rfl (e_move rfl) ?_
 refine l_val (v := Value.bool (decide (0 < n))) rfl (e_gtr (m := n) (n := 0) rfl rfl) ?_
 refine l_val (v := Value.bool (decide (0 < n))) rfl (e_assign rfl) ?_
 refine l_nil ?_
 by_cases p1 : 0 < n
 ·
  refine run_cond_t rfl (decide_eq_true p1) ?_
  refine run_seq (run_region rfl ?_)
  refine l_val (v := Value.int .i64 1) rfl (e_assign rfl) ?_
  refine l_nil ?_
  refine run_ret (vs := [Value.int .i64 1]) Try.func48 (.tmp rfl .nil) ?_
  -- return 0
  have e0 : (1 : Int) = (cmpI n 0) := by
    unfold cmpI
    first
      | (rw [if_neg (by omega), if_pos (by omega)]; done)
      | (rw [if_pos (by omega)]; done)
      | (rw [if_neg (by omega), if_neg (by omega)]; done)
  exact ⟨(congrArg (a₁ := 1) (fun (z0 : Int) => Ending.returned (Value.int .i64 z0)) e0), hbase.below⟩
 refine run_cond_f rfl (decide_eq_false p1) ?_
 refine run_seq (run_region rfl ?_)
 refine l_val (v := Value.int .i64 n) rfl (e_move rfl) ?_
 refine l_val (v := Value.bool (decide (n < 0))) rfl (e_lss (m := n) (n := 0) rfl rfl) ?_
 refine l_val (v := Value.bool (decide (n < 0))) rfl (e_assign rfl) ?_
 refine l_nil ?_
 by_cases p3 : n < 0
 ·
  refine run_cond_t rfl (decide_eq_true p3) ?_
  refine run_seq (run_region rfl ?_)
  refine l_val (v := Value.int .i64 (-1)) rfl (e_assign rfl) ?_
  refine l_nil ?_
  refine run_ret (vs := [Value.int .i64 (-1)]) Try.func48 (.tmp rfl .nil) ?_
  -- return 1
  have e0 : (-1 : Int) = (cmpI n 0) := by
    unfold cmpI
    first
      | (rw [if_neg (by omega), if_pos (by omega)]; done)
      | (rw [if_pos (by omega)]; done)
      | (rw [if_neg (by omega), if_neg (by omega)]; done)
  exact ⟨(congrArg (a₁ := -1) (fun (z0 : Int) => Ending.returned (Value.int .i64 z0)) e0), hbase.below⟩
 refine run_cond_f rfl (decide_eq_false p3) ?_
 refine run_skip ?_
 refine run_inBlock ?_
 refine run_seq (run_region rfl ?_)
 refine l_val (v := Value.int .i64 0) rfl (e_assign rfl) ?_
 refine l_nil ?_
 refine run_ret (vs := [Value.int .i64 0]) Try.func48 (.tmp rfl .nil) ?_
 -- return 2
 have e0 : (0 : Int) = (cmpI n 0) := by
   unfold cmpI
   first
     | (rw [if_neg (by omega), if_pos (by omega)]; done)
     | (rw [if_pos (by omega)]; done)
     | (rw [if_neg (by omega), if_neg (by omega)]; done)
 exact ⟨(congrArg (a₁ := 0) (fun (z0 : Int) => Ending.returned (Value.int .i64 z0)) e0), hbase.below⟩

theorem Turn_ok (w0 : World) (a : (Int) × (Int)) (b : (Int) × (Int)) (c : (Int) × (Int)) (ha : bdP a) (hb : bdP b) (hc : bdP c) :
    Calls Try.prog 26 #[Value.agg (List.toArray [Value.int .i64 a.1, Value.int .i64 a.2]), Value.agg (List.toArray [Value.int .i64 b.1, Value.int .i64 b.2]), Value.agg (List.toArray [Value.int .i64 c.1, Value.int .i64 c.2])] w0 (fun ee w => ee = .returned (Value.int .i64 (trn a b c)) ∧ Bel w0.heap.size w0 w) := by
 refine calls_of_run Try.func26 rfl (Nat.le_of_ble_eq_true rfl) ?_
 have hbase := Base.start w0
 have hba := bdW_mns ha hb
 have hca := bdW_mns ha hc
 unfold bdW mns at hba hca
 unfold bdP at ha hb hc
 have h1 := mul_bd hba.1 hca.2
 have h2 := mul_bd hba.2 hca.1
 simp only at h1 h2
 refine run_seq (run_region rfl (l_op rfl ?_))
 refine o_box c0 (is 1) (1, 0) rfl rfl ?_
 intro g4 w1 b3 ch2 bx5
 replace bx5 : Bx g4 (is 1) w1 b3 [Value.int .i64 a.1, Value.int .i64 a.2] := bx5
 refine l_op rfl ?_
 refine o_box g4 (is 2) (2, 0) rfl rfl ?_
 intro g9 w6 b8 ch7 bx10
 replace bx10 : Bx g9 (is 2) w6 b8 [Value.int .i64 b.1, Value.int .i64 b.2] := bx10
 refine l_op rfl ?_
 refine o_box g9 (is 3) (3, 0) rfl rfl ?_
 intro g14 w11 b13 ch12 bx15
 replace bx15 : Bx g14 (is 3) w11 b13 [Value.int .i64 c.1, Value.int .i64 c.2] := bx15
 refine l_val (v := Value.int .i64 0) rfl (e_assign rfl) ?_
 refine l_nil (run_seq (run_region rfl ?_))
 refine l_val (v := Value.pointer (some ⟨b8, 0, none⟩)) rfl (e_fieldAddr Try.underlying23 rfl rfl rfl rfl) ?_
 replace bx10 := bx10.chg ch12 (not_no _)
 refine l_val (v := Value.int .i64 b.1) rfl (e_load_bx1 tp3_gn rfl bx10 rfl) ?_
 refine l_val (v := Value.pointer (some ⟨b3, 0, none⟩)) rfl (e_fieldAddr Try.underlying23 rfl rfl rfl rfl) ?_
 replace bx5 := (bx5.chg ch7 (not_no _)).chg ch12 (not_no _)
 refine l_val (v := Value.int .i64 a.1) rfl (e_load_bx1 tp3_gn rfl bx5 rfl) ?_
 refine l_val (v := Value.int .i64 (b.1 - a.1)) rfl (e_sub (m := b.1) (n := a.1) rfl rfl (by omega)) ?_
 refine l_val (v := Value.pointer (some ⟨b13, 1, none⟩)) rfl (e_fieldAddr Try.underlying23 rfl rfl rfl rfl) ?_
 refine l_val (v := Value.int .i64 c.2) rfl (e_load_bx1 tp3_gn rfl bx15 rfl) ?_
 refine l_val (v := Value.pointer (some ⟨b3, 1, none⟩)) rfl (e_fieldAddr Try.underlying23 rfl rfl rfl rfl) ?_
 refine l_val (v := Value.int .i64 a.2) rfl (e_load_bx1 tp3_gn rfl bx5 rfl) ?_
 refine l_val (v := Value.int .i64 (c.2 - a.2)) rfl (e_sub (m := c.2) (n := a.2) rfl rfl (by omega)) ?_
 refine l_val (v := Value.int .i64 ((b.1 - a.1) * (c.2 - a.2))) rfl (e_mul (m := b.1 - a.1) (n := c.2 - a.2) rfl rfl (by omega)) ?_
 refine l_val (v := Value.pointer (some ⟨b8, 1, none⟩)) rfl (e_fieldAddr Try.underlying23 rfl rfl rfl rfl) ?_
 refine l_val (v := Value.int .i64 b.2) rfl (e_load_bx1 tp3_gn rfl bx10 rfl) ?_
 refine l_val (v := Value.pointer (some ⟨b3, 1, none⟩)) rfl (e_fieldAddr Try.underlying23 rfl rfl rfl rfl) ?_
 refine l_val (v := Value.int .i64 a.2) rfl (e_load_bx1 tp3_gn rfl bx5 rfl) ?_
 refine l_val (v := Value.int .i64 (b.2 - a.2)) rfl (e_sub (m := b.2) (n := a.2) rfl rfl (by omega)) ?_
 refine l_val (v := Value.pointer (some ⟨b13, 0, none⟩)) rfl (e_fieldAddr Try.underlying23 rfl rfl rfl rfl) ?_
 refine l_val (v := Value.int .i64 c.1) rfl (e_load_bx1 tp3_gn rfl bx15 rfl) ?_
 refine l_val (v := Value.pointer (some ⟨b3, 0, none⟩)) rfl (e_fieldAddr Try.underlying23 rfl rfl rfl rfl) ?_
 refine l_val (v := Value.int .i64 a.1) rfl (e_load_bx1 tp3_gn rfl bx5 rfl) ?_
 refine l_val (v := Value.int .i64 (c.1 - a.1)) rfl (e_sub (m := c.1) (n := a.1) rfl rfl (by omega)) ?_
 refine l_val (v := Value.int .i64 ((b.2 - a.2) * (c.1 - a.1))) rfl (e_mul (m := b.2 - a.2) (n := c.1 - a.1) rfl rfl (by omega)) ?_
 refine l_val (v := Value.int .i64 (((b.1 - a.1) * (c.2 - a.2)) - ((b.2 - a.2) * (c.1 - a.1)))) rfl (e_sub (m := (b.1 - a.1) * (c.2 - a.2)) (n := (b.2 - a.2) * (c.1 - a.1)) rfl rfl (by omega)) ?_
 refine l_op rfl ?_
 refine o_call (v := Value.int .i64 (cmpI (((b.1 - a.1) * (c.2 - a.2)) - ((b.2 - a.2) * (c.1 - a.1))) 0)) (e_call (vals := [Value.int .i64 (((b.1 - a.1) * (c.2 - a.2)) - ((b.2 - a.2) * (c.1 - a.1)))]) Try.func48 bd48_gn nm48_gn rfl) (sign_ok w11 (((b.1 - a.1) * (c.2 - a.2)) - ((b.2 - a.2) * (c.1 - a.1)))) ?_
 intro w16 hb17
 replace hb17 := chg_below hb17 g14
 refine l_val (v := Value.int .i64 (cmpI (((b.1 - a.1) * (c.2 - a.2)) - ((b.2 - a.2) * (c.1 - a.1))) 0)) rfl (e_assign rfl) ?_
 refine l_nil ?_
 refine run_ret (vs := [Value.int .i64 (cmpI (((b.1 - a.1) * (c.2 - a.2)) - ((b.2 - a.2) * (c.1 - a.1))) 0)]) Try.func26 (.tmp rfl .nil) ?_
 -- return 0
 have e0 : (cmpI (((b.1 - a.1) * (c.2 - a.2)) - ((b.2 - a.2) * (c.1 - a.1))) 0 : Int) = (trn a b c) := by
   rfl
 have C18 : Chg (inl []) _ _ _ _ := (ch2.n).seq ((ch7.n).seq ((ch12.n).seq (hb17.n)))
 replace hbase := hbase.chg C18 (is_nl rfl)
 exact ⟨(congrArg (a₁ := cmpI (((b.1 - a.1) * (c.2 - a.2)) - ((b.2 - a.2) * (c.1 - a.1))) 0) (fun (z0 : Int) => Ending.returned (Value.int .i64 z0)) e0), hbase.below⟩

theorem within_ok (w0 : World) (a : Int) (b : Int) (n : Int) :
    Calls Try.prog 49 #[Value.int .i64 a, Value.int .i64 b, Value.int .i64 n] w0 (fun ee w => ee = .returned (Value.bool (decide (min a b ≤ n ∧ n ≤ max a b))) ∧ Bel w0.heap.size w0 w) := by
 refine calls_of_run Try.func49 rfl (Nat.le_of_ble_eq_true rfl) ?_
 have hbase := Base.start w0
 refine run_seq (run_region rfl ?_)
 refine l_val (v := Value.bool false) rfl (e_assign rfl) ?_
 refine l_nil (run_seq (run_region rfl ?_))
 refine l_val (v := Value.int .i64 a) rfl (e_move rfl) ?_
 refine l_val (v := Value.int .i64 b) rfl (e_move rfl) ?_
 refine l_val (v := Value.int .i64 (min a b)) rfl (e_min rfl rfl) ?_
 refine l_val (v := Value.int .i64 n) rfl (e_move rfl) ?_
 refine l_val (v := Value.bool (decide ((min a b) ≤ n))) rfl (e_leq (m := min a b) (n := n) rfl rfl) ?_
 refine l_val (v := Value.bool (decide ((min a b) ≤ n))) rfl (e_move rfl) ?_
 by_cases q12 : (min a b) ≤ n
 ·
  refine l_val (v := Value.int .i64 n) (want_y rfl rfl rfl (decide_eq_true q12)) (e_move rfl) ?_
  refine l_val (v := Value.int .i64 a) (want_y rfl rfl rfl (decide_eq_true q12)) (e_move rfl) ?_
  refine l_val (v := Value.int .i64 b) (want_y rfl rfl rfl (decide_eq_true q12)) (e_move rfl) ?_
  refine l_val (v := Value.int .i64 (max a b)) (want_y rfl rfl rfl (decide_eq_true q12)) (e_max rfl rfl) ?_
  refine l_val (v := Value.bool (decide (n ≤ (max a b)))) (want_y rfl rfl rfl (decide_eq_true q12)) (e_leq (m := n) (n := max a b) rfl rfl) ?_
  refine l_val (v := Value.bool (decide (n ≤ (max a b)))) rfl (e_pick_t rfl (decide_eq_true q12) rfl) ?_
  refine l_val (v := Value.bool (decide (n ≤ (max a b)))) rfl (e_assign rfl) ?_
  refine l_nil ?_
  refine run_ret (vs := [Value.bool (decide (n ≤ (max a b)))]) Try.func49 (.tmp rfl .nil) ?_
  -- return 0
  have e0 : (decide (n ≤ (max a b)) : Bool) = (decide (min a b ≤ n ∧ n ≤ max a b)) := by
    first
      | exact (decide_eq_false (by omega)).symm
      | (rw [decide_eq_decide]; omega)
  exact ⟨(congrArg (a₁ := decide (n ≤ (max a b))) (fun (z0 : Bool) => Ending.returned (Value.bool z0)) e0), hbase.below⟩
 refine l_skip (want_n rfl rfl rfl (decide_eq_false q12)) ?_
 refine l_skip (want_n rfl rfl rfl (decide_eq_false q12)) ?_
 refine l_skip (want_n rfl rfl rfl (decide_eq_false q12)) ?_
 refine l_skip (want_n rfl rfl rfl (decide_eq_false q12)) ?_
 refine l_skip (want_n rfl rfl rfl (decide_eq_false q12)) ?_
 refine l_val (v := Value.bool false) rfl (e_pick_f rfl (decide_eq_false q12) rfl) ?_
 refine l_val (v := Value.bool false) rfl (e_assign rfl) ?_
 refine l_nil ?_
 refine run_ret (vs := [Value.bool false]) Try.func49 (.tmp rfl .nil) ?_
 -- return 1
 have e0 : (false : Bool) = (decide (min a b ≤ n ∧ n ≤ max a b)) := by
   first
     | exact (decide_eq_false (by omega)).symm
     | (rw [decide_eq_decide]; omega)
 exact ⟨(congrArg (a₁ := false) (fun (z0 : Bool) => Ending.returned (Value.bool z0)) e0), hbase.below⟩

theorem D2On_ok (w0 : World) (a : (Int) × (Int)) (b : (Int) × (Int)) (p : (Int) × (Int)) (ha : bdP a) (hb : bdP b) (hp : bdP p) :
    Calls Try.prog 27 #[Value.agg (List.toArray [Value.int .i64 a.1, Value.int .i64 a.2]), Value.agg (List.toArray [Value.int .i64 b.1, Value.int .i64 b.2]), Value.agg (List.toArray [Value.int .i64 p.1, Value.int .i64 p.2])] w0 (fun ee w => ee = .returned (Value.bool (decide (onP a b p))) ∧ Bel w0.heap.size w0 w) := by
 refine calls_of_run Try.func27 rfl (Nat.le_of_ble_eq_true rfl) ?_
 have hbase := Base.start w0
 refine run_seq (run_region rfl (l_op rfl ?_))
 refine o_box c0 (is 1) (1, 0) rfl rfl ?_
 intro g4 w1 b3 ch2 bx5
 replace bx5 : Bx g4 (is 1) w1 b3 [Value.int .i64 a.1, Value.int .i64 a.2] := bx5
 refine l_op rfl ?_
 refine o_box g4 (is 2) (2, 0) rfl rfl ?_
 intro g9 w6 b8 ch7 bx10
 replace bx10 : Bx g9 (is 2) w6 b8 [Value.int .i64 b.1, Value.int .i64 b.2] := bx10
 refine l_op rfl ?_
 refine o_box g9 (is 3) (3, 0) rfl rfl ?_
 intro g14 w11 b13 ch12 bx15
 replace bx15 : Bx g14 (is 3) w11 b13 [Value.int .i64 p.1, Value.int .i64 p.2] := bx15
 refine l_val (v := Value.bool false) rfl (e_assign rfl) ?_
 refine l_nil (run_seq (run_region rfl ?_))
 replace bx5 := (bx5.chg ch7 (not_no _)).chg ch12 (not_no _)
 refine l_val (v := Value.agg (List.toArray [Value.int .i64 a.1, Value.int .i64 a.2])) rfl (e_load_bxN (ds := [Value.int .i64 a.1, Value.int .i64 a.2]) tp23_gn rfl bx5 rfl rfl) ?_
 replace bx10 := bx10.chg ch12 (not_no _)
 refine l_val (v := Value.agg (List.toArray [Value.int .i64 b.1, Value.int .i64 b.2])) rfl (e_load_bxN (ds := [Value.int .i64 b.1, Value.int .i64 b.2]) tp23_gn rfl bx10 rfl rfl) ?_
 refine l_val (v := Value.agg (List.toArray [Value.int .i64 p.1, Value.int .i64 p.2])) rfl (e_load_bxN (ds := [Value.int .i64 p.1, Value.int .i64 p.2]) tp23_gn rfl bx15 rfl rfl) ?_
 refine l_op rfl ?_
 refine o_call (v := Value.int .i64 (trn a b p)) (e_call (vals := [Value.agg (List.toArray [Value.int .i64 a.1, Value.int .i64 a.2]), Value.agg (List.toArray [Value.int .i64 b.1, Value.int .i64 b.2]), Value.agg (List.toArray [Value.int .i64 p.1, Value.int .i64 p.2])]) Try.func26 bd26_gn nm26_gn rfl) (Turn_ok w11 a b p (by assumption) (by assumption) (by assumption)) ?_
 intro w16 hb17
 replace hb17 := chg_below hb17 g14
 refine l_val (v := Value.bool (decide ((trn a b p) = 0))) rfl (e_eql (m := trn a b p) (n := 0) rfl rfl) ?_
 refine l_val (v := Value.bool (decide ((trn a b p) = 0))) rfl (e_move rfl) ?_
 by_cases q12 : (trn a b p) = 0
 ·
  refine l_val (v := Value.pointer (some ⟨b3, 0, none⟩)) (want_y rfl rfl rfl (decide_eq_true q12)) (e_fieldAddr Try.underlying23 rfl rfl rfl rfl) ?_
  replace bx5 := bx5.chg hb17 (not_no _)
  refine l_val (v := Value.int .i64 a.1) (want_y rfl rfl rfl (decide_eq_true q12)) (e_load_bx1 tp3_gn rfl bx5 rfl) ?_
  refine l_val (v := Value.pointer (some ⟨b8, 0, none⟩)) (want_y rfl rfl rfl (decide_eq_true q12)) (e_fieldAddr Try.underlying23 rfl rfl rfl rfl) ?_
  replace bx10 := bx10.chg hb17 (not_no _)
  refine l_val (v := Value.int .i64 b.1) (want_y rfl rfl rfl (decide_eq_true q12)) (e_load_bx1 tp3_gn rfl bx10 rfl) ?_
  refine l_val (v := Value.pointer (some ⟨b13, 0, none⟩)) (want_y rfl rfl rfl (decide_eq_true q12)) (e_fieldAddr Try.underlying23 rfl rfl rfl rfl) ?_
  replace bx15 := bx15.chg hb17 (not_no _)
  refine l_val (v := Value.int .i64 p.1) (want_y rfl rfl rfl (decide_eq_true q12)) (e_load_bx1 tp3_gn rfl bx15 rfl) ?_
  refine l_op (want_y rfl rfl rfl (decide_eq_true q12)) ?_
  refine o_call (v := Value.bool (decide (min a.1 b.1 ≤ p.1 ∧ p.1 ≤ max a.1 b.1))) (e_call (vals := [Value.int .i64 a.1, Value.int .i64 b.1, Value.int .i64 p.1]) Try.func49 bd49_gn nm49_gn rfl) (within_ok w16 a.1 b.1 p.1) ?_
  intro w18 hb19
  replace hb19 := chg_below hb19 g14
  refine l_val (v := Value.bool (decide (min a.1 b.1 ≤ p.1 ∧ p.1 ≤ max a.1 b.1))) rfl (e_pick_t rfl (decide_eq_true q12) rfl) ?_
  refine l_val (v := Value.bool (decide (min a.1 b.1 ≤ p.1 ∧ p.1 ≤ max a.1 b.1))) rfl (e_move rfl) ?_
  by_cases q21 : (decide (min a.1 b.1 ≤ p.1 ∧ p.1 ≤ max a.1 b.1)) = true
  ·
   refine l_val (v := Value.pointer (some ⟨b3, 1, none⟩)) (want_y rfl rfl rfl q21) (e_fieldAddr Try.underlying23 rfl rfl rfl rfl) ?_
   replace bx5 := bx5.chg hb19 (not_no _)
   refine l_val (v := Value.int .i64 a.2) (want_y rfl rfl rfl q21) (e_load_bx1 tp3_gn rfl bx5 rfl) ?_
   refine l_val (v := Value.pointer (some ⟨b8, 1, none⟩)) (want_y rfl rfl rfl q21) (e_fieldAddr Try.underlying23 rfl rfl rfl rfl) ?_
   replace bx10 := bx10.chg hb19 (not_no _)
   refine l_val (v := Value.int .i64 b.2) (want_y rfl rfl rfl q21) (e_load_bx1 tp3_gn rfl bx10 rfl) ?_
   refine l_val (v := Value.pointer (some ⟨b13, 1, none⟩)) (want_y rfl rfl rfl q21) (e_fieldAddr Try.underlying23 rfl rfl rfl rfl) ?_
   replace bx15 := bx15.chg hb19 (not_no _)
   refine l_val (v := Value.int .i64 p.2) (want_y rfl rfl rfl q21) (e_load_bx1 tp3_gn rfl bx15 rfl) ?_
   refine l_op (want_y rfl rfl rfl q21) ?_
   refine o_call (v := Value.bool (decide (min a.2 b.2 ≤ p.2 ∧ p.2 ≤ max a.2 b.2))) (e_call (vals := [Value.int .i64 a.2, Value.int .i64 b.2, Value.int .i64 p.2]) Try.func49 bd49_gn nm49_gn rfl) (within_ok w18 a.2 b.2 p.2) ?_
   intro w20 hb21
   replace hb21 := chg_below hb21 g14
   refine l_val (v := Value.bool (decide (min a.2 b.2 ≤ p.2 ∧ p.2 ≤ max a.2 b.2))) rfl (e_pick_t rfl q21 rfl) ?_
   refine l_val (v := Value.bool (decide (min a.2 b.2 ≤ p.2 ∧ p.2 ≤ max a.2 b.2))) rfl (e_assign rfl) ?_
   refine l_nil ?_
   refine run_ret (vs := [Value.bool (decide (min a.2 b.2 ≤ p.2 ∧ p.2 ≤ max a.2 b.2))]) Try.func27 (.tmp rfl .nil) ?_
   -- return 0
   have e0 : ((decide (min a.2 b.2 ≤ p.2 ∧ p.2 ≤ max a.2 b.2)) : Bool) = (decide (onP a b p)) := by
     first
       | exact (decide_eq_false (fun h => absurd h.1 (by assumption))).symm
       | exact (decide_eq_false (fun h => absurd (decide_eq_true h.2.1) (by assumption))).symm
       | (rw [decide_eq_decide]; exact ⟨fun h => ⟨by assumption, of_decide_eq_true (by assumption), h⟩, fun h => h.2.2⟩)
   have C22 : Chg (inl []) _ _ _ _ := (ch2.n).seq ((ch7.n).seq ((ch12.n).seq ((hb17.n).seq ((hb19.n).seq (hb21.n)))))
   replace hbase := hbase.chg C22 (is_nl rfl)
   exact ⟨(congrArg (a₁ := (decide (min a.2 b.2 ≤ p.2 ∧ p.2 ≤ max a.2 b.2))) (fun (z0 : Bool) => Ending.returned (Value.bool z0)) e0), hbase.below⟩
  refine l_skip (want_n rfl rfl rfl (Bool.eq_false_iff.2 q21)) ?_
  refine l_skip (want_n rfl rfl rfl (Bool.eq_false_iff.2 q21)) ?_
  refine l_skip (want_n rfl rfl rfl (Bool.eq_false_iff.2 q21)) ?_
  refine l_skip (want_n rfl rfl rfl (Bool.eq_false_iff.2 q21)) ?_
  refine l_skip (want_n rfl rfl rfl (Bool.eq_false_iff.2 q21)) ?_
  refine l_skip (want_n rfl rfl rfl (Bool.eq_false_iff.2 q21)) ?_
  refine l_skip (want_n rfl rfl rfl (Bool.eq_false_iff.2 q21)) ?_
  refine l_val (v := Value.bool false) rfl (e_pick_f rfl (Bool.eq_false_iff.2 q21) rfl) ?_
  refine l_val (v := Value.bool false) rfl (e_assign rfl) ?_
  refine l_nil ?_
  refine run_ret (vs := [Value.bool false]) Try.func27 (.tmp rfl .nil) ?_
  -- return 1
  have e0 : (false : Bool) = (decide (onP a b p)) := by
    first
      | exact (decide_eq_false (fun h => absurd h.1 (by assumption))).symm
      | exact (decide_eq_false (fun h => absurd (decide_eq_true h.2.1) (by assumption))).symm
      | (rw [decide_eq_decide]; exact ⟨fun h => ⟨by assumption, of_decide_eq_true (by assumption), h⟩, fun h => h.2.2⟩)
  have C23 : Chg (inl []) _ _ _ _ := (ch2.n).seq ((ch7.n).seq ((ch12.n).seq ((hb17.n).seq (hb19.n))))
  replace hbase := hbase.chg C23 (is_nl rfl)
  exact ⟨(congrArg (a₁ := false) (fun (z0 : Bool) => Ending.returned (Value.bool z0)) e0), hbase.below⟩
 refine l_skip (want_n rfl rfl rfl (decide_eq_false q12)) ?_
 refine l_skip (want_n rfl rfl rfl (decide_eq_false q12)) ?_
 refine l_skip (want_n rfl rfl rfl (decide_eq_false q12)) ?_
 refine l_skip (want_n rfl rfl rfl (decide_eq_false q12)) ?_
 refine l_skip (want_n rfl rfl rfl (decide_eq_false q12)) ?_
 refine l_skip (want_n rfl rfl rfl (decide_eq_false q12)) ?_
 refine l_skip (want_n rfl rfl rfl (decide_eq_false q12)) ?_
 refine l_val (v := Value.bool false) rfl (e_pick_f rfl (decide_eq_false q12) rfl) ?_
 refine l_val (v := Value.bool false) rfl (e_move rfl) ?_
 refine l_skip (want_n rfl rfl rfl rfl) (l_skip (want_n rfl rfl rfl rfl) (l_skip (want_n rfl rfl rfl rfl) (l_skip (want_n rfl rfl rfl rfl) (l_skip (want_n rfl rfl rfl rfl) (l_skip (want_n rfl rfl rfl rfl) (l_skip (want_n rfl rfl rfl rfl) ?_))))))
 refine l_val (v := Value.bool false) rfl (e_pick_f rfl rfl rfl) ?_
 refine l_val (v := Value.bool false) rfl (e_assign rfl) ?_
 refine l_nil ?_
 refine run_ret (vs := [Value.bool false]) Try.func27 (.tmp rfl .nil) ?_
 -- return 2
 have e0 : (false : Bool) = (decide (onP a b p)) := by
   first
     | exact (decide_eq_false (fun h => absurd h.1 (by assumption))).symm
     | exact (decide_eq_false (fun h => absurd (decide_eq_true h.2.1) (by assumption))).symm
     | (rw [decide_eq_decide]; exact ⟨fun h => ⟨by assumption, of_decide_eq_true (by assumption), h⟩, fun h => h.2.2⟩)
 have C24 : Chg (inl []) _ _ _ _ := (ch2.n).seq ((ch7.n).seq ((ch12.n).seq (hb17.n)))
 replace hbase := hbase.chg C24 (is_nl rfl)
 exact ⟨(congrArg (a₁ := false) (fun (z0 : Bool) => Ending.returned (Value.bool z0)) e0), hbase.below⟩

set_option maxHeartbeats 4000000 in
theorem D2Meet_ok (w0 : World) (a : (Int) × (Int)) (b : (Int) × (Int)) (c : (Int) × (Int)) (d : (Int) × (Int)) (ha : bdP a) (hb : bdP b) (hc : bdP c) (hd : bdP d) :
    Calls Try.prog 23 #[Value.agg (List.toArray [Value.int .i64 a.1, Value.int .i64 a.2]), Value.agg (List.toArray [Value.int .i64 b.1, Value.int .i64 b.2]), Value.agg (List.toArray [Value.int .i64 c.1, Value.int .i64 c.2]), Value.agg (List.toArray [Value.int .i64 d.1, Value.int .i64 d.2])] w0 (fun ee w => ee = .returned (Value.int .i64 (refM a b c d)) ∧ Bel w0.heap.size w0 w) := by
 refine calls_of_run Try.func23 rfl (Nat.le_of_ble_eq_true rfl) ?_
 have hbase := Base.start w0
 have k1 := trn_abs a b c
 have k2 := trn_abs a b d
 have k3 := trn_abs c d a
 have k4 := trn_abs c d b
 have m1 := mul_bd (x := trn a b c) (y := trn a b d) (by omega) (by omega)
 have m2 := mul_bd (x := trn c d a) (y := trn c d b) (by omega) (by omega)
 refine run_seq (run_region rfl (l_op rfl ?_))
 refine o_box c0 (is 1) (1, 0) rfl rfl ?_
 intro g4 w1 b3 ch2 bx5
 replace bx5 : Bx g4 (is 1) w1 b3 [Value.int .i64 a.1, Value.int .i64 a.2] := bx5
 refine l_op rfl ?_
 refine o_box g4 (is 2) (2, 0) rfl rfl ?_
 intro g9 w6 b8 ch7 bx10
 replace bx10 : Bx g9 (is 2) w6 b8 [Value.int .i64 b.1, Value.int .i64 b.2] := bx10
 refine l_op rfl ?_
 refine o_box g9 (is 3) (3, 0) rfl rfl ?_
 intro g14 w11 b13 ch12 bx15
 replace bx15 : Bx g14 (is 3) w11 b13 [Value.int .i64 c.1, Value.int .i64 c.2] := bx15
 refine l_op rfl ?_
 refine o_box g14 (is 4) (4, 0) rfl rfl ?_
 intro g19 w16 b18 ch17 bx20
 replace bx20 : Bx g19 (is 4) w16 b18 [Value.int .i64 d.1, Value.int .i64 d.2] := bx20
 refine l_val (v := Value.int .i64 0) rfl (e_assign rfl) ?_
 refine l_nil (run_seq (run_seq ?_))
 refine region_q g19 rfl mixed_gn (by kernel_rfl) ?_
 intro w22 ch21
 have C23 : Chg (inl []) _ _ _ _ := (ch7.n).seq ((ch12.n).seq ((ch17.n).seq (ch21.n)))
 replace bx5 := bx5.chg C23 (is_nl rfl)
 refine q_val (v := Value.agg (List.toArray [Value.int .i64 a.1, Value.int .i64 a.2])) rfl (fun w' hw' => e_load_bxN (ds := [Value.int .i64 a.1, Value.int .i64 a.2]) tp23_gn rfl (bx5.bel hw') rfl rfl) ?_
 have C24 : Chg (inl []) _ _ _ _ := (ch12.n).seq ((ch17.n).seq (ch21.n))
 replace bx10 := bx10.chg C24 (is_nl rfl)
 refine q_val (v := Value.agg (List.toArray [Value.int .i64 b.1, Value.int .i64 b.2])) rfl (fun w' hw' => e_load_bxN (ds := [Value.int .i64 b.1, Value.int .i64 b.2]) tp23_gn rfl (bx10.bel hw') rfl rfl) ?_
 replace bx15 := (bx15.chg ch17 (not_no _)).chg ch21 (not_no _)
 refine q_val (v := Value.agg (List.toArray [Value.int .i64 c.1, Value.int .i64 c.2])) rfl (fun w' hw' => e_load_bxN (ds := [Value.int .i64 c.1, Value.int .i64 c.2]) tp23_gn rfl (bx15.bel hw') rfl rfl) ?_
 refine q_call (v := Value.int .i64 (trn a b c)) rfl (fun w' hw' => e_call (vals := [Value.agg (List.toArray [Value.int .i64 a.1, Value.int .i64 a.2]), Value.agg (List.toArray [Value.int .i64 b.1, Value.int .i64 b.2]), Value.agg (List.toArray [Value.int .i64 c.1, Value.int .i64 c.2])]) Try.func26 bd26_gn nm26_gn rfl) (fun w' hw' => (Turn_ok w' a b c (by assumption) (by assumption) (by assumption)).mono fun e w2 h2 => ⟨h2.1, hw'.trans (h2.2.mono hw'.size)⟩) ?_
 refine q_val (v := Value.agg (List.toArray [Value.int .i64 a.1, Value.int .i64 a.2])) rfl (fun w' hw' => e_load_bxN (ds := [Value.int .i64 a.1, Value.int .i64 a.2]) tp23_gn rfl (bx5.bel hw') rfl rfl) ?_
 refine q_val (v := Value.agg (List.toArray [Value.int .i64 b.1, Value.int .i64 b.2])) rfl (fun w' hw' => e_load_bxN (ds := [Value.int .i64 b.1, Value.int .i64 b.2]) tp23_gn rfl (bx10.bel hw') rfl rfl) ?_
 replace bx20 := bx20.chg ch21 (not_no _)
 refine q_val (v := Value.agg (List.toArray [Value.int .i64 d.1, Value.int .i64 d.2])) rfl (fun w' hw' => e_load_bxN (ds := [Value.int .i64 d.1, Value.int .i64 d.2]) tp23_gn rfl (bx20.bel hw') rfl rfl) ?_
 refine q_call (v := Value.int .i64 (trn a b d)) rfl (fun w' hw' => e_call (vals := [Value.agg (List.toArray [Value.int .i64 a.1, Value.int .i64 a.2]), Value.agg (List.toArray [Value.int .i64 b.1, Value.int .i64 b.2]), Value.agg (List.toArray [Value.int .i64 d.1, Value.int .i64 d.2])]) Try.func26 bd26_gn nm26_gn rfl) (fun w' hw' => (Turn_ok w' a b d (by assumption) (by assumption) (by assumption)).mono fun e w2 h2 => ⟨h2.1, hw'.trans (h2.2.mono hw'.size)⟩) ?_
 refine q_val (v := Value.int .i64 ((trn a b c) * (trn a b d))) rfl (fun w' hw' => e_mul (m := trn a b c) (n := trn a b d) rfl rfl (by omega)) ?_
 refine q_val (v := Value.bool (decide (((trn a b c) * (trn a b d)) < 0))) rfl (fun w' hw' => e_lss (m := (trn a b c) * (trn a b d)) (n := 0) rfl rfl) ?_
 refine q_val (v := Value.bool (decide (((trn a b c) * (trn a b d)) < 0))) rfl (fun w' hw' => e_move rfl) ?_
 by_cases q25 : ((trn a b c) * (trn a b d)) < 0
 ·
  refine q_val (v := Value.agg (List.toArray [Value.int .i64 c.1, Value.int .i64 c.2])) (want_y rfl rfl rfl (decide_eq_true q25)) (fun w' hw' => e_load_bxN (ds := [Value.int .i64 c.1, Value.int .i64 c.2]) tp23_gn rfl (bx15.bel hw') rfl rfl) ?_
  refine q_val (v := Value.agg (List.toArray [Value.int .i64 d.1, Value.int .i64 d.2])) (want_y rfl rfl rfl (decide_eq_true q25)) (fun w' hw' => e_load_bxN (ds := [Value.int .i64 d.1, Value.int .i64 d.2]) tp23_gn rfl (bx20.bel hw') rfl rfl) ?_
  refine q_val (v := Value.agg (List.toArray [Value.int .i64 a.1, Value.int .i64 a.2])) (want_y rfl rfl rfl (decide_eq_true q25)) (fun w' hw' => e_load_bxN (ds := [Value.int .i64 a.1, Value.int .i64 a.2]) tp23_gn rfl (bx5.bel hw') rfl rfl) ?_
  refine q_call (v := Value.int .i64 (trn c d a)) (want_y rfl rfl rfl (decide_eq_true q25)) (fun w' hw' => e_call (vals := [Value.agg (List.toArray [Value.int .i64 c.1, Value.int .i64 c.2]), Value.agg (List.toArray [Value.int .i64 d.1, Value.int .i64 d.2]), Value.agg (List.toArray [Value.int .i64 a.1, Value.int .i64 a.2])]) Try.func26 bd26_gn nm26_gn rfl) (fun w' hw' => (Turn_ok w' c d a (by assumption) (by assumption) (by assumption)).mono fun e w2 h2 => ⟨h2.1, hw'.trans (h2.2.mono hw'.size)⟩) ?_
  refine q_val (v := Value.agg (List.toArray [Value.int .i64 c.1, Value.int .i64 c.2])) (want_y rfl rfl rfl (decide_eq_true q25)) (fun w' hw' => e_load_bxN (ds := [Value.int .i64 c.1, Value.int .i64 c.2]) tp23_gn rfl (bx15.bel hw') rfl rfl) ?_
  refine q_val (v := Value.agg (List.toArray [Value.int .i64 d.1, Value.int .i64 d.2])) (want_y rfl rfl rfl (decide_eq_true q25)) (fun w' hw' => e_load_bxN (ds := [Value.int .i64 d.1, Value.int .i64 d.2]) tp23_gn rfl (bx20.bel hw') rfl rfl) ?_
  refine q_val (v := Value.agg (List.toArray [Value.int .i64 b.1, Value.int .i64 b.2])) (want_y rfl rfl rfl (decide_eq_true q25)) (fun w' hw' => e_load_bxN (ds := [Value.int .i64 b.1, Value.int .i64 b.2]) tp23_gn rfl (bx10.bel hw') rfl rfl) ?_
  refine q_call (v := Value.int .i64 (trn c d b)) (want_y rfl rfl rfl (decide_eq_true q25)) (fun w' hw' => e_call (vals := [Value.agg (List.toArray [Value.int .i64 c.1, Value.int .i64 c.2]), Value.agg (List.toArray [Value.int .i64 d.1, Value.int .i64 d.2]), Value.agg (List.toArray [Value.int .i64 b.1, Value.int .i64 b.2])]) Try.func26 bd26_gn nm26_gn rfl) (fun w' hw' => (Turn_ok w' c d b (by assumption) (by assumption) (by assumption)).mono fun e w2 h2 => ⟨h2.1, hw'.trans (h2.2.mono hw'.size)⟩) ?_
  refine q_val (v := Value.int .i64 ((trn c d a) * (trn c d b))) (want_y rfl rfl rfl (decide_eq_true q25)) (fun w' hw' => e_mul (m := trn c d a) (n := trn c d b) rfl rfl (by omega)) ?_
  refine q_val (v := Value.bool (decide (((trn c d a) * (trn c d b)) < 0))) (want_y rfl rfl rfl (decide_eq_true q25)) (fun w' hw' => e_lss (m := (trn c d a) * (trn c d b)) (n := 0) rfl rfl) ?_
  refine q_val (v := Value.bool (decide (((trn c d a) * (trn c d b)) < 0))) rfl (fun w' hw' => e_pick_t rfl (decide_eq_true q25) rfl) ?_
  refine q_nil ?_
  intro w25 hc26
  replace hc26 := chg_below hc26 g19
  by_cases p1 : ((trn c d a) * (trn c d b)) < 0
  ·
   refine run_cond_t rfl (decide_eq_true p1) ?_
   refine run_seq ?_
   clear bx5
   clear bx10
   clear bx15
   clear bx20
   refine run_region rfl ?_
   refine l_val (v := Value.int .i64 1) rfl (e_assign rfl) ?_
   refine l_nil ?_
   refine run_ret (vs := [Value.int .i64 1]) Try.func23 (.tmp rfl .nil) ?_
   -- return 0
   have e0 : (1 : Int) = (refM a b c d) := by
     first
       | with_reducible exact refM_cross (by assumption) (by assumption)
       | exact hr1 (by omega)
       | exact hr2 (by omega)
       | exact hr3 (by omega) (by omega)
   have C27 : Chg (inl []) _ _ _ _ := (ch2.n).seq ((ch7.n).seq ((ch12.n).seq ((ch17.n).seq ((ch21.n).seq (hc26.n)))))
   replace hbase := hbase.chg C27 (is_nl rfl)
   exact ⟨(congrArg (a₁ := 1) (fun (z0 : Int) => Ending.returned (Value.int .i64 z0)) e0), hbase.below⟩
  refine run_cond_f rfl (decide_eq_false p1) ?_
  refine run_skip ?_
  refine run_seq (run_region rfl ?_)
  refine l_val (v := Value.slice none 0 0) rfl (e_assign rfl) ?_
  refine l_nil (run_seq (run_region rfl ?_))
  replace bx5 := bx5.chg hc26 (not_no _)
  refine l_val (v := Value.agg (List.toArray [Value.int .i64 a.1, Value.int .i64 a.2])) rfl (e_load_bxN (ds := [Value.int .i64 a.1, Value.int .i64 a.2]) tp23_gn rfl bx5 rfl rfl) ?_
  replace bx10 := bx10.chg hc26 (not_no _)
  refine l_val (v := Value.agg (List.toArray [Value.int .i64 b.1, Value.int .i64 b.2])) rfl (e_load_bxN (ds := [Value.int .i64 b.1, Value.int .i64 b.2]) tp23_gn rfl bx10 rfl rfl) ?_
  replace bx15 := bx15.chg hc26 (not_no _)
  refine l_val (v := Value.agg (List.toArray [Value.int .i64 c.1, Value.int .i64 c.2])) rfl (e_load_bxN (ds := [Value.int .i64 c.1, Value.int .i64 c.2]) tp23_gn rfl bx15 rfl rfl) ?_
  replace bx20 := bx20.chg hc26 (not_no _)
  refine l_val (v := Value.agg (List.toArray [Value.int .i64 d.1, Value.int .i64 d.2])) rfl (e_load_bxN (ds := [Value.int .i64 d.1, Value.int .i64 d.2]) tp23_gn rfl bx20 rfl rfl) ?_
  refine l_op rfl ?_
  refine o_buildSlice (α := (Int) × (Int)) g19 (is 5) (is 5) (5, 0) rfl ([a, b, c, d] : List ((Int) × (Int))) Try.underlying25 tp23_gn (by decide) (by decide) (vs := [(0, Value.agg (List.toArray [Value.int .i64 a.1, Value.int .i64 a.2])), (1, Value.agg (List.toArray [Value.int .i64 b.1, Value.int .i64 b.2])), (2, Value.agg (List.toArray [Value.int .i64 c.1, Value.int .i64 c.2])), (3, Value.agg (List.toArray [Value.int .i64 d.1, Value.int .i64 d.2]))]) rfl rfl (.cons rfl (.cons rfl (.cons rfl (.cons rfl .nil)))) ?_
  intro g28 w29 v30 ch31 o32
  refine l_val (v := v30) rfl (e_assign rfl) ?_
  refine l_nil (run_seq (run_seq (run_region rfl ?_)))
  refine l_val (v := Value.int .i64 0) rfl (e_assign rfl) ?_
  refine l_nil ?_
  refine run_block ?_
  refine run_loop (σ := Value × (List ((Int) × (Int))) × Nat × Cmap) (fun ⟨l_v, l, i, gq⟩ f w => Base w0 gq w ∧ f 4 = Value.pointer (some ⟨b3, 0, none⟩) ∧ f 5 = Value.pointer (some ⟨b8, 0, none⟩) ∧ f 6 = Value.pointer (some ⟨b13, 0, none⟩) ∧ f 7 = Value.pointer (some ⟨b18, 0, none⟩) ∧ f 9 = l_v ∧ f 10 = v30 ∧ f 11 = Value.int .i64 (i : Int) ∧ Bx gq (is 1) w b3 [Value.int .i64 a.1, Value.int .i64 a.2] ∧ Bx gq (is 2) w b8 [Value.int .i64 b.1, Value.int .i64 b.2] ∧ Bx gq (is 3) w b13 [Value.int .i64 c.1, Value.int .i64 c.2] ∧ Bx gq (is 4) w b18 [Value.int .i64 d.1, Value.int .i64 d.2] ∧ Ow gq (is 5) (is 5) w v30 ([a, b, c, d] : List ((Int) × (Int))) ∧ Ow gq (is 8) (is 8) w l_v l ∧ (i : Int) ≤ (4 : Int) ∧ (l = comL a b c d [a, b, c, d] i ∧ i ≤ 4)) (fun ⟨l_v, l, i, gq⟩ => 4 - i) (Value.slice none 0 0, [], 0, g28) ?_ ?_
  have C33 : Chg (inl []) _ _ _ _ := (ch2.n).seq ((ch7.n).seq ((ch12.n).seq ((ch17.n).seq ((ch21.n).seq ((hc26.n).seq (ch31.n))))))
  replace hbase := hbase.chg C33 (is_nl rfl)
  replace bx5 := bx5.chg ch31 (not_no _)
  replace bx10 := bx10.chg ch31 (not_no _)
  replace bx15 := bx15.chg ch31 (not_no _)
  replace bx20 := bx20.chg ch31 (not_no _)
  · exact ⟨hbase, rfl, rfl, rfl, rfl, rfl, rfl, rfl, bx5, bx10, bx15, bx20, o32, Ow.nil, by omega, by exact ⟨rfl, by omega⟩⟩
  clear bx5
  clear bx10
  clear bx15
  clear bx20
  clear o32
  clear hbase
  rintro ⟨l_v, l, i, g36⟩ f34 w35 ⟨hbase, zs4, zs5, zs6, zs7, zs9, zs10, zs11, bx5, bx10, bx15, bx20, o32, o_l, hle_i, hinv⟩ back6
  obtain ⟨hl, hi4⟩ := hinv
  have hll : l.length ≤ i := by rw [hl]; exact comL_len i
  refine run_seq (run_seq (run_region rfl ?_))
  refine l_val (v := Value.int .i64 (i : Int)) rfl (e_move (by exact zs11)) ?_
  refine l_val (v := Value.bool (decide ((i : Int) < 4))) rfl (e_lss (m := (i : Int)) (n := 4) rfl rfl) ?_
  refine l_nil ?_
  by_cases p6 : (i : Int) < 4
  ·
   refine run_cond_t rfl (decide_eq_true p6) ?_
   have hei := four_bd ha hb hc hd (i := i) (by assumption)
   refine run_skip ?_
   refine run_seq ?_
   refine run_block ?_
   refine run_seq (run_region rfl ?_)
   refine l_val (v := v30) rfl (e_move (by exact zs10)) ?_
   refine l_val (v := Value.int .i64 (i : Int)) rfl (e_move (by exact zs11)) ?_
   refine l_val (v := Value.pointer (some (eAddr v30 2 (Int.toNat (i : Int))))) rfl (e_indexAddr (α := (Int) × (Int)) (xs := ([a, b, c, d] : List ((Int) × (Int)))) (v := v30) (i := (i : Int)) Try.underlying25 rfl rfl o32.flat rfl (by omega) (by first | omega | (simp only [List.length_set, List.length_append, List.length_cons, List.length_nil, List.length_replicate, List.length_map, List.length_take, List.length_drop]; omega) | (simp; done) | (simp; omega))) ?_
   refine l_val (v := Value.agg (List.toArray [Value.int .i64 ((gI ([a, b, c, d] : List ((Int) × (Int))) (i : Int)).1), Value.int .i64 ((gI ([a, b, c, d] : List ((Int) × (Int))) (i : Int)).2)])) rfl (e_load_elN (α := (Int) × (Int)) (xs := ([a, b, c, d] : List ((Int) × (Int)))) (v := v30) (i := (i : Int)) tp23_gn rfl o32.flat (by omega) (by first | omega | (simp only [List.length_set, List.length_append, List.length_cons, List.length_nil, List.length_replicate, List.length_map, List.length_take, List.length_drop]; omega) | (simp; done) | (simp; omega)) rfl) ?_
   refine l_op rfl ?_
   refine o_alloc g36 (is 6) (6, 0) rfl tp23_gn ?_
   intro g40 w37 b39 ch38 bx41
   replace bx41 : Bx g40 (is 6) w37 b39 [Value.int .i64 0, Value.int .i64 0] := bx41
   refine l_op rfl ?_
   refine o_store_bx (cs' := [Value.int .i64 ((gI ([a, b, c, d] : List ((Int) × (Int))) (i : Int)).1), Value.int .i64 ((gI ([a, b, c, d] : List ((Int) × (Int))) (i : Int)).2)]) tp23_gn rfl rfl bx41 rfl (Nat.le_of_ble_eq_true rfl) (AllOne.all (.cons rfl (.cons rfl .nil))) rfl ?_
   intro w42 ch43 bx44
   clear bx41
   refine l_nil (run_seq (run_seq (run_region rfl ?_)))
   replace bx5 := (bx5.chg ch38 (not_no _)).chg ch43 (is_ne rfl)
   refine l_val (v := Value.agg (List.toArray [Value.int .i64 a.1, Value.int .i64 a.2])) rfl (e_load_bxN (ds := [Value.int .i64 a.1, Value.int .i64 a.2]) tp23_gn (by exact zs4) bx5 rfl rfl) ?_
   replace bx10 := (bx10.chg ch38 (not_no _)).chg ch43 (is_ne rfl)
   refine l_val (v := Value.agg (List.toArray [Value.int .i64 b.1, Value.int .i64 b.2])) rfl (e_load_bxN (ds := [Value.int .i64 b.1, Value.int .i64 b.2]) tp23_gn (by exact zs5) bx10 rfl rfl) ?_
   refine l_val (v := Value.agg (List.toArray [Value.int .i64 ((gI ([a, b, c, d] : List ((Int) × (Int))) (i : Int)).1), Value.int .i64 ((gI ([a, b, c, d] : List ((Int) × (Int))) (i : Int)).2)])) rfl (e_load_bxN (ds := [Value.int .i64 ((gI ([a, b, c, d] : List ((Int) × (Int))) (i : Int)).1), Value.int .i64 ((gI ([a, b, c, d] : List ((Int) × (Int))) (i : Int)).2)]) tp23_gn rfl bx44 rfl rfl) ?_
   refine l_op rfl ?_
   refine o_call (v := Value.bool (decide (onP a b (gI ([a, b, c, d] : List ((Int) × (Int))) (i : Int))))) (e_call (vals := [Value.agg (List.toArray [Value.int .i64 a.1, Value.int .i64 a.2]), Value.agg (List.toArray [Value.int .i64 b.1, Value.int .i64 b.2]), Value.agg (List.toArray [Value.int .i64 ((gI ([a, b, c, d] : List ((Int) × (Int))) (i : Int)).1), Value.int .i64 ((gI ([a, b, c, d] : List ((Int) × (Int))) (i : Int)).2)])]) Try.func27 bd27_gn nm27_gn rfl) (D2On_ok w42 a b (gI ([a, b, c, d] : List ((Int) × (Int))) (i : Int)) (by assumption) (by assumption) (by assumption)) ?_
   intro w45 hb46
   replace hb46 := chg_below hb46 g40
   refine l_val (v := Value.bool (!(decide (onP a b (gI ([a, b, c, d] : List ((Int) × (Int))) (i : Int)))))) rfl (e_not (b := (decide (onP a b (gI ([a, b, c, d] : List ((Int) × (Int))) (i : Int))))) rfl) ?_
   refine l_val (v := Value.bool (!(decide (onP a b (gI ([a, b, c, d] : List ((Int) × (Int))) (i : Int)))))) rfl (e_move rfl) ?_
   by_cases q55 : (decide (onP a b (gI ([a, b, c, d] : List ((Int) × (Int))) (i : Int)))) = true
   ·
    have C47 : Chg (inl [6]) _ _ _ _ := (ch38.n).seq ((ch43.l rfl).seq (hb46.n))
    replace bx15 := bx15.chg C47 (is_nl rfl)
    refine l_val (v := Value.agg (List.toArray [Value.int .i64 c.1, Value.int .i64 c.2])) (want_y rfl rfl rfl (congrArg Bool.not q55)) (e_load_bxN (ds := [Value.int .i64 c.1, Value.int .i64 c.2]) tp23_gn (by exact zs6) bx15 rfl rfl) ?_
    replace bx20 := bx20.chg C47 (is_nl rfl)
    refine l_val (v := Value.agg (List.toArray [Value.int .i64 d.1, Value.int .i64 d.2])) (want_y rfl rfl rfl (congrArg Bool.not q55)) (e_load_bxN (ds := [Value.int .i64 d.1, Value.int .i64 d.2]) tp23_gn (by exact zs7) bx20 rfl rfl) ?_
    replace bx44 := bx44.chg hb46 (not_no _)
    refine l_val (v := Value.agg (List.toArray [Value.int .i64 ((gI ([a, b, c, d] : List ((Int) × (Int))) (i : Int)).1), Value.int .i64 ((gI ([a, b, c, d] : List ((Int) × (Int))) (i : Int)).2)])) (want_y rfl rfl rfl (congrArg Bool.not q55)) (e_load_bxN (ds := [Value.int .i64 ((gI ([a, b, c, d] : List ((Int) × (Int))) (i : Int)).1), Value.int .i64 ((gI ([a, b, c, d] : List ((Int) × (Int))) (i : Int)).2)]) tp23_gn rfl bx44 rfl rfl) ?_
    refine l_op (want_y rfl rfl rfl (congrArg Bool.not q55)) ?_
    refine o_call (v := Value.bool (decide (onP c d (gI ([a, b, c, d] : List ((Int) × (Int))) (i : Int))))) (e_call (vals := [Value.agg (List.toArray [Value.int .i64 c.1, Value.int .i64 c.2]), Value.agg (List.toArray [Value.int .i64 d.1, Value.int .i64 d.2]), Value.agg (List.toArray [Value.int .i64 ((gI ([a, b, c, d] : List ((Int) × (Int))) (i : Int)).1), Value.int .i64 ((gI ([a, b, c, d] : List ((Int) × (Int))) (i : Int)).2)])]) Try.func27 bd27_gn nm27_gn rfl) (D2On_ok w45 c d (gI ([a, b, c, d] : List ((Int) × (Int))) (i : Int)) (by assumption) (by assumption) (by assumption)) ?_
    intro w48 hb49
    replace hb49 := chg_below hb49 g40
    refine l_val (v := Value.bool (!(decide (onP c d (gI ([a, b, c, d] : List ((Int) × (Int))) (i : Int)))))) (want_y rfl rfl rfl (congrArg Bool.not q55)) (e_not (b := (decide (onP c d (gI ([a, b, c, d] : List ((Int) × (Int))) (i : Int))))) rfl) ?_
    refine l_val (v := Value.bool (!(decide (onP c d (gI ([a, b, c, d] : List ((Int) × (Int))) (i : Int)))))) rfl (e_pick_f rfl (congrArg Bool.not q55) rfl) ?_
    refine l_nil ?_
    by_cases p9 : (decide (onP c d (gI ([a, b, c, d] : List ((Int) × (Int))) (i : Int)))) = true
    ·
     refine run_cond_f rfl (congrArg Bool.not p9) ?_
     refine run_skip ?_
     refine run_seq (run_region rfl ?_)
     refine l_val (v := Value.bool true) rfl (e_assign rfl) ?_
     refine l_nil (run_seq (run_seq (run_region rfl ?_)))
     refine l_val (v := Value.int .i64 0) rfl (e_assign rfl) ?_
     refine l_nil ?_
     refine run_block ?_
     refine run_loop (σ := Bool × Nat × Cmap) (fun ⟨fr, k, gq⟩ f w => Base w0 gq w ∧ f 4 = Value.pointer (some ⟨b3, 0, none⟩) ∧ f 5 = Value.pointer (some ⟨b8, 0, none⟩) ∧ f 6 = Value.pointer (some ⟨b13, 0, none⟩) ∧ f 7 = Value.pointer (some ⟨b18, 0, none⟩) ∧ f 9 = l_v ∧ f 10 = v30 ∧ f 11 = Value.int .i64 (i : Int) ∧ f 12 = Value.pointer (some ⟨b39, 0, none⟩) ∧ f 13 = Value.bool fr ∧ f 14 = Value.int .i64 (k : Int) ∧ Bx gq (is 1) w b3 [Value.int .i64 a.1, Value.int .i64 a.2] ∧ Bx gq (is 2) w b8 [Value.int .i64 b.1, Value.int .i64 b.2] ∧ Bx gq (is 3) w b13 [Value.int .i64 c.1, Value.int .i64 c.2] ∧ Bx gq (is 4) w b18 [Value.int .i64 d.1, Value.int .i64 d.2] ∧ Ow gq (is 5) (is 5) w v30 ([a, b, c, d] : List ((Int) × (Int))) ∧ Ow gq (is 8) (is 8) w l_v l ∧ Bx gq (is 6) w b39 [Value.int .i64 ((gI ([a, b, c, d] : List ((Int) × (Int))) (i : Int)).1), Value.int .i64 ((gI ([a, b, c, d] : List ((Int) × (Int))) (i : Int)).2)] ∧ (k : Int) ≤ ((List.length l : Int) : Int) ∧ (fr = frK l (gI [a, b, c, d] (i : Int)) k ∧ k ≤ l.length)) (fun ⟨fr, k, gq⟩ => Int.toNat (((List.length l : Int) : Int) - (k : Int))) (true, 0, g40) ?_ ?_
     have C50 : Chg (inl [6]) _ _ _ _ := (ch38.n).seq ((ch43.l rfl).seq ((hb46.n).seq (hb49.n)))
     replace hbase := hbase.chg C50 (is_nl rfl)
     replace bx5 := (bx5.chg hb46 (not_no _)).chg hb49 (not_no _)
     replace bx10 := (bx10.chg hb46 (not_no _)).chg hb49 (not_no _)
     replace bx15 := bx15.chg hb49 (not_no _)
     replace bx20 := bx20.chg hb49 (not_no _)
     replace o32 := o32.chg C50 (is_nl rfl) (is_nl rfl)
     replace o_l := o_l.chg C50 (is_nl rfl) (is_nl rfl)
     replace bx44 := bx44.chg hb49 (not_no _)
     · exact ⟨hbase, (by exact zs4), (by exact zs5), (by exact zs6), (by exact zs7), (by exact zs9), (by exact zs10), (by exact zs11), rfl, rfl, rfl, bx5, bx10, bx15, bx20, o32, o_l, bx44, by omega, by exact ⟨rfl, by omega⟩⟩
     clear bx5
     clear bx10
     clear bx15
     clear bx20
     clear o32
     clear o_l
     clear bx44
     clear hbase
     rintro ⟨fr, k, g53⟩ f51 w52 ⟨hbase, zs4, zs5, zs6, zs7, zs9, zs10, zs11, zs12, zs13, zs14, bx5, bx10, bx15, bx20, o32, o_l, bx44, hle_k, hfk⟩ back12
     obtain ⟨hfr, hk2⟩ := hfk
     refine run_seq (run_seq (run_region rfl ?_))
     refine l_val (v := Value.int .i64 (k : Int)) rfl (e_move (by exact zs14)) ?_
     refine l_val (v := l_v) rfl (e_move (by exact zs9)) ?_
     have len54 := (o_l.flat).small
     refine l_val (v := Value.int .i64 (List.length l : Int)) rfl (e_len Try.underlying25 rfl o_l.flat) ?_
     refine l_val (v := Value.bool (decide ((k : Int) < (List.length l : Int)))) rfl (e_lss (m := (k : Int)) (n := (List.length l : Int)) rfl rfl) ?_
     refine l_nil ?_
     by_cases p12 : (k : Int) < (List.length l : Int)
     ·
      refine run_cond_t rfl (decide_eq_true p12) ?_
      refine run_skip ?_
      refine run_seq ?_
      refine run_block ?_
      refine region_q g53 rfl mixed_gn (by kernel_rfl) ?_
      intro w56 ch55
      refine q_val (v := Value.bool fr) rfl (fun w' hw' => e_move (by exact zs13)) ?_
      refine q_val (v := Value.bool fr) rfl (fun w' hw' => e_move rfl) ?_
      by_cases q69 : fr = true
      ·
       refine q_val (v := l_v) (want_y rfl rfl rfl q69) (fun w' hw' => e_move (by exact zs9)) ?_
       refine q_val (v := Value.int .i64 (k : Int)) (want_y rfl rfl rfl q69) (fun w' hw' => e_move (by exact zs14)) ?_
       replace o_l := o_l.chg ch55 (not_no _) (not_no _)
       refine q_val (v := Value.pointer (some (eAddr l_v 2 (Int.toNat (k : Int))))) (want_y rfl rfl rfl q69) (fun w' hw' => e_indexAddr (α := (Int) × (Int)) (xs := l) (v := l_v) (i := (k : Int)) Try.underlying25 rfl rfl (o_l.flat.bel hw') rfl (by omega) (by omega)) ?_
       refine q_val (v := Value.agg (List.toArray [Value.int .i64 ((gI l (k : Int)).1), Value.int .i64 ((gI l (k : Int)).2)])) (want_y rfl rfl rfl q69) (fun w' hw' => e_load_elN (α := (Int) × (Int)) (xs := l) (v := l_v) (i := (k : Int)) tp23_gn rfl (o_l.flat.bel hw') (by omega) (by omega) rfl) ?_
       replace bx44 := bx44.chg ch55 (not_no _)
       refine q_val (v := Value.agg (List.toArray [Value.int .i64 ((gI ([a, b, c, d] : List ((Int) × (Int))) (i : Int)).1), Value.int .i64 ((gI ([a, b, c, d] : List ((Int) × (Int))) (i : Int)).2)])) (want_y rfl rfl rfl q69) (fun w' hw' => e_load_bxN (ds := [Value.int .i64 ((gI ([a, b, c, d] : List ((Int) × (Int))) (i : Int)).1), Value.int .i64 ((gI ([a, b, c, d] : List ((Int) × (Int))) (i : Int)).2)]) tp23_gn (by exact zs12) (bx44.bel hw') rfl rfl) ?_
       refine q_val (v := Value.bool (!(decide ((gI l (k : Int)) = (gI ([a, b, c, d] : List ((Int) × (Int))) (i : Int)))))) (want_y rfl rfl rfl q69) (fun w' hw' => e_neq_struct (bs := [decide (((gI l (k : Int)).1) = ((gI ([a, b, c, d] : List ((Int) × (Int))) (i : Int)).1)), decide (((gI l (k : Int)).2) = ((gI ([a, b, c, d] : List ((Int) × (Int))) (i : Int)).2))]) Try.underlying23 (by kernel_rfl) (by kernel_rfl) rfl rfl (.cons (by decide +kernel) tp3_gn rfl rfl (.int Try.underlying3) (.cons (by decide +kernel) tp3_gn rfl rfl (.int Try.underlying3) .nil)) (by simp [Prod.ext_iff, Bool.decide_and, Bool.and_assoc])) ?_
       refine q_val (v := Value.bool (!(decide ((gI l (k : Int)) = (gI ([a, b, c, d] : List ((Int) × (Int))) (i : Int)))))) rfl (fun w' hw' => e_pick_t rfl q69 rfl) ?_
       refine q_val (v := Value.bool (!(decide ((gI l (k : Int)) = (gI ([a, b, c, d] : List ((Int) × (Int))) (i : Int)))))) rfl (fun w' hw' => e_assign rfl) ?_
       refine q_nil ?_
       intro w57 hc58
       replace hc58 := chg_below hc58 g53
       refine run_inBlock ?_
       refine run_region rfl ?_
       refine l_val (v := Value.int .i64 (k : Int)) rfl (e_move (by exact zs14)) ?_
       refine l_val (v := Value.int .i64 ((k : Int) + 1)) rfl (e_add (m := (k : Int)) (n := 1) rfl rfl (by omega)) ?_
       refine l_val (v := Value.int .i64 ((k : Int) + 1)) rfl (e_assign rfl) ?_
       refine l_nil ?_
       replace hbase := hbase.chg ch55 (not_no _)
       replace hbase := hbase.chg hc58 (not_no _)
       replace bx5 := (bx5.chg ch55 (not_no _)).chg hc58 (not_no _)
       replace bx10 := (bx10.chg ch55 (not_no _)).chg hc58 (not_no _)
       replace bx15 := (bx15.chg ch55 (not_no _)).chg hc58 (not_no _)
       replace bx20 := (bx20.chg ch55 (not_no _)).chg hc58 (not_no _)
       replace o32 := (o32.chg ch55 (not_no _) (not_no _)).chg hc58 (not_no _) (not_no _)
       replace o_l := o_l.chg hc58 (not_no _) (not_no _)
       replace bx44 := bx44.chg hc58 (not_no _)
       refine back12 (!(decide ((gI l (k : Int)) = (gI ([a, b, c, d] : List ((Int) × (Int))) (i : Int)))), k + 1, g53) _ _ ⟨hbase, (by exact zs4), (by exact zs5), (by exact zs6), (by exact zs7), (by exact zs9), (by exact zs10), (by exact zs11), (by exact zs12), rfl, rfl, bx5, bx10, bx15, bx20, o32, o_l, bx44, by omega, ?_⟩ ?_
       · show (!(decide ((gI l (k : Int)) = (gI ([a, b, c, d] : List ((Int) × (Int))) (i : Int))))) = frK l (gI [a, b, c, d] (i : Int)) (k + 1) ∧ (k + 1) ≤ l.length
         refine ⟨?_, by omega⟩
         first
           | (rw [frK, ← hfr, (show fr = true by assumption)]; rfl)
           | (rw [frK, ← hfr, Bool.eq_false_iff.2 (show ¬ fr = true by assumption)]; rfl)
       · show Int.toNat (((List.length l : Int) : Int) - ((k + 1) : Int)) < Int.toNat (((List.length l : Int) : Int) - (k : Int))
         omega
      refine q_skip (want_n rfl rfl rfl (Bool.eq_false_iff.2 q69)) ?_
      refine q_skip (want_n rfl rfl rfl (Bool.eq_false_iff.2 q69)) ?_
      refine q_skip (want_n rfl rfl rfl (Bool.eq_false_iff.2 q69)) ?_
      refine q_skip (want_n rfl rfl rfl (Bool.eq_false_iff.2 q69)) ?_
      refine q_skip (want_n rfl rfl rfl (Bool.eq_false_iff.2 q69)) ?_
      refine q_skip (want_n rfl rfl rfl (Bool.eq_false_iff.2 q69)) ?_
      refine q_val (v := Value.bool false) rfl (fun w' hw' => e_pick_f rfl (Bool.eq_false_iff.2 q69) rfl) ?_
      refine q_val (v := Value.bool false) rfl (fun w' hw' => e_assign rfl) ?_
      refine q_nil ?_
      intro w59 hc60
      replace hc60 := chg_below hc60 g53
      refine run_inBlock ?_
      refine run_region rfl ?_
      refine l_val (v := Value.int .i64 (k : Int)) rfl (e_move (by exact zs14)) ?_
      refine l_val (v := Value.int .i64 ((k : Int) + 1)) rfl (e_add (m := (k : Int)) (n := 1) rfl rfl (by omega)) ?_
      refine l_val (v := Value.int .i64 ((k : Int) + 1)) rfl (e_assign rfl) ?_
      refine l_nil ?_
      replace hbase := hbase.chg ch55 (not_no _)
      replace hbase := hbase.chg hc60 (not_no _)
      replace bx5 := (bx5.chg ch55 (not_no _)).chg hc60 (not_no _)
      replace bx10 := (bx10.chg ch55 (not_no _)).chg hc60 (not_no _)
      replace bx15 := (bx15.chg ch55 (not_no _)).chg hc60 (not_no _)
      replace bx20 := (bx20.chg ch55 (not_no _)).chg hc60 (not_no _)
      replace o32 := (o32.chg ch55 (not_no _) (not_no _)).chg hc60 (not_no _) (not_no _)
      replace o_l := (o_l.chg ch55 (not_no _) (not_no _)).chg hc60 (not_no _) (not_no _)
      replace bx44 := (bx44.chg ch55 (not_no _)).chg hc60 (not_no _)
      refine back12 (false, k + 1, g53) _ _ ⟨hbase, (by exact zs4), (by exact zs5), (by exact zs6), (by exact zs7), (by exact zs9), (by exact zs10), (by exact zs11), (by exact zs12), rfl, rfl, bx5, bx10, bx15, bx20, o32, o_l, bx44, by omega, ?_⟩ ?_
      · show false = frK l (gI [a, b, c, d] (i : Int)) (k + 1) ∧ (k + 1) ≤ l.length
        refine ⟨?_, by omega⟩
        first
          | (rw [frK, ← hfr, (show fr = true by assumption)]; rfl)
          | (rw [frK, ← hfr, Bool.eq_false_iff.2 (show ¬ fr = true by assumption)]; rfl)
      · show Int.toNat (((List.length l : Int) : Int) - ((k + 1) : Int)) < Int.toNat (((List.length l : Int) : Int) - (k : Int))
        omega
     refine run_cond_f rfl (decide_eq_false p12) ?_
     refine run_exit rfl ?_
     refine run_seq (run_region rfl ?_)
     refine l_val (v := Value.bool fr) rfl (e_move (by exact zs13)) ?_
     refine l_nil ?_
     by_cases p15 : fr = true
     ·
      refine run_cond_t rfl p15 ?_
      refine run_region rfl ?_
      refine l_val (v := l_v) rfl (e_move (by exact zs9)) ?_
      refine l_val (v := Value.agg (List.toArray [Value.int .i64 ((gI ([a, b, c, d] : List ((Int) × (Int))) (i : Int)).1), Value.int .i64 ((gI ([a, b, c, d] : List ((Int) × (Int))) (i : Int)).2)])) rfl (e_load_bxN (ds := [Value.int .i64 ((gI ([a, b, c, d] : List ((Int) × (Int))) (i : Int)).1), Value.int .i64 ((gI ([a, b, c, d] : List ((Int) × (Int))) (i : Int)).2)]) tp23_gn (by exact zs12) bx44 rfl rfl) ?_
      refine l_op rfl ?_
      refine o_buildSlice (α := (Int) × (Int)) g53 (is 7) (is 7) (7, 0) rfl ([(gI ([a, b, c, d] : List ((Int) × (Int))) (i : Int))] : List ((Int) × (Int))) Try.underlying25 tp23_gn (by decide) (by decide) (vs := [(0, Value.agg (List.toArray [Value.int .i64 ((gI ([a, b, c, d] : List ((Int) × (Int))) (i : Int)).1), Value.int .i64 ((gI ([a, b, c, d] : List ((Int) × (Int))) (i : Int)).2)]))]) rfl rfl (.cons rfl .nil) ?_
      intro g61 w62 v63 ch64 o65
      refine l_op rfl ?_
      replace o_l := o_l.chg ch64 (not_no _) (not_no _)
      refine o_append (α := (Int) × (Int)) (xs := l) (ys := ([(gI ([a, b, c, d] : List ((Int) × (Int))) (i : Int))] : List ((Int) × (Int)))) g61 (J := is 8) (S := is 8) (8, 0) rfl Try.underlying25 tp23_gn (by decide) rfl rfl rfl o_l o65.flat (by decide) (by first | omega | (simp; done) | (simp; omega)) ?_
      intro g66 w67 v68 ch69 o70
      clear o_l
      refine l_val (v := v68) rfl (e_assign rfl) ?_
      refine l_nil ?_
      refine run_inBlock ?_
      clear bx44
      clear o65
      refine run_region rfl ?_
      refine l_val (v := Value.int .i64 (i : Int)) rfl (e_move (by exact zs11)) ?_
      refine l_val (v := Value.int .i64 ((i : Int) + 1)) rfl (e_add (m := (i : Int)) (n := 1) rfl rfl (by omega)) ?_
      refine l_val (v := Value.int .i64 ((i : Int) + 1)) rfl (e_assign rfl) ?_
      refine l_nil ?_
      replace hbase := hbase.chg ch64 (not_no _)
      replace hbase := hbase.chg ch69 (is_ne rfl)
      replace bx5 := (bx5.chg ch64 (not_no _)).chg ch69 (is_ne rfl)
      replace bx10 := (bx10.chg ch64 (not_no _)).chg ch69 (is_ne rfl)
      replace bx15 := (bx15.chg ch64 (not_no _)).chg ch69 (is_ne rfl)
      replace bx20 := (bx20.chg ch64 (not_no _)).chg ch69 (is_ne rfl)
      replace o32 := (o32.chg ch64 (not_no _) (not_no _)).chg ch69 (is_ne rfl) (is_ne rfl)
      refine back6 (v68, (l ++ ([(gI ([a, b, c, d] : List ((Int) × (Int))) (i : Int))] : List ((Int) × (Int)))), i + 1, g66) _ _ ⟨hbase, (by exact zs4), (by exact zs5), (by exact zs6), (by exact zs7), rfl, (by exact zs10), rfl, bx5, bx10, bx15, bx20, o32, o70, by omega, ?_⟩ ?_
      · show (l ++ ([(gI ([a, b, c, d] : List ((Int) × (Int))) (i : Int))] : List ((Int) × (Int)))) = comL a b c d [a, b, c, d] (i + 1) ∧ (i + 1) ≤ 4
        refine ⟨?_, by omega⟩
        first
          | exact comL_not hl (fun h => absurd (decide_eq_true h.1) (by assumption))
          | exact comL_not hl (fun h => absurd (decide_eq_true h.2) (by assumption))
          | exact comL_step hl ⟨of_decide_eq_true (by assumption), of_decide_eq_true (by assumption)⟩ ((fr_in (by assumption) hk2).1 (by rw [← hfr]; assumption))
          | exact comL_old hl (Classical.byContradiction fun hm => absurd (hfr.trans ((fr_in (by assumption) hk2).2 hm)) (by assumption))
      · show 4 - (i + 1) < 4 - i
        omega
     refine run_cond_f rfl (Bool.eq_false_iff.2 p15) ?_
     refine run_skip ?_
     refine run_inBlock ?_
     clear bx44
     refine run_region rfl ?_
     refine l_val (v := Value.int .i64 (i : Int)) rfl (e_move (by exact zs11)) ?_
     refine l_val (v := Value.int .i64 ((i : Int) + 1)) rfl (e_add (m := (i : Int)) (n := 1) rfl rfl (by omega)) ?_
     refine l_val (v := Value.int .i64 ((i : Int) + 1)) rfl (e_assign rfl) ?_
     refine l_nil ?_
     refine back6 (l_v, l, i + 1, g53) _ _ ⟨hbase, (by exact zs4), (by exact zs5), (by exact zs6), (by exact zs7), (by exact zs9), (by exact zs10), rfl, bx5, bx10, bx15, bx20, o32, o_l, by omega, ?_⟩ ?_
     · show l = comL a b c d [a, b, c, d] (i + 1) ∧ (i + 1) ≤ 4
       refine ⟨?_, by omega⟩
       first
         | exact comL_not hl (fun h => absurd (decide_eq_true h.1) (by assumption))
         | exact comL_not hl (fun h => absurd (decide_eq_true h.2) (by assumption))
         | exact comL_step hl ⟨of_decide_eq_true (by assumption), of_decide_eq_true (by assumption)⟩ ((fr_in (by assumption) hk2).1 (by rw [← hfr]; assumption))
         | exact comL_old hl (Classical.byContradiction fun hm => absurd (hfr.trans ((fr_in (by assumption) hk2).2 hm)) (by assumption))
     · show 4 - (i + 1) < 4 - i
       omega
    refine run_cond_t rfl (congrArg Bool.not (Bool.eq_false_iff.2 p9)) ?_
    refine run_exit rfl ?_
    clear bx44
    refine run_region rfl ?_
    refine l_val (v := Value.int .i64 (i : Int)) rfl (e_move (by exact zs11)) ?_
    refine l_val (v := Value.int .i64 ((i : Int) + 1)) rfl (e_add (m := (i : Int)) (n := 1) rfl rfl (by omega)) ?_
    refine l_val (v := Value.int .i64 ((i : Int) + 1)) rfl (e_assign rfl) ?_
    refine l_nil ?_
    have C71 : Chg (inl [6]) _ _ _ _ := (ch38.n).seq ((ch43.l rfl).seq ((hb46.n).seq (hb49.n)))
    replace hbase := hbase.chg C71 (is_nl rfl)
    replace bx5 := (bx5.chg hb46 (not_no _)).chg hb49 (not_no _)
    replace bx10 := (bx10.chg hb46 (not_no _)).chg hb49 (not_no _)
    replace bx15 := bx15.chg hb49 (not_no _)
    replace bx20 := bx20.chg hb49 (not_no _)
    replace o32 := o32.chg C71 (is_nl rfl) (is_nl rfl)
    replace o_l := o_l.chg C71 (is_nl rfl) (is_nl rfl)
    refine back6 (l_v, l, i + 1, g40) _ _ ⟨hbase, (by exact zs4), (by exact zs5), (by exact zs6), (by exact zs7), (by exact zs9), (by exact zs10), rfl, bx5, bx10, bx15, bx20, o32, o_l, by omega, ?_⟩ ?_
    · show l = comL a b c d [a, b, c, d] (i + 1) ∧ (i + 1) ≤ 4
      refine ⟨?_, by omega⟩
      first
        | exact comL_not hl (fun h => absurd (decide_eq_true h.1) (by assumption))
        | exact comL_not hl (fun h => absurd (decide_eq_true h.2) (by assumption))
        | exact comL_step hl ⟨of_decide_eq_true (by assumption), of_decide_eq_true (by assumption)⟩ ((fr_in (by assumption) hk2).1 (by rw [← hfr]; assumption))
        | exact comL_old hl (Classical.byContradiction fun hm => absurd (hfr.trans ((fr_in (by assumption) hk2).2 hm)) (by assumption))
    · show 4 - (i + 1) < 4 - i
      omega
   refine l_skip (want_n rfl rfl rfl (congrArg Bool.not (Bool.eq_false_iff.2 q55))) ?_
   refine l_skip (want_n rfl rfl rfl (congrArg Bool.not (Bool.eq_false_iff.2 q55))) ?_
   refine l_skip (want_n rfl rfl rfl (congrArg Bool.not (Bool.eq_false_iff.2 q55))) ?_
   refine l_skip (want_n rfl rfl rfl (congrArg Bool.not (Bool.eq_false_iff.2 q55))) ?_
   refine l_skip (want_n rfl rfl rfl (congrArg Bool.not (Bool.eq_false_iff.2 q55))) ?_
   refine l_val (v := Value.bool true) rfl (e_pick_t rfl (congrArg Bool.not (Bool.eq_false_iff.2 q55)) rfl) ?_
   refine l_nil ?_
   refine run_cond_t rfl rfl ?_
   refine run_exit rfl ?_
   clear bx44
   refine run_region rfl ?_
   refine l_val (v := Value.int .i64 (i : Int)) rfl (e_move (by exact zs11)) ?_
   refine l_val (v := Value.int .i64 ((i : Int) + 1)) rfl (e_add (m := (i : Int)) (n := 1) rfl rfl (by omega)) ?_
   refine l_val (v := Value.int .i64 ((i : Int) + 1)) rfl (e_assign rfl) ?_
   refine l_nil ?_
   have C72 : Chg (inl [6]) _ _ _ _ := (ch38.n).seq ((ch43.l rfl).seq (hb46.n))
   replace hbase := hbase.chg C72 (is_nl rfl)
   replace bx5 := bx5.chg hb46 (not_no _)
   replace bx10 := bx10.chg hb46 (not_no _)
   replace bx15 := bx15.chg C72 (is_nl rfl)
   replace bx20 := bx20.chg C72 (is_nl rfl)
   replace o32 := o32.chg C72 (is_nl rfl) (is_nl rfl)
   replace o_l := o_l.chg C72 (is_nl rfl) (is_nl rfl)
   refine back6 (l_v, l, i + 1, g40) _ _ ⟨hbase, (by exact zs4), (by exact zs5), (by exact zs6), (by exact zs7), (by exact zs9), (by exact zs10), rfl, bx5, bx10, bx15, bx20, o32, o_l, by omega, ?_⟩ ?_
   · show l = comL a b c d [a, b, c, d] (i + 1) ∧ (i + 1) ≤ 4
     refine ⟨?_, by omega⟩
     first
       | exact comL_not hl (fun h => absurd (decide_eq_true h.1) (by assumption))
       | exact comL_not hl (fun h => absurd (decide_eq_true h.2) (by assumption))
       | exact comL_step hl ⟨of_decide_eq_true (by assumption), of_decide_eq_true (by assumption)⟩ ((fr_in (by assumption) hk2).1 (by rw [← hfr]; assumption))
       | exact comL_old hl (Classical.byContradiction fun hm => absurd (hfr.trans ((fr_in (by assumption) hk2).2 hm)) (by assumption))
   · show 4 - (i + 1) < 4 - i
     omega
  refine run_cond_f rfl (decide_eq_false p6) ?_
  refine run_exit rfl ?_
  refine run_seq (run_seq ?_)
  clear bx5
  clear bx10
  clear bx15
  clear bx20
  clear o32
  have hE : l = comL a b c d [a, b, c, d] 4 := by rw [hl, show i = 4 by omega]
  have hnc : ¬ crossP a b c d := by rintro ⟨h1, h2⟩; first | exact absurd h1 (by assumption) | exact absurd h2 (by assumption)
  obtain ⟨hr1, hr2, hr3⟩ := refM_of hE hnc
  refine run_region rfl ?_
  refine l_val (v := l_v) rfl (e_move (by exact zs9)) ?_
  have len73 := (o_l.flat).small
  refine l_val (v := Value.int .i64 (List.length l : Int)) rfl (e_len Try.underlying25 rfl o_l.flat) ?_
  refine l_nil ?_
  refine run_block ?_
  refine run_seq ?_
  clear o_l
  refine run_region rfl ?_
  refine l_val (v := Value.bool (decide ((List.length l : Int) = 0))) rfl (e_eql (m := (List.length l : Int)) (n := 0) rfl rfl) ?_
  refine l_val (v := Value.bool (decide ((List.length l : Int) = 0))) rfl (e_assign rfl) ?_
  refine l_nil ?_
  by_cases p18 : (List.length l : Int) = 0
  ·
   refine run_cond_t rfl (decide_eq_true p18) ?_
   refine run_seq (run_region rfl ?_)
   refine l_val (v := Value.int .i64 0) rfl (e_assign rfl) ?_
   refine l_nil ?_
   refine run_ret (vs := [Value.int .i64 0]) Try.func23 (.tmp rfl .nil) ?_
   -- return 1
   have e0 : (0 : Int) = (refM a b c d) := by
     first
       | with_reducible exact refM_cross (by assumption) (by assumption)
       | exact hr1 (by omega)
       | exact hr2 (by omega)
       | exact hr3 (by omega) (by omega)
   exact ⟨(congrArg (a₁ := 0) (fun (z0 : Int) => Ending.returned (Value.int .i64 z0)) e0), hbase.below⟩
  refine run_cond_f rfl (decide_eq_false p18) ?_
  refine run_seq (run_region rfl ?_)
  refine l_val (v := Value.bool (decide ((List.length l : Int) = 1))) rfl (e_eql (m := (List.length l : Int)) (n := 1) rfl rfl) ?_
  refine l_val (v := Value.bool (decide ((List.length l : Int) = 1))) rfl (e_assign rfl) ?_
  refine l_nil ?_
  by_cases p20 : (List.length l : Int) = 1
  ·
   refine run_cond_t rfl (decide_eq_true p20) ?_
   refine run_seq (run_region rfl ?_)
   refine l_val (v := Value.int .i64 2) rfl (e_assign rfl) ?_
   refine l_nil ?_
   refine run_ret (vs := [Value.int .i64 2]) Try.func23 (.tmp rfl .nil) ?_
   -- return 2
   have e0 : (2 : Int) = (refM a b c d) := by
     first
       | with_reducible exact refM_cross (by assumption) (by assumption)
       | exact hr1 (by omega)
       | exact hr2 (by omega)
       | exact hr3 (by omega) (by omega)
   exact ⟨(congrArg (a₁ := 2) (fun (z0 : Int) => Ending.returned (Value.int .i64 z0)) e0), hbase.below⟩
  refine run_cond_f rfl (decide_eq_false p20) ?_
  refine run_skip ?_
  refine run_inBlock ?_
  refine run_seq (run_region rfl ?_)
  refine l_val (v := Value.int .i64 3) rfl (e_assign rfl) ?_
  refine l_nil ?_
  refine run_ret (vs := [Value.int .i64 3]) Try.func23 (.tmp rfl .nil) ?_
  -- return 3
  have e0 : (3 : Int) = (refM a b c d) := by
    first
      | with_reducible exact refM_cross (by assumption) (by assumption)
      | exact hr1 (by omega)
      | exact hr2 (by omega)
      | exact hr3 (by omega) (by omega)
  exact ⟨(congrArg (a₁ := 3) (fun (z0 : Int) => Ending.returned (Value.int .i64 z0)) e0), hbase.below⟩
 refine q_skip (want_n rfl rfl rfl (decide_eq_false q25)) ?_
 refine q_skip (want_n rfl rfl rfl (decide_eq_false q25)) ?_
 refine q_skip (want_n rfl rfl rfl (decide_eq_false q25)) ?_
 refine q_skip (want_n rfl rfl rfl (decide_eq_false q25)) ?_
 refine q_skip (want_n rfl rfl rfl (decide_eq_false q25)) ?_
 refine q_skip (want_n rfl rfl rfl (decide_eq_false q25)) ?_
 refine q_skip (want_n rfl rfl rfl (decide_eq_false q25)) ?_
 refine q_skip (want_n rfl rfl rfl (decide_eq_false q25)) ?_
 refine q_skip (want_n rfl rfl rfl (decide_eq_false q25)) ?_
 refine q_skip (want_n rfl rfl rfl (decide_eq_false q25)) ?_
 refine q_val (v := Value.bool false) rfl (fun w' hw' => e_pick_f rfl (decide_eq_false q25) rfl) ?_
 refine q_nil ?_
 intro w74 hc75
 replace hc75 := chg_below hc75 g19
 refine run_cond_f rfl rfl ?_
 refine run_skip ?_
 refine run_seq (run_region rfl ?_)
 refine l_val (v := Value.slice none 0 0) rfl (e_assign rfl) ?_
 refine l_nil (run_seq (run_region rfl ?_))
 replace bx5 := bx5.chg hc75 (not_no _)
 refine l_val (v := Value.agg (List.toArray [Value.int .i64 a.1, Value.int .i64 a.2])) rfl (e_load_bxN (ds := [Value.int .i64 a.1, Value.int .i64 a.2]) tp23_gn rfl bx5 rfl rfl) ?_
 replace bx10 := bx10.chg hc75 (not_no _)
 refine l_val (v := Value.agg (List.toArray [Value.int .i64 b.1, Value.int .i64 b.2])) rfl (e_load_bxN (ds := [Value.int .i64 b.1, Value.int .i64 b.2]) tp23_gn rfl bx10 rfl rfl) ?_
 replace bx15 := bx15.chg hc75 (not_no _)
 refine l_val (v := Value.agg (List.toArray [Value.int .i64 c.1, Value.int .i64 c.2])) rfl (e_load_bxN (ds := [Value.int .i64 c.1, Value.int .i64 c.2]) tp23_gn rfl bx15 rfl rfl) ?_
 replace bx20 := bx20.chg hc75 (not_no _)
 refine l_val (v := Value.agg (List.toArray [Value.int .i64 d.1, Value.int .i64 d.2])) rfl (e_load_bxN (ds := [Value.int .i64 d.1, Value.int .i64 d.2]) tp23_gn rfl bx20 rfl rfl) ?_
 refine l_op rfl ?_
 refine o_buildSlice (α := (Int) × (Int)) g19 (is 5) (is 5) (5, 0) rfl ([a, b, c, d] : List ((Int) × (Int))) Try.underlying25 tp23_gn (by decide) (by decide) (vs := [(0, Value.agg (List.toArray [Value.int .i64 a.1, Value.int .i64 a.2])), (1, Value.agg (List.toArray [Value.int .i64 b.1, Value.int .i64 b.2])), (2, Value.agg (List.toArray [Value.int .i64 c.1, Value.int .i64 c.2])), (3, Value.agg (List.toArray [Value.int .i64 d.1, Value.int .i64 d.2]))]) rfl rfl (.cons rfl (.cons rfl (.cons rfl (.cons rfl .nil)))) ?_
 intro g76 w77 v78 ch79 o80
 refine l_val (v := v78) rfl (e_assign rfl) ?_
 refine l_nil (run_seq (run_seq (run_region rfl ?_)))
 refine l_val (v := Value.int .i64 0) rfl (e_assign rfl) ?_
 refine l_nil ?_
 refine run_block ?_
 refine run_loop (σ := Value × (List ((Int) × (Int))) × Nat × Cmap) (fun ⟨l_v, l, i, gq⟩ f w => Base w0 gq w ∧ f 4 = Value.pointer (some ⟨b3, 0, none⟩) ∧ f 5 = Value.pointer (some ⟨b8, 0, none⟩) ∧ f 6 = Value.pointer (some ⟨b13, 0, none⟩) ∧ f 7 = Value.pointer (some ⟨b18, 0, none⟩) ∧ f 9 = l_v ∧ f 10 = v78 ∧ f 11 = Value.int .i64 (i : Int) ∧ Bx gq (is 1) w b3 [Value.int .i64 a.1, Value.int .i64 a.2] ∧ Bx gq (is 2) w b8 [Value.int .i64 b.1, Value.int .i64 b.2] ∧ Bx gq (is 3) w b13 [Value.int .i64 c.1, Value.int .i64 c.2] ∧ Bx gq (is 4) w b18 [Value.int .i64 d.1, Value.int .i64 d.2] ∧ Ow gq (is 5) (is 5) w v78 ([a, b, c, d] : List ((Int) × (Int))) ∧ Ow gq (is 8) (is 8) w l_v l ∧ (i : Int) ≤ (4 : Int) ∧ (l = comL a b c d [a, b, c, d] i ∧ i ≤ 4)) (fun ⟨l_v, l, i, gq⟩ => 4 - i) (Value.slice none 0 0, [], 0, g76) ?_ ?_
 have C81 : Chg (inl []) _ _ _ _ := (ch2.n).seq ((ch7.n).seq ((ch12.n).seq ((ch17.n).seq ((ch21.n).seq ((hc75.n).seq (ch79.n))))))
 replace hbase := hbase.chg C81 (is_nl rfl)
 replace bx5 := bx5.chg ch79 (not_no _)
 replace bx10 := bx10.chg ch79 (not_no _)
 replace bx15 := bx15.chg ch79 (not_no _)
 replace bx20 := bx20.chg ch79 (not_no _)
 · exact ⟨hbase, rfl, rfl, rfl, rfl, rfl, rfl, rfl, bx5, bx10, bx15, bx20, o80, Ow.nil, by omega, by exact ⟨rfl, by omega⟩⟩
 clear bx5
 clear bx10
 clear bx15
 clear bx20
 clear o80
 clear hbase
 rintro ⟨l_v, l, i, g84⟩ f82 w83 ⟨hbase, zs4, zs5, zs6, zs7, zs9, zs10, zs11, bx5, bx10, bx15, bx20, o80, o_l, hle_i, hinv⟩ back6
 obtain ⟨hl, hi4⟩ := hinv
 have hll : l.length ≤ i := by rw [hl]; exact comL_len i
 refine run_seq (run_seq (run_region rfl ?_))
 refine l_val (v := Value.int .i64 (i : Int)) rfl (e_move (by exact zs11)) ?_
 refine l_val (v := Value.bool (decide ((i : Int) < 4))) rfl (e_lss (m := (i : Int)) (n := 4) rfl rfl) ?_
 refine l_nil ?_
 by_cases p6 : (i : Int) < 4
 ·
  refine run_cond_t rfl (decide_eq_true p6) ?_
  have hei := four_bd ha hb hc hd (i := i) (by assumption)
  refine run_skip ?_
  refine run_seq ?_
  refine run_block ?_
  refine run_seq (run_region rfl ?_)
  refine l_val (v := v78) rfl (e_move (by exact zs10)) ?_
  refine l_val (v := Value.int .i64 (i : Int)) rfl (e_move (by exact zs11)) ?_
  refine l_val (v := Value.pointer (some (eAddr v78 2 (Int.toNat (i : Int))))) rfl (e_indexAddr (α := (Int) × (Int)) (xs := ([a, b, c, d] : List ((Int) × (Int)))) (v := v78) (i := (i : Int)) Try.underlying25 rfl rfl o80.flat rfl (by omega) (by first | omega | (simp only [List.length_set, List.length_append, List.length_cons, List.length_nil, List.length_replicate, List.length_map, List.length_take, List.length_drop]; omega) | (simp; done) | (simp; omega))) ?_
  refine l_val (v := Value.agg (List.toArray [Value.int .i64 ((gI ([a, b, c, d] : List ((Int) × (Int))) (i : Int)).1), Value.int .i64 ((gI ([a, b, c, d] : List ((Int) × (Int))) (i : Int)).2)])) rfl (e_load_elN (α := (Int) × (Int)) (xs := ([a, b, c, d] : List ((Int) × (Int)))) (v := v78) (i := (i : Int)) tp23_gn rfl o80.flat (by omega) (by first | omega | (simp only [List.length_set, List.length_append, List.length_cons, List.length_nil, List.length_replicate, List.length_map, List.length_take, List.length_drop]; omega) | (simp; done) | (simp; omega)) rfl) ?_
  refine l_op rfl ?_
  refine o_alloc g84 (is 6) (6, 0) rfl tp23_gn ?_
  intro g88 w85 b87 ch86 bx89
  replace bx89 : Bx g88 (is 6) w85 b87 [Value.int .i64 0, Value.int .i64 0] := bx89
  refine l_op rfl ?_
  refine o_store_bx (cs' := [Value.int .i64 ((gI ([a, b, c, d] : List ((Int) × (Int))) (i : Int)).1), Value.int .i64 ((gI ([a, b, c, d] : List ((Int) × (Int))) (i : Int)).2)]) tp23_gn rfl rfl bx89 rfl (Nat.le_of_ble_eq_true rfl) (AllOne.all (.cons rfl (.cons rfl .nil))) rfl ?_
  intro w90 ch91 bx92
  clear bx89
  refine l_nil (run_seq (run_seq (run_region rfl ?_)))
  replace bx5 := (bx5.chg ch86 (not_no _)).chg ch91 (is_ne rfl)
  refine l_val (v := Value.agg (List.toArray [Value.int .i64 a.1, Value.int .i64 a.2])) rfl (e_load_bxN (ds := [Value.int .i64 a.1, Value.int .i64 a.2]) tp23_gn (by exact zs4) bx5 rfl rfl) ?_
  replace bx10 := (bx10.chg ch86 (not_no _)).chg ch91 (is_ne rfl)
  refine l_val (v := Value.agg (List.toArray [Value.int .i64 b.1, Value.int .i64 b.2])) rfl (e_load_bxN (ds := [Value.int .i64 b.1, Value.int .i64 b.2]) tp23_gn (by exact zs5) bx10 rfl rfl) ?_
  refine l_val (v := Value.agg (List.toArray [Value.int .i64 ((gI ([a, b, c, d] : List ((Int) × (Int))) (i : Int)).1), Value.int .i64 ((gI ([a, b, c, d] : List ((Int) × (Int))) (i : Int)).2)])) rfl (e_load_bxN (ds := [Value.int .i64 ((gI ([a, b, c, d] : List ((Int) × (Int))) (i : Int)).1), Value.int .i64 ((gI ([a, b, c, d] : List ((Int) × (Int))) (i : Int)).2)]) tp23_gn rfl bx92 rfl rfl) ?_
  refine l_op rfl ?_
  refine o_call (v := Value.bool (decide (onP a b (gI ([a, b, c, d] : List ((Int) × (Int))) (i : Int))))) (e_call (vals := [Value.agg (List.toArray [Value.int .i64 a.1, Value.int .i64 a.2]), Value.agg (List.toArray [Value.int .i64 b.1, Value.int .i64 b.2]), Value.agg (List.toArray [Value.int .i64 ((gI ([a, b, c, d] : List ((Int) × (Int))) (i : Int)).1), Value.int .i64 ((gI ([a, b, c, d] : List ((Int) × (Int))) (i : Int)).2)])]) Try.func27 bd27_gn nm27_gn rfl) (D2On_ok w90 a b (gI ([a, b, c, d] : List ((Int) × (Int))) (i : Int)) (by assumption) (by assumption) (by assumption)) ?_
  intro w93 hb94
  replace hb94 := chg_below hb94 g88
  refine l_val (v := Value.bool (!(decide (onP a b (gI ([a, b, c, d] : List ((Int) × (Int))) (i : Int)))))) rfl (e_not (b := (decide (onP a b (gI ([a, b, c, d] : List ((Int) × (Int))) (i : Int))))) rfl) ?_
  refine l_val (v := Value.bool (!(decide (onP a b (gI ([a, b, c, d] : List ((Int) × (Int))) (i : Int)))))) rfl (e_move rfl) ?_
  by_cases q55 : (decide (onP a b (gI ([a, b, c, d] : List ((Int) × (Int))) (i : Int)))) = true
  ·
   have C95 : Chg (inl [6]) _ _ _ _ := (ch86.n).seq ((ch91.l rfl).seq (hb94.n))
   replace bx15 := bx15.chg C95 (is_nl rfl)
   refine l_val (v := Value.agg (List.toArray [Value.int .i64 c.1, Value.int .i64 c.2])) (want_y rfl rfl rfl (congrArg Bool.not q55)) (e_load_bxN (ds := [Value.int .i64 c.1, Value.int .i64 c.2]) tp23_gn (by exact zs6) bx15 rfl rfl) ?_
   replace bx20 := bx20.chg C95 (is_nl rfl)
   refine l_val (v := Value.agg (List.toArray [Value.int .i64 d.1, Value.int .i64 d.2])) (want_y rfl rfl rfl (congrArg Bool.not q55)) (e_load_bxN (ds := [Value.int .i64 d.1, Value.int .i64 d.2]) tp23_gn (by exact zs7) bx20 rfl rfl) ?_
   replace bx92 := bx92.chg hb94 (not_no _)
   refine l_val (v := Value.agg (List.toArray [Value.int .i64 ((gI ([a, b, c, d] : List ((Int) × (Int))) (i : Int)).1), Value.int .i64 ((gI ([a, b, c, d] : List ((Int) × (Int))) (i : Int)).2)])) (want_y rfl rfl rfl (congrArg Bool.not q55)) (e_load_bxN (ds := [Value.int .i64 ((gI ([a, b, c, d] : List ((Int) × (Int))) (i : Int)).1), Value.int .i64 ((gI ([a, b, c, d] : List ((Int) × (Int))) (i : Int)).2)]) tp23_gn rfl bx92 rfl rfl) ?_
   refine l_op (want_y rfl rfl rfl (congrArg Bool.not q55)) ?_
   refine o_call (v := Value.bool (decide (onP c d (gI ([a, b, c, d] : List ((Int) × (Int))) (i : Int))))) (e_call (vals := [Value.agg (List.toArray [Value.int .i64 c.1, Value.int .i64 c.2]), Value.agg (List.toArray [Value.int .i64 d.1, Value.int .i64 d.2]), Value.agg (List.toArray [Value.int .i64 ((gI ([a, b, c, d] : List ((Int) × (Int))) (i : Int)).1), Value.int .i64 ((gI ([a, b, c, d] : List ((Int) × (Int))) (i : Int)).2)])]) Try.func27 bd27_gn nm27_gn rfl) (D2On_ok w93 c d (gI ([a, b, c, d] : List ((Int) × (Int))) (i : Int)) (by assumption) (by assumption) (by assumption)) ?_
   intro w96 hb97
   replace hb97 := chg_below hb97 g88
   refine l_val (v := Value.bool (!(decide (onP c d (gI ([a, b, c, d] : List ((Int) × (Int))) (i : Int)))))) (want_y rfl rfl rfl (congrArg Bool.not q55)) (e_not (b := (decide (onP c d (gI ([a, b, c, d] : List ((Int) × (Int))) (i : Int))))) rfl) ?_
   refine l_val (v := Value.bool (!(decide (onP c d (gI ([a, b, c, d] : List ((Int) × (Int))) (i : Int)))))) rfl (e_pick_f rfl (congrArg Bool.not q55) rfl) ?_
   refine l_nil ?_
   by_cases p9 : (decide (onP c d (gI ([a, b, c, d] : List ((Int) × (Int))) (i : Int)))) = true
   ·
    refine run_cond_f rfl (congrArg Bool.not p9) ?_
    refine run_skip ?_
    refine run_seq (run_region rfl ?_)
    refine l_val (v := Value.bool true) rfl (e_assign rfl) ?_
    refine l_nil (run_seq (run_seq (run_region rfl ?_)))
    refine l_val (v := Value.int .i64 0) rfl (e_assign rfl) ?_
    refine l_nil ?_
    refine run_block ?_
    refine run_loop (σ := Bool × Nat × Cmap) (fun ⟨fr, k, gq⟩ f w => Base w0 gq w ∧ f 4 = Value.pointer (some ⟨b3, 0, none⟩) ∧ f 5 = Value.pointer (some ⟨b8, 0, none⟩) ∧ f 6 = Value.pointer (some ⟨b13, 0, none⟩) ∧ f 7 = Value.pointer (some ⟨b18, 0, none⟩) ∧ f 9 = l_v ∧ f 10 = v78 ∧ f 11 = Value.int .i64 (i : Int) ∧ f 12 = Value.pointer (some ⟨b87, 0, none⟩) ∧ f 13 = Value.bool fr ∧ f 14 = Value.int .i64 (k : Int) ∧ Bx gq (is 1) w b3 [Value.int .i64 a.1, Value.int .i64 a.2] ∧ Bx gq (is 2) w b8 [Value.int .i64 b.1, Value.int .i64 b.2] ∧ Bx gq (is 3) w b13 [Value.int .i64 c.1, Value.int .i64 c.2] ∧ Bx gq (is 4) w b18 [Value.int .i64 d.1, Value.int .i64 d.2] ∧ Ow gq (is 5) (is 5) w v78 ([a, b, c, d] : List ((Int) × (Int))) ∧ Ow gq (is 8) (is 8) w l_v l ∧ Bx gq (is 6) w b87 [Value.int .i64 ((gI ([a, b, c, d] : List ((Int) × (Int))) (i : Int)).1), Value.int .i64 ((gI ([a, b, c, d] : List ((Int) × (Int))) (i : Int)).2)] ∧ (k : Int) ≤ ((List.length l : Int) : Int) ∧ (fr = frK l (gI [a, b, c, d] (i : Int)) k ∧ k ≤ l.length)) (fun ⟨fr, k, gq⟩ => Int.toNat (((List.length l : Int) : Int) - (k : Int))) (true, 0, g88) ?_ ?_
    have C98 : Chg (inl [6]) _ _ _ _ := (ch86.n).seq ((ch91.l rfl).seq ((hb94.n).seq (hb97.n)))
    replace hbase := hbase.chg C98 (is_nl rfl)
    replace bx5 := (bx5.chg hb94 (not_no _)).chg hb97 (not_no _)
    replace bx10 := (bx10.chg hb94 (not_no _)).chg hb97 (not_no _)
    replace bx15 := bx15.chg hb97 (not_no _)
    replace bx20 := bx20.chg hb97 (not_no _)
    replace o80 := o80.chg C98 (is_nl rfl) (is_nl rfl)
    replace o_l := o_l.chg C98 (is_nl rfl) (is_nl rfl)
    replace bx92 := bx92.chg hb97 (not_no _)
    · exact ⟨hbase, (by exact zs4), (by exact zs5), (by exact zs6), (by exact zs7), (by exact zs9), (by exact zs10), (by exact zs11), rfl, rfl, rfl, bx5, bx10, bx15, bx20, o80, o_l, bx92, by omega, by exact ⟨rfl, by omega⟩⟩
    clear bx5
    clear bx10
    clear bx15
    clear bx20
    clear o80
    clear o_l
    clear bx92
    clear hbase
    rintro ⟨fr, k, g101⟩ f99 w100 ⟨hbase, zs4, zs5, zs6, zs7, zs9, zs10, zs11, zs12, zs13, zs14, bx5, bx10, bx15, bx20, o80, o_l, bx92, hle_k, hfk⟩ back12
    obtain ⟨hfr, hk2⟩ := hfk
    refine run_seq (run_seq (run_region rfl ?_))
    refine l_val (v := Value.int .i64 (k : Int)) rfl (e_move (by exact zs14)) ?_
    refine l_val (v := l_v) rfl (e_move (by exact zs9)) ?_
    have len102 := (o_l.flat).small
    refine l_val (v := Value.int .i64 (List.length l : Int)) rfl (e_len Try.underlying25 rfl o_l.flat) ?_
    refine l_val (v := Value.bool (decide ((k : Int) < (List.length l : Int)))) rfl (e_lss (m := (k : Int)) (n := (List.length l : Int)) rfl rfl) ?_
    refine l_nil ?_
    by_cases p12 : (k : Int) < (List.length l : Int)
    ·
     refine run_cond_t rfl (decide_eq_true p12) ?_
     refine run_skip ?_
     refine run_seq ?_
     refine run_block ?_
     refine region_q g101 rfl mixed_gn (by kernel_rfl) ?_
     intro w104 ch103
     refine q_val (v := Value.bool fr) rfl (fun w' hw' => e_move (by exact zs13)) ?_
     refine q_val (v := Value.bool fr) rfl (fun w' hw' => e_move rfl) ?_
     by_cases q69 : fr = true
     ·
      refine q_val (v := l_v) (want_y rfl rfl rfl q69) (fun w' hw' => e_move (by exact zs9)) ?_
      refine q_val (v := Value.int .i64 (k : Int)) (want_y rfl rfl rfl q69) (fun w' hw' => e_move (by exact zs14)) ?_
      replace o_l := o_l.chg ch103 (not_no _) (not_no _)
      refine q_val (v := Value.pointer (some (eAddr l_v 2 (Int.toNat (k : Int))))) (want_y rfl rfl rfl q69) (fun w' hw' => e_indexAddr (α := (Int) × (Int)) (xs := l) (v := l_v) (i := (k : Int)) Try.underlying25 rfl rfl (o_l.flat.bel hw') rfl (by omega) (by omega)) ?_
      refine q_val (v := Value.agg (List.toArray [Value.int .i64 ((gI l (k : Int)).1), Value.int .i64 ((gI l (k : Int)).2)])) (want_y rfl rfl rfl q69) (fun w' hw' => e_load_elN (α := (Int) × (Int)) (xs := l) (v := l_v) (i := (k : Int)) tp23_gn rfl (o_l.flat.bel hw') (by omega) (by omega) rfl) ?_
      replace bx92 := bx92.chg ch103 (not_no _)
      refine q_val (v := Value.agg (List.toArray [Value.int .i64 ((gI ([a, b, c, d] : List ((Int) × (Int))) (i : Int)).1), Value.int .i64 ((gI ([a, b, c, d] : List ((Int) × (Int))) (i : Int)).2)])) (want_y rfl rfl rfl q69) (fun w' hw' => e_load_bxN (ds := [Value.int .i64 ((gI ([a, b, c, d] : List ((Int) × (Int))) (i : Int)).1), Value.int .i64 ((gI ([a, b, c, d] : List ((Int) × (Int))) (i : Int)).2)]) tp23_gn (by exact zs12) (bx92.bel hw') rfl rfl) ?_
      refine q_val (v := Value.bool (!(decide ((gI l (k : Int)) = (gI ([a, b, c, d] : List ((Int) × (Int))) (i : Int)))))) (want_y rfl rfl rfl q69) (fun w' hw' => e_neq_struct (bs := [decide (((gI l (k : Int)).1) = ((gI ([a, b, c, d] : List ((Int) × (Int))) (i : Int)).1)), decide (((gI l (k : Int)).2) = ((gI ([a, b, c, d] : List ((Int) × (Int))) (i : Int)).2))]) Try.underlying23 (by kernel_rfl) (by kernel_rfl) rfl rfl (.cons (by decide +kernel) tp3_gn rfl rfl (.int Try.underlying3) (.cons (by decide +kernel) tp3_gn rfl rfl (.int Try.underlying3) .nil)) (by simp [Prod.ext_iff, Bool.decide_and, Bool.and_assoc])) ?_
      refine q_val (v := Value.bool (!(decide ((gI l (k : Int)) = (gI ([a, b, c, d] : List ((Int) × (Int))) (i : Int)))))) rfl (fun w' hw' => e_pick_t rfl q69 rfl) ?_
      refine q_val (v := Value.bool (!(decide ((gI l (k : Int)) = (gI ([a, b, c, d] : List ((Int) × (Int))) (i : Int)))))) rfl (fun w' hw' => e_assign rfl) ?_
      refine q_nil ?_
      intro w105 hc106
      replace hc106 := chg_below hc106 g101
      refine run_inBlock ?_
      refine run_region rfl ?_
      refine l_val (v := Value.int .i64 (k : Int)) rfl (e_move (by exact zs14)) ?_
      refine l_val (v := Value.int .i64 ((k : Int) + 1)) rfl (e_add (m := (k : Int)) (n := 1) rfl rfl (by omega)) ?_
      refine l_val (v := Value.int .i64 ((k : Int) + 1)) rfl (e_assign rfl) ?_
      refine l_nil ?_
      replace hbase := hbase.chg ch103 (not_no _)
      replace hbase := hbase.chg hc106 (not_no _)
      replace bx5 := (bx5.chg ch103 (not_no _)).chg hc106 (not_no _)
      replace bx10 := (bx10.chg ch103 (not_no _)).chg hc106 (not_no _)
      replace bx15 := (bx15.chg ch103 (not_no _)).chg hc106 (not_no _)
      replace bx20 := (bx20.chg ch103 (not_no _)).chg hc106 (not_no _)
      replace o80 := (o80.chg ch103 (not_no _) (not_no _)).chg hc106 (not_no _) (not_no _)
      replace o_l := o_l.chg hc106 (not_no _) (not_no _)
      replace bx92 := bx92.chg hc106 (not_no _)
      refine back12 (!(decide ((gI l (k : Int)) = (gI ([a, b, c, d] : List ((Int) × (Int))) (i : Int)))), k + 1, g101) _ _ ⟨hbase, (by exact zs4), (by exact zs5), (by exact zs6), (by exact zs7), (by exact zs9), (by exact zs10), (by exact zs11), (by exact zs12), rfl, rfl, bx5, bx10, bx15, bx20, o80, o_l, bx92, by omega, ?_⟩ ?_
      · show (!(decide ((gI l (k : Int)) = (gI ([a, b, c, d] : List ((Int) × (Int))) (i : Int))))) = frK l (gI [a, b, c, d] (i : Int)) (k + 1) ∧ (k + 1) ≤ l.length
        refine ⟨?_, by omega⟩
        first
          | (rw [frK, ← hfr, (show fr = true by assumption)]; rfl)
          | (rw [frK, ← hfr, Bool.eq_false_iff.2 (show ¬ fr = true by assumption)]; rfl)
      · show Int.toNat (((List.length l : Int) : Int) - ((k + 1) : Int)) < Int.toNat (((List.length l : Int) : Int) - (k : Int))
        omega
     refine q_skip (want_n rfl rfl rfl (Bool.eq_false_iff.2 q69)) ?_
     refine q_skip (want_n rfl rfl rfl (Bool.eq_false_iff.2 q69)) ?_
     refine q_skip (want_n rfl rfl rfl (Bool.eq_false_iff.2 q69)) ?_
     refine q_skip (want_n rfl rfl rfl (Bool.eq_false_iff.2 q69)) ?_
     refine q_skip (want_n rfl rfl rfl (Bool.eq_false_iff.2 q69)) ?_
     refine q_skip (want_n rfl rfl rfl (Bool.eq_false_iff.2 q69)) ?_
     refine q_val (v := Value.bool false) rfl (fun w' hw' => e_pick_f rfl (Bool.eq_false_iff.2 q69) rfl) ?_
     refine q_val (v := Value.bool false) rfl (fun w' hw' => e_assign rfl) ?_
     refine q_nil ?_
     intro w107 hc108
     replace hc108 := chg_below hc108 g101
     refine run_inBlock ?_
     refine run_region rfl ?_
     refine l_val (v := Value.int .i64 (k : Int)) rfl (e_move (by exact zs14)) ?_
     refine l_val (v := Value.int .i64 ((k : Int) + 1)) rfl (e_add (m := (k : Int)) (n := 1) rfl rfl (by omega)) ?_
     refine l_val (v := Value.int .i64 ((k : Int) + 1)) rfl (e_assign rfl) ?_
     refine l_nil ?_
     replace hbase := hbase.chg ch103 (not_no _)
     replace hbase := hbase.chg hc108 (not_no _)
     replace bx5 := (bx5.chg ch103 (not_no _)).chg hc108 (not_no _)
     replace bx10 := (bx10.chg ch103 (not_no _)).chg hc108 (not_no _)
     replace bx15 := (bx15.chg ch103 (not_no _)).chg hc108 (not_no _)
     replace bx20 := (bx20.chg ch103 (not_no _)).chg hc108 (not_no _)
     replace o80 := (o80.chg ch103 (not_no _) (not_no _)).chg hc108 (not_no _) (not_no _)
     replace o_l := (o_l.chg ch103 (not_no _) (not_no _)).chg hc108 (not_no _) (not_no _)
     replace bx92 := (bx92.chg ch103 (not_no _)).chg hc108 (not_no _)
     refine back12 (false, k + 1, g101) _ _ ⟨hbase, (by exact zs4), (by exact zs5), (by exact zs6), (by exact zs7), (by exact zs9), (by exact zs10), (by exact zs11), (by exact zs12), rfl, rfl, bx5, bx10, bx15, bx20, o80, o_l, bx92, by omega, ?_⟩ ?_
     · show false = frK l (gI [a, b, c, d] (i : Int)) (k + 1) ∧ (k + 1) ≤ l.length
       refine ⟨?_, by omega⟩
       first
         | (rw [frK, ← hfr, (show fr = true by assumption)]; rfl)
         | (rw [frK, ← hfr, Bool.eq_false_iff.2 (show ¬ fr = true by assumption)]; rfl)
     · show Int.toNat (((List.length l : Int) : Int) - ((k + 1) : Int)) < Int.toNat (((List.length l : Int) : Int) - (k : Int))
       omega
    refine run_cond_f rfl (decide_eq_false p12) ?_
    refine run_exit rfl ?_
    refine run_seq (run_region rfl ?_)
    refine l_val (v := Value.bool fr) rfl (e_move (by exact zs13)) ?_
    refine l_nil ?_
    by_cases p15 : fr = true
    ·
     refine run_cond_t rfl p15 ?_
     refine run_region rfl ?_
     refine l_val (v := l_v) rfl (e_move (by exact zs9)) ?_
     refine l_val (v := Value.agg (List.toArray [Value.int .i64 ((gI ([a, b, c, d] : List ((Int) × (Int))) (i : Int)).1), Value.int .i64 ((gI ([a, b, c, d] : List ((Int) × (Int))) (i : Int)).2)])) rfl (e_load_bxN (ds := [Value.int .i64 ((gI ([a, b, c, d] : List ((Int) × (Int))) (i : Int)).1), Value.int .i64 ((gI ([a, b, c, d] : List ((Int) × (Int))) (i : Int)).2)]) tp23_gn (by exact zs12) bx92 rfl rfl) ?_
     refine l_op rfl ?_
     refine o_buildSlice (α := (Int) × (Int)) g101 (is 7) (is 7) (7, 0) rfl ([(gI ([a, b, c, d] : List ((Int) × (Int))) (i : Int))] : List ((Int) × (Int))) Try.underlying25 tp23_gn (by decide) (by decide) (vs := [(0, Value.agg (List.toArray [Value.int .i64 ((gI ([a, b, c, d] : List ((Int) × (Int))) (i : Int)).1), Value.int .i64 ((gI ([a, b, c, d] : List ((Int) × (Int))) (i : Int)).2)]))]) rfl rfl (.cons rfl .nil) ?_
     intro g109 w110 v111 ch112 o113
     refine l_op rfl ?_
     replace o_l := o_l.chg ch112 (not_no _) (not_no _)
     refine o_append (α := (Int) × (Int)) (xs := l) (ys := ([(gI ([a, b, c, d] : List ((Int) × (Int))) (i : Int))] : List ((Int) × (Int)))) g109 (J := is 8) (S := is 8) (8, 0) rfl Try.underlying25 tp23_gn (by decide) rfl rfl rfl o_l o113.flat (by decide) (by first | omega | (simp; done) | (simp; omega)) ?_
     intro g114 w115 v116 ch117 o118
     clear o_l
     refine l_val (v := v116) rfl (e_assign rfl) ?_
     refine l_nil ?_
     refine run_inBlock ?_
     clear bx92
     clear o113
     refine run_region rfl ?_
     refine l_val (v := Value.int .i64 (i : Int)) rfl (e_move (by exact zs11)) ?_
     refine l_val (v := Value.int .i64 ((i : Int) + 1)) rfl (e_add (m := (i : Int)) (n := 1) rfl rfl (by omega)) ?_
     refine l_val (v := Value.int .i64 ((i : Int) + 1)) rfl (e_assign rfl) ?_
     refine l_nil ?_
     replace hbase := hbase.chg ch112 (not_no _)
     replace hbase := hbase.chg ch117 (is_ne rfl)
     replace bx5 := (bx5.chg ch112 (not_no _)).chg ch117 (is_ne rfl)
     replace bx10 := (bx10.chg ch112 (not_no _)).chg ch117 (is_ne rfl)
     replace bx15 := (bx15.chg ch112 (not_no _)).chg ch117 (is_ne rfl)
     replace bx20 := (bx20.chg ch112 (not_no _)).chg ch117 (is_ne rfl)
     replace o80 := (o80.chg ch112 (not_no _) (not_no _)).chg ch117 (is_ne rfl) (is_ne rfl)
     refine back6 (v116, (l ++ ([(gI ([a, b, c, d] : List ((Int) × (Int))) (i : Int))] : List ((Int) × (Int)))), i + 1, g114) _ _ ⟨hbase, (by exact zs4), (by exact zs5), (by exact zs6), (by exact zs7), rfl, (by exact zs10), rfl, bx5, bx10, bx15, bx20, o80, o118, by omega, ?_⟩ ?_
     · show (l ++ ([(gI ([a, b, c, d] : List ((Int) × (Int))) (i : Int))] : List ((Int) × (Int)))) = comL a b c d [a, b, c, d] (i + 1) ∧ (i + 1) ≤ 4
       refine ⟨?_, by omega⟩
       first
         | exact comL_not hl (fun h => absurd (decide_eq_true h.1) (by assumption))
         | exact comL_not hl (fun h => absurd (decide_eq_true h.2) (by assumption))
         | exact comL_step hl ⟨of_decide_eq_true (by assumption), of_decide_eq_true (by assumption)⟩ ((fr_in (by assumption) hk2).1 (by rw [← hfr]; assumption))
         | exact comL_old hl (Classical.byContradiction fun hm => absurd (hfr.trans ((fr_in (by assumption) hk2).2 hm)) (by assumption))
     · show 4 - (i + 1) < 4 - i
       omega
    refine run_cond_f rfl (Bool.eq_false_iff.2 p15) ?_
    refine run_skip ?_
    refine run_inBlock ?_
    clear bx92
    refine run_region rfl ?_
    refine l_val (v := Value.int .i64 (i : Int)) rfl (e_move (by exact zs11)) ?_
    refine l_val (v := Value.int .i64 ((i : Int) + 1)) rfl (e_add (m := (i : Int)) (n := 1) rfl rfl (by omega)) ?_
    refine l_val (v := Value.int .i64 ((i : Int) + 1)) rfl (e_assign rfl) ?_
    refine l_nil ?_
    refine back6 (l_v, l, i + 1, g101) _ _ ⟨hbase, (by exact zs4), (by exact zs5), (by exact zs6), (by exact zs7), (by exact zs9), (by exact zs10), rfl, bx5, bx10, bx15, bx20, o80, o_l, by omega, ?_⟩ ?_
    · show l = comL a b c d [a, b, c, d] (i + 1) ∧ (i + 1) ≤ 4
      refine ⟨?_, by omega⟩
      first
        | exact comL_not hl (fun h => absurd (decide_eq_true h.1) (by assumption))
        | exact comL_not hl (fun h => absurd (decide_eq_true h.2) (by assumption))
        | exact comL_step hl ⟨of_decide_eq_true (by assumption), of_decide_eq_true (by assumption)⟩ ((fr_in (by assumption) hk2).1 (by rw [← hfr]; assumption))
        | exact comL_old hl (Classical.byContradiction fun hm => absurd (hfr.trans ((fr_in (by assumption) hk2).2 hm)) (by assumption))
    · show 4 - (i + 1) < 4 - i
      omega
   refine run_cond_t rfl (congrArg Bool.not (Bool.eq_false_iff.2 p9)) ?_
   refine run_exit rfl ?_
   clear bx92
   refine run_region rfl ?_
   refine l_val (v := Value.int .i64 (i : Int)) rfl (e_move (by exact zs11)) ?_
   refine l_val (v := Value.int .i64 ((i : Int) + 1)) rfl (e_add (m := (i : Int)) (n := 1) rfl rfl (by omega)) ?_
   refine l_val (v := Value.int .i64 ((i : Int) + 1)) rfl (e_assign rfl) ?_
   refine l_nil ?_
   have C119 : Chg (inl [6]) _ _ _ _ := (ch86.n).seq ((ch91.l rfl).seq ((hb94.n).seq (hb97.n)))
   replace hbase := hbase.chg C119 (is_nl rfl)
   replace bx5 := (bx5.chg hb94 (not_no _)).chg hb97 (not_no _)
   replace bx10 := (bx10.chg hb94 (not_no _)).chg hb97 (not_no _)
   replace bx15 := bx15.chg hb97 (not_no _)
   replace bx20 := bx20.chg hb97 (not_no _)
   replace o80 := o80.chg C119 (is_nl rfl) (is_nl rfl)
   replace o_l := o_l.chg C119 (is_nl rfl) (is_nl rfl)
   refine back6 (l_v, l, i + 1, g88) _ _ ⟨hbase, (by exact zs4), (by exact zs5), (by exact zs6), (by exact zs7), (by exact zs9), (by exact zs10), rfl, bx5, bx10, bx15, bx20, o80, o_l, by omega, ?_⟩ ?_
   · show l = comL a b c d [a, b, c, d] (i + 1) ∧ (i + 1) ≤ 4
     refine ⟨?_, by omega⟩
     first
       | exact comL_not hl (fun h => absurd (decide_eq_true h.1) (by assumption))
       | exact comL_not hl (fun h => absurd (decide_eq_true h.2) (by assumption))
       | exact comL_step hl ⟨of_decide_eq_true (by assumption), of_decide_eq_true (by assumption)⟩ ((fr_in (by assumption) hk2).1 (by rw [← hfr]; assumption))
       | exact comL_old hl (Classical.byContradiction fun hm => absurd (hfr.trans ((fr_in (by assumption) hk2).2 hm)) (by assumption))
   · show 4 - (i + 1) < 4 - i
     omega
  refine l_skip (want_n rfl rfl rfl (congrArg Bool.not (Bool.eq_false_iff.2 q55))) ?_
  refine l_skip (want_n rfl rfl rfl (congrArg Bool.not (Bool.eq_false_iff.2 q55))) ?_
  refine l_skip (want_n rfl rfl rfl (congrArg Bool.not (Bool.eq_false_iff.2 q55))) ?_
  refine l_skip (want_n rfl rfl rfl (congrArg Bool.not (Bool.eq_false_iff.2 q55))) ?_
  refine l_skip (want_n rfl rfl rfl (congrArg Bool.not (Bool.eq_false_iff.2 q55))) ?_
  refine l_val (v := Value.bool true) rfl (e_pick_t rfl (congrArg Bool.not (Bool.eq_false_iff.2 q55)) rfl) ?_
  refine l_nil ?_
  refine run_cond_t rfl rfl ?_
  refine run_exit rfl ?_
  clear bx92
  refine run_region rfl ?_
  refine l_val (v := Value.int .i64 (i : Int)) rfl (e_move (by exact zs11)) ?_
  refine l_val (v := Value.int .i64 ((i : Int) + 1)) rfl (e_add (m := (i : Int)) (n := 1) rfl rfl (by omega)) ?_
  refine l_val (v := Value.int .i64 ((i : Int) + 1)) rfl (e_assign rfl) ?_
  refine l_nil ?_
  have C120 : Chg (inl [6]) _ _ _ _ := (ch86.n).seq ((ch91.l rfl).seq (hb94.n))
  replace hbase := hbase.chg C120 (is_nl rfl)
  replace bx5 := bx5.chg hb94 (not_no _)
  replace bx10 := bx10.chg hb94 (not_no _)
  replace bx15 := bx15.chg C120 (is_nl rfl)
  replace bx20 := bx20.chg C120 (is_nl rfl)
  replace o80 := o80.chg C120 (is_nl rfl) (is_nl rfl)
  replace o_l := o_l.chg C120 (is_nl rfl) (is_nl rfl)
  refine back6 (l_v, l, i + 1, g88) _ _ ⟨hbase, (by exact zs4), (by exact zs5), (by exact zs6), (by exact zs7), (by exact zs9), (by exact zs10), rfl, bx5, bx10, bx15, bx20, o80, o_l, by omega, ?_⟩ ?_
  · show l = comL a b c d [a, b, c, d] (i + 1) ∧ (i + 1) ≤ 4
    refine ⟨?_, by omega⟩
    first
      | exact comL_not hl (fun h => absurd (decide_eq_true h.1) (by assumption))
      | exact comL_not hl (fun h => absurd (decide_eq_true h.2) (by assumption))
      | exact comL_step hl ⟨of_decide_eq_true (by assumption), of_decide_eq_true (by assumption)⟩ ((fr_in (by assumption) hk2).1 (by rw [← hfr]; assumption))
      | exact comL_old hl (Classical.byContradiction fun hm => absurd (hfr.trans ((fr_in (by assumption) hk2).2 hm)) (by assumption))
  · show 4 - (i + 1) < 4 - i
    omega
 refine run_cond_f rfl (decide_eq_false p6) ?_
 refine run_exit rfl ?_
 refine run_seq (run_seq ?_)
 clear bx5
 clear bx10
 clear bx15
 clear bx20
 clear o80
 have hE : l = comL a b c d [a, b, c, d] 4 := by rw [hl, show i = 4 by omega]
 have hnc : ¬ crossP a b c d := by rintro ⟨h1, h2⟩; first | exact absurd h1 (by assumption) | exact absurd h2 (by assumption)
 obtain ⟨hr1, hr2, hr3⟩ := refM_of hE hnc
 refine run_region rfl ?_
 refine l_val (v := l_v) rfl (e_move (by exact zs9)) ?_
 have len121 := (o_l.flat).small
 refine l_val (v := Value.int .i64 (List.length l : Int)) rfl (e_len Try.underlying25 rfl o_l.flat) ?_
 refine l_nil ?_
 refine run_block ?_
 refine run_seq ?_
 clear o_l
 refine run_region rfl ?_
 refine l_val (v := Value.bool (decide ((List.length l : Int) = 0))) rfl (e_eql (m := (List.length l : Int)) (n := 0) rfl rfl) ?_
 refine l_val (v := Value.bool (decide ((List.length l : Int) = 0))) rfl (e_assign rfl) ?_
 refine l_nil ?_
 by_cases p18 : (List.length l : Int) = 0
 ·
  refine run_cond_t rfl (decide_eq_true p18) ?_
  refine run_seq (run_region rfl ?_)
  refine l_val (v := Value.int .i64 0) rfl (e_assign rfl) ?_
  refine l_nil ?_
  refine run_ret (vs := [Value.int .i64 0]) Try.func23 (.tmp rfl .nil) ?_
  -- return 4
  have e0 : (0 : Int) = (refM a b c d) := by
    first
      | with_reducible exact refM_cross (by assumption) (by assumption)
      | exact hr1 (by omega)
      | exact hr2 (by omega)
      | exact hr3 (by omega) (by omega)
  exact ⟨(congrArg (a₁ := 0) (fun (z0 : Int) => Ending.returned (Value.int .i64 z0)) e0), hbase.below⟩
 refine run_cond_f rfl (decide_eq_false p18) ?_
 refine run_seq (run_region rfl ?_)
 refine l_val (v := Value.bool (decide ((List.length l : Int) = 1))) rfl (e_eql (m := (List.length l : Int)) (n := 1) rfl rfl) ?_
 refine l_val (v := Value.bool (decide ((List.length l : Int) = 1))) rfl (e_assign rfl) ?_
 refine l_nil ?_
 by_cases p20 : (List.length l : Int) = 1
 ·
  refine run_cond_t rfl (decide_eq_true p20) ?_
  refine run_seq (run_region rfl ?_)
  refine l_val (v := Value.int .i64 2) rfl (e_assign rfl) ?_
  refine l_nil ?_
  refine run_ret (vs := [Value.int .i64 2]) Try.func23 (.tmp rfl .nil) ?_
  -- return 5
  have e0 : (2 : Int) = (refM a b c d) := by
    first
      | with_reducible exact refM_cross (by assumption) (by assumption)
      | exact hr1 (by omega)
      | exact hr2 (by omega)
      | exact hr3 (by omega) (by omega)
  exact ⟨(congrArg (a₁ := 2) (fun (z0 : Int) => Ending.returned (Value.int .i64 z0)) e0), hbase.below⟩
 refine run_cond_f rfl (decide_eq_false p20) ?_
 refine run_skip ?_
 refine run_inBlock ?_
 refine run_seq (run_region rfl ?_)
 refine l_val (v := Value.int .i64 3) rfl (e_assign rfl) ?_
 refine l_nil ?_
 refine run_ret (vs := [Value.int .i64 3]) Try.func23 (.tmp rfl .nil) ?_
 -- return 6
 have e0 : (3 : Int) = (refM a b c d) := by
   first
     | with_reducible exact refM_cross (by assumption) (by assumption)
     | exact hr1 (by omega)
     | exact hr2 (by omega)
     | exact hr3 (by omega) (by omega)
 exact ⟨(congrArg (a₁ := 3) (fun (z0 : Int) => Ending.returned (Value.int .i64 z0)) e0), hbase.below⟩
end TL
