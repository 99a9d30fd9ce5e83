import Derived.Test.YtifpjbjhkabhgaaTlGmA
import Derived.Test.YtifpjbjhkabhgaaTlGeomB
import Derived.Test.YtifpjbjhkabhgaaProg
import Derived.Test.YtifpjbjhkabhgaaTlNet2
import Derived.Test.YtifpjbjhkabhgaaTlEq
import Derived.Test.YtifpjbjhkabhgaaTlHold
import Derived.Test.YtifpjbjhkabhgaaTlDraw
import Derived.Test.YtifpjbjhkabhgaaTlMap
set_option linter.all false
set_option maxRecDepth 20000
namespace TL
open Go Go.Proofs
theorem mixed_gd : Try.prog.follows .mixedOrders = true := by kernel_rfl
theorem tp3_gd : Tp Try.prog 3 false 1 8 (.int .i64 0) := Tp.of (by kernel_rfl)
theorem tp23_gd : Tp Try.prog 23 true 2 16 (.agg #[.int .i64 0, .int .i64 0]) := Tp.of (by kernel_rfl)
theorem bd37_gd : Try.f37.body.isNone = false := rfl
theorem nm37_gd : (Try.f37.name == "runtime.NumGoroutine") = false := by decide +kernel
theorem bd56_gd : Try.f56.body.isNone = false := rfl
theorem nm56_gd : (Try.f56.name == "runtime.NumGoroutine") = false := by decide +kernel

theorem One_ok (w0 : World) (p : (Int) × (Int)) :
    Calls Try.prog 56 #[Value.agg (List.toArray [Value.int .i64 p.1, Value.int .i64 p.2])] w0 (fun ee w => ee = .returned (Value.bool (decide (okP p))) ∧ Bel w0.heap.size w0 w) := by
 refine calls_of_run Try.func56 rfl (Nat.le_of_ble_eq_true rfl) ?_
 have hbase := Base.start w0
 refine run_seq (run_region rfl (l_op rfl ?_))
 refine o_box c0 (is 1) (1, 0) rfl rfl ?_
 intro g4 w1 b3 ch2 bx5
 replace bx5 : Bx g4 (is 1) w1 b3 [Value.int .i64 p.1, Value.int .i64 p.2] := bx5
 refine l_val (v := Value.bool false) rfl (e_assign rfl) ?_
 refine l_nil (run_seq (run_region rfl ?_))
 refine l_val (v := Value.pointer (some ⟨b3, 0, none⟩)) rfl (e_fieldAddr Try.underlying23 rfl rfl rfl rfl) ?_
 refine l_val (v := Value.int .i64 p.1) rfl (e_load_bx1 tp3_gd rfl bx5 rfl) ?_
 refine l_val (v := Value.bool (decide ((-1048576) ≤ p.1))) rfl (e_geq (m := p.1) (n := -1048576) rfl rfl) ?_
 refine l_val (v := Value.bool (decide ((-1048576) ≤ p.1))) rfl (e_move rfl) ?_
 by_cases q6 : (-1048576) ≤ p.1
 ·
  refine l_val (v := Value.pointer (some ⟨b3, 0, none⟩)) (want_y rfl rfl rfl (decide_eq_true q6)) (e_fieldAddr Try.underlying23 rfl rfl rfl rfl) ?_
  refine l_val (v := Value.int .i64 p.1) (want_y rfl rfl rfl (decide_eq_true q6)) (e_load_bx1 tp3_gd rfl bx5 rfl) ?_
  refine l_val (v := Value.bool (decide (p.1 ≤ 1048576))) (want_y rfl rfl rfl (decide_eq_true q6)) (e_leq (m := p.1) (n := 1048576) rfl rfl) ?_
  refine l_val (v := Value.bool (decide (p.1 ≤ 1048576))) rfl (e_pick_t rfl (decide_eq_true q6) rfl) ?_
  refine l_val (v := Value.bool (decide (p.1 ≤ 1048576))) rfl (e_move rfl) ?_
  by_cases q11 : p.1 ≤ 1048576
  ·
   refine l_val (v := Value.pointer (some ⟨b3, 1, none⟩)) (want_y rfl rfl rfl (decide_eq_true q11)) (e_fieldAddr Try.underlying23 rfl rfl rfl rfl) ?_
   refine l_val (v := Value.int .i64 p.2) (want_y rfl rfl rfl (decide_eq_true q11)) (e_load_bx1 tp3_gd rfl bx5 rfl) ?_
   refine l_val (v := Value.bool (decide ((-1048576) ≤ p.2))) (want_y rfl rfl rfl (decide_eq_true q11)) (e_geq (m := p.2) (n := -1048576) rfl rfl) ?_
   refine l_val (v := Value.bool (decide ((-1048576) ≤ p.2))) rfl (e_pick_t rfl (decide_eq_true q11) rfl) ?_
   refine l_val (v := Value.bool (decide ((-1048576) ≤ p.2))) rfl (e_move rfl) ?_
   by_cases q16 : (-1048576) ≤ p.2
   ·
    refine l_val (v := Value.pointer (some ⟨b3, 1, none⟩)) (want_y rfl rfl rfl (decide_eq_true q16)) (e_fieldAddr Try.underlying23 rfl rfl rfl rfl) ?_
    refine l_val (v := Value.int .i64 p.2) (want_y rfl rfl rfl (decide_eq_true q16)) (e_load_bx1 tp3_gd rfl bx5 rfl) ?_
    refine l_val (v := Value.bool (decide (p.2 ≤ 1048576))) (want_y rfl rfl rfl (decide_eq_true q16)) (e_leq (m := p.2) (n := 1048576) rfl rfl) ?_
    refine l_val (v := Value.bool (decide (p.2 ≤ 1048576))) rfl (e_pick_t rfl (decide_eq_true q16) rfl) ?_
    refine l_val (v := Value.bool (decide (p.2 ≤ 1048576))) rfl (e_assign rfl) ?_
    refine l_nil ?_
    refine run_ret (vs := [Value.bool (decide (p.2 ≤ 1048576))]) Try.func56 (.tmp rfl .nil) ?_
    -- return 0
    have e0 : (decide (p.2 ≤ 1048576) : Bool) = (decide (okP p)) := by
      first
        | exact (decide_eq_false (by unfold okP; omega)).symm
        | exact (decide_eq_true (by unfold okP; omega)).symm
        | (rw [decide_eq_decide]; unfold okP; omega)
    replace hbase := hbase.chg ch2 (not_no _)
    exact ⟨(congrArg (a₁ := decide (p.2 ≤ 1048576)) (fun (z0 : Bool) => Ending.returned (Value.bool z0)) e0), hbase.below⟩
   refine l_skip (want_n rfl rfl rfl (decide_eq_false q16)) ?_
   refine l_skip (want_n rfl rfl rfl (decide_eq_false q16)) ?_
   refine l_skip (want_n rfl rfl rfl (decide_eq_false q16)) ?_
   refine l_val (v := Value.bool false) rfl (e_pick_f rfl (decide_eq_false q16) rfl) ?_
   refine l_val (v := Value.bool false) rfl (e_assign rfl) ?_
   refine l_nil ?_
   refine run_ret (vs := [Value.bool false]) Try.func56 (.tmp rfl .nil) ?_
   -- return 1
   have e0 : (false : Bool) = (decide (okP p)) := by
     first
       | exact (decide_eq_false (by unfold okP; omega)).symm
       | exact (decide_eq_true (by unfold okP; omega)).symm
       | (rw [decide_eq_decide]; unfold okP; omega)
   replace hbase := hbase.chg ch2 (not_no _)
   exact ⟨(congrArg (a₁ := false) (fun (z0 : Bool) => Ending.returned (Value.bool z0)) e0), hbase.below⟩
  refine l_skip (want_n rfl rfl rfl (decide_eq_false q11)) ?_
  refine l_skip (want_n rfl rfl rfl (decide_eq_false q11)) ?_
  refine l_skip (want_n rfl rfl rfl (decide_eq_false q11)) ?_
  refine l_val (v := Value.bool false) rfl (e_pick_f rfl (decide_eq_false q11) rfl) ?_
  refine l_val (v := Value.bool false) rfl (e_move rfl) ?_
  refine l_skip (want_n rfl rfl rfl rfl) (l_skip (want_n rfl rfl rfl rfl) (l_skip (want_n rfl rfl rfl rfl) ?_))
  refine l_val (v := Value.bool false) rfl (e_pick_f rfl rfl rfl) ?_
  refine l_val (v := Value.bool false) rfl (e_assign rfl) ?_
  refine l_nil ?_
  refine run_ret (vs := [Value.bool false]) Try.func56 (.tmp rfl .nil) ?_
  -- return 2
  have e0 : (false : Bool) = (decide (okP p)) := by
    first
      | exact (decide_eq_false (by unfold okP; omega)).symm
      | exact (decide_eq_true (by unfold okP; omega)).symm
      | (rw [decide_eq_decide]; unfold okP; omega)
  replace hbase := hbase.chg ch2 (not_no _)
  exact ⟨(congrArg (a₁ := false) (fun (z0 : Bool) => Ending.returned (Value.bool z0)) e0), hbase.below⟩
 refine l_skip (want_n rfl rfl rfl (decide_eq_false q6)) ?_
 refine l_skip (want_n rfl rfl rfl (decide_eq_false q6)) ?_
 refine l_skip (want_n rfl rfl rfl (decide_eq_false q6)) ?_
 refine l_val (v := Value.bool false) rfl (e_pick_f rfl (decide_eq_false q6) rfl) ?_
 refine l_val (v := Value.bool false) rfl (e_move rfl) ?_
 refine l_skip (want_n rfl rfl rfl rfl) (l_skip (want_n rfl rfl rfl rfl) (l_skip (want_n rfl rfl rfl rfl) ?_))
 refine l_val (v := Value.bool false) rfl (e_pick_f rfl rfl rfl) ?_
 refine l_val (v := Value.bool false) rfl (e_move rfl) ?_
 refine l_skip (want_n rfl rfl rfl rfl) (l_skip (want_n rfl rfl rfl rfl) (l_skip (want_n rfl rfl rfl rfl) ?_))
 refine l_val (v := Value.bool false) rfl (e_pick_f rfl rfl rfl) ?_
 refine l_val (v := Value.bool false) rfl (e_assign rfl) ?_
 refine l_nil ?_
 refine run_ret (vs := [Value.bool false]) Try.func56 (.tmp rfl .nil) ?_
 -- return 3
 have e0 : (false : Bool) = (decide (okP p)) := by
   first
     | exact (decide_eq_false (by unfold okP; omega)).symm
     | exact (decide_eq_true (by unfold okP; omega)).symm
     | (rw [decide_eq_decide]; unfold okP; omega)
 replace hbase := hbase.chg ch2 (not_no _)
 exact ⟨(congrArg (a₁ := false) (fun (z0 : Bool) => Ending.returned (Value.bool z0)) e0), hbase.below⟩

theorem D2May_ok (w0 : World) (ps : List ((Int) × (Int))) (ps_v : Value) (hps_v : Ro w0 ps_v ps) :
    Calls Try.prog 37 #[ps_v] w0 (fun ee w => ee = .returned (Value.bool (decide (okL ps))) ∧ Bel w0.heap.size w0 w) := by
 refine calls_of_run Try.func37 rfl (Nat.le_of_ble_eq_true rfl) ?_
 have hbase := Base.start w0
 have r_ps_v := hps_v.sl
 refine run_seq (run_region rfl ?_)
 refine l_val (v := Value.bool false) rfl (e_assign rfl) ?_
 refine l_nil (run_seq (run_seq (run_region rfl ?_)))
 refine l_val (v := ps_v) rfl (e_move rfl) ?_
 have len1 := (r_ps_v).small
 refine l_val (v := Value.int .i64 (List.length ps : Int)) rfl (e_len Try.underlying25 rfl r_ps_v) ?_
 refine l_val (v := Value.bool (decide (4096 < (List.length ps : Int)))) rfl (e_gtr (m := (List.length ps : Int)) (n := 4096) rfl rfl) ?_
 refine l_nil ?_
 by_cases p1 : 4096 < (List.length ps : Int)
 ·
  refine run_cond_t rfl (decide_eq_true p1) ?_
  refine run_seq (run_region rfl ?_)
  refine l_val (v := Value.bool false) rfl (e_assign rfl) ?_
  refine l_nil ?_
  refine run_ret (vs := [Value.bool false]) Try.func37 (.tmp rfl .nil) ?_
  -- return 0
  have e0 : (false : Bool) = (decide (okL ps)) := by
    first
      | exact (decide_eq_false (fun h => by have := h.1; omega)).symm
      | exact (decide_eq_true ⟨by omega, okL_gI (fun j hj => hinv j (by omega))⟩).symm
      | (refine (decide_eq_false (fun h => ?_)).symm
         have h1 := h.2 _ (gI_mem (xs := ps) (i := (k : Int)) (by omega) (by omega))
         simp_all; done)
  exact ⟨(congrArg (a₁ := false) (fun (z0 : Bool) => Ending.returned (Value.bool z0)) e0), hbase.below⟩
 refine run_cond_f rfl (decide_eq_false p1) ?_
 refine run_skip ?_
 refine run_seq (run_seq (run_region rfl ?_))
 refine l_val (v := Value.int .i64 0) rfl (e_assign rfl) ?_
 refine l_nil ?_
 refine run_block ?_
 refine run_loop (σ := Nat × Cmap) (fun ⟨k, gq⟩ f w => Base w0 gq w ∧ f 0 = ps_v ∧ f 3 = Value.int .i64 (k : Int) ∧ Sl gq (is 0) w ps_v ps ∧ (k : Int) ≤ ((List.length ps : Int) : Int) ∧ (∀ j : Nat, j < k → okP (gI ps (j : Int)))) (fun ⟨k, gq⟩ => Int.toNat (((List.length ps : Int) : Int) - (k : Int))) (0, c0) ?_ ?_
 · exact ⟨hbase, rfl, rfl, r_ps_v, by omega, by intro j hj; omega⟩
 clear r_ps_v
 clear hbase
 rintro ⟨k, g4⟩ f2 w3 ⟨hbase, zs0, zs3, r_ps_v, hle_k, hinv⟩ back4
 refine run_seq (run_seq (run_region rfl ?_))
 refine l_val (v := Value.int .i64 (k : Int)) rfl (e_move (by exact zs3)) ?_
 refine l_val (v := ps_v) rfl (e_move (by exact zs0)) ?_
 refine l_val (v := Value.int .i64 (List.length ps : Int)) rfl (e_len Try.underlying25 rfl r_ps_v) ?_
 refine l_val (v := Value.bool (decide ((k : Int) < (List.length ps : Int)))) rfl (e_lss (m := (k : Int)) (n := (List.length ps : Int)) rfl rfl) ?_
 refine l_nil ?_
 by_cases p4 : (k : Int) < (List.length ps : Int)
 ·
  refine run_cond_t rfl (decide_eq_true p4) ?_
  refine run_skip ?_
  refine run_seq ?_
  refine run_block ?_
  refine run_seq (run_region rfl ?_)
  refine l_val (v := ps_v) rfl (e_move (by exact zs0)) ?_
  refine l_val (v := Value.int .i64 (k : Int)) rfl (e_move (by exact zs3)) ?_
  refine l_val (v := Value.pointer (some (eAddr ps_v 2 (Int.toNat (k : Int))))) rfl (e_indexAddr (α := (Int) × (Int)) (xs := ps) (v := ps_v) (i := (k : Int)) Try.underlying25 rfl rfl r_ps_v rfl (by omega) (by omega)) ?_
  refine l_val (v := Value.agg (List.toArray [Value.int .i64 ((gI ps (k : Int)).1), Value.int .i64 ((gI ps (k : Int)).2)])) rfl (e_load_elN (α := (Int) × (Int)) (xs := ps) (v := ps_v) (i := (k : Int)) tp23_gd rfl r_ps_v (by omega) (by omega) rfl) ?_
  refine l_op rfl ?_
  refine o_call (v := Value.bool (decide (okP (gI ps (k : Int))))) (e_call (vals := [Value.agg (List.toArray [Value.int .i64 ((gI ps (k : Int)).1), Value.int .i64 ((gI ps (k : Int)).2)])]) Try.func56 bd56_gd nm56_gd rfl) (One_ok w3 (gI ps (k : Int))) ?_
  intro w5 hb6
  replace hb6 := chg_below hb6 g4
  refine l_val (v := Value.bool (!(decide (okP (gI ps (k : Int)))))) rfl (e_not (b := (decide (okP (gI ps (k : Int))))) rfl) ?_
  refine l_nil ?_
  by_cases p6 : (decide (okP (gI ps (k : Int)))) = true
  ·
   refine run_cond_f rfl (congrArg Bool.not p6) ?_
   refine run_skip ?_
   refine run_inBlock ?_
   refine run_region rfl ?_
   refine l_val (v := Value.int .i64 (k : Int)) rfl (e_move (by exact zs3)) ?_
   refine l_val (v := Value.int .i64 ((k : Int) + 1)) rfl (e_add (m := (k : Int)) (n := 1) rfl rfl (by omega)) ?_
   refine l_val (v := Value.int .i64 ((k : Int) + 1)) rfl (e_assign rfl) ?_
   refine l_nil ?_
   replace hbase := hbase.chg hb6 (not_no _)
   replace r_ps_v := r_ps_v.chg hb6 (not_no _)
   refine back4 (k + 1, g4) _ _ ⟨hbase, (by exact zs0), rfl, r_ps_v, by omega, ?_⟩ ?_
   · show ∀ j : Nat, j < (k + 1) → okP (gI ps (j : Int))
     intro j hj
     by_cases e0 : j = k
     · subst e0; simpa using of_decide_eq_true (by assumption)
     · exact hinv j (by omega)
   · show Int.toNat (((List.length ps : Int) : Int) - ((k + 1) : Int)) < Int.toNat (((List.length ps : Int) : Int) - (k : Int))
     omega
  refine run_cond_t rfl (congrArg Bool.not (Bool.eq_false_iff.2 p6)) ?_
  refine run_seq (run_region rfl ?_)
  refine l_val (v := Value.bool false) rfl (e_assign rfl) ?_
  refine l_nil ?_
  refine run_ret (vs := [Value.bool false]) Try.func37 (.tmp rfl .nil) ?_
  -- return 1
  have e0 : (false : Bool) = (decide (okL ps)) := by
    first
      | exact (decide_eq_false (fun h => by have := h.1; omega)).symm
      | exact (decide_eq_true ⟨by omega, okL_gI (fun j hj => hinv j (by omega))⟩).symm
      | (refine (decide_eq_false (fun h => ?_)).symm
         have h1 := h.2 _ (gI_mem (xs := ps) (i := (k : Int)) (by omega) (by omega))
         simp_all; done)
  replace hbase := hbase.chg hb6 (not_no _)
  exact ⟨(congrArg (a₁ := false) (fun (z0 : Bool) => Ending.returned (Value.bool z0)) e0), hbase.below⟩
 refine run_cond_f rfl (decide_eq_false p4) ?_
 refine run_exit rfl ?_
 refine run_seq (run_region rfl ?_)
 refine l_val (v := Value.bool true) rfl (e_assign rfl) ?_
 refine l_nil ?_
 refine run_ret (vs := [Value.bool true]) Try.func37 (.tmp rfl .nil) ?_
 -- return 2
 have e0 : (true : Bool) = (decide (okL ps)) := by
   first
     | exact (decide_eq_false (fun h => by have := h.1; omega)).symm
     | exact (decide_eq_true ⟨by omega, okL_gI (fun j hj => hinv j (by omega))⟩).symm
     | (refine (decide_eq_false (fun h => ?_)).symm
        have h1 := h.2 _ (gI_mem (xs := ps) (i := (k : Int)) (by omega) (by omega))
        simp_all; done)
 exact ⟨(congrArg (a₁ := true) (fun (z0 : Bool) => Ending.returned (Value.bool z0)) e0), hbase.below⟩

theorem err_ok (w0 : World) (ps : List ((Int) × (Int))) (ps_v : Value) (hps_v : Ro w0 ps_v ps) :
    Calls Try.prog 16 #[ps_v] w0 (fun ee w => ee = .returned (Value.int .i64 (errS ps)) ∧ Bel w0.heap.size w0 w) := by
 refine calls_of_run Try.func16 rfl (Nat.le_of_ble_eq_true rfl) ?_
 have hbase := Base.start w0
 have r_ps_v := hps_v.sl
 refine run_seq (run_region rfl ?_)
 refine l_val (v := Value.int .i64 0) rfl (e_assign rfl) ?_
 refine l_nil (run_seq (run_seq (run_region rfl ?_)))
 refine l_val (v := ps_v) rfl (e_move rfl) ?_
 refine l_op rfl ?_
 refine o_call (v := Value.bool (decide (okL ps))) (e_call (vals := [ps_v]) Try.func37 bd37_gd nm37_gd rfl) (D2May_ok w0 ps ps_v (r_ps_v).ro) ?_
 intro w1 hb2
 replace hb2 := chg_below hb2 c0
 refine l_val (v := Value.bool (!(decide (okL ps)))) rfl (e_not (b := (decide (okL ps))) rfl) ?_
 refine l_nil ?_
 by_cases p1 : (decide (okL ps)) = true
 ·
  refine run_cond_f rfl (congrArg Bool.not p1) ?_
  refine run_skip ?_
  refine run_seq (run_region rfl ?_)
  refine l_val (v := Value.int .i64 0) rfl (e_assign rfl) ?_
  refine l_nil ?_
  refine run_ret (vs := [Value.int .i64 0]) Try.func16 (.tmp rfl .nil) ?_
  -- return 0
  have e0 : (0 : Int) = (errS ps) := by
    first
      | (rw [errS, if_pos (of_decide_eq_true (by assumption))]; done)
      | (rw [errS, if_neg (fun h => p1 (decide_eq_true h))]; done)
  replace hbase := hbase.chg hb2 (not_no _)
  exact ⟨(congrArg (a₁ := 0) (fun (z0 : Int) => Ending.returned (Value.int .i64 z0)) e0), hbase.below⟩
 refine run_cond_t rfl (congrArg Bool.not (Bool.eq_false_iff.2 p1)) ?_
 refine run_seq (run_region rfl ?_)
 refine l_val (v := Value.int .i64 1) rfl (e_assign rfl) ?_
 refine l_nil ?_
 refine run_ret (vs := [Value.int .i64 1]) Try.func16 (.tmp rfl .nil) ?_
 -- return 1
 have e0 : (1 : Int) = (errS ps) := by
   first
     | (rw [errS, if_pos (of_decide_eq_true (by assumption))]; done)
     | (rw [errS, if_neg (fun h => p1 (decide_eq_true h))]; done)
 replace hbase := hbase.chg hb2 (not_no _)
 exact ⟨(congrArg (a₁ := 1) (fun (z0 : Int) => Ending.returned (Value.int .i64 z0)) e0), hbase.below⟩
end TL
