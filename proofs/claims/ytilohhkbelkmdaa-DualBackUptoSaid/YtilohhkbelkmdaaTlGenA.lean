import Derived.Test.YtilohhkbelkmdaaProg
import Derived.Test.YtilohhkbelkmdaaTlP3
set_option linter.all false
set_option maxRecDepth 20000
namespace TL
open Go Go.Proofs
theorem mixed_a : Try.prog.follows .mixedOrders = true := by kernel_rfl
theorem tp3_a : Tp Try.prog 3 false 1 8 (.int .i64 0) := Tp.of (by kernel_rfl)
theorem tp22_a : Tp Try.prog 22 false 1 24 (.slice none 0 0) := Tp.of (by kernel_rfl)
theorem tp24_a : Tp Try.prog 24 true 2 32 (.agg #[.int .i64 0, .slice none 0 0]) := Tp.of (by kernel_rfl)
theorem tp60_a : Tp Try.prog 60 true 2 16 (.agg #[.int .i64 0, .int .i64 0]) := Tp.of (by kernel_rfl)
theorem bd35_a : Try.f35.body.isNone = false := rfl
theorem nm35_a : (Try.f35.name == "runtime.NumGoroutine") = false := by decide +kernel
theorem May_ok (w0 : World) (g : (Int) × (List ((Int) × (Int)))) (g_v : Value) (hg_v : Ro w0 g_v g.2) :
    Calls Try.prog 53 #[Value.agg (List.toArray [Value.int .i64 g.1, g_v])] w0 (fun ee w => ee = .returned (Value.bool (mayB g)) ∧ Bel w0.heap.size w0 w) := by
 refine calls_of_run Try.func53 rfl (Nat.le_of_ble_eq_true rfl) ?_
 have hbase := Base.start w0
 have r_g_v := hg_v.sl
 refine run_seq (run_region rfl (l_op rfl ?_))
 refine o_box c0 (is 1) (1, 0) rfl rfl ?_
 intro g4 w1 b3 ch2 bx5
 replace bx5 : Bx g4 (is 1) w1 b3 [Value.int .i64 g.1, g_v] := bx5
 refine l_val (v := Value.bool false) rfl (e_assign rfl) ?_
 refine l_nil (run_seq (run_seq (run_region rfl ?_)))
 refine l_val (v := Value.pointer (some ⟨b3, 0, none⟩)) rfl (e_fieldAddr Try.underlying24 rfl rfl rfl rfl) ?_
 refine l_val (v := Value.int .i64 g.1) rfl (e_load_bx1 tp3_a rfl bx5 rfl) ?_
 refine l_val (v := Value.bool (decide (g.1 < 0))) rfl (e_lss (m := g.1) (n := 0) rfl rfl) ?_
 refine l_val (v := Value.bool (decide (g.1 < 0))) rfl (e_move rfl) ?_
 by_cases q10 : g.1 < 0
 ·
  refine l_skip (want_n rfl rfl rfl (decide_eq_true q10)) ?_
  refine l_skip (want_n rfl rfl rfl (decide_eq_true q10)) ?_
  refine l_skip (want_n rfl rfl rfl (decide_eq_true q10)) ?_
  refine l_val (v := Value.bool true) rfl (e_pick_t rfl (decide_eq_true q10) rfl) ?_
  refine l_val (v := Value.bool true) rfl (e_move rfl) ?_
  refine l_skip (want_n rfl rfl rfl rfl) (l_skip (want_n rfl rfl rfl rfl) (l_skip (want_n rfl rfl rfl rfl) (l_skip (want_n rfl rfl rfl rfl) ?_)))
  refine l_val (v := Value.bool true) rfl (e_pick_t rfl rfl rfl) ?_
  refine l_nil ?_
  refine run_cond_t rfl rfl ?_
  refine run_seq ?_
  clear bx5
  refine run_region rfl ?_
  refine l_val (v := Value.bool false) rfl (e_assign rfl) ?_
  refine l_nil ?_
  refine run_ret (vs := [Value.bool false]) Try.func53 (.tmp rfl .nil) ?_
  -- return 0
  have e0 : (false : Bool) = (mayB g) := by
    first
      | exact (mayB_false (fun h => by unfold MayP at h; omega)).symm
      | exact (mayB_false (fun h => by have h2 := h.2.2.2 _ (gI_mem (xs := g.2) (i := (k : Int)) (by omega) (by assumption)); unfold okE at h2; omega)).symm
      | exact (mayB_true ⟨by omega, by omega, by omega, by rw [List.take_of_length_le (by omega)] at hinv4; exact hinv4⟩).symm
  replace hbase := hbase.chg ch2 (not_no _)
  exact ⟨(congrArg (a₁ := false) (fun (z0 : Bool) => Ending.returned (Value.bool z0)) e0), hbase.below⟩
 refine l_val (v := Value.pointer (some ⟨b3, 0, none⟩)) (want_y rfl rfl rfl (decide_eq_false q10)) (e_fieldAddr Try.underlying24 rfl rfl rfl rfl) ?_
 refine l_val (v := Value.int .i64 g.1) (want_y rfl rfl rfl (decide_eq_false q10)) (e_load_bx1 tp3_a rfl bx5 rfl) ?_
 refine l_val (v := Value.bool (decide (1024 < g.1))) (want_y rfl rfl rfl (decide_eq_false q10)) (e_gtr (m := g.1) (n := 1024) rfl rfl) ?_
 refine l_val (v := Value.bool (decide (1024 < g.1))) rfl (e_pick_f rfl (decide_eq_false q10) rfl) ?_
 refine l_val (v := Value.bool (decide (1024 < g.1))) rfl (e_move rfl) ?_
 by_cases q15 : 1024 < g.1
 ·
  refine l_skip (want_n rfl rfl rfl (decide_eq_true q15)) ?_
  refine l_skip (want_n rfl rfl rfl (decide_eq_true q15)) ?_
  refine l_skip (want_n rfl rfl rfl (decide_eq_true q15)) ?_
  refine l_skip (want_n rfl rfl rfl (decide_eq_true q15)) ?_
  refine l_val (v := Value.bool true) rfl (e_pick_t rfl (decide_eq_true q15) rfl) ?_
  refine l_nil ?_
  refine run_cond_t rfl rfl ?_
  refine run_seq ?_
  clear bx5
  refine run_region rfl ?_
  refine l_val (v := Value.bool false) rfl (e_assign rfl) ?_
  refine l_nil ?_
  refine run_ret (vs := [Value.bool false]) Try.func53 (.tmp rfl .nil) ?_
  -- return 1
  have e0 : (false : Bool) = (mayB g) := by
    first
      | exact (mayB_false (fun h => by unfold MayP at h; omega)).symm
      | exact (mayB_false (fun h => by have h2 := h.2.2.2 _ (gI_mem (xs := g.2) (i := (k : Int)) (by omega) (by assumption)); unfold okE at h2; omega)).symm
      | exact (mayB_true ⟨by omega, by omega, by omega, by rw [List.take_of_length_le (by omega)] at hinv4; exact hinv4⟩).symm
  replace hbase := hbase.chg ch2 (not_no _)
  exact ⟨(congrArg (a₁ := false) (fun (z0 : Bool) => Ending.returned (Value.bool z0)) e0), hbase.below⟩
 refine l_val (v := Value.pointer (some ⟨b3, 1, none⟩)) (want_y rfl rfl rfl (decide_eq_false q15)) (e_fieldAddr Try.underlying24 rfl rfl rfl rfl) ?_
 refine l_val (v := g_v) (want_y rfl rfl rfl (decide_eq_false q15)) (e_load_bx1 tp22_a rfl bx5 rfl) ?_
 replace r_g_v := r_g_v.chg ch2 (not_no _)
 have len6 := (r_g_v).small
 refine l_val (v := Value.int .i64 (List.length g.2 : Int)) (want_y rfl rfl rfl (decide_eq_false q15)) (e_len Try.underlying22 rfl r_g_v) ?_
 refine l_val (v := Value.bool (decide (3072 < (List.length g.2 : Int)))) (want_y rfl rfl rfl (decide_eq_false q15)) (e_gtr (m := (List.length g.2 : Int)) (n := 3072) rfl rfl) ?_
 refine l_val (v := Value.bool (decide (3072 < (List.length g.2 : Int)))) rfl (e_pick_f rfl (decide_eq_false q15) rfl) ?_
 refine l_nil ?_
 by_cases p1 : 3072 < (List.length g.2 : Int)
 ·
  refine run_cond_t rfl (decide_eq_true p1) ?_
  refine run_seq ?_
  clear bx5
  refine run_region rfl ?_
  refine l_val (v := Value.bool false) rfl (e_assign rfl) ?_
  refine l_nil ?_
  refine run_ret (vs := [Value.bool false]) Try.func53 (.tmp rfl .nil) ?_
  -- return 2
  have e0 : (false : Bool) = (mayB g) := by
    first
      | exact (mayB_false (fun h => by unfold MayP at h; omega)).symm
      | exact (mayB_false (fun h => by have h2 := h.2.2.2 _ (gI_mem (xs := g.2) (i := (k : Int)) (by omega) (by assumption)); unfold okE at h2; omega)).symm
      | exact (mayB_true ⟨by omega, by omega, by omega, by rw [List.take_of_length_le (by omega)] at hinv4; exact hinv4⟩).symm
  replace hbase := hbase.chg ch2 (not_no _)
  exact ⟨(congrArg (a₁ := false) (fun (z0 : Bool) => Ending.returned (Value.bool z0)) e0), hbase.below⟩
 refine run_cond_f rfl (decide_eq_false p1) ?_
 refine run_skip ?_
 refine run_seq (run_seq (run_region rfl ?_))
 refine l_val (v := Value.pointer (some ⟨b3, 1, none⟩)) rfl (e_fieldAddr Try.underlying24 rfl rfl rfl rfl) ?_
 refine l_val (v := g_v) rfl (e_load_bx1 tp22_a rfl bx5 rfl) ?_
 refine l_val (v := Value.int .i64 (List.length g.2 : Int)) rfl (e_len Try.underlying22 rfl r_g_v) ?_
 refine l_val (v := Value.int .i64 0) rfl (e_move rfl) ?_
 refine l_nil ?_
 refine run_block ?_
 refine run_loop (σ := Nat × Cmap) (fun ⟨k, gq⟩ f w => Base w0 gq w ∧ f 1 = Value.pointer (some ⟨b3, 0, none⟩) ∧ f 22 = g_v ∧ f 23 = Value.int .i64 (List.length g.2 : Int) ∧ f 24 = Value.int .i64 (k : Int) ∧ Sl gq (is 0) w g_v g.2 ∧ Bx gq (is 1) w b3 [Value.int .i64 g.1, g_v] ∧ (k : Int) ≤ ((List.length g.2 : Int) : Int) ∧ (∀ e ∈ List.take k g.2, okE g.1 e)) (fun ⟨k, gq⟩ => Int.toNat (((List.length g.2 : Int) : Int) - (k : Int))) (0, g4) ?_ ?_
 replace hbase := hbase.chg ch2 (not_no _)
 · exact ⟨hbase, rfl, rfl, rfl, rfl, r_g_v, bx5, by omega, by simp⟩
 clear r_g_v
 clear bx5
 clear hbase
 rintro ⟨k, g9⟩ f7 w8 ⟨hbase, zs1, zs22, zs23, zs24, r_g_v, bx5, hle_k, hinv4⟩ back4
 refine run_seq (run_region rfl ?_)
 refine l_val (v := Value.bool (decide ((k : Int) < (List.length g.2 : Int)))) rfl (e_lss (m := (k : Int)) (n := (List.length g.2 : Int)) (by exact zs24) (by exact zs23)) ?_
 refine l_nil (run_seq ?_)
 by_cases p4 : (k : Int) < (List.length g.2 : Int)
 ·
  refine run_cond_t rfl (decide_eq_true p4) ?_
  refine run_skip ?_
  refine run_seq ?_
  refine run_block ?_
  refine run_seq (run_region rfl ?_)
  refine l_val (v := Value.pointer (some (eAddr g_v 2 (Int.toNat (k : Int))))) rfl (e_indexAddr (α := (Int) × (Int)) (xs := g.2) (v := g_v) (i := (k : Int)) Try.underlying22 rfl (by exact zs22) r_g_v (by exact zs24) (by omega) (by omega)) ?_
  refine l_val (v := Value.agg (List.toArray [Value.int .i64 ((gI g.2 (k : Int)).1), Value.int .i64 ((gI g.2 (k : Int)).2)])) rfl (e_load_elN (α := (Int) × (Int)) (xs := g.2) (v := g_v) (i := (k : Int)) tp60_a rfl r_g_v (by omega) (by omega) rfl) ?_
  refine l_op rfl ?_
  refine o_alloc g9 (is 2) (2, 0) rfl tp60_a ?_
  intro g13 w10 b12 ch11 bx14
  replace bx14 : Bx g13 (is 2) w10 b12 [Value.int .i64 0, Value.int .i64 0] := bx14
  refine l_op rfl ?_
  refine o_store_bx (cs' := [Value.int .i64 ((gI g.2 (k : Int)).1), Value.int .i64 ((gI g.2 (k : Int)).2)]) tp60_a rfl rfl bx14 rfl (Nat.le_of_ble_eq_true rfl) (AllOne.all (.cons rfl (.cons rfl .nil))) rfl ?_
  intro w15 ch16 bx17
  clear bx14
  refine l_nil (run_seq (run_region rfl ?_))
  refine l_val (v := Value.agg (List.toArray [Value.int .i64 ((gI g.2 (k : Int)).1), Value.int .i64 ((gI g.2 (k : Int)).2)])) rfl (e_load_bxN (ds := [Value.int .i64 ((gI g.2 (k : Int)).1), Value.int .i64 ((gI g.2 (k : Int)).2)]) tp60_a rfl bx17 rfl rfl) ?_
  refine l_val (v := Value.int .i64 0) rfl (e_move rfl) ?_
  refine l_nil ?_
  refine run_block ?_
  refine run_loop0 ?_
  refine run_seq ?_
  clear bx17
  refine run_region rfl ?_
  refine l_val (v := Value.bool true) rfl (e_lss (m := 0) (n := 2) rfl rfl) ?_
  refine l_nil (run_seq ?_)
  refine run_cond_t rfl rfl ?_
  refine run_skip ?_
  refine run_seq ?_
  refine run_block ?_
  refine run_seq (run_region rfl ?_)
  refine l_val (v := Value.int .i64 ((gI g.2 (k : Int)).1)) rfl (e_index_arr Try.underlying60 tp3_a rfl rfl (by decide) (by decide) rfl) ?_
  refine l_val (v := Value.int .i64 ((gI g.2 (k : Int)).1)) rfl (e_assign rfl) ?_
  refine l_nil (run_seq (run_region rfl ?_))
  refine l_val (v := Value.int .i64 ((gI g.2 (k : Int)).1)) rfl (e_move rfl) ?_
  refine l_val (v := Value.bool (decide (((gI g.2 (k : Int)).1) < 0))) rfl (e_lss (m := (gI g.2 (k : Int)).1) (n := 0) rfl rfl) ?_
  refine l_val (v := Value.bool (decide (((gI g.2 (k : Int)).1) < 0))) rfl (e_move rfl) ?_
  by_cases q34 : ((gI g.2 (k : Int)).1) < 0
  ·
   refine l_skip (want_n rfl rfl rfl (decide_eq_true q34)) ?_
   refine l_skip (want_n rfl rfl rfl (decide_eq_true q34)) ?_
   refine l_skip (want_n rfl rfl rfl (decide_eq_true q34)) ?_
   refine l_skip (want_n rfl rfl rfl (decide_eq_true q34)) ?_
   refine l_val (v := Value.bool true) rfl (e_pick_t rfl (decide_eq_true q34) rfl) ?_
   refine l_nil ?_
   refine run_cond_t rfl rfl ?_
   refine run_seq ?_
   clear bx5
   refine run_region rfl ?_
   refine l_val (v := Value.bool false) rfl (e_assign rfl) ?_
   refine l_nil ?_
   refine run_ret (vs := [Value.bool false]) Try.func53 (.tmp rfl .nil) ?_
   -- return 3
   have e0 : (false : Bool) = (mayB g) := by
     first
       | exact (mayB_false (fun h => by unfold MayP at h; omega)).symm
       | exact (mayB_false (fun h => by have h2 := h.2.2.2 _ (gI_mem (xs := g.2) (i := (k : Int)) (by omega) (by assumption)); unfold okE at h2; omega)).symm
       | exact (mayB_true ⟨by omega, by omega, by omega, by rw [List.take_of_length_le (by omega)] at hinv4; exact hinv4⟩).symm
   replace hbase := hbase.chg ch11 (not_no _)
   replace hbase := hbase.chg ch16 (is_ne rfl)
   exact ⟨(congrArg (a₁ := false) (fun (z0 : Bool) => Ending.returned (Value.bool z0)) e0), hbase.below⟩
  refine l_val (v := Value.int .i64 ((gI g.2 (k : Int)).1)) (want_y rfl rfl rfl (decide_eq_false q34)) (e_move rfl) ?_
  refine l_val (v := Value.pointer (some ⟨b3, 0, none⟩)) (want_y rfl rfl rfl (decide_eq_false q34)) (e_fieldAddr Try.underlying24 rfl rfl (by exact zs1) rfl) ?_
  replace bx5 := (bx5.chg ch11 (not_no _)).chg ch16 (is_ne rfl)
  refine l_val (v := Value.int .i64 g.1) (want_y rfl rfl rfl (decide_eq_false q34)) (e_load_bx1 tp3_a rfl bx5 rfl) ?_
  refine l_val (v := Value.bool (decide (g.1 ≤ ((gI g.2 (k : Int)).1)))) (want_y rfl rfl rfl (decide_eq_false q34)) (e_geq (m := (gI g.2 (k : Int)).1) (n := g.1) rfl rfl) ?_
  refine l_val (v := Value.bool (decide (g.1 ≤ ((gI g.2 (k : Int)).1)))) rfl (e_pick_f rfl (decide_eq_false q34) rfl) ?_
  refine l_nil ?_
  by_cases p9 : g.1 ≤ ((gI g.2 (k : Int)).1)
  ·
   refine run_cond_t rfl (decide_eq_true p9) ?_
   refine run_seq ?_
   clear bx5
   refine run_region rfl ?_
   refine l_val (v := Value.bool false) rfl (e_assign rfl) ?_
   refine l_nil ?_
   refine run_ret (vs := [Value.bool false]) Try.func53 (.tmp rfl .nil) ?_
   -- return 4
   have e0 : (false : Bool) = (mayB g) := by
     first
       | exact (mayB_false (fun h => by unfold MayP at h; omega)).symm
       | exact (mayB_false (fun h => by have h2 := h.2.2.2 _ (gI_mem (xs := g.2) (i := (k : Int)) (by omega) (by assumption)); unfold okE at h2; omega)).symm
       | exact (mayB_true ⟨by omega, by omega, by omega, by rw [List.take_of_length_le (by omega)] at hinv4; exact hinv4⟩).symm
   replace hbase := hbase.chg ch11 (not_no _)
   replace hbase := hbase.chg ch16 (is_ne rfl)
   exact ⟨(congrArg (a₁ := false) (fun (z0 : Bool) => Ending.returned (Value.bool z0)) e0), hbase.below⟩
  refine run_cond_f rfl (decide_eq_false p9) ?_
  refine run_skip ?_
  refine run_inBlock ?_
  refine run_region rfl ?_
  refine l_val (v := Value.int .i64 1) rfl (e_add (m := 0) (n := 1) rfl rfl (by omega)) ?_
  refine l_val (v := Value.int .i64 1) rfl (e_move rfl) ?_
  refine l_nil ?_
  refine run_inLoop ?_
  refine run_seq (run_region rfl ?_)
  refine l_val (v := Value.bool true) rfl (e_lss (m := 1) (n := 2) rfl rfl) ?_
  refine l_nil (run_seq ?_)
  refine run_cond_t rfl rfl ?_
  refine run_skip ?_
  refine run_seq ?_
  refine run_block ?_
  refine run_seq (run_region rfl ?_)
  refine l_val (v := Value.int .i64 ((gI g.2 (k : Int)).2)) rfl (e_index_arr Try.underlying60 tp3_a rfl rfl (by decide) (by decide) rfl) ?_
  refine l_val (v := Value.int .i64 ((gI g.2 (k : Int)).2)) rfl (e_assign rfl) ?_
  refine l_nil (run_seq (run_region rfl ?_))
  refine l_val (v := Value.int .i64 ((gI g.2 (k : Int)).2)) rfl (e_move rfl) ?_
  refine l_val (v := Value.bool (decide (((gI g.2 (k : Int)).2) < 0))) rfl (e_lss (m := (gI g.2 (k : Int)).2) (n := 0) rfl rfl) ?_
  refine l_val (v := Value.bool (decide (((gI g.2 (k : Int)).2) < 0))) rfl (e_move rfl) ?_
  by_cases q34_18 : ((gI g.2 (k : Int)).2) < 0
  ·
   refine l_skip (want_n rfl rfl rfl (decide_eq_true q34_18)) ?_
   refine l_skip (want_n rfl rfl rfl (decide_eq_true q34_18)) ?_
   refine l_skip (want_n rfl rfl rfl (decide_eq_true q34_18)) ?_
   refine l_skip (want_n rfl rfl rfl (decide_eq_true q34_18)) ?_
   refine l_val (v := Value.bool true) rfl (e_pick_t rfl (decide_eq_true q34_18) rfl) ?_
   refine l_nil ?_
   refine run_cond_t rfl rfl ?_
   refine run_seq ?_
   clear bx5
   refine run_region rfl ?_
   refine l_val (v := Value.bool false) rfl (e_assign rfl) ?_
   refine l_nil ?_
   refine run_ret (vs := [Value.bool false]) Try.func53 (.tmp rfl .nil) ?_
   -- return 5
   have e0 : (false : Bool) = (mayB g) := by
     first
       | exact (mayB_false (fun h => by unfold MayP at h; omega)).symm
       | exact (mayB_false (fun h => by have h2 := h.2.2.2 _ (gI_mem (xs := g.2) (i := (k : Int)) (by omega) (by assumption)); unfold okE at h2; omega)).symm
       | exact (mayB_true ⟨by omega, by omega, by omega, by rw [List.take_of_length_le (by omega)] at hinv4; exact hinv4⟩).symm
   replace hbase := hbase.chg ch11 (not_no _)
   replace hbase := hbase.chg ch16 (is_ne rfl)
   exact ⟨(congrArg (a₁ := false) (fun (z0 : Bool) => Ending.returned (Value.bool z0)) e0), hbase.below⟩
  refine l_val (v := Value.int .i64 ((gI g.2 (k : Int)).2)) (want_y rfl rfl rfl (decide_eq_false q34_18)) (e_move rfl) ?_
  refine l_val (v := Value.pointer (some ⟨b3, 0, none⟩)) (want_y rfl rfl rfl (decide_eq_false q34_18)) (e_fieldAddr Try.underlying24 rfl rfl (by exact zs1) rfl) ?_
  refine l_val (v := Value.int .i64 g.1) (want_y rfl rfl rfl (decide_eq_false q34_18)) (e_load_bx1 tp3_a rfl bx5 rfl) ?_
  refine l_val (v := Value.bool (decide (g.1 ≤ ((gI g.2 (k : Int)).2)))) (want_y rfl rfl rfl (decide_eq_false q34_18)) (e_geq (m := (gI g.2 (k : Int)).2) (n := g.1) rfl rfl) ?_
  refine l_val (v := Value.bool (decide (g.1 ≤ ((gI g.2 (k : Int)).2)))) rfl (e_pick_f rfl (decide_eq_false q34_18) rfl) ?_
  refine l_nil ?_
  by_cases p9_19 : g.1 ≤ ((gI g.2 (k : Int)).2)
  ·
   refine run_cond_t rfl (decide_eq_true p9_19) ?_
   refine run_seq ?_
   clear bx5
   refine run_region rfl ?_
   refine l_val (v := Value.bool false) rfl (e_assign rfl) ?_
   refine l_nil ?_
   refine run_ret (vs := [Value.bool false]) Try.func53 (.tmp rfl .nil) ?_
   -- return 6
   have e0 : (false : Bool) = (mayB g) := by
     first
       | exact (mayB_false (fun h => by unfold MayP at h; omega)).symm
       | exact (mayB_false (fun h => by have h2 := h.2.2.2 _ (gI_mem (xs := g.2) (i := (k : Int)) (by omega) (by assumption)); unfold okE at h2; omega)).symm
       | exact (mayB_true ⟨by omega, by omega, by omega, by rw [List.take_of_length_le (by omega)] at hinv4; exact hinv4⟩).symm
   replace hbase := hbase.chg ch11 (not_no _)
   replace hbase := hbase.chg ch16 (is_ne rfl)
   exact ⟨(congrArg (a₁ := false) (fun (z0 : Bool) => Ending.returned (Value.bool z0)) e0), hbase.below⟩
  refine run_cond_f rfl (decide_eq_false p9_19) ?_
  refine run_skip ?_
  refine run_inBlock ?_
  refine run_region rfl ?_
  refine l_val (v := Value.int .i64 2) rfl (e_add (m := 1) (n := 1) rfl rfl (by omega)) ?_
  refine l_val (v := Value.int .i64 2) rfl (e_move rfl) ?_
  refine l_nil ?_
  refine run_inLoop ?_
  refine run_seq (run_region rfl ?_)
  refine l_val (v := Value.bool false) rfl (e_lss (m := 2) (n := 2) rfl rfl) ?_
  refine l_nil (run_seq ?_)
  refine run_cond_f rfl rfl ?_
  refine run_exit rfl ?_
  refine run_inBlock ?_
  refine run_region rfl ?_
  refine l_val (v := Value.int .i64 ((k : Int) + 1)) rfl (e_add (m := (k : Int)) (n := 1) (by exact zs24) rfl (by omega)) ?_
  refine l_val (v := Value.int .i64 ((k : Int) + 1)) rfl (e_move rfl) ?_
  refine l_nil ?_
  replace hbase := hbase.chg ch11 (not_no _)
  replace hbase := hbase.chg ch16 (is_ne rfl)
  replace r_g_v := (r_g_v.chg ch11 (not_no _)).chg ch16 (is_ne rfl)
  refine back4 (k + 1, g13) _ _ ⟨hbase, (by exact zs1), (by exact zs22), (by exact zs23), rfl, r_g_v, bx5, by omega, ?_⟩ ?_
  · show ∀ e ∈ List.take (k + 1) g.2, okE g.1 e
    rw [take_succ_gI (by assumption)]
    intro e he
    rcases List.mem_append.1 he with h | h
    · exact hinv4 e h
    · obtain rfl := List.mem_singleton.1 h
      refine ⟨?_, ?_⟩ <;> omega
  · show Int.toNat (((List.length g.2 : Int) : Int) - ((k + 1) : Int)) < Int.toNat (((List.length g.2 : Int) : Int) - (k : Int))
    omega
 refine run_cond_f rfl (decide_eq_false p4) ?_
 refine run_exit rfl ?_
 refine run_seq ?_
 clear bx5
 refine run_region rfl ?_
 refine l_val (v := Value.bool true) rfl (e_assign rfl) ?_
 refine l_nil ?_
 refine run_ret (vs := [Value.bool true]) Try.func53 (.tmp rfl .nil) ?_
 -- return 7
 have e0 : (true : Bool) = (mayB g) := by
   first
     | exact (mayB_false (fun h => by unfold MayP at h; omega)).symm
     | exact (mayB_false (fun h => by have h2 := h.2.2.2 _ (gI_mem (xs := g.2) (i := (k : Int)) (by omega) (by assumption)); unfold okE at h2; omega)).symm
     | exact (mayB_true ⟨by omega, by omega, by omega, by rw [List.take_of_length_le (by omega)] at hinv4; exact hinv4⟩).symm
 exact ⟨(congrArg (a₁ := true) (fun (z0 : Bool) => Ending.returned (Value.bool z0)) e0), hbase.below⟩
theorem rMay_ok (w0 : World) (g : (Int) × (List ((Int) × (Int)))) (g_v : Value) (hg_v : Ro w0 g_v g.2) :
    Calls Try.prog 35 #[Value.agg (List.toArray [Value.int .i64 g.1, g_v])] w0 (fun ee w => ee = .returned (Value.bool (mayB g)) ∧ Bel w0.heap.size w0 w) := by
 refine calls_of_run Try.func35 rfl (Nat.le_of_ble_eq_true rfl) ?_
 have hbase := Base.start w0
 have r_g_v := hg_v.sl
 refine run_seq (run_region rfl (l_op rfl ?_))
 refine o_box c0 (is 1) (1, 0) rfl rfl ?_
 intro g4 w1 b3 ch2 bx5
 replace bx5 : Bx g4 (is 1) w1 b3 [Value.int .i64 g.1, g_v] := bx5
 refine l_val (v := Value.bool false) rfl (e_assign rfl) ?_
 refine l_nil (run_seq (run_seq (run_region rfl ?_)))
 refine l_val (v := Value.pointer (some ⟨b3, 0, none⟩)) rfl (e_fieldAddr Try.underlying24 rfl rfl rfl rfl) ?_
 refine l_val (v := Value.int .i64 g.1) rfl (e_load_bx1 tp3_a rfl bx5 rfl) ?_
 refine l_val (v := Value.bool (decide (g.1 < 0))) rfl (e_lss (m := g.1) (n := 0) rfl rfl) ?_
 refine l_val (v := Value.bool (decide (g.1 < 0))) rfl (e_move rfl) ?_
 by_cases q8 : g.1 < 0
 ·
  refine l_skip (want_n rfl rfl rfl (decide_eq_true q8)) ?_
  refine l_skip (want_n rfl rfl rfl (decide_eq_true q8)) ?_
  refine l_skip (want_n rfl rfl rfl (decide_eq_true q8)) ?_
  refine l_val (v := Value.bool true) rfl (e_pick_t rfl (decide_eq_true q8) rfl) ?_
  refine l_val (v := Value.bool true) rfl (e_move rfl) ?_
  refine l_skip (want_n rfl rfl rfl rfl) (l_skip (want_n rfl rfl rfl rfl) (l_skip (want_n rfl rfl rfl rfl) (l_skip (want_n rfl rfl rfl rfl) ?_)))
  refine l_val (v := Value.bool true) rfl (e_pick_t rfl rfl rfl) ?_
  refine l_nil ?_
  refine run_cond_t rfl rfl ?_
  refine run_seq ?_
  clear bx5
  refine run_region rfl ?_
  refine l_val (v := Value.bool false) rfl (e_assign rfl) ?_
  refine l_nil ?_
  refine run_ret (vs := [Value.bool false]) Try.func35 (.tmp rfl .nil) ?_
  -- return 0
  have e0 : (false : Bool) = (mayB g) := by
    first
      | exact (mayB_false (fun h => by unfold MayP at h; omega)).symm
      | exact (mayB_false (fun h => by have h2 := h.2.2.2 _ (gI_mem (xs := g.2) (i := (k : Int)) (by omega) (by assumption)); unfold okE at h2; omega)).symm
      | exact (mayB_true ⟨by omega, by omega, by omega, by rw [List.take_of_length_le (by omega)] at hinv4; exact hinv4⟩).symm
  replace hbase := hbase.chg ch2 (not_no _)
  exact ⟨(congrArg (a₁ := false) (fun (z0 : Bool) => Ending.returned (Value.bool z0)) e0), hbase.below⟩
 refine l_val (v := Value.pointer (some ⟨b3, 0, none⟩)) (want_y rfl rfl rfl (decide_eq_false q8)) (e_fieldAddr Try.underlying24 rfl rfl rfl rfl) ?_
 refine l_val (v := Value.int .i64 g.1) (want_y rfl rfl rfl (decide_eq_false q8)) (e_load_bx1 tp3_a rfl bx5 rfl) ?_
 refine l_val (v := Value.bool (decide (1024 < g.1))) (want_y rfl rfl rfl (decide_eq_false q8)) (e_gtr (m := g.1) (n := 1024) rfl rfl) ?_
 refine l_val (v := Value.bool (decide (1024 < g.1))) rfl (e_pick_f rfl (decide_eq_false q8) rfl) ?_
 refine l_val (v := Value.bool (decide (1024 < g.1))) rfl (e_move rfl) ?_
 by_cases q13 : 1024 < g.1
 ·
  refine l_skip (want_n rfl rfl rfl (decide_eq_true q13)) ?_
  refine l_skip (want_n rfl rfl rfl (decide_eq_true q13)) ?_
  refine l_skip (want_n rfl rfl rfl (decide_eq_true q13)) ?_
  refine l_skip (want_n rfl rfl rfl (decide_eq_true q13)) ?_
  refine l_val (v := Value.bool true) rfl (e_pick_t rfl (decide_eq_true q13) rfl) ?_
  refine l_nil ?_
  refine run_cond_t rfl rfl ?_
  refine run_seq ?_
  clear bx5
  refine run_region rfl ?_
  refine l_val (v := Value.bool false) rfl (e_assign rfl) ?_
  refine l_nil ?_
  refine run_ret (vs := [Value.bool false]) Try.func35 (.tmp rfl .nil) ?_
  -- return 1
  have e0 : (false : Bool) = (mayB g) := by
    first
      | exact (mayB_false (fun h => by unfold MayP at h; omega)).symm
      | exact (mayB_false (fun h => by have h2 := h.2.2.2 _ (gI_mem (xs := g.2) (i := (k : Int)) (by omega) (by assumption)); unfold okE at h2; omega)).symm
      | exact (mayB_true ⟨by omega, by omega, by omega, by rw [List.take_of_length_le (by omega)] at hinv4; exact hinv4⟩).symm
  replace hbase := hbase.chg ch2 (not_no _)
  exact ⟨(congrArg (a₁ := false) (fun (z0 : Bool) => Ending.returned (Value.bool z0)) e0), hbase.below⟩
 refine l_val (v := Value.pointer (some ⟨b3, 1, none⟩)) (want_y rfl rfl rfl (decide_eq_false q13)) (e_fieldAddr Try.underlying24 rfl rfl rfl rfl) ?_
 refine l_val (v := g_v) (want_y rfl rfl rfl (decide_eq_false q13)) (e_load_bx1 tp22_a rfl bx5 rfl) ?_
 replace r_g_v := r_g_v.chg ch2 (not_no _)
 have len6 := (r_g_v).small
 refine l_val (v := Value.int .i64 (List.length g.2 : Int)) (want_y rfl rfl rfl (decide_eq_false q13)) (e_len Try.underlying22 rfl r_g_v) ?_
 refine l_val (v := Value.bool (decide (3072 < (List.length g.2 : Int)))) (want_y rfl rfl rfl (decide_eq_false q13)) (e_gtr (m := (List.length g.2 : Int)) (n := 3072) rfl rfl) ?_
 refine l_val (v := Value.bool (decide (3072 < (List.length g.2 : Int)))) rfl (e_pick_f rfl (decide_eq_false q13) rfl) ?_
 refine l_nil ?_
 by_cases p1 : 3072 < (List.length g.2 : Int)
 ·
  refine run_cond_t rfl (decide_eq_true p1) ?_
  refine run_seq ?_
  clear bx5
  refine run_region rfl ?_
  refine l_val (v := Value.bool false) rfl (e_assign rfl) ?_
  refine l_nil ?_
  refine run_ret (vs := [Value.bool false]) Try.func35 (.tmp rfl .nil) ?_
  -- return 2
  have e0 : (false : Bool) = (mayB g) := by
    first
      | exact (mayB_false (fun h => by unfold MayP at h; omega)).symm
      | exact (mayB_false (fun h => by have h2 := h.2.2.2 _ (gI_mem (xs := g.2) (i := (k : Int)) (by omega) (by assumption)); unfold okE at h2; omega)).symm
      | exact (mayB_true ⟨by omega, by omega, by omega, by rw [List.take_of_length_le (by omega)] at hinv4; exact hinv4⟩).symm
  replace hbase := hbase.chg ch2 (not_no _)
  exact ⟨(congrArg (a₁ := false) (fun (z0 : Bool) => Ending.returned (Value.bool z0)) e0), hbase.below⟩
 refine run_cond_f rfl (decide_eq_false p1) ?_
 refine run_skip ?_
 refine run_seq (run_seq (run_region rfl ?_))
 refine l_val (v := Value.int .i64 0) rfl (e_assign rfl) ?_
 refine l_nil ?_
 refine run_block ?_
 refine run_loop (σ := Nat × Cmap) (fun ⟨k, gq⟩ f w => Base w0 gq w ∧ f 1 = Value.pointer (some ⟨b3, 0, none⟩) ∧ f 3 = Value.int .i64 (k : Int) ∧ Sl gq (is 0) w g_v g.2 ∧ Bx gq (is 1) w b3 [Value.int .i64 g.1, g_v] ∧ (k : Int) ≤ ((List.length g.2 : Int) : Int) ∧ (∀ e ∈ List.take k g.2, okE g.1 e)) (fun ⟨k, gq⟩ => Int.toNat (((List.length g.2 : Int) : Int) - (k : Int))) (0, g4) ?_ ?_
 replace hbase := hbase.chg ch2 (not_no _)
 · exact ⟨hbase, rfl, rfl, r_g_v, bx5, by omega, by simp⟩
 clear r_g_v
 clear bx5
 clear hbase
 rintro ⟨k, g9⟩ f7 w8 ⟨hbase, zs1, zs3, r_g_v, bx5, hle_k, hinv4⟩ back4
 refine run_seq (run_seq (run_region rfl ?_))
 refine l_val (v := Value.int .i64 (k : Int)) rfl (e_move (by exact zs3)) ?_
 refine l_val (v := Value.pointer (some ⟨b3, 1, none⟩)) rfl (e_fieldAddr Try.underlying24 rfl rfl (by exact zs1) rfl) ?_
 refine l_val (v := g_v) rfl (e_load_bx1 tp22_a rfl bx5 rfl) ?_
 refine l_val (v := Value.int .i64 (List.length g.2 : Int)) rfl (e_len Try.underlying22 rfl r_g_v) ?_
 refine l_val (v := Value.bool (decide ((k : Int) < (List.length g.2 : Int)))) rfl (e_lss (m := (k : Int)) (n := (List.length g.2 : Int)) rfl rfl) ?_
 refine l_nil ?_
 by_cases p4 : (k : Int) < (List.length g.2 : Int)
 ·
  refine run_cond_t rfl (decide_eq_true p4) ?_
  refine run_skip ?_
  refine run_seq ?_
  refine run_block ?_
  refine run_seq (run_region rfl ?_)
  refine l_val (v := Value.int .i64 0) rfl (e_assign rfl) ?_
  refine l_nil ?_
  refine run_block ?_
  refine run_loop0 ?_
  refine run_seq (run_seq (run_region rfl ?_))
  refine l_val (v := Value.int .i64 0) rfl (e_move rfl) ?_
  refine l_val (v := Value.bool true) rfl (e_lss (m := 0) (n := 2) rfl rfl) ?_
  refine l_nil ?_
  refine run_cond_t rfl rfl ?_
  refine run_skip ?_
  refine run_seq ?_
  refine run_block ?_
  refine run_seq ?_
  refine region_q g9 rfl mixed_a (by kernel_rfl) ?_
  intro w11 ch10
  refine q_val (v := Value.pointer (some ⟨b3, 1, none⟩)) rfl (fun w' hw' => e_fieldAddr Try.underlying24 rfl rfl (by exact zs1) rfl) ?_
  replace bx5 := bx5.chg ch10 (not_no _)
  refine q_val (v := g_v) rfl (fun w' hw' => e_load_bx1 tp22_a rfl (bx5.bel hw') rfl) ?_
  refine q_val (v := Value.int .i64 (k : Int)) rfl (fun w' hw' => e_move (by exact zs3)) ?_
  refine q_val (v := Value.int .i64 0) rfl (fun w' hw' => e_move rfl) ?_
  replace r_g_v := r_g_v.chg ch10 (not_no _)
  refine q_val (v := Value.pointer (some (eAddr g_v 2 (Int.toNat (k : Int))))) rfl (fun w' hw' => e_indexAddr (α := (Int) × (Int)) (xs := g.2) (v := g_v) (i := (k : Int)) Try.underlying22 rfl rfl (r_g_v.bel hw') rfl (by omega) (by omega)) ?_
  refine q_val (v := Value.pointer (some ⟨(eAddr g_v 2 (Int.toNat (k : Int))).block, (eAddr g_v 2 (Int.toNat (k : Int))).off + 0, none⟩)) rfl (fun w' hw' => e_indexAddr_el Try.underlying60 rfl rfl rfl (by decide) (by decide) rfl) ?_
  refine q_val (v := Value.int .i64 ((gI g.2 (k : Int)).1)) rfl (fun w' hw' => e_load_elF (α := (Int) × (Int)) (xs := g.2) (v := g_v) (i := (k : Int)) tp3_a rfl (r_g_v.bel hw') (by omega) (by omega) (by decide) rfl) ?_
  refine q_val (v := Value.bool (decide (((gI g.2 (k : Int)).1) < 0))) rfl (fun w' hw' => e_lss (m := (gI g.2 (k : Int)).1) (n := 0) rfl rfl) ?_
  refine q_val (v := Value.bool (decide (((gI g.2 (k : Int)).1) < 0))) rfl (fun w' hw' => e_move rfl) ?_
  by_cases q38 : ((gI g.2 (k : Int)).1) < 0
  ·
   refine q_skip (want_n rfl rfl rfl (decide_eq_true q38)) ?_
   refine q_skip (want_n rfl rfl rfl (decide_eq_true q38)) ?_
   refine q_skip (want_n rfl rfl rfl (decide_eq_true q38)) ?_
   refine q_skip (want_n rfl rfl rfl (decide_eq_true q38)) ?_
   refine q_skip (want_n rfl rfl rfl (decide_eq_true q38)) ?_
   refine q_skip (want_n rfl rfl rfl (decide_eq_true q38)) ?_
   refine q_skip (want_n rfl rfl rfl (decide_eq_true q38)) ?_
   refine q_skip (want_n rfl rfl rfl (decide_eq_true q38)) ?_
   refine q_skip (want_n rfl rfl rfl (decide_eq_true q38)) ?_
   refine q_skip (want_n rfl rfl rfl (decide_eq_true q38)) ?_
   refine q_val (v := Value.bool true) rfl (fun w' hw' => e_pick_t rfl (decide_eq_true q38) rfl) ?_
   refine q_nil ?_
   intro w12 hc13
   replace hc13 := chg_below hc13 g9
   refine run_cond_t rfl rfl ?_
   refine run_seq ?_
   clear bx5
   refine run_region rfl ?_
   refine l_val (v := Value.bool false) rfl (e_assign rfl) ?_
   refine l_nil ?_
   refine run_ret (vs := [Value.bool false]) Try.func35 (.tmp rfl .nil) ?_
   -- return 3
   have e0 : (false : Bool) = (mayB g) := by
     first
       | exact (mayB_false (fun h => by unfold MayP at h; omega)).symm
       | exact (mayB_false (fun h => by have h2 := h.2.2.2 _ (gI_mem (xs := g.2) (i := (k : Int)) (by omega) (by assumption)); unfold okE at h2; omega)).symm
       | exact (mayB_true ⟨by omega, by omega, by omega, by rw [List.take_of_length_le (by omega)] at hinv4; exact hinv4⟩).symm
   replace hbase := hbase.chg ch10 (not_no _)
   replace hbase := hbase.chg hc13 (not_no _)
   exact ⟨(congrArg (a₁ := false) (fun (z0 : Bool) => Ending.returned (Value.bool z0)) e0), hbase.below⟩
  refine q_val (v := Value.pointer (some ⟨b3, 1, none⟩)) (want_y rfl rfl rfl (decide_eq_false q38)) (fun w' hw' => e_fieldAddr Try.underlying24 rfl rfl (by exact zs1) rfl) ?_
  refine q_val (v := g_v) (want_y rfl rfl rfl (decide_eq_false q38)) (fun w' hw' => e_load_bx1 tp22_a rfl (bx5.bel hw') rfl) ?_
  refine q_val (v := Value.int .i64 (k : Int)) (want_y rfl rfl rfl (decide_eq_false q38)) (fun w' hw' => e_move (by exact zs3)) ?_
  refine q_val (v := Value.int .i64 0) (want_y rfl rfl rfl (decide_eq_false q38)) (fun w' hw' => e_move rfl) ?_
  refine q_val (v := Value.pointer (some (eAddr g_v 2 (Int.toNat (k : Int))))) (want_y rfl rfl rfl (decide_eq_false q38)) (fun w' hw' => e_indexAddr (α := (Int) × (Int)) (xs := g.2) (v := g_v) (i := (k : Int)) Try.underlying22 rfl rfl (r_g_v.bel hw') rfl (by omega) (by omega)) ?_
  refine q_val (v := Value.pointer (some ⟨(eAddr g_v 2 (Int.toNat (k : Int))).block, (eAddr g_v 2 (Int.toNat (k : Int))).off + 0, none⟩)) (want_y rfl rfl rfl (decide_eq_false q38)) (fun w' hw' => e_indexAddr_el Try.underlying60 rfl rfl rfl (by decide) (by decide) rfl) ?_
  refine q_val (v := Value.int .i64 ((gI g.2 (k : Int)).1)) (want_y rfl rfl rfl (decide_eq_false q38)) (fun w' hw' => e_load_elF (α := (Int) × (Int)) (xs := g.2) (v := g_v) (i := (k : Int)) tp3_a rfl (r_g_v.bel hw') (by omega) (by omega) (by decide) rfl) ?_
  refine q_val (v := Value.pointer (some ⟨b3, 0, none⟩)) (want_y rfl rfl rfl (decide_eq_false q38)) (fun w' hw' => e_fieldAddr Try.underlying24 rfl rfl (by exact zs1) rfl) ?_
  refine q_val (v := Value.int .i64 g.1) (want_y rfl rfl rfl (decide_eq_false q38)) (fun w' hw' => e_load_bx1 tp3_a rfl (bx5.bel hw') rfl) ?_
  refine q_val (v := Value.bool (decide (g.1 ≤ ((gI g.2 (k : Int)).1)))) (want_y rfl rfl rfl (decide_eq_false q38)) (fun w' hw' => e_geq (m := (gI g.2 (k : Int)).1) (n := g.1) rfl rfl) ?_
  refine q_val (v := Value.bool (decide (g.1 ≤ ((gI g.2 (k : Int)).1)))) rfl (fun w' hw' => e_pick_f rfl (decide_eq_false q38) rfl) ?_
  refine q_nil ?_
  intro w14 hc15
  replace hc15 := chg_below hc15 g9
  by_cases p9 : g.1 ≤ ((gI g.2 (k : Int)).1)
  ·
   refine run_cond_t rfl (decide_eq_true p9) ?_
   refine run_seq ?_
   clear bx5
   refine run_region rfl ?_
   refine l_val (v := Value.bool false) rfl (e_assign rfl) ?_
   refine l_nil ?_
   refine run_ret (vs := [Value.bool false]) Try.func35 (.tmp rfl .nil) ?_
   -- return 4
   have e0 : (false : Bool) = (mayB g) := by
     first
       | exact (mayB_false (fun h => by unfold MayP at h; omega)).symm
       | exact (mayB_false (fun h => by have h2 := h.2.2.2 _ (gI_mem (xs := g.2) (i := (k : Int)) (by omega) (by assumption)); unfold okE at h2; omega)).symm
       | exact (mayB_true ⟨by omega, by omega, by omega, by rw [List.take_of_length_le (by omega)] at hinv4; exact hinv4⟩).symm
   replace hbase := hbase.chg ch10 (not_no _)
   replace hbase := hbase.chg hc15 (not_no _)
   exact ⟨(congrArg (a₁ := false) (fun (z0 : Bool) => Ending.returned (Value.bool z0)) e0), hbase.below⟩
  refine run_cond_f rfl (decide_eq_false p9) ?_
  refine run_skip ?_
  refine run_inBlock ?_
  refine run_region rfl ?_
  refine l_val (v := Value.int .i64 0) rfl (e_move rfl) ?_
  refine l_val (v := Value.int .i64 1) rfl (e_add (m := 0) (n := 1) rfl rfl (by omega)) ?_
  refine l_val (v := Value.int .i64 1) rfl (e_assign rfl) ?_
  refine l_nil ?_
  refine run_inLoop ?_
  refine run_seq (run_seq (run_region rfl ?_))
  refine l_val (v := Value.int .i64 1) rfl (e_move rfl) ?_
  refine l_val (v := Value.bool true) rfl (e_lss (m := 1) (n := 2) rfl rfl) ?_
  refine l_nil ?_
  refine run_cond_t rfl rfl ?_
  refine run_skip ?_
  refine run_seq ?_
  refine run_block ?_
  refine run_seq ?_
  refine region_q g9 rfl mixed_a (by kernel_rfl) ?_
  intro w17 ch16
  refine q_val (v := Value.pointer (some ⟨b3, 1, none⟩)) rfl (fun w' hw' => e_fieldAddr Try.underlying24 rfl rfl (by exact zs1) rfl) ?_
  replace bx5 := (bx5.chg hc15 (not_no _)).chg ch16 (not_no _)
  refine q_val (v := g_v) rfl (fun w' hw' => e_load_bx1 tp22_a rfl (bx5.bel hw') rfl) ?_
  refine q_val (v := Value.int .i64 (k : Int)) rfl (fun w' hw' => e_move (by exact zs3)) ?_
  refine q_val (v := Value.int .i64 1) rfl (fun w' hw' => e_move rfl) ?_
  replace r_g_v := (r_g_v.chg hc15 (not_no _)).chg ch16 (not_no _)
  refine q_val (v := Value.pointer (some (eAddr g_v 2 (Int.toNat (k : Int))))) rfl (fun w' hw' => e_indexAddr (α := (Int) × (Int)) (xs := g.2) (v := g_v) (i := (k : Int)) Try.underlying22 rfl rfl (r_g_v.bel hw') rfl (by omega) (by omega)) ?_
  refine q_val (v := Value.pointer (some ⟨(eAddr g_v 2 (Int.toNat (k : Int))).block, (eAddr g_v 2 (Int.toNat (k : Int))).off + 1, none⟩)) rfl (fun w' hw' => e_indexAddr_el Try.underlying60 rfl rfl rfl (by decide) (by decide) rfl) ?_
  refine q_val (v := Value.int .i64 ((gI g.2 (k : Int)).2)) rfl (fun w' hw' => e_load_elF (α := (Int) × (Int)) (xs := g.2) (v := g_v) (i := (k : Int)) tp3_a rfl (r_g_v.bel hw') (by omega) (by omega) (by decide) rfl) ?_
  refine q_val (v := Value.bool (decide (((gI g.2 (k : Int)).2) < 0))) rfl (fun w' hw' => e_lss (m := (gI g.2 (k : Int)).2) (n := 0) rfl rfl) ?_
  refine q_val (v := Value.bool (decide (((gI g.2 (k : Int)).2) < 0))) rfl (fun w' hw' => e_move rfl) ?_
  by_cases q38_18 : ((gI g.2 (k : Int)).2) < 0
  ·
   refine q_skip (want_n rfl rfl rfl (decide_eq_true q38_18)) ?_
   refine q_skip (want_n rfl rfl rfl (decide_eq_true q38_18)) ?_
   refine q_skip (want_n rfl rfl rfl (decide_eq_true q38_18)) ?_
   refine q_skip (want_n rfl rfl rfl (decide_eq_true q38_18)) ?_
   refine q_skip (want_n rfl rfl rfl (decide_eq_true q38_18)) ?_
   refine q_skip (want_n rfl rfl rfl (decide_eq_true q38_18)) ?_
   refine q_skip (want_n rfl rfl rfl (decide_eq_true q38_18)) ?_
   refine q_skip (want_n rfl rfl rfl (decide_eq_true q38_18)) ?_
   refine q_skip (want_n rfl rfl rfl (decide_eq_true q38_18)) ?_
   refine q_skip (want_n rfl rfl rfl (decide_eq_true q38_18)) ?_
   refine q_val (v := Value.bool true) rfl (fun w' hw' => e_pick_t rfl (decide_eq_true q38_18) rfl) ?_
   refine q_nil ?_
   intro w19 hc20
   replace hc20 := chg_below hc20 g9
   refine run_cond_t rfl rfl ?_
   refine run_seq ?_
   clear bx5
   refine run_region rfl ?_
   refine l_val (v := Value.bool false) rfl (e_assign rfl) ?_
   refine l_nil ?_
   refine run_ret (vs := [Value.bool false]) Try.func35 (.tmp rfl .nil) ?_
   -- return 5
   have e0 : (false : Bool) = (mayB g) := by
     first
       | exact (mayB_false (fun h => by unfold MayP at h; omega)).symm
       | exact (mayB_false (fun h => by have h2 := h.2.2.2 _ (gI_mem (xs := g.2) (i := (k : Int)) (by omega) (by assumption)); unfold okE at h2; omega)).symm
       | exact (mayB_true ⟨by omega, by omega, by omega, by rw [List.take_of_length_le (by omega)] at hinv4; exact hinv4⟩).symm
   have C21 : Chg (inl []) _ _ _ _ := (ch10.n).seq ((hc15.n).seq ((ch16.n).seq (hc20.n)))
   replace hbase := hbase.chg C21 (is_nl rfl)
   exact ⟨(congrArg (a₁ := false) (fun (z0 : Bool) => Ending.returned (Value.bool z0)) e0), hbase.below⟩
  refine q_val (v := Value.pointer (some ⟨b3, 1, none⟩)) (want_y rfl rfl rfl (decide_eq_false q38_18)) (fun w' hw' => e_fieldAddr Try.underlying24 rfl rfl (by exact zs1) rfl) ?_
  refine q_val (v := g_v) (want_y rfl rfl rfl (decide_eq_false q38_18)) (fun w' hw' => e_load_bx1 tp22_a rfl (bx5.bel hw') rfl) ?_
  refine q_val (v := Value.int .i64 (k : Int)) (want_y rfl rfl rfl (decide_eq_false q38_18)) (fun w' hw' => e_move (by exact zs3)) ?_
  refine q_val (v := Value.int .i64 1) (want_y rfl rfl rfl (decide_eq_false q38_18)) (fun w' hw' => e_move rfl) ?_
  refine q_val (v := Value.pointer (some (eAddr g_v 2 (Int.toNat (k : Int))))) (want_y rfl rfl rfl (decide_eq_false q38_18)) (fun w' hw' => e_indexAddr (α := (Int) × (Int)) (xs := g.2) (v := g_v) (i := (k : Int)) Try.underlying22 rfl rfl (r_g_v.bel hw') rfl (by omega) (by omega)) ?_
  refine q_val (v := Value.pointer (some ⟨(eAddr g_v 2 (Int.toNat (k : Int))).block, (eAddr g_v 2 (Int.toNat (k : Int))).off + 1, none⟩)) (want_y rfl rfl rfl (decide_eq_false q38_18)) (fun w' hw' => e_indexAddr_el Try.underlying60 rfl rfl rfl (by decide) (by decide) rfl) ?_
  refine q_val (v := Value.int .i64 ((gI g.2 (k : Int)).2)) (want_y rfl rfl rfl (decide_eq_false q38_18)) (fun w' hw' => e_load_elF (α := (Int) × (Int)) (xs := g.2) (v := g_v) (i := (k : Int)) tp3_a rfl (r_g_v.bel hw') (by omega) (by omega) (by decide) rfl) ?_
  refine q_val (v := Value.pointer (some ⟨b3, 0, none⟩)) (want_y rfl rfl rfl (decide_eq_false q38_18)) (fun w' hw' => e_fieldAddr Try.underlying24 rfl rfl (by exact zs1) rfl) ?_
  refine q_val (v := Value.int .i64 g.1) (want_y rfl rfl rfl (decide_eq_false q38_18)) (fun w' hw' => e_load_bx1 tp3_a rfl (bx5.bel hw') rfl) ?_
  refine q_val (v := Value.bool (decide (g.1 ≤ ((gI g.2 (k : Int)).2)))) (want_y rfl rfl rfl (decide_eq_false q38_18)) (fun w' hw' => e_geq (m := (gI g.2 (k : Int)).2) (n := g.1) rfl rfl) ?_
  refine q_val (v := Value.bool (decide (g.1 ≤ ((gI g.2 (k : Int)).2)))) rfl (fun w' hw' => e_pick_f rfl (decide_eq_false q38_18) rfl) ?_
  refine q_nil ?_
  intro w22 hc23
  replace hc23 := chg_below hc23 g9
  by_cases p9_24 : g.1 ≤ ((gI g.2 (k : Int)).2)
  ·
   refine run_cond_t rfl (decide_eq_true p9_24) ?_
   refine run_seq ?_
   clear bx5
   refine run_region rfl ?_
   refine l_val (v := Value.bool false) rfl (e_assign rfl) ?_
   refine l_nil ?_
   refine run_ret (vs := [Value.bool false]) Try.func35 (.tmp rfl .nil) ?_
   -- return 6
   have e0 : (false : Bool) = (mayB g) := by
     first
       | exact (mayB_false (fun h => by unfold MayP at h; omega)).symm
       | exact (mayB_false (fun h => by have h2 := h.2.2.2 _ (gI_mem (xs := g.2) (i := (k : Int)) (by omega) (by assumption)); unfold okE at h2; omega)).symm
       | exact (mayB_true ⟨by omega, by omega, by omega, by rw [List.take_of_length_le (by omega)] at hinv4; exact hinv4⟩).symm
   have C25 : Chg (inl []) _ _ _ _ := (ch10.n).seq ((hc15.n).seq ((ch16.n).seq (hc23.n)))
   replace hbase := hbase.chg C25 (is_nl rfl)
   exact ⟨(congrArg (a₁ := false) (fun (z0 : Bool) => Ending.returned (Value.bool z0)) e0), hbase.below⟩
  refine run_cond_f rfl (decide_eq_false p9_24) ?_
  refine run_skip ?_
  refine run_inBlock ?_
  refine run_region rfl ?_
  refine l_val (v := Value.int .i64 1) rfl (e_move rfl) ?_
  refine l_val (v := Value.int .i64 2) rfl (e_add (m := 1) (n := 1) rfl rfl (by omega)) ?_
  refine l_val (v := Value.int .i64 2) rfl (e_assign rfl) ?_
  refine l_nil ?_
  refine run_inLoop ?_
  refine run_seq (run_seq (run_region rfl ?_))
  refine l_val (v := Value.int .i64 2) rfl (e_move rfl) ?_
  refine l_val (v := Value.bool false) rfl (e_lss (m := 2) (n := 2) rfl rfl) ?_
  refine l_nil ?_
  refine run_cond_f rfl rfl ?_
  refine run_exit rfl ?_
  refine run_inBlock ?_
  refine run_region rfl ?_
  refine l_val (v := Value.int .i64 (k : Int)) rfl (e_move (by exact zs3)) ?_
  refine l_val (v := Value.int .i64 ((k : Int) + 1)) rfl (e_add (m := (k : Int)) (n := 1) rfl rfl (by omega)) ?_
  refine l_val (v := Value.int .i64 ((k : Int) + 1)) rfl (e_assign rfl) ?_
  refine l_nil ?_
  have C26 : Chg (inl []) _ _ _ _ := (ch10.n).seq ((hc15.n).seq ((ch16.n).seq (hc23.n)))
  replace hbase := hbase.chg C26 (is_nl rfl)
  replace r_g_v := r_g_v.chg hc23 (not_no _)
  replace bx5 := bx5.chg hc23 (not_no _)
  refine back4 (k + 1, g9) _ _ ⟨hbase, (by exact zs1), rfl, r_g_v, bx5, by omega, ?_⟩ ?_
  · show ∀ e ∈ List.take (k + 1) g.2, okE g.1 e
    rw [take_succ_gI (by assumption)]
    intro e he
    rcases List.mem_append.1 he with h | h
    · exact hinv4 e h
    · obtain rfl := List.mem_singleton.1 h
      refine ⟨?_, ?_⟩ <;> omega
  · show Int.toNat (((List.length g.2 : Int) : Int) - ((k + 1) : Int)) < Int.toNat (((List.length g.2 : Int) : Int) - (k : Int))
    omega
 refine run_cond_f rfl (decide_eq_false p4) ?_
 refine run_exit rfl ?_
 refine run_seq ?_
 clear bx5
 refine run_region rfl ?_
 refine l_val (v := Value.bool true) rfl (e_assign rfl) ?_
 refine l_nil ?_
 refine run_ret (vs := [Value.bool true]) Try.func35 (.tmp rfl .nil) ?_
 -- return 7
 have e0 : (true : Bool) = (mayB g) := by
   first
     | exact (mayB_false (fun h => by unfold MayP at h; omega)).symm
     | exact (mayB_false (fun h => by have h2 := h.2.2.2 _ (gI_mem (xs := g.2) (i := (k : Int)) (by omega) (by assumption)); unfold okE at h2; omega)).symm
     | exact (mayB_true ⟨by omega, by omega, by omega, by rw [List.take_of_length_le (by omega)] at hinv4; exact hinv4⟩).symm
 exact ⟨(congrArg (a₁ := true) (fun (z0 : Bool) => Ending.returned (Value.bool z0)) e0), hbase.below⟩
theorem Light_ok (w0 : World) (g : (Int) × (List ((Int) × (Int)))) (g_v : Value) (hg_v : Ro w0 g_v g.2) :
    Calls Try.prog 51 #[Value.agg (List.toArray [Value.int .i64 g.1, g_v])] w0 (fun ee w => ee = .returned (Value.bool (decide (g.2.length ≤ 300 ∧ (g.1 ≤ 300 ∨ ¬ MayP g)))) ∧ Bel w0.heap.size w0 w) := by
 refine calls_of_run Try.func51 rfl (Nat.le_of_ble_eq_true rfl) ?_
 have hbase := Base.start w0
 have r_g_v := hg_v.sl
 refine run_seq (run_region rfl (l_op rfl ?_))
 refine o_box c0 (is 1) (1, 0) rfl rfl ?_
 intro g4 w1 b3 ch2 bx5
 replace bx5 : Bx g4 (is 1) w1 b3 [Value.int .i64 g.1, g_v] := bx5
 refine l_val (v := Value.bool false) rfl (e_assign rfl) ?_
 refine l_nil (run_seq (run_region rfl ?_))
 refine l_val (v := Value.pointer (some ⟨b3, 1, none⟩)) rfl (e_fieldAddr Try.underlying24 rfl rfl rfl rfl) ?_
 refine l_val (v := g_v) rfl (e_load_bx1 tp22_a rfl bx5 rfl) ?_
 replace r_g_v := r_g_v.chg ch2 (not_no _)
 have len6 := (r_g_v).small
 refine l_val (v := Value.int .i64 (List.length g.2 : Int)) rfl (e_len Try.underlying22 rfl r_g_v) ?_
 refine l_val (v := Value.bool (decide ((List.length g.2 : Int) ≤ 300))) rfl (e_leq (m := (List.length g.2 : Int)) (n := 300) rfl rfl) ?_
 refine l_val (v := Value.bool (decide ((List.length g.2 : Int) ≤ 300))) rfl (e_move rfl) ?_
 by_cases q7 : (List.length g.2 : Int) ≤ 300
 ·
  refine l_val (v := Value.pointer (some ⟨b3, 0, none⟩)) (want_y rfl rfl rfl (decide_eq_true q7)) (e_fieldAddr Try.underlying24 rfl rfl rfl rfl) ?_
  refine l_val (v := Value.int .i64 g.1) (want_y rfl rfl rfl (decide_eq_true q7)) (e_load_bx1 tp3_a rfl bx5 rfl) ?_
  refine l_val (v := Value.bool (decide (g.1 ≤ 300))) (want_y rfl rfl rfl (decide_eq_true q7)) (e_leq (m := g.1) (n := 300) rfl rfl) ?_
  refine l_val (v := Value.bool (decide (g.1 ≤ 300))) (want_y rfl rfl rfl (decide_eq_true q7)) (e_move rfl) ?_
  by_cases q11 : g.1 ≤ 300
  ·
   refine l_skip (want_n rfl rfl rfl (decide_eq_true q11)) ?_
   refine l_skip (want_n rfl rfl rfl (decide_eq_true q11)) ?_
   refine l_skip (want_n rfl rfl rfl (decide_eq_true q11)) ?_
   refine l_val (v := Value.bool true) (want_y rfl rfl rfl (decide_eq_true q7)) (e_pick_t rfl (decide_eq_true q11) rfl) ?_
   refine l_val (v := Value.bool true) rfl (e_pick_t rfl (decide_eq_true q7) rfl) ?_
   refine l_val (v := Value.bool true) rfl (e_assign rfl) ?_
   refine l_nil ?_
   refine run_ret (vs := [Value.bool true]) Try.func51 (.tmp rfl .nil) ?_
   -- return 0
   have e0 : (true : Bool) = (decide (g.2.length ≤ 300 ∧ (g.1 ≤ 300 ∨ ¬ MayP g))) := by
     (try simp only [mayB] at *)
     by_cases h : MayP g <;> simp_all <;> omega
   replace hbase := hbase.chg ch2 (not_no _)
   exact ⟨(congrArg (a₁ := true) (fun (z0 : Bool) => Ending.returned (Value.bool z0)) e0), hbase.below⟩
  refine l_val (v := Value.agg (List.toArray [Value.int .i64 g.1, g_v])) (want_y rfl rfl rfl (decide_eq_false q11)) (e_load_bxN (ds := [Value.int .i64 g.1, g_v]) tp24_a rfl bx5 rfl rfl) ?_
  refine l_op (want_y rfl rfl rfl (decide_eq_false q11)) ?_
  refine o_call (v := Value.bool (mayB g)) (e_call (vals := [Value.agg (List.toArray [Value.int .i64 g.1, g_v])]) Try.func35 bd35_a nm35_a rfl) (rMay_ok w1 g g_v (r_g_v).ro) ?_
  intro w7 hb8
  replace hb8 := chg_below hb8 g4
  refine l_val (v := Value.bool (!(mayB g))) (want_y rfl rfl rfl (decide_eq_false q11)) (e_not (b := (mayB g)) rfl) ?_
  refine l_val (v := Value.bool (!(mayB g))) (want_y rfl rfl rfl (decide_eq_true q7)) (e_pick_f rfl (decide_eq_false q11) rfl) ?_
  refine l_val (v := Value.bool (!(mayB g))) rfl (e_pick_t rfl (decide_eq_true q7) rfl) ?_
  refine l_val (v := Value.bool (!(mayB g))) rfl (e_assign rfl) ?_
  refine l_nil ?_
  refine run_ret (vs := [Value.bool (!(mayB g))]) Try.func51 (.tmp rfl .nil) ?_
  -- return 1
  have e0 : (!(mayB g) : Bool) = (decide (g.2.length ≤ 300 ∧ (g.1 ≤ 300 ∨ ¬ MayP g))) := by
    (try simp only [mayB] at *)
    by_cases h : MayP g <;> simp_all <;> omega
  replace hbase := hbase.chg ch2 (not_no _)
  replace hbase := hbase.chg hb8 (not_no _)
  exact ⟨(congrArg (a₁ := !(mayB g)) (fun (z0 : Bool) => Ending.returned (Value.bool z0)) e0), hbase.below⟩
 refine l_skip (want_n rfl rfl rfl (decide_eq_false q7)) ?_
 refine l_skip (want_n rfl rfl rfl (decide_eq_false q7)) ?_
 refine l_skip (want_n rfl rfl rfl (decide_eq_false q7)) ?_
 refine l_skip (want_n rfl rfl rfl (decide_eq_false q7)) ?_
 refine l_skip (want_u rfl rfl rfl) ?_
 refine l_skip (want_u rfl rfl rfl) ?_
 refine l_skip (want_u rfl rfl rfl) ?_
 refine l_skip (want_n rfl rfl rfl (decide_eq_false q7)) ?_
 refine l_val (v := Value.bool false) rfl (e_pick_f rfl (decide_eq_false q7) rfl) ?_
 refine l_val (v := Value.bool false) rfl (e_assign rfl) ?_
 refine l_nil ?_
 refine run_ret (vs := [Value.bool false]) Try.func51 (.tmp rfl .nil) ?_
 -- return 2
 have e0 : (false : Bool) = (decide (g.2.length ≤ 300 ∧ (g.1 ≤ 300 ∨ ¬ MayP g))) := by
   (try simp only [mayB] at *)
   by_cases h : MayP g <;> simp_all <;> omega
 replace hbase := hbase.chg ch2 (not_no _)
 exact ⟨(congrArg (a₁ := false) (fun (z0 : Bool) => Ending.returned (Value.bool z0)) e0), hbase.below⟩
end TL
