import Derived.Test.YtilohhkbelkmdaaProg
import Derived.Test.YtilohhkbelkmdaaTlP2
set_option linter.all false
set_option maxRecDepth 20000
namespace TL
open Go Go.Proofs
theorem mixed_a : Try.prog.follows .mixedOrders = true := by kernel_rfl
theorem tp3_a : Tp Try.prog 3 false 1 8 (.int .i64 0) := Tp.of (by kernel_rfl)
theorem tp4_a : Tp Try.prog 4 false 1 1 (.bool false) := Tp.of (by kernel_rfl)
theorem tp22_a : Tp Try.prog 22 false 1 24 (.slice none 0 0) := Tp.of (by kernel_rfl)
theorem tp24_a : Tp Try.prog 24 true 2 32 (.agg #[.int .i64 0, .slice none 0 0]) := Tp.of (by kernel_rfl)
theorem tp60_a : Tp Try.prog 60 true 2 16 (.agg #[.int .i64 0, .int .i64 0]) := Tp.of (by kernel_rfl)
theorem bd35_a : Try.f35.body.isNone = false := rfl
theorem nm35_a : (Try.f35.name == "runtime.NumGoroutine") = false := by decide +kernel
theorem bd53_a : Try.f53.body.isNone = false := rfl
theorem nm53_a : (Try.f53.name == "runtime.NumGoroutine") = false := by decide +kernel
theorem bd103_a : Try.f103.body.isNone = false := rfl
theorem nm103_a : (Try.f103.name == "runtime.NumGoroutine") = false := by decide +kernel
theorem there_ok (w0 : World) (g : (Int) × (List ((Int) × (Int)))) (g_v : Value) (hg_v : Ro w0 g_v g.2) (v : Int) :
    Calls Try.prog 104 #[Value.agg (List.toArray [Value.int .i64 g.1, g_v]), Value.int .i64 v] w0 (fun ee w => ee = .returned (Value.bool (decide (0 ≤ v ∧ v < g.1))) ∧ Bel w0.heap.size w0 w) := by
 refine calls_of_run Try.func104 rfl (Nat.le_of_ble_eq_true rfl) ?_
 have hbase := Base.start w0
 have r_g_v := hg_v.sl
 refine run_seq (run_region rfl (l_op rfl ?_))
 refine o_box c0 (is 1) (1, 0) rfl rfl ?_
 intro g4 w1 b3 ch2 bx5
 replace bx5 : Bx g4 (is 1) w1 b3 [Value.int .i64 g.1, g_v] := bx5
 refine lv (Value.bool false) rfl (e_assign rfl) ?_
 refine l_nil (run_seq (run_region rfl ?_))
 refine lv (Value.int .i64 v) rfl (e_move rfl) ?_
 refine lv (Value.bool (decide (0 ≤ v))) rfl (e_geq (m := v) (n := 0) rfl rfl) ?_
 refine lv (Value.bool (decide (0 ≤ v))) rfl (e_move rfl) ?_
 by_cases q7 : 0 ≤ v
 ·
  refine lv (Value.int .i64 v) (want_y rfl rfl rfl (decide_eq_true q7)) (e_move rfl) ?_
  refine lv (Value.pointer (some ⟨b3, 0, none⟩)) (want_y rfl rfl rfl (decide_eq_true q7)) (e_fieldAddr Try.underlying24 rfl rfl rfl rfl) ?_
  refine lv (Value.int .i64 g.1) (want_y rfl rfl rfl (decide_eq_true q7)) (e_load_bx1 tp3_a rfl bx5 rfl) ?_
  refine lv (Value.bool (decide (v < g.1))) (want_y rfl rfl rfl (decide_eq_true q7)) (e_lss (m := v) (n := g.1) rfl rfl) ?_
  refine lv (Value.bool (decide (v < g.1))) rfl (e_pick_t rfl (decide_eq_true q7) rfl) ?_
  refine lv (Value.bool (decide (v < g.1))) rfl (e_assign rfl) ?_
  refine l_nil ?_
  refine run_ret (vs := [Value.bool (decide (v < g.1))]) Try.func104 (.tmp rfl .nil) ?_
  have e0 : (decide (v < g.1) : Bool) = (decide (0 ≤ v ∧ v < g.1)) := by
    simp_all <;> omega
  replace hbase := hbase.chg ch2 (not_no _)
  exact ⟨(congrArg (a₁ := decide (v < g.1)) (fun (z0 : Bool) => Ending.returned (Value.bool z0)) e0), hbase.below⟩
 refine l_skip (want_n rfl rfl rfl (decide_eq_false q7)) ?_
 refine l_skip (want_n rfl rfl rfl (decide_eq_false q7)) ?_
 refine l_skip (want_n rfl rfl rfl (decide_eq_false q7)) ?_
 refine l_skip (want_n rfl rfl rfl (decide_eq_false q7)) ?_
 refine lv (Value.bool false) rfl (e_pick_f rfl (decide_eq_false q7) rfl) ?_
 refine lv (Value.bool false) rfl (e_assign rfl) ?_
 refine l_nil ?_
 refine run_ret (vs := [Value.bool false]) Try.func104 (.tmp rfl .nil) ?_
 have e0 : (false : Bool) = (decide (0 ≤ v ∧ v < g.1)) := by
   simp_all <;> omega
 replace hbase := hbase.chg ch2 (not_no _)
 exact ⟨(congrArg (a₁ := false) (fun (z0 : Bool) => Ending.returned (Value.bool z0)) e0), hbase.below⟩
theorem May_ok (w0 : World) (g : (Int) × (List ((Int) × (Int)))) (g_v : Value) (hg_v : Ro w0 g_v g.2) :
    Calls Try.prog 53 #[Value.agg (List.toArray [Value.int .i64 g.1, g_v])] w0 (fun ee w => ee = .returned (Value.bool (mayB g)) ∧ Bel w0.heap.size w0 w) := by
 refine calls_of_run Try.func53 rfl (Nat.le_of_ble_eq_true rfl) ?_
 have hbase := Base.start w0
 have r_g_v := hg_v.sl
 refine run_seq (run_region rfl (l_op rfl ?_))
 refine o_box c0 (is 1) (1, 0) rfl rfl ?_
 intro g4 w1 b3 ch2 bx5
 replace bx5 : Bx g4 (is 1) w1 b3 [Value.int .i64 g.1, g_v] := bx5
 refine lv (Value.bool false) rfl (e_assign rfl) ?_
 refine l_nil (run_seq (run_seq (run_region rfl ?_)))
 refine lv (Value.pointer (some ⟨b3, 0, none⟩)) rfl (e_fieldAddr Try.underlying24 rfl rfl rfl rfl) ?_
 refine lv (Value.int .i64 g.1) rfl (e_load_bx1 tp3_a rfl bx5 rfl) ?_
 refine lv (Value.bool (decide (g.1 < 0))) rfl (e_lss (m := g.1) (n := 0) rfl rfl) ?_
 refine lv (Value.bool (decide (g.1 < 0))) rfl (e_move rfl) ?_
 by_cases q10 : g.1 < 0
 ·
  refine l_skip (want_n rfl rfl rfl (decide_eq_true q10)) ?_
  refine l_skip (want_n rfl rfl rfl (decide_eq_true q10)) ?_
  refine l_skip (want_n rfl rfl rfl (decide_eq_true q10)) ?_
  refine lv (Value.bool true) rfl (e_pick_t rfl (decide_eq_true q10) rfl) ?_
  refine lv (Value.bool true) rfl (e_move rfl) ?_
  refine l_skip (want_n rfl rfl rfl rfl) (l_skip (want_n rfl rfl rfl rfl) (l_skip (want_n rfl rfl rfl rfl) (l_skip (want_n rfl rfl rfl rfl) ?_)))
  refine lv (Value.bool true) rfl (e_pick_t rfl rfl rfl) ?_
  refine l_nil ?_
  refine run_cond_t rfl rfl ?_
  refine run_seq ?_
  clear bx5
  refine run_region rfl ?_
  refine lv (Value.bool false) rfl (e_assign rfl) ?_
  refine l_nil ?_
  refine run_ret (vs := [Value.bool false]) Try.func53 (.tmp rfl .nil) ?_
  have e0 : (false : Bool) = (mayB g) := by
    first
      | exact (mayB_false (fun h => by unfold MayP at h; omega)).symm
      | exact (mayB_false (fun h => by have h2 := h.2.2.2 _ (gI_mem (xs := g.2) (i := (k : Int)) (by omega) (by assumption)); unfold okE at h2; omega)).symm
      | exact (mayB_true ⟨by omega, by omega, by omega, by rw [List.take_of_length_le (by omega)] at hinv4; exact hinv4⟩).symm
  replace hbase := hbase.chg ch2 (not_no _)
  exact ⟨(congrArg (a₁ := false) (fun (z0 : Bool) => Ending.returned (Value.bool z0)) e0), hbase.below⟩
 refine lv (Value.pointer (some ⟨b3, 0, none⟩)) (want_y rfl rfl rfl (decide_eq_false q10)) (e_fieldAddr Try.underlying24 rfl rfl rfl rfl) ?_
 refine lv (Value.int .i64 g.1) (want_y rfl rfl rfl (decide_eq_false q10)) (e_load_bx1 tp3_a rfl bx5 rfl) ?_
 refine lv (Value.bool (decide (1024 < g.1))) (want_y rfl rfl rfl (decide_eq_false q10)) (e_gtr (m := g.1) (n := 1024) rfl rfl) ?_
 refine lv (Value.bool (decide (1024 < g.1))) rfl (e_pick_f rfl (decide_eq_false q10) rfl) ?_
 refine lv (Value.bool (decide (1024 < g.1))) rfl (e_move rfl) ?_
 by_cases q15 : 1024 < g.1
 ·
  refine l_skip (want_n rfl rfl rfl (decide_eq_true q15)) ?_
  refine l_skip (want_n rfl rfl rfl (decide_eq_true q15)) ?_
  refine l_skip (want_n rfl rfl rfl (decide_eq_true q15)) ?_
  refine l_skip (want_n rfl rfl rfl (decide_eq_true q15)) ?_
  refine lv (Value.bool true) rfl (e_pick_t rfl (decide_eq_true q15) rfl) ?_
  refine l_nil ?_
  refine run_cond_t rfl rfl ?_
  refine run_seq ?_
  clear bx5
  refine run_region rfl ?_
  refine lv (Value.bool false) rfl (e_assign rfl) ?_
  refine l_nil ?_
  refine run_ret (vs := [Value.bool false]) Try.func53 (.tmp rfl .nil) ?_
  have e0 : (false : Bool) = (mayB g) := by
    first
      | exact (mayB_false (fun h => by unfold MayP at h; omega)).symm
      | exact (mayB_false (fun h => by have h2 := h.2.2.2 _ (gI_mem (xs := g.2) (i := (k : Int)) (by omega) (by assumption)); unfold okE at h2; omega)).symm
      | exact (mayB_true ⟨by omega, by omega, by omega, by rw [List.take_of_length_le (by omega)] at hinv4; exact hinv4⟩).symm
  replace hbase := hbase.chg ch2 (not_no _)
  exact ⟨(congrArg (a₁ := false) (fun (z0 : Bool) => Ending.returned (Value.bool z0)) e0), hbase.below⟩
 refine lv (Value.pointer (some ⟨b3, 1, none⟩)) (want_y rfl rfl rfl (decide_eq_false q15)) (e_fieldAddr Try.underlying24 rfl rfl rfl rfl) ?_
 refine lv (g_v) (want_y rfl rfl rfl (decide_eq_false q15)) (e_load_bx1 tp22_a rfl bx5 rfl) ?_
 replace r_g_v := r_g_v.chg ch2 (not_no _)
 have len6 := (r_g_v).small
 refine lv (Value.int .i64 (List.length g.2 : Int)) (want_y rfl rfl rfl (decide_eq_false q15)) (e_len Try.underlying22 rfl r_g_v) ?_
 refine lv (Value.bool (decide (3072 < (List.length g.2 : Int)))) (want_y rfl rfl rfl (decide_eq_false q15)) (e_gtr (m := (List.length g.2 : Int)) (n := 3072) rfl rfl) ?_
 refine lv (Value.bool (decide (3072 < (List.length g.2 : Int)))) rfl (e_pick_f rfl (decide_eq_false q15) rfl) ?_
 refine l_nil ?_
 by_cases p1 : 3072 < (List.length g.2 : Int)
 ·
  refine run_cond_t rfl (decide_eq_true p1) ?_
  refine run_seq ?_
  clear bx5
  refine run_region rfl ?_
  refine lv (Value.bool false) rfl (e_assign rfl) ?_
  refine l_nil ?_
  refine run_ret (vs := [Value.bool false]) Try.func53 (.tmp rfl .nil) ?_
  have e0 : (false : Bool) = (mayB g) := by
    first
      | exact (mayB_false (fun h => by unfold MayP at h; omega)).symm
      | exact (mayB_false (fun h => by have h2 := h.2.2.2 _ (gI_mem (xs := g.2) (i := (k : Int)) (by omega) (by assumption)); unfold okE at h2; omega)).symm
      | exact (mayB_true ⟨by omega, by omega, by omega, by rw [List.take_of_length_le (by omega)] at hinv4; exact hinv4⟩).symm
  replace hbase := hbase.chg ch2 (not_no _)
  exact ⟨(congrArg (a₁ := false) (fun (z0 : Bool) => Ending.returned (Value.bool z0)) e0), hbase.below⟩
 refine run_cond_f rfl (decide_eq_false p1) ?_
 refine run_skip ?_
 refine run_seq (run_seq (run_region rfl ?_))
 refine lv (Value.pointer (some ⟨b3, 1, none⟩)) rfl (e_fieldAddr Try.underlying24 rfl rfl rfl rfl) ?_
 refine lv (g_v) rfl (e_load_bx1 tp22_a rfl bx5 rfl) ?_
 refine lv (Value.int .i64 (List.length g.2 : Int)) rfl (e_len Try.underlying22 rfl r_g_v) ?_
 refine lv (Value.int .i64 0) rfl (e_move rfl) ?_
 refine l_nil ?_
 refine run_block ?_
 refine run_loop (σ := Nat × Cmap) (fun ⟨k, gq⟩ f w => Base w0 gq w ∧ f 1 = Value.pointer (some ⟨b3, 0, none⟩) ∧ f 22 = g_v ∧ f 23 = Value.int .i64 (List.length g.2 : Int) ∧ f 24 = Value.int .i64 (k : Int) ∧ Sl gq (is 0) w g_v g.2 ∧ Bx gq (is 1) w b3 [Value.int .i64 g.1, g_v] ∧ (k : Int) ≤ ((List.length g.2 : Int) : Int) ∧ (∀ e ∈ List.take k g.2, okE g.1 e)) (fun ⟨k, gq⟩ => Int.toNat (((List.length g.2 : Int) : Int) - (k : Int))) (0, g4) ?_ ?_
 replace hbase := hbase.chg ch2 (not_no _)
 · exact ⟨hbase, rfl, rfl, rfl, rfl, r_g_v, bx5, by omega, by simp⟩
 clear r_g_v bx5 hbase
 rintro ⟨k, g9⟩ f7 w8 ⟨hbase, zs1, zs22, zs23, zs24, r_g_v, bx5, hle_k, hinv4⟩ back4
 refine run_seq (run_region rfl ?_)
 refine lv (Value.bool (decide ((k : Int) < (List.length g.2 : Int)))) rfl (e_lss (m := (k : Int)) (n := (List.length g.2 : Int)) (by exact zs24) (by exact zs23)) ?_
 refine l_nil (run_seq ?_)
 by_cases p4 : (k : Int) < (List.length g.2 : Int)
 ·
  refine run_cond_t rfl (decide_eq_true p4) ?_
  refine run_skip ?_
  refine run_seq ?_
  refine run_block ?_
  refine run_seq (run_region rfl ?_)
  refine lv (Value.pointer (some (eAddr g_v 2 (Int.toNat (k : Int))))) rfl (e_indexAddr (α := (Int) × (Int)) (xs := g.2) (v := g_v) (i := (k : Int)) Try.underlying22 rfl (by exact zs22) r_g_v (by exact zs24) (by omega) (by omega)) ?_
  refine lv (Value.agg (List.toArray [Value.int .i64 ((gI g.2 (k : Int)).1), Value.int .i64 ((gI g.2 (k : Int)).2)])) rfl (e_load_elN (α := (Int) × (Int)) (xs := g.2) (v := g_v) (i := (k : Int)) tp60_a rfl r_g_v (by omega) (by omega) rfl) ?_
  refine l_op rfl ?_
  refine o_alloc g9 (is 2) (2, 0) rfl tp60_a ?_
  intro g13 w10 b12 ch11 bx14
  replace bx14 : Bx g13 (is 2) w10 b12 [Value.int .i64 0, Value.int .i64 0] := bx14
  refine l_op rfl ?_
  refine o_store_bx (cs' := [Value.int .i64 ((gI g.2 (k : Int)).1), Value.int .i64 ((gI g.2 (k : Int)).2)]) tp60_a rfl rfl bx14 rfl (Nat.le_of_ble_eq_true rfl) (AllOne.all (.cons rfl (.cons rfl .nil))) rfl ?_
  intro w15 ch16 bx17
  clear bx14
  refine l_nil (run_seq (run_region rfl ?_))
  refine lv (Value.agg (List.toArray [Value.int .i64 ((gI g.2 (k : Int)).1), Value.int .i64 ((gI g.2 (k : Int)).2)])) rfl (e_load_bxN (ds := [Value.int .i64 ((gI g.2 (k : Int)).1), Value.int .i64 ((gI g.2 (k : Int)).2)]) tp60_a rfl bx17 rfl rfl) ?_
  refine lv (Value.int .i64 0) rfl (e_move rfl) ?_
  refine l_nil ?_
  refine run_block ?_
  refine run_loop0 ?_
  refine run_seq ?_
  clear bx17
  refine run_region rfl ?_
  refine lv (Value.bool true) rfl (e_lss (m := 0) (n := 2) rfl rfl) ?_
  refine l_nil (run_seq ?_)
  refine run_cond_t rfl rfl ?_
  refine run_skip ?_
  refine run_seq ?_
  refine run_block ?_
  refine run_seq (run_region rfl ?_)
  refine lv (Value.int .i64 ((gI g.2 (k : Int)).1)) rfl (e_index_arr Try.underlying60 tp3_a rfl rfl (by decide) (by decide) rfl) ?_
  refine lv (Value.int .i64 ((gI g.2 (k : Int)).1)) rfl (e_assign rfl) ?_
  refine l_nil (run_seq (run_region rfl ?_))
  refine lv (Value.int .i64 ((gI g.2 (k : Int)).1)) rfl (e_move rfl) ?_
  refine lv (Value.bool (decide (((gI g.2 (k : Int)).1) < 0))) rfl (e_lss (m := (gI g.2 (k : Int)).1) (n := 0) rfl rfl) ?_
  refine lv (Value.bool (decide (((gI g.2 (k : Int)).1) < 0))) rfl (e_move rfl) ?_
  by_cases q34 : ((gI g.2 (k : Int)).1) < 0
  ·
   refine l_skip (want_n rfl rfl rfl (decide_eq_true q34)) ?_
   refine l_skip (want_n rfl rfl rfl (decide_eq_true q34)) ?_
   refine l_skip (want_n rfl rfl rfl (decide_eq_true q34)) ?_
   refine l_skip (want_n rfl rfl rfl (decide_eq_true q34)) ?_
   refine lv (Value.bool true) rfl (e_pick_t rfl (decide_eq_true q34) rfl) ?_
   refine l_nil ?_
   refine run_cond_t rfl rfl ?_
   refine run_seq ?_
   clear bx5
   refine run_region rfl ?_
   refine lv (Value.bool false) rfl (e_assign rfl) ?_
   refine l_nil ?_
   refine run_ret (vs := [Value.bool false]) Try.func53 (.tmp rfl .nil) ?_
   have e0 : (false : Bool) = (mayB g) := by
     first
       | exact (mayB_false (fun h => by unfold MayP at h; omega)).symm
       | exact (mayB_false (fun h => by have h2 := h.2.2.2 _ (gI_mem (xs := g.2) (i := (k : Int)) (by omega) (by assumption)); unfold okE at h2; omega)).symm
       | exact (mayB_true ⟨by omega, by omega, by omega, by rw [List.take_of_length_le (by omega)] at hinv4; exact hinv4⟩).symm
   replace hbase := hbase.chg ch11 (not_no _)
   replace hbase := hbase.chg ch16 (is_ne rfl)
   exact ⟨(congrArg (a₁ := false) (fun (z0 : Bool) => Ending.returned (Value.bool z0)) e0), hbase.below⟩
  refine lv (Value.int .i64 ((gI g.2 (k : Int)).1)) (want_y rfl rfl rfl (decide_eq_false q34)) (e_move rfl) ?_
  refine lv (Value.pointer (some ⟨b3, 0, none⟩)) (want_y rfl rfl rfl (decide_eq_false q34)) (e_fieldAddr Try.underlying24 rfl rfl (by exact zs1) rfl) ?_
  replace bx5 := (bx5.chg ch11 (not_no _)).chg ch16 (is_ne rfl)
  refine lv (Value.int .i64 g.1) (want_y rfl rfl rfl (decide_eq_false q34)) (e_load_bx1 tp3_a rfl bx5 rfl) ?_
  refine lv (Value.bool (decide (g.1 ≤ ((gI g.2 (k : Int)).1)))) (want_y rfl rfl rfl (decide_eq_false q34)) (e_geq (m := (gI g.2 (k : Int)).1) (n := g.1) rfl rfl) ?_
  refine lv (Value.bool (decide (g.1 ≤ ((gI g.2 (k : Int)).1)))) rfl (e_pick_f rfl (decide_eq_false q34) rfl) ?_
  refine l_nil ?_
  by_cases p9 : g.1 ≤ ((gI g.2 (k : Int)).1)
  ·
   refine run_cond_t rfl (decide_eq_true p9) ?_
   refine run_seq ?_
   clear bx5
   refine run_region rfl ?_
   refine lv (Value.bool false) rfl (e_assign rfl) ?_
   refine l_nil ?_
   refine run_ret (vs := [Value.bool false]) Try.func53 (.tmp rfl .nil) ?_
   have e0 : (false : Bool) = (mayB g) := by
     first
       | exact (mayB_false (fun h => by unfold MayP at h; omega)).symm
       | exact (mayB_false (fun h => by have h2 := h.2.2.2 _ (gI_mem (xs := g.2) (i := (k : Int)) (by omega) (by assumption)); unfold okE at h2; omega)).symm
       | exact (mayB_true ⟨by omega, by omega, by omega, by rw [List.take_of_length_le (by omega)] at hinv4; exact hinv4⟩).symm
   replace hbase := hbase.chg ch11 (not_no _)
   replace hbase := hbase.chg ch16 (is_ne rfl)
   exact ⟨(congrArg (a₁ := false) (fun (z0 : Bool) => Ending.returned (Value.bool z0)) e0), hbase.below⟩
  refine run_cond_f rfl (decide_eq_false p9) ?_
  refine run_skip ?_
  refine run_inBlock ?_
  refine run_region rfl ?_
  refine lv (Value.int .i64 1) rfl (e_add (m := 0) (n := 1) rfl rfl (by omega)) ?_
  refine lv (Value.int .i64 1) rfl (e_move rfl) ?_
  refine l_nil ?_
  refine run_inLoop ?_
  refine run_seq (run_region rfl ?_)
  refine lv (Value.bool true) rfl (e_lss (m := 1) (n := 2) rfl rfl) ?_
  refine l_nil (run_seq ?_)
  refine run_cond_t rfl rfl ?_
  refine run_skip ?_
  refine run_seq ?_
  refine run_block ?_
  refine run_seq (run_region rfl ?_)
  refine lv (Value.int .i64 ((gI g.2 (k : Int)).2)) rfl (e_index_arr Try.underlying60 tp3_a rfl rfl (by decide) (by decide) rfl) ?_
  refine lv (Value.int .i64 ((gI g.2 (k : Int)).2)) rfl (e_assign rfl) ?_
  refine l_nil (run_seq (run_region rfl ?_))
  refine lv (Value.int .i64 ((gI g.2 (k : Int)).2)) rfl (e_move rfl) ?_
  refine lv (Value.bool (decide (((gI g.2 (k : Int)).2) < 0))) rfl (e_lss (m := (gI g.2 (k : Int)).2) (n := 0) rfl rfl) ?_
  refine lv (Value.bool (decide (((gI g.2 (k : Int)).2) < 0))) rfl (e_move rfl) ?_
  by_cases q34_18 : ((gI g.2 (k : Int)).2) < 0
  ·
   refine l_skip (want_n rfl rfl rfl (decide_eq_true q34_18)) ?_
   refine l_skip (want_n rfl rfl rfl (decide_eq_true q34_18)) ?_
   refine l_skip (want_n rfl rfl rfl (decide_eq_true q34_18)) ?_
   refine l_skip (want_n rfl rfl rfl (decide_eq_true q34_18)) ?_
   refine lv (Value.bool true) rfl (e_pick_t rfl (decide_eq_true q34_18) rfl) ?_
   refine l_nil ?_
   refine run_cond_t rfl rfl ?_
   refine run_seq ?_
   clear bx5
   refine run_region rfl ?_
   refine lv (Value.bool false) rfl (e_assign rfl) ?_
   refine l_nil ?_
   refine run_ret (vs := [Value.bool false]) Try.func53 (.tmp rfl .nil) ?_
   have e0 : (false : Bool) = (mayB g) := by
     first
       | exact (mayB_false (fun h => by unfold MayP at h; omega)).symm
       | exact (mayB_false (fun h => by have h2 := h.2.2.2 _ (gI_mem (xs := g.2) (i := (k : Int)) (by omega) (by assumption)); unfold okE at h2; omega)).symm
       | exact (mayB_true ⟨by omega, by omega, by omega, by rw [List.take_of_length_le (by omega)] at hinv4; exact hinv4⟩).symm
   replace hbase := hbase.chg ch11 (not_no _)
   replace hbase := hbase.chg ch16 (is_ne rfl)
   exact ⟨(congrArg (a₁ := false) (fun (z0 : Bool) => Ending.returned (Value.bool z0)) e0), hbase.below⟩
  refine lv (Value.int .i64 ((gI g.2 (k : Int)).2)) (want_y rfl rfl rfl (decide_eq_false q34_18)) (e_move rfl) ?_
  refine lv (Value.pointer (some ⟨b3, 0, none⟩)) (want_y rfl rfl rfl (decide_eq_false q34_18)) (e_fieldAddr Try.underlying24 rfl rfl (by exact zs1) rfl) ?_
  refine lv (Value.int .i64 g.1) (want_y rfl rfl rfl (decide_eq_false q34_18)) (e_load_bx1 tp3_a rfl bx5 rfl) ?_
  refine lv (Value.bool (decide (g.1 ≤ ((gI g.2 (k : Int)).2)))) (want_y rfl rfl rfl (decide_eq_false q34_18)) (e_geq (m := (gI g.2 (k : Int)).2) (n := g.1) rfl rfl) ?_
  refine lv (Value.bool (decide (g.1 ≤ ((gI g.2 (k : Int)).2)))) rfl (e_pick_f rfl (decide_eq_false q34_18) rfl) ?_
  refine l_nil ?_
  by_cases p9_19 : g.1 ≤ ((gI g.2 (k : Int)).2)
  ·
   refine run_cond_t rfl (decide_eq_true p9_19) ?_
   refine run_seq ?_
   clear bx5
   refine run_region rfl ?_
   refine lv (Value.bool false) rfl (e_assign rfl) ?_
   refine l_nil ?_
   refine run_ret (vs := [Value.bool false]) Try.func53 (.tmp rfl .nil) ?_
   have e0 : (false : Bool) = (mayB g) := by
     first
       | exact (mayB_false (fun h => by unfold MayP at h; omega)).symm
       | exact (mayB_false (fun h => by have h2 := h.2.2.2 _ (gI_mem (xs := g.2) (i := (k : Int)) (by omega) (by assumption)); unfold okE at h2; omega)).symm
       | exact (mayB_true ⟨by omega, by omega, by omega, by rw [List.take_of_length_le (by omega)] at hinv4; exact hinv4⟩).symm
   replace hbase := hbase.chg ch11 (not_no _)
   replace hbase := hbase.chg ch16 (is_ne rfl)
   exact ⟨(congrArg (a₁ := false) (fun (z0 : Bool) => Ending.returned (Value.bool z0)) e0), hbase.below⟩
  refine run_cond_f rfl (decide_eq_false p9_19) ?_
  refine run_skip ?_
  refine run_inBlock ?_
  refine run_region rfl ?_
  refine lv (Value.int .i64 2) rfl (e_add (m := 1) (n := 1) rfl rfl (by omega)) ?_
  refine lv (Value.int .i64 2) rfl (e_move rfl) ?_
  refine l_nil ?_
  refine run_inLoop ?_
  refine run_seq (run_region rfl ?_)
  refine lv (Value.bool false) rfl (e_lss (m := 2) (n := 2) rfl rfl) ?_
  refine l_nil (run_seq ?_)
  refine run_cond_f rfl rfl ?_
  refine run_exit rfl ?_
  refine run_inBlock ?_
  refine run_region rfl ?_
  refine lv (Value.int .i64 ((k : Int) + 1)) rfl (e_add (m := (k : Int)) (n := 1) (by exact zs24) rfl (by omega)) ?_
  refine lv (Value.int .i64 ((k : Int) + 1)) rfl (e_move rfl) ?_
  refine l_nil ?_
  replace hbase := hbase.chg ch11 (not_no _)
  replace hbase := hbase.chg ch16 (is_ne rfl)
  replace r_g_v := (r_g_v.chg ch11 (not_no _)).chg ch16 (is_ne rfl)
  refine back4 (k + 1, g13) _ _ ⟨hbase, (by exact zs1), (by exact zs22), (by exact zs23), rfl, r_g_v, bx5, by omega, ?_⟩ ?_
  · show ∀ e ∈ List.take (k + 1) g.2, okE g.1 e
    rw [take_succ_gI (by assumption)]
    intro e he
    rcases List.mem_append.1 he with h | h
    · exact hinv4 e h
    · obtain rfl := List.mem_singleton.1 h
      refine ⟨?_, ?_⟩ <;> omega
  · show Int.toNat (((List.length g.2 : Int) : Int) - ((k + 1) : Int)) < Int.toNat (((List.length g.2 : Int) : Int) - (k : Int))
    omega
 refine run_cond_f rfl (decide_eq_false p4) ?_
 refine run_exit rfl ?_
 refine run_seq ?_
 clear bx5
 refine run_region rfl ?_
 refine lv (Value.bool true) rfl (e_assign rfl) ?_
 refine l_nil ?_
 refine run_ret (vs := [Value.bool true]) Try.func53 (.tmp rfl .nil) ?_
 have e0 : (true : Bool) = (mayB g) := by
   first
     | exact (mayB_false (fun h => by unfold MayP at h; omega)).symm
     | exact (mayB_false (fun h => by have h2 := h.2.2.2 _ (gI_mem (xs := g.2) (i := (k : Int)) (by omega) (by assumption)); unfold okE at h2; omega)).symm
     | exact (mayB_true ⟨by omega, by omega, by omega, by rw [List.take_of_length_le (by omega)] at hinv4; exact hinv4⟩).symm
 exact ⟨(congrArg (a₁ := true) (fun (z0 : Bool) => Ending.returned (Value.bool z0)) e0), hbase.below⟩
theorem rMay_ok (w0 : World) (g : (Int) × (List ((Int) × (Int)))) (g_v : Value) (hg_v : Ro w0 g_v g.2) :
    Calls Try.prog 35 #[Value.agg (List.toArray [Value.int .i64 g.1, g_v])] w0 (fun ee w => ee = .returned (Value.bool (mayB g)) ∧ Bel w0.heap.size w0 w) := by
 refine calls_of_run Try.func35 rfl (Nat.le_of_ble_eq_true rfl) ?_
 have hbase := Base.start w0
 have r_g_v := hg_v.sl
 refine run_seq (run_region rfl (l_op rfl ?_))
 refine o_box c0 (is 1) (1, 0) rfl rfl ?_
 intro g4 w1 b3 ch2 bx5
 replace bx5 : Bx g4 (is 1) w1 b3 [Value.int .i64 g.1, g_v] := bx5
 refine lv (Value.bool false) rfl (e_assign rfl) ?_
 refine l_nil (run_seq (run_seq (run_region rfl ?_)))
 refine lv (Value.pointer (some ⟨b3, 0, none⟩)) rfl (e_fieldAddr Try.underlying24 rfl rfl rfl rfl) ?_
 refine lv (Value.int .i64 g.1) rfl (e_load_bx1 tp3_a rfl bx5 rfl) ?_
 refine lv (Value.bool (decide (g.1 < 0))) rfl (e_lss (m := g.1) (n := 0) rfl rfl) ?_
 refine lv (Value.bool (decide (g.1 < 0))) rfl (e_move rfl) ?_
 by_cases q8 : g.1 < 0
 ·
  refine l_skip (want_n rfl rfl rfl (decide_eq_true q8)) ?_
  refine l_skip (want_n rfl rfl rfl (decide_eq_true q8)) ?_
  refine l_skip (want_n rfl rfl rfl (decide_eq_true q8)) ?_
  refine lv (Value.bool true) rfl (e_pick_t rfl (decide_eq_true q8) rfl) ?_
  refine lv (Value.bool true) rfl (e_move rfl) ?_
  refine l_skip (want_n rfl rfl rfl rfl) (l_skip (want_n rfl rfl rfl rfl) (l_skip (want_n rfl rfl rfl rfl) (l_skip (want_n rfl rfl rfl rfl) ?_)))
  refine lv (Value.bool true) rfl (e_pick_t rfl rfl rfl) ?_
  refine l_nil ?_
  refine run_cond_t rfl rfl ?_
  refine run_seq ?_
  clear bx5
  refine run_region rfl ?_
  refine lv (Value.bool false) rfl (e_assign rfl) ?_
  refine l_nil ?_
  refine run_ret (vs := [Value.bool false]) Try.func35 (.tmp rfl .nil) ?_
  have e0 : (false : Bool) = (mayB g) := by
    first
      | exact (mayB_false (fun h => by unfold MayP at h; omega)).symm
      | exact (mayB_false (fun h => by have h2 := h.2.2.2 _ (gI_mem (xs := g.2) (i := (k : Int)) (by omega) (by assumption)); unfold okE at h2; omega)).symm
      | exact (mayB_true ⟨by omega, by omega, by omega, by rw [List.take_of_length_le (by omega)] at hinv4; exact hinv4⟩).symm
  replace hbase := hbase.chg ch2 (not_no _)
  exact ⟨(congrArg (a₁ := false) (fun (z0 : Bool) => Ending.returned (Value.bool z0)) e0), hbase.below⟩
 refine lv (Value.pointer (some ⟨b3, 0, none⟩)) (want_y rfl rfl rfl (decide_eq_false q8)) (e_fieldAddr Try.underlying24 rfl rfl rfl rfl) ?_
 refine lv (Value.int .i64 g.1) (want_y rfl rfl rfl (decide_eq_false q8)) (e_load_bx1 tp3_a rfl bx5 rfl) ?_
 refine lv (Value.bool (decide (1024 < g.1))) (want_y rfl rfl rfl (decide_eq_false q8)) (e_gtr (m := g.1) (n := 1024) rfl rfl) ?_
 refine lv (Value.bool (decide (1024 < g.1))) rfl (e_pick_f rfl (decide_eq_false q8) rfl) ?_
 refine lv (Value.bool (decide (1024 < g.1))) rfl (e_move rfl) ?_
 by_cases q13 : 1024 < g.1
 ·
  refine l_skip (want_n rfl rfl rfl (decide_eq_true q13)) ?_
  refine l_skip (want_n rfl rfl rfl (decide_eq_true q13)) ?_
  refine l_skip (want_n rfl rfl rfl (decide_eq_true q13)) ?_
  refine l_skip (want_n rfl rfl rfl (decide_eq_true q13)) ?_
  refine lv (Value.bool true) rfl (e_pick_t rfl (decide_eq_true q13) rfl) ?_
  refine l_nil ?_
  refine run_cond_t rfl rfl ?_
  refine run_seq ?_
  clear bx5
  refine run_region rfl ?_
  refine lv (Value.bool false) rfl (e_assign rfl) ?_
  refine l_nil ?_
  refine run_ret (vs := [Value.bool false]) Try.func35 (.tmp rfl .nil) ?_
  have e0 : (false : Bool) = (mayB g) := by
    first
      | exact (mayB_false (fun h => by unfold MayP at h; omega)).symm
      | exact (mayB_false (fun h => by have h2 := h.2.2.2 _ (gI_mem (xs := g.2) (i := (k : Int)) (by omega) (by assumption)); unfold okE at h2; omega)).symm
      | exact (mayB_true ⟨by omega, by omega, by omega, by rw [List.take_of_length_le (by omega)] at hinv4; exact hinv4⟩).symm
  replace hbase := hbase.chg ch2 (not_no _)
  exact ⟨(congrArg (a₁ := false) (fun (z0 : Bool) => Ending.returned (Value.bool z0)) e0), hbase.below⟩
 refine lv (Value.pointer (some ⟨b3, 1, none⟩)) (want_y rfl rfl rfl (decide_eq_false q13)) (e_fieldAddr Try.underlying24 rfl rfl rfl rfl) ?_
 refine lv (g_v) (want_y rfl rfl rfl (decide_eq_false q13)) (e_load_bx1 tp22_a rfl bx5 rfl) ?_
 replace r_g_v := r_g_v.chg ch2 (not_no _)
 have len6 := (r_g_v).small
 refine lv (Value.int .i64 (List.length g.2 : Int)) (want_y rfl rfl rfl (decide_eq_false q13)) (e_len Try.underlying22 rfl r_g_v) ?_
 refine lv (Value.bool (decide (3072 < (List.length g.2 : Int)))) (want_y rfl rfl rfl (decide_eq_false q13)) (e_gtr (m := (List.length g.2 : Int)) (n := 3072) rfl rfl) ?_
 refine lv (Value.bool (decide (3072 < (List.length g.2 : Int)))) rfl (e_pick_f rfl (decide_eq_false q13) rfl) ?_
 refine l_nil ?_
 by_cases p1 : 3072 < (List.length g.2 : Int)
 ·
  refine run_cond_t rfl (decide_eq_true p1) ?_
  refine run_seq ?_
  clear bx5
  refine run_region rfl ?_
  refine lv (Value.bool false) rfl (e_assign rfl) ?_
  refine l_nil ?_
  refine run_ret (vs := [Value.bool false]) Try.func35 (.tmp rfl .nil) ?_
  have e0 : (false : Bool) = (mayB g) := by
    first
      | exact (mayB_false (fun h => by unfold MayP at h; omega)).symm
      | exact (mayB_false (fun h => by have h2 := h.2.2.2 _ (gI_mem (xs := g.2) (i := (k : Int)) (by omega) (by assumption)); unfold okE at h2; omega)).symm
      | exact (mayB_true ⟨by omega, by omega, by omega, by rw [List.take_of_length_le (by omega)] at hinv4; exact hinv4⟩).symm
  replace hbase := hbase.chg ch2 (not_no _)
  exact ⟨(congrArg (a₁ := false) (fun (z0 : Bool) => Ending.returned (Value.bool z0)) e0), hbase.below⟩
 refine run_cond_f rfl (decide_eq_false p1) ?_
 refine run_skip ?_
 refine run_seq (run_seq (run_region rfl ?_))
 refine lv (Value.int .i64 0) rfl (e_assign rfl) ?_
 refine l_nil ?_
 refine run_block ?_
 refine run_loop (σ := Nat × Cmap) (fun ⟨k, gq⟩ f w => Base w0 gq w ∧ f 1 = Value.pointer (some ⟨b3, 0, none⟩) ∧ f 3 = Value.int .i64 (k : Int) ∧ Sl gq (is 0) w g_v g.2 ∧ Bx gq (is 1) w b3 [Value.int .i64 g.1, g_v] ∧ (k : Int) ≤ ((List.length g.2 : Int) : Int) ∧ (∀ e ∈ List.take k g.2, okE g.1 e)) (fun ⟨k, gq⟩ => Int.toNat (((List.length g.2 : Int) : Int) - (k : Int))) (0, g4) ?_ ?_
 replace hbase := hbase.chg ch2 (not_no _)
 · exact ⟨hbase, rfl, rfl, r_g_v, bx5, by omega, by simp⟩
 clear r_g_v bx5 hbase
 rintro ⟨k, g9⟩ f7 w8 ⟨hbase, zs1, zs3, r_g_v, bx5, hle_k, hinv4⟩ back4
 refine run_seq (run_seq (run_region rfl ?_))
 refine lv (Value.int .i64 (k : Int)) rfl (e_move (by exact zs3)) ?_
 refine lv (Value.pointer (some ⟨b3, 1, none⟩)) rfl (e_fieldAddr Try.underlying24 rfl rfl (by exact zs1) rfl) ?_
 refine lv (g_v) rfl (e_load_bx1 tp22_a rfl bx5 rfl) ?_
 refine lv (Value.int .i64 (List.length g.2 : Int)) rfl (e_len Try.underlying22 rfl r_g_v) ?_
 refine lv (Value.bool (decide ((k : Int) < (List.length g.2 : Int)))) rfl (e_lss (m := (k : Int)) (n := (List.length g.2 : Int)) rfl rfl) ?_
 refine l_nil ?_
 by_cases p4 : (k : Int) < (List.length g.2 : Int)
 ·
  refine run_cond_t rfl (decide_eq_true p4) ?_
  refine run_skip ?_
  refine run_seq ?_
  refine run_block ?_
  refine run_seq (run_region rfl ?_)
  refine lv (Value.int .i64 0) rfl (e_assign rfl) ?_
  refine l_nil ?_
  refine run_block ?_
  refine run_loop0 ?_
  refine run_seq (run_seq (run_region rfl ?_))
  refine lv (Value.int .i64 0) rfl (e_move rfl) ?_
  refine lv (Value.bool true) rfl (e_lss (m := 0) (n := 2) rfl rfl) ?_
  refine l_nil ?_
  refine run_cond_t rfl rfl ?_
  refine run_skip ?_
  refine run_seq ?_
  refine run_block ?_
  refine run_seq ?_
  refine region_q g9 rfl mixed_a (by kernel_rfl) ?_
  intro w11 ch10
  refine q_val (v := Value.pointer (some ⟨b3, 1, none⟩)) rfl (fun w' hw' => e_fieldAddr Try.underlying24 rfl rfl (by exact zs1) rfl) ?_
  replace bx5 := bx5.chg ch10 (not_no _)
  refine q_val (v := g_v) rfl (fun w' hw' => e_load_bx1 tp22_a rfl (bx5.bel hw') rfl) ?_
  refine q_val (v := Value.int .i64 (k : Int)) rfl (fun w' hw' => e_move (by exact zs3)) ?_
  refine q_val (v := Value.int .i64 0) rfl (fun w' hw' => e_move rfl) ?_
  replace r_g_v := r_g_v.chg ch10 (not_no _)
  refine q_val (v := Value.pointer (some (eAddr g_v 2 (Int.toNat (k : Int))))) rfl (fun w' hw' => e_indexAddr (α := (Int) × (Int)) (xs := g.2) (v := g_v) (i := (k : Int)) Try.underlying22 rfl rfl (r_g_v.bel hw') rfl (by omega) (by omega)) ?_
  refine q_val (v := Value.pointer (some ⟨(eAddr g_v 2 (Int.toNat (k : Int))).block, (eAddr g_v 2 (Int.toNat (k : Int))).off + 0, none⟩)) rfl (fun w' hw' => e_indexAddr_el Try.underlying60 rfl rfl rfl (by decide) (by decide) rfl) ?_
  refine q_val (v := Value.int .i64 ((gI g.2 (k : Int)).1)) rfl (fun w' hw' => e_load_elF (α := (Int) × (Int)) (xs := g.2) (v := g_v) (i := (k : Int)) tp3_a rfl (r_g_v.bel hw') (by omega) (by omega) (by decide) rfl) ?_
  refine q_val (v := Value.bool (decide (((gI g.2 (k : Int)).1) < 0))) rfl (fun w' hw' => e_lss (m := (gI g.2 (k : Int)).1) (n := 0) rfl rfl) ?_
  refine q_val (v := Value.bool (decide (((gI g.2 (k : Int)).1) < 0))) rfl (fun w' hw' => e_move rfl) ?_
  by_cases q38 : ((gI g.2 (k : Int)).1) < 0
  ·
   refine q_skip (want_n rfl rfl rfl (decide_eq_true q38)) ?_
   refine q_skip (want_n rfl rfl rfl (decide_eq_true q38)) ?_
   refine q_skip (want_n rfl rfl rfl (decide_eq_true q38)) ?_
   refine q_skip (want_n rfl rfl rfl (decide_eq_true q38)) ?_
   refine q_skip (want_n rfl rfl rfl (decide_eq_true q38)) ?_
   refine q_skip (want_n rfl rfl rfl (decide_eq_true q38)) ?_
   refine q_skip (want_n rfl rfl rfl (decide_eq_true q38)) ?_
   refine q_skip (want_n rfl rfl rfl (decide_eq_true q38)) ?_
   refine q_skip (want_n rfl rfl rfl (decide_eq_true q38)) ?_
   refine q_skip (want_n rfl rfl rfl (decide_eq_true q38)) ?_
   refine q_val (v := Value.bool true) rfl (fun w' hw' => e_pick_t rfl (decide_eq_true q38) rfl) ?_
   refine q_nil ?_
   intro w12 hc13
   replace hc13 := chg_below hc13 g9
   refine run_cond_t rfl rfl ?_
   refine run_seq ?_
   clear bx5
   refine run_region rfl ?_
   refine lv (Value.bool false) rfl (e_assign rfl) ?_
   refine l_nil ?_
   refine run_ret (vs := [Value.bool false]) Try.func35 (.tmp rfl .nil) ?_
   have e0 : (false : Bool) = (mayB g) := by
     first
       | exact (mayB_false (fun h => by unfold MayP at h; omega)).symm
       | exact (mayB_false (fun h => by have h2 := h.2.2.2 _ (gI_mem (xs := g.2) (i := (k : Int)) (by omega) (by assumption)); unfold okE at h2; omega)).symm
       | exact (mayB_true ⟨by omega, by omega, by omega, by rw [List.take_of_length_le (by omega)] at hinv4; exact hinv4⟩).symm
   replace hbase := hbase.chg ch10 (not_no _)
   replace hbase := hbase.chg hc13 (not_no _)
   exact ⟨(congrArg (a₁ := false) (fun (z0 : Bool) => Ending.returned (Value.bool z0)) e0), hbase.below⟩
  refine q_val (v := Value.pointer (some ⟨b3, 1, none⟩)) (want_y rfl rfl rfl (decide_eq_false q38)) (fun w' hw' => e_fieldAddr Try.underlying24 rfl rfl (by exact zs1) rfl) ?_
  refine q_val (v := g_v) (want_y rfl rfl rfl (decide_eq_false q38)) (fun w' hw' => e_load_bx1 tp22_a rfl (bx5.bel hw') rfl) ?_
  refine q_val (v := Value.int .i64 (k : Int)) (want_y rfl rfl rfl (decide_eq_false q38)) (fun w' hw' => e_move (by exact zs3)) ?_
  refine q_val (v := Value.int .i64 0) (want_y rfl rfl rfl (decide_eq_false q38)) (fun w' hw' => e_move rfl) ?_
  refine q_val (v := Value.pointer (some (eAddr g_v 2 (Int.toNat (k : Int))))) (want_y rfl rfl rfl (decide_eq_false q38)) (fun w' hw' => e_indexAddr (α := (Int) × (Int)) (xs := g.2) (v := g_v) (i := (k : Int)) Try.underlying22 rfl rfl (r_g_v.bel hw') rfl (by omega) (by omega)) ?_
  refine q_val (v := Value.pointer (some ⟨(eAddr g_v 2 (Int.toNat (k : Int))).block, (eAddr g_v 2 (Int.toNat (k : Int))).off + 0, none⟩)) (want_y rfl rfl rfl (decide_eq_false q38)) (fun w' hw' => e_indexAddr_el Try.underlying60 rfl rfl rfl (by decide) (by decide) rfl) ?_
  refine q_val (v := Value.int .i64 ((gI g.2 (k : Int)).1)) (want_y rfl rfl rfl (decide_eq_false q38)) (fun w' hw' => e_load_elF (α := (Int) × (Int)) (xs := g.2) (v := g_v) (i := (k : Int)) tp3_a rfl (r_g_v.bel hw') (by omega) (by omega) (by decide) rfl) ?_
  refine q_val (v := Value.pointer (some ⟨b3, 0, none⟩)) (want_y rfl rfl rfl (decide_eq_false q38)) (fun w' hw' => e_fieldAddr Try.underlying24 rfl rfl (by exact zs1) rfl) ?_
  refine q_val (v := Value.int .i64 g.1) (want_y rfl rfl rfl (decide_eq_false q38)) (fun w' hw' => e_load_bx1 tp3_a rfl (bx5.bel hw') rfl) ?_
  refine q_val (v := Value.bool (decide (g.1 ≤ ((gI g.2 (k : Int)).1)))) (want_y rfl rfl rfl (decide_eq_false q38)) (fun w' hw' => e_geq (m := (gI g.2 (k : Int)).1) (n := g.1) rfl rfl) ?_
  refine q_val (v := Value.bool (decide (g.1 ≤ ((gI g.2 (k : Int)).1)))) rfl (fun w' hw' => e_pick_f rfl (decide_eq_false q38) rfl) ?_
  refine q_nil ?_
  intro w14 hc15
  replace hc15 := chg_below hc15 g9
  by_cases p9 : g.1 ≤ ((gI g.2 (k : Int)).1)
  ·
   refine run_cond_t rfl (decide_eq_true p9) ?_
   refine run_seq ?_
   clear bx5
   refine run_region rfl ?_
   refine lv (Value.bool false) rfl (e_assign rfl) ?_
   refine l_nil ?_
   refine run_ret (vs := [Value.bool false]) Try.func35 (.tmp rfl .nil) ?_
   have e0 : (false : Bool) = (mayB g) := by
     first
       | exact (mayB_false (fun h => by unfold MayP at h; omega)).symm
       | exact (mayB_false (fun h => by have h2 := h.2.2.2 _ (gI_mem (xs := g.2) (i := (k : Int)) (by omega) (by assumption)); unfold okE at h2; omega)).symm
       | exact (mayB_true ⟨by omega, by omega, by omega, by rw [List.take_of_length_le (by omega)] at hinv4; exact hinv4⟩).symm
   replace hbase := hbase.chg ch10 (not_no _)
   replace hbase := hbase.chg hc15 (not_no _)
   exact ⟨(congrArg (a₁ := false) (fun (z0 : Bool) => Ending.returned (Value.bool z0)) e0), hbase.below⟩
  refine run_cond_f rfl (decide_eq_false p9) ?_
  refine run_skip ?_
  refine run_inBlock ?_
  refine run_region rfl ?_
  refine lv (Value.int .i64 0) rfl (e_move rfl) ?_
  refine lv (Value.int .i64 1) rfl (e_add (m := 0) (n := 1) rfl rfl (by omega)) ?_
  refine lv (Value.int .i64 1) rfl (e_assign rfl) ?_
  refine l_nil ?_
  refine run_inLoop ?_
  refine run_seq (run_seq (run_region rfl ?_))
  refine lv (Value.int .i64 1) rfl (e_move rfl) ?_
  refine lv (Value.bool true) rfl (e_lss (m := 1) (n := 2) rfl rfl) ?_
  refine l_nil ?_
  refine run_cond_t rfl rfl ?_
  refine run_skip ?_
  refine run_seq ?_
  refine run_block ?_
  refine run_seq ?_
  refine region_q g9 rfl mixed_a (by kernel_rfl) ?_
  intro w17 ch16
  refine q_val (v := Value.pointer (some ⟨b3, 1, none⟩)) rfl (fun w' hw' => e_fieldAddr Try.underlying24 rfl rfl (by exact zs1) rfl) ?_
  replace bx5 := (bx5.chg hc15 (not_no _)).chg ch16 (not_no _)
  refine q_val (v := g_v) rfl (fun w' hw' => e_load_bx1 tp22_a rfl (bx5.bel hw') rfl) ?_
  refine q_val (v := Value.int .i64 (k : Int)) rfl (fun w' hw' => e_move (by exact zs3)) ?_
  refine q_val (v := Value.int .i64 1) rfl (fun w' hw' => e_move rfl) ?_
  replace r_g_v := (r_g_v.chg hc15 (not_no _)).chg ch16 (not_no _)
  refine q_val (v := Value.pointer (some (eAddr g_v 2 (Int.toNat (k : Int))))) rfl (fun w' hw' => e_indexAddr (α := (Int) × (Int)) (xs := g.2) (v := g_v) (i := (k : Int)) Try.underlying22 rfl rfl (r_g_v.bel hw') rfl (by omega) (by omega)) ?_
  refine q_val (v := Value.pointer (some ⟨(eAddr g_v 2 (Int.toNat (k : Int))).block, (eAddr g_v 2 (Int.toNat (k : Int))).off + 1, none⟩)) rfl (fun w' hw' => e_indexAddr_el Try.underlying60 rfl rfl rfl (by decide) (by decide) rfl) ?_
  refine q_val (v := Value.int .i64 ((gI g.2 (k : Int)).2)) rfl (fun w' hw' => e_load_elF (α := (Int) × (Int)) (xs := g.2) (v := g_v) (i := (k : Int)) tp3_a rfl (r_g_v.bel hw') (by omega) (by omega) (by decide) rfl) ?_
  refine q_val (v := Value.bool (decide (((gI g.2 (k : Int)).2) < 0))) rfl (fun w' hw' => e_lss (m := (gI g.2 (k : Int)).2) (n := 0) rfl rfl) ?_
  refine q_val (v := Value.bool (decide (((gI g.2 (k : Int)).2) < 0))) rfl (fun w' hw' => e_move rfl) ?_
  by_cases q38_18 : ((gI g.2 (k : Int)).2) < 0
  ·
   refine q_skip (want_n rfl rfl rfl (decide_eq_true q38_18)) ?_
   refine q_skip (want_n rfl rfl rfl (decide_eq_true q38_18)) ?_
   refine q_skip (want_n rfl rfl rfl (decide_eq_true q38_18)) ?_
   refine q_skip (want_n rfl rfl rfl (decide_eq_true q38_18)) ?_
   refine q_skip (want_n rfl rfl rfl (decide_eq_true q38_18)) ?_
   refine q_skip (want_n rfl rfl rfl (decide_eq_true q38_18)) ?_
   refine q_skip (want_n rfl rfl rfl (decide_eq_true q38_18)) ?_
   refine q_skip (want_n rfl rfl rfl (decide_eq_true q38_18)) ?_
   refine q_skip (want_n rfl rfl rfl (decide_eq_true q38_18)) ?_
   refine q_skip (want_n rfl rfl rfl (decide_eq_true q38_18)) ?_
   refine q_val (v := Value.bool true) rfl (fun w' hw' => e_pick_t rfl (decide_eq_true q38_18) rfl) ?_
   refine q_nil ?_
   intro w19 hc20
   replace hc20 := chg_below hc20 g9
   refine run_cond_t rfl rfl ?_
   refine run_seq ?_
   clear bx5
   refine run_region rfl ?_
   refine lv (Value.bool false) rfl (e_assign rfl) ?_
   refine l_nil ?_
   refine run_ret (vs := [Value.bool false]) Try.func35 (.tmp rfl .nil) ?_
   have e0 : (false : Bool) = (mayB g) := by
     first
       | exact (mayB_false (fun h => by unfold MayP at h; omega)).symm
       | exact (mayB_false (fun h => by have h2 := h.2.2.2 _ (gI_mem (xs := g.2) (i := (k : Int)) (by omega) (by assumption)); unfold okE at h2; omega)).symm
       | exact (mayB_true ⟨by omega, by omega, by omega, by rw [List.take_of_length_le (by omega)] at hinv4; exact hinv4⟩).symm
   have C21 : Chg (inl []) _ _ _ _ := (ch10.n).seq ((hc15.n).seq ((ch16.n).seq (hc20.n)))
   replace hbase := hbase.chg C21 (is_nl rfl)
   exact ⟨(congrArg (a₁ := false) (fun (z0 : Bool) => Ending.returned (Value.bool z0)) e0), hbase.below⟩
  refine q_val (v := Value.pointer (some ⟨b3, 1, none⟩)) (want_y rfl rfl rfl (decide_eq_false q38_18)) (fun w' hw' => e_fieldAddr Try.underlying24 rfl rfl (by exact zs1) rfl) ?_
  refine q_val (v := g_v) (want_y rfl rfl rfl (decide_eq_false q38_18)) (fun w' hw' => e_load_bx1 tp22_a rfl (bx5.bel hw') rfl) ?_
  refine q_val (v := Value.int .i64 (k : Int)) (want_y rfl rfl rfl (decide_eq_false q38_18)) (fun w' hw' => e_move (by exact zs3)) ?_
  refine q_val (v := Value.int .i64 1) (want_y rfl rfl rfl (decide_eq_false q38_18)) (fun w' hw' => e_move rfl) ?_
  refine q_val (v := Value.pointer (some (eAddr g_v 2 (Int.toNat (k : Int))))) (want_y rfl rfl rfl (decide_eq_false q38_18)) (fun w' hw' => e_indexAddr (α := (Int) × (Int)) (xs := g.2) (v := g_v) (i := (k : Int)) Try.underlying22 rfl rfl (r_g_v.bel hw') rfl (by omega) (by omega)) ?_
  refine q_val (v := Value.pointer (some ⟨(eAddr g_v 2 (Int.toNat (k : Int))).block, (eAddr g_v 2 (Int.toNat (k : Int))).off + 1, none⟩)) (want_y rfl rfl rfl (decide_eq_false q38_18)) (fun w' hw' => e_indexAddr_el Try.underlying60 rfl rfl rfl (by decide) (by decide) rfl) ?_
  refine q_val (v := Value.int .i64 ((gI g.2 (k : Int)).2)) (want_y rfl rfl rfl (decide_eq_false q38_18)) (fun w' hw' => e_load_elF (α := (Int) × (Int)) (xs := g.2) (v := g_v) (i := (k : Int)) tp3_a rfl (r_g_v.bel hw') (by omega) (by omega) (by decide) rfl) ?_
  refine q_val (v := Value.pointer (some ⟨b3, 0, none⟩)) (want_y rfl rfl rfl (decide_eq_false q38_18)) (fun w' hw' => e_fieldAddr Try.underlying24 rfl rfl (by exact zs1) rfl) ?_
  refine q_val (v := Value.int .i64 g.1) (want_y rfl rfl rfl (decide_eq_false q38_18)) (fun w' hw' => e_load_bx1 tp3_a rfl (bx5.bel hw') rfl) ?_
  refine q_val (v := Value.bool (decide (g.1 ≤ ((gI g.2 (k : Int)).2)))) (want_y rfl rfl rfl (decide_eq_false q38_18)) (fun w' hw' => e_geq (m := (gI g.2 (k : Int)).2) (n := g.1) rfl rfl) ?_
  refine q_val (v := Value.bool (decide (g.1 ≤ ((gI g.2 (k : Int)).2)))) rfl (fun w' hw' => e_pick_f rfl (decide_eq_false q38_18) rfl) ?_
  refine q_nil ?_
  intro w22 hc23
  replace hc23 := chg_below hc23 g9
  by_cases p9_24 : g.1 ≤ ((gI g.2 (k : Int)).2)
  ·
   refine run_cond_t rfl (decide_eq_true p9_24) ?_
   refine run_seq ?_
   clear bx5
   refine run_region rfl ?_
   refine lv (Value.bool false) rfl (e_assign rfl) ?_
   refine l_nil ?_
   refine run_ret (vs := [Value.bool false]) Try.func35 (.tmp rfl .nil) ?_
   have e0 : (false : Bool) = (mayB g) := by
     first
       | exact (mayB_false (fun h => by unfold MayP at h; omega)).symm
       | exact (mayB_false (fun h => by have h2 := h.2.2.2 _ (gI_mem (xs := g.2) (i := (k : Int)) (by omega) (by assumption)); unfold okE at h2; omega)).symm
       | exact (mayB_true ⟨by omega, by omega, by omega, by rw [List.take_of_length_le (by omega)] at hinv4; exact hinv4⟩).symm
   have C25 : Chg (inl []) _ _ _ _ := (ch10.n).seq ((hc15.n).seq ((ch16.n).seq (hc23.n)))
   replace hbase := hbase.chg C25 (is_nl rfl)
   exact ⟨(congrArg (a₁ := false) (fun (z0 : Bool) => Ending.returned (Value.bool z0)) e0), hbase.below⟩
  refine run_cond_f rfl (decide_eq_false p9_24) ?_
  refine run_skip ?_
  refine run_inBlock ?_
  refine run_region rfl ?_
  refine lv (Value.int .i64 1) rfl (e_move rfl) ?_
  refine lv (Value.int .i64 2) rfl (e_add (m := 1) (n := 1) rfl rfl (by omega)) ?_
  refine lv (Value.int .i64 2) rfl (e_assign rfl) ?_
  refine l_nil ?_
  refine run_inLoop ?_
  refine run_seq (run_seq (run_region rfl ?_))
  refine lv (Value.int .i64 2) rfl (e_move rfl) ?_
  refine lv (Value.bool false) rfl (e_lss (m := 2) (n := 2) rfl rfl) ?_
  refine l_nil ?_
  refine run_cond_f rfl rfl ?_
  refine run_exit rfl ?_
  refine run_inBlock ?_
  refine run_region rfl ?_
  refine lv (Value.int .i64 (k : Int)) rfl (e_move (by exact zs3)) ?_
  refine lv (Value.int .i64 ((k : Int) + 1)) rfl (e_add (m := (k : Int)) (n := 1) rfl rfl (by omega)) ?_
  refine lv (Value.int .i64 ((k : Int) + 1)) rfl (e_assign rfl) ?_
  refine l_nil ?_
  have C26 : Chg (inl []) _ _ _ _ := (ch10.n).seq ((hc15.n).seq ((ch16.n).seq (hc23.n)))
  replace hbase := hbase.chg C26 (is_nl rfl)
  replace r_g_v := r_g_v.chg hc23 (not_no _)
  replace bx5 := bx5.chg hc23 (not_no _)
  refine back4 (k + 1, g9) _ _ ⟨hbase, (by exact zs1), rfl, r_g_v, bx5, by omega, ?_⟩ ?_
  · show ∀ e ∈ List.take (k + 1) g.2, okE g.1 e
    rw [take_succ_gI (by assumption)]
    intro e he
    rcases List.mem_append.1 he with h | h
    · exact hinv4 e h
    · obtain rfl := List.mem_singleton.1 h
      refine ⟨?_, ?_⟩ <;> omega
  · show Int.toNat (((List.length g.2 : Int) : Int) - ((k + 1) : Int)) < Int.toNat (((List.length g.2 : Int) : Int) - (k : Int))
    omega
 refine run_cond_f rfl (decide_eq_false p4) ?_
 refine run_exit rfl ?_
 refine run_seq ?_
 clear bx5
 refine run_region rfl ?_
 refine lv (Value.bool true) rfl (e_assign rfl) ?_
 refine l_nil ?_
 refine run_ret (vs := [Value.bool true]) Try.func35 (.tmp rfl .nil) ?_
 have e0 : (true : Bool) = (mayB g) := by
   first
     | exact (mayB_false (fun h => by unfold MayP at h; omega)).symm
     | exact (mayB_false (fun h => by have h2 := h.2.2.2 _ (gI_mem (xs := g.2) (i := (k : Int)) (by omega) (by assumption)); unfold okE at h2; omega)).symm
     | exact (mayB_true ⟨by omega, by omega, by omega, by rw [List.take_of_length_le (by omega)] at hinv4; exact hinv4⟩).symm
 exact ⟨(congrArg (a₁ := true) (fun (z0 : Bool) => Ending.returned (Value.bool z0)) e0), hbase.below⟩
theorem rInts_ok (w0 : World) (a : List Int) (a_v : Value) (ha_v : Ro w0 a_v a) (b : List Int) (b_v : Value) (hb_v : Ro w0 b_v b) :
    Calls Try.prog 46 #[a_v, b_v] w0 (fun ee w => ee = .returned (Value.bool (decide (a = b))) ∧ Bel w0.heap.size w0 w) := by
 refine calls_of_run Try.func46 rfl (Nat.le_of_ble_eq_true rfl) ?_
 have hbase := Base.start w0
 have r_a_v := ha_v.sl
 have r_b_v := hb_v.sl
 refine run_seq (run_region rfl ?_)
 refine lv (Value.bool false) rfl (e_assign rfl) ?_
 refine l_nil (run_seq (run_seq (run_region rfl ?_)))
 refine lv (a_v) rfl (e_move rfl) ?_
 have len1 := (r_a_v).small
 refine lv (Value.int .i64 (List.length a : Int)) rfl (e_len Try.underlying27 rfl r_a_v) ?_
 refine lv (b_v) rfl (e_move rfl) ?_
 have len2 := (r_b_v).small
 refine lv (Value.int .i64 (List.length b : Int)) rfl (e_len Try.underlying27 rfl r_b_v) ?_
 refine lv (Value.bool (!(decide ((List.length a : Int) = (List.length b : Int))))) rfl (e_neq (m := (List.length a : Int)) (n := (List.length b : Int)) rfl rfl) ?_
 refine l_nil ?_
 by_cases p1 : (List.length a : Int) = (List.length b : Int)
 ·
  refine run_cond_f rfl (congrArg Bool.not (decide_eq_true p1)) ?_
  refine run_skip ?_
  refine run_seq (run_seq (run_region rfl ?_))
  refine lv (Value.int .i64 0) rfl (e_assign rfl) ?_
  refine l_nil ?_
  refine run_block ?_
  refine run_loop (σ := Nat × Cmap) (fun ⟨k, gq⟩ f w => Base w0 gq w ∧ f 0 = a_v ∧ f 1 = b_v ∧ f 5 = Value.int .i64 (k : Int) ∧ Sl gq (is 0) w a_v a ∧ Sl gq (is 0) w b_v b ∧ (k : Int) ≤ ((List.length a : Int) : Int) ∧ (List.take k a = List.take k b)) (fun ⟨k, gq⟩ => Int.toNat (((List.length a : Int) : Int) - (k : Int))) (0, c0) ?_ ?_
  · exact ⟨hbase, rfl, rfl, rfl, r_a_v, r_b_v, by omega, by simp⟩
  clear r_a_v r_b_v hbase
  rintro ⟨k, g5⟩ f3 w4 ⟨hbase, zs0, zs1, zs5, r_a_v, r_b_v, hle_k, hinv4⟩ back4
  refine run_seq (run_seq (run_region rfl ?_))
  refine lv (Value.int .i64 (k : Int)) rfl (e_move (by exact zs5)) ?_
  refine lv (a_v) rfl (e_move (by exact zs0)) ?_
  refine lv (Value.int .i64 (List.length a : Int)) rfl (e_len Try.underlying27 rfl r_a_v) ?_
  refine lv (Value.bool (decide ((k : Int) < (List.length a : Int)))) rfl (e_lss (m := (k : Int)) (n := (List.length a : Int)) rfl rfl) ?_
  refine l_nil ?_
  by_cases p4 : (k : Int) < (List.length a : Int)
  ·
   refine run_cond_t rfl (decide_eq_true p4) ?_
   refine run_skip ?_
   refine run_seq ?_
   refine run_block ?_
   refine run_seq ?_
   refine region_q g5 rfl mixed_a (by kernel_rfl) ?_
   intro w7 ch6
   refine q_val (v := a_v) rfl (fun w' hw' => e_move (by exact zs0)) ?_
   refine q_val (v := Value.int .i64 (k : Int)) rfl (fun w' hw' => e_move (by exact zs5)) ?_
   replace r_a_v := r_a_v.chg ch6 (not_no _)
   refine q_val (v := Value.pointer (some (eAddr a_v 1 (Int.toNat (k : Int))))) rfl (fun w' hw' => e_indexAddr (α := Int) (xs := a) (v := a_v) (i := (k : Int)) Try.underlying27 rfl rfl (r_a_v.bel hw') rfl (by omega) (by omega)) ?_
   refine q_val (v := Value.int .i64 (gI a (k : Int))) rfl (fun w' hw' => e_load_el1 (α := Int) (xs := a) (v := a_v) (i := (k : Int)) tp3_a rfl (r_a_v.bel hw') (by omega) (by omega) (by decide) rfl) ?_
   refine q_val (v := b_v) rfl (fun w' hw' => e_move (by exact zs1)) ?_
   refine q_val (v := Value.int .i64 (k : Int)) rfl (fun w' hw' => e_move (by exact zs5)) ?_
   replace r_b_v := r_b_v.chg ch6 (not_no _)
   refine q_val (v := Value.pointer (some (eAddr b_v 1 (Int.toNat (k : Int))))) rfl (fun w' hw' => e_indexAddr (α := Int) (xs := b) (v := b_v) (i := (k : Int)) Try.underlying27 rfl rfl (r_b_v.bel hw') rfl (by omega) (by omega)) ?_
   refine q_val (v := Value.int .i64 (gI b (k : Int))) rfl (fun w' hw' => e_load_el1 (α := Int) (xs := b) (v := b_v) (i := (k : Int)) tp3_a rfl (r_b_v.bel hw') (by omega) (by omega) (by decide) rfl) ?_
   refine q_val (v := Value.bool (!(decide ((gI a (k : Int)) = (gI b (k : Int)))))) rfl (fun w' hw' => e_neq (m := (gI a (k : Int))) (n := (gI b (k : Int))) rfl rfl) ?_
   refine q_nil ?_
   intro w8 hc9
   replace hc9 := chg_below hc9 g5
   by_cases p6 : (gI a (k : Int)) = (gI b (k : Int))
   ·
    refine run_cond_f rfl (congrArg Bool.not (decide_eq_true p6)) ?_
    refine run_skip ?_
    refine run_inBlock ?_
    refine run_region rfl ?_
    refine lv (Value.int .i64 (k : Int)) rfl (e_move (by exact zs5)) ?_
    refine lv (Value.int .i64 ((k : Int) + 1)) rfl (e_add (m := (k : Int)) (n := 1) rfl rfl (by omega)) ?_
    refine lv (Value.int .i64 ((k : Int) + 1)) rfl (e_assign rfl) ?_
    refine l_nil ?_
    replace hbase := hbase.chg ch6 (not_no _)
    replace hbase := hbase.chg hc9 (not_no _)
    replace r_a_v := r_a_v.chg hc9 (not_no _)
    replace r_b_v := r_b_v.chg hc9 (not_no _)
    refine back4 (k + 1, g5) _ _ ⟨hbase, (by exact zs0), (by exact zs1), rfl, r_a_v, r_b_v, by omega, ?_⟩ ?_
    · show List.take (k + 1) a = List.take (k + 1) b
      rw [take_succ_gI (by assumption), take_succ_gI (by omega), hinv4]; simp_all
    · show Int.toNat (((List.length a : Int) : Int) - ((k + 1) : Int)) < Int.toNat (((List.length a : Int) : Int) - (k : Int))
      omega
   refine run_cond_t rfl (congrArg Bool.not (decide_eq_false p6)) ?_
   refine run_seq (run_region rfl ?_)
   refine lv (Value.bool false) rfl (e_assign rfl) ?_
   refine l_nil ?_
   refine run_ret (vs := [Value.bool false]) Try.func46 (.tmp rfl .nil) ?_
   have e0 : (false : Bool) = (decide (a = b)) := by
     first
       | (have e := hinv4; rw [List.take_of_length_le (by omega), List.take_of_length_le (by omega)] at e; exact (decide_eq_true e).symm)
       | exact (decide_eq_false (fun h => by subst h; simp_all)).symm
       | exact (decide_eq_false (fun h => by subst h; omega)).symm
   replace hbase := hbase.chg ch6 (not_no _)
   replace hbase := hbase.chg hc9 (not_no _)
   exact ⟨(congrArg (a₁ := false) (fun (z0 : Bool) => Ending.returned (Value.bool z0)) e0), hbase.below⟩
  refine run_cond_f rfl (decide_eq_false p4) ?_
  refine run_exit rfl ?_
  refine run_seq (run_region rfl ?_)
  refine lv (Value.bool true) rfl (e_assign rfl) ?_
  refine l_nil ?_
  refine run_ret (vs := [Value.bool true]) Try.func46 (.tmp rfl .nil) ?_
  have e0 : (true : Bool) = (decide (a = b)) := by
    first
      | (have e := hinv4; rw [List.take_of_length_le (by omega), List.take_of_length_le (by omega)] at e; exact (decide_eq_true e).symm)
      | exact (decide_eq_false (fun h => by subst h; simp_all)).symm
      | exact (decide_eq_false (fun h => by subst h; omega)).symm
  exact ⟨(congrArg (a₁ := true) (fun (z0 : Bool) => Ending.returned (Value.bool z0)) e0), hbase.below⟩
 refine run_cond_t rfl (congrArg Bool.not (decide_eq_false p1)) ?_
 refine run_seq (run_region rfl ?_)
 refine lv (Value.bool false) rfl (e_assign rfl) ?_
 refine l_nil ?_
 refine run_ret (vs := [Value.bool false]) Try.func46 (.tmp rfl .nil) ?_
 have e0 : (false : Bool) = (decide (a = b)) := by
   first
     | (have e := hinv4; rw [List.take_of_length_le (by omega), List.take_of_length_le (by omega)] at e; exact (decide_eq_true e).symm)
     | exact (decide_eq_false (fun h => by subst h; simp_all)).symm
     | exact (decide_eq_false (fun h => by subst h; omega)).symm
 exact ⟨(congrArg (a₁ := false) (fun (z0 : Bool) => Ending.returned (Value.bool z0)) e0), hbase.below⟩
theorem Light_ok (w0 : World) (g : (Int) × (List ((Int) × (Int)))) (g_v : Value) (hg_v : Ro w0 g_v g.2) :
    Calls Try.prog 51 #[Value.agg (List.toArray [Value.int .i64 g.1, g_v])] w0 (fun ee w => ee = .returned (Value.bool (decide (g.2.length ≤ 300 ∧ (g.1 ≤ 300 ∨ ¬ MayP g)))) ∧ Bel w0.heap.size w0 w) := by
 refine calls_of_run Try.func51 rfl (Nat.le_of_ble_eq_true rfl) ?_
 have hbase := Base.start w0
 have r_g_v := hg_v.sl
 refine run_seq (run_region rfl (l_op rfl ?_))
 refine o_box c0 (is 1) (1, 0) rfl rfl ?_
 intro g4 w1 b3 ch2 bx5
 replace bx5 : Bx g4 (is 1) w1 b3 [Value.int .i64 g.1, g_v] := bx5
 refine lv (Value.bool false) rfl (e_assign rfl) ?_
 refine l_nil (run_seq (run_region rfl ?_))
 refine lv (Value.pointer (some ⟨b3, 1, none⟩)) rfl (e_fieldAddr Try.underlying24 rfl rfl rfl rfl) ?_
 refine lv (g_v) rfl (e_load_bx1 tp22_a rfl bx5 rfl) ?_
 replace r_g_v := r_g_v.chg ch2 (not_no _)
 have len6 := (r_g_v).small
 refine lv (Value.int .i64 (List.length g.2 : Int)) rfl (e_len Try.underlying22 rfl r_g_v) ?_
 refine lv (Value.bool (decide ((List.length g.2 : Int) ≤ 300))) rfl (e_leq (m := (List.length g.2 : Int)) (n := 300) rfl rfl) ?_
 refine lv (Value.bool (decide ((List.length g.2 : Int) ≤ 300))) rfl (e_move rfl) ?_
 by_cases q7 : (List.length g.2 : Int) ≤ 300
 ·
  refine lv (Value.pointer (some ⟨b3, 0, none⟩)) (want_y rfl rfl rfl (decide_eq_true q7)) (e_fieldAddr Try.underlying24 rfl rfl rfl rfl) ?_
  refine lv (Value.int .i64 g.1) (want_y rfl rfl rfl (decide_eq_true q7)) (e_load_bx1 tp3_a rfl bx5 rfl) ?_
  refine lv (Value.bool (decide (g.1 ≤ 300))) (want_y rfl rfl rfl (decide_eq_true q7)) (e_leq (m := g.1) (n := 300) rfl rfl) ?_
  refine lv (Value.bool (decide (g.1 ≤ 300))) (want_y rfl rfl rfl (decide_eq_true q7)) (e_move rfl) ?_
  by_cases q11 : g.1 ≤ 300
  ·
   refine l_skip (want_n rfl rfl rfl (decide_eq_true q11)) ?_
   refine l_skip (want_n rfl rfl rfl (decide_eq_true q11)) ?_
   refine l_skip (want_n rfl rfl rfl (decide_eq_true q11)) ?_
   refine lv (Value.bool true) (want_y rfl rfl rfl (decide_eq_true q7)) (e_pick_t rfl (decide_eq_true q11) rfl) ?_
   refine lv (Value.bool true) rfl (e_pick_t rfl (decide_eq_true q7) rfl) ?_
   refine lv (Value.bool true) rfl (e_assign rfl) ?_
   refine l_nil ?_
   refine run_ret (vs := [Value.bool true]) Try.func51 (.tmp rfl .nil) ?_
   have e0 : (true : Bool) = (decide (g.2.length ≤ 300 ∧ (g.1 ≤ 300 ∨ ¬ MayP g))) := by
     (try simp only [mayB] at *)
     by_cases h : MayP g <;> simp_all <;> omega
   replace hbase := hbase.chg ch2 (not_no _)
   exact ⟨(congrArg (a₁ := true) (fun (z0 : Bool) => Ending.returned (Value.bool z0)) e0), hbase.below⟩
  refine lv (Value.agg (List.toArray [Value.int .i64 g.1, g_v])) (want_y rfl rfl rfl (decide_eq_false q11)) (e_load_bxN (ds := [Value.int .i64 g.1, g_v]) tp24_a rfl bx5 rfl rfl) ?_
  refine l_op (want_y rfl rfl rfl (decide_eq_false q11)) ?_
  refine o_call (v := Value.bool (mayB g)) (e_call (vals := [Value.agg (List.toArray [Value.int .i64 g.1, g_v])]) Try.func35 bd35_a nm35_a rfl) (rMay_ok w1 g g_v (r_g_v).ro) ?_
  intro w7 hb8
  replace hb8 := chg_below hb8 g4
  refine lv (Value.bool (!(mayB g))) (want_y rfl rfl rfl (decide_eq_false q11)) (e_not (b := (mayB g)) rfl) ?_
  refine lv (Value.bool (!(mayB g))) (want_y rfl rfl rfl (decide_eq_true q7)) (e_pick_f rfl (decide_eq_false q11) rfl) ?_
  refine lv (Value.bool (!(mayB g))) rfl (e_pick_t rfl (decide_eq_true q7) rfl) ?_
  refine lv (Value.bool (!(mayB g))) rfl (e_assign rfl) ?_
  refine l_nil ?_
  refine run_ret (vs := [Value.bool (!(mayB g))]) Try.func51 (.tmp rfl .nil) ?_
  have e0 : (!(mayB g) : Bool) = (decide (g.2.length ≤ 300 ∧ (g.1 ≤ 300 ∨ ¬ MayP g))) := by
    (try simp only [mayB] at *)
    by_cases h : MayP g <;> simp_all <;> omega
  replace hbase := hbase.chg ch2 (not_no _)
  replace hbase := hbase.chg hb8 (not_no _)
  exact ⟨(congrArg (a₁ := !(mayB g)) (fun (z0 : Bool) => Ending.returned (Value.bool z0)) e0), hbase.below⟩
 refine l_skip (want_n rfl rfl rfl (decide_eq_false q7)) ?_
 refine l_skip (want_n rfl rfl rfl (decide_eq_false q7)) ?_
 refine l_skip (want_n rfl rfl rfl (decide_eq_false q7)) ?_
 refine l_skip (want_n rfl rfl rfl (decide_eq_false q7)) ?_
 refine l_skip (want_u rfl rfl rfl) ?_
 refine l_skip (want_u rfl rfl rfl) ?_
 refine l_skip (want_u rfl rfl rfl) ?_
 refine l_skip (want_n rfl rfl rfl (decide_eq_false q7)) ?_
 refine lv (Value.bool false) rfl (e_pick_f rfl (decide_eq_false q7) rfl) ?_
 refine lv (Value.bool false) rfl (e_assign rfl) ?_
 refine l_nil ?_
 refine run_ret (vs := [Value.bool false]) Try.func51 (.tmp rfl .nil) ?_
 have e0 : (false : Bool) = (decide (g.2.length ≤ 300 ∧ (g.1 ≤ 300 ∨ ¬ MayP g))) := by
   (try simp only [mayB] at *)
   by_cases h : MayP g <;> simp_all <;> omega
 replace hbase := hbase.chg ch2 (not_no _)
 exact ⟨(congrArg (a₁ := false) (fun (z0 : Bool) => Ending.returned (Value.bool z0)) e0), hbase.below⟩
theorem chosen_ok (w0 : World) (l : List Int) (l_v : Value) (hl_v : Ro w0 l_v l) (n : Int) (hn : 0 ≤ n ∧ n ≤ 1000000) :
    Calls Try.prog 103 #[l_v, Value.int .i64 n] w0 (fun ee w => ee = .returned (Value.int .i64 (chosenS l n)) ∧ Bel w0.heap.size w0 w) := by
 refine calls_of_run Try.func103 rfl (Nat.le_of_ble_eq_true rfl) ?_
 have hbase := Base.start w0
 have r_l_v := hl_v.sl
 have hn1 := hn.1
 have hn2 := hn.2
 refine run_seq (run_region rfl ?_)
 refine lv (Value.int .i64 0) rfl (e_assign rfl) ?_
 refine l_nil (run_seq (run_region rfl ?_))
 refine lv (Value.int .i64 n) rfl (e_move rfl) ?_
 refine l_op rfl ?_
 refine o_make (α := Bool) (l := n) (cp := n) c0 (is 1) (is 1) (1, 0) rfl false Try.underlying75 tp4_a rfl rfl rfl (by omega) (by omega) (by omega) (by omega) ?_
 intro g1 w2 v3 ch4 o5 _
 refine lv (v3) rfl (e_assign rfl) ?_
 refine l_nil (run_seq (run_seq (run_region rfl ?_)))
 refine lv (l_v) rfl (e_move rfl) ?_
 replace r_l_v := r_l_v.chg ch4 (not_no _)
 have len6 := (r_l_v).small
 refine lv (Value.int .i64 (List.length l : Int)) rfl (e_len Try.underlying27 rfl r_l_v) ?_
 refine lv (Value.int .i64 0) rfl (e_move rfl) ?_
 refine l_nil ?_
 refine run_block ?_
 refine run_loop (σ := Nat × (List Bool) × Cmap) (fun ⟨k, seen, gq⟩ f w => Base w0 gq w ∧ f 1 = Value.int .i64 n ∧ f 5 = v3 ∧ f 10 = l_v ∧ f 11 = Value.int .i64 (List.length l : Int) ∧ f 12 = Value.int .i64 (k : Int) ∧ Sl gq (is 0) w l_v l ∧ Ow gq (is 1) (is 1) w v3 seen ∧ (k : Int) ≤ ((List.length l : Int) : Int) ∧ (SeenInv seen l n k)) (fun ⟨k, seen, gq⟩ => Int.toNat (((List.length l : Int) : Int) - (k : Int))) (0, (List.replicate (Int.toNat n) false), g1) ?_ ?_
 replace hbase := hbase.chg ch4 (not_no _)
 · exact ⟨hbase, rfl, rfl, rfl, rfl, rfl, r_l_v, o5, by omega, by exact SeenInv.start l n hn1⟩
 clear r_l_v o5 hbase
 rintro ⟨k, seen, g9⟩ f7 w8 ⟨hbase, zs1, zs5, zs10, zs11, zs12, r_l_v, o5, hle_k, hsI⟩ back3
 have hsl := hsI.len
 refine run_seq (run_region rfl ?_)
 refine lv (Value.bool (decide ((k : Int) < (List.length l : Int)))) rfl (e_lss (m := (k : Int)) (n := (List.length l : Int)) (by exact zs12) (by exact zs11)) ?_
 refine l_nil (run_seq ?_)
 by_cases p3 : (k : Int) < (List.length l : Int)
 ·
  refine run_cond_t rfl (decide_eq_true p3) ?_
  refine run_skip ?_
  refine run_seq ?_
  refine run_block ?_
  refine run_seq (run_region rfl ?_)
  refine lv (Value.pointer (some (eAddr l_v 1 (Int.toNat (k : Int))))) rfl (e_indexAddr (α := Int) (xs := l) (v := l_v) (i := (k : Int)) Try.underlying27 rfl (by exact zs10) r_l_v (by exact zs12) (by omega) (by omega)) ?_
  refine lv (Value.int .i64 (gI l (k : Int))) rfl (e_load_el1 (α := Int) (xs := l) (v := l_v) (i := (k : Int)) tp3_a rfl r_l_v (by omega) (by omega) (by decide) rfl) ?_
  refine lv (Value.int .i64 (gI l (k : Int))) rfl (e_assign rfl) ?_
  refine l_nil (run_seq (run_seq (run_region rfl ?_)))
  refine lv (Value.int .i64 (gI l (k : Int))) rfl (e_move rfl) ?_
  refine lv (Value.bool (decide ((gI l (k : Int)) < 0))) rfl (e_lss (m := (gI l (k : Int))) (n := 0) rfl rfl) ?_
  refine lv (Value.bool (decide ((gI l (k : Int)) < 0))) rfl (e_move rfl) ?_
  by_cases q18 : (gI l (k : Int)) < 0
  ·
   refine l_skip (want_n rfl rfl rfl (decide_eq_true q18)) ?_
   refine l_skip (want_n rfl rfl rfl (decide_eq_true q18)) ?_
   refine l_skip (want_n rfl rfl rfl (decide_eq_true q18)) ?_
   refine lv (Value.bool true) rfl (e_pick_t rfl (decide_eq_true q18) rfl) ?_
   refine l_nil ?_
   refine run_cond_t rfl rfl ?_
   refine run_seq ?_
   clear o5
   refine run_region rfl ?_
   refine lv (Value.int .i64 2) rfl (e_assign rfl) ?_
   refine l_nil ?_
   refine run_ret (vs := [Value.int .i64 2]) Try.func103 (.tmp rfl .nil) ?_
   have e0 : (2 : Int) = (chosenS l n) := by
     first
       | exact hsI.bad (by assumption) (by omega)
       | exact hsI.twice (by assumption) (by omega) (by omega) (by assumption)
       | exact hsI.done (by assumption)
   exact ⟨(congrArg (a₁ := 2) (fun (z0 : Int) => Ending.returned (Value.int .i64 z0)) e0), hbase.below⟩
  refine lv (Value.int .i64 (gI l (k : Int))) (want_y rfl rfl rfl (decide_eq_false q18)) (e_move rfl) ?_
  refine lv (Value.int .i64 n) (want_y rfl rfl rfl (decide_eq_false q18)) (e_move (by exact zs1)) ?_
  refine lv (Value.bool (decide (n ≤ (gI l (k : Int))))) (want_y rfl rfl rfl (decide_eq_false q18)) (e_geq (m := (gI l (k : Int))) (n := n) rfl rfl) ?_
  refine lv (Value.bool (decide (n ≤ (gI l (k : Int))))) rfl (e_pick_f rfl (decide_eq_false q18) rfl) ?_
  refine l_nil ?_
  by_cases p5 : n ≤ (gI l (k : Int))
  ·
   refine run_cond_t rfl (decide_eq_true p5) ?_
   refine run_seq ?_
   clear o5
   refine run_region rfl ?_
   refine lv (Value.int .i64 2) rfl (e_assign rfl) ?_
   refine l_nil ?_
   refine run_ret (vs := [Value.int .i64 2]) Try.func103 (.tmp rfl .nil) ?_
   have e0 : (2 : Int) = (chosenS l n) := by
     first
       | exact hsI.bad (by assumption) (by omega)
       | exact hsI.twice (by assumption) (by omega) (by omega) (by assumption)
       | exact hsI.done (by assumption)
   exact ⟨(congrArg (a₁ := 2) (fun (z0 : Int) => Ending.returned (Value.int .i64 z0)) e0), hbase.below⟩
  refine run_cond_f rfl (decide_eq_false p5) ?_
  refine run_skip ?_
  refine run_seq (run_seq (run_region rfl ?_))
  refine lv (v3) rfl (e_move (by exact zs5)) ?_
  refine lv (Value.int .i64 (gI l (k : Int))) rfl (e_move rfl) ?_
  refine lv (Value.pointer (some (eAddr v3 1 (Int.toNat (gI l (k : Int)))))) rfl (e_indexAddr (α := Bool) (xs := seen) (v := v3) (i := (gI l (k : Int))) Try.underlying75 rfl rfl o5.flat rfl (by omega) (by omega)) ?_
  refine lv (Value.bool (gI seen (gI l (k : Int)))) rfl (e_load_el1 (α := Bool) (xs := seen) (v := v3) (i := (gI l (k : Int))) tp4_a rfl o5.flat (by omega) (by omega) (by decide) rfl) ?_
  refine l_nil ?_
  by_cases p7 : (gI seen (gI l (k : Int))) = true
  ·
   refine run_cond_t rfl p7 ?_
   refine run_seq ?_
   clear o5
   refine run_region rfl ?_
   refine lv (Value.int .i64 18) rfl (e_assign rfl) ?_
   refine l_nil ?_
   refine run_ret (vs := [Value.int .i64 18]) Try.func103 (.tmp rfl .nil) ?_
   have e0 : (18 : Int) = (chosenS l n) := by
     first
       | exact hsI.bad (by assumption) (by omega)
       | exact hsI.twice (by assumption) (by omega) (by omega) (by assumption)
       | exact hsI.done (by assumption)
   exact ⟨(congrArg (a₁ := 18) (fun (z0 : Int) => Ending.returned (Value.int .i64 z0)) e0), hbase.below⟩
  refine run_cond_f rfl (Bool.eq_false_iff.2 p7) ?_
  refine run_skip ?_
  refine run_region rfl ?_
  refine lv (v3) rfl (e_move (by exact zs5)) ?_
  refine lv (Value.int .i64 (gI l (k : Int))) rfl (e_move rfl) ?_
  refine lv (Value.pointer (some (eAddr v3 1 (Int.toNat (gI l (k : Int)))))) rfl (e_indexAddr (α := Bool) (xs := seen) (v := v3) (i := (gI l (k : Int))) Try.underlying75 rfl rfl o5.flat rfl (by omega) (by omega)) ?_
  refine l_op rfl ?_
  refine o_store_el (i := (gI l (k : Int))) true tp4_a rfl rfl o5 (by omega) (by omega) rfl ?_
  intro w10 ch11 bx12
  clear o5
  refine l_nil ?_
  refine run_inBlock ?_
  refine run_region rfl ?_
  refine lv (Value.int .i64 ((k : Int) + 1)) rfl (e_add (m := (k : Int)) (n := 1) (by exact zs12) rfl (by omega)) ?_
  refine lv (Value.int .i64 ((k : Int) + 1)) rfl (e_move rfl) ?_
  refine l_nil ?_
  replace hbase := hbase.chg ch11 (is_ne rfl)
  replace r_l_v := r_l_v.chg ch11 (is_ne rfl)
  refine back3 (k + 1, (List.set seen (Int.toNat (gI l (k : Int))) true), g9) _ _ ⟨hbase, (by exact zs1), (by exact zs5), (by exact zs10), (by exact zs11), rfl, r_l_v, bx12, by omega, ?_⟩ ?_
  · show SeenInv (List.set seen (Int.toNat (gI l (k : Int))) true) l n (k + 1)
    exact hsI.next (by assumption) (by omega) (by omega) (Bool.eq_false_iff.2 (by assumption))
  · show Int.toNat (((List.length l : Int) : Int) - ((k + 1) : Int)) < Int.toNat (((List.length l : Int) : Int) - (k : Int))
    omega
 refine run_cond_f rfl (decide_eq_false p3) ?_
 refine run_exit rfl ?_
 refine run_seq ?_
 clear o5
 refine run_region rfl ?_
 refine lv (Value.int .i64 0) rfl (e_assign rfl) ?_
 refine l_nil ?_
 refine run_ret (vs := [Value.int .i64 0]) Try.func103 (.tmp rfl .nil) ?_
 have e0 : (0 : Int) = (chosenS l n) := by
   first
     | exact hsI.bad (by assumption) (by omega)
     | exact hsI.twice (by assumption) (by omega) (by omega) (by assumption)
     | exact hsI.done (by assumption)
 exact ⟨(congrArg (a₁ := 0) (fun (z0 : Int) => Ending.returned (Value.int .i64 z0)) e0), hbase.below⟩
theorem Sub_ok (w0 : World) (g : (Int) × (List ((Int) × (Int)))) (g_v : Value) (hg_v : Ro w0 g_v g.2) (keep : List Int) (keep_v : Value) (hkeep_v : Ro w0 keep_v keep) :
    Calls Try.prog 91 #[Value.agg (List.toArray [Value.int .i64 g.1, g_v]), keep_v] w0 (fun ee w => ∃ xx : Cmap × Value, ee = .returned ((fun ⟨δ, rv0⟩ => Value.tuple (List.toArray [Value.agg (List.toArray [Value.int .i64 (((subR g keep).1).1), rv0]), Value.int .i64 ((subR g keep).2)])) xx) ∧ (fun (⟨δ, rv0⟩ : Cmap × Value) (w : World) => Fresh w0 δ w ∧ Ow δ (is 1) (is 1) w rv0 (((subR g keep).1).2)) xx w) := by
 refine calls_of_run Try.func91 rfl (Nat.le_of_ble_eq_true rfl) ?_
 have hbase := Base.start w0
 have r_g_v := hg_v.sl
 have r_keep_v := hkeep_v.sl
 refine run_seq (run_region rfl (l_op rfl ?_))
 refine o_box c0 (is 1) (1, 0) rfl rfl ?_
 intro g4 w1 b3 ch2 bx5
 replace bx5 : Bx g4 (is 1) w1 b3 [Value.int .i64 g.1, g_v] := bx5
 refine l_op rfl ?_
 refine o_alloc g4 (is 2) (2, 0) rfl tp24_a ?_
 intro g9 w6 b8 ch7 bx10
 replace bx10 : Bx g9 (is 2) w6 b8 [Value.int .i64 0, Value.slice none 0 0] := bx10
 refine lv (Value.int .i64 0) rfl (e_assign rfl) ?_
 refine l_nil (run_seq (run_seq (run_region rfl ?_)))
 replace bx5 := bx5.chg ch7 (not_no _)
 refine lv (Value.agg (List.toArray [Value.int .i64 g.1, g_v])) rfl (e_load_bxN (ds := [Value.int .i64 g.1, g_v]) tp24_a rfl bx5 rfl rfl) ?_
 replace r_g_v := (r_g_v.chg ch2 (not_no _)).chg ch7 (not_no _)
 refine l_op rfl ?_
 refine o_call (v := Value.bool (mayB g)) (e_call (vals := [Value.agg (List.toArray [Value.int .i64 g.1, g_v])]) Try.func53 bd53_a nm53_a rfl) (May_ok w6 g g_v (r_g_v).ro) ?_
 intro w11 hb12
 replace hb12 := chg_below hb12 g9
 refine lv (Value.bool (!(mayB g))) rfl (e_not (b := (mayB g)) rfl) ?_
 refine l_nil ?_
 by_cases p1 : (mayB g) = true
 ·
  refine run_cond_f rfl (congrArg Bool.not p1) ?_
  refine run_skip ?_
  refine run_seq (run_seq ?_)
  obtain ⟨hm1, hm2, hm3, hm4⟩ := of_decide_eq_true p1
  refine run_region rfl ?_
  refine lv (keep_v) rfl (e_move rfl) ?_
  refine lv (Value.pointer (some ⟨b3, 1, none⟩)) rfl (e_fieldAddr Try.underlying24 rfl rfl rfl rfl) ?_
  replace bx5 := bx5.chg hb12 (not_no _)
  refine lv (g_v) rfl (e_load_bx1 tp22_a rfl bx5 rfl) ?_
  replace r_g_v := r_g_v.chg hb12 (not_no _)
  have len13 := (r_g_v).small
  refine lv (Value.int .i64 (List.length g.2 : Int)) rfl (e_len Try.underlying22 rfl r_g_v) ?_
  have C14 : Chg (inl []) _ _ _ _ := (ch2.n).seq ((ch7.n).seq (hb12.n))
  replace r_keep_v := r_keep_v.chg C14 (is_nl rfl)
  refine l_op rfl ?_
  refine o_call (v := Value.int .i64 (chosenS keep (List.length g.2 : Int))) (e_call (vals := [keep_v, Value.int .i64 (List.length g.2 : Int)]) Try.func103 bd103_a nm103_a rfl) (chosen_ok w11 keep keep_v (r_keep_v).ro (List.length g.2 : Int) (by first | assumption | omega)) ?_
  intro w15 hb16
  replace hb16 := chg_below hb16 g9
  refine lv (Value.int .i64 (chosenS keep (List.length g.2 : Int))) rfl (e_assign rfl) ?_
  refine l_nil (run_seq (run_region rfl ?_))
  refine lv (Value.int .i64 (chosenS keep (List.length g.2 : Int))) rfl (e_move rfl) ?_
  refine lv (Value.bool (!(decide ((chosenS keep (List.length g.2 : Int)) = 0)))) rfl (e_neq (m := chosenS keep (List.length g.2 : Int)) (n := 0) rfl rfl) ?_
  refine l_nil ?_
  by_cases p4 : (chosenS keep (List.length g.2 : Int)) = 0
  ·
   refine run_cond_f rfl (congrArg Bool.not (decide_eq_true p4)) ?_
   refine run_skip ?_
   refine run_seq ?_
   have hch := chosenS_ok p4
   refine run_region rfl ?_
   refine lv (Value.pointer (some ⟨b3, 0, none⟩)) rfl (e_fieldAddr Try.underlying24 rfl rfl rfl rfl) ?_
   replace bx5 := bx5.chg hb16 (not_no _)
   refine lv (Value.int .i64 g.1) rfl (e_load_bx1 tp3_a rfl bx5 rfl) ?_
   refine lv (Value.agg (List.toArray [Value.int .i64 g.1, Value.slice none 0 0])) rfl (e_build (vs := [(0, Value.int .i64 g.1)]) rfl (by kernel_rfl)) ?_
   refine l_op rfl ?_
   refine o_alloc g9 (is 3) (3, 0) rfl tp24_a ?_
   intro g20 w17 b19 ch18 bx21
   replace bx21 : Bx g20 (is 3) w17 b19 [Value.int .i64 0, Value.slice none 0 0] := bx21
   refine l_op rfl ?_
   refine o_store_bx (cs' := [Value.int .i64 g.1, Value.slice none 0 0]) tp24_a rfl rfl bx21 rfl (Nat.le_of_ble_eq_true rfl) (AllOne.all (.cons rfl (.cons rfl .nil))) rfl ?_
   intro w22 ch23 bx24
   clear bx21
   refine l_nil (run_seq (run_seq (run_region rfl ?_)))
   refine lv (keep_v) rfl (e_move rfl) ?_
   have C25 : Chg (inl [3]) _ _ _ _ := (hb16.n).seq ((ch18.n).seq (ch23.l rfl))
   replace r_keep_v := r_keep_v.chg C25 (is_nl rfl)
   have len26 := (r_keep_v).small
   refine lv (Value.int .i64 (List.length keep : Int)) rfl (e_len Try.underlying27 rfl r_keep_v) ?_
   refine lv (Value.int .i64 0) rfl (e_move rfl) ?_
   refine l_nil ?_
   refine run_block ?_
   refine run_loop (σ := Value × (List ((Int) × (Int))) × Nat × Cmap) (fun ⟨out_1_v, out_1, k, gq⟩ f w => Base w0 gq w ∧ f 2 = Value.pointer (some ⟨b3, 0, none⟩) ∧ f 4 = Value.pointer (some ⟨b8, 0, none⟩) ∧ f 7 = Value.pointer (some ⟨b19, 0, none⟩) ∧ f 26 = keep_v ∧ f 27 = Value.int .i64 (List.length keep : Int) ∧ f 28 = Value.int .i64 (k : Int) ∧ Sl gq (is 0) w g_v g.2 ∧ Sl gq (is 0) w keep_v keep ∧ Bx gq (is 1) w b3 [Value.int .i64 g.1, g_v] ∧ Bx gq (is 2) w b8 [Value.int .i64 0, Value.slice none 0 0] ∧ Bx gq (is 3) w b19 [Value.int .i64 g.1, out_1_v] ∧ Ow gq (is 5) (is 5) w out_1_v out_1 ∧ (k : Int) ≤ ((List.length keep : Int) : Int) ∧ (out_1 = (List.take k keep).map (gI g.2))) (fun ⟨out_1_v, out_1, k, gq⟩ => Int.toNat (((List.length keep : Int) : Int) - (k : Int))) (Value.slice none 0 0, [], 0, g20) ?_ ?_
   have C27 : Chg (inl [3]) _ _ _ _ := (ch2.n).seq ((ch7.n).seq ((hb12.n).seq ((hb16.n).seq ((ch18.n).seq (ch23.l rfl)))))
   replace hbase := hbase.chg C27 (is_nl rfl)
   replace r_g_v := r_g_v.chg C25 (is_nl rfl)
   replace bx5 := (bx5.chg ch18 (not_no _)).chg ch23 (is_ne rfl)
   have C28 : Chg (inl [3]) _ _ _ _ := (hb12.n).seq ((hb16.n).seq ((ch18.n).seq (ch23.l rfl)))
   replace bx10 := bx10.chg C28 (is_nl rfl)
   · exact ⟨hbase, rfl, rfl, rfl, rfl, rfl, rfl, r_g_v, r_keep_v, bx5, bx10, bx24, Ow.nil, by omega, by rfl⟩
   clear r_g_v r_keep_v bx5 bx10 bx24 hbase
   rintro ⟨out_1_v, out_1, k, g31⟩ f29 w30 ⟨hbase, zs2, zs4, zs7, zs26, zs27, zs28, r_g_v, r_keep_v, bx5, bx10, bx24, o_out_1, hle_k, hinv8⟩ back8
   have hlo : out_1.length = k := by rw [hinv8]; simp; omega
   refine run_seq (run_region rfl ?_)
   refine lv (Value.bool (decide ((k : Int) < (List.length keep : Int)))) rfl (e_lss (m := (k : Int)) (n := (List.length keep : Int)) (by exact zs28) (by exact zs27)) ?_
   refine l_nil (run_seq ?_)
   by_cases p8 : (k : Int) < (List.length keep : Int)
   ·
    refine run_cond_t rfl (decide_eq_true p8) ?_
    refine run_skip ?_
    refine run_seq ?_
    refine run_block ?_
    refine run_seq (run_region rfl ?_)
    refine lv (Value.pointer (some (eAddr keep_v 1 (Int.toNat (k : Int))))) rfl (e_indexAddr (α := Int) (xs := keep) (v := keep_v) (i := (k : Int)) Try.underlying27 rfl (by exact zs26) r_keep_v (by exact zs28) (by omega) (by omega)) ?_
    refine lv (Value.int .i64 (gI keep (k : Int))) rfl (e_load_el1 (α := Int) (xs := keep) (v := keep_v) (i := (k : Int)) tp3_a rfl r_keep_v (by omega) (by omega) (by decide) rfl) ?_
    refine lv (Value.int .i64 (gI keep (k : Int))) rfl (e_assign rfl) ?_
    refine l_nil ?_
    obtain ⟨hk1, hk2⟩ := hch.1 _ (gI_mem (xs := keep) (i := (k : Int)) (by omega) p8)
    refine run_region_x g31 [0, 1, 2, 3, 4, 5, 6, 9] mixed_a ?_
    intro w33 ch32
    refine x_pure (v := Value.pointer (some ⟨b19, 1, none⟩)) 0 rfl (by kernel_rfl) (by kernel_rfl) rfl (fun w => e_fieldAddr Try.underlying24 rfl rfl (by exact zs7) rfl) ?_
    replace bx24 := bx24.chg ch32 (not_no _)
    refine x_held (v := out_1_v) 1 [0, 2, 4, 3, 5, 6, 7] rfl (by kernel_rfl) (by kernel_rfl) rfl (fun w' hw' => e_load_bx1 tp22_a rfl (bx24.bel hw') rfl) ?_
    refine x_pure (v := Value.pointer (some ⟨b3, 1, none⟩)) 2 rfl (by kernel_rfl) (by kernel_rfl) rfl (fun w => e_fieldAddr Try.underlying24 rfl rfl (by exact zs2) rfl) ?_
    replace bx5 := bx5.chg ch32 (not_no _)
    refine x_val (v := g_v) 3 [2, 1, 0, 4] rfl (by kernel_rfl) (by kernel_rfl) rfl (e_load_bx1 tp22_a rfl bx5 rfl) ?_
    refine x_pure (v := Value.int .i64 (gI keep (k : Int))) 4 rfl (by kernel_rfl) (by kernel_rfl) rfl (fun w => e_move rfl) ?_
    replace r_g_v := r_g_v.chg ch32 (not_no _)
    refine x_val (v := Value.pointer (some (eAddr g_v 2 (Int.toNat (gI keep (k : Int)))))) 5 [4, 3, 2, 1, 0] rfl (by kernel_rfl) (by kernel_rfl) rfl (e_indexAddr (α := (Int) × (Int)) (xs := g.2) (v := g_v) (i := (gI keep (k : Int))) Try.underlying22 rfl rfl r_g_v rfl (by omega) (by omega)) ?_
    refine x_val (v := Value.agg (List.toArray [Value.int .i64 ((gI g.2 (gI keep (k : Int))).1), Value.int .i64 ((gI g.2 (gI keep (k : Int))).2)])) 6 [5, 4, 3, 2, 1, 0] rfl (by kernel_rfl) (by kernel_rfl) rfl (e_load_elN (α := (Int) × (Int)) (xs := g.2) (v := g_v) (i := (gI keep (k : Int))) tp60_a rfl r_g_v (by omega) (by omega) rfl) ?_
    refine x_one 7 rfl (by kernel_rfl) rfl ?_
    refine o_buildSlice (α := (Int) × (Int)) g31 (is 4) (is 4) (4, 0) rfl [(gI g.2 (gI keep (k : Int)))] Try.underlying22 tp60_a (by decide) (by decide) (vs := [(0, Value.agg (List.toArray [Value.int .i64 ((gI g.2 (gI keep (k : Int))).1), Value.int .i64 ((gI g.2 (gI keep (k : Int))).2)]))]) rfl rfl (.cons rfl .nil) ?_
    intro g34 w35 v36 ch37 o38
    refine x_one 8 rfl (by kernel_rfl) rfl ?_
    replace o_out_1 := (o_out_1.chg ch32 (not_no _) (not_no _)).chg ch37 (not_no _) (not_no _)
    refine o_append (α := (Int) × (Int)) (xs := out_1) (ys := ([(gI g.2 (gI keep (k : Int)))])) g34 (J := is 5) (S := is 5) (5, 0) rfl Try.underlying22 tp60_a (by decide) rfl rfl rfl o_out_1 o38.flat (by decide) (by first | omega | (simp; done) | (simp; omega)) ?_
    intro g39 w40 v41 ch42 o43
    clear o_out_1
    refine x_pure (v := Value.pointer (some ⟨b19, 1, none⟩)) 9 rfl (by kernel_rfl) (by kernel_rfl) rfl (fun w => e_fieldAddr Try.underlying24 rfl rfl (by exact zs7) rfl) ?_
    refine x_one 10 rfl (by kernel_rfl) rfl ?_
    replace bx24 := (bx24.chg ch37 (not_no _)).chg ch42 (is_ne rfl)
    refine o_store_bx1 (cs' := [Value.int .i64 g.1, v41]) tp22_a rfl rfl bx24 (sl_cells1 o43.flat) (Nat.le_of_ble_eq_true rfl) (sl_one o43.flat) rfl ?_
    intro w44 ch45 bx46
    clear bx24
    refine x_nil (by kernel_rfl) ?_
    refine run_inBlock ?_
    clear o38
    refine run_region rfl ?_
    refine lv (Value.int .i64 ((k : Int) + 1)) rfl (e_add (m := (k : Int)) (n := 1) (by exact zs28) rfl (by omega)) ?_
    refine lv (Value.int .i64 ((k : Int) + 1)) rfl (e_move rfl) ?_
    refine l_nil ?_
    have C47 : Chg (inl [3, 5]) _ _ _ _ := (ch32.n).seq ((ch37.n).seq ((ch42.l rfl).seq (ch45.l rfl)))
    replace hbase := hbase.chg C47 (is_nl rfl)
    have C48 : Chg (inl [3, 5]) _ _ _ _ := (ch37.n).seq ((ch42.l rfl).seq (ch45.l rfl))
    replace r_g_v := r_g_v.chg C48 (is_nl rfl)
    replace r_keep_v := r_keep_v.chg C47 (is_nl rfl)
    replace bx5 := bx5.chg C48 (is_nl rfl)
    replace bx10 := bx10.chg C47 (is_nl rfl)
    replace o43 := o43.chg ch45 (is_ne rfl) (is_ne rfl)
    refine back8 (v41, (out_1 ++ [(gI g.2 (gI keep (k : Int)))]), k + 1, g39) _ _ ⟨hbase, (by exact zs2), (by exact zs4), (by exact zs7), (by exact zs26), (by exact zs27), rfl, r_g_v, r_keep_v, bx5, bx10, bx46, o43, by omega, ?_⟩ ?_
    · show (out_1 ++ [(gI g.2 (gI keep (k : Int)))]) = (List.take (k + 1) keep).map (gI g.2)
      rw [take_succ_gI (by assumption), hinv8]; simp
    · show Int.toNat (((List.length keep : Int) : Int) - ((k + 1) : Int)) < Int.toNat (((List.length keep : Int) : Int) - (k : Int))
      omega
   refine run_cond_f rfl (decide_eq_false p8) ?_
   refine run_exit rfl ?_
   refine run_seq ?_
   clear bx5
   refine run_region rfl ?_
   refine lv (Value.agg (List.toArray [Value.int .i64 g.1, out_1_v])) rfl (e_load_bxN (ds := [Value.int .i64 g.1, out_1_v]) tp24_a (by exact zs7) bx24 rfl rfl) ?_
   refine l_op rfl ?_
   refine o_store_bx (cs' := [Value.int .i64 g.1, out_1_v]) tp24_a (by exact zs4) rfl bx10 rfl (Nat.le_of_ble_eq_true rfl) (AllOne.all (.cons rfl (.cons (sl_one o_out_1.flat) .nil))) rfl ?_
   intro w49 ch50 bx51
   clear bx10
   refine lv (Value.int .i64 0) rfl (e_assign rfl) ?_
   refine l_nil ?_
   refine run_ret (vs := [Value.agg (List.toArray [Value.int .i64 g.1, out_1_v]), Value.int .i64 0]) Try.func91 (.cell (by exact zs4) (load_bxN (ds := [Value.int .i64 g.1, out_1_v]) tp24_a bx51 rfl rfl) (.tmp rfl .nil)) ?_
   replace hbase := hbase.chg ch50 (is_ne rfl)
   replace o_out_1 := o_out_1.chg ch50 (is_ne rfl) (is_ne rfl)
   have e0 : ((g.1, out_1) : (Int) × (List ((Int) × (Int)))) = ((subR g keep).1) := by
     have hm := of_decide_eq_true p1
     rw [List.take_of_length_le (by omega)] at hinv8
     simp [subR, hm, p4, hinv8]
   have e1 : (0 : Int) = ((subR g keep).2) := by
     have hm := of_decide_eq_true p1
     rw [List.take_of_length_le (by omega)] at hinv8
     simp [subR, hm, p4, hinv8]
   exact ⟨(fin w0 g31 (fun n => if n = 5 then 1 else 0), out_1_v), (congr2 (a := (g.1, out_1)) (b := 0) (fun (z0 : (Int) × (List ((Int) × (Int)))) (z1 : Int) => Ending.returned (Value.tuple (List.toArray [Value.agg (List.toArray [Value.int .i64 z0.1, out_1_v]), Value.int .i64 z1]))) e0 e1), hbase.fresh _, ((congrArg (fun (z : (Int) × (List ((Int) × (Int)))) => z.2) e0) ▸ (o_out_1.glue (γ := c0) (ren := (fun n => if n = 5 then 1 else 0)) (k := 1) hbase.col rfl rfl))⟩
  refine run_cond_t rfl (congrArg Bool.not (decide_eq_false p4)) ?_
  refine run_seq ?_
  clear bx5
  refine run_region rfl ?_
  refine lv (Value.agg (List.toArray [Value.int .i64 0, Value.slice none 0 0])) rfl (e_build (vs := []) rfl (by kernel_rfl)) ?_
  refine lv (Value.int .i64 (chosenS keep (List.length g.2 : Int))) rfl (e_move rfl) ?_
  refine l_op rfl ?_
  replace bx10 := (bx10.chg hb12 (not_no _)).chg hb16 (not_no _)
  refine o_store_bx (cs' := [Value.int .i64 0, Value.slice none 0 0]) tp24_a rfl rfl bx10 rfl (Nat.le_of_ble_eq_true rfl) (AllOne.all (.cons rfl (.cons rfl .nil))) rfl ?_
  intro w52 ch53 bx54
  clear bx10
  refine lv (Value.int .i64 (chosenS keep (List.length g.2 : Int))) rfl (e_assign rfl) ?_
  refine l_nil ?_
  refine run_ret (vs := [Value.agg (List.toArray [Value.int .i64 0, Value.slice none 0 0]), Value.int .i64 (chosenS keep (List.length g.2 : Int))]) Try.func91 (.cell rfl (load_bxN (ds := [Value.int .i64 0, Value.slice none 0 0]) tp24_a bx54 rfl rfl) (.tmp rfl .nil)) ?_
  have C55 : Chg (inl [2]) _ _ _ _ := (ch2.n).seq ((ch7.n).seq ((hb12.n).seq ((hb16.n).seq (ch53.l rfl))))
  replace hbase := hbase.chg C55 (is_nl rfl)
  have e0 : ((0, []) : (Int) × (List ((Int) × (Int)))) = ((subR g keep).1) := by
    have hm := of_decide_eq_true p1
    simp [subR, hm, p4]
  have e1 : (chosenS keep (List.length g.2 : Int) : Int) = ((subR g keep).2) := by
    have hm := of_decide_eq_true p1
    simp [subR, hm, p4]
  exact ⟨(fin w0 g9 (fun n => 0), (Value.slice none 0 0)), (congr2 (a := (0, [])) (b := chosenS keep (List.length g.2 : Int)) (fun (z0 : (Int) × (List ((Int) × (Int)))) (z1 : Int) => Ending.returned (Value.tuple (List.toArray [Value.agg (List.toArray [Value.int .i64 z0.1, Value.slice none 0 0]), Value.int .i64 z1]))) e0 e1), hbase.fresh _, ((congrArg (fun (z : (Int) × (List ((Int) × (Int)))) => z.2) e0) ▸ Ow.nil)⟩
 refine run_cond_t rfl (congrArg Bool.not (Bool.eq_false_iff.2 p1)) ?_
 refine run_seq ?_
 clear bx5
 refine run_region rfl ?_
 refine lv (Value.agg (List.toArray [Value.int .i64 0, Value.slice none 0 0])) rfl (e_build (vs := []) rfl (by kernel_rfl)) ?_
 refine l_op rfl ?_
 replace bx10 := bx10.chg hb12 (not_no _)
 refine o_store_bx (cs' := [Value.int .i64 0, Value.slice none 0 0]) tp24_a rfl rfl bx10 rfl (Nat.le_of_ble_eq_true rfl) (AllOne.all (.cons rfl (.cons rfl .nil))) rfl ?_
 intro w56 ch57 bx58
 clear bx10
 refine lv (Value.int .i64 1) rfl (e_assign rfl) ?_
 refine l_nil ?_
 refine run_ret (vs := [Value.agg (List.toArray [Value.int .i64 0, Value.slice none 0 0]), Value.int .i64 1]) Try.func91 (.cell rfl (load_bxN (ds := [Value.int .i64 0, Value.slice none 0 0]) tp24_a bx58 rfl rfl) (.tmp rfl .nil)) ?_
 have C59 : Chg (inl [2]) _ _ _ _ := (ch2.n).seq ((ch7.n).seq ((hb12.n).seq (ch57.l rfl)))
 replace hbase := hbase.chg C59 (is_nl rfl)
 have e0 : ((0, []) : (Int) × (List ((Int) × (Int)))) = ((subR g keep).1) := by
   have hn : ¬ MayP g := fun h => p1 (decide_eq_true h)
   simp [subR, hn]
 have e1 : (1 : Int) = ((subR g keep).2) := by
   have hn : ¬ MayP g := fun h => p1 (decide_eq_true h)
   simp [subR, hn]
 exact ⟨(fin w0 g9 (fun n => 0), (Value.slice none 0 0)), (congr2 (a := (0, [])) (b := 1) (fun (z0 : (Int) × (List ((Int) × (Int)))) (z1 : Int) => Ending.returned (Value.tuple (List.toArray [Value.agg (List.toArray [Value.int .i64 z0.1, Value.slice none 0 0]), Value.int .i64 z1]))) e0 e1), hbase.fresh _, ((congrArg (fun (z : (Int) × (List ((Int) × (Int)))) => z.2) e0) ▸ Ow.nil)⟩
end TL
