import Derived.Test.YtilohhkbelkmdaaTlGenA
import Derived.Test.YtilohhkbelkmdaaTlP2
import Derived.Test.YtilohhkbelkmdaaProg
set_option linter.all false
set_option maxRecDepth 20000
namespace TL
open Go Go.Proofs
theorem tp3_q : Tp Try.prog 3 false 1 8 (.int .i64 0) := Tp.of (by kernel_rfl)
theorem tp22_q : Tp Try.prog 22 false 1 24 (.slice none 0 0) := Tp.of (by kernel_rfl)
theorem Min_ok (w0 : World) (x : List Int) (x_v : Value) (hx_v : Ro w0 x_v x) (hx : 0 < x.length) :
    Calls Try.prog 102 #[x_v] w0 (fun ee w => ee = .returned (Value.int .i64 (minL x)) ∧ Bel w0.heap.size w0 w) := by
 refine calls_of_run Try.func102 rfl (Nat.le_of_ble_eq_true rfl) ?_
 have hbase := Base.start w0
 have r_x_v := hx_v.sl
 refine run_seq (run_region rfl ?_)
 refine lv (Value.int .i64 0) rfl (e_assign rfl) ?_
 refine l_nil (run_seq (run_seq (run_region rfl ?_)))
 refine lv (x_v) rfl (e_move rfl) ?_
 have len1 := (r_x_v).small
 refine lv (Value.int .i64 (List.length x : Int)) rfl (e_len Try.underlying27 rfl r_x_v) ?_
 refine lv (Value.bool (decide ((List.length x : Int) < 1))) rfl (e_lss (m := (List.length x : Int)) (n := 1) rfl rfl) ?_
 refine l_nil ?_
 by_cases p1 : (List.length x : Int) < 1
 ·
  omega
 refine run_cond_f rfl (decide_eq_false p1) ?_
 refine run_skip ?_
 refine run_seq (run_region rfl ?_)
 refine lv (x_v) rfl (e_move rfl) ?_
 refine lv (Value.pointer (some (eAddr x_v 1 (Int.toNat 0)))) rfl (e_indexAddr (α := Int) (xs := x) (v := x_v) (i := 0) Try.underlying27 rfl rfl r_x_v rfl (by omega) (by omega)) ?_
 refine lv (Value.int .i64 (gI x 0)) rfl (e_load_el1 (α := Int) (xs := x) (v := x_v) (i := 0) tp3_q rfl r_x_v (by omega) (by omega) (by decide) rfl) ?_
 refine lv (Value.int .i64 (gI x 0)) rfl (e_assign rfl) ?_
 refine l_nil (run_seq (run_seq (run_region rfl ?_)))
 refine lv (Value.int .i64 1) rfl (e_assign rfl) ?_
 refine l_nil ?_
 refine run_block ?_
 refine run_loop (σ := Int × Nat × Cmap) (fun ⟨m, i, gq⟩ f w => Base w0 gq w ∧ f 0 = x_v ∧ f 3 = Value.int .i64 m ∧ f 4 = Value.int .i64 (i : Int) ∧ Sl gq (is 0) w x_v x ∧ (i : Int) ≤ ((List.length x : Int) : Int) ∧ (1 ≤ i ∧ m = minK x i)) (fun ⟨m, i, gq⟩ => Int.toNat (((List.length x : Int) : Int) - (i : Int))) ((gI x 0), 1, c0) ?_ ?_
 · exact ⟨hbase, rfl, rfl, rfl, r_x_v, by omega, by exact ⟨Nat.le_refl _, by simp [minK]⟩⟩
 clear r_x_v hbase
 rintro ⟨m, i, g4⟩ f2 w3 ⟨hbase, zs0, zs3, zs4, r_x_v, hle_i, hinv⟩ back5
 refine run_seq (run_seq (run_region rfl ?_))
 refine lv (Value.int .i64 (i : Int)) rfl (e_move (by exact zs4)) ?_
 refine lv (x_v) rfl (e_move (by exact zs0)) ?_
 refine lv (Value.int .i64 (List.length x : Int)) rfl (e_len Try.underlying27 rfl r_x_v) ?_
 refine lv (Value.bool (decide ((i : Int) < (List.length x : Int)))) rfl (e_lss (m := (i : Int)) (n := (List.length x : Int)) rfl rfl) ?_
 refine l_nil ?_
 by_cases p5 : (i : Int) < (List.length x : Int)
 ·
  refine run_cond_t rfl (decide_eq_true p5) ?_
  refine run_skip ?_
  refine run_seq ?_
  refine run_block ?_
  refine run_region rfl ?_
  refine lv (Value.int .i64 m) rfl (e_move (by exact zs3)) ?_
  refine lv (x_v) rfl (e_move (by exact zs0)) ?_
  refine lv (Value.int .i64 (i : Int)) rfl (e_move (by exact zs4)) ?_
  refine lv (Value.pointer (some (eAddr x_v 1 (Int.toNat (i : Int))))) rfl (e_indexAddr (α := Int) (xs := x) (v := x_v) (i := (i : Int)) Try.underlying27 rfl rfl r_x_v rfl (by omega) (by omega)) ?_
  refine lv (Value.int .i64 (gI x (i : Int))) rfl (e_load_el1 (α := Int) (xs := x) (v := x_v) (i := (i : Int)) tp3_q rfl r_x_v (by omega) (by omega) (by decide) rfl) ?_
  refine lv (Value.int .i64 (min m (gI x (i : Int)))) rfl (e_min rfl rfl) ?_
  refine lv (Value.int .i64 (min m (gI x (i : Int)))) rfl (e_assign rfl) ?_
  refine l_nil ?_
  refine run_inBlock ?_
  refine run_region rfl ?_
  refine lv (Value.int .i64 (i : Int)) rfl (e_move (by exact zs4)) ?_
  refine lv (Value.int .i64 ((i : Int) + 1)) rfl (e_add (m := (i : Int)) (n := 1) rfl rfl (by omega)) ?_
  refine lv (Value.int .i64 ((i : Int) + 1)) rfl (e_assign rfl) ?_
  refine l_nil ?_
  refine back5 (min m (gI x (i : Int)), i + 1, g4) _ _ ⟨hbase, (by exact zs0), rfl, rfl, r_x_v, by omega, ?_⟩ ?_
  · show 1 ≤ (i + 1) ∧ (min m (gI x (i : Int))) = minK x (i + 1)
    obtain ⟨h1, h2⟩ := hinv
    exact ⟨by omega, by rw [h2, minK_succ h1 (by assumption)]⟩
  · show Int.toNat (((List.length x : Int) : Int) - ((i + 1) : Int)) < Int.toNat (((List.length x : Int) : Int) - (i : Int))
    omega
 refine run_cond_f rfl (decide_eq_false p5) ?_
 refine run_exit rfl ?_
 refine run_seq (run_region rfl ?_)
 refine lv (Value.int .i64 m) rfl (e_move (by exact zs3)) ?_
 refine lv (Value.int .i64 m) rfl (e_assign rfl) ?_
 refine l_nil ?_
 refine run_ret (vs := [Value.int .i64 m]) Try.func102 (.tmp rfl .nil) ?_
 have e0 : (m : Int) = (minL x) := by
   obtain ⟨h1, h2⟩ := hinv
   rw [h2]
   unfold minL
   rw [show i = x.length by omega]
 exact ⟨(congrArg (a₁ := m) (fun (z0 : Int) => Ending.returned (Value.int .i64 z0)) e0), hbase.below⟩
theorem From_ok (w0 : World) (g : (Int) × (List ((Int) × (Int)))) (g_v : Value) (hg_v : Ro w0 g_v g.2) (h : Int) (hh : 0 ≤ h ∧ h < 2 * (g.2.length : Int)) (hlen : g.2.length ≤ 1000000) :
    Calls Try.prog 52 #[Value.agg (List.toArray [Value.int .i64 g.1, g_v]), Value.int .i64 h] w0 (fun ee w => ee = .returned (Value.int .i64 (fromS g h)) ∧ Bel w0.heap.size w0 w) := by
 refine calls_of_run Try.func52 rfl (Nat.le_of_ble_eq_true rfl) ?_
 have hbase := Base.start w0
 have r_g_v := hg_v.sl
 obtain ⟨hh1, hh2⟩ := hh
 refine run_seq (run_region rfl (l_op rfl ?_))
 refine o_box c0 (is 1) (1, 0) rfl rfl ?_
 intro g4 w1 b3 ch2 bx5
 replace bx5 : Bx g4 (is 1) w1 b3 [Value.int .i64 g.1, g_v] := bx5
 refine lv (Value.int .i64 0) rfl (e_assign rfl) ?_
 refine l_nil (run_seq (run_region rfl ?_))
 refine lv (Value.pointer (some ⟨b3, 1, none⟩)) rfl (e_fieldAddr Try.underlying24 rfl rfl rfl rfl) ?_
 refine lv (g_v) rfl (e_load_bx1 tp22_q rfl bx5 rfl) ?_
 refine lv (Value.int .i64 h) rfl (e_move rfl) ?_
 refine lv (Value.int .i64 (h / 2)) rfl (e_quo (m := h) (n := 2) rfl rfl (by omega) (by omega) (by omega)) ?_
 refine lv (Value.int .i64 h) rfl (e_move rfl) ?_
 refine lv (Value.int .i64 (h % 2)) rfl (e_rem (m := h) (n := 2) rfl rfl (by omega) (by omega)) ?_
 replace r_g_v := r_g_v.chg ch2 (not_no _)
 refine lv (Value.pointer (some (eAddr g_v 2 (Int.toNat (h / 2))))) rfl (e_indexAddr (α := (Int) × (Int)) (xs := g.2) (v := g_v) (i := h / 2) Try.underlying22 rfl rfl r_g_v rfl (by omega) (by omega)) ?_
 refine lv (Value.pointer (some ⟨(eAddr g_v 2 (Int.toNat (h / 2))).block, (eAddr g_v 2 (Int.toNat (h / 2))).off + (Int.toNat (h % 2)), none⟩)) rfl (e_indexAddr_el (i := h % 2) Try.underlying60 rfl rfl rfl (by omega) (by omega) (Nat.mul_one _)) ?_
 refine lv (Value.int .i64 (pI (gI g.2 (h / 2)) (h % 2))) rfl (e_load_elF (α := (Int) × (Int)) (xs := g.2) (v := g_v) (i := h / 2) tp3_q rfl r_g_v (by omega) (by omega) (show Int.toNat (h % 2) < 2 by omega) (pI_cells _ (by omega) (by omega))) ?_
 refine lv (Value.int .i64 (pI (gI g.2 (h / 2)) (h % 2))) rfl (e_assign rfl) ?_
 refine l_nil ?_
 refine run_ret (vs := [Value.int .i64 (pI (gI g.2 (h / 2)) (h % 2))]) Try.func52 (.tmp rfl .nil) ?_
 have e0 : (pI (gI g.2 (h / 2)) (h % 2) : Int) = (fromS g h) := by
   rfl
 replace hbase := hbase.chg ch2 (not_no _)
 exact ⟨(congrArg (a₁ := pI (gI g.2 (h / 2)) (h % 2)) (fun (z0 : Int) => Ending.returned (Value.int .i64 z0)) e0), hbase.below⟩
end TL
