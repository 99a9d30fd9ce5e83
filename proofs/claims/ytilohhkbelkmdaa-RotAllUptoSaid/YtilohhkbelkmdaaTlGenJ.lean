import Derived.Test.YtilohhkbelkmdaaTlGenA
import Derived.Test.YtilohhkbelkmdaaTlGenQ
import Derived.Test.YtilohhkbelkmdaaTlGenX
import Derived.Test.YtilohhkbelkmdaaTlGenI
import Derived.Test.YtilohhkbelkmdaaTlP2
import Derived.Test.YtilohhkbelkmdaaProg
set_option linter.all false
set_option maxRecDepth 20000
namespace TL
open Go Go.Proofs
theorem mixed_j : Try.prog.follows .mixedOrders = true := by kernel_rfl
theorem tp3_j : Tp Try.prog 3 false 1 8 (.int .i64 0) := Tp.of (by kernel_rfl)
theorem tp4_j : Tp Try.prog 4 false 1 1 (.bool false) := Tp.of (by kernel_rfl)
theorem tp22_j : Tp Try.prog 22 false 1 24 (.slice none 0 0) := Tp.of (by kernel_rfl)
theorem tp24_j : Tp Try.prog 24 true 2 32 (.agg #[.int .i64 0, .slice none 0 0]) := Tp.of (by kernel_rfl)
theorem tp27_j : Tp Try.prog 27 false 1 24 (.slice none 0 0) := Tp.of (by kernel_rfl)
theorem bd27_j : Try.f27.body.isNone = false := rfl
theorem nm27_j : (Try.f27.name == "runtime.NumGoroutine") = false := by decide +kernel
theorem bd29_j : Try.f29.body.isNone = false := rfl
theorem nm29_j : (Try.f29.name == "runtime.NumGoroutine") = false := by decide +kernel
theorem bd31_j : Try.f31.body.isNone = false := rfl
theorem nm31_j : (Try.f31.name == "runtime.NumGoroutine") = false := by decide +kernel
theorem bd60_j : Try.f60.body.isNone = false := rfl
theorem nm60_j : (Try.f60.name == "runtime.NumGoroutine") = false := by decide +kernel
theorem bd72_j : Try.f72.body.isNone = false := rfl
theorem nm72_j : (Try.f72.name == "runtime.NumGoroutine") = false := by decide +kernel
theorem bd79_j : Try.f79.body.isNone = false := rfl
theorem nm79_j : (Try.f79.name == "runtime.NumGoroutine") = false := by decide +kernel
theorem rNext_ok (w0 : World) (g : (Int) × (List ((Int) × (Int)))) (g_v : Value) (hg_v : Ro w0 g_v g.2) (r : List (List Int)) (r_v : Value) (hr_v : Ro w0 r_v r) (hmay : MayP g) (hr : RotP g r) :
    Calls Try.prog 72 #[Value.agg (List.toArray [Value.int .i64 g.1, g_v]), r_v] w0 (fun ee w => ∃ xx : Cmap × Value, ee = .returned ((fun ⟨δ, rv0⟩ => rv0) xx) ∧ (fun (⟨δ, rv0⟩ : Cmap × Value) (w : World) => Fresh w0 δ w ∧ Ow δ (is 1) (is 1) w rv0 (nextS g r)) xx w) := by
 refine calls_of_run Try.func72 rfl (Nat.le_of_ble_eq_true rfl) ?_
 have hbase := Base.start w0
 have r_g_v := hg_v.sl
 have r_r_v := hr_v.sl
 have hm0 := hmay
 obtain ⟨hm1, hm2, hm3, hm4⟩ := hm0
 have hrl := hr.1
 refine run_seq (run_region rfl (l_op rfl ?_))
 refine o_box c0 (is 1) (1, 0) rfl rfl ?_
 intro g4 w1 b3 ch2 bx5
 replace bx5 : Bx g4 (is 1) w1 b3 [Value.int .i64 g.1, g_v] := bx5
 refine lv (Value.slice none 0 0) rfl (e_assign rfl) ?_
 refine l_nil (run_seq (run_region rfl ?_))
 refine lv (Value.pointer (some ⟨b3, 1, none⟩)) rfl (e_fieldAddr Try.underlying24 rfl rfl rfl rfl) ?_
 refine lv (g_v) rfl (e_load_bx1 tp22_j rfl bx5 rfl) ?_
 replace r_g_v := r_g_v.chg ch2 (not_no _)
 have len6 := (r_g_v).small
 refine lv (Value.int .i64 (List.length g.2 : Int)) rfl (e_len Try.underlying22 rfl r_g_v) ?_
 refine lv (Value.int .i64 (2 * (List.length g.2 : Int))) rfl (e_mul (m := 2) (n := (List.length g.2 : Int)) rfl rfl (by omega)) ?_
 refine l_op rfl ?_
 refine o_make (α := Int) (l := 2 * (List.length g.2 : Int)) (cp := 2 * (List.length g.2 : Int)) g4 (is 2) (is 2) (2, 0) rfl (0 : Int) Try.underlying27 tp3_j rfl rfl rfl (by omega) (by omega) (by omega) (by omega) ?_
 intro g7 w8 v9 ch10 o11 _
 refine lv (v9) rfl (e_assign rfl) ?_
 refine l_nil (run_seq (run_seq ?_))
 clear bx5
 refine run_region rfl ?_
 refine lv (Value.int .i64 0) rfl (e_assign rfl) ?_
 refine l_nil ?_
 refine run_block ?_
 refine run_loop (σ := Nat × (List Int) × Cmap) (fun ⟨v, behind, gq⟩ f w => Base w0 gq w ∧ f 1 = r_v ∧ f 5 = v9 ∧ f 6 = Value.int .i64 (v : Int) ∧ Sl gq (is 0) w g_v g.2 ∧ Sl gq (is 0) w r_v r ∧ Ow gq (is 2) (is 2) w v9 behind ∧ (v : Int) ≤ ((List.length r : Int) : Int) ∧ (BhInv behind g r v 0)) (fun ⟨v, behind, gq⟩ => Int.toNat (((List.length r : Int) : Int) - (v : Int))) (0, (List.replicate (Int.toNat (2 * (List.length g.2 : Int))) (0 : Int)), g7) ?_ ?_
 replace hbase := hbase.chg ch2 (not_no _)
 replace hbase := hbase.chg ch10 (not_no _)
 replace r_g_v := r_g_v.chg ch10 (not_no _)
 replace r_r_v := (r_r_v.chg ch2 (not_no _)).chg ch10 (not_no _)
 · exact ⟨hbase, rfl, rfl, rfl, r_g_v, r_r_v, o11, by omega, by exact BhInv.start g r⟩
 clear r_g_v r_r_v o11 hbase
 rintro ⟨v, behind, g14⟩ f12 w13 ⟨hbase, zs1, zs5, zs6, r_g_v, r_r_v, o11, hle_v, hinv⟩ back3
 have hbl := hinv.len
 refine run_seq (run_seq (run_region rfl ?_))
 refine lv (Value.int .i64 (v : Int)) rfl (e_move (by exact zs6)) ?_
 refine lv (r_v) rfl (e_move (by exact zs1)) ?_
 have len15 := (r_r_v).small
 refine lv (Value.int .i64 (List.length r : Int)) rfl (e_len Try.underlying26 rfl r_r_v) ?_
 refine lv (Value.bool (decide ((v : Int) < (List.length r : Int)))) rfl (e_lss (m := (v : Int)) (n := (List.length r : Int)) rfl rfl) ?_
 refine l_nil ?_
 by_cases p3 : (v : Int) < (List.length r : Int)
 ·
  refine run_cond_t rfl (decide_eq_true p3) ?_
  refine run_skip ?_
  refine run_seq ?_
  refine run_block ?_
  refine run_seq (run_region rfl ?_)
  refine lv (Value.int .i64 0) rfl (e_assign rfl) ?_
  refine l_nil ?_
  refine run_block ?_
  refine run_loop (σ := Nat × (List Int) × Cmap) (fun ⟨k, behind, gq⟩ f w => Base w0 gq w ∧ f 1 = r_v ∧ f 5 = v9 ∧ f 6 = Value.int .i64 (v : Int) ∧ f 7 = Value.int .i64 (k : Int) ∧ Sl gq (is 0) w g_v g.2 ∧ Sl gq (is 0) w r_v r ∧ Ow gq (is 2) (is 2) w v9 behind ∧ (k : Int) ≤ ((List.length (gI r (v : Int)) : Int) : Int) ∧ (BhInv behind g r v k)) (fun ⟨k, behind, gq⟩ => List.length (gI r (v : Int)) - k) (0, behind, g14) ?_ ?_
  · exact ⟨hbase, (by exact zs1), (by exact zs5), (by exact zs6), rfl, r_g_v, r_r_v, o11, by omega, by exact hinv⟩
  clear r_g_v r_r_v o11 hbase
  rintro ⟨k, behind, g18⟩ f16 w17 ⟨hbase, zs1, zs5, zs6, zs7, r_g_v, r_r_v, o11, hle_k, hin⟩ back6
  have hbl := hin.len
  refine run_seq (run_seq (run_region rfl ?_))
  refine lv (Value.int .i64 (k : Int)) rfl (e_move (by exact zs7)) ?_
  refine lv (r_v) rfl (e_move (by exact zs1)) ?_
  refine lv (Value.int .i64 (v : Int)) rfl (e_move (by exact zs6)) ?_
  refine lv (Value.pointer (some (eAddr r_v 1 (Int.toNat (v : Int))))) rfl (e_indexAddr (α := List Int) (xs := r) (v := r_v) (i := (v : Int)) Try.underlying26 rfl rfl r_r_v rfl (by omega) (by omega)) ?_
  obtain ⟨v19, cel20, r21⟩ := sl_row (r := (v : Int)) r_r_v (by omega) (by omega)
  refine lv (v19) rfl (e_load1 tp27_j rfl cel20) ?_
  have len22 := (r21).small
  refine lv (Value.int .i64 (List.length (gI r (v : Int)) : Int)) rfl (e_len Try.underlying27 rfl r21) ?_
  refine lv (Value.bool (decide ((k : Int) < (List.length (gI r (v : Int)) : Int)))) rfl (e_lss (m := (k : Int)) (n := (List.length (gI r (v : Int)) : Int)) rfl rfl) ?_
  refine l_nil ?_
  by_cases p6 : (k : Int) < (List.length (gI r (v : Int)) : Int)
  ·
   refine run_cond_t rfl (decide_eq_true p6) ?_
   have hh := (hr.2.1 v (by omega) _ (gI_mem (xs := gI r (v : Int)) (i := (k : Int)) (by omega) (by assumption))).1
   have he1 := Int.emod_nonneg ((k : Int) + 1) (show ((gI r (v : Int)).length : Int) ≠ 0 by omega)
   have he2 := Int.emod_lt_of_pos ((k : Int) + 1) (show (0 : Int) < ((gI r (v : Int)).length : Int) by omega)
   have hrw := row_len hr (k := v) (by assumption)
   refine run_skip ?_
   refine run_seq ?_
   refine run_block ?_
   clear r21
   refine run_region_x g18 [0, 1, 2, 3, 4, 5, 6, 7, 8, 9, 10, 11, 12, 13, 14, 15, 16, 17, 18, 19, 20, 21, 22] mixed_j ?_
   intro w24 ch23
   refine x_pure (v := v9) 0 rfl (by kernel_rfl) (by kernel_rfl) rfl (fun w => e_move (by exact zs5)) ?_
   refine x_pure (v := r_v) 1 rfl (by kernel_rfl) (by kernel_rfl) rfl (fun w => e_move (by exact zs1)) ?_
   refine x_pure (v := Value.int .i64 (v : Int)) 2 rfl (by kernel_rfl) (by kernel_rfl) rfl (fun w => e_move (by exact zs6)) ?_
   replace r_r_v := r_r_v.chg ch23 (not_no _)
   refine x_val (v := Value.pointer (some (eAddr r_v 1 (Int.toNat (v : Int))))) 3 [2, 1, 0, 5, 8, 9, 12, 14, 15, 10, 13, 16, 11, 17, 18, 19, 20, 21] rfl (by kernel_rfl) (by kernel_rfl) rfl (e_indexAddr (α := List Int) (xs := r) (v := r_v) (i := (v : Int)) Try.underlying26 rfl rfl r_r_v rfl (by omega) (by omega)) ?_
   obtain ⟨v25, cel26, r27⟩ := sl_row (r := (v : Int)) r_r_v (by omega) (by omega)
   refine x_val (v := v25) 4 [3, 2, 1, 0, 5, 8, 9, 12, 14, 15, 10, 13, 16, 11, 17, 18, 19, 20, 21] rfl (by kernel_rfl) (by kernel_rfl) rfl (e_load1 tp27_j rfl cel26) ?_
   refine x_pure (v := Value.int .i64 (k : Int)) 5 rfl (by kernel_rfl) (by kernel_rfl) rfl (fun w => e_move (by exact zs7)) ?_
   refine x_val (v := Value.pointer (some (eAddr v25 1 (Int.toNat (k : Int))))) 6 [5, 4, 3, 2, 1, 0, 8, 9, 12, 14, 15, 10, 13, 16, 11, 17, 18, 19, 20, 21] rfl (by kernel_rfl) (by kernel_rfl) rfl (e_indexAddr (α := Int) (xs := gI r (v : Int)) (v := v25) (i := (k : Int)) Try.underlying27 rfl rfl r27 rfl (by omega) (by omega)) ?_
   refine x_val (v := Value.int .i64 (gI (gI r (v : Int)) (k : Int))) 7 [6, 5, 4, 3, 2, 1, 0, 8, 9, 12, 14, 15, 10, 13, 16, 11, 17, 18, 19, 20, 21] rfl (by kernel_rfl) (by kernel_rfl) rfl (e_load_el1 (α := Int) (xs := gI r (v : Int)) (v := v25) (i := (k : Int)) tp3_j rfl r27 (by omega) (by omega) (by decide) rfl) ?_
   refine x_pure (v := r_v) 8 rfl (by kernel_rfl) (by kernel_rfl) rfl (fun w => e_move (by exact zs1)) ?_
   refine x_pure (v := Value.int .i64 (v : Int)) 9 rfl (by kernel_rfl) (by kernel_rfl) rfl (fun w => e_move (by exact zs6)) ?_
   refine x_val (v := Value.pointer (some (eAddr r_v 1 (Int.toNat (v : Int))))) 10 [9, 8, 7, 6, 5, 4, 3, 2, 1, 0, 12, 14, 15, 13, 16, 17, 18, 19] rfl (by kernel_rfl) (by kernel_rfl) rfl (e_indexAddr (α := List Int) (xs := r) (v := r_v) (i := (v : Int)) Try.underlying26 rfl rfl r_r_v rfl (by omega) (by omega)) ?_
   obtain ⟨v28, cel29, r30⟩ := sl_row (r := (v : Int)) r_r_v (by omega) (by omega)
   refine x_val (v := v28) 11 [10, 9, 8, 7, 6, 5, 4, 3, 2, 1, 0, 12, 14, 15, 13, 16, 17, 18, 19] rfl (by kernel_rfl) (by kernel_rfl) rfl (e_load1 tp27_j rfl cel29) ?_
   refine x_pure (v := Value.int .i64 (k : Int)) 12 rfl (by kernel_rfl) (by kernel_rfl) rfl (fun w => e_move (by exact zs7)) ?_
   refine x_pure (v := Value.int .i64 ((k : Int) + 1)) 13 rfl (by kernel_rfl) (by kernel_rfl) rfl (fun w => e_add (m := (k : Int)) (n := 1) rfl rfl (by omega)) ?_
   refine x_pure (v := r_v) 14 rfl (by kernel_rfl) (by kernel_rfl) rfl (fun w => e_move (by exact zs1)) ?_
   refine x_pure (v := Value.int .i64 (v : Int)) 15 rfl (by kernel_rfl) (by kernel_rfl) rfl (fun w => e_move (by exact zs6)) ?_
   refine x_val (v := Value.pointer (some (eAddr r_v 1 (Int.toNat (v : Int))))) 16 [15, 14, 13, 12, 11, 10, 9, 8, 7, 6, 5, 4, 3, 2, 1, 0] rfl (by kernel_rfl) (by kernel_rfl) rfl (e_indexAddr (α := List Int) (xs := r) (v := r_v) (i := (v : Int)) Try.underlying26 rfl rfl r_r_v rfl (by omega) (by omega)) ?_
   obtain ⟨v31, cel32, r33⟩ := sl_row (r := (v : Int)) r_r_v (by omega) (by omega)
   refine x_val (v := v31) 17 [16, 15, 14, 13, 12, 11, 10, 9, 8, 7, 6, 5, 4, 3, 2, 1, 0] rfl (by kernel_rfl) (by kernel_rfl) rfl (e_load1 tp27_j rfl cel32) ?_
   refine x_pure (v := Value.int .i64 (List.length (gI r (v : Int)) : Int)) 18 rfl (by kernel_rfl) (by kernel_rfl) rfl (fun w => e_len Try.underlying27 rfl r33) ?_
   refine x_pure (v := Value.int .i64 (((k : Int) + 1) % (List.length (gI r (v : Int)) : Int))) 19 rfl (by kernel_rfl) (by kernel_rfl) rfl (fun w => e_rem (m := (k : Int) + 1) (n := (List.length (gI r (v : Int)) : Int)) rfl rfl (by omega) (by omega)) ?_
   refine x_val (v := Value.pointer (some (eAddr v28 1 (Int.toNat (((k : Int) + 1) % (List.length (gI r (v : Int)) : Int)))))) 20 [19, 18, 17, 16, 15, 14, 13, 12, 11, 10, 9, 8, 7, 6, 5, 4, 3, 2, 1, 0] rfl (by kernel_rfl) (by kernel_rfl) rfl (e_indexAddr (α := Int) (xs := gI r (v : Int)) (v := v28) (i := ((k : Int) + 1) % (List.length (gI r (v : Int)) : Int)) Try.underlying27 rfl rfl r30 rfl (by omega) (by omega)) ?_
   refine x_val (v := Value.int .i64 (gI (gI r (v : Int)) (((k : Int) + 1) % (List.length (gI r (v : Int)) : Int)))) 21 [20, 19, 18, 17, 16, 15, 14, 13, 12, 11, 10, 9, 8, 7, 6, 5, 4, 3, 2, 1, 0] rfl (by kernel_rfl) (by kernel_rfl) rfl (e_load_el1 (α := Int) (xs := gI r (v : Int)) (v := v28) (i := ((k : Int) + 1) % (List.length (gI r (v : Int)) : Int)) tp3_j rfl r30 (by omega) (by omega) (by decide) rfl) ?_
   replace o11 := o11.chg ch23 (not_no _) (not_no _)
   refine x_val (v := Value.pointer (some (eAddr v9 1 (Int.toNat (gI (gI r (v : Int)) (k : Int)))))) 22 [21, 20, 19, 18, 17, 16, 15, 14, 13, 12, 11, 10, 9, 8, 7, 6, 5, 4, 3, 2, 1, 0] rfl (by kernel_rfl) (by kernel_rfl) rfl (e_indexAddr (α := Int) (xs := behind) (v := v9) (i := (gI (gI r (v : Int)) (k : Int))) Try.underlying27 rfl rfl o11.flat rfl (by omega) (by omega)) ?_
   refine x_one 23 rfl (by kernel_rfl) rfl ?_
   refine o_store_el (i := (gI (gI r (v : Int)) (k : Int))) (gI (gI r (v : Int)) (((k : Int) + 1) % (List.length (gI r (v : Int)) : Int))) tp3_j rfl rfl o11 (by omega) (by omega) rfl ?_
   intro w34 ch35 bx36
   clear o11
   refine x_nil (by kernel_rfl) ?_
   refine run_inBlock ?_
   clear r27 r30 r33
   refine run_region rfl ?_
   refine lv (Value.int .i64 (k : Int)) rfl (e_move (by exact zs7)) ?_
   refine lv (Value.int .i64 ((k : Int) + 1)) rfl (e_add (m := (k : Int)) (n := 1) rfl rfl (by omega)) ?_
   refine lv (Value.int .i64 ((k : Int) + 1)) rfl (e_assign rfl) ?_
   refine l_nil ?_
   replace hbase := hbase.chg ch23 (not_no _)
   replace hbase := hbase.chg ch35 (is_ne rfl)
   replace r_g_v := (r_g_v.chg ch23 (not_no _)).chg ch35 (is_ne rfl)
   replace r_r_v := r_r_v.chg ch35 (is_ne rfl)
   refine back6 (k + 1, (List.set behind (Int.toNat (gI (gI r (v : Int)) (k : Int))) (gI (gI r (v : Int)) (((k : Int) + 1) % (List.length (gI r (v : Int)) : Int)))), g18) _ _ ⟨hbase, (by exact zs1), (by exact zs5), (by exact zs6), rfl, r_g_v, r_r_v, bx36, by omega, ?_⟩ ?_
   · show BhInv (List.set behind (Int.toNat (gI (gI r (v : Int)) (k : Int))) (gI (gI r (v : Int)) (((k : Int) + 1) % (List.length (gI r (v : Int)) : Int)))) g r v (k + 1)
     exact hin.next hr (by assumption) (by assumption)
   · show List.length (gI r (v : Int)) - (k + 1) < List.length (gI r (v : Int)) - k
     omega
  refine run_cond_f rfl (decide_eq_false p6) ?_
  refine run_exit rfl ?_
  refine run_inBlock ?_
  clear r21
  refine run_region rfl ?_
  refine lv (Value.int .i64 (v : Int)) rfl (e_move (by exact zs6)) ?_
  refine lv (Value.int .i64 ((v : Int) + 1)) rfl (e_add (m := (v : Int)) (n := 1) rfl rfl (by omega)) ?_
  refine lv (Value.int .i64 ((v : Int) + 1)) rfl (e_assign rfl) ?_
  refine l_nil ?_
  refine back3 (v + 1, behind, g18) _ _ ⟨hbase, (by exact zs1), (by exact zs5), rfl, r_g_v, r_r_v, o11, by omega, ?_⟩ ?_
  · show BhInv behind g r (v + 1) 0
    exact hin.row_done (by assumption)
  · show Int.toNat (((List.length r : Int) : Int) - ((v + 1) : Int)) < Int.toNat (((List.length r : Int) : Int) - (v : Int))
    omega
 refine run_cond_f rfl (decide_eq_false p3) ?_
 refine run_exit rfl ?_
 refine run_seq (run_region rfl ?_)
 refine lv (v9) rfl (e_move (by exact zs5)) ?_
 have len37 := (o11.flat).small
 refine lv (Value.int .i64 (List.length behind : Int)) rfl (e_len Try.underlying27 rfl o11.flat) ?_
 refine l_op rfl ?_
 refine o_make (α := Int) (l := (List.length behind : Int)) (cp := (List.length behind : Int)) g14 (is 3) (is 3) (3, 0) rfl (0 : Int) Try.underlying27 tp3_j rfl rfl rfl (by omega) (by omega) (by omega) (by omega) ?_
 intro g38 w39 v40 ch41 o42 _
 refine lv (v40) rfl (e_assign rfl) ?_
 refine l_nil (run_seq (run_seq (run_region rfl ?_)))
 refine lv (Value.int .i64 0) rfl (e_assign rfl) ?_
 refine l_nil ?_
 refine run_block ?_
 refine run_loop (σ := Nat × (List Int) × Cmap) (fun ⟨h, next, gq⟩ f w => Base w0 gq w ∧ f 5 = v9 ∧ f 8 = v40 ∧ f 9 = Value.int .i64 (h : Int) ∧ Sl gq (is 0) w g_v g.2 ∧ Sl gq (is 0) w r_v r ∧ Ow gq (is 2) (is 2) w v9 behind ∧ Ow gq (is 3) (is 3) w v40 next ∧ (NeInv next g r h)) (fun ⟨h, next, gq⟩ => 2 * List.length g.2 - h) (0, (List.replicate (Int.toNat (List.length behind : Int)) (0 : Int)), g38) ?_ ?_
 replace hbase := hbase.chg ch41 (not_no _)
 replace r_g_v := r_g_v.chg ch41 (not_no _)
 replace r_r_v := r_r_v.chg ch41 (not_no _)
 replace o11 := o11.chg ch41 (not_no _) (not_no _)
 · exact ⟨hbase, (by exact zs5), rfl, rfl, r_g_v, r_r_v, o11, o42, by exact NeInv.start (by omega)⟩
 clear r_g_v r_r_v o11 o42 hbase
 rintro ⟨h, next, g45⟩ f43 w44 ⟨hbase, zs5, zs8, zs9, r_g_v, r_r_v, o11, o42, hne⟩ back11
 have hnl := hne.1
 refine run_seq (run_seq (run_region rfl ?_))
 refine lv (Value.int .i64 (h : Int)) rfl (e_move (by exact zs9)) ?_
 refine lv (v40) rfl (e_move (by exact zs8)) ?_
 have len46 := (o42.flat).small
 refine lv (Value.int .i64 (List.length next : Int)) rfl (e_len Try.underlying27 rfl o42.flat) ?_
 refine lv (Value.bool (decide ((h : Int) < (List.length next : Int)))) rfl (e_lss (m := (h : Int)) (n := (List.length next : Int)) rfl rfl) ?_
 refine l_nil ?_
 by_cases p11 : (h : Int) < (List.length next : Int)
 ·
  refine run_cond_t rfl (decide_eq_true p11) ?_
  obtain ⟨ht1, ht2⟩ := twin_in (n := (g.2.length : Int)) (h := (h : Int)) (by omega) (by omega)
  refine run_skip ?_
  refine run_seq ?_
  refine run_block ?_
  refine run_region rfl ?_
  refine lv (v40) rfl (e_move (by exact zs8)) ?_
  refine lv (Value.int .i64 (h : Int)) rfl (e_move (by exact zs9)) ?_
  refine lv (v9) rfl (e_move (by exact zs5)) ?_
  refine lv (Value.int .i64 (h : Int)) rfl (e_move (by exact zs9)) ?_
  refine l_op rfl ?_
  refine o_call (v := Value.int .i64 (twin (h : Int))) (e_call (vals := [Value.int .i64 (h : Int)]) Try.func27 bd27_j nm27_j rfl) (rTwin_ok w44 (h : Int) (by omega)) ?_
  intro w47 hb48
  replace hb48 := chg_below hb48 g45
  replace o11 := o11.chg hb48 (not_no _) (not_no _)
  refine lv (Value.pointer (some (eAddr v9 1 (Int.toNat (twin (h : Int)))))) rfl (e_indexAddr (α := Int) (xs := behind) (v := v9) (i := twin (h : Int)) Try.underlying27 rfl rfl o11.flat rfl (by omega) (by omega)) ?_
  refine lv (Value.int .i64 (gI behind (twin (h : Int)))) rfl (e_load_el1 (α := Int) (xs := behind) (v := v9) (i := twin (h : Int)) tp3_j rfl o11.flat (by omega) (by omega) (by decide) rfl) ?_
  replace o42 := o42.chg hb48 (not_no _) (not_no _)
  refine lv (Value.pointer (some (eAddr v40 1 (Int.toNat (h : Int))))) rfl (e_indexAddr (α := Int) (xs := next) (v := v40) (i := (h : Int)) Try.underlying27 rfl rfl o42.flat rfl (by omega) (by omega)) ?_
  refine l_op rfl ?_
  refine o_store_el (i := (h : Int)) (gI behind (twin (h : Int))) tp3_j rfl rfl o42 (by omega) (by omega) rfl ?_
  intro w49 ch50 bx51
  clear o42
  refine l_nil ?_
  refine run_inBlock ?_
  refine run_region rfl ?_
  refine lv (Value.int .i64 (h : Int)) rfl (e_move (by exact zs9)) ?_
  refine lv (Value.int .i64 ((h : Int) + 1)) rfl (e_add (m := (h : Int)) (n := 1) rfl rfl (by omega)) ?_
  refine lv (Value.int .i64 ((h : Int) + 1)) rfl (e_assign rfl) ?_
  refine l_nil ?_
  replace hbase := hbase.chg hb48 (not_no _)
  replace hbase := hbase.chg ch50 (is_ne rfl)
  replace r_g_v := (r_g_v.chg hb48 (not_no _)).chg ch50 (is_ne rfl)
  replace r_r_v := (r_r_v.chg hb48 (not_no _)).chg ch50 (is_ne rfl)
  replace o11 := o11.chg ch50 (is_ne rfl) (is_ne rfl)
  refine back11 (h + 1, (List.set next (Int.toNat (h : Int)) (gI behind (twin (h : Int)))), g45) _ _ ⟨hbase, (by exact zs5), (by exact zs8), rfl, r_g_v, r_r_v, o11, bx51, ?_⟩ ?_
  · show NeInv (List.set next (Int.toNat (h : Int)) (gI behind (twin (h : Int)))) g r (h + 1)
    exact hne.next (by omega) (hinv.done hr (by assumption) (by omega) (by omega))
  · show 2 * List.length g.2 - (h + 1) < 2 * List.length g.2 - h
    omega
 refine run_cond_f rfl (decide_eq_false p11) ?_
 refine run_exit rfl ?_
 refine run_seq ?_
 clear o11
 refine run_region rfl ?_
 refine lv (v40) rfl (e_move (by exact zs8)) ?_
 refine lv (v40) rfl (e_assign rfl) ?_
 refine l_nil ?_
 refine run_ret (vs := [v40]) Try.func72 (.tmp rfl .nil) ?_
 have e0 : (next : List Int) = (nextS g r) := by
   exact hne.done (by assumption)
 exact ⟨(fin w0 g45 (fun n => if n = 3 then 1 else 0), v40), (congrArg (a₁ := next) (fun (z0 : List Int) => Ending.returned (v40)) e0), hbase.fresh _, (e0 ▸ (o42.glue (γ := c0) (ren := (fun n => if n = 3 then 1 else 0)) (k := 1) hbase.col rfl rfl))⟩
theorem rFaces_ok (w0 : World) (g : (Int) × (List ((Int) × (Int)))) (g_v : Value) (hg_v : Ro w0 g_v g.2) (r : List (List Int)) (r_v : Value) (hr_v : Ro w0 r_v r) (hmay : MayP g) (hr : RotP g r) :
    Calls Try.prog 29 #[Value.agg (List.toArray [Value.int .i64 g.1, g_v]), r_v] w0 (fun ee w => ∃ xx : Cmap × Value, ee = .returned ((fun ⟨δ, rv0⟩ => rv0) xx) ∧ (fun (⟨δ, rv0⟩ : Cmap × Value) (w : World) => Fresh w0 δ w ∧ Nst δ 1 w rv0 (facesS (nextS g r) r)) xx w) := by
 refine calls_of_run Try.func29 rfl (Nat.le_of_ble_eq_true rfl) ?_
 have hbase := Base.start w0
 have r_g_v := hg_v.sl
 have r_r_v := hr_v.sl
 have hm0 := hmay
 obtain ⟨hm1, hm2, hm3, hm4⟩ := hm0
 have hrl := hr.1
 have hnx := nextS_len g r
 refine run_seq (run_region rfl (l_op rfl ?_))
 refine o_box c0 (is 1) (1, 0) rfl rfl ?_
 intro g4 w1 b3 ch2 bx5
 replace bx5 : Bx g4 (is 1) w1 b3 [Value.int .i64 g.1, g_v] := bx5
 refine lv (Value.slice none 0 0) rfl (e_assign rfl) ?_
 refine l_nil (run_seq (run_region rfl ?_))
 refine lv (Value.agg (List.toArray [Value.int .i64 g.1, g_v])) rfl (e_load_bxN (ds := [Value.int .i64 g.1, g_v]) tp24_j rfl bx5 rfl rfl) ?_
 refine lv (r_v) rfl (e_move rfl) ?_
 replace r_g_v := r_g_v.chg ch2 (not_no _)
 replace r_r_v := r_r_v.chg ch2 (not_no _)
 refine l_op rfl ?_
 refine o_callx (e_call (vals := [Value.agg (List.toArray [Value.int .i64 g.1, g_v]), r_v]) Try.func72 bd72_j nm72_j rfl) (rNext_ok w1 g g_v (r_g_v).ro r r_v (r_r_v).ro (by assumption) (by assumption)) ?_
 rintro ⟨d7, v9⟩ w6 ⟨fr8, o10⟩
 obtain ⟨g11, hg11⟩ : ∃ q, q = glue w1.heap.size g4 d7 (fun n => if n = 1 then 2 else 0) := ⟨_, rfl⟩
 have ch12 := chg_glue fr8.below g4 d7 (fun n => if n = 1 then 2 else 0)
 rw [← hg11] at ch12
 replace o10 := o10.glue (γ := g4) (ren := (fun n => if n = 1 then 2 else 0)) (k := 2) fr8.col rfl rfl
 rw [← hg11] at o10
 clear hg11
 refine lv (v9) rfl (e_assign rfl) ?_
 refine l_nil (run_seq (run_region rfl ?_))
 refine lv (v9) rfl (e_move rfl) ?_
 have len13 := (o10.flat).small
 refine lv (Value.int .i64 (List.length (nextS g r) : Int)) rfl (e_len Try.underlying27 rfl o10.flat) ?_
 refine l_op rfl ?_
 refine o_make (α := Bool) (l := (List.length (nextS g r) : Int)) (cp := (List.length (nextS g r) : Int)) g11 (is 3) (is 3) (3, 0) rfl false Try.underlying75 tp4_j rfl rfl rfl (by omega) (by omega) (by omega) (by omega) ?_
 intro g14 w15 v16 ch17 o18 _
 refine lv (v16) rfl (e_assign rfl) ?_
 refine l_nil (run_seq (run_region rfl ?_))
 refine lv (Value.slice none 0 0) rfl (e_assign rfl) ?_
 refine l_nil (run_seq (run_seq (run_region rfl ?_)))
 refine lv (Value.int .i64 0) rfl (e_assign rfl) ?_
 refine l_nil ?_
 refine run_block ?_
 refine run_loop (σ := Nat × Value × (List (List Int)) × (List Bool) × Cmap) (fun ⟨h, l_v, l, seen, gq⟩ f w => Base w0 gq w ∧ f 1 = r_v ∧ f 2 = Value.pointer (some ⟨b3, 0, none⟩) ∧ f 5 = v9 ∧ f 6 = v16 ∧ f 7 = l_v ∧ f 8 = Value.int .i64 (h : Int) ∧ Sl gq (is 0) w g_v g.2 ∧ Sl gq (is 0) w r_v r ∧ Bx gq (is 1) w b3 [Value.int .i64 g.1, g_v] ∧ Ow gq (is 2) (is 2) w v9 (nextS g r) ∧ Ow gq (is 3) (is 3) w v16 seen ∧ Nst gq 7 w l_v l ∧ (h : Int) ≤ ((List.length (nextS g r) : Int) : Int) ∧ (∃ S, FaInv seen l (nextS g r) S h)) (fun ⟨h, l_v, l, seen, gq⟩ => Int.toNat (((List.length (nextS g r) : Int) : Int) - (h : Int))) (0, Value.slice none 0 0, [], (List.replicate (Int.toNat (List.length (nextS g r) : Int)) false), g14) ?_ ?_
 have C19 : Chg (inl []) _ _ _ _ := (ch2.n).seq ((ch12.n).seq (ch17.n))
 replace hbase := hbase.chg C19 (is_nl rfl)
 replace r_g_v := (r_g_v.chg ch12 (not_no _)).chg ch17 (not_no _)
 replace r_r_v := (r_r_v.chg ch12 (not_no _)).chg ch17 (not_no _)
 replace bx5 := (bx5.chg ch12 (not_no _)).chg ch17 (not_no _)
 replace o10 := o10.chg ch17 (not_no _) (not_no _)
 · exact ⟨hbase, rfl, rfl, rfl, rfl, rfl, rfl, r_g_v, r_r_v, bx5, o10, o18, Nst.nil, by omega, by exact ⟨[], by have h := FaInv.start (nextS g r); simpa using h⟩⟩
 clear r_g_v r_r_v bx5 o10 o18 hbase
 rintro ⟨h, l_v, l, seen, g22⟩ f20 w21 ⟨hbase, zs1, zs2, zs5, zs6, zs7, zs8, r_g_v, r_r_v, bx5, o10, o18, o_l, hle_h, hinv⟩ back5
 obtain ⟨S, hfa⟩ := hinv
 have hsl := hfa.rm.len
 have hll := hfa.le
 refine run_seq (run_seq (run_region rfl ?_))
 refine lv (Value.int .i64 (h : Int)) rfl (e_move (by exact zs8)) ?_
 refine lv (v9) rfl (e_move (by exact zs5)) ?_
 refine lv (Value.int .i64 (List.length (nextS g r) : Int)) rfl (e_len Try.underlying27 rfl o10.flat) ?_
 refine lv (Value.bool (decide ((h : Int) < (List.length (nextS g r) : Int)))) rfl (e_lss (m := (h : Int)) (n := (List.length (nextS g r) : Int)) rfl rfl) ?_
 refine l_nil ?_
 by_cases p5 : (h : Int) < (List.length (nextS g r) : Int)
 ·
  refine run_cond_t rfl (decide_eq_true p5) ?_
  refine run_skip ?_
  refine run_seq ?_
  refine run_block ?_
  refine run_seq (run_seq (run_region rfl ?_))
  refine lv (v16) rfl (e_move (by exact zs6)) ?_
  refine lv (Value.int .i64 (h : Int)) rfl (e_move (by exact zs8)) ?_
  refine lv (Value.pointer (some (eAddr v16 1 (Int.toNat (h : Int))))) rfl (e_indexAddr (α := Bool) (xs := seen) (v := v16) (i := (h : Int)) Try.underlying75 rfl rfl o18.flat rfl (by omega) (by omega)) ?_
  refine lv (Value.bool (gI seen (h : Int))) rfl (e_load_el1 (α := Bool) (xs := seen) (v := v16) (i := (h : Int)) tp4_j rfl o18.flat (by omega) (by omega) (by decide) rfl) ?_
  refine l_nil ?_
  by_cases p7 : (gI seen (h : Int)) = true
  ·
   refine run_cond_t rfl p7 ?_
   refine run_exit rfl ?_
   refine run_region rfl ?_
   refine lv (Value.int .i64 (h : Int)) rfl (e_move (by exact zs8)) ?_
   refine lv (Value.int .i64 ((h : Int) + 1)) rfl (e_add (m := (h : Int)) (n := 1) rfl rfl (by omega)) ?_
   refine lv (Value.int .i64 ((h : Int) + 1)) rfl (e_assign rfl) ?_
   refine l_nil ?_
   refine back5 (h + 1, l_v, l, seen, g22) _ _ ⟨hbase, (by exact zs1), (by exact zs2), (by exact zs5), (by exact zs6), (by exact zs7), rfl, r_g_v, r_r_v, bx5, o10, o18, o_l, by omega, ?_⟩ ?_
   · show ∃ S, FaInv seen l (nextS g r) S (h + 1)
     first
       | exact ⟨_, hfa.no (OrInv.start hfa (by omega)) (by assumption) (by simp) (by assumption)⟩
       | exact ⟨_, hfa.yes' hor (by assumption) (by assumption) (by assumption)⟩
   · show Int.toNat (((List.length (nextS g r) : Int) : Int) - ((h + 1) : Int)) < Int.toNat (((List.length (nextS g r) : Int) : Int) - (h : Int))
     omega
  refine run_cond_f rfl (Bool.eq_false_iff.2 p7) ?_
  refine run_skip ?_
  refine run_seq (run_region rfl ?_)
  refine lv (Value.slice none 0 0) rfl (e_assign rfl) ?_
  refine l_nil (run_seq (run_seq (run_region rfl ?_)))
  refine lv (Value.int .i64 (h : Int)) rfl (e_move (by exact zs8)) ?_
  refine lv (Value.int .i64 (h : Int)) rfl (e_assign rfl) ?_
  refine l_nil ?_
  refine run_block ?_
  refine run_loop (σ := Value × (List Int) × Int × (List Bool) × Cmap) (fun ⟨f__v, f_, k, seen1, gq⟩ f w => Base w0 gq w ∧ f 1 = r_v ∧ f 2 = Value.pointer (some ⟨b3, 0, none⟩) ∧ f 5 = v9 ∧ f 6 = v16 ∧ f 7 = l_v ∧ f 8 = Value.int .i64 (h : Int) ∧ f 9 = f__v ∧ f 10 = Value.int .i64 k ∧ Sl gq (is 0) w g_v g.2 ∧ Sl gq (is 0) w r_v r ∧ Bx gq (is 1) w b3 [Value.int .i64 g.1, g_v] ∧ Ow gq (is 2) (is 2) w v9 (nextS g r) ∧ Ow gq (is 3) (is 3) w v16 seen1 ∧ Nst gq 7 w l_v l ∧ Ow gq (is 5) (is 5) w f__v f_ ∧ (OrInv seen1 f_ (nextS g r) S h k)) (fun ⟨f__v, f_, k, seen1, gq⟩ => List.length (nextS g r) - List.length f_) (Value.slice none 0 0, [], (h : Int), seen, g22) ?_ ?_
  · exact ⟨hbase, (by exact zs1), (by exact zs2), (by exact zs5), (by exact zs6), (by exact zs7), (by exact zs8), rfl, rfl, r_g_v, r_r_v, bx5, o10, o18, o_l, Ow.nil, by exact OrInv.start hfa (by assumption)⟩
  clear r_g_v r_r_v bx5 o10 o18 o_l hbase
  rintro ⟨f__v, f_, k, seen1, g25⟩ f23 w24 ⟨hbase, zs1, zs2, zs5, zs6, zs7, zs8, zs9, zs10, r_g_v, r_r_v, bx5, o10, o18, o_l, o_f_, hor⟩ back10
  have hsl2 := hor.rm.len
  have hk0 := hor.k0
  have hk1 := hor.k1
  refine run_seq (run_seq (run_region rfl ?_))
  refine lv (v16) rfl (e_move (by exact zs6)) ?_
  refine lv (Value.int .i64 k) rfl (e_move (by exact zs10)) ?_
  refine lv (Value.pointer (some (eAddr v16 1 (Int.toNat k)))) rfl (e_indexAddr (α := Bool) (xs := seen1) (v := v16) (i := k) Try.underlying75 rfl rfl o18.flat rfl (by omega) (by omega)) ?_
  refine lv (Value.bool (gI seen1 k)) rfl (e_load_el1 (α := Bool) (xs := seen1) (v := v16) (i := k) tp4_j rfl o18.flat (by omega) (by omega) (by decide) rfl) ?_
  refine lv (Value.bool (!(gI seen1 k))) rfl (e_not (b := (gI seen1 k)) rfl) ?_
  refine l_nil ?_
  by_cases p10 : (gI seen1 k) = true
  ·
   refine run_cond_f rfl (congrArg Bool.not p10) ?_
   refine run_exit rfl ?_
   refine run_region rfl ?_
   refine lv (l_v) rfl (e_move (by exact zs7)) ?_
   refine lv (f__v) rfl (e_move (by exact zs9)) ?_
   refine l_op rfl ?_
   obtain ⟨c26, hv27⟩ := vc_of (u := f__v) (sl_one o_f_.flat)
   refine o_buildSlice (α := Vc) g25 (is 6) (is 6) (6, 0) rfl [c26] Try.underlying25 tp27_j (by decide) (by decide) (vs := [(0, f__v)]) rfl rfl (.cons (vc_els hv27 (sl_cells1 o_f_.flat)) .nil) ?_
   intro g28 w29 v30 ch31 o32
   refine l_op rfl ?_
   replace o_l := o_l.chg ch31 (not_no _)
   replace o_f_ := o_f_.chg ch31 (not_no _) (not_no _)
   refine o_append_nst hv27 (α := Int) (xss := l) (i := 7) (γ := g28) Try.underlying25 tp27_j rfl rfl rfl o_l (o32.flat) o_f_ rfl (by decide) (by first | omega | (simp; done) | (simp; omega)) ?_
   intro g33 w34 v35 ch36 o37 r38
   clear o_l o_f_
   refine lv (v35) rfl (e_assign rfl) ?_
   refine l_nil ?_
   refine run_inBlock ?_
   clear o32 r38
   refine run_region rfl ?_
   refine lv (Value.int .i64 (h : Int)) rfl (e_move (by exact zs8)) ?_
   refine lv (Value.int .i64 ((h : Int) + 1)) rfl (e_add (m := (h : Int)) (n := 1) rfl rfl (by omega)) ?_
   refine lv (Value.int .i64 ((h : Int) + 1)) rfl (e_assign rfl) ?_
   refine l_nil ?_
   replace hbase := hbase.chg ch31 (not_no _)
   replace hbase := hbase.chg ch36 (is_neix rfl rfl)
   replace r_g_v := (r_g_v.chg ch31 (not_no _)).chg ch36 (is_neix rfl rfl)
   replace r_r_v := (r_r_v.chg ch31 (not_no _)).chg ch36 (is_neix rfl rfl)
   replace bx5 := (bx5.chg ch31 (not_no _)).chg ch36 (is_neix rfl rfl)
   replace o10 := (o10.chg ch31 (not_no _) (not_no _)).chg ch36 (is_neix rfl rfl) (is_neix rfl rfl)
   replace o18 := (o18.chg ch31 (not_no _) (not_no _)).chg ch36 (is_neix rfl rfl) (is_neix rfl rfl)
   refine back5 (h + 1, v35, (l ++ [f_]), seen1, g33) _ _ ⟨hbase, (by exact zs1), (by exact zs2), (by exact zs5), (by exact zs6), rfl, rfl, r_g_v, r_r_v, bx5, o10, o18, o37, by omega, ?_⟩ ?_
   · show ∃ S, FaInv seen1 (l ++ [f_]) (nextS g r) S (h + 1)
     first
       | exact ⟨_, hfa.no (OrInv.start hfa (by omega)) (by assumption) (by simp) (by assumption)⟩
       | exact ⟨_, hfa.yes' hor (by assumption) (by assumption) (by assumption)⟩
   · show Int.toNat (((List.length (nextS g r) : Int) : Int) - ((h + 1) : Int)) < Int.toNat (((List.length (nextS g r) : Int) : Int) - (h : Int))
     omega
  refine run_cond_t rfl (congrArg Bool.not (Bool.eq_false_iff.2 p10)) ?_
  have hni := nextS_in hr (k := k) (by omega) (by omega)
  have hnxt := hor.next (by assumption) (by omega)
  refine run_skip ?_
  refine run_seq ?_
  refine run_block ?_
  refine run_seq (run_region rfl ?_)
  refine lv (v16) rfl (e_move (by exact zs6)) ?_
  refine lv (Value.int .i64 k) rfl (e_move (by exact zs10)) ?_
  refine lv (Value.pointer (some (eAddr v16 1 (Int.toNat k)))) rfl (e_indexAddr (α := Bool) (xs := seen1) (v := v16) (i := k) Try.underlying75 rfl rfl o18.flat rfl (by omega) (by omega)) ?_
  refine l_op rfl ?_
  refine o_store_el (i := k) true tp4_j rfl rfl o18 (by omega) (by omega) rfl ?_
  intro w39 ch40 bx41
  clear o18
  refine l_nil (run_region rfl ?_)
  refine lv (f__v) rfl (e_move (by exact zs9)) ?_
  refine lv (Value.int .i64 k) rfl (e_move (by exact zs10)) ?_
  refine l_op rfl ?_
  refine o_buildSlice (α := Int) g25 (is 4) (is 4) (4, 0) rfl [k] Try.underlying27 tp3_j (by decide) (by decide) (vs := [(0, Value.int .i64 k)]) rfl rfl (.cons rfl .nil) ?_
  intro g42 w43 v44 ch45 o46
  refine l_op rfl ?_
  replace o_f_ := (o_f_.chg ch40 (is_ne rfl) (is_ne rfl)).chg ch45 (not_no _) (not_no _)
  refine o_append (α := Int) (xs := f_) (ys := ([k])) g42 (J := is 5) (S := is 5) (5, 0) rfl Try.underlying27 tp3_j (by decide) rfl rfl rfl o_f_ o46.flat (by decide) (by first | omega | (simp; done) | (simp; omega)) ?_
  intro g47 w48 v49 ch50 o51
  clear o_f_
  refine lv (v49) rfl (e_assign rfl) ?_
  refine l_nil ?_
  refine run_inBlock ?_
  clear o46
  refine run_region rfl ?_
  refine lv (v9) rfl (e_move (by exact zs5)) ?_
  refine lv (Value.int .i64 k) rfl (e_move (by exact zs10)) ?_
  have C52 : Chg (inl [3, 5]) _ _ _ _ := (ch40.l rfl).seq ((ch45.n).seq (ch50.l rfl))
  replace o10 := o10.chg C52 (is_nl rfl) (is_nl rfl)
  refine lv (Value.pointer (some (eAddr v9 1 (Int.toNat k)))) rfl (e_indexAddr (α := Int) (xs := nextS g r) (v := v9) (i := k) Try.underlying27 rfl rfl o10.flat rfl (by omega) (by omega)) ?_
  refine lv (Value.int .i64 (gI (nextS g r) k)) rfl (e_load_el1 (α := Int) (xs := nextS g r) (v := v9) (i := k) tp3_j rfl o10.flat (by omega) (by omega) (by decide) rfl) ?_
  refine lv (Value.int .i64 (gI (nextS g r) k)) rfl (e_assign rfl) ?_
  refine l_nil ?_
  replace hbase := hbase.chg C52 (is_nl rfl)
  replace r_g_v := r_g_v.chg C52 (is_nl rfl)
  replace r_r_v := r_r_v.chg C52 (is_nl rfl)
  replace bx5 := bx5.chg C52 (is_nl rfl)
  replace bx41 := (bx41.chg ch45 (not_no _) (not_no _)).chg ch50 (is_ne rfl) (is_ne rfl)
  replace o_l := o_l.chg C52 (is_nl rfl)
  refine back10 (v49, (f_ ++ [k]), (gI (nextS g r) k), (List.set seen1 (Int.toNat k) true), g47) _ _ ⟨hbase, (by exact zs1), (by exact zs2), (by exact zs5), (by exact zs6), (by exact zs7), (by exact zs8), rfl, rfl, r_g_v, r_r_v, bx5, o10, bx41, o_l, o51, ?_⟩ ?_
  · show OrInv (List.set seen1 (Int.toNat k) true) (f_ ++ [k]) (nextS g r) S h (gI (nextS g r) k)
    exact hnxt.1
  · show List.length (nextS g r) - List.length (f_ ++ [k]) < List.length (nextS g r) - List.length f_
    (have h2 := hnxt.2; simp only [List.length_append, List.length_cons, List.length_nil]; omega)
 refine run_cond_f rfl (decide_eq_false p5) ?_
 refine run_exit rfl ?_
 refine run_seq (run_seq ?_)
 clear o10 o18
 refine run_region rfl ?_
 refine lv (Value.int .i64 0) rfl (e_assign rfl) ?_
 refine l_nil ?_
 refine run_block ?_
 refine run_loop (σ := Value × (List (List Int)) × Nat × Cmap) (fun ⟨l_v, l, v, gq⟩ f w => Base w0 gq w ∧ f 1 = r_v ∧ f 2 = Value.pointer (some ⟨b3, 0, none⟩) ∧ f 7 = l_v ∧ f 11 = Value.int .i64 (v : Int) ∧ Sl gq (is 0) w g_v g.2 ∧ Sl gq (is 0) w r_v r ∧ Bx gq (is 1) w b3 [Value.int .i64 g.1, g_v] ∧ Nst gq 7 w l_v l ∧ (v : Int) ≤ (g.1 : Int) ∧ (l = facesL (nextS g r) (iotaI (List.length (nextS g r))) [] ++ ((List.take v r).filter fun z_ => decide (z_.length = 0)).map fun _ => [])) (fun ⟨l_v, l, v, gq⟩ => Int.toNat ((g.1 : Int) - (v : Int))) (l_v, l, 0, g22) ?_ ?_
 · exact ⟨hbase, (by exact zs1), (by exact zs2), (by exact zs7), rfl, r_g_v, r_r_v, bx5, o_l, by omega, by (simp; exact hfa.done (by assumption))⟩
 clear r_g_v r_r_v bx5 o_l hbase
 rintro ⟨l_v, l, v, g55⟩ f53 w54 ⟨hbase, zs1, zs2, zs7, zs11, r_g_v, r_r_v, bx5, o_l, hle_v, hem⟩ back16
 have hel := empty_len hem
 have hfn := hfa.le
 have hfd := hfa.done (by assumption)
 rw [hfd] at hfn
 refine run_seq (run_seq (run_region rfl ?_))
 refine lv (Value.int .i64 (v : Int)) rfl (e_move (by exact zs11)) ?_
 refine lv (Value.pointer (some ⟨b3, 0, none⟩)) rfl (e_fieldAddr Try.underlying24 rfl rfl (by exact zs2) rfl) ?_
 refine lv (Value.int .i64 g.1) rfl (e_load_bx1 tp3_j rfl bx5 rfl) ?_
 refine lv (Value.bool (decide ((v : Int) < g.1))) rfl (e_lss (m := (v : Int)) (n := g.1) rfl rfl) ?_
 refine l_nil ?_
 by_cases p16 : (v : Int) < g.1
 ·
  refine run_cond_t rfl (decide_eq_true p16) ?_
  refine run_skip ?_
  refine run_seq ?_
  refine run_block ?_
  refine run_seq (run_region rfl ?_)
  refine lv (r_v) rfl (e_move (by exact zs1)) ?_
  refine lv (Value.int .i64 (v : Int)) rfl (e_move (by exact zs11)) ?_
  refine lv (Value.pointer (some (eAddr r_v 1 (Int.toNat (v : Int))))) rfl (e_indexAddr (α := List Int) (xs := r) (v := r_v) (i := (v : Int)) Try.underlying26 rfl rfl r_r_v rfl (by omega) (by omega)) ?_
  obtain ⟨v56, cel57, r58⟩ := sl_row (r := (v : Int)) r_r_v (by omega) (by omega)
  refine lv (v56) rfl (e_load1 tp27_j rfl cel57) ?_
  have len59 := (r58).small
  refine lv (Value.int .i64 (List.length (gI r (v : Int)) : Int)) rfl (e_len Try.underlying27 rfl r58) ?_
  refine lv (Value.bool (decide ((List.length (gI r (v : Int)) : Int) = 0))) rfl (e_eql (m := (List.length (gI r (v : Int)) : Int)) (n := 0) rfl rfl) ?_
  refine l_nil ?_
  by_cases p18 : (List.length (gI r (v : Int)) : Int) = 0
  ·
   refine run_cond_t rfl (decide_eq_true p18) ?_
   clear r58
   refine run_region rfl ?_
   refine lv (l_v) rfl (e_move (by exact zs7)) ?_
   refine l_op rfl ?_
   obtain ⟨c60, hv61⟩ := vc_of (u := Value.slice none 0 0) rfl
   refine o_buildSlice (α := Vc) g55 (is 8) (is 8) (8, 0) rfl [c60] Try.underlying25 tp27_j (by decide) (by decide) (vs := [(0, Value.slice none 0 0)]) rfl rfl (.cons (vc_els hv61 rfl) .nil) ?_
   intro g62 w63 v64 ch65 o66
   refine l_op rfl ?_
   replace o_l := o_l.chg ch65 (not_no _)
   refine o_append_nilrow hv61 (α := Int) (xss := l) (i := 7) (γ := g62) Try.underlying25 tp27_j rfl rfl rfl o_l (o66.flat) (by decide) (by first | omega | (simp; done) | (simp; omega)) ?_
   intro g67 w68 v69 ch70 o71 
   clear o_l
   refine lv (v69) rfl (e_assign rfl) ?_
   refine l_nil ?_
   refine run_inBlock ?_
   clear o66
   refine run_region rfl ?_
   refine lv (Value.int .i64 (v : Int)) rfl (e_move (by exact zs11)) ?_
   refine lv (Value.int .i64 ((v : Int) + 1)) rfl (e_add (m := (v : Int)) (n := 1) rfl rfl (by omega)) ?_
   refine lv (Value.int .i64 ((v : Int) + 1)) rfl (e_assign rfl) ?_
   refine l_nil ?_
   replace hbase := hbase.chg ch65 (not_no _)
   replace hbase := hbase.chg ch70 (is_ne rfl)
   replace r_g_v := (r_g_v.chg ch65 (not_no _)).chg ch70 (is_ne rfl)
   replace r_r_v := (r_r_v.chg ch65 (not_no _)).chg ch70 (is_ne rfl)
   replace bx5 := (bx5.chg ch65 (not_no _)).chg ch70 (is_ne rfl)
   refine back16 (v69, (l ++ [[]]), v + 1, g67) _ _ ⟨hbase, (by exact zs1), (by exact zs2), rfl, rfl, r_g_v, r_r_v, bx5, o71, by omega, ?_⟩ ?_
   · show (l ++ [[]]) = facesL (nextS g r) (iotaI (List.length (nextS g r))) [] ++ ((List.take (v + 1) r).filter fun z_ => decide (z_.length = 0)).map fun _ => []
     first
       | exact empty_yes (by omega) hem (by assumption)
       | exact empty_no (by omega) hem (by assumption)
   · show Int.toNat ((g.1 : Int) - ((v + 1) : Int)) < Int.toNat ((g.1 : Int) - (v : Int))
     omega
  refine run_cond_f rfl (decide_eq_false p18) ?_
  refine run_skip ?_
  refine run_inBlock ?_
  clear r58
  refine run_region rfl ?_
  refine lv (Value.int .i64 (v : Int)) rfl (e_move (by exact zs11)) ?_
  refine lv (Value.int .i64 ((v : Int) + 1)) rfl (e_add (m := (v : Int)) (n := 1) rfl rfl (by omega)) ?_
  refine lv (Value.int .i64 ((v : Int) + 1)) rfl (e_assign rfl) ?_
  refine l_nil ?_
  refine back16 (l_v, l, v + 1, g55) _ _ ⟨hbase, (by exact zs1), (by exact zs2), (by exact zs7), rfl, r_g_v, r_r_v, bx5, o_l, by omega, ?_⟩ ?_
  · show l = facesL (nextS g r) (iotaI (List.length (nextS g r))) [] ++ ((List.take (v + 1) r).filter fun z_ => decide (z_.length = 0)).map fun _ => []
    first
      | exact empty_yes (by omega) hem (by assumption)
      | exact empty_no (by omega) hem (by assumption)
  · show Int.toNat ((g.1 : Int) - ((v + 1) : Int)) < Int.toNat ((g.1 : Int) - (v : Int))
    omega
 refine run_cond_f rfl (decide_eq_false p16) ?_
 refine run_exit rfl ?_
 refine run_seq ?_
 clear bx5
 refine run_region rfl ?_
 refine lv (l_v) rfl (e_move (by exact zs7)) ?_
 refine lv (l_v) rfl (e_assign rfl) ?_
 refine l_nil ?_
 refine run_ret (vs := [l_v]) Try.func29 (.tmp rfl .nil) ?_
 have e0 : (l : List (List Int)) = (facesS (nextS g r) r) := by
   rw [hem, List.take_of_length_le (by omega)]; rfl
 exact ⟨(fin w0 g55 (fun n => if n = 7 then 1 else 0), l_v), (congrArg (a₁ := l) (fun (z0 : List (List Int)) => Ending.returned (l_v)) e0), hbase.fresh _, (e0 ▸ (o_l.glue (γ := c0) (ren := (fun n => if n = 7 then 1 else 0)) (k := 1) hbase.col rfl rfl))⟩
theorem rOf_ok (w0 : World) (g : (Int) × (List ((Int) × (Int)))) (g_v : Value) (hg_v : Ro w0 g_v g.2) (r : List (List Int)) (r_v : Value) (hr_v : Ro w0 r_v r) (hmay : MayP g) (hr : RotP g r) :
    Calls Try.prog 26 #[Value.agg (List.toArray [Value.int .i64 g.1, g_v]), r_v] w0 (fun ee w => ∃ xx : Cmap × Value, ee = .returned ((fun ⟨δ, rv0⟩ => rv0) xx) ∧ (fun (⟨δ, rv0⟩ : Cmap × Value) (w : World) => Fresh w0 δ w ∧ Ow δ (is 1) (is 1) w rv0 (ofS g r)) xx w) := by
 refine calls_of_run Try.func26 rfl (Nat.le_of_ble_eq_true rfl) ?_
 have hbase := Base.start w0
 have r_g_v := hg_v.sl
 have r_r_v := hr_v.sl
 have hm0 := hmay
 obtain ⟨hm1, hm2, hm3, hm4⟩ := hm0
 have hrl := hr.1
 refine run_seq (run_region rfl (l_op rfl ?_))
 refine o_box c0 (is 1) (1, 0) rfl rfl ?_
 intro g4 w1 b3 ch2 bx5
 replace bx5 : Bx g4 (is 1) w1 b3 [Value.int .i64 g.1, g_v] := bx5
 refine lv (Value.slice none 0 0) rfl (e_assign rfl) ?_
 refine l_nil (run_seq (run_region rfl ?_))
 refine lv (Value.agg (List.toArray [Value.int .i64 g.1, g_v])) rfl (e_load_bxN (ds := [Value.int .i64 g.1, g_v]) tp24_j rfl bx5 rfl rfl) ?_
 refine lv (r_v) rfl (e_move rfl) ?_
 replace r_g_v := r_g_v.chg ch2 (not_no _)
 replace r_r_v := r_r_v.chg ch2 (not_no _)
 refine l_op rfl ?_
 refine o_callx (e_call (vals := [Value.agg (List.toArray [Value.int .i64 g.1, g_v]), r_v]) Try.func29 bd29_j nm29_j rfl) (rFaces_ok w1 g g_v (r_g_v).ro r r_v (r_r_v).ro (by assumption) (by assumption)) ?_
 rintro ⟨d7, v9⟩ w6 ⟨fr8, o10⟩
 obtain ⟨g11, hg11⟩ : ∃ q, q = glue w1.heap.size g4 d7 (fun n => if n = 1 then 2 else 0) := ⟨_, rfl⟩
 have ch12 := chg_glue fr8.below g4 d7 (fun n => if n = 1 then 2 else 0)
 rw [← hg11] at ch12
 replace o10 := o10.glue (γ := g4) (ren := (fun n => if n = 1 then 2 else 0)) (k := 2) fr8.col rfl rfl
 rw [← hg11] at o10
 clear hg11
 refine lv (v9) rfl (e_assign rfl) ?_
 refine l_nil (run_seq (run_region rfl ?_))
 refine lv (Value.pointer (some ⟨b3, 1, none⟩)) rfl (e_fieldAddr Try.underlying24 rfl rfl rfl rfl) ?_
 replace bx5 := bx5.chg ch12 (not_no _)
 refine lv (g_v) rfl (e_load_bx1 tp22_j rfl bx5 rfl) ?_
 replace r_g_v := r_g_v.chg ch12 (not_no _)
 have len13 := (r_g_v).small
 refine lv (Value.int .i64 (List.length g.2 : Int)) rfl (e_len Try.underlying22 rfl r_g_v) ?_
 refine lv (Value.int .i64 (2 * (List.length g.2 : Int))) rfl (e_mul (m := 2) (n := (List.length g.2 : Int)) rfl rfl (by omega)) ?_
 refine l_op rfl ?_
 refine o_make (α := Int) (l := 2 * (List.length g.2 : Int)) (cp := 2 * (List.length g.2 : Int)) g11 (is 3) (is 3) (3, 0) rfl (0 : Int) Try.underlying27 tp3_j rfl rfl rfl (by omega) (by omega) (by omega) (by omega) ?_
 intro g14 w15 v16 ch17 o18 _
 refine lv (v16) rfl (e_assign rfl) ?_
 refine l_nil (run_seq (run_seq ?_))
 clear bx5
 refine run_region rfl ?_
 refine lv (Value.int .i64 0) rfl (e_assign rfl) ?_
 refine l_nil ?_
 refine run_block ?_
 refine run_loop (σ := Nat × (List Int) × Cmap) (fun ⟨i, of, gq⟩ f w => Base w0 gq w ∧ f 5 = v9 ∧ f 6 = v16 ∧ f 7 = Value.int .i64 (i : Int) ∧ Sl gq (is 0) w g_v g.2 ∧ Sl gq (is 0) w r_v r ∧ Nst gq 2 w v9 (facesS (nextS g r) r) ∧ Ow gq (is 3) (is 3) w v16 of ∧ (i : Int) ≤ ((List.length (facesS (nextS g r) r) : Int) : Int) ∧ (of = ofK (facesS (nextS g r) r) (2 * (g.2.length : Int)) i)) (fun ⟨i, of, gq⟩ => Int.toNat (((List.length (facesS (nextS g r) r) : Int) : Int) - (i : Int))) (0, (List.replicate (Int.toNat (2 * (List.length g.2 : Int))) (0 : Int)), g14) ?_ ?_
 have C19 : Chg (inl []) _ _ _ _ := (ch2.n).seq ((ch12.n).seq (ch17.n))
 replace hbase := hbase.chg C19 (is_nl rfl)
 replace r_g_v := r_g_v.chg ch17 (not_no _)
 replace r_r_v := (r_r_v.chg ch12 (not_no _)).chg ch17 (not_no _)
 replace o10 := o10.chg ch17 (not_no _)
 · exact ⟨hbase, rfl, rfl, rfl, r_g_v, r_r_v, o10, o18, by omega, by rfl⟩
 clear r_g_v r_r_v o10 o18 hbase
 rintro ⟨i, of, g22⟩ f20 w21 ⟨hbase, zs5, zs6, zs7, r_g_v, r_r_v, o10, o18, hle_i, hinv⟩ back4
 have hll : (of.length : Int) = 2 * (g.2.length : Int) := by rw [hinv, ofK_len]; omega
 refine run_seq (run_seq (run_region rfl ?_))
 refine lv (Value.int .i64 (i : Int)) rfl (e_move (by exact zs7)) ?_
 refine lv (v9) rfl (e_move (by exact zs5)) ?_
 have len23 := (o10.sl).small
 refine lv (Value.int .i64 (List.length (facesS (nextS g r) r) : Int)) rfl (e_len Try.underlying25 rfl o10.sl) ?_
 refine lv (Value.bool (decide ((i : Int) < (List.length (facesS (nextS g r) r) : Int)))) rfl (e_lss (m := (i : Int)) (n := (List.length (facesS (nextS g r) r) : Int)) rfl rfl) ?_
 refine l_nil ?_
 by_cases p4 : (i : Int) < (List.length (facesS (nextS g r) r) : Int)
 ·
  refine run_cond_t rfl (decide_eq_true p4) ?_
  refine run_skip ?_
  refine run_seq ?_
  refine run_block ?_
  refine run_seq (run_region rfl ?_)
  refine lv (Value.int .i64 0) rfl (e_assign rfl) ?_
  refine l_nil ?_
  refine run_block ?_
  refine run_loop (σ := Nat × (List Int) × Cmap) (fun ⟨k, of, gq⟩ f w => Base w0 gq w ∧ f 5 = v9 ∧ f 6 = v16 ∧ f 7 = Value.int .i64 (i : Int) ∧ f 8 = Value.int .i64 (k : Int) ∧ Sl gq (is 0) w g_v g.2 ∧ Sl gq (is 0) w r_v r ∧ Nst gq 2 w v9 (facesS (nextS g r) r) ∧ Ow gq (is 3) (is 3) w v16 of ∧ (k : Int) ≤ ((List.length (gI (facesS (nextS g r) r) (i : Int)) : Int) : Int) ∧ (of = ofKi (facesS (nextS g r) r) (2 * (g.2.length : Int)) i k)) (fun ⟨k, of, gq⟩ => Int.toNat (((List.length (gI (facesS (nextS g r) r) (i : Int)) : Int) : Int) - (k : Int))) (0, of, g22) ?_ ?_
  · exact ⟨hbase, (by exact zs5), (by exact zs6), (by exact zs7), rfl, r_g_v, r_r_v, o10, o18, by omega, by rw [ofKi_zero]; exact hinv⟩
  clear r_g_v r_r_v o10 o18 hbase
  rintro ⟨k, of, g26⟩ f24 w25 ⟨hbase, zs5, zs6, zs7, zs8, r_g_v, r_r_v, o10, o18, hle_k, hin⟩ back7
  have hll : (of.length : Int) = 2 * (g.2.length : Int) := by rw [hin, ofKi_len]; omega
  refine run_seq (run_seq (run_region rfl ?_))
  refine lv (Value.int .i64 (k : Int)) rfl (e_move (by exact zs8)) ?_
  refine lv (v9) rfl (e_move (by exact zs5)) ?_
  refine lv (Value.int .i64 (i : Int)) rfl (e_move (by exact zs7)) ?_
  refine lv (Value.pointer (some (eAddr v9 1 (Int.toNat (i : Int))))) rfl (e_indexAddr (α := List Int) (xs := facesS (nextS g r) r) (v := v9) (i := (i : Int)) Try.underlying25 rfl rfl o10.sl rfl (by omega) (by omega)) ?_
  obtain ⟨v27, cel28, r29⟩ := nst_row (r := (i : Int)) o10 (by omega) (by omega)
  refine lv (v27) rfl (e_load1 tp27_j rfl cel28) ?_
  have len30 := (r29.row_sl).small
  refine lv (Value.int .i64 (List.length (gI (facesS (nextS g r) r) (i : Int)) : Int)) rfl (e_len Try.underlying27 rfl r29.row_sl) ?_
  refine lv (Value.bool (decide ((k : Int) < (List.length (gI (facesS (nextS g r) r) (i : Int)) : Int)))) rfl (e_lss (m := (k : Int)) (n := (List.length (gI (facesS (nextS g r) r) (i : Int)) : Int)) rfl rfl) ?_
  refine l_nil ?_
  by_cases p7 : (k : Int) < (List.length (gI (facesS (nextS g r) r) (i : Int)) : Int)
  ·
   refine run_cond_t rfl (decide_eq_true p7) ?_
   obtain ⟨hh1, hh2⟩ := face_in hr (k := i) (i := k) (by assumption) (by assumption)
   refine run_skip ?_
   refine run_seq ?_
   refine run_block ?_
   clear cel28 r29
   refine run_region rfl ?_
   refine lv (v16) rfl (e_move (by exact zs6)) ?_
   refine lv (v9) rfl (e_move (by exact zs5)) ?_
   refine lv (Value.int .i64 (i : Int)) rfl (e_move (by exact zs7)) ?_
   refine lv (Value.pointer (some (eAddr v9 1 (Int.toNat (i : Int))))) rfl (e_indexAddr (α := List Int) (xs := facesS (nextS g r) r) (v := v9) (i := (i : Int)) Try.underlying25 rfl rfl o10.sl rfl (by omega) (by omega)) ?_
   obtain ⟨v31, cel32, r33⟩ := nst_row (r := (i : Int)) o10 (by omega) (by omega)
   refine lv (v31) rfl (e_load1 tp27_j rfl cel32) ?_
   refine lv (Value.int .i64 (k : Int)) rfl (e_move (by exact zs8)) ?_
   refine lv (Value.pointer (some (eAddr v31 1 (Int.toNat (k : Int))))) rfl (e_indexAddr (α := Int) (xs := gI (facesS (nextS g r) r) (i : Int)) (v := v31) (i := (k : Int)) Try.underlying27 rfl rfl r33.row_sl rfl (by omega) (by omega)) ?_
   refine lv (Value.int .i64 (gI (gI (facesS (nextS g r) r) (i : Int)) (k : Int))) rfl (e_load_el1 (α := Int) (xs := gI (facesS (nextS g r) r) (i : Int)) (v := v31) (i := (k : Int)) tp3_j rfl r33.row_sl (by omega) (by omega) (by decide) rfl) ?_
   refine lv (Value.int .i64 (i : Int)) rfl (e_move (by exact zs7)) ?_
   refine lv (Value.pointer (some (eAddr v16 1 (Int.toNat (gI (gI (facesS (nextS g r) r) (i : Int)) (k : Int)))))) rfl (e_indexAddr (α := Int) (xs := of) (v := v16) (i := (gI (gI (facesS (nextS g r) r) (i : Int)) (k : Int))) Try.underlying27 rfl rfl o18.flat rfl (by omega) (by omega)) ?_
   refine l_op rfl ?_
   refine o_store_el (i := (gI (gI (facesS (nextS g r) r) (i : Int)) (k : Int))) (i : Int) tp3_j rfl rfl o18 (by omega) (by omega) rfl ?_
   intro w34 ch35 bx36
   clear o18 cel32
   refine l_nil ?_
   refine run_inBlock ?_
   clear r33
   refine run_region rfl ?_
   refine lv (Value.int .i64 (k : Int)) rfl (e_move (by exact zs8)) ?_
   refine lv (Value.int .i64 ((k : Int) + 1)) rfl (e_add (m := (k : Int)) (n := 1) rfl rfl (by omega)) ?_
   refine lv (Value.int .i64 ((k : Int) + 1)) rfl (e_assign rfl) ?_
   refine l_nil ?_
   replace hbase := hbase.chg ch35 (is_ne rfl)
   replace r_g_v := r_g_v.chg ch35 (is_ne rfl)
   replace r_r_v := r_r_v.chg ch35 (is_ne rfl)
   replace o10 := o10.chg ch35 (is_ne rfl)
   refine back7 (k + 1, (List.set of (Int.toNat (gI (gI (facesS (nextS g r) r) (i : Int)) (k : Int))) (i : Int)), g26) _ _ ⟨hbase, (by exact zs5), (by exact zs6), (by exact zs7), rfl, r_g_v, r_r_v, o10, bx36, by omega, ?_⟩ ?_
   · show (List.set of (Int.toNat (gI (gI (facesS (nextS g r) r) (i : Int)) (k : Int))) (i : Int)) = ofKi (facesS (nextS g r) r) (2 * (g.2.length : Int)) i (k + 1)
     rw [ofKi_succ _ _ _ _ (by assumption), hin]
   · show Int.toNat (((List.length (gI (facesS (nextS g r) r) (i : Int)) : Int) : Int) - ((k + 1) : Int)) < Int.toNat (((List.length (gI (facesS (nextS g r) r) (i : Int)) : Int) : Int) - (k : Int))
     omega
  refine run_cond_f rfl (decide_eq_false p7) ?_
  refine run_exit rfl ?_
  refine run_inBlock ?_
  clear cel28 r29
  refine run_region rfl ?_
  refine lv (Value.int .i64 (i : Int)) rfl (e_move (by exact zs7)) ?_
  refine lv (Value.int .i64 ((i : Int) + 1)) rfl (e_add (m := (i : Int)) (n := 1) rfl rfl (by omega)) ?_
  refine lv (Value.int .i64 ((i : Int) + 1)) rfl (e_assign rfl) ?_
  refine l_nil ?_
  refine back4 (i + 1, of, g26) _ _ ⟨hbase, (by exact zs5), (by exact zs6), rfl, r_g_v, r_r_v, o10, o18, by omega, ?_⟩ ?_
  · show of = ofK (facesS (nextS g r) r) (2 * (g.2.length : Int)) (i + 1)
    rw [hin]; exact ofKi_done _ _ _ _ (by assumption)
  · show Int.toNat (((List.length (facesS (nextS g r) r) : Int) : Int) - ((i + 1) : Int)) < Int.toNat (((List.length (facesS (nextS g r) r) : Int) : Int) - (i : Int))
    omega
 refine run_cond_f rfl (decide_eq_false p4) ?_
 refine run_exit rfl ?_
 refine run_seq ?_
 clear o10
 refine run_region rfl ?_
 refine lv (v16) rfl (e_move (by exact zs6)) ?_
 refine lv (v16) rfl (e_assign rfl) ?_
 refine l_nil ?_
 refine run_ret (vs := [v16]) Try.func26 (.tmp rfl .nil) ?_
 have e0 : (of : List Int) = (ofS g r) := by
   have hk : i = (facesS (nextS g r) r).length := by omega
   simp only [ofS]
   rw [hinv, hk]
 exact ⟨(fin w0 g22 (fun n => if n = 3 then 1 else 0), v16), (congrArg (a₁ := of) (fun (z0 : List Int) => Ending.returned (v16)) e0), hbase.fresh _, (e0 ▸ (o18.glue (γ := c0) (ren := (fun n => if n = 3 then 1 else 0)) (k := 1) hbase.col rfl rfl))⟩
theorem rGenus_ok (w0 : World) (g : (Int) × (List ((Int) × (Int)))) (g_v : Value) (hg_v : Ro w0 g_v g.2) (r : List (List Int)) (r_v : Value) (hr_v : Ro w0 r_v r) (hmay : MayP g) (hr : RotP g r) :
    Calls Try.prog 23 #[Value.agg (List.toArray [Value.int .i64 g.1, g_v]), r_v] w0 (fun ee w => ee = .returned (Value.int .i64 (genusS g r)) ∧ Bel w0.heap.size w0 w) := by
 refine calls_of_run Try.func23 rfl (Nat.le_of_ble_eq_true rfl) ?_
 have hbase := Base.start w0
 have r_g_v := hg_v.sl
 have r_r_v := hr_v.sl
 have hm0 := hmay
 obtain ⟨hm1, hm2, hm3, hm4⟩ := hm0
 have hrl := hr.1
 have hpb := partsR_bd g hmay
 have hfl := facesS_len (nextS g r) r
 have hnl := nextS_len g r
 refine run_seq (run_region rfl (l_op rfl ?_))
 refine o_box c0 (is 1) (1, 0) rfl rfl ?_
 intro g4 w1 b3 ch2 bx5
 replace bx5 : Bx g4 (is 1) w1 b3 [Value.int .i64 g.1, g_v] := bx5
 refine lv (Value.int .i64 0) rfl (e_assign rfl) ?_
 refine l_nil (run_seq (run_region rfl ?_))
 refine lv (Value.agg (List.toArray [Value.int .i64 g.1, g_v])) rfl (e_load_bxN (ds := [Value.int .i64 g.1, g_v]) tp24_j rfl bx5 rfl rfl) ?_
 replace r_g_v := r_g_v.chg ch2 (not_no _)
 refine l_op rfl ?_
 refine o_callx (e_call (vals := [Value.agg (List.toArray [Value.int .i64 g.1, g_v]), Value.slice none 0 0, Value.slice none 0 0]) Try.func31 bd31_j nm31_j rfl) (rParts_ok w1 g g_v (r_g_v).ro (by assumption)) ?_
 rintro ⟨d7, v9⟩ w6 ⟨fr8, o10⟩
 obtain ⟨g11, hg11⟩ : ∃ q, q = glue w1.heap.size g4 d7 (fun n => if n = 1 then 2 else 0) := ⟨_, rfl⟩
 have ch12 := chg_glue fr8.below g4 d7 (fun n => if n = 1 then 2 else 0)
 rw [← hg11] at ch12
 replace o10 := o10.glue (γ := g4) (ren := (fun n => if n = 1 then 2 else 0)) (k := 2) fr8.col rfl rfl
 rw [← hg11] at o10
 clear hg11
 refine lv (Value.tuple (List.toArray [v9, Value.int .i64 ((partsR g).2.1)])) rfl (e_move rfl) ?_
 refine lv (v9) rfl (e_extract rfl rfl) ?_
 refine lv (Value.int .i64 ((partsR g).2.1)) rfl (e_extract rfl rfl) ?_
 refine lv (v9) rfl (e_assign rfl) ?_
 refine lv (Value.int .i64 ((partsR g).2.1)) rfl (e_assign rfl) ?_
 refine l_nil (run_seq ?_)
 clear o10
 refine run_region_h g11 (inl []) mixed_j ?_
 intro w14 ch13
 refine h_take (v := Value.int .i64 ((partsR g).2.1)) 0 rfl (by kernel_rfl) (by kernel_rfl) rfl (Chg.refl _ _ _) (fun w' hw' => e_move rfl) ?_
 refine h_take (v := Value.int .i64 (2 * ((partsR g).2.1))) 1 rfl (by kernel_rfl) (by kernel_rfl) rfl (Chg.refl _ _ _) (fun w' hw' => e_mul (m := 2) (n := (partsR g).2.1) rfl rfl (by omega)) ?_
 refine h_take (v := Value.pointer (some ⟨b3, 0, none⟩)) 2 rfl (by kernel_rfl) (by kernel_rfl) rfl (Chg.refl _ _ _) (fun w' hw' => e_fieldAddr Try.underlying24 rfl rfl rfl rfl) ?_
 replace bx5 := (bx5.chg ch12 (not_no _)).chg ch13 (not_no _)
 refine h_take (v := Value.int .i64 g.1) 3 rfl (by kernel_rfl) (by kernel_rfl) rfl (Chg.refl _ _ _) (fun w' hw' => e_load_bx1 tp3_j rfl (bx5.chg hw' (is_nl rfl)) rfl) ?_
 refine h_take (v := Value.int .i64 ((2 * ((partsR g).2.1)) - g.1)) 4 rfl (by kernel_rfl) (by kernel_rfl) rfl (Chg.refl _ _ _) (fun w' hw' => e_sub (m := 2 * ((partsR g).2.1)) (n := g.1) rfl rfl (by omega)) ?_
 refine h_take (v := Value.pointer (some ⟨b3, 1, none⟩)) 5 rfl (by kernel_rfl) (by kernel_rfl) rfl (Chg.refl _ _ _) (fun w' hw' => e_fieldAddr Try.underlying24 rfl rfl rfl rfl) ?_
 refine h_take (v := g_v) 6 rfl (by kernel_rfl) (by kernel_rfl) rfl (Chg.refl _ _ _) (fun w' hw' => e_load_bx1 tp22_j rfl (bx5.chg hw' (is_nl rfl)) rfl) ?_
 replace r_g_v := (r_g_v.chg ch12 (not_no _)).chg ch13 (not_no _)
 have len15 := (r_g_v).small
 refine h_take (v := Value.int .i64 (List.length g.2 : Int)) 7 rfl (by kernel_rfl) (by kernel_rfl) rfl (Chg.refl _ _ _) (fun w' hw' => e_len Try.underlying22 rfl r_g_v) ?_
 refine h_take (v := Value.int .i64 (((2 * ((partsR g).2.1)) - g.1) + (List.length g.2 : Int))) 8 rfl (by kernel_rfl) (by kernel_rfl) rfl (Chg.refl _ _ _) (fun w' hw' => e_add (m := (2 * ((partsR g).2.1)) - g.1) (n := (List.length g.2 : Int)) rfl rfl (by omega)) ?_
 refine h_take (v := Value.agg (List.toArray [Value.int .i64 g.1, g_v])) 9 rfl (by kernel_rfl) (by kernel_rfl) rfl (Chg.refl _ _ _) (fun w' hw' => e_load_bxN (ds := [Value.int .i64 g.1, g_v]) tp24_j rfl (bx5.chg hw' (is_nl rfl)) rfl rfl) ?_
 refine h_take (v := r_v) 10 rfl (by kernel_rfl) (by kernel_rfl) rfl (Chg.refl _ _ _) (fun w' hw' => e_move rfl) ?_
 refine h_one 11 rfl (by kernel_rfl) rfl ?_
 have C16 : Chg (inl []) _ _ _ _ := (ch2.n).seq ((ch12.n).seq (ch13.n))
 replace r_r_v := r_r_v.chg C16 (is_nl rfl)
 refine o_callx (e_call (vals := [Value.agg (List.toArray [Value.int .i64 g.1, g_v]), r_v]) Try.func29 bd29_j nm29_j rfl) (rFaces_ok w14 g g_v (r_g_v).ro r r_v (r_r_v).ro (by assumption) (by assumption)) ?_
 rintro ⟨d18, v20⟩ w17 ⟨fr19, o21⟩
 obtain ⟨g22, hg22⟩ : ∃ q, q = glue w14.heap.size g11 d18 (fun n => if n = 1 then 3 else 0) := ⟨_, rfl⟩
 have ch23 := chg_glue fr19.below g11 d18 (fun n => if n = 1 then 3 else 0)
 rw [← hg22] at ch23
 replace o21 := o21.glue (γ := g11) (ren := (fun n => if n = 1 then 3 else 0)) (k := 3) fr19.col rfl rfl
 rw [← hg22] at o21
 clear hg22
 have hs24 : Chg (inl []) _ _ _ _ := ch23.n
 refine ⟨hs24.same, ?_⟩
 have len25 := (o21.sl).small
 refine h_take (v := Value.int .i64 (List.length (facesS (nextS g r) r) : Int)) 12 rfl (by kernel_rfl) (by kernel_rfl) rfl hs24.same (fun w' hw' => e_len Try.underlying25 rfl o21.sl) ?_
 refine h_take (v := Value.int .i64 ((((2 * ((partsR g).2.1)) - g.1) + (List.length g.2 : Int)) - (List.length (facesS (nextS g r) r) : Int))) 13 rfl (by kernel_rfl) (by kernel_rfl) rfl hs24.same (fun w' hw' => e_sub (m := ((2 * ((partsR g).2.1)) - g.1) + (List.length g.2 : Int)) (n := (List.length (facesS (nextS g r) r) : Int)) rfl rfl (by omega)) ?_
 refine h_take (v := Value.int .i64 (Int.tdiv ((((2 * ((partsR g).2.1)) - g.1) + (List.length g.2 : Int)) - (List.length (facesS (nextS g r) r) : Int)) 2)) 14 rfl (by kernel_rfl) (by kernel_rfl) rfl hs24.same (fun w' hw' => e_tquo (m := (((2 * ((partsR g).2.1)) - g.1) + (List.length g.2 : Int)) - (List.length (facesS (nextS g r) r) : Int)) (n := 2) rfl rfl (by omega) (by omega)) ?_
 refine h_take (v := Value.int .i64 (Int.tdiv ((((2 * ((partsR g).2.1)) - g.1) + (List.length g.2 : Int)) - (List.length (facesS (nextS g r) r) : Int)) 2)) 15 rfl (by kernel_rfl) (by kernel_rfl) rfl hs24.same (fun w' hw' => e_assign rfl) ?_
 refine h_nil (by kernel_rfl) ?_
 refine run_ret (vs := [Value.int .i64 (Int.tdiv ((((2 * ((partsR g).2.1)) - g.1) + (List.length g.2 : Int)) - (List.length (facesS (nextS g r) r) : Int)) 2)]) Try.func23 (.tmp rfl .nil) ?_
 have e0 : (Int.tdiv ((((2 * ((partsR g).2.1)) - g.1) + (List.length g.2 : Int)) - (List.length (facesS (nextS g r) r) : Int)) 2 : Int) = (genusS g r) := by
   rfl
 have C26 : Chg (inl []) _ _ _ _ := (ch2.n).seq ((ch12.n).seq ((ch13.n).seq (ch23.n)))
 replace hbase := hbase.chg C26 (is_nl rfl)
 exact ⟨(congrArg (a₁ := Int.tdiv ((((2 * ((partsR g).2.1)) - g.1) + (List.length g.2 : Int)) - (List.length (facesS (nextS g r) r) : Int)) 2) (fun (z0 : Int) => Ending.returned (Value.int .i64 z0)) e0), hbase.below⟩
theorem rFirst_ok (w0 : World) (g : (Int) × (List ((Int) × (Int)))) (g_v : Value) (hg_v : Ro w0 g_v g.2) (hmay : MayP g) :
    Calls Try.prog 58 #[Value.agg (List.toArray [Value.int .i64 g.1, g_v])] w0 (fun ee w => ∃ xx : Cmap × Value, ee = .returned ((fun ⟨δ, rv0⟩ => rv0) xx) ∧ (fun (⟨δ, rv0⟩ : Cmap × Value) (w : World) => Fresh w0 δ w ∧ Nst δ 1 w rv0 (firstS g)) xx w) := by
 refine calls_of_run Try.func58 rfl (Nat.le_of_ble_eq_true rfl) ?_
 have hbase := Base.start w0
 have r_g_v := hg_v.sl
 refine run_seq (run_region rfl (l_op rfl ?_))
 refine o_box c0 (is 1) (1, 0) rfl rfl ?_
 intro g4 w1 b3 ch2 bx5
 replace bx5 : Bx g4 (is 1) w1 b3 [Value.int .i64 g.1, g_v] := bx5
 refine lv (Value.slice none 0 0) rfl (e_assign rfl) ?_
 refine l_nil (run_seq (run_region rfl ?_))
 refine lv (Value.agg (List.toArray [Value.int .i64 g.1, g_v])) rfl (e_load_bxN (ds := [Value.int .i64 g.1, g_v]) tp24_j rfl bx5 rfl rfl) ?_
 replace r_g_v := r_g_v.chg ch2 (not_no _)
 refine l_op rfl ?_
 refine o_callx (e_call (vals := [Value.agg (List.toArray [Value.int .i64 g.1, g_v])]) Try.func79 bd79_j nm79_j rfl) (rOuts_ok w1 g g_v (r_g_v).ro (by assumption)) ?_
 rintro ⟨d7, v9⟩ w6 ⟨fr8, o10⟩
 obtain ⟨g11, hg11⟩ : ∃ q, q = glue w1.heap.size g4 d7 (fun n => if n = 1 then 2 else 0) := ⟨_, rfl⟩
 have ch12 := chg_glue fr8.below g4 d7 (fun n => if n = 1 then 2 else 0)
 rw [← hg11] at ch12
 replace o10 := o10.glue (γ := g4) (ren := (fun n => if n = 1 then 2 else 0)) (k := 2) fr8.col rfl rfl
 rw [← hg11] at o10
 clear hg11
 refine lv (v9) rfl (e_assign rfl) ?_
 refine l_nil ?_
 refine run_ret (vs := [v9]) Try.func58 (.tmp rfl .nil) ?_
 replace hbase := hbase.chg ch2 (not_no _)
 replace hbase := hbase.chg ch12 (not_no _)
 have e0 : (firstS g : List (List Int)) = (firstS g) := by
   rfl
 exact ⟨(fin w0 g11 (fun n => if n = 2 then 1 else 0), v9), (congrArg (a₁ := firstS g) (fun (z0 : List (List Int)) => Ending.returned (v9)) e0), hbase.fresh _, (e0 ▸ (o10.glue (γ := c0) (ren := (fun n => if n = 2 then 1 else 0)) (k := 1) hbase.col rfl rfl))⟩
theorem rMirror_ok (w0 : World) (r : List (List Int)) (r_v : Value) (hr_v : Ro w0 r_v r) (hb : (r.length : Int) ≤ 1048576 ∧ ∀ l_ ∈ r, l_.length ≤ 1048576) :
    Calls Try.prog 59 #[r_v] w0 (fun ee w => ∃ xx : Cmap × Value, ee = .returned ((fun ⟨δ, rv0⟩ => rv0) xx) ∧ (fun (⟨δ, rv0⟩ : Cmap × Value) (w : World) => Fresh w0 δ w ∧ Nst δ 1 w rv0 (mirrorS r)) xx w) := by
 refine calls_of_run Try.func59 rfl (Nat.le_of_ble_eq_true rfl) ?_
 have hbase := Base.start w0
 have r_r_v := hr_v.sl
 obtain ⟨hb1, hb2⟩ := hb
 refine run_seq (run_region rfl ?_)
 refine lv (Value.slice none 0 0) rfl (e_assign rfl) ?_
 refine l_nil (run_seq (run_region rfl ?_))
 refine lv (r_v) rfl (e_move rfl) ?_
 have len1 := (r_r_v).small
 refine lv (Value.int .i64 (List.length r : Int)) rfl (e_len Try.underlying26 rfl r_r_v) ?_
 refine l_op rfl ?_
 refine o_make_nst (α := Int) (n := (List.length r : Int)) (cp := (List.length r : Int)) c0 1 Try.underlying26 tp27_j rfl rfl rfl (by omega) (by omega) (by omega) (by omega) ?_
 intro g2 w3 v4 ch5 o6
 refine lv (v4) rfl (e_assign rfl) ?_
 refine l_nil (run_seq (run_seq (run_region rfl ?_)))
 refine lv (Value.int .i64 0) rfl (e_assign rfl) ?_
 refine l_nil ?_
 refine run_block ?_
 refine run_loop (σ := Nat × (List (List Int)) × Cmap) (fun ⟨v, O, gq⟩ f w => Base w0 gq w ∧ f 0 = r_v ∧ f 3 = v4 ∧ f 4 = Value.int .i64 (v : Int) ∧ Sl gq (is 0) w r_v r ∧ Nst gq 1 w v4 O ∧ (v : Int) ≤ ((List.length r : Int) : Int) ∧ (MirOut O r v)) (fun ⟨v, O, gq⟩ => Int.toNat (((List.length r : Int) : Int) - (v : Int))) (0, (List.replicate (Int.toNat (List.length r : Int)) []), g2) ?_ ?_
 replace hbase := hbase.chg ch5 (not_no _)
 replace r_r_v := r_r_v.chg ch5 (not_no _)
 · exact ⟨hbase, rfl, rfl, rfl, r_r_v, o6, by omega, by exact MirOut.start r⟩
 clear r_r_v o6 hbase
 rintro ⟨v, O, g9⟩ f7 w8 ⟨hbase, zs0, zs3, zs4, r_r_v, o6, hle_v, hinv⟩ back3
 have hol := hinv.1
 refine run_seq (run_seq (run_region rfl ?_))
 refine lv (Value.int .i64 (v : Int)) rfl (e_move (by exact zs4)) ?_
 refine lv (r_v) rfl (e_move (by exact zs0)) ?_
 refine lv (Value.int .i64 (List.length r : Int)) rfl (e_len Try.underlying26 rfl r_r_v) ?_
 refine lv (Value.bool (decide ((v : Int) < (List.length r : Int)))) rfl (e_lss (m := (v : Int)) (n := (List.length r : Int)) rfl rfl) ?_
 refine l_nil ?_
 by_cases p3 : (v : Int) < (List.length r : Int)
 ·
  refine run_cond_t rfl (decide_eq_true p3) ?_
  have hrw := hb2 _ (gI_mem (xs := r) (i := (v : Int)) (by omega) (by assumption))
  refine run_skip ?_
  refine run_seq ?_
  refine run_block ?_
  refine run_seq (run_region rfl ?_)
  refine lv (r_v) rfl (e_move (by exact zs0)) ?_
  refine lv (Value.int .i64 (v : Int)) rfl (e_move (by exact zs4)) ?_
  refine lv (Value.pointer (some (eAddr r_v 1 (Int.toNat (v : Int))))) rfl (e_indexAddr (α := List Int) (xs := r) (v := r_v) (i := (v : Int)) Try.underlying26 rfl rfl r_r_v rfl (by omega) (by omega)) ?_
  obtain ⟨v10, cel11, r12⟩ := sl_row (r := (v : Int)) r_r_v (by omega) (by omega)
  refine lv (v10) rfl (e_load1 tp27_j rfl cel11) ?_
  have len13 := (r12).small
  refine lv (Value.int .i64 (List.length (gI r (v : Int)) : Int)) rfl (e_len Try.underlying27 rfl r12) ?_
  refine lv (Value.int .i64 ((List.length (gI r (v : Int)) : Int) - 1)) rfl (e_sub (m := (List.length (gI r (v : Int)) : Int)) (n := 1) rfl rfl (by omega)) ?_
  refine lv (Value.int .i64 ((List.length (gI r (v : Int)) : Int) - 1)) rfl (e_assign rfl) ?_
  refine l_nil ?_
  refine run_block ?_
  clear r12
  refine run_loop (σ := Int × (List (List Int)) × Cmap) (fun ⟨k, Q, gq⟩ f w => Base w0 gq w ∧ f 0 = r_v ∧ f 3 = v4 ∧ f 4 = Value.int .i64 (v : Int) ∧ f 5 = Value.int .i64 k ∧ Sl gq (is 0) w r_v r ∧ Nst gq 1 w v4 Q ∧ (MirInv Q r v k ∧ -1 ≤ k ∧ k < (gI r (v : Int)).length)) (fun ⟨k, Q, gq⟩ => Int.toNat (k + 1)) ((List.length (gI r (v : Int)) : Int) - 1, O, g9) ?_ ?_
  · exact ⟨hbase, (by exact zs0), (by exact zs3), (by exact zs4), rfl, r_r_v, o6, by exact ⟨hinv.row (by assumption) rfl, by omega, by omega⟩⟩
  clear r_r_v o6 hbase
  rintro ⟨k, Q, g16⟩ f14 w15 ⟨hbase, zs0, zs3, zs4, zs5, r_r_v, o6, hin0⟩ back6
  obtain ⟨hin, hk1, hk2⟩ := hin0
  have hql := hin.1
  have hbd := hin.bd
  refine run_seq (run_seq (run_region rfl ?_))
  refine lv (Value.int .i64 k) rfl (e_move (by exact zs5)) ?_
  refine lv (Value.bool (decide (0 ≤ k))) rfl (e_geq (m := k) (n := 0) rfl rfl) ?_
  refine l_nil ?_
  by_cases p6 : 0 ≤ k
  ·
   refine run_cond_t rfl (decide_eq_true p6) ?_
   refine run_skip ?_
   refine run_seq ?_
   refine run_block ?_
   refine run_region_x g16 [0, 1, 2, 3, 4, 5, 6, 7, 8, 9, 10, 11, 12, 15] mixed_j ?_
   intro w18 ch17
   refine x_pure (v := v4) 0 rfl (by kernel_rfl) (by kernel_rfl) rfl (fun w => e_move (by exact zs3)) ?_
   refine x_pure (v := Value.int .i64 (v : Int)) 1 rfl (by kernel_rfl) (by kernel_rfl) rfl (fun w => e_move (by exact zs4)) ?_
   refine x_pure (v := v4) 2 rfl (by kernel_rfl) (by kernel_rfl) rfl (fun w => e_move (by exact zs3)) ?_
   refine x_pure (v := Value.int .i64 (v : Int)) 3 rfl (by kernel_rfl) (by kernel_rfl) rfl (fun w => e_move (by exact zs4)) ?_
   replace o6 := o6.chg ch17 (not_no _)
   refine x_held (v := Value.pointer (some (eAddr v4 1 (Int.toNat (v : Int))))) 4 [3, 2, 1, 0, 6, 7, 10, 8, 9, 11, 12, 13] rfl (by kernel_rfl) (by kernel_rfl) rfl (fun w' hw' => e_indexAddr (α := List Int) (xs := Q) (v := v4) (i := (v : Int)) Try.underlying26 rfl rfl (o6.sl.bel hw') rfl (by omega) (by omega)) ?_
   obtain ⟨v19, cel20, r21⟩ := nst_row (r := (v : Int)) o6 (by omega) (by omega)
   refine x_held (v := v19) 5 [4, 3, 2, 1, 0, 6, 7, 10, 8, 9, 11, 12, 13] rfl (by kernel_rfl) (by kernel_rfl) rfl (fun w' hw' => e_load1 tp27_j rfl (cel_bel cel20 hw')) ?_
   refine x_pure (v := r_v) 6 rfl (by kernel_rfl) (by kernel_rfl) rfl (fun w => e_move (by exact zs0)) ?_
   refine x_pure (v := Value.int .i64 (v : Int)) 7 rfl (by kernel_rfl) (by kernel_rfl) rfl (fun w => e_move (by exact zs4)) ?_
   replace r_r_v := r_r_v.chg ch17 (not_no _)
   refine x_val (v := Value.pointer (some (eAddr r_v 1 (Int.toNat (v : Int))))) 8 [7, 6, 5, 4, 3, 2, 1, 0, 10] rfl (by kernel_rfl) (by kernel_rfl) rfl (e_indexAddr (α := List Int) (xs := r) (v := r_v) (i := (v : Int)) Try.underlying26 rfl rfl r_r_v rfl (by omega) (by omega)) ?_
   obtain ⟨v22, cel23, r24⟩ := sl_row (r := (v : Int)) r_r_v (by omega) (by omega)
   refine x_val (v := v22) 9 [8, 7, 6, 5, 4, 3, 2, 1, 0, 10] rfl (by kernel_rfl) (by kernel_rfl) rfl (e_load1 tp27_j rfl cel23) ?_
   refine x_pure (v := Value.int .i64 k) 10 rfl (by kernel_rfl) (by kernel_rfl) rfl (fun w => e_move (by exact zs5)) ?_
   refine x_val (v := Value.pointer (some (eAddr v22 1 (Int.toNat k)))) 11 [10, 9, 8, 7, 6, 5, 4, 3, 2, 1, 0] rfl (by kernel_rfl) (by kernel_rfl) rfl (e_indexAddr (α := Int) (xs := gI r (v : Int)) (v := v22) (i := k) Try.underlying27 rfl rfl r24 rfl (by omega) (by omega)) ?_
   refine x_val (v := Value.int .i64 (gI (gI r (v : Int)) k)) 12 [11, 10, 9, 8, 7, 6, 5, 4, 3, 2, 1, 0] rfl (by kernel_rfl) (by kernel_rfl) rfl (e_load_el1 (α := Int) (xs := gI r (v : Int)) (v := v22) (i := k) tp3_j rfl r24 (by omega) (by omega) (by decide) rfl) ?_
   refine x_one 13 rfl (by kernel_rfl) rfl ?_
   refine o_buildSlice (α := Int) g16 (is 2) (is 2) (2, 0) rfl [(gI (gI r (v : Int)) k)] Try.underlying27 tp3_j (by decide) (by decide) (vs := [(0, Value.int .i64 (gI (gI r (v : Int)) k))]) rfl rfl (.cons rfl .nil) ?_
   intro g25 w26 v27 ch28 o29
   refine x_one 14 rfl (by kernel_rfl) rfl ?_
   replace o6 := o6.chg ch28 (not_no _)
   replace r21 := r21.chg ch28 (not_no _) (not_no _)
   refine o_append (α := Int) (xs := (gI Q (v : Int))) (ys := ([(gI (gI r (v : Int)) k)])) g25 (J := row 1 (Int.toNat (v : Int) + 1)) (S := row 1 (Int.toNat (v : Int) + 1)) (1, Int.toNat (v : Int) + 1) rfl Try.underlying27 tp3_j (by decide) rfl rfl rfl r21 o29.flat (by decide) (by first | omega | (simp; done) | (simp; omega)) ?_
   intro g30 w31 v32 ch33 o34
   have o35 := o6.rowchg ch33
   clear o6 cel20 r21
   obtain ⟨us36, hl37, r38⟩ := o35.vc
   try simp only [List.length_set, List.length_append, List.length_cons, List.length_nil] at hl37
   refine x_val (v := Value.pointer (some (eAddr v4 1 (Int.toNat (v : Int))))) 15 [14, 13, 12, 11, 10, 9, 8, 7, 6, 5, 4, 3, 2, 1, 0] rfl (by kernel_rfl) (by kernel_rfl) rfl (e_indexAddr (α := Vc) (xs := us36) (v := v4) (i := (v : Int)) Try.underlying26 rfl rfl r38 rfl (by omega) (by omega)) ?_
   refine x_one 16 rfl (by kernel_rfl) rfl ?_
   refine o_store_row (r := (v : Int)) tp27_j rfl rfl o35 o34 (by omega) (by omega) ?_
   intro w42 ch43 o44
   clear o35 o34
   refine x_nil (by kernel_rfl) ?_
   refine run_inBlock ?_
   clear r24 o29
   refine run_region rfl ?_
   refine lv (Value.int .i64 k) rfl (e_move (by exact zs5)) ?_
   refine lv (Value.int .i64 (k - 1)) rfl (e_sub (m := k) (n := 1) rfl rfl (by omega)) ?_
   refine lv (Value.int .i64 (k - 1)) rfl (e_assign rfl) ?_
   refine l_nil ?_
   have C45 : Chg (inl [1]) _ _ _ _ := (ch17.n).seq ((ch28.n).seq ((ch33.lr rfl).seq (ch43.l rfl)))
   replace hbase := hbase.chg C45 (is_nl rfl)
   have C46 : Chg (inl [1]) _ _ _ _ := (ch28.n).seq ((ch33.lr rfl).seq (ch43.l rfl))
   replace r_r_v := r_r_v.chg C46 (is_nl rfl)
   refine back6 (k - 1, (List.set Q (Int.toNat (v : Int)) (gI Q (v : Int) ++ [(gI (gI r (v : Int)) k)])), g30) _ _ ⟨hbase, (by exact zs0), (by exact zs3), (by exact zs4), rfl, r_r_v, o44, ?_⟩ ?_
   · show MirInv (List.set Q (Int.toNat (v : Int)) (gI Q (v : Int) ++ [(gI (gI r (v : Int)) k)])) r v (k - 1) ∧ -1 ≤ (k - 1) ∧ (k - 1) < (gI r (v : Int)).length
     exact ⟨hin.next (by assumption) (by omega) (by omega), by omega, by omega⟩
   · show Int.toNat ((k - 1) + 1) < Int.toNat (k + 1)
     omega
  refine run_cond_f rfl (decide_eq_false p6) ?_
  refine run_exit rfl ?_
  refine run_inBlock ?_
  refine run_region rfl ?_
  refine lv (Value.int .i64 (v : Int)) rfl (e_move (by exact zs4)) ?_
  refine lv (Value.int .i64 ((v : Int) + 1)) rfl (e_add (m := (v : Int)) (n := 1) rfl rfl (by omega)) ?_
  refine lv (Value.int .i64 ((v : Int) + 1)) rfl (e_assign rfl) ?_
  refine l_nil ?_
  refine back3 (v + 1, Q, g16) _ _ ⟨hbase, (by exact zs0), (by exact zs3), rfl, r_r_v, o6, by omega, ?_⟩ ?_
  · show MirOut Q r (v + 1)
    exact hin.done (by omega) (by omega)
  · show Int.toNat (((List.length r : Int) : Int) - ((v + 1) : Int)) < Int.toNat (((List.length r : Int) : Int) - (v : Int))
    omega
 refine run_cond_f rfl (decide_eq_false p3) ?_
 refine run_exit rfl ?_
 refine run_seq (run_region rfl ?_)
 refine lv (v4) rfl (e_move (by exact zs3)) ?_
 refine l_op rfl ?_
 refine o_callx (e_call (vals := [v4]) Try.func60 bd60_j nm60_j rfl) (rCanon_ok w8 O v4 (o6.sl).ro) ?_
 rintro ⟨d48, v50⟩ w47 ⟨fr49, o51⟩
 obtain ⟨g52, hg52⟩ : ∃ q, q = glue w8.heap.size g9 d48 (fun n => if n = 1 then 3 else 0) := ⟨_, rfl⟩
 have ch53 := chg_glue fr49.below g9 d48 (fun n => if n = 1 then 3 else 0)
 rw [← hg52] at ch53
 replace o51 := o51.glue (γ := g9) (ren := (fun n => if n = 1 then 3 else 0)) (k := 3) fr49.col rfl rfl
 rw [← hg52] at o51
 clear hg52
 refine lv (v50) rfl (e_assign rfl) ?_
 refine l_nil ?_
 refine run_ret (vs := [v50]) Try.func59 (.tmp rfl .nil) ?_
 replace hbase := hbase.chg ch53 (not_no _)
 have e0 : (canonS O : List (List Int)) = (mirrorS r) := by
   rw [hinv.done (by assumption)]; rfl
 exact ⟨(fin w0 g52 (fun n => if n = 3 then 1 else 0), v50), (congrArg (a₁ := canonS O) (fun (z0 : List (List Int)) => Ending.returned (v50)) e0), hbase.fresh _, (e0 ▸ (o51.glue (γ := c0) (ren := (fun n => if n = 3 then 1 else 0)) (k := 1) hbase.col rfl rfl))⟩
end TL
