import Derived.Test.YtilohhkbelkmdaaTlGenA
import Derived.Test.YtilohhkbelkmdaaTlGenQ
import Derived.Test.YtilohhkbelkmdaaTlP2
import Derived.Test.YtilohhkbelkmdaaProg
set_option linter.all false
set_option maxRecDepth 20000
namespace TL
open Go Go.Proofs
theorem mixed_x : Try.prog.follows .mixedOrders = true := by kernel_rfl
theorem tp3_x : Tp Try.prog 3 false 1 8 (.int .i64 0) := Tp.of (by kernel_rfl)
theorem tp4_x : Tp Try.prog 4 false 1 1 (.bool false) := Tp.of (by kernel_rfl)
theorem tp22_x : Tp Try.prog 22 false 1 24 (.slice none 0 0) := Tp.of (by kernel_rfl)
theorem tp24_x : Tp Try.prog 24 true 2 32 (.agg #[.int .i64 0, .slice none 0 0]) := Tp.of (by kernel_rfl)
theorem tp27_x : Tp Try.prog 27 false 1 24 (.slice none 0 0) := Tp.of (by kernel_rfl)
theorem bd35_x : Try.f35.body.isNone = false := rfl
theorem nm35_x : (Try.f35.name == "runtime.NumGoroutine") = false := by decide +kernel
theorem bd46_x : Try.f46.body.isNone = false := rfl
theorem nm46_x : (Try.f46.name == "runtime.NumGoroutine") = false := by decide +kernel
theorem bd51_x : Try.f51.body.isNone = false := rfl
theorem nm51_x : (Try.f51.name == "runtime.NumGoroutine") = false := by decide +kernel
theorem bd52_x : Try.f52.body.isNone = false := rfl
theorem nm52_x : (Try.f52.name == "runtime.NumGoroutine") = false := by decide +kernel
theorem bd53_x : Try.f53.body.isNone = false := rfl
theorem nm53_x : (Try.f53.name == "runtime.NumGoroutine") = false := by decide +kernel
theorem bd71_x : Try.f71.body.isNone = false := rfl
theorem nm71_x : (Try.f71.name == "runtime.NumGoroutine") = false := by decide +kernel
theorem bd90_x : Try.f90.body.isNone = false := rfl
theorem nm90_x : (Try.f90.name == "runtime.NumGoroutine") = false := by decide +kernel
theorem bd102_x : Try.f102.body.isNone = false := rfl
theorem nm102_x : (Try.f102.name == "runtime.NumGoroutine") = false := by decide +kernel
theorem RMay_ok (w0 : World) (g : (Int) × (List ((Int) × (Int)))) (g_v : Value) (hg_v : Ro w0 g_v g.2) (r : List (List Int)) (r_v : Value) (hr_v : Ro w0 r_v r) :
    Calls Try.prog 15 #[Value.agg (List.toArray [Value.int .i64 g.1, g_v]), r_v] w0 (fun ee w => ee = .returned (Value.int .i64 (rmayR g r)) ∧ Bel w0.heap.size w0 w) := by
 refine calls_of_run Try.func15 rfl (Nat.le_of_ble_eq_true rfl) ?_
 have hbase := Base.start w0
 have r_g_v := hg_v.sl
 have r_r_v := hr_v.sl
 refine run_seq (run_region rfl (l_op rfl ?_))
 refine o_box c0 (is 1) (1, 0) rfl rfl ?_
 intro g4 w1 b3 ch2 bx5
 replace bx5 : Bx g4 (is 1) w1 b3 [Value.int .i64 g.1, g_v] := bx5
 refine lv (Value.int .i64 0) rfl (e_assign rfl) ?_
 refine l_nil (run_seq (run_seq (run_region rfl ?_)))
 refine lv (Value.agg (List.toArray [Value.int .i64 g.1, g_v])) rfl (e_load_bxN (ds := [Value.int .i64 g.1, g_v]) tp24_x rfl bx5 rfl rfl) ?_
 replace r_g_v := r_g_v.chg ch2 (not_no _)
 refine l_op rfl ?_
 refine o_call (v := Value.bool (mayB g)) (e_call (vals := [Value.agg (List.toArray [Value.int .i64 g.1, g_v])]) Try.func53 bd53_x nm53_x rfl) (May_ok w1 g g_v (r_g_v).ro) ?_
 intro w6 hb7
 replace hb7 := chg_below hb7 g4
 refine lv (Value.bool (!(mayB g))) rfl (e_not (b := (mayB g)) rfl) ?_
 refine l_nil ?_
 by_cases p1 : (mayB g) = true
 ·
  have hm := of_decide_eq_true p1
  have hm0 := hm
  obtain ⟨hm1, hm2, hm3, hm4⟩ := hm0
  refine run_cond_f rfl (congrArg Bool.not p1) ?_
  refine run_skip ?_
  refine run_seq (run_seq (run_region rfl ?_))
  refine lv (r_v) rfl (e_move rfl) ?_
  replace r_r_v := (r_r_v.chg ch2 (not_no _)).chg hb7 (not_no _)
  have len8 := (r_r_v).small
  refine lv (Value.int .i64 (List.length r : Int)) rfl (e_len Try.underlying26 rfl r_r_v) ?_
  refine lv (Value.pointer (some ⟨b3, 0, none⟩)) rfl (e_fieldAddr Try.underlying24 rfl rfl rfl rfl) ?_
  replace bx5 := bx5.chg hb7 (not_no _)
  refine lv (Value.int .i64 g.1) rfl (e_load_bx1 tp3_x rfl bx5 rfl) ?_
  refine lv (Value.bool (!(decide ((List.length r : Int) = g.1)))) rfl (e_neq (m := (List.length r : Int)) (n := g.1) rfl rfl) ?_
  refine l_nil ?_
  by_cases p3 : (List.length r : Int) = g.1
  ·
   refine run_cond_f rfl (congrArg Bool.not (decide_eq_true p3)) ?_
   refine run_skip ?_
   refine run_seq (run_region rfl ?_)
   refine lv (Value.pointer (some ⟨b3, 1, none⟩)) rfl (e_fieldAddr Try.underlying24 rfl rfl rfl rfl) ?_
   refine lv (g_v) rfl (e_load_bx1 tp22_x rfl bx5 rfl) ?_
   replace r_g_v := r_g_v.chg hb7 (not_no _)
   have len9 := (r_g_v).small
   refine lv (Value.int .i64 (List.length g.2 : Int)) rfl (e_len Try.underlying22 rfl r_g_v) ?_
   refine lv (Value.int .i64 (2 * (List.length g.2 : Int))) rfl (e_mul (m := 2) (n := (List.length g.2 : Int)) rfl rfl (by omega)) ?_
   refine l_op rfl ?_
   refine o_make (α := Bool) (l := 2 * (List.length g.2 : Int)) (cp := 2 * (List.length g.2 : Int)) g4 (is 2) (is 2) (2, 0) rfl false Try.underlying75 tp4_x rfl rfl rfl (by omega) (by omega) (by omega) (by omega) ?_
   intro g10 w11 v12 ch13 o14 _
   refine lv (v12) rfl (e_assign rfl) ?_
   refine l_nil (run_seq (run_region rfl ?_))
   refine lv (Value.int .i64 0) rfl (e_assign rfl) ?_
   refine l_nil (run_seq (run_seq (run_region rfl ?_)))
   refine lv (r_v) rfl (e_move rfl) ?_
   replace r_r_v := r_r_v.chg ch13 (not_no _)
   refine lv (Value.int .i64 (List.length r : Int)) rfl (e_len Try.underlying26 rfl r_r_v) ?_
   refine lv (Value.int .i64 0) rfl (e_move rfl) ?_
   refine l_nil ?_
   refine run_block ?_
   refine run_loop (σ := Int × Nat × (List Bool) × Cmap) (fun ⟨n, k, seen, gq⟩ f w => Base w0 gq w ∧ f 2 = Value.pointer (some ⟨b3, 0, none⟩) ∧ f 5 = v12 ∧ f 6 = Value.int .i64 n ∧ f 24 = r_v ∧ f 25 = Value.int .i64 (List.length r : Int) ∧ f 26 = Value.int .i64 (k : Int) ∧ Sl gq (is 0) w g_v g.2 ∧ Sl gq (is 0) w r_v r ∧ Bx gq (is 1) w b3 [Value.int .i64 g.1, g_v] ∧ Ow gq (is 2) (is 2) w v12 seen ∧ (k : Int) ≤ ((List.length r : Int) : Int) ∧ (MayInv seen n g r k 0)) (fun ⟨n, k, seen, gq⟩ => Int.toNat (((List.length r : Int) : Int) - (k : Int))) (0, 0, (List.replicate (Int.toNat (2 * (List.length g.2 : Int))) false), g10) ?_ ?_
   have C15 : Chg (inl []) _ _ _ _ := (ch2.n).seq ((hb7.n).seq (ch13.n))
   replace hbase := hbase.chg C15 (is_nl rfl)
   replace r_g_v := r_g_v.chg ch13 (not_no _)
   replace bx5 := bx5.chg ch13 (not_no _)
   · exact ⟨hbase, rfl, rfl, rfl, rfl, rfl, rfl, r_g_v, r_r_v, bx5, o14, by omega, by exact MayInv.start g r⟩
   clear r_g_v r_r_v bx5 o14 hbase
   rintro ⟨n, k, seen, g18⟩ f16 w17 ⟨hbase, zs2, zs5, zs6, zs24, zs25, zs26, r_g_v, r_r_v, bx5, o14, hle_k, hinv⟩ back8
   have hsl := hinv.rm.len
   have hbd := hinv.bd
   refine run_seq (run_region rfl ?_)
   refine lv (Value.bool (decide ((k : Int) < (List.length r : Int)))) rfl (e_lss (m := (k : Int)) (n := (List.length r : Int)) (by exact zs26) (by exact zs25)) ?_
   refine l_nil (run_seq ?_)
   by_cases p8 : (k : Int) < (List.length r : Int)
   ·
    refine run_cond_t rfl (decide_eq_true p8) ?_
    refine run_skip ?_
    refine run_seq ?_
    refine run_block ?_
    refine run_seq (run_region rfl ?_)
    refine lv (Value.int .i64 (k : Int)) rfl (e_move (by exact zs26)) ?_
    refine lv (Value.pointer (some (eAddr r_v 1 (Int.toNat (k : Int))))) rfl (e_indexAddr (α := List Int) (xs := r) (v := r_v) (i := (k : Int)) Try.underlying26 rfl (by exact zs24) r_r_v (by exact zs26) (by omega) (by omega)) ?_
    obtain ⟨v19, cel20, r21⟩ := sl_row (r := (k : Int)) r_r_v (by omega) (by omega)
    refine lv (v19) rfl (e_load1 tp27_x rfl cel20) ?_
    refine lv (Value.int .i64 (k : Int)) rfl (e_assign rfl) ?_
    refine lv (v19) rfl (e_assign rfl) ?_
    refine l_nil (run_seq (run_region rfl ?_))
    refine lv (v19) rfl (e_move rfl) ?_
    have len22 := (r21).small
    refine lv (Value.int .i64 (List.length (gI r (k : Int)) : Int)) rfl (e_len Try.underlying27 rfl r21) ?_
    refine lv (Value.int .i64 0) rfl (e_move rfl) ?_
    refine l_nil ?_
    refine run_block ?_
    refine run_loop (σ := Int × Nat × (List Bool) × Cmap) (fun ⟨n, i, seen, gq⟩ f w => Base w0 gq w ∧ f 2 = Value.pointer (some ⟨b3, 0, none⟩) ∧ f 5 = v12 ∧ f 6 = Value.int .i64 n ∧ f 7 = Value.int .i64 (k : Int) ∧ f 24 = r_v ∧ f 25 = Value.int .i64 (List.length r : Int) ∧ f 26 = Value.int .i64 (k : Int) ∧ f 31 = v19 ∧ f 32 = Value.int .i64 (List.length (gI r (k : Int)) : Int) ∧ f 33 = Value.int .i64 (i : Int) ∧ Sl gq (is 0) w g_v g.2 ∧ Sl gq (is 0) w r_v r ∧ Bx gq (is 1) w b3 [Value.int .i64 g.1, g_v] ∧ Ow gq (is 2) (is 2) w v12 seen ∧ Sl gq (is 0) w v19 (gI r (k : Int)) ∧ (i : Int) ≤ ((List.length (gI r (k : Int)) : Int) : Int) ∧ (MayInv seen n g r k i)) (fun ⟨n, i, seen, gq⟩ => Int.toNat (((List.length (gI r (k : Int)) : Int) : Int) - (i : Int))) (n, 0, seen, g18) ?_ ?_
    · exact ⟨hbase, (by exact zs2), (by exact zs5), (by exact zs6), rfl, (by exact zs24), (by exact zs25), (by exact zs26), rfl, rfl, rfl, r_g_v, r_r_v, bx5, o14, r21, by omega, by exact hinv⟩
    clear r_g_v r_r_v bx5 o14 r21 hbase
    rintro ⟨n, i, seen, g25⟩ f23 w24 ⟨hbase, zs2, zs5, zs6, zs7, zs24, zs25, zs26, zs31, zs32, zs33, r_g_v, r_r_v, bx5, o14, r21, hle_i, hin⟩ back11
    have hsl := hin.rm.len
    have hbd := hin.bd
    refine run_seq (run_region rfl ?_)
    refine lv (Value.bool (decide ((i : Int) < (List.length (gI r (k : Int)) : Int)))) rfl (e_lss (m := (i : Int)) (n := (List.length (gI r (k : Int)) : Int)) (by exact zs33) (by exact zs32)) ?_
    refine l_nil (run_seq ?_)
    by_cases p11 : (i : Int) < (List.length (gI r (k : Int)) : Int)
    ·
     refine run_cond_t rfl (decide_eq_true p11) ?_
     refine run_skip ?_
     refine run_seq ?_
     refine run_block ?_
     refine run_seq (run_region rfl ?_)
     refine lv (Value.pointer (some (eAddr v19 1 (Int.toNat (i : Int))))) rfl (e_indexAddr (α := Int) (xs := gI r (k : Int)) (v := v19) (i := (i : Int)) Try.underlying27 rfl (by exact zs31) r21 (by exact zs33) (by omega) (by omega)) ?_
     refine lv (Value.int .i64 (gI (gI r (k : Int)) (i : Int))) rfl (e_load_el1 (α := Int) (xs := gI r (k : Int)) (v := v19) (i := (i : Int)) tp3_x rfl r21 (by omega) (by omega) (by decide) rfl) ?_
     refine lv (Value.int .i64 (gI (gI r (k : Int)) (i : Int))) rfl (e_assign rfl) ?_
     refine l_nil (run_seq (run_seq (run_region rfl ?_)))
     refine lv (Value.int .i64 (gI (gI r (k : Int)) (i : Int))) rfl (e_move rfl) ?_
     refine lv (Value.bool (decide ((gI (gI r (k : Int)) (i : Int)) < 0))) rfl (e_lss (m := (gI (gI r (k : Int)) (i : Int))) (n := 0) rfl rfl) ?_
     refine lv (Value.bool (decide ((gI (gI r (k : Int)) (i : Int)) < 0))) rfl (e_move rfl) ?_
     by_cases q39 : (gI (gI r (k : Int)) (i : Int)) < 0
     ·
      refine l_skip (want_n rfl rfl rfl (decide_eq_true q39)) ?_
      refine l_skip (want_n rfl rfl rfl (decide_eq_true q39)) ?_
      refine l_skip (want_n rfl rfl rfl (decide_eq_true q39)) ?_
      refine l_skip (want_n rfl rfl rfl (decide_eq_true q39)) ?_
      refine lv (Value.bool true) rfl (e_pick_t rfl (decide_eq_true q39) rfl) ?_
      refine lv (Value.bool true) rfl (e_move rfl) ?_
      refine l_skip (want_n rfl rfl rfl rfl) (l_skip (want_n rfl rfl rfl rfl) (l_skip (want_n rfl rfl rfl rfl) (l_skip (want_n rfl rfl rfl rfl) ?_)))
      refine lv (Value.bool true) rfl (e_pick_t rfl rfl rfl) ?_
      refine lv (Value.bool true) rfl (e_move rfl) ?_
      refine l_skip (want_n rfl rfl rfl rfl) (l_skip (want_n rfl rfl rfl rfl) (l_skip (want_n rfl rfl rfl rfl) (l_skip (want_n rfl rfl rfl rfl) (l_skip (want_n rfl rfl rfl rfl) (l_skip (want_n rfl rfl rfl rfl) (l_skip (want_n rfl rfl rfl rfl) (l_skip (want_n rfl rfl rfl rfl) (l_skip (want_n rfl rfl rfl rfl) (l_skip (want_n rfl rfl rfl rfl) (l_skip (want_n rfl rfl rfl rfl) ?_))))))))))
      refine lv (Value.bool true) rfl (e_pick_t rfl rfl rfl) ?_
      refine l_nil ?_
      refine run_cond_t rfl rfl ?_
      refine run_seq ?_
      clear bx5 o14 r21
      refine run_region rfl ?_
      refine lv (Value.int .i64 4) rfl (e_assign rfl) ?_
      refine l_nil ?_
      refine run_ret (vs := [Value.int .i64 4]) Try.func15 (.tmp rfl .nil) ?_
      have e0 : (4 : Int) = (rmayR g r) := by
        first
          | (have hn : ¬ MayP g := fun h => p1 (decide_eq_true h)
             unfold rmayR; rw [if_neg hn]; done)
          | exact (rmay_no hm (fun h => by have := h.1; omega)).symm
          | exact (rmay_no hm (hin.bad (by omega) (by assumption) (by rintro ⟨⟨h1, h2⟩, h3⟩; omega))).symm
          | exact (rmay_no hm (hin.bad (by omega) (by assumption) (by rintro ⟨⟨h1, h2⟩, h3⟩; exact absurd h3 (by assumption)))).symm
          | exact (rmay_no hm (hin.twice (by omega) (by assumption) (by omega) (by omega) (by assumption))).symm
          | exact (rmay_yes hm ((hinv.fin (by omega) (by omega) rfl).2 (by omega))).symm
          | exact (rmay_no hm (fun h => by have := (hinv.fin (by omega) (by omega) rfl).1 h; omega)).symm
      exact ⟨(congrArg (a₁ := 4) (fun (z0 : Int) => Ending.returned (Value.int .i64 z0)) e0), hbase.below⟩
     refine lv (Value.int .i64 (gI (gI r (k : Int)) (i : Int))) (want_y rfl rfl rfl (decide_eq_false q39)) (e_move rfl) ?_
     refine lv (v12) (want_y rfl rfl rfl (decide_eq_false q39)) (e_move (by exact zs5)) ?_
     have len26 := (o14.flat).small
     refine lv (Value.int .i64 (List.length seen : Int)) (want_y rfl rfl rfl (decide_eq_false q39)) (e_len Try.underlying75 rfl o14.flat) ?_
     refine lv (Value.bool (decide ((List.length seen : Int) ≤ (gI (gI r (k : Int)) (i : Int))))) (want_y rfl rfl rfl (decide_eq_false q39)) (e_geq (m := (gI (gI r (k : Int)) (i : Int))) (n := (List.length seen : Int)) rfl rfl) ?_
     refine lv (Value.bool (decide ((List.length seen : Int) ≤ (gI (gI r (k : Int)) (i : Int))))) rfl (e_pick_f rfl (decide_eq_false q39) rfl) ?_
     refine lv (Value.bool (decide ((List.length seen : Int) ≤ (gI (gI r (k : Int)) (i : Int))))) rfl (e_move rfl) ?_
     by_cases q45 : (List.length seen : Int) ≤ (gI (gI r (k : Int)) (i : Int))
     ·
      refine l_skip (want_n rfl rfl rfl (decide_eq_true q45)) ?_
      refine l_skip (want_n rfl rfl rfl (decide_eq_true q45)) ?_
      refine l_skip (want_n rfl rfl rfl (decide_eq_true q45)) ?_
      refine l_skip (want_n rfl rfl rfl (decide_eq_true q45)) ?_
      refine lv (Value.bool true) rfl (e_pick_t rfl (decide_eq_true q45) rfl) ?_
      refine lv (Value.bool true) rfl (e_move rfl) ?_
      refine l_skip (want_n rfl rfl rfl rfl) (l_skip (want_n rfl rfl rfl rfl) (l_skip (want_n rfl rfl rfl rfl) (l_skip (want_n rfl rfl rfl rfl) (l_skip (want_n rfl rfl rfl rfl) (l_skip (want_n rfl rfl rfl rfl) (l_skip (want_n rfl rfl rfl rfl) (l_skip (want_n rfl rfl rfl rfl) (l_skip (want_n rfl rfl rfl rfl) (l_skip (want_n rfl rfl rfl rfl) (l_skip (want_n rfl rfl rfl rfl) ?_))))))))))
      refine lv (Value.bool true) rfl (e_pick_t rfl rfl rfl) ?_
      refine l_nil ?_
      refine run_cond_t rfl rfl ?_
      refine run_seq ?_
      clear bx5 o14 r21
      refine run_region rfl ?_
      refine lv (Value.int .i64 4) rfl (e_assign rfl) ?_
      refine l_nil ?_
      refine run_ret (vs := [Value.int .i64 4]) Try.func15 (.tmp rfl .nil) ?_
      have e0 : (4 : Int) = (rmayR g r) := by
        first
          | (have hn : ¬ MayP g := fun h => p1 (decide_eq_true h)
             unfold rmayR; rw [if_neg hn]; done)
          | exact (rmay_no hm (fun h => by have := h.1; omega)).symm
          | exact (rmay_no hm (hin.bad (by omega) (by assumption) (by rintro ⟨⟨h1, h2⟩, h3⟩; omega))).symm
          | exact (rmay_no hm (hin.bad (by omega) (by assumption) (by rintro ⟨⟨h1, h2⟩, h3⟩; exact absurd h3 (by assumption)))).symm
          | exact (rmay_no hm (hin.twice (by omega) (by assumption) (by omega) (by omega) (by assumption))).symm
          | exact (rmay_yes hm ((hinv.fin (by omega) (by omega) rfl).2 (by omega))).symm
          | exact (rmay_no hm (fun h => by have := (hinv.fin (by omega) (by omega) rfl).1 h; omega)).symm
      exact ⟨(congrArg (a₁ := 4) (fun (z0 : Int) => Ending.returned (Value.int .i64 z0)) e0), hbase.below⟩
     refine lv (v12) (want_y rfl rfl rfl (decide_eq_false q45)) (e_move (by exact zs5)) ?_
     refine lv (Value.int .i64 (gI (gI r (k : Int)) (i : Int))) (want_y rfl rfl rfl (decide_eq_false q45)) (e_move rfl) ?_
     refine lv (Value.pointer (some (eAddr v12 1 (Int.toNat (gI (gI r (k : Int)) (i : Int)))))) (want_y rfl rfl rfl (decide_eq_false q45)) (e_indexAddr (α := Bool) (xs := seen) (v := v12) (i := (gI (gI r (k : Int)) (i : Int))) Try.underlying75 rfl rfl o14.flat rfl (by omega) (by omega)) ?_
     refine lv (Value.bool (gI seen (gI (gI r (k : Int)) (i : Int)))) (want_y rfl rfl rfl (decide_eq_false q45)) (e_load_el1 (α := Bool) (xs := seen) (v := v12) (i := (gI (gI r (k : Int)) (i : Int))) tp4_x rfl o14.flat (by omega) (by omega) (by decide) rfl) ?_
     refine lv (Value.bool (gI seen (gI (gI r (k : Int)) (i : Int)))) rfl (e_pick_f rfl (decide_eq_false q45) rfl) ?_
     refine lv (Value.bool (gI seen (gI (gI r (k : Int)) (i : Int)))) rfl (e_move rfl) ?_
     by_cases q51 : (gI seen (gI (gI r (k : Int)) (i : Int))) = true
     ·
      refine l_skip (want_n rfl rfl rfl q51) (l_skip (want_n rfl rfl rfl q51) (l_skip (want_n rfl rfl rfl q51) (l_skip (want_n rfl rfl rfl q51) (l_skip (want_n rfl rfl rfl q51) (l_skip (want_n rfl rfl rfl q51) (l_skip (want_n rfl rfl rfl q51) (l_skip (want_n rfl rfl rfl q51) (l_skip (want_n rfl rfl rfl q51) (l_skip (want_n rfl rfl rfl q51) (l_skip (want_n rfl rfl rfl q51) ?_))))))))))
      refine lv (Value.bool true) rfl (e_pick_t rfl q51 rfl) ?_
      refine l_nil ?_
      refine run_cond_t rfl rfl ?_
      refine run_seq ?_
      clear bx5 o14 r21
      refine run_region rfl ?_
      refine lv (Value.int .i64 4) rfl (e_assign rfl) ?_
      refine l_nil ?_
      refine run_ret (vs := [Value.int .i64 4]) Try.func15 (.tmp rfl .nil) ?_
      have e0 : (4 : Int) = (rmayR g r) := by
        first
          | (have hn : ¬ MayP g := fun h => p1 (decide_eq_true h)
             unfold rmayR; rw [if_neg hn]; done)
          | exact (rmay_no hm (fun h => by have := h.1; omega)).symm
          | exact (rmay_no hm (hin.bad (by omega) (by assumption) (by rintro ⟨⟨h1, h2⟩, h3⟩; omega))).symm
          | exact (rmay_no hm (hin.bad (by omega) (by assumption) (by rintro ⟨⟨h1, h2⟩, h3⟩; exact absurd h3 (by assumption)))).symm
          | exact (rmay_no hm (hin.twice (by omega) (by assumption) (by omega) (by omega) (by assumption))).symm
          | exact (rmay_yes hm ((hinv.fin (by omega) (by omega) rfl).2 (by omega))).symm
          | exact (rmay_no hm (fun h => by have := (hinv.fin (by omega) (by omega) rfl).1 h; omega)).symm
      exact ⟨(congrArg (a₁ := 4) (fun (z0 : Int) => Ending.returned (Value.int .i64 z0)) e0), hbase.below⟩
     refine lv (Value.pointer (some ⟨b3, 1, none⟩)) (want_y rfl rfl rfl (Bool.eq_false_iff.2 q51)) (e_fieldAddr Try.underlying24 rfl rfl (by exact zs2) rfl) ?_
     refine lv (g_v) (want_y rfl rfl rfl (Bool.eq_false_iff.2 q51)) (e_load_bx1 tp22_x rfl bx5 rfl) ?_
     refine lv (Value.int .i64 (gI (gI r (k : Int)) (i : Int))) (want_y rfl rfl rfl (Bool.eq_false_iff.2 q51)) (e_move rfl) ?_
     refine lv (Value.int .i64 ((gI (gI r (k : Int)) (i : Int)) / 2)) (want_y rfl rfl rfl (Bool.eq_false_iff.2 q51)) (e_quo (m := (gI (gI r (k : Int)) (i : Int))) (n := 2) rfl rfl (by omega) (by omega) (by omega)) ?_
     refine lv (Value.int .i64 (gI (gI r (k : Int)) (i : Int))) (want_y rfl rfl rfl (Bool.eq_false_iff.2 q51)) (e_move rfl) ?_
     refine lv (Value.int .i64 ((gI (gI r (k : Int)) (i : Int)) % 2)) (want_y rfl rfl rfl (Bool.eq_false_iff.2 q51)) (e_rem (m := (gI (gI r (k : Int)) (i : Int))) (n := 2) rfl rfl (by omega) (by omega)) ?_
     refine lv (Value.pointer (some (eAddr g_v 2 (Int.toNat ((gI (gI r (k : Int)) (i : Int)) / 2))))) (want_y rfl rfl rfl (Bool.eq_false_iff.2 q51)) (e_indexAddr (α := (Int) × (Int)) (xs := g.2) (v := g_v) (i := (gI (gI r (k : Int)) (i : Int)) / 2) Try.underlying22 rfl rfl r_g_v rfl (by omega) (by omega)) ?_
     refine lv (Value.pointer (some ⟨(eAddr g_v 2 (Int.toNat ((gI (gI r (k : Int)) (i : Int)) / 2))).block, (eAddr g_v 2 (Int.toNat ((gI (gI r (k : Int)) (i : Int)) / 2))).off + (Int.toNat ((gI (gI r (k : Int)) (i : Int)) % 2)), none⟩)) (want_y rfl rfl rfl (Bool.eq_false_iff.2 q51)) (e_indexAddr_el (i := (gI (gI r (k : Int)) (i : Int)) % 2) Try.underlying60 rfl rfl rfl (by omega) (by omega) (Nat.mul_one _)) ?_
     refine lv (Value.int .i64 (pI (gI g.2 ((gI (gI r (k : Int)) (i : Int)) / 2)) ((gI (gI r (k : Int)) (i : Int)) % 2))) (want_y rfl rfl rfl (Bool.eq_false_iff.2 q51)) (e_load_elF (α := (Int) × (Int)) (xs := g.2) (v := g_v) (i := (gI (gI r (k : Int)) (i : Int)) / 2) tp3_x rfl r_g_v (by omega) (by omega) (show Int.toNat ((gI (gI r (k : Int)) (i : Int)) % 2) < 2 by omega) (pI_cells _ (by omega) (by omega))) ?_
     refine lv (Value.int .i64 (k : Int)) (want_y rfl rfl rfl (Bool.eq_false_iff.2 q51)) (e_move (by exact zs7)) ?_
     refine lv (Value.bool (!(decide ((pI (gI g.2 ((gI (gI r (k : Int)) (i : Int)) / 2)) ((gI (gI r (k : Int)) (i : Int)) % 2)) = (k : Int))))) (want_y rfl rfl rfl (Bool.eq_false_iff.2 q51)) (e_neq (m := pI (gI g.2 ((gI (gI r (k : Int)) (i : Int)) / 2)) ((gI (gI r (k : Int)) (i : Int)) % 2)) (n := (k : Int)) rfl rfl) ?_
     refine lv (Value.bool (!(decide ((pI (gI g.2 ((gI (gI r (k : Int)) (i : Int)) / 2)) ((gI (gI r (k : Int)) (i : Int)) % 2)) = (k : Int))))) rfl (e_pick_f rfl (Bool.eq_false_iff.2 q51) rfl) ?_
     refine l_nil ?_
     by_cases p13 : (pI (gI g.2 ((gI (gI r (k : Int)) (i : Int)) / 2)) ((gI (gI r (k : Int)) (i : Int)) % 2)) = (k : Int)
     ·
      refine run_cond_f rfl (congrArg Bool.not (decide_eq_true p13)) ?_
      refine run_skip ?_
      refine run_seq (run_region rfl ?_)
      refine lv (v12) rfl (e_move (by exact zs5)) ?_
      refine lv (Value.int .i64 (gI (gI r (k : Int)) (i : Int))) rfl (e_move rfl) ?_
      refine lv (Value.pointer (some (eAddr v12 1 (Int.toNat (gI (gI r (k : Int)) (i : Int)))))) rfl (e_indexAddr (α := Bool) (xs := seen) (v := v12) (i := (gI (gI r (k : Int)) (i : Int))) Try.underlying75 rfl rfl o14.flat rfl (by omega) (by omega)) ?_
      refine l_op rfl ?_
      refine o_store_el (i := (gI (gI r (k : Int)) (i : Int))) true tp4_x rfl rfl o14 (by omega) (by omega) rfl ?_
      intro w27 ch28 bx29
      clear o14
      refine l_nil (run_region rfl ?_)
      refine lv (Value.int .i64 n) rfl (e_move (by exact zs6)) ?_
      refine lv (Value.int .i64 (n + 1)) rfl (e_add (m := n) (n := 1) rfl rfl (by omega)) ?_
      refine lv (Value.int .i64 (n + 1)) rfl (e_assign rfl) ?_
      refine l_nil ?_
      refine run_inBlock ?_
      refine run_region rfl ?_
      refine lv (Value.int .i64 ((i : Int) + 1)) rfl (e_add (m := (i : Int)) (n := 1) (by exact zs33) rfl (by omega)) ?_
      refine lv (Value.int .i64 ((i : Int) + 1)) rfl (e_move rfl) ?_
      refine l_nil ?_
      replace hbase := hbase.chg ch28 (is_ne rfl)
      replace r_g_v := r_g_v.chg ch28 (is_ne rfl)
      replace r_r_v := r_r_v.chg ch28 (is_ne rfl)
      replace bx5 := bx5.chg ch28 (is_ne rfl)
      replace r21 := r21.chg ch28 (is_ne rfl)
      refine back11 (n + 1, i + 1, (List.set seen (Int.toNat (gI (gI r (k : Int)) (i : Int))) true), g25) _ _ ⟨hbase, (by exact zs2), (by exact zs5), rfl, (by exact zs7), (by exact zs24), (by exact zs25), (by exact zs26), (by exact zs31), (by exact zs32), rfl, r_g_v, r_r_v, bx5, bx29, r21, by omega, ?_⟩ ?_
      · show MayInv (List.set seen (Int.toNat (gI (gI r (k : Int)) (i : Int))) true) (n + 1) g r k (i + 1)
        exact hin.next (by assumption) (by omega) (by omega) (Bool.eq_false_iff.2 (by assumption)) (by assumption)
      · show Int.toNat (((List.length (gI r (k : Int)) : Int) : Int) - ((i + 1) : Int)) < Int.toNat (((List.length (gI r (k : Int)) : Int) : Int) - (i : Int))
        omega
     refine run_cond_t rfl (congrArg Bool.not (decide_eq_false p13)) ?_
     refine run_seq ?_
     clear bx5 o14 r21
     refine run_region rfl ?_
     refine lv (Value.int .i64 4) rfl (e_assign rfl) ?_
     refine l_nil ?_
     refine run_ret (vs := [Value.int .i64 4]) Try.func15 (.tmp rfl .nil) ?_
     have e0 : (4 : Int) = (rmayR g r) := by
       first
         | (have hn : ¬ MayP g := fun h => p1 (decide_eq_true h)
            unfold rmayR; rw [if_neg hn]; done)
         | exact (rmay_no hm (fun h => by have := h.1; omega)).symm
         | exact (rmay_no hm (hin.bad (by omega) (by assumption) (by rintro ⟨⟨h1, h2⟩, h3⟩; omega))).symm
         | exact (rmay_no hm (hin.bad (by omega) (by assumption) (by rintro ⟨⟨h1, h2⟩, h3⟩; exact absurd h3 (by assumption)))).symm
         | exact (rmay_no hm (hin.twice (by omega) (by assumption) (by omega) (by omega) (by assumption))).symm
         | exact (rmay_yes hm ((hinv.fin (by omega) (by omega) rfl).2 (by omega))).symm
         | exact (rmay_no hm (fun h => by have := (hinv.fin (by omega) (by omega) rfl).1 h; omega)).symm
     exact ⟨(congrArg (a₁ := 4) (fun (z0 : Int) => Ending.returned (Value.int .i64 z0)) e0), hbase.below⟩
    refine run_cond_f rfl (decide_eq_false p11) ?_
    refine run_exit rfl ?_
    refine run_inBlock ?_
    clear r21
    refine run_region rfl ?_
    refine lv (Value.int .i64 ((k : Int) + 1)) rfl (e_add (m := (k : Int)) (n := 1) (by exact zs26) rfl (by omega)) ?_
    refine lv (Value.int .i64 ((k : Int) + 1)) rfl (e_move rfl) ?_
    refine l_nil ?_
    refine back8 (n, k + 1, seen, g25) _ _ ⟨hbase, (by exact zs2), (by exact zs5), (by exact zs6), (by exact zs24), (by exact zs25), rfl, r_g_v, r_r_v, bx5, o14, by omega, ?_⟩ ?_
    · show MayInv seen n g r (k + 1) 0
      exact hin.row_done (by assumption) (by assumption)
    · show Int.toNat (((List.length r : Int) : Int) - ((k + 1) : Int)) < Int.toNat (((List.length r : Int) : Int) - (k : Int))
      omega
   refine run_cond_f rfl (decide_eq_false p8) ?_
   refine run_exit rfl ?_
   refine run_seq (run_seq ?_)
   clear bx5
   refine run_region rfl ?_
   refine lv (Value.int .i64 n) rfl (e_move (by exact zs6)) ?_
   refine lv (v12) rfl (e_move (by exact zs5)) ?_
   have len30 := (o14.flat).small
   refine lv (Value.int .i64 (List.length seen : Int)) rfl (e_len Try.underlying75 rfl o14.flat) ?_
   refine lv (Value.bool (!(decide (n = (List.length seen : Int))))) rfl (e_neq (m := n) (n := (List.length seen : Int)) rfl rfl) ?_
   refine l_nil ?_
   by_cases p19 : n = (List.length seen : Int)
   ·
    refine run_cond_f rfl (congrArg Bool.not (decide_eq_true p19)) ?_
    refine run_skip ?_
    refine run_seq ?_
    clear o14
    refine run_region rfl ?_
    refine lv (Value.int .i64 0) rfl (e_assign rfl) ?_
    refine l_nil ?_
    refine run_ret (vs := [Value.int .i64 0]) Try.func15 (.tmp rfl .nil) ?_
    have e0 : (0 : Int) = (rmayR g r) := by
      first
        | (have hn : ¬ MayP g := fun h => p1 (decide_eq_true h)
           unfold rmayR; rw [if_neg hn]; done)
        | exact (rmay_no hm (fun h => by have := h.1; omega)).symm
        | exact (rmay_no hm (hin.bad (by omega) (by assumption) (by rintro ⟨⟨h1, h2⟩, h3⟩; omega))).symm
        | exact (rmay_no hm (hin.bad (by omega) (by assumption) (by rintro ⟨⟨h1, h2⟩, h3⟩; exact absurd h3 (by assumption)))).symm
        | exact (rmay_no hm (hin.twice (by omega) (by assumption) (by omega) (by omega) (by assumption))).symm
        | exact (rmay_yes hm ((hinv.fin (by omega) (by omega) rfl).2 (by omega))).symm
        | exact (rmay_no hm (fun h => by have := (hinv.fin (by omega) (by omega) rfl).1 h; omega)).symm
    exact ⟨(congrArg (a₁ := 0) (fun (z0 : Int) => Ending.returned (Value.int .i64 z0)) e0), hbase.below⟩
   refine run_cond_t rfl (congrArg Bool.not (decide_eq_false p19)) ?_
   refine run_seq ?_
   clear o14
   refine run_region rfl ?_
   refine lv (Value.int .i64 4) rfl (e_assign rfl) ?_
   refine l_nil ?_
   refine run_ret (vs := [Value.int .i64 4]) Try.func15 (.tmp rfl .nil) ?_
   have e0 : (4 : Int) = (rmayR g r) := by
     first
       | (have hn : ¬ MayP g := fun h => p1 (decide_eq_true h)
          unfold rmayR; rw [if_neg hn]; done)
       | exact (rmay_no hm (fun h => by have := h.1; omega)).symm
       | exact (rmay_no hm (hin.bad (by omega) (by assumption) (by rintro ⟨⟨h1, h2⟩, h3⟩; omega))).symm
       | exact (rmay_no hm (hin.bad (by omega) (by assumption) (by rintro ⟨⟨h1, h2⟩, h3⟩; exact absurd h3 (by assumption)))).symm
       | exact (rmay_no hm (hin.twice (by omega) (by assumption) (by omega) (by omega) (by assumption))).symm
       | exact (rmay_yes hm ((hinv.fin (by omega) (by omega) rfl).2 (by omega))).symm
       | exact (rmay_no hm (fun h => by have := (hinv.fin (by omega) (by omega) rfl).1 h; omega)).symm
   exact ⟨(congrArg (a₁ := 4) (fun (z0 : Int) => Ending.returned (Value.int .i64 z0)) e0), hbase.below⟩
  refine run_cond_t rfl (congrArg Bool.not (decide_eq_false p3)) ?_
  refine run_seq ?_
  clear bx5
  refine run_region rfl ?_
  refine lv (Value.int .i64 4) rfl (e_assign rfl) ?_
  refine l_nil ?_
  refine run_ret (vs := [Value.int .i64 4]) Try.func15 (.tmp rfl .nil) ?_
  have e0 : (4 : Int) = (rmayR g r) := by
    first
      | (have hn : ¬ MayP g := fun h => p1 (decide_eq_true h)
         unfold rmayR; rw [if_neg hn]; done)
      | exact (rmay_no hm (fun h => by have := h.1; omega)).symm
      | exact (rmay_no hm (hin.bad (by omega) (by assumption) (by rintro ⟨⟨h1, h2⟩, h3⟩; omega))).symm
      | exact (rmay_no hm (hin.bad (by omega) (by assumption) (by rintro ⟨⟨h1, h2⟩, h3⟩; exact absurd h3 (by assumption)))).symm
      | exact (rmay_no hm (hin.twice (by omega) (by assumption) (by omega) (by omega) (by assumption))).symm
      | exact (rmay_yes hm ((hinv.fin (by omega) (by omega) rfl).2 (by omega))).symm
      | exact (rmay_no hm (fun h => by have := (hinv.fin (by omega) (by omega) rfl).1 h; omega)).symm
  replace hbase := hbase.chg ch2 (not_no _)
  replace hbase := hbase.chg hb7 (not_no _)
  exact ⟨(congrArg (a₁ := 4) (fun (z0 : Int) => Ending.returned (Value.int .i64 z0)) e0), hbase.below⟩
 refine run_cond_t rfl (congrArg Bool.not (Bool.eq_false_iff.2 p1)) ?_
 refine run_seq ?_
 clear bx5
 refine run_region rfl ?_
 refine lv (Value.int .i64 1) rfl (e_assign rfl) ?_
 refine l_nil ?_
 refine run_ret (vs := [Value.int .i64 1]) Try.func15 (.tmp rfl .nil) ?_
 have e0 : (1 : Int) = (rmayR g r) := by
   first
     | (have hn : ¬ MayP g := fun h => p1 (decide_eq_true h)
        unfold rmayR; rw [if_neg hn]; done)
     | exact (rmay_no hm (fun h => by have := h.1; omega)).symm
     | exact (rmay_no hm (hin.bad (by omega) (by assumption) (by rintro ⟨⟨h1, h2⟩, h3⟩; omega))).symm
     | exact (rmay_no hm (hin.bad (by omega) (by assumption) (by rintro ⟨⟨h1, h2⟩, h3⟩; exact absurd h3 (by assumption)))).symm
     | exact (rmay_no hm (hin.twice (by omega) (by assumption) (by omega) (by omega) (by assumption))).symm
     | exact (rmay_yes hm ((hinv.fin (by omega) (by omega) rfl).2 (by omega))).symm
     | exact (rmay_no hm (fun h => by have := (hinv.fin (by omega) (by omega) rfl).1 h; omega)).symm
 replace hbase := hbase.chg ch2 (not_no _)
 replace hbase := hbase.chg hb7 (not_no _)
 exact ⟨(congrArg (a₁ := 1) (fun (z0 : Int) => Ending.returned (Value.int .i64 z0)) e0), hbase.below⟩
theorem rRMay_ok (w0 : World) (g : (Int) × (List ((Int) × (Int)))) (g_v : Value) (hg_v : Ro w0 g_v g.2) (r : List (List Int)) (r_v : Value) (hr_v : Ro w0 r_v r) :
    Calls Try.prog 12 #[Value.agg (List.toArray [Value.int .i64 g.1, g_v]), r_v] w0 (fun ee w => ee = .returned (Value.int .i64 (rmayR g r)) ∧ Bel w0.heap.size w0 w) := by
 refine calls_of_run Try.func12 rfl (Nat.le_of_ble_eq_true rfl) ?_
 have hbase := Base.start w0
 have r_g_v := hg_v.sl
 have r_r_v := hr_v.sl
 refine run_seq (run_region rfl (l_op rfl ?_))
 refine o_box c0 (is 1) (1, 0) rfl rfl ?_
 intro g4 w1 b3 ch2 bx5
 replace bx5 : Bx g4 (is 1) w1 b3 [Value.int .i64 g.1, g_v] := bx5
 refine lv (Value.int .i64 0) rfl (e_assign rfl) ?_
 refine l_nil (run_seq (run_seq (run_region rfl ?_)))
 refine lv (Value.agg (List.toArray [Value.int .i64 g.1, g_v])) rfl (e_load_bxN (ds := [Value.int .i64 g.1, g_v]) tp24_x rfl bx5 rfl rfl) ?_
 replace r_g_v := r_g_v.chg ch2 (not_no _)
 refine l_op rfl ?_
 refine o_call (v := Value.bool (mayB g)) (e_call (vals := [Value.agg (List.toArray [Value.int .i64 g.1, g_v])]) Try.func35 bd35_x nm35_x rfl) (rMay_ok w1 g g_v (r_g_v).ro) ?_
 intro w6 hb7
 replace hb7 := chg_below hb7 g4
 refine lv (Value.bool (!(mayB g))) rfl (e_not (b := (mayB g)) rfl) ?_
 refine l_nil ?_
 by_cases p1 : (mayB g) = true
 ·
  have hm := of_decide_eq_true p1
  have hm0 := hm
  obtain ⟨hm1, hm2, hm3, hm4⟩ := hm0
  refine run_cond_f rfl (congrArg Bool.not p1) ?_
  refine run_skip ?_
  refine run_seq (run_seq (run_region rfl ?_))
  refine lv (r_v) rfl (e_move rfl) ?_
  replace r_r_v := (r_r_v.chg ch2 (not_no _)).chg hb7 (not_no _)
  have len8 := (r_r_v).small
  refine lv (Value.int .i64 (List.length r : Int)) rfl (e_len Try.underlying26 rfl r_r_v) ?_
  refine lv (Value.pointer (some ⟨b3, 0, none⟩)) rfl (e_fieldAddr Try.underlying24 rfl rfl rfl rfl) ?_
  replace bx5 := bx5.chg hb7 (not_no _)
  refine lv (Value.int .i64 g.1) rfl (e_load_bx1 tp3_x rfl bx5 rfl) ?_
  refine lv (Value.bool (!(decide ((List.length r : Int) = g.1)))) rfl (e_neq (m := (List.length r : Int)) (n := g.1) rfl rfl) ?_
  refine l_nil ?_
  by_cases p3 : (List.length r : Int) = g.1
  ·
   refine run_cond_f rfl (congrArg Bool.not (decide_eq_true p3)) ?_
   refine run_skip ?_
   refine run_seq (run_region rfl ?_)
   refine lv (Value.pointer (some ⟨b3, 1, none⟩)) rfl (e_fieldAddr Try.underlying24 rfl rfl rfl rfl) ?_
   refine lv (g_v) rfl (e_load_bx1 tp22_x rfl bx5 rfl) ?_
   replace r_g_v := r_g_v.chg hb7 (not_no _)
   have len9 := (r_g_v).small
   refine lv (Value.int .i64 (List.length g.2 : Int)) rfl (e_len Try.underlying22 rfl r_g_v) ?_
   refine lv (Value.int .i64 (2 * (List.length g.2 : Int))) rfl (e_mul (m := 2) (n := (List.length g.2 : Int)) rfl rfl (by omega)) ?_
   refine l_op rfl ?_
   refine o_make (α := Bool) (l := 2 * (List.length g.2 : Int)) (cp := 2 * (List.length g.2 : Int)) g4 (is 2) (is 2) (2, 0) rfl false Try.underlying75 tp4_x rfl rfl rfl (by omega) (by omega) (by omega) (by omega) ?_
   intro g10 w11 v12 ch13 o14 _
   refine lv (v12) rfl (e_assign rfl) ?_
   refine l_nil (run_seq (run_region rfl ?_))
   refine lv (Value.int .i64 0) rfl (e_assign rfl) ?_
   refine l_nil (run_seq (run_seq (run_region rfl ?_)))
   refine lv (Value.int .i64 0) rfl (e_assign rfl) ?_
   refine l_nil ?_
   refine run_block ?_
   refine run_loop (σ := Int × Nat × (List Bool) × Cmap) (fun ⟨n, k, seen, gq⟩ f w => Base w0 gq w ∧ f 1 = r_v ∧ f 2 = Value.pointer (some ⟨b3, 0, none⟩) ∧ f 5 = v12 ∧ f 6 = Value.int .i64 n ∧ f 7 = Value.int .i64 (k : Int) ∧ Sl gq (is 0) w g_v g.2 ∧ Sl gq (is 0) w r_v r ∧ Bx gq (is 1) w b3 [Value.int .i64 g.1, g_v] ∧ Ow gq (is 2) (is 2) w v12 seen ∧ (k : Int) ≤ (g.1 : Int) ∧ (MayInv seen n g r k 0)) (fun ⟨n, k, seen, gq⟩ => Int.toNat ((g.1 : Int) - (k : Int))) (0, 0, (List.replicate (Int.toNat (2 * (List.length g.2 : Int))) false), g10) ?_ ?_
   have C15 : Chg (inl []) _ _ _ _ := (ch2.n).seq ((hb7.n).seq (ch13.n))
   replace hbase := hbase.chg C15 (is_nl rfl)
   replace r_g_v := r_g_v.chg ch13 (not_no _)
   replace r_r_v := r_r_v.chg ch13 (not_no _)
   replace bx5 := bx5.chg ch13 (not_no _)
   · exact ⟨hbase, rfl, rfl, rfl, rfl, rfl, r_g_v, r_r_v, bx5, o14, by omega, by exact MayInv.start g r⟩
   clear r_g_v r_r_v bx5 o14 hbase
   rintro ⟨n, k, seen, g18⟩ f16 w17 ⟨hbase, zs1, zs2, zs5, zs6, zs7, r_g_v, r_r_v, bx5, o14, hle_k, hinv⟩ back8
   have hsl := hinv.rm.len
   have hbd := hinv.bd
   refine run_seq (run_seq (run_region rfl ?_))
   refine lv (Value.int .i64 (k : Int)) rfl (e_move (by exact zs7)) ?_
   refine lv (Value.pointer (some ⟨b3, 0, none⟩)) rfl (e_fieldAddr Try.underlying24 rfl rfl (by exact zs2) rfl) ?_
   refine lv (Value.int .i64 g.1) rfl (e_load_bx1 tp3_x rfl bx5 rfl) ?_
   refine lv (Value.bool (decide ((k : Int) < g.1))) rfl (e_lss (m := (k : Int)) (n := g.1) rfl rfl) ?_
   refine l_nil ?_
   by_cases p8 : (k : Int) < g.1
   ·
    refine run_cond_t rfl (decide_eq_true p8) ?_
    refine run_skip ?_
    refine run_seq ?_
    refine run_block ?_
    refine run_seq (run_region rfl ?_)
    refine lv (Value.int .i64 0) rfl (e_assign rfl) ?_
    refine l_nil ?_
    refine run_block ?_
    refine run_loop (σ := Int × Nat × (List Bool) × Cmap) (fun ⟨n, i, seen, gq⟩ f w => Base w0 gq w ∧ f 1 = r_v ∧ f 2 = Value.pointer (some ⟨b3, 0, none⟩) ∧ f 5 = v12 ∧ f 6 = Value.int .i64 n ∧ f 7 = Value.int .i64 (k : Int) ∧ f 8 = Value.int .i64 (i : Int) ∧ Sl gq (is 0) w g_v g.2 ∧ Sl gq (is 0) w r_v r ∧ Bx gq (is 1) w b3 [Value.int .i64 g.1, g_v] ∧ Ow gq (is 2) (is 2) w v12 seen ∧ (i : Int) ≤ ((List.length (gI r (k : Int)) : Int) : Int) ∧ (MayInv seen n g r k i)) (fun ⟨n, i, seen, gq⟩ => Int.toNat (((List.length (gI r (k : Int)) : Int) : Int) - (i : Int))) (n, 0, seen, g18) ?_ ?_
    · exact ⟨hbase, (by exact zs1), (by exact zs2), (by exact zs5), (by exact zs6), (by exact zs7), rfl, r_g_v, r_r_v, bx5, o14, by omega, by exact hinv⟩
    clear r_g_v r_r_v bx5 o14 hbase
    rintro ⟨n, i, seen, g21⟩ f19 w20 ⟨hbase, zs1, zs2, zs5, zs6, zs7, zs8, r_g_v, r_r_v, bx5, o14, hle_i, hin⟩ back11
    have hsl := hin.rm.len
    have hbd := hin.bd
    refine run_seq (run_seq (run_region rfl ?_))
    refine lv (Value.int .i64 (i : Int)) rfl (e_move (by exact zs8)) ?_
    refine lv (r_v) rfl (e_move (by exact zs1)) ?_
    refine lv (Value.int .i64 (k : Int)) rfl (e_move (by exact zs7)) ?_
    refine lv (Value.pointer (some (eAddr r_v 1 (Int.toNat (k : Int))))) rfl (e_indexAddr (α := List Int) (xs := r) (v := r_v) (i := (k : Int)) Try.underlying26 rfl rfl r_r_v rfl (by omega) (by omega)) ?_
    obtain ⟨v22, cel23, r24⟩ := sl_row (r := (k : Int)) r_r_v (by omega) (by omega)
    refine lv (v22) rfl (e_load1 tp27_x rfl cel23) ?_
    have len25 := (r24).small
    refine lv (Value.int .i64 (List.length (gI r (k : Int)) : Int)) rfl (e_len Try.underlying27 rfl r24) ?_
    refine lv (Value.bool (decide ((i : Int) < (List.length (gI r (k : Int)) : Int)))) rfl (e_lss (m := (i : Int)) (n := (List.length (gI r (k : Int)) : Int)) rfl rfl) ?_
    refine l_nil ?_
    by_cases p11 : (i : Int) < (List.length (gI r (k : Int)) : Int)
    ·
     refine run_cond_t rfl (decide_eq_true p11) ?_
     refine run_skip ?_
     refine run_seq ?_
     refine run_block ?_
     refine run_seq ?_
     clear r24
     refine run_region rfl ?_
     refine lv (r_v) rfl (e_move (by exact zs1)) ?_
     refine lv (Value.int .i64 (k : Int)) rfl (e_move (by exact zs7)) ?_
     refine lv (Value.pointer (some (eAddr r_v 1 (Int.toNat (k : Int))))) rfl (e_indexAddr (α := List Int) (xs := r) (v := r_v) (i := (k : Int)) Try.underlying26 rfl rfl r_r_v rfl (by omega) (by omega)) ?_
     obtain ⟨v26, cel27, r28⟩ := sl_row (r := (k : Int)) r_r_v (by omega) (by omega)
     refine lv (v26) rfl (e_load1 tp27_x rfl cel27) ?_
     refine lv (Value.int .i64 (i : Int)) rfl (e_move (by exact zs8)) ?_
     refine lv (Value.pointer (some (eAddr v26 1 (Int.toNat (i : Int))))) rfl (e_indexAddr (α := Int) (xs := gI r (k : Int)) (v := v26) (i := (i : Int)) Try.underlying27 rfl rfl r28 rfl (by omega) (by omega)) ?_
     refine lv (Value.int .i64 (gI (gI r (k : Int)) (i : Int))) rfl (e_load_el1 (α := Int) (xs := gI r (k : Int)) (v := v26) (i := (i : Int)) tp3_x rfl r28 (by omega) (by omega) (by decide) rfl) ?_
     refine lv (Value.int .i64 (gI (gI r (k : Int)) (i : Int))) rfl (e_assign rfl) ?_
     refine l_nil (run_seq (run_seq ?_))
     clear r28
     refine run_region rfl ?_
     refine lv (Value.int .i64 (gI (gI r (k : Int)) (i : Int))) rfl (e_move rfl) ?_
     refine lv (Value.bool (decide ((gI (gI r (k : Int)) (i : Int)) < 0))) rfl (e_lss (m := (gI (gI r (k : Int)) (i : Int))) (n := 0) rfl rfl) ?_
     refine lv (Value.bool (decide ((gI (gI r (k : Int)) (i : Int)) < 0))) rfl (e_move rfl) ?_
     by_cases q47 : (gI (gI r (k : Int)) (i : Int)) < 0
     ·
      refine l_skip (want_n rfl rfl rfl (decide_eq_true q47)) ?_
      refine l_skip (want_n rfl rfl rfl (decide_eq_true q47)) ?_
      refine l_skip (want_n rfl rfl rfl (decide_eq_true q47)) ?_
      refine l_skip (want_n rfl rfl rfl (decide_eq_true q47)) ?_
      refine lv (Value.bool true) rfl (e_pick_t rfl (decide_eq_true q47) rfl) ?_
      refine lv (Value.bool true) rfl (e_move rfl) ?_
      refine l_skip (want_n rfl rfl rfl rfl) (l_skip (want_n rfl rfl rfl rfl) (l_skip (want_n rfl rfl rfl rfl) (l_skip (want_n rfl rfl rfl rfl) ?_)))
      refine lv (Value.bool true) rfl (e_pick_t rfl rfl rfl) ?_
      refine lv (Value.bool true) rfl (e_move rfl) ?_
      refine l_skip (want_n rfl rfl rfl rfl) (l_skip (want_n rfl rfl rfl rfl) (l_skip (want_n rfl rfl rfl rfl) (l_skip (want_n rfl rfl rfl rfl) (l_skip (want_n rfl rfl rfl rfl) ?_))))
      refine lv (Value.bool true) rfl (e_pick_t rfl rfl rfl) ?_
      refine l_nil ?_
      refine run_cond_t rfl rfl ?_
      refine run_seq ?_
      clear bx5 o14
      refine run_region rfl ?_
      refine lv (Value.int .i64 4) rfl (e_assign rfl) ?_
      refine l_nil ?_
      refine run_ret (vs := [Value.int .i64 4]) Try.func12 (.tmp rfl .nil) ?_
      have e0 : (4 : Int) = (rmayR g r) := by
        first
          | (have hn : ¬ MayP g := fun h => p1 (decide_eq_true h)
             unfold rmayR; rw [if_neg hn]; done)
          | exact (rmay_no hm (fun h => by have := h.1; omega)).symm
          | exact (rmay_no hm (hin.bad (by omega) (by assumption) (by rintro ⟨⟨h1, h2⟩, h3⟩; omega))).symm
          | exact (rmay_no hm (hin.bad (by omega) (by assumption) (by rintro ⟨⟨h1, h2⟩, h3⟩; exact absurd h3 (by assumption)))).symm
          | exact (rmay_no hm (hin.twice (by omega) (by assumption) (by omega) (by omega) (by assumption))).symm
          | exact (rmay_yes hm ((hinv.fin (by omega) (by omega) rfl).2 (by omega))).symm
          | exact (rmay_no hm (fun h => by have := (hinv.fin (by omega) (by omega) rfl).1 h; omega)).symm
      exact ⟨(congrArg (a₁ := 4) (fun (z0 : Int) => Ending.returned (Value.int .i64 z0)) e0), hbase.below⟩
     refine lv (Value.int .i64 (gI (gI r (k : Int)) (i : Int))) (want_y rfl rfl rfl (decide_eq_false q47)) (e_move rfl) ?_
     refine lv (v12) (want_y rfl rfl rfl (decide_eq_false q47)) (e_move (by exact zs5)) ?_
     have len29 := (o14.flat).small
     refine lv (Value.int .i64 (List.length seen : Int)) (want_y rfl rfl rfl (decide_eq_false q47)) (e_len Try.underlying75 rfl o14.flat) ?_
     refine lv (Value.bool (decide ((List.length seen : Int) ≤ (gI (gI r (k : Int)) (i : Int))))) (want_y rfl rfl rfl (decide_eq_false q47)) (e_geq (m := (gI (gI r (k : Int)) (i : Int))) (n := (List.length seen : Int)) rfl rfl) ?_
     refine lv (Value.bool (decide ((List.length seen : Int) ≤ (gI (gI r (k : Int)) (i : Int))))) rfl (e_pick_f rfl (decide_eq_false q47) rfl) ?_
     refine lv (Value.bool (decide ((List.length seen : Int) ≤ (gI (gI r (k : Int)) (i : Int))))) rfl (e_move rfl) ?_
     by_cases q53 : (List.length seen : Int) ≤ (gI (gI r (k : Int)) (i : Int))
     ·
      refine l_skip (want_n rfl rfl rfl (decide_eq_true q53)) ?_
      refine l_skip (want_n rfl rfl rfl (decide_eq_true q53)) ?_
      refine l_skip (want_n rfl rfl rfl (decide_eq_true q53)) ?_
      refine l_skip (want_n rfl rfl rfl (decide_eq_true q53)) ?_
      refine lv (Value.bool true) rfl (e_pick_t rfl (decide_eq_true q53) rfl) ?_
      refine lv (Value.bool true) rfl (e_move rfl) ?_
      refine l_skip (want_n rfl rfl rfl rfl) (l_skip (want_n rfl rfl rfl rfl) (l_skip (want_n rfl rfl rfl rfl) (l_skip (want_n rfl rfl rfl rfl) (l_skip (want_n rfl rfl rfl rfl) ?_))))
      refine lv (Value.bool true) rfl (e_pick_t rfl rfl rfl) ?_
      refine l_nil ?_
      refine run_cond_t rfl rfl ?_
      refine run_seq ?_
      clear bx5 o14
      refine run_region rfl ?_
      refine lv (Value.int .i64 4) rfl (e_assign rfl) ?_
      refine l_nil ?_
      refine run_ret (vs := [Value.int .i64 4]) Try.func12 (.tmp rfl .nil) ?_
      have e0 : (4 : Int) = (rmayR g r) := by
        first
          | (have hn : ¬ MayP g := fun h => p1 (decide_eq_true h)
             unfold rmayR; rw [if_neg hn]; done)
          | exact (rmay_no hm (fun h => by have := h.1; omega)).symm
          | exact (rmay_no hm (hin.bad (by omega) (by assumption) (by rintro ⟨⟨h1, h2⟩, h3⟩; omega))).symm
          | exact (rmay_no hm (hin.bad (by omega) (by assumption) (by rintro ⟨⟨h1, h2⟩, h3⟩; exact absurd h3 (by assumption)))).symm
          | exact (rmay_no hm (hin.twice (by omega) (by assumption) (by omega) (by omega) (by assumption))).symm
          | exact (rmay_yes hm ((hinv.fin (by omega) (by omega) rfl).2 (by omega))).symm
          | exact (rmay_no hm (fun h => by have := (hinv.fin (by omega) (by omega) rfl).1 h; omega)).symm
      exact ⟨(congrArg (a₁ := 4) (fun (z0 : Int) => Ending.returned (Value.int .i64 z0)) e0), hbase.below⟩
     refine lv (v12) (want_y rfl rfl rfl (decide_eq_false q53)) (e_move (by exact zs5)) ?_
     refine lv (Value.int .i64 (gI (gI r (k : Int)) (i : Int))) (want_y rfl rfl rfl (decide_eq_false q53)) (e_move rfl) ?_
     refine lv (Value.pointer (some (eAddr v12 1 (Int.toNat (gI (gI r (k : Int)) (i : Int)))))) (want_y rfl rfl rfl (decide_eq_false q53)) (e_indexAddr (α := Bool) (xs := seen) (v := v12) (i := (gI (gI r (k : Int)) (i : Int))) Try.underlying75 rfl rfl o14.flat rfl (by omega) (by omega)) ?_
     refine lv (Value.bool (gI seen (gI (gI r (k : Int)) (i : Int)))) (want_y rfl rfl rfl (decide_eq_false q53)) (e_load_el1 (α := Bool) (xs := seen) (v := v12) (i := (gI (gI r (k : Int)) (i : Int))) tp4_x rfl o14.flat (by omega) (by omega) (by decide) rfl) ?_
     refine lv (Value.bool (gI seen (gI (gI r (k : Int)) (i : Int)))) rfl (e_pick_f rfl (decide_eq_false q53) rfl) ?_
     refine lv (Value.bool (gI seen (gI (gI r (k : Int)) (i : Int)))) rfl (e_move rfl) ?_
     by_cases q59 : (gI seen (gI (gI r (k : Int)) (i : Int))) = true
     ·
      refine l_skip (want_n rfl rfl rfl q59) (l_skip (want_n rfl rfl rfl q59) (l_skip (want_n rfl rfl rfl q59) (l_skip (want_n rfl rfl rfl q59) (l_skip (want_n rfl rfl rfl q59) ?_))))
      refine lv (Value.bool true) rfl (e_pick_t rfl q59 rfl) ?_
      refine l_nil ?_
      refine run_cond_t rfl rfl ?_
      refine run_seq ?_
      clear bx5 o14
      refine run_region rfl ?_
      refine lv (Value.int .i64 4) rfl (e_assign rfl) ?_
      refine l_nil ?_
      refine run_ret (vs := [Value.int .i64 4]) Try.func12 (.tmp rfl .nil) ?_
      have e0 : (4 : Int) = (rmayR g r) := by
        first
          | (have hn : ¬ MayP g := fun h => p1 (decide_eq_true h)
             unfold rmayR; rw [if_neg hn]; done)
          | exact (rmay_no hm (fun h => by have := h.1; omega)).symm
          | exact (rmay_no hm (hin.bad (by omega) (by assumption) (by rintro ⟨⟨h1, h2⟩, h3⟩; omega))).symm
          | exact (rmay_no hm (hin.bad (by omega) (by assumption) (by rintro ⟨⟨h1, h2⟩, h3⟩; exact absurd h3 (by assumption)))).symm
          | exact (rmay_no hm (hin.twice (by omega) (by assumption) (by omega) (by omega) (by assumption))).symm
          | exact (rmay_yes hm ((hinv.fin (by omega) (by omega) rfl).2 (by omega))).symm
          | exact (rmay_no hm (fun h => by have := (hinv.fin (by omega) (by omega) rfl).1 h; omega)).symm
      exact ⟨(congrArg (a₁ := 4) (fun (z0 : Int) => Ending.returned (Value.int .i64 z0)) e0), hbase.below⟩
     refine lv (Value.agg (List.toArray [Value.int .i64 g.1, g_v])) (want_y rfl rfl rfl (Bool.eq_false_iff.2 q59)) (e_load_bxN (ds := [Value.int .i64 g.1, g_v]) tp24_x (by exact zs2) bx5 rfl rfl) ?_
     refine lv (Value.int .i64 (gI (gI r (k : Int)) (i : Int))) (want_y rfl rfl rfl (Bool.eq_false_iff.2 q59)) (e_move rfl) ?_
     refine l_op (want_y rfl rfl rfl (Bool.eq_false_iff.2 q59)) ?_
     refine o_call (v := Value.int .i64 (fromS g (gI (gI r (k : Int)) (i : Int)))) (e_call (vals := [Value.agg (List.toArray [Value.int .i64 g.1, g_v]), Value.int .i64 (gI (gI r (k : Int)) (i : Int))]) Try.func52 bd52_x nm52_x rfl) (From_ok w20 g g_v (r_g_v).ro (gI (gI r (k : Int)) (i : Int)) (by omega) (by omega)) ?_
     intro w30 hb31
     replace hb31 := chg_below hb31 g21
     refine lv (Value.int .i64 (k : Int)) (want_y rfl rfl rfl (Bool.eq_false_iff.2 q59)) (e_move (by exact zs7)) ?_
     refine lv (Value.bool (!(decide ((fromS g (gI (gI r (k : Int)) (i : Int))) = (k : Int))))) (want_y rfl rfl rfl (Bool.eq_false_iff.2 q59)) (e_neq (m := fromS g (gI (gI r (k : Int)) (i : Int))) (n := (k : Int)) rfl rfl) ?_
     refine lv (Value.bool (!(decide ((fromS g (gI (gI r (k : Int)) (i : Int))) = (k : Int))))) rfl (e_pick_f rfl (Bool.eq_false_iff.2 q59) rfl) ?_
     refine l_nil ?_
     by_cases p14 : (fromS g (gI (gI r (k : Int)) (i : Int))) = (k : Int)
     ·
      refine run_cond_f rfl (congrArg Bool.not (decide_eq_true p14)) ?_
      refine run_skip ?_
      refine run_seq (run_region rfl ?_)
      refine lv (v12) rfl (e_move (by exact zs5)) ?_
      refine lv (Value.int .i64 (gI (gI r (k : Int)) (i : Int))) rfl (e_move rfl) ?_
      replace o14 := o14.chg hb31 (not_no _) (not_no _)
      refine lv (Value.pointer (some (eAddr v12 1 (Int.toNat (gI (gI r (k : Int)) (i : Int)))))) rfl (e_indexAddr (α := Bool) (xs := seen) (v := v12) (i := (gI (gI r (k : Int)) (i : Int))) Try.underlying75 rfl rfl o14.flat rfl (by omega) (by omega)) ?_
      refine l_op rfl ?_
      refine o_store_el (i := (gI (gI r (k : Int)) (i : Int))) true tp4_x rfl rfl o14 (by omega) (by omega) rfl ?_
      intro w32 ch33 bx34
      clear o14
      refine l_nil (run_region rfl ?_)
      refine lv (Value.int .i64 n) rfl (e_move (by exact zs6)) ?_
      refine lv (Value.int .i64 (n + 1)) rfl (e_add (m := n) (n := 1) rfl rfl (by omega)) ?_
      refine lv (Value.int .i64 (n + 1)) rfl (e_assign rfl) ?_
      refine l_nil ?_
      refine run_inBlock ?_
      refine run_region rfl ?_
      refine lv (Value.int .i64 (i : Int)) rfl (e_move (by exact zs8)) ?_
      refine lv (Value.int .i64 ((i : Int) + 1)) rfl (e_add (m := (i : Int)) (n := 1) rfl rfl (by omega)) ?_
      refine lv (Value.int .i64 ((i : Int) + 1)) rfl (e_assign rfl) ?_
      refine l_nil ?_
      replace hbase := hbase.chg hb31 (not_no _)
      replace hbase := hbase.chg ch33 (is_ne rfl)
      replace r_g_v := (r_g_v.chg hb31 (not_no _)).chg ch33 (is_ne rfl)
      replace r_r_v := (r_r_v.chg hb31 (not_no _)).chg ch33 (is_ne rfl)
      replace bx5 := (bx5.chg hb31 (not_no _)).chg ch33 (is_ne rfl)
      refine back11 (n + 1, i + 1, (List.set seen (Int.toNat (gI (gI r (k : Int)) (i : Int))) true), g21) _ _ ⟨hbase, (by exact zs1), (by exact zs2), (by exact zs5), rfl, (by exact zs7), rfl, r_g_v, r_r_v, bx5, bx34, by omega, ?_⟩ ?_
      · show MayInv (List.set seen (Int.toNat (gI (gI r (k : Int)) (i : Int))) true) (n + 1) g r k (i + 1)
        exact hin.next (by assumption) (by omega) (by omega) (Bool.eq_false_iff.2 (by assumption)) (by assumption)
      · show Int.toNat (((List.length (gI r (k : Int)) : Int) : Int) - ((i + 1) : Int)) < Int.toNat (((List.length (gI r (k : Int)) : Int) : Int) - (i : Int))
        omega
     refine run_cond_t rfl (congrArg Bool.not (decide_eq_false p14)) ?_
     refine run_seq ?_
     clear bx5 o14
     refine run_region rfl ?_
     refine lv (Value.int .i64 4) rfl (e_assign rfl) ?_
     refine l_nil ?_
     refine run_ret (vs := [Value.int .i64 4]) Try.func12 (.tmp rfl .nil) ?_
     have e0 : (4 : Int) = (rmayR g r) := by
       first
         | (have hn : ¬ MayP g := fun h => p1 (decide_eq_true h)
            unfold rmayR; rw [if_neg hn]; done)
         | exact (rmay_no hm (fun h => by have := h.1; omega)).symm
         | exact (rmay_no hm (hin.bad (by omega) (by assumption) (by rintro ⟨⟨h1, h2⟩, h3⟩; omega))).symm
         | exact (rmay_no hm (hin.bad (by omega) (by assumption) (by rintro ⟨⟨h1, h2⟩, h3⟩; exact absurd h3 (by assumption)))).symm
         | exact (rmay_no hm (hin.twice (by omega) (by assumption) (by omega) (by omega) (by assumption))).symm
         | exact (rmay_yes hm ((hinv.fin (by omega) (by omega) rfl).2 (by omega))).symm
         | exact (rmay_no hm (fun h => by have := (hinv.fin (by omega) (by omega) rfl).1 h; omega)).symm
     replace hbase := hbase.chg hb31 (not_no _)
     exact ⟨(congrArg (a₁ := 4) (fun (z0 : Int) => Ending.returned (Value.int .i64 z0)) e0), hbase.below⟩
    refine run_cond_f rfl (decide_eq_false p11) ?_
    refine run_exit rfl ?_
    refine run_inBlock ?_
    clear r24
    refine run_region rfl ?_
    refine lv (Value.int .i64 (k : Int)) rfl (e_move (by exact zs7)) ?_
    refine lv (Value.int .i64 ((k : Int) + 1)) rfl (e_add (m := (k : Int)) (n := 1) rfl rfl (by omega)) ?_
    refine lv (Value.int .i64 ((k : Int) + 1)) rfl (e_assign rfl) ?_
    refine l_nil ?_
    refine back8 (n, k + 1, seen, g21) _ _ ⟨hbase, (by exact zs1), (by exact zs2), (by exact zs5), (by exact zs6), rfl, r_g_v, r_r_v, bx5, o14, by omega, ?_⟩ ?_
    · show MayInv seen n g r (k + 1) 0
      exact hin.row_done (by omega) (by assumption)
    · show Int.toNat ((g.1 : Int) - ((k + 1) : Int)) < Int.toNat ((g.1 : Int) - (k : Int))
      omega
   refine run_cond_f rfl (decide_eq_false p8) ?_
   refine run_exit rfl ?_
   refine run_seq (run_seq ?_)
   clear bx5
   refine run_region rfl ?_
   refine lv (Value.int .i64 n) rfl (e_move (by exact zs6)) ?_
   refine lv (v12) rfl (e_move (by exact zs5)) ?_
   have len35 := (o14.flat).small
   refine lv (Value.int .i64 (List.length seen : Int)) rfl (e_len Try.underlying75 rfl o14.flat) ?_
   refine lv (Value.bool (decide (n < (List.length seen : Int)))) rfl (e_lss (m := n) (n := (List.length seen : Int)) rfl rfl) ?_
   refine l_nil ?_
   by_cases p18 : n < (List.length seen : Int)
   ·
    refine run_cond_t rfl (decide_eq_true p18) ?_
    refine run_seq ?_
    clear o14
    refine run_region rfl ?_
    refine lv (Value.int .i64 4) rfl (e_assign rfl) ?_
    refine l_nil ?_
    refine run_ret (vs := [Value.int .i64 4]) Try.func12 (.tmp rfl .nil) ?_
    have e0 : (4 : Int) = (rmayR g r) := by
      first
        | (have hn : ¬ MayP g := fun h => p1 (decide_eq_true h)
           unfold rmayR; rw [if_neg hn]; done)
        | exact (rmay_no hm (fun h => by have := h.1; omega)).symm
        | exact (rmay_no hm (hin.bad (by omega) (by assumption) (by rintro ⟨⟨h1, h2⟩, h3⟩; omega))).symm
        | exact (rmay_no hm (hin.bad (by omega) (by assumption) (by rintro ⟨⟨h1, h2⟩, h3⟩; exact absurd h3 (by assumption)))).symm
        | exact (rmay_no hm (hin.twice (by omega) (by assumption) (by omega) (by omega) (by assumption))).symm
        | exact (rmay_yes hm ((hinv.fin (by omega) (by omega) rfl).2 (by omega))).symm
        | exact (rmay_no hm (fun h => by have := (hinv.fin (by omega) (by omega) rfl).1 h; omega)).symm
    exact ⟨(congrArg (a₁ := 4) (fun (z0 : Int) => Ending.returned (Value.int .i64 z0)) e0), hbase.below⟩
   refine run_cond_f rfl (decide_eq_false p18) ?_
   refine run_skip ?_
   refine run_seq ?_
   clear o14
   refine run_region rfl ?_
   refine lv (Value.int .i64 0) rfl (e_assign rfl) ?_
   refine l_nil ?_
   refine run_ret (vs := [Value.int .i64 0]) Try.func12 (.tmp rfl .nil) ?_
   have e0 : (0 : Int) = (rmayR g r) := by
     first
       | (have hn : ¬ MayP g := fun h => p1 (decide_eq_true h)
          unfold rmayR; rw [if_neg hn]; done)
       | exact (rmay_no hm (fun h => by have := h.1; omega)).symm
       | exact (rmay_no hm (hin.bad (by omega) (by assumption) (by rintro ⟨⟨h1, h2⟩, h3⟩; omega))).symm
       | exact (rmay_no hm (hin.bad (by omega) (by assumption) (by rintro ⟨⟨h1, h2⟩, h3⟩; exact absurd h3 (by assumption)))).symm
       | exact (rmay_no hm (hin.twice (by omega) (by assumption) (by omega) (by omega) (by assumption))).symm
       | exact (rmay_yes hm ((hinv.fin (by omega) (by omega) rfl).2 (by omega))).symm
       | exact (rmay_no hm (fun h => by have := (hinv.fin (by omega) (by omega) rfl).1 h; omega)).symm
   exact ⟨(congrArg (a₁ := 0) (fun (z0 : Int) => Ending.returned (Value.int .i64 z0)) e0), hbase.below⟩
  refine run_cond_t rfl (congrArg Bool.not (decide_eq_false p3)) ?_
  refine run_seq ?_
  clear bx5
  refine run_region rfl ?_
  refine lv (Value.int .i64 4) rfl (e_assign rfl) ?_
  refine l_nil ?_
  refine run_ret (vs := [Value.int .i64 4]) Try.func12 (.tmp rfl .nil) ?_
  have e0 : (4 : Int) = (rmayR g r) := by
    first
      | (have hn : ¬ MayP g := fun h => p1 (decide_eq_true h)
         unfold rmayR; rw [if_neg hn]; done)
      | exact (rmay_no hm (fun h => by have := h.1; omega)).symm
      | exact (rmay_no hm (hin.bad (by omega) (by assumption) (by rintro ⟨⟨h1, h2⟩, h3⟩; omega))).symm
      | exact (rmay_no hm (hin.bad (by omega) (by assumption) (by rintro ⟨⟨h1, h2⟩, h3⟩; exact absurd h3 (by assumption)))).symm
      | exact (rmay_no hm (hin.twice (by omega) (by assumption) (by omega) (by omega) (by assumption))).symm
      | exact (rmay_yes hm ((hinv.fin (by omega) (by omega) rfl).2 (by omega))).symm
      | exact (rmay_no hm (fun h => by have := (hinv.fin (by omega) (by omega) rfl).1 h; omega)).symm
  replace hbase := hbase.chg ch2 (not_no _)
  replace hbase := hbase.chg hb7 (not_no _)
  exact ⟨(congrArg (a₁ := 4) (fun (z0 : Int) => Ending.returned (Value.int .i64 z0)) e0), hbase.below⟩
 refine run_cond_t rfl (congrArg Bool.not (Bool.eq_false_iff.2 p1)) ?_
 refine run_seq ?_
 clear bx5
 refine run_region rfl ?_
 refine lv (Value.int .i64 1) rfl (e_assign rfl) ?_
 refine l_nil ?_
 refine run_ret (vs := [Value.int .i64 1]) Try.func12 (.tmp rfl .nil) ?_
 have e0 : (1 : Int) = (rmayR g r) := by
   first
     | (have hn : ¬ MayP g := fun h => p1 (decide_eq_true h)
        unfold rmayR; rw [if_neg hn]; done)
     | exact (rmay_no hm (fun h => by have := h.1; omega)).symm
     | exact (rmay_no hm (hin.bad (by omega) (by assumption) (by rintro ⟨⟨h1, h2⟩, h3⟩; omega))).symm
     | exact (rmay_no hm (hin.bad (by omega) (by assumption) (by rintro ⟨⟨h1, h2⟩, h3⟩; exact absurd h3 (by assumption)))).symm
     | exact (rmay_no hm (hin.twice (by omega) (by assumption) (by omega) (by omega) (by assumption))).symm
     | exact (rmay_yes hm ((hinv.fin (by omega) (by omega) rfl).2 (by omega))).symm
     | exact (rmay_no hm (fun h => by have := (hinv.fin (by omega) (by omega) rfl).1 h; omega)).symm
 replace hbase := hbase.chg ch2 (not_no _)
 replace hbase := hbase.chg hb7 (not_no _)
 exact ⟨(congrArg (a₁ := 1) (fun (z0 : Int) => Ending.returned (Value.int .i64 z0)) e0), hbase.below⟩
theorem Lists_ok (w0 : World) (a : List (List Int)) (a_v : Value) (ha_v : Ro w0 a_v a) (b : List (List Int)) (b_v : Value) (hb_v : Ro w0 b_v b) :
    Calls Try.prog 57 #[a_v, b_v] w0 (fun ee w => ee = .returned (Value.bool (decide (a = b))) ∧ Bel w0.heap.size w0 w) := by
 refine calls_of_run Try.func57 rfl (Nat.le_of_ble_eq_true rfl) ?_
 have hbase := Base.start w0
 have r_a_v := ha_v.sl
 have r_b_v := hb_v.sl
 refine run_seq (run_region rfl ?_)
 refine lv (Value.bool false) rfl (e_assign rfl) ?_
 refine l_nil (run_seq (run_seq (run_region rfl ?_)))
 refine lv (a_v) rfl (e_move rfl) ?_
 have len1 := (r_a_v).small
 refine lv (Value.int .i64 (List.length a : Int)) rfl (e_len Try.underlying25 rfl r_a_v) ?_
 refine lv (b_v) rfl (e_move rfl) ?_
 have len2 := (r_b_v).small
 refine lv (Value.int .i64 (List.length b : Int)) rfl (e_len Try.underlying25 rfl r_b_v) ?_
 refine lv (Value.bool (!(decide ((List.length a : Int) = (List.length b : Int))))) rfl (e_neq (m := (List.length a : Int)) (n := (List.length b : Int)) rfl rfl) ?_
 refine l_nil ?_
 by_cases p1 : (List.length a : Int) = (List.length b : Int)
 ·
  refine run_cond_f rfl (congrArg Bool.not (decide_eq_true p1)) ?_
  refine run_skip ?_
  refine run_seq (run_seq (run_region rfl ?_))
  refine lv (Value.int .i64 0) rfl (e_assign rfl) ?_
  refine l_nil ?_
  refine run_block ?_
  refine run_loop (σ := Nat × Cmap) (fun ⟨k, gq⟩ f w => Base w0 gq w ∧ f 0 = a_v ∧ f 1 = b_v ∧ f 5 = Value.int .i64 (k : Int) ∧ Sl gq (is 0) w a_v a ∧ Sl gq (is 0) w b_v b ∧ (k : Int) ≤ ((List.length a : Int) : Int) ∧ (List.take k a = List.take k b)) (fun ⟨k, gq⟩ => Int.toNat (((List.length a : Int) : Int) - (k : Int))) (0, c0) ?_ ?_
  · exact ⟨hbase, rfl, rfl, rfl, r_a_v, r_b_v, by omega, by simp⟩
  clear r_a_v r_b_v hbase
  rintro ⟨k, g5⟩ f3 w4 ⟨hbase, zs0, zs1, zs5, r_a_v, r_b_v, hle_k, hinv4⟩ back4
  refine run_seq (run_seq (run_region rfl ?_))
  refine lv (Value.int .i64 (k : Int)) rfl (e_move (by exact zs5)) ?_
  refine lv (a_v) rfl (e_move (by exact zs0)) ?_
  refine lv (Value.int .i64 (List.length a : Int)) rfl (e_len Try.underlying25 rfl r_a_v) ?_
  refine lv (Value.bool (decide ((k : Int) < (List.length a : Int)))) rfl (e_lss (m := (k : Int)) (n := (List.length a : Int)) rfl rfl) ?_
  refine l_nil ?_
  by_cases p4 : (k : Int) < (List.length a : Int)
  ·
   refine run_cond_t rfl (decide_eq_true p4) ?_
   refine run_skip ?_
   refine run_seq ?_
   refine run_block ?_
   refine run_seq ?_
   refine region_q g5 rfl mixed_x (by kernel_rfl) ?_
   intro w7 ch6
   refine q_val (v := a_v) rfl (fun w' hw' => e_move (by exact zs0)) ?_
   refine q_val (v := Value.int .i64 (k : Int)) rfl (fun w' hw' => e_move (by exact zs5)) ?_
   replace r_a_v := r_a_v.chg ch6 (not_no _)
   refine q_val (v := Value.pointer (some (eAddr a_v 1 (Int.toNat (k : Int))))) rfl (fun w' hw' => e_indexAddr (α := List Int) (xs := a) (v := a_v) (i := (k : Int)) Try.underlying25 rfl rfl (r_a_v.bel hw') rfl (by omega) (by omega)) ?_
   obtain ⟨v8, cel9, r10⟩ := sl_row (r := (k : Int)) r_a_v (by omega) (by omega)
   refine q_val (v := v8) rfl (fun w' hw' => e_load1 tp27_x rfl (cel_bel cel9 hw')) ?_
   refine q_val (v := b_v) rfl (fun w' hw' => e_move (by exact zs1)) ?_
   refine q_val (v := Value.int .i64 (k : Int)) rfl (fun w' hw' => e_move (by exact zs5)) ?_
   replace r_b_v := r_b_v.chg ch6 (not_no _)
   refine q_val (v := Value.pointer (some (eAddr b_v 1 (Int.toNat (k : Int))))) rfl (fun w' hw' => e_indexAddr (α := List Int) (xs := b) (v := b_v) (i := (k : Int)) Try.underlying25 rfl rfl (r_b_v.bel hw') rfl (by omega) (by omega)) ?_
   obtain ⟨v11, cel12, r13⟩ := sl_row (r := (k : Int)) r_b_v (by omega) (by omega)
   refine q_val (v := v11) rfl (fun w' hw' => e_load1 tp27_x rfl (cel_bel cel12 hw')) ?_
   refine q_call (v := Value.bool (decide ((gI a (k : Int)) = (gI b (k : Int))))) rfl (fun w' hw' => e_call (vals := [v8, v11]) Try.func46 bd46_x nm46_x rfl) (fun w' hw' => (rInts_ok w' (gI a (k : Int)) v8 ((r10.bel hw')).ro (gI b (k : Int)) v11 ((r13.bel hw')).ro).mono fun e w2 h2 => ⟨h2.1, hw'.trans (h2.2.mono hw'.size)⟩) ?_
   refine q_val (v := Value.bool (!(decide ((gI a (k : Int)) = (gI b (k : Int)))))) rfl (fun w' hw' => e_not (b := (decide ((gI a (k : Int)) = (gI b (k : Int))))) rfl) ?_
   refine q_nil ?_
   intro w14 hc15
   replace hc15 := chg_below hc15 g5
   by_cases p6 : (decide ((gI a (k : Int)) = (gI b (k : Int)))) = true
   ·
    refine run_cond_f rfl (congrArg Bool.not p6) ?_
    refine run_skip ?_
    refine run_inBlock ?_
    clear r10 r13
    refine run_region rfl ?_
    refine lv (Value.int .i64 (k : Int)) rfl (e_move (by exact zs5)) ?_
    refine lv (Value.int .i64 ((k : Int) + 1)) rfl (e_add (m := (k : Int)) (n := 1) rfl rfl (by omega)) ?_
    refine lv (Value.int .i64 ((k : Int) + 1)) rfl (e_assign rfl) ?_
    refine l_nil ?_
    replace hbase := hbase.chg ch6 (not_no _)
    replace hbase := hbase.chg hc15 (not_no _)
    replace r_a_v := r_a_v.chg hc15 (not_no _)
    replace r_b_v := r_b_v.chg hc15 (not_no _)
    refine back4 (k + 1, g5) _ _ ⟨hbase, (by exact zs0), (by exact zs1), rfl, r_a_v, r_b_v, by omega, ?_⟩ ?_
    · show List.take (k + 1) a = List.take (k + 1) b
      rw [take_succ_gI (by assumption), take_succ_gI (by omega), hinv4]; simp_all
    · show Int.toNat (((List.length a : Int) : Int) - ((k + 1) : Int)) < Int.toNat (((List.length a : Int) : Int) - (k : Int))
      omega
   refine run_cond_t rfl (congrArg Bool.not (Bool.eq_false_iff.2 p6)) ?_
   refine run_seq ?_
   clear r10 r13
   refine run_region rfl ?_
   refine lv (Value.bool false) rfl (e_assign rfl) ?_
   refine l_nil ?_
   refine run_ret (vs := [Value.bool false]) Try.func57 (.tmp rfl .nil) ?_
   have e0 : (false : Bool) = (decide (a = b)) := by
     first
       | (have e := hinv4; rw [List.take_of_length_le (by omega), List.take_of_length_le (by omega)] at e; exact (decide_eq_true e).symm)
       | exact (decide_eq_false (fun h => by subst h; simp_all)).symm
       | exact (decide_eq_false (fun h => by subst h; omega)).symm
   replace hbase := hbase.chg ch6 (not_no _)
   replace hbase := hbase.chg hc15 (not_no _)
   exact ⟨(congrArg (a₁ := false) (fun (z0 : Bool) => Ending.returned (Value.bool z0)) e0), hbase.below⟩
  refine run_cond_f rfl (decide_eq_false p4) ?_
  refine run_exit rfl ?_
  refine run_seq (run_region rfl ?_)
  refine lv (Value.bool true) rfl (e_assign rfl) ?_
  refine l_nil ?_
  refine run_ret (vs := [Value.bool true]) Try.func57 (.tmp rfl .nil) ?_
  have e0 : (true : Bool) = (decide (a = b)) := by
    first
      | (have e := hinv4; rw [List.take_of_length_le (by omega), List.take_of_length_le (by omega)] at e; exact (decide_eq_true e).symm)
      | exact (decide_eq_false (fun h => by subst h; simp_all)).symm
      | exact (decide_eq_false (fun h => by subst h; omega)).symm
  exact ⟨(congrArg (a₁ := true) (fun (z0 : Bool) => Ending.returned (Value.bool z0)) e0), hbase.below⟩
 refine run_cond_t rfl (congrArg Bool.not (decide_eq_false p1)) ?_
 refine run_seq (run_region rfl ?_)
 refine lv (Value.bool false) rfl (e_assign rfl) ?_
 refine l_nil ?_
 refine run_ret (vs := [Value.bool false]) Try.func57 (.tmp rfl .nil) ?_
 have e0 : (false : Bool) = (decide (a = b)) := by
   first
     | (have e := hinv4; rw [List.take_of_length_le (by omega), List.take_of_length_le (by omega)] at e; exact (decide_eq_true e).symm)
     | exact (decide_eq_false (fun h => by subst h; simp_all)).symm
     | exact (decide_eq_false (fun h => by subst h; omega)).symm
 exact ⟨(congrArg (a₁ := false) (fun (z0 : Bool) => Ending.returned (Value.bool z0)) e0), hbase.below⟩
theorem Index_ok (w0 : World) (s : List Int) (s_v : Value) (hs_v : Ro w0 s_v s) (v : Int) :
    Calls Try.prog 71 #[s_v, Value.int .i64 v] w0 (fun ee w => ee = .returned (Value.int .i64 (idxS s v)) ∧ Bel w0.heap.size w0 w) := by
 refine calls_of_run Try.func71 rfl (Nat.le_of_ble_eq_true rfl) ?_
 have hbase := Base.start w0
 have r_s_v := hs_v.sl
 refine run_seq (run_region rfl ?_)
 refine lv (Value.int .i64 0) rfl (e_assign rfl) ?_
 refine l_nil (run_seq (run_seq (run_region rfl ?_)))
 refine lv (s_v) rfl (e_move rfl) ?_
 have len1 := (r_s_v).small
 refine lv (Value.int .i64 (List.length s : Int)) rfl (e_len Try.underlying27 rfl r_s_v) ?_
 refine lv (Value.int .i64 0) rfl (e_move rfl) ?_
 refine l_nil ?_
 refine run_block ?_
 refine run_loop (σ := Nat × Cmap) (fun ⟨k, gq⟩ f w => Base w0 gq w ∧ f 0 = s_v ∧ f 1 = Value.int .i64 v ∧ f 7 = Value.int .i64 (List.length s : Int) ∧ f 8 = Value.int .i64 (k : Int) ∧ Sl gq (is 0) w s_v s ∧ (k : Int) ≤ ((List.length s : Int) : Int) ∧ (∀ j : Nat, j < k → ¬ v = gI s (j : Int))) (fun ⟨k, gq⟩ => Int.toNat (((List.length s : Int) : Int) - (k : Int))) (0, c0) ?_ ?_
 · exact ⟨hbase, rfl, rfl, rfl, rfl, r_s_v, by omega, by intro j hj; omega⟩
 clear r_s_v hbase
 rintro ⟨k, g4⟩ f2 w3 ⟨hbase, zs0, zs1, zs7, zs8, r_s_v, hle_k, hinv⟩ back2
 refine run_seq (run_region rfl ?_)
 refine lv (Value.bool (decide ((k : Int) < (List.length s : Int)))) rfl (e_lss (m := (k : Int)) (n := (List.length s : Int)) (by exact zs8) (by exact zs7)) ?_
 refine l_nil (run_seq ?_)
 by_cases p2 : (k : Int) < (List.length s : Int)
 ·
  refine run_cond_t rfl (decide_eq_true p2) ?_
  refine run_skip ?_
  refine run_seq ?_
  refine run_block ?_
  refine run_seq (run_region rfl ?_)
  refine lv (Value.int .i64 (k : Int)) rfl (e_move (by exact zs8)) ?_
  refine lv (Value.int .i64 (k : Int)) rfl (e_assign rfl) ?_
  refine l_nil (run_seq (run_region rfl ?_))
  refine lv (Value.int .i64 v) rfl (e_move (by exact zs1)) ?_
  refine lv (s_v) rfl (e_move (by exact zs0)) ?_
  refine lv (Value.int .i64 (k : Int)) rfl (e_move rfl) ?_
  refine lv (Value.pointer (some (eAddr s_v 1 (Int.toNat (k : Int))))) rfl (e_indexAddr (α := Int) (xs := s) (v := s_v) (i := (k : Int)) Try.underlying27 rfl rfl r_s_v rfl (by omega) (by omega)) ?_
  refine lv (Value.int .i64 (gI s (k : Int))) rfl (e_load_el1 (α := Int) (xs := s) (v := s_v) (i := (k : Int)) tp3_x rfl r_s_v (by omega) (by omega) (by decide) rfl) ?_
  refine lv (Value.bool (decide (v = (gI s (k : Int))))) rfl (e_eql (m := v) (n := (gI s (k : Int))) rfl rfl) ?_
  refine l_nil ?_
  by_cases p4 : v = (gI s (k : Int))
  ·
   refine run_cond_t rfl (decide_eq_true p4) ?_
   refine run_seq (run_region rfl ?_)
   refine lv (Value.int .i64 (k : Int)) rfl (e_move rfl) ?_
   refine lv (Value.int .i64 (k : Int)) rfl (e_assign rfl) ?_
   refine l_nil ?_
   refine run_ret (vs := [Value.int .i64 (k : Int)]) Try.func71 (.tmp rfl .nil) ?_
   have e0 : ((k : Int) : Int) = (idxS s v) := by
     first
       | exact idxS_yes hinv (by assumption) (by assumption)
       | exact idxS_no hinv (by assumption)
   exact ⟨(congrArg (a₁ := (k : Int)) (fun (z0 : Int) => Ending.returned (Value.int .i64 z0)) e0), hbase.below⟩
  refine run_cond_f rfl (decide_eq_false p4) ?_
  refine run_skip ?_
  refine run_inBlock ?_
  refine run_region rfl ?_
  refine lv (Value.int .i64 ((k : Int) + 1)) rfl (e_add (m := (k : Int)) (n := 1) (by exact zs8) rfl (by omega)) ?_
  refine lv (Value.int .i64 ((k : Int) + 1)) rfl (e_move rfl) ?_
  refine l_nil ?_
  refine back2 (k + 1, g4) _ _ ⟨hbase, (by exact zs0), (by exact zs1), (by exact zs7), rfl, r_s_v, by omega, ?_⟩ ?_
  · show ∀ j : Nat, j < (k + 1) → ¬ v = gI s (j : Int)
    intro j hj
    by_cases e0 : j = k
    · subst e0; assumption
    · exact hinv j (by omega)
  · show Int.toNat (((List.length s : Int) : Int) - ((k + 1) : Int)) < Int.toNat (((List.length s : Int) : Int) - (k : Int))
    omega
 refine run_cond_f rfl (decide_eq_false p2) ?_
 refine run_exit rfl ?_
 refine run_seq (run_region rfl ?_)
 refine lv (Value.int .i64 (-1)) rfl (e_assign rfl) ?_
 refine l_nil ?_
 refine run_ret (vs := [Value.int .i64 (-1)]) Try.func71 (.tmp rfl .nil) ?_
 have e0 : (-1 : Int) = (idxS s v) := by
   first
     | exact idxS_yes hinv (by assumption) (by assumption)
     | exact idxS_no hinv (by assumption)
 exact ⟨(congrArg (a₁ := -1) (fun (z0 : Int) => Ending.returned (Value.int .i64 z0)) e0), hbase.below⟩
theorem turned_ok (w0 : World) (l : List Int) (l_v : Value) (hl_v : Ro w0 l_v l) :
    Calls Try.prog 90 #[l_v] w0 (fun ee w => ∃ xx : Cmap × Value, ee = .returned ((fun ⟨δ, rv0⟩ => rv0) xx) ∧ (fun (⟨δ, rv0⟩ : Cmap × Value) (w : World) => Fresh w0 δ w ∧ Ow δ (is 1) (is 1) w rv0 (turnS l)) xx w) := by
 refine calls_of_run Try.func90 rfl (Nat.le_of_ble_eq_true rfl) ?_
 have hbase := Base.start w0
 have r_l_v := hl_v.sl
 refine run_seq (run_region rfl ?_)
 refine lv (Value.slice none 0 0) rfl (e_assign rfl) ?_
 refine l_nil (run_seq (run_region rfl ?_))
 refine lv (Value.int .i64 0) rfl (e_assign rfl) ?_
 refine l_nil (run_seq (run_seq (run_region rfl ?_)))
 refine lv (Value.int .i64 0) rfl (e_assign rfl) ?_
 refine l_nil ?_
 refine run_block ?_
 refine run_loop (σ := Nat × Int × Cmap) (fun ⟨i, at_, gq⟩ f w => Base w0 gq w ∧ f 0 = l_v ∧ f 3 = Value.int .i64 at_ ∧ f 4 = Value.int .i64 (i : Int) ∧ Sl gq (is 0) w l_v l ∧ (i : Int) ≤ ((List.length l : Int) : Int) ∧ (TurnInv at_ l i)) (fun ⟨i, at_, gq⟩ => Int.toNat (((List.length l : Int) : Int) - (i : Int))) (0, 0, c0) ?_ ?_
 · exact ⟨hbase, rfl, rfl, rfl, r_l_v, by omega, by exact TurnInv.start l⟩
 clear r_l_v hbase
 rintro ⟨i, at_, g3⟩ f1 w2 ⟨hbase, zs0, zs3, zs4, r_l_v, hle_i, hinv⟩ back3
 have hlo := hinv.lo
 have hhi : at_ < l.length ∨ at_ = 0 ∧ l = [] := hinv.hi
 have hh2 : at_ ≤ (l.length : Int) := by rcases hhi with h | ⟨h1, h2⟩ <;> omega
 refine run_seq (run_seq (run_region rfl ?_))
 refine lv (Value.int .i64 (i : Int)) rfl (e_move (by exact zs4)) ?_
 refine lv (l_v) rfl (e_move (by exact zs0)) ?_
 have len4 := (r_l_v).small
 refine lv (Value.int .i64 (List.length l : Int)) rfl (e_len Try.underlying27 rfl r_l_v) ?_
 refine lv (Value.bool (decide ((i : Int) < (List.length l : Int)))) rfl (e_lss (m := (i : Int)) (n := (List.length l : Int)) rfl rfl) ?_
 refine l_nil ?_
 by_cases p3 : (i : Int) < (List.length l : Int)
 ·
  refine run_cond_t rfl (decide_eq_true p3) ?_
  have hh3 : at_ < (l.length : Int) := by rcases hhi with h | ⟨h1, h2⟩; exact h; subst h2; simp at *; omega
  refine run_skip ?_
  refine run_seq ?_
  refine run_block ?_
  refine run_seq ?_
  refine region_q g3 rfl mixed_x (by kernel_rfl) ?_
  intro w6 ch5
  refine q_val (v := l_v) rfl (fun w' hw' => e_move (by exact zs0)) ?_
  refine q_val (v := Value.int .i64 (i : Int)) rfl (fun w' hw' => e_move (by exact zs4)) ?_
  replace r_l_v := r_l_v.chg ch5 (not_no _)
  refine q_val (v := Value.pointer (some (eAddr l_v 1 (Int.toNat (i : Int))))) rfl (fun w' hw' => e_indexAddr (α := Int) (xs := l) (v := l_v) (i := (i : Int)) Try.underlying27 rfl rfl (r_l_v.bel hw') rfl (by omega) (by omega)) ?_
  refine q_val (v := Value.int .i64 (gI l (i : Int))) rfl (fun w' hw' => e_load_el1 (α := Int) (xs := l) (v := l_v) (i := (i : Int)) tp3_x rfl (r_l_v.bel hw') (by omega) (by omega) (by decide) rfl) ?_
  refine q_val (v := l_v) rfl (fun w' hw' => e_move (by exact zs0)) ?_
  refine q_val (v := Value.int .i64 at_) rfl (fun w' hw' => e_move (by exact zs3)) ?_
  refine q_val (v := Value.pointer (some (eAddr l_v 1 (Int.toNat at_)))) rfl (fun w' hw' => e_indexAddr (α := Int) (xs := l) (v := l_v) (i := at_) Try.underlying27 rfl rfl (r_l_v.bel hw') rfl (by omega) (by omega)) ?_
  refine q_val (v := Value.int .i64 (gI l at_)) rfl (fun w' hw' => e_load_el1 (α := Int) (xs := l) (v := l_v) (i := at_) tp3_x rfl (r_l_v.bel hw') (by omega) (by omega) (by decide) rfl) ?_
  refine q_val (v := Value.bool (decide ((gI l (i : Int)) < (gI l at_)))) rfl (fun w' hw' => e_lss (m := (gI l (i : Int))) (n := (gI l at_)) rfl rfl) ?_
  refine q_nil ?_
  intro w7 hc8
  replace hc8 := chg_below hc8 g3
  by_cases p5 : (gI l (i : Int)) < (gI l at_)
  ·
   refine run_cond_t rfl (decide_eq_true p5) ?_
   refine run_region rfl ?_
   refine lv (Value.int .i64 (i : Int)) rfl (e_move (by exact zs4)) ?_
   refine lv (Value.int .i64 (i : Int)) rfl (e_assign rfl) ?_
   refine l_nil ?_
   refine run_inBlock ?_
   refine run_region rfl ?_
   refine lv (Value.int .i64 (i : Int)) rfl (e_move (by exact zs4)) ?_
   refine lv (Value.int .i64 ((i : Int) + 1)) rfl (e_add (m := (i : Int)) (n := 1) rfl rfl (by omega)) ?_
   refine lv (Value.int .i64 ((i : Int) + 1)) rfl (e_assign rfl) ?_
   refine l_nil ?_
   replace hbase := hbase.chg ch5 (not_no _)
   replace hbase := hbase.chg hc8 (not_no _)
   replace r_l_v := r_l_v.chg hc8 (not_no _)
   refine back3 (i + 1, (i : Int), g3) _ _ ⟨hbase, (by exact zs0), rfl, rfl, r_l_v, by omega, ?_⟩ ?_
   · show TurnInv (i : Int) l (i + 1)
     first
       | exact hinv.yes (by assumption) (by assumption)
       | exact hinv.no (by assumption)
   · show Int.toNat (((List.length l : Int) : Int) - ((i + 1) : Int)) < Int.toNat (((List.length l : Int) : Int) - (i : Int))
     omega
  refine run_cond_f rfl (decide_eq_false p5) ?_
  refine run_skip ?_
  refine run_inBlock ?_
  refine run_region rfl ?_
  refine lv (Value.int .i64 (i : Int)) rfl (e_move (by exact zs4)) ?_
  refine lv (Value.int .i64 ((i : Int) + 1)) rfl (e_add (m := (i : Int)) (n := 1) rfl rfl (by omega)) ?_
  refine lv (Value.int .i64 ((i : Int) + 1)) rfl (e_assign rfl) ?_
  refine l_nil ?_
  replace hbase := hbase.chg ch5 (not_no _)
  replace hbase := hbase.chg hc8 (not_no _)
  replace r_l_v := r_l_v.chg hc8 (not_no _)
  refine back3 (i + 1, at_, g3) _ _ ⟨hbase, (by exact zs0), (by exact zs3), rfl, r_l_v, by omega, ?_⟩ ?_
  · show TurnInv at_ l (i + 1)
    first
      | exact hinv.yes (by assumption) (by assumption)
      | exact hinv.no (by assumption)
  · show Int.toNat (((List.length l : Int) : Int) - ((i + 1) : Int)) < Int.toNat (((List.length l : Int) : Int) - (i : Int))
    omega
 refine run_cond_f rfl (decide_eq_false p3) ?_
 refine run_exit rfl ?_
 refine run_seq ?_
 refine run_region_x g3 [0, 1, 2, 4, 5, 6, 8] mixed_x ?_
 intro w10 ch9
 refine x_pure (v := l_v) 0 rfl (by kernel_rfl) (by kernel_rfl) rfl (fun w => e_move (by exact zs0)) ?_
 refine x_pure (v := Value.int .i64 at_) 1 rfl (by kernel_rfl) (by kernel_rfl) rfl (fun w => e_move (by exact zs3)) ?_
 replace r_l_v := r_l_v.chg ch9 (not_no _)
 refine x_pure (v := (subV l_v 1 (Int.toNat at_) (Int.toNat l.length))) 2 rfl (by kernel_rfl) (by kernel_rfl) rfl (fun w => e_slice (α := Int) (xs := l) (v := l_v) (l := at_) (h := l.length) Try.underlying27 rfl rfl r_l_v (.inl (congrArg some rfl)) (.inr ⟨rfl, rfl⟩) (by omega) (by omega) (by omega)) ?_
 have r12 := sl_sub r_l_v (show Int.toNat at_ ≤ Int.toNat l.length by omega) (show Int.toNat l.length ≤ List.length _ by omega)
 refine x_pure (v := l_v) 4 rfl (by kernel_rfl) (by kernel_rfl) rfl (fun w => e_move (by exact zs0)) ?_
 refine x_pure (v := Value.int .i64 at_) 5 rfl (by kernel_rfl) (by kernel_rfl) rfl (fun w => e_move (by exact zs3)) ?_
 refine x_pure (v := (subV l_v 1 (Int.toNat 0) (Int.toNat at_))) 6 rfl (by kernel_rfl) (by kernel_rfl) rfl (fun w => e_slice (α := Int) (xs := l) (v := l_v) (l := 0) (h := at_) Try.underlying27 rfl rfl r_l_v (.inr ⟨rfl, rfl⟩) (.inl (congrArg some rfl)) (by omega) (by omega) (by omega)) ?_
 have r14 := sl_sub r_l_v (show Int.toNat 0 ≤ Int.toNat at_ by omega) (show Int.toNat at_ ≤ List.length _ by omega)
 refine x_one 3 rfl (by kernel_rfl) rfl ?_
 refine o_append (α := Int) (xs := ([])) (ys := (List.drop (Int.toNat at_) (List.take (Int.toNat l.length) l))) g3 (J := is 1) (S := is 1) (1, 0) rfl Try.underlying27 tp3_x (by decide) rfl rfl rfl Ow.nil r12 (by decide) (by first | omega | (simp; done) | (simp; omega)) ?_
 intro g15 w16 v17 ch18 o19
 replace o19 : Ow g15 (is 1) (is 1) w16 v17 (List.drop (Int.toNat at_) (List.take (Int.toNat l.length) l)) := o19
 refine x_one 7 rfl (by kernel_rfl) rfl ?_
 replace r14 := r14.chg ch18 (is_ne rfl)
 refine o_append (α := Int) (xs := (List.drop (Int.toNat at_) (List.take (Int.toNat l.length) l))) (ys := (List.drop (Int.toNat 0) (List.take (Int.toNat at_) l))) g15 (J := is 1) (S := is 1) (1, 0) rfl Try.underlying27 tp3_x (by decide) rfl rfl rfl o19 r14 (by decide) (by first | omega | (simp; done) | (simp; omega)) ?_
 intro g20 w21 v22 ch23 o24
 clear o19
 refine x_pure (v := v22) 8 rfl (by kernel_rfl) (by kernel_rfl) rfl (fun w => e_assign rfl) ?_
 refine x_nil (by kernel_rfl) ?_
 refine run_ret (vs := [v22]) Try.func90 (.tmp rfl .nil) ?_
 have C25 : Chg (inl [1]) _ _ _ _ := (ch9.n).seq ((ch18.l rfl).seq (ch23.l rfl))
 replace hbase := hbase.chg C25 (is_nl rfl)
 have e0 : (((List.drop (Int.toNat at_) (List.take (Int.toNat l.length) l)) ++ (List.drop (Int.toNat 0) (List.take (Int.toNat at_) l))) : List Int) = (turnS l) := by
   have hd := hinv.done (by assumption); simp at hd ⊢; exact hd
 exact ⟨(fin w0 g20 (fun n => if n = 1 then 1 else 0), v22), (congrArg (a₁ := ((List.drop (Int.toNat at_) (List.take (Int.toNat l.length) l)) ++ (List.drop (Int.toNat 0) (List.take (Int.toNat at_) l)))) (fun (z0 : List Int) => Ending.returned (v22)) e0), hbase.fresh _, (e0 ▸ (o24.glue (γ := c0) (ren := (fun n => if n = 1 then 1 else 0)) (k := 1) hbase.col rfl rfl))⟩
theorem rCanon_ok (w0 : World) (r : List (List Int)) (r_v : Value) (hr_v : Ro w0 r_v r) :
    Calls Try.prog 60 #[r_v] w0 (fun ee w => ∃ xx : Cmap × Value, ee = .returned ((fun ⟨δ, rv0⟩ => rv0) xx) ∧ (fun (⟨δ, rv0⟩ : Cmap × Value) (w : World) => Fresh w0 δ w ∧ Nst δ 1 w rv0 (canonS r)) xx w) := by
 refine calls_of_run Try.func60 rfl (Nat.le_of_ble_eq_true rfl) ?_
 have hbase := Base.start w0
 have r_r_v := hr_v.sl
 refine run_seq (run_region rfl ?_)
 refine lv (Value.slice none 0 0) rfl (e_assign rfl) ?_
 refine l_nil (run_seq (run_region rfl ?_))
 refine lv (r_v) rfl (e_move rfl) ?_
 have len1 := (r_r_v).small
 refine lv (Value.int .i64 (List.length r : Int)) rfl (e_len Try.underlying26 rfl r_r_v) ?_
 refine l_op rfl ?_
 refine o_make_nst (α := Int) (n := (List.length r : Int)) (cp := (List.length r : Int)) c0 1 Try.underlying26 tp27_x rfl rfl rfl (by omega) (by omega) (by omega) (by omega) ?_
 intro g2 w3 v4 ch5 o6
 refine lv (v4) rfl (e_assign rfl) ?_
 refine l_nil (run_seq (run_seq (run_region rfl ?_)))
 refine lv (Value.int .i64 0) rfl (e_assign rfl) ?_
 refine l_nil ?_
 refine run_block ?_
 refine run_loop (σ := Nat × (List (List Int)) × Cmap) (fun ⟨k, out, gq⟩ f w => Base w0 gq w ∧ f 0 = r_v ∧ f 3 = v4 ∧ f 4 = Value.int .i64 (k : Int) ∧ Sl gq (is 0) w r_v r ∧ Nst gq 1 w v4 out ∧ (k : Int) ≤ ((List.length r : Int) : Int) ∧ (out = List.map turnS (List.take k r) ++ List.replicate (r.length - k) [])) (fun ⟨k, out, gq⟩ => Int.toNat (((List.length r : Int) : Int) - (k : Int))) (0, (List.replicate (Int.toNat (List.length r : Int)) []), g2) ?_ ?_
 replace hbase := hbase.chg ch5 (not_no _)
 replace r_r_v := r_r_v.chg ch5 (not_no _)
 · exact ⟨hbase, rfl, rfl, rfl, r_r_v, o6, by omega, by simp⟩
 clear r_r_v o6 hbase
 rintro ⟨k, out, g9⟩ f7 w8 ⟨hbase, zs0, zs3, zs4, r_r_v, o6, hle_k, hinv⟩ back3
 have hol : out.length = r.length := by rw [hinv]; simp; omega
 refine run_seq (run_seq (run_region rfl ?_))
 refine lv (Value.int .i64 (k : Int)) rfl (e_move (by exact zs4)) ?_
 refine lv (r_v) rfl (e_move (by exact zs0)) ?_
 refine lv (Value.int .i64 (List.length r : Int)) rfl (e_len Try.underlying26 rfl r_r_v) ?_
 refine lv (Value.bool (decide ((k : Int) < (List.length r : Int)))) rfl (e_lss (m := (k : Int)) (n := (List.length r : Int)) rfl rfl) ?_
 refine l_nil ?_
 by_cases p3 : (k : Int) < (List.length r : Int)
 ·
  refine run_cond_t rfl (decide_eq_true p3) ?_
  refine run_skip ?_
  refine run_seq ?_
  refine run_block ?_
  refine run_region rfl ?_
  refine lv (v4) rfl (e_move (by exact zs3)) ?_
  refine lv (Value.int .i64 (k : Int)) rfl (e_move (by exact zs4)) ?_
  refine lv (r_v) rfl (e_move (by exact zs0)) ?_
  refine lv (Value.int .i64 (k : Int)) rfl (e_move (by exact zs4)) ?_
  refine lv (Value.pointer (some (eAddr r_v 1 (Int.toNat (k : Int))))) rfl (e_indexAddr (α := List Int) (xs := r) (v := r_v) (i := (k : Int)) Try.underlying26 rfl rfl r_r_v rfl (by omega) (by omega)) ?_
  obtain ⟨v10, cel11, r12⟩ := sl_row (r := (k : Int)) r_r_v (by omega) (by omega)
  refine lv (v10) rfl (e_load1 tp27_x rfl cel11) ?_
  refine l_op rfl ?_
  refine o_callx (e_call (vals := [v10]) Try.func90 bd90_x nm90_x rfl) (turned_ok w8 (gI r (k : Int)) v10 (r12).ro) ?_
  rintro ⟨d14, v16⟩ w13 ⟨fr15, o17⟩
  obtain ⟨g18, hg18⟩ : ∃ q, q = glue w8.heap.size g9 d14 (fun n => if n = 1 then 2 else 0) := ⟨_, rfl⟩
  have ch19 := chg_glue fr15.below g9 d14 (fun n => if n = 1 then 2 else 0)
  rw [← hg18] at ch19
  replace o17 := o17.glue (γ := g9) (ren := (fun n => if n = 1 then 2 else 0)) (k := 2) fr15.col rfl rfl
  rw [← hg18] at o17
  clear hg18
  replace o6 := o6.chg ch19 (not_no _)
  refine lv (Value.pointer (some (eAddr v4 1 (Int.toNat (k : Int))))) rfl (e_indexAddr (α := List Int) (xs := out) (v := v4) (i := (k : Int)) Try.underlying26 rfl rfl o6.sl rfl (by omega) (by omega)) ?_
  refine l_op rfl ?_
  refine o_store_fresh (r := (k : Int)) tp27_x rfl rfl o6 o17 rfl (by omega) (by omega) ?_
  intro g26 w23 ch24 o25
  clear o6 o17
  refine l_nil ?_
  refine run_inBlock ?_
  clear r12
  refine run_region rfl ?_
  refine lv (Value.int .i64 (k : Int)) rfl (e_move (by exact zs4)) ?_
  refine lv (Value.int .i64 ((k : Int) + 1)) rfl (e_add (m := (k : Int)) (n := 1) rfl rfl (by omega)) ?_
  refine lv (Value.int .i64 ((k : Int) + 1)) rfl (e_assign rfl) ?_
  refine l_nil ?_
  replace hbase := hbase.chg ch19 (not_no _)
  replace hbase := hbase.chg ch24 (is_ne2 rfl rfl)
  replace r_r_v := (r_r_v.chg ch19 (not_no _)).chg ch24 (is_ne2 rfl rfl)
  refine back3 (k + 1, (List.set out (Int.toNat (k : Int)) (turnS (gI r (k : Int)))), g26) _ _ ⟨hbase, (by exact zs0), (by exact zs3), rfl, r_r_v, o25, by omega, ?_⟩ ?_
  · show (List.set out (Int.toNat (k : Int)) (turnS (gI r (k : Int)))) = List.map turnS (List.take (k + 1) r) ++ List.replicate (r.length - (k + 1)) []
    rw [hinv]; exact map_next (by assumption) rfl
  · show Int.toNat (((List.length r : Int) : Int) - ((k + 1) : Int)) < Int.toNat (((List.length r : Int) : Int) - (k : Int))
    omega
 refine run_cond_f rfl (decide_eq_false p3) ?_
 refine run_exit rfl ?_
 refine run_seq (run_region rfl ?_)
 refine lv (v4) rfl (e_move (by exact zs3)) ?_
 refine lv (v4) rfl (e_assign rfl) ?_
 refine l_nil ?_
 refine run_ret (vs := [v4]) Try.func60 (.tmp rfl .nil) ?_
 have e0 : (out : List (List Int)) = (canonS r) := by
   rw [hinv, show k = r.length by omega]; simp [canonS]
 exact ⟨(fin w0 g9 (fun n => if n = 1 then 1 else 0), v4), (congrArg (a₁ := out) (fun (z0 : List (List Int)) => Ending.returned (v4)) e0), hbase.fresh _, (e0 ▸ (o6.glue (γ := c0) (ren := (fun n => if n = 1 then 1 else 0)) (k := 1) hbase.col rfl rfl))⟩
theorem canon_ok (w0 : World) (r : List (List Int)) (r_v : Value) (hr_v : Ro w0 r_v r) :
    Calls Try.prog 89 #[r_v] w0 (fun ee w => ∃ xx : Cmap × Value, ee = .returned ((fun ⟨δ, rv0⟩ => rv0) xx) ∧ (fun (⟨δ, rv0⟩ : Cmap × Value) (w : World) => Fresh w0 δ w ∧ Nst δ 1 w rv0 (canonS r)) xx w) := by
 refine calls_of_run Try.func89 rfl (Nat.le_of_ble_eq_true rfl) ?_
 have hbase := Base.start w0
 have r_r_v := hr_v.sl
 refine run_seq (run_region rfl ?_)
 refine lv (Value.slice none 0 0) rfl (e_assign rfl) ?_
 refine l_nil (run_seq (run_region rfl ?_))
 refine lv (r_v) rfl (e_move rfl) ?_
 have len1 := (r_r_v).small
 refine lv (Value.int .i64 (List.length r : Int)) rfl (e_len Try.underlying26 rfl r_r_v) ?_
 refine l_op rfl ?_
 refine o_make_nst (α := Int) (n := (List.length r : Int)) (cp := (List.length r : Int)) c0 1 Try.underlying26 tp27_x rfl rfl rfl (by omega) (by omega) (by omega) (by omega) ?_
 intro g2 w3 v4 ch5 o6
 refine lv (v4) rfl (e_assign rfl) ?_
 refine l_nil (run_seq (run_seq (run_region rfl ?_)))
 refine lv (r_v) rfl (e_move rfl) ?_
 replace r_r_v := r_r_v.chg ch5 (not_no _)
 refine lv (Value.int .i64 (List.length r : Int)) rfl (e_len Try.underlying26 rfl r_r_v) ?_
 refine lv (Value.int .i64 0) rfl (e_move rfl) ?_
 refine l_nil ?_
 refine run_block ?_
 refine run_loop (σ := Nat × (List (List Int)) × Cmap) (fun ⟨k, out, gq⟩ f w => Base w0 gq w ∧ f 3 = v4 ∧ f 10 = r_v ∧ f 11 = Value.int .i64 (List.length r : Int) ∧ f 12 = Value.int .i64 (k : Int) ∧ Sl gq (is 0) w r_v r ∧ Nst gq 1 w v4 out ∧ (k : Int) ≤ ((List.length r : Int) : Int) ∧ (out = List.map turnS (List.take k r) ++ List.replicate (r.length - k) [])) (fun ⟨k, out, gq⟩ => Int.toNat (((List.length r : Int) : Int) - (k : Int))) (0, (List.replicate (Int.toNat (List.length r : Int)) []), g2) ?_ ?_
 replace hbase := hbase.chg ch5 (not_no _)
 · exact ⟨hbase, rfl, rfl, rfl, rfl, r_r_v, o6, by omega, by simp⟩
 clear r_r_v o6 hbase
 rintro ⟨k, out, g9⟩ f7 w8 ⟨hbase, zs3, zs10, zs11, zs12, r_r_v, o6, hle_k, hinv⟩ back3
 have hol : out.length = r.length := by rw [hinv]; simp; omega
 refine run_seq (run_region rfl ?_)
 refine lv (Value.bool (decide ((k : Int) < (List.length r : Int)))) rfl (e_lss (m := (k : Int)) (n := (List.length r : Int)) (by exact zs12) (by exact zs11)) ?_
 refine l_nil (run_seq ?_)
 by_cases p3 : (k : Int) < (List.length r : Int)
 ·
  refine run_cond_t rfl (decide_eq_true p3) ?_
  refine run_skip ?_
  refine run_seq ?_
  refine run_block ?_
  refine run_seq (run_region rfl ?_)
  refine lv (Value.int .i64 (k : Int)) rfl (e_move (by exact zs12)) ?_
  refine lv (Value.pointer (some (eAddr r_v 1 (Int.toNat (k : Int))))) rfl (e_indexAddr (α := List Int) (xs := r) (v := r_v) (i := (k : Int)) Try.underlying26 rfl (by exact zs10) r_r_v (by exact zs12) (by omega) (by omega)) ?_
  obtain ⟨v10, cel11, r12⟩ := sl_row (r := (k : Int)) r_r_v (by omega) (by omega)
  refine lv (v10) rfl (e_load1 tp27_x rfl cel11) ?_
  refine lv (Value.int .i64 (k : Int)) rfl (e_assign rfl) ?_
  refine lv (v10) rfl (e_assign rfl) ?_
  refine l_nil (run_seq (run_seq (run_region rfl ?_)))
  refine lv (v10) rfl (e_move rfl) ?_
  have len13 := (r12).small
  refine lv (Value.int .i64 (List.length (gI r (k : Int)) : Int)) rfl (e_len Try.underlying27 rfl r12) ?_
  refine lv (Value.bool (decide ((List.length (gI r (k : Int)) : Int) = 0))) rfl (e_eql (m := (List.length (gI r (k : Int)) : Int)) (n := 0) rfl rfl) ?_
  refine l_nil ?_
  by_cases p5 : (List.length (gI r (k : Int)) : Int) = 0
  ·
   refine run_cond_t rfl (decide_eq_true p5) ?_
   refine run_exit rfl ?_
   clear r12
   refine run_region rfl ?_
   refine lv (Value.int .i64 ((k : Int) + 1)) rfl (e_add (m := (k : Int)) (n := 1) (by exact zs12) rfl (by omega)) ?_
   refine lv (Value.int .i64 ((k : Int) + 1)) rfl (e_move rfl) ?_
   refine l_nil ?_
   refine back3 (k + 1, out, g9) _ _ ⟨hbase, (by exact zs3), (by exact zs10), (by exact zs11), rfl, r_r_v, o6, by omega, ?_⟩ ?_
   · show out = List.map turnS (List.take (k + 1) r) ++ List.replicate (r.length - (k + 1)) []
     first
       | (rw [hinv]; exact map_skip (by assumption) (by rw [turnS, if_pos]; apply List.eq_nil_of_length_eq_zero; omega))
       | (rw [hinv]; exact map_next (by assumption) (by rw [hti.1]; simp))
   · show Int.toNat (((List.length r : Int) : Int) - ((k + 1) : Int)) < Int.toNat (((List.length r : Int) : Int) - (k : Int))
     omega
  have hti := turnS_idx (l := gI r (k : Int)) (by intro h; rw [h] at p5; simp at p5)
  have hti2 := hti.2.1
  have hti3 := hti.2.2
  refine run_cond_f rfl (decide_eq_false p5) ?_
  refine run_skip ?_
  refine run_seq (run_region rfl ?_)
  refine lv (v10) rfl (e_move rfl) ?_
  refine lv (v10) rfl (e_move rfl) ?_
  refine l_op rfl ?_
  refine o_call (v := Value.int .i64 (minL (gI r (k : Int)))) (e_call (vals := [v10]) Try.func102 bd102_x nm102_x rfl) (Min_ok w8 (gI r (k : Int)) v10 (r12).ro (by omega)) ?_
  intro w14 hb15
  replace hb15 := chg_below hb15 g9
  replace r12 := r12.chg hb15 (not_no _)
  refine l_op rfl ?_
  refine o_call (v := Value.int .i64 (idxS (gI r (k : Int)) (minL (gI r (k : Int))))) (e_call (vals := [v10, Value.int .i64 (minL (gI r (k : Int)))]) Try.func71 bd71_x nm71_x rfl) (Index_ok w14 (gI r (k : Int)) v10 (r12).ro (minL (gI r (k : Int)))) ?_
  intro w16 hb17
  replace hb17 := chg_below hb17 g9
  refine lv (Value.int .i64 (idxS (gI r (k : Int)) (minL (gI r (k : Int))))) rfl (e_assign rfl) ?_
  refine l_nil ?_
  refine run_region_x g9 [0, 1, 2, 3, 4, 6, 7, 8, 10] mixed_x ?_
  intro w19 ch18
  refine x_pure (v := v4) 0 rfl (by kernel_rfl) (by kernel_rfl) rfl (fun w => e_move (by exact zs3)) ?_
  refine x_pure (v := Value.int .i64 (k : Int)) 1 rfl (by kernel_rfl) (by kernel_rfl) rfl (fun w => e_move rfl) ?_
  refine x_pure (v := v10) 2 rfl (by kernel_rfl) (by kernel_rfl) rfl (fun w => e_move rfl) ?_
  refine x_pure (v := Value.int .i64 (idxS (gI r (k : Int)) (minL (gI r (k : Int))))) 3 rfl (by kernel_rfl) (by kernel_rfl) rfl (fun w => e_move rfl) ?_
  replace r12 := (r12.chg hb17 (not_no _)).chg ch18 (not_no _)
  refine x_pure (v := (subV v10 1 (Int.toNat (idxS (gI r (k : Int)) (minL (gI r (k : Int))))) (Int.toNat ((gI r (k : Int)).length)))) 4 rfl (by kernel_rfl) (by kernel_rfl) rfl (fun w => e_slice (α := Int) (xs := gI r (k : Int)) (v := v10) (l := idxS (gI r (k : Int)) (minL (gI r (k : Int)))) (h := (gI r (k : Int)).length) Try.underlying27 rfl rfl r12 (.inl (congrArg some rfl)) (.inr ⟨rfl, rfl⟩) (by omega) (by omega) (by omega)) ?_
  have r21 := sl_sub r12 (show Int.toNat (idxS (gI r (k : Int)) (minL (gI r (k : Int)))) ≤ Int.toNat ((gI r (k : Int)).length) by omega) (show Int.toNat ((gI r (k : Int)).length) ≤ List.length _ by omega)
  refine x_pure (v := v10) 6 rfl (by kernel_rfl) (by kernel_rfl) rfl (fun w => e_move rfl) ?_
  refine x_pure (v := Value.int .i64 (idxS (gI r (k : Int)) (minL (gI r (k : Int))))) 7 rfl (by kernel_rfl) (by kernel_rfl) rfl (fun w => e_move rfl) ?_
  refine x_pure (v := (subV v10 1 (Int.toNat 0) (Int.toNat (idxS (gI r (k : Int)) (minL (gI r (k : Int))))))) 8 rfl (by kernel_rfl) (by kernel_rfl) rfl (fun w => e_slice (α := Int) (xs := gI r (k : Int)) (v := v10) (l := 0) (h := idxS (gI r (k : Int)) (minL (gI r (k : Int)))) Try.underlying27 rfl rfl r12 (.inr ⟨rfl, rfl⟩) (.inl (congrArg some rfl)) (by omega) (by omega) (by omega)) ?_
  have r23 := sl_sub r12 (show Int.toNat 0 ≤ Int.toNat (idxS (gI r (k : Int)) (minL (gI r (k : Int)))) by omega) (show Int.toNat (idxS (gI r (k : Int)) (minL (gI r (k : Int)))) ≤ List.length _ by omega)
  refine x_one 5 rfl (by kernel_rfl) rfl ?_
  refine o_append (α := Int) (xs := ([])) (ys := (List.drop (Int.toNat (idxS (gI r (k : Int)) (minL (gI r (k : Int))))) (List.take (Int.toNat ((gI r (k : Int)).length)) (gI r (k : Int))))) g9 (J := is 2) (S := is 2) (2, 0) rfl Try.underlying27 tp3_x (by decide) rfl rfl rfl Ow.nil r21 (by decide) (by first | omega | (simp; done) | (simp; omega)) ?_
  intro g24 w25 v26 ch27 o28
  replace o28 : Ow g24 (is 2) (is 2) w25 v26 (List.drop (Int.toNat (idxS (gI r (k : Int)) (minL (gI r (k : Int))))) (List.take (Int.toNat ((gI r (k : Int)).length)) (gI r (k : Int)))) := o28
  refine x_one 9 rfl (by kernel_rfl) rfl ?_
  replace r23 := r23.chg ch27 (is_ne rfl)
  refine o_append (α := Int) (xs := (List.drop (Int.toNat (idxS (gI r (k : Int)) (minL (gI r (k : Int))))) (List.take (Int.toNat ((gI r (k : Int)).length)) (gI r (k : Int))))) (ys := (List.drop (Int.toNat 0) (List.take (Int.toNat (idxS (gI r (k : Int)) (minL (gI r (k : Int))))) (gI r (k : Int))))) g24 (J := is 2) (S := is 2) (2, 0) rfl Try.underlying27 tp3_x (by decide) rfl rfl rfl o28 r23 (by decide) (by first | omega | (simp; done) | (simp; omega)) ?_
  intro g29 w30 v31 ch32 o33
  clear o28
  have C34 : Chg (inl [2]) _ _ _ _ := (hb15.n).seq ((hb17.n).seq ((ch18.n).seq ((ch27.l rfl).seq (ch32.l rfl))))
  replace o6 := o6.chg C34 (is_nl rfl)
  refine x_val (v := Value.pointer (some (eAddr v4 1 (Int.toNat (k : Int))))) 10 [9, 5, 8, 7, 6, 4, 3, 2, 1, 0] rfl (by kernel_rfl) (by kernel_rfl) rfl (e_indexAddr (α := List Int) (xs := out) (v := v4) (i := (k : Int)) Try.underlying26 rfl rfl o6.sl rfl (by omega) (by omega)) ?_
  refine x_one 11 rfl (by kernel_rfl) rfl ?_
  refine o_store_fresh (r := (k : Int)) tp27_x rfl rfl o6 o33 rfl (by omega) (by omega) ?_
  intro g41 w38 ch39 o40
  clear o6 o33
  refine x_nil (by kernel_rfl) ?_
  refine run_inBlock ?_
  clear r12 r21 r23
  refine run_region rfl ?_
  refine lv (Value.int .i64 ((k : Int) + 1)) rfl (e_add (m := (k : Int)) (n := 1) (by exact zs12) rfl (by omega)) ?_
  refine lv (Value.int .i64 ((k : Int) + 1)) rfl (e_move rfl) ?_
  refine l_nil ?_
  have C42 : Chg (inl [1, 2]) _ _ _ _ := (hb15.n).seq ((hb17.n).seq ((ch18.n).seq ((ch27.l rfl).seq ((ch32.l rfl).seq (ch39.l2 rfl rfl)))))
  replace hbase := hbase.chg C42 (is_nl rfl)
  replace r_r_v := r_r_v.chg C42 (is_nl rfl)
  refine back3 (k + 1, (List.set out (Int.toNat (k : Int)) ((List.drop (Int.toNat (idxS (gI r (k : Int)) (minL (gI r (k : Int))))) (List.take (Int.toNat ((gI r (k : Int)).length)) (gI r (k : Int)))) ++ (List.drop (Int.toNat 0) (List.take (Int.toNat (idxS (gI r (k : Int)) (minL (gI r (k : Int))))) (gI r (k : Int)))))), g41) _ _ ⟨hbase, (by exact zs3), (by exact zs10), (by exact zs11), rfl, r_r_v, o40, by omega, ?_⟩ ?_
  · show (List.set out (Int.toNat (k : Int)) ((List.drop (Int.toNat (idxS (gI r (k : Int)) (minL (gI r (k : Int))))) (List.take (Int.toNat ((gI r (k : Int)).length)) (gI r (k : Int)))) ++ (List.drop (Int.toNat 0) (List.take (Int.toNat (idxS (gI r (k : Int)) (minL (gI r (k : Int))))) (gI r (k : Int)))))) = List.map turnS (List.take (k + 1) r) ++ List.replicate (r.length - (k + 1)) []
    first
      | (rw [hinv]; exact map_skip (by assumption) (by rw [turnS, if_pos]; apply List.eq_nil_of_length_eq_zero; omega))
      | (rw [hinv]; exact map_next (by assumption) (by rw [hti.1]; simp))
  · show Int.toNat (((List.length r : Int) : Int) - ((k + 1) : Int)) < Int.toNat (((List.length r : Int) : Int) - (k : Int))
    omega
 refine run_cond_f rfl (decide_eq_false p3) ?_
 refine run_exit rfl ?_
 refine run_seq (run_region rfl ?_)
 refine lv (v4) rfl (e_move (by exact zs3)) ?_
 refine lv (v4) rfl (e_assign rfl) ?_
 refine l_nil ?_
 refine run_ret (vs := [v4]) Try.func89 (.tmp rfl .nil) ?_
 have e0 : (out : List (List Int)) = (canonS r) := by
   rw [hinv, show k = r.length by omega]; simp [canonS]
 exact ⟨(fin w0 g9 (fun n => if n = 1 then 1 else 0), v4), (congrArg (a₁ := out) (fun (z0 : List (List Int)) => Ending.returned (v4)) e0), hbase.fresh _, (e0 ▸ (o6.glue (γ := c0) (ren := (fun n => if n = 1 then 1 else 0)) (k := 1) hbase.col rfl rfl))⟩
theorem Light9_ok (w0 : World) (g : (Int) × (List ((Int) × (Int)))) (g_v : Value) (hg_v : Ro w0 g_v g.2) (r : List (List Int)) (r_v : Value) (hr_v : Ro w0 r_v r) (hb : (r.length : Int) ≤ 1048576 ∧ ∀ l ∈ r, l.length ≤ 1048576) :
    Calls Try.prog 11 #[Value.agg (List.toArray [Value.int .i64 g.1, g_v]), r_v] w0 (fun ee w => ee = .returned (Value.bool (decide ((g.2.length ≤ 300 ∧ (g.1 ≤ 300 ∨ ¬ MayP g)) ∧ g.1 ≤ 200 ∧ r.length + r.flatten.length ≤ 1000))) ∧ Bel w0.heap.size w0 w) := by
 refine calls_of_run Try.func11 rfl (Nat.le_of_ble_eq_true rfl) ?_
 have hbase := Base.start w0
 have r_g_v := hg_v.sl
 have r_r_v := hr_v.sl
 obtain ⟨hb1, hb2⟩ := hb
 refine run_seq (run_region rfl (l_op rfl ?_))
 refine o_box c0 (is 1) (1, 0) rfl rfl ?_
 intro g4 w1 b3 ch2 bx5
 replace bx5 : Bx g4 (is 1) w1 b3 [Value.int .i64 g.1, g_v] := bx5
 refine lv (Value.bool false) rfl (e_assign rfl) ?_
 refine l_nil (run_seq (run_region rfl ?_))
 refine lv (r_v) rfl (e_move rfl) ?_
 replace r_r_v := r_r_v.chg ch2 (not_no _)
 have len6 := (r_r_v).small
 refine lv (Value.int .i64 (List.length r : Int)) rfl (e_len Try.underlying26 rfl r_r_v) ?_
 refine lv (Value.int .i64 (List.length r : Int)) rfl (e_assign rfl) ?_
 refine l_nil (run_seq (run_seq (run_region rfl ?_)))
 refine lv (Value.int .i64 0) rfl (e_assign rfl) ?_
 refine l_nil ?_
 refine run_block ?_
 refine run_loop (σ := Int × Nat × Cmap) (fun ⟨n, k, gq⟩ f w => Base w0 gq w ∧ f 1 = r_v ∧ f 2 = Value.pointer (some ⟨b3, 0, none⟩) ∧ f 5 = Value.int .i64 n ∧ f 6 = Value.int .i64 (k : Int) ∧ Sl gq (is 0) w g_v g.2 ∧ Sl gq (is 0) w r_v r ∧ Bx gq (is 1) w b3 [Value.int .i64 g.1, g_v] ∧ (k : Int) ≤ ((List.length r : Int) : Int) ∧ (n = (r.length : Int) + (((List.take k r).flatten.length : Nat) : Int) ∧ (((List.take k r).flatten.length : Nat) : Int) ≤ 1048576 * (k : Int))) (fun ⟨n, k, gq⟩ => Int.toNat (((List.length r : Int) : Int) - (k : Int))) ((List.length r : Int), 0, g4) ?_ ?_
 replace hbase := hbase.chg ch2 (not_no _)
 replace r_g_v := r_g_v.chg ch2 (not_no _)
 · exact ⟨hbase, rfl, rfl, rfl, rfl, r_g_v, r_r_v, bx5, by omega, by exact ⟨by simp, by simp⟩⟩
 clear r_g_v r_r_v bx5 hbase
 rintro ⟨n, k, g9⟩ f7 w8 ⟨hbase, zs1, zs2, zs5, zs6, r_g_v, r_r_v, bx5, hle_k, hinv⟩ back3
 refine run_seq (run_seq (run_region rfl ?_))
 refine lv (Value.int .i64 (k : Int)) rfl (e_move (by exact zs6)) ?_
 refine lv (r_v) rfl (e_move (by exact zs1)) ?_
 refine lv (Value.int .i64 (List.length r : Int)) rfl (e_len Try.underlying26 rfl r_r_v) ?_
 refine lv (Value.bool (decide ((k : Int) < (List.length r : Int)))) rfl (e_lss (m := (k : Int)) (n := (List.length r : Int)) rfl rfl) ?_
 refine l_nil ?_
 by_cases p3 : (k : Int) < (List.length r : Int)
 ·
  refine run_cond_t rfl (decide_eq_true p3) ?_
  have hlk := hb2 _ (gI_mem (xs := r) (i := (k : Int)) (by omega) (by assumption))
  refine run_skip ?_
  refine run_seq ?_
  refine run_block ?_
  refine run_region rfl ?_
  refine lv (Value.int .i64 n) rfl (e_move (by exact zs5)) ?_
  refine lv (r_v) rfl (e_move (by exact zs1)) ?_
  refine lv (Value.int .i64 (k : Int)) rfl (e_move (by exact zs6)) ?_
  refine lv (Value.pointer (some (eAddr r_v 1 (Int.toNat (k : Int))))) rfl (e_indexAddr (α := List Int) (xs := r) (v := r_v) (i := (k : Int)) Try.underlying26 rfl rfl r_r_v rfl (by omega) (by omega)) ?_
  obtain ⟨v10, cel11, r12⟩ := sl_row (r := (k : Int)) r_r_v (by omega) (by omega)
  refine lv (v10) rfl (e_load1 tp27_x rfl cel11) ?_
  have len13 := (r12).small
  refine lv (Value.int .i64 (List.length (gI r (k : Int)) : Int)) rfl (e_len Try.underlying27 rfl r12) ?_
  refine lv (Value.int .i64 (n + (List.length (gI r (k : Int)) : Int))) rfl (e_add (m := n) (n := (List.length (gI r (k : Int)) : Int)) rfl rfl (by omega)) ?_
  refine lv (Value.int .i64 (n + (List.length (gI r (k : Int)) : Int))) rfl (e_assign rfl) ?_
  refine l_nil ?_
  refine run_inBlock ?_
  clear r12
  refine run_region rfl ?_
  refine lv (Value.int .i64 (k : Int)) rfl (e_move (by exact zs6)) ?_
  refine lv (Value.int .i64 ((k : Int) + 1)) rfl (e_add (m := (k : Int)) (n := 1) rfl rfl (by omega)) ?_
  refine lv (Value.int .i64 ((k : Int) + 1)) rfl (e_assign rfl) ?_
  refine l_nil ?_
  refine back3 (n + (List.length (gI r (k : Int)) : Int), k + 1, g9) _ _ ⟨hbase, (by exact zs1), (by exact zs2), rfl, rfl, r_g_v, r_r_v, bx5, by omega, ?_⟩ ?_
  · show (n + (List.length (gI r (k : Int)) : Int)) = (r.length : Int) + (((List.take (k + 1) r).flatten.length : Nat) : Int) ∧ (((List.take (k + 1) r).flatten.length : Nat) : Int) ≤ 1048576 * ((k + 1) : Int)
    rw [flat_take_succ (by assumption), List.length_append]; constructor <;> omega
  · show Int.toNat (((List.length r : Int) : Int) - ((k + 1) : Int)) < Int.toNat (((List.length r : Int) : Int) - (k : Int))
    omega
 refine run_cond_f rfl (decide_eq_false p3) ?_
 refine run_exit rfl ?_
 refine run_seq (run_region rfl ?_)
 refine lv (Value.agg (List.toArray [Value.int .i64 g.1, g_v])) rfl (e_load_bxN (ds := [Value.int .i64 g.1, g_v]) tp24_x (by exact zs2) bx5 rfl rfl) ?_
 refine l_op rfl ?_
 refine o_call (v := Value.bool (decide (g.2.length ≤ 300 ∧ (g.1 ≤ 300 ∨ ¬ MayP g)))) (e_call (vals := [Value.agg (List.toArray [Value.int .i64 g.1, g_v])]) Try.func51 bd51_x nm51_x rfl) (Light_ok w8 g g_v (r_g_v).ro) ?_
 intro w14 hb15
 replace hb15 := chg_below hb15 g9
 refine lv (Value.bool (decide (g.2.length ≤ 300 ∧ (g.1 ≤ 300 ∨ ¬ MayP g)))) rfl (e_move rfl) ?_
 by_cases q24 : (decide (g.2.length ≤ 300 ∧ (g.1 ≤ 300 ∨ ¬ MayP g))) = true
 ·
  refine lv (Value.pointer (some ⟨b3, 0, none⟩)) (want_y rfl rfl rfl q24) (e_fieldAddr Try.underlying24 rfl rfl (by exact zs2) rfl) ?_
  replace bx5 := bx5.chg hb15 (not_no _)
  refine lv (Value.int .i64 g.1) (want_y rfl rfl rfl q24) (e_load_bx1 tp3_x rfl bx5 rfl) ?_
  refine lv (Value.bool (decide (g.1 ≤ 200))) (want_y rfl rfl rfl q24) (e_leq (m := g.1) (n := 200) rfl rfl) ?_
  refine lv (Value.bool (decide (g.1 ≤ 200))) rfl (e_pick_t rfl q24 rfl) ?_
  refine lv (Value.bool (decide (g.1 ≤ 200))) rfl (e_move rfl) ?_
  by_cases q29 : g.1 ≤ 200
  ·
   refine lv (Value.int .i64 n) (want_y rfl rfl rfl (decide_eq_true q29)) (e_move (by exact zs5)) ?_
   refine lv (Value.bool (decide (n ≤ 1000))) (want_y rfl rfl rfl (decide_eq_true q29)) (e_leq (m := n) (n := 1000) rfl rfl) ?_
   refine lv (Value.bool (decide (n ≤ 1000))) rfl (e_pick_t rfl (decide_eq_true q29) rfl) ?_
   refine lv (Value.bool (decide (n ≤ 1000))) rfl (e_assign rfl) ?_
   refine l_nil ?_
   refine run_ret (vs := [Value.bool (decide (n ≤ 1000))]) Try.func11 (.tmp rfl .nil) ?_
   have e0 : (decide (n ≤ 1000) : Bool) = (decide ((g.2.length ≤ 300 ∧ (g.1 ≤ 300 ∨ ¬ MayP g)) ∧ g.1 ≤ 200 ∧ r.length + r.flatten.length ≤ 1000)) := by
     (try rw [List.take_of_length_le (by omega)] at hinv)
     (try simp only [mayB] at *)
     obtain ⟨hi1, hi2⟩ := hinv
     by_cases h : MayP g <;> simp_all <;> omega
   replace hbase := hbase.chg hb15 (not_no _)
   exact ⟨(congrArg (a₁ := decide (n ≤ 1000)) (fun (z0 : Bool) => Ending.returned (Value.bool z0)) e0), hbase.below⟩
  refine l_skip (want_n rfl rfl rfl (decide_eq_false q29)) ?_
  refine l_skip (want_n rfl rfl rfl (decide_eq_false q29)) ?_
  refine lv (Value.bool false) rfl (e_pick_f rfl (decide_eq_false q29) rfl) ?_
  refine lv (Value.bool false) rfl (e_assign rfl) ?_
  refine l_nil ?_
  refine run_ret (vs := [Value.bool false]) Try.func11 (.tmp rfl .nil) ?_
  have e0 : (false : Bool) = (decide ((g.2.length ≤ 300 ∧ (g.1 ≤ 300 ∨ ¬ MayP g)) ∧ g.1 ≤ 200 ∧ r.length + r.flatten.length ≤ 1000)) := by
    (try rw [List.take_of_length_le (by omega)] at hinv)
    (try simp only [mayB] at *)
    obtain ⟨hi1, hi2⟩ := hinv
    by_cases h : MayP g <;> simp_all <;> omega
  replace hbase := hbase.chg hb15 (not_no _)
  exact ⟨(congrArg (a₁ := false) (fun (z0 : Bool) => Ending.returned (Value.bool z0)) e0), hbase.below⟩
 refine l_skip (want_n rfl rfl rfl (Bool.eq_false_iff.2 q24)) ?_
 refine l_skip (want_n rfl rfl rfl (Bool.eq_false_iff.2 q24)) ?_
 refine l_skip (want_n rfl rfl rfl (Bool.eq_false_iff.2 q24)) ?_
 refine lv (Value.bool false) rfl (e_pick_f rfl (Bool.eq_false_iff.2 q24) rfl) ?_
 refine lv (Value.bool false) rfl (e_move rfl) ?_
 refine l_skip (want_n rfl rfl rfl rfl) (l_skip (want_n rfl rfl rfl rfl) ?_)
 refine lv (Value.bool false) rfl (e_pick_f rfl rfl rfl) ?_
 refine lv (Value.bool false) rfl (e_assign rfl) ?_
 refine l_nil ?_
 refine run_ret (vs := [Value.bool false]) Try.func11 (.tmp rfl .nil) ?_
 have e0 : (false : Bool) = (decide ((g.2.length ≤ 300 ∧ (g.1 ≤ 300 ∨ ¬ MayP g)) ∧ g.1 ≤ 200 ∧ r.length + r.flatten.length ≤ 1000)) := by
   (try rw [List.take_of_length_le (by omega)] at hinv)
   (try simp only [mayB] at *)
   obtain ⟨hi1, hi2⟩ := hinv
   by_cases h : MayP g <;> simp_all <;> omega
 replace hbase := hbase.chg hb15 (not_no _)
 exact ⟨(congrArg (a₁ := false) (fun (z0 : Bool) => Ending.returned (Value.bool z0)) e0), hbase.below⟩
end TL
