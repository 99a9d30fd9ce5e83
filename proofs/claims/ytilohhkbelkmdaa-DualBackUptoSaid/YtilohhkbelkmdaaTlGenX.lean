import Derived.Test.YtilohhkbelkmdaaTlGenA
import Derived.Test.YtilohhkbelkmdaaTlGenQ
import Derived.Test.YtilohhkbelkmdaaTlP3
import Derived.Test.YtilohhkbelkmdaaProg
set_option linter.all false
set_option maxRecDepth 20000
namespace TL
open Go Go.Proofs
theorem mixed_x : Try.prog.follows .mixedOrders = true := by kernel_rfl
theorem tp3_x : Tp Try.prog 3 false 1 8 (.int .i64 0) := Tp.of (by kernel_rfl)
theorem tp4_x : Tp Try.prog 4 false 1 1 (.bool false) := Tp.of (by kernel_rfl)
theorem tp22_x : Tp Try.prog 22 false 1 24 (.slice none 0 0) := Tp.of (by kernel_rfl)
theorem tp24_x : Tp Try.prog 24 true 2 32 (.agg #[.int .i64 0, .slice none 0 0]) := Tp.of (by kernel_rfl)
theorem tp27_x : Tp Try.prog 27 false 1 24 (.slice none 0 0) := Tp.of (by kernel_rfl)
theorem bd35_x : Try.f35.body.isNone = false := rfl
theorem nm35_x : (Try.f35.name == "runtime.NumGoroutine") = false := by decide +kernel
theorem bd51_x : Try.f51.body.isNone = false := rfl
theorem nm51_x : (Try.f51.name == "runtime.NumGoroutine") = false := by decide +kernel
theorem bd52_x : Try.f52.body.isNone = false := rfl
theorem nm52_x : (Try.f52.name == "runtime.NumGoroutine") = false := by decide +kernel
theorem bd53_x : Try.f53.body.isNone = false := rfl
theorem nm53_x : (Try.f53.name == "runtime.NumGoroutine") = false := by decide +kernel
theorem bd71_x : Try.f71.body.isNone = false := rfl
theorem nm71_x : (Try.f71.name == "runtime.NumGoroutine") = false := by decide +kernel
theorem bd102_x : Try.f102.body.isNone = false := rfl
theorem nm102_x : (Try.f102.name == "runtime.NumGoroutine") = false := by decide +kernel
theorem RMay_ok (w0 : World) (g : (Int) × (List ((Int) × (Int)))) (g_v : Value) (hg_v : Ro w0 g_v g.2) (r : List (List Int)) (r_v : Value) (hr_v : Ro w0 r_v r) :
    Calls Try.prog 15 #[Value.agg (List.toArray [Value.int .i64 g.1, g_v]), r_v] w0 (fun ee w => ee = .returned (Value.int .i64 (rmayR g r)) ∧ Bel w0.heap.size w0 w) := by
 refine calls_of_run Try.func15 rfl (Nat.le_of_ble_eq_true rfl) ?_
 have hbase := Base.start w0
 have r_g_v := hg_v.sl
 have r_r_v := hr_v.sl
 refine run_seq (run_region rfl (l_op rfl ?_))
 refine o_box c0 (is 1) (1, 0) rfl rfl ?_
 intro g4 w1 b3 ch2 bx5
 replace bx5 : Bx g4 (is 1) w1 b3 [Value.int .i64 g.1, g_v] := bx5
 refine l_val (v := Value.int .i64 0) rfl (e_assign rfl) ?_
 refine l_nil (run_seq (run_seq (run_region rfl ?_)))
 refine l_val (v := Value.agg (List.toArray [Value.int .i64 g.1, g_v])) rfl (e_load_bxN (ds := [Value.int .i64 g.1, g_v]) tp24_x rfl bx5 rfl rfl) ?_
 replace r_g_v := r_g_v.chg ch2 (not_no _)
 refine l_op rfl ?_
 refine o_call (v := Value.bool (mayB g)) (e_call (vals := [Value.agg (List.toArray [Value.int .i64 g.1, g_v])]) Try.func53 bd53_x nm53_x rfl) (May_ok w1 g g_v (r_g_v).ro) ?_
 intro w6 hb7
 replace hb7 := chg_below hb7 g4
 refine l_val (v := Value.bool (!(mayB g))) rfl (e_not (b := (mayB g)) rfl) ?_
 refine l_nil ?_
 by_cases p1 : (mayB g) = true
 ·
  have hm := of_decide_eq_true p1
  have hm0 := hm
  obtain ⟨hm1, hm2, hm3, hm4⟩ := hm0
  refine run_cond_f rfl (congrArg Bool.not p1) ?_
  refine run_skip ?_
  refine run_seq (run_seq (run_region rfl ?_))
  refine l_val (v := r_v) rfl (e_move rfl) ?_
  replace r_r_v := (r_r_v.chg ch2 (not_no _)).chg hb7 (not_no _)
  have len8 := (r_r_v).small
  refine l_val (v := Value.int .i64 (List.length r : Int)) rfl (e_len Try.underlying26 rfl r_r_v) ?_
  refine l_val (v := Value.pointer (some ⟨b3, 0, none⟩)) rfl (e_fieldAddr Try.underlying24 rfl rfl rfl rfl) ?_
  replace bx5 := bx5.chg hb7 (not_no _)
  refine l_val (v := Value.int .i64 g.1) rfl (e_load_bx1 tp3_x rfl bx5 rfl) ?_
  refine l_val (v := Value.bool (!(decide ((List.length r : Int) = g.1)))) rfl (e_neq (m := (List.length r : Int)) (n := g.1) rfl rfl) ?_
  refine l_nil ?_
  by_cases p3 : (List.length r : Int) = g.1
  ·
   refine run_cond_f rfl (congrArg Bool.not (decide_eq_true p3)) ?_
   refine run_skip ?_
   refine run_seq (run_region rfl ?_)
   refine l_val (v := Value.pointer (some ⟨b3, 1, none⟩)) rfl (e_fieldAddr Try.underlying24 rfl rfl rfl rfl) ?_
   refine l_val (v := g_v) rfl (e_load_bx1 tp22_x rfl bx5 rfl) ?_
   replace r_g_v := r_g_v.chg hb7 (not_no _)
   have len9 := (r_g_v).small
   refine l_val (v := Value.int .i64 (List.length g.2 : Int)) rfl (e_len Try.underlying22 rfl r_g_v) ?_
   refine l_val (v := Value.int .i64 (2 * (List.length g.2 : Int))) rfl (e_mul (m := 2) (n := (List.length g.2 : Int)) rfl rfl (by omega)) ?_
   refine l_op rfl ?_
   refine o_make (α := Bool) (l := 2 * (List.length g.2 : Int)) (cp := 2 * (List.length g.2 : Int)) g4 (is 2) (is 2) (2, 0) rfl false Try.underlying75 tp4_x rfl rfl rfl (by omega) (by omega) (by omega) (by omega) ?_
   intro g10 w11 v12 ch13 o14 _
   refine l_val (v := v12) rfl (e_assign rfl) ?_
   refine l_nil (run_seq (run_region rfl ?_))
   refine l_val (v := Value.int .i64 0) rfl (e_assign rfl) ?_
   refine l_nil (run_seq (run_seq (run_region rfl ?_)))
   refine l_val (v := r_v) rfl (e_move rfl) ?_
   replace r_r_v := r_r_v.chg ch13 (not_no _)
   refine l_val (v := Value.int .i64 (List.length r : Int)) rfl (e_len Try.underlying26 rfl r_r_v) ?_
   refine l_val (v := Value.int .i64 0) rfl (e_move rfl) ?_
   refine l_nil ?_
   refine run_block ?_
   refine run_loop (σ := Int × Nat × (List Bool) × Cmap) (fun ⟨n, k, seen, gq⟩ f w => Base w0 gq w ∧ f 2 = Value.pointer (some ⟨b3, 0, none⟩) ∧ f 5 = v12 ∧ f 6 = Value.int .i64 n ∧ f 24 = r_v ∧ f 25 = Value.int .i64 (List.length r : Int) ∧ f 26 = Value.int .i64 (k : Int) ∧ Sl gq (is 0) w g_v g.2 ∧ Sl gq (is 0) w r_v r ∧ Bx gq (is 1) w b3 [Value.int .i64 g.1, g_v] ∧ Ow gq (is 2) (is 2) w v12 seen ∧ (k : Int) ≤ ((List.length r : Int) : Int) ∧ (MayInv seen n g r k 0)) (fun ⟨n, k, seen, gq⟩ => Int.toNat (((List.length r : Int) : Int) - (k : Int))) (0, 0, (List.replicate (Int.toNat (2 * (List.length g.2 : Int))) false), g10) ?_ ?_
   have C15 : Chg (inl []) _ _ _ _ := (ch2.n).seq ((hb7.n).seq (ch13.n))
   replace hbase := hbase.chg C15 (is_nl rfl)
   replace r_g_v := r_g_v.chg ch13 (not_no _)
   replace bx5 := bx5.chg ch13 (not_no _)
   · exact ⟨hbase, rfl, rfl, rfl, rfl, rfl, rfl, r_g_v, r_r_v, bx5, o14, by omega, by exact MayInv.start g r⟩
   clear r_g_v
   clear r_r_v
   clear bx5
   clear o14
   clear hbase
   rintro ⟨n, k, seen, g18⟩ f16 w17 ⟨hbase, zs2, zs5, zs6, zs24, zs25, zs26, r_g_v, r_r_v, bx5, o14, hle_k, hinv⟩ back8
   have hsl := hinv.rm.len
   have hbd := hinv.bd
   refine run_seq (run_region rfl ?_)
   refine l_val (v := Value.bool (decide ((k : Int) < (List.length r : Int)))) rfl (e_lss (m := (k : Int)) (n := (List.length r : Int)) (by exact zs26) (by exact zs25)) ?_
   refine l_nil (run_seq ?_)
   by_cases p8 : (k : Int) < (List.length r : Int)
   ·
    refine run_cond_t rfl (decide_eq_true p8) ?_
    refine run_skip ?_
    refine run_seq ?_
    refine run_block ?_
    refine run_seq (run_region rfl ?_)
    refine l_val (v := Value.int .i64 (k : Int)) rfl (e_move (by exact zs26)) ?_
    refine l_val (v := Value.pointer (some (eAddr r_v 1 (Int.toNat (k : Int))))) rfl (e_indexAddr (α := List Int) (xs := r) (v := r_v) (i := (k : Int)) Try.underlying26 rfl (by exact zs24) r_r_v (by exact zs26) (by omega) (by omega)) ?_
    obtain ⟨v19, cel20, r21⟩ := sl_row (r := (k : Int)) r_r_v (by omega) (by omega)
    refine l_val (v := v19) rfl (e_load1 tp27_x rfl cel20) ?_
    refine l_val (v := Value.int .i64 (k : Int)) rfl (e_assign rfl) ?_
    refine l_val (v := v19) rfl (e_assign rfl) ?_
    refine l_nil (run_seq (run_region rfl ?_))
    refine l_val (v := v19) rfl (e_move rfl) ?_
    have len22 := (r21).small
    refine l_val (v := Value.int .i64 (List.length (gI r (k : Int)) : Int)) rfl (e_len Try.underlying27 rfl r21) ?_
    refine l_val (v := Value.int .i64 0) rfl (e_move rfl) ?_
    refine l_nil ?_
    refine run_block ?_
    refine run_loop (σ := Int × Nat × (List Bool) × Cmap) (fun ⟨n, i, seen, gq⟩ f w => Base w0 gq w ∧ f 2 = Value.pointer (some ⟨b3, 0, none⟩) ∧ f 5 = v12 ∧ f 6 = Value.int .i64 n ∧ f 7 = Value.int .i64 (k : Int) ∧ f 24 = r_v ∧ f 25 = Value.int .i64 (List.length r : Int) ∧ f 26 = Value.int .i64 (k : Int) ∧ f 31 = v19 ∧ f 32 = Value.int .i64 (List.length (gI r (k : Int)) : Int) ∧ f 33 = Value.int .i64 (i : Int) ∧ Sl gq (is 0) w g_v g.2 ∧ Sl gq (is 0) w r_v r ∧ Bx gq (is 1) w b3 [Value.int .i64 g.1, g_v] ∧ Ow gq (is 2) (is 2) w v12 seen ∧ Sl gq (is 0) w v19 (gI r (k : Int)) ∧ (i : Int) ≤ ((List.length (gI r (k : Int)) : Int) : Int) ∧ (MayInv seen n g r k i)) (fun ⟨n, i, seen, gq⟩ => Int.toNat (((List.length (gI r (k : Int)) : Int) : Int) - (i : Int))) (n, 0, seen, g18) ?_ ?_
    · exact ⟨hbase, (by exact zs2), (by exact zs5), (by exact zs6), rfl, (by exact zs24), (by exact zs25), (by exact zs26), rfl, rfl, rfl, r_g_v, r_r_v, bx5, o14, r21, by omega, by exact hinv⟩
    clear r_g_v
    clear r_r_v
    clear bx5
    clear o14
    clear r21
    clear hbase
    rintro ⟨n, i, seen, g25⟩ f23 w24 ⟨hbase, zs2, zs5, zs6, zs7, zs24, zs25, zs26, zs31, zs32, zs33, r_g_v, r_r_v, bx5, o14, r21, hle_i, hin⟩ back11
    have hsl := hin.rm.len
    have hbd := hin.bd
    refine run_seq (run_region rfl ?_)
    refine l_val (v := Value.bool (decide ((i : Int) < (List.length (gI r (k : Int)) : Int)))) rfl (e_lss (m := (i : Int)) (n := (List.length (gI r (k : Int)) : Int)) (by exact zs33) (by exact zs32)) ?_
    refine l_nil (run_seq ?_)
    by_cases p11 : (i : Int) < (List.length (gI r (k : Int)) : Int)
    ·
     refine run_cond_t rfl (decide_eq_true p11) ?_
     refine run_skip ?_
     refine run_seq ?_
     refine run_block ?_
     refine run_seq (run_region rfl ?_)
     refine l_val (v := Value.pointer (some (eAddr v19 1 (Int.toNat (i : Int))))) rfl (e_indexAddr (α := Int) (xs := gI r (k : Int)) (v := v19) (i := (i : Int)) Try.underlying27 rfl (by exact zs31) r21 (by exact zs33) (by omega) (by omega)) ?_
     refine l_val (v := Value.int .i64 (gI (gI r (k : Int)) (i : Int))) rfl (e_load_el1 (α := Int) (xs := gI r (k : Int)) (v := v19) (i := (i : Int)) tp3_x rfl r21 (by omega) (by omega) (by decide) rfl) ?_
     refine l_val (v := Value.int .i64 (gI (gI r (k : Int)) (i : Int))) rfl (e_assign rfl) ?_
     refine l_nil (run_seq (run_seq (run_region rfl ?_)))
     refine l_val (v := Value.int .i64 (gI (gI r (k : Int)) (i : Int))) rfl (e_move rfl) ?_
     refine l_val (v := Value.bool (decide ((gI (gI r (k : Int)) (i : Int)) < 0))) rfl (e_lss (m := (gI (gI r (k : Int)) (i : Int))) (n := 0) rfl rfl) ?_
     refine l_val (v := Value.bool (decide ((gI (gI r (k : Int)) (i : Int)) < 0))) rfl (e_move rfl) ?_
     by_cases q39 : (gI (gI r (k : Int)) (i : Int)) < 0
     ·
      refine l_skip (want_n rfl rfl rfl (decide_eq_true q39)) ?_
      refine l_skip (want_n rfl rfl rfl (decide_eq_true q39)) ?_
      refine l_skip (want_n rfl rfl rfl (decide_eq_true q39)) ?_
      refine l_skip (want_n rfl rfl rfl (decide_eq_true q39)) ?_
      refine l_val (v := Value.bool true) rfl (e_pick_t rfl (decide_eq_true q39) rfl) ?_
      refine l_val (v := Value.bool true) rfl (e_move rfl) ?_
      refine l_skip (want_n rfl rfl rfl rfl) (l_skip (want_n rfl rfl rfl rfl) (l_skip (want_n rfl rfl rfl rfl) (l_skip (want_n rfl rfl rfl rfl) ?_)))
      refine l_val (v := Value.bool true) rfl (e_pick_t rfl rfl rfl) ?_
      refine l_val (v := Value.bool true) rfl (e_move rfl) ?_
      refine l_skip (want_n rfl rfl rfl rfl) (l_skip (want_n rfl rfl rfl rfl) (l_skip (want_n rfl rfl rfl rfl) (l_skip (want_n rfl rfl rfl rfl) (l_skip (want_n rfl rfl rfl rfl) (l_skip (want_n rfl rfl rfl rfl) (l_skip (want_n rfl rfl rfl rfl) (l_skip (want_n rfl rfl rfl rfl) (l_skip (want_n rfl rfl rfl rfl) (l_skip (want_n rfl rfl rfl rfl) (l_skip (want_n rfl rfl rfl rfl) ?_))))))))))
      refine l_val (v := Value.bool true) rfl (e_pick_t rfl rfl rfl) ?_
      refine l_nil ?_
      refine run_cond_t rfl rfl ?_
      refine run_seq ?_
      clear bx5
      clear o14
      clear r21
      refine run_region rfl ?_
      refine l_val (v := Value.int .i64 4) rfl (e_assign rfl) ?_
      refine l_nil ?_
      refine run_ret (vs := [Value.int .i64 4]) Try.func15 (.tmp rfl .nil) ?_
      -- return 0
      have e0 : (4 : Int) = (rmayR g r) := by
        first
          | (have hn : ¬ MayP g := fun h => p1 (decide_eq_true h)
             unfold rmayR; rw [if_neg hn]; done)
          | exact (rmay_no hm (fun h => by have := h.1; omega)).symm
          | exact (rmay_no hm (hin.bad (by omega) (by assumption) (by rintro ⟨⟨h1, h2⟩, h3⟩; omega))).symm
          | exact (rmay_no hm (hin.bad (by omega) (by assumption) (by rintro ⟨⟨h1, h2⟩, h3⟩; exact absurd h3 (by assumption)))).symm
          | exact (rmay_no hm (hin.twice (by omega) (by assumption) (by omega) (by omega) (by assumption))).symm
          | exact (rmay_yes hm ((hinv.fin (by omega) (by omega) rfl).2 (by omega))).symm
          | exact (rmay_no hm (fun h => by have := (hinv.fin (by omega) (by omega) rfl).1 h; omega)).symm
      exact ⟨(congrArg (a₁ := 4) (fun (z0 : Int) => Ending.returned (Value.int .i64 z0)) e0), hbase.below⟩
     refine l_val (v := Value.int .i64 (gI (gI r (k : Int)) (i : Int))) (want_y rfl rfl rfl (decide_eq_false q39)) (e_move rfl) ?_
     refine l_val (v := v12) (want_y rfl rfl rfl (decide_eq_false q39)) (e_move (by exact zs5)) ?_
     have len26 := (o14.flat).small
     refine l_val (v := Value.int .i64 (List.length seen : Int)) (want_y rfl rfl rfl (decide_eq_false q39)) (e_len Try.underlying75 rfl o14.flat) ?_
     refine l_val (v := Value.bool (decide ((List.length seen : Int) ≤ (gI (gI r (k : Int)) (i : Int))))) (want_y rfl rfl rfl (decide_eq_false q39)) (e_geq (m := (gI (gI r (k : Int)) (i : Int))) (n := (List.length seen : Int)) rfl rfl) ?_
     refine l_val (v := Value.bool (decide ((List.length seen : Int) ≤ (gI (gI r (k : Int)) (i : Int))))) rfl (e_pick_f rfl (decide_eq_false q39) rfl) ?_
     refine l_val (v := Value.bool (decide ((List.length seen : Int) ≤ (gI (gI r (k : Int)) (i : Int))))) rfl (e_move rfl) ?_
     by_cases q45 : (List.length seen : Int) ≤ (gI (gI r (k : Int)) (i : Int))
     ·
      refine l_skip (want_n rfl rfl rfl (decide_eq_true q45)) ?_
      refine l_skip (want_n rfl rfl rfl (decide_eq_true q45)) ?_
      refine l_skip (want_n rfl rfl rfl (decide_eq_true q45)) ?_
      refine l_skip (want_n rfl rfl rfl (decide_eq_true q45)) ?_
      refine l_val (v := Value.bool true) rfl (e_pick_t rfl (decide_eq_true q45) rfl) ?_
      refine l_val (v := Value.bool true) rfl (e_move rfl) ?_
      refine l_skip (want_n rfl rfl rfl rfl) (l_skip (want_n rfl rfl rfl rfl) (l_skip (want_n rfl rfl rfl rfl) (l_skip (want_n rfl rfl rfl rfl) (l_skip (want_n rfl rfl rfl rfl) (l_skip (want_n rfl rfl rfl rfl) (l_skip (want_n rfl rfl rfl rfl) (l_skip (want_n rfl rfl rfl rfl) (l_skip (want_n rfl rfl rfl rfl) (l_skip (want_n rfl rfl rfl rfl) (l_skip (want_n rfl rfl rfl rfl) ?_))))))))))
      refine l_val (v := Value.bool true) rfl (e_pick_t rfl rfl rfl) ?_
      refine l_nil ?_
      refine run_cond_t rfl rfl ?_
      refine run_seq ?_
      clear bx5
      clear o14
      clear r21
      refine run_region rfl ?_
      refine l_val (v := Value.int .i64 4) rfl (e_assign rfl) ?_
      refine l_nil ?_
      refine run_ret (vs := [Value.int .i64 4]) Try.func15 (.tmp rfl .nil) ?_
      -- return 1
      have e0 : (4 : Int) = (rmayR g r) := by
        first
          | (have hn : ¬ MayP g := fun h => p1 (decide_eq_true h)
             unfold rmayR; rw [if_neg hn]; done)
          | exact (rmay_no hm (fun h => by have := h.1; omega)).symm
          | exact (rmay_no hm (hin.bad (by omega) (by assumption) (by rintro ⟨⟨h1, h2⟩, h3⟩; omega))).symm
          | exact (rmay_no hm (hin.bad (by omega) (by assumption) (by rintro ⟨⟨h1, h2⟩, h3⟩; exact absurd h3 (by assumption)))).symm
          | exact (rmay_no hm (hin.twice (by omega) (by assumption) (by omega) (by omega) (by assumption))).symm
          | exact (rmay_yes hm ((hinv.fin (by omega) (by omega) rfl).2 (by omega))).symm
          | exact (rmay_no hm (fun h => by have := (hinv.fin (by omega) (by omega) rfl).1 h; omega)).symm
      exact ⟨(congrArg (a₁ := 4) (fun (z0 : Int) => Ending.returned (Value.int .i64 z0)) e0), hbase.below⟩
     refine l_val (v := v12) (want_y rfl rfl rfl (decide_eq_false q45)) (e_move (by exact zs5)) ?_
     refine l_val (v := Value.int .i64 (gI (gI r (k : Int)) (i : Int))) (want_y rfl rfl rfl (decide_eq_false q45)) (e_move rfl) ?_
     refine l_val (v := Value.pointer (some (eAddr v12 1 (Int.toNat (gI (gI r (k : Int)) (i : Int)))))) (want_y rfl rfl rfl (decide_eq_false q45)) (e_indexAddr (α := Bool) (xs := seen) (v := v12) (i := (gI (gI r (k : Int)) (i : Int))) Try.underlying75 rfl rfl o14.flat rfl (by omega) (by omega)) ?_
     refine l_val (v := Value.bool (gI seen (gI (gI r (k : Int)) (i : Int)))) (want_y rfl rfl rfl (decide_eq_false q45)) (e_load_el1 (α := Bool) (xs := seen) (v := v12) (i := (gI (gI r (k : Int)) (i : Int))) tp4_x rfl o14.flat (by omega) (by omega) (by decide) rfl) ?_
     refine l_val (v := Value.bool (gI seen (gI (gI r (k : Int)) (i : Int)))) rfl (e_pick_f rfl (decide_eq_false q45) rfl) ?_
     refine l_val (v := Value.bool (gI seen (gI (gI r (k : Int)) (i : Int)))) rfl (e_move rfl) ?_
     by_cases q51 : (gI seen (gI (gI r (k : Int)) (i : Int))) = true
     ·
      refine l_skip (want_n rfl rfl rfl q51) (l_skip (want_n rfl rfl rfl q51) (l_skip (want_n rfl rfl rfl q51) (l_skip (want_n rfl rfl rfl q51) (l_skip (want_n rfl rfl rfl q51) (l_skip (want_n rfl rfl rfl q51) (l_skip (want_n rfl rfl rfl q51) (l_skip (want_n rfl rfl rfl q51) (l_skip (want_n rfl rfl rfl q51) (l_skip (want_n rfl rfl rfl q51) (l_skip (want_n rfl rfl rfl q51) ?_))))))))))
      refine l_val (v := Value.bool true) rfl (e_pick_t rfl q51 rfl) ?_
      refine l_nil ?_
      refine run_cond_t rfl rfl ?_
      refine run_seq ?_
      clear bx5
      clear o14
      clear r21
      refine run_region rfl ?_
      refine l_val (v := Value.int .i64 4) rfl (e_assign rfl) ?_
      refine l_nil ?_
      refine run_ret (vs := [Value.int .i64 4]) Try.func15 (.tmp rfl .nil) ?_
      -- return 2
      have e0 : (4 : Int) = (rmayR g r) := by
        first
          | (have hn : ¬ MayP g := fun h => p1 (decide_eq_true h)
             unfold rmayR; rw [if_neg hn]; done)
          | exact (rmay_no hm (fun h => by have := h.1; omega)).symm
          | exact (rmay_no hm (hin.bad (by omega) (by assumption) (by rintro ⟨⟨h1, h2⟩, h3⟩; omega))).symm
          | exact (rmay_no hm (hin.bad (by omega) (by assumption) (by rintro ⟨⟨h1, h2⟩, h3⟩; exact absurd h3 (by assumption)))).symm
          | exact (rmay_no hm (hin.twice (by omega) (by assumption) (by omega) (by omega) (by assumption))).symm
          | exact (rmay_yes hm ((hinv.fin (by omega) (by omega) rfl).2 (by omega))).symm
          | exact (rmay_no hm (fun h => by have := (hinv.fin (by omega) (by omega) rfl).1 h; omega)).symm
      exact ⟨(congrArg (a₁ := 4) (fun (z0 : Int) => Ending.returned (Value.int .i64 z0)) e0), hbase.below⟩
     refine l_val (v := Value.pointer (some ⟨b3, 1, none⟩)) (want_y rfl rfl rfl (Bool.eq_false_iff.2 q51)) (e_fieldAddr Try.underlying24 rfl rfl (by exact zs2) rfl) ?_
     refine l_val (v := g_v) (want_y rfl rfl rfl (Bool.eq_false_iff.2 q51)) (e_load_bx1 tp22_x rfl bx5 rfl) ?_
     refine l_val (v := Value.int .i64 (gI (gI r (k : Int)) (i : Int))) (want_y rfl rfl rfl (Bool.eq_false_iff.2 q51)) (e_move rfl) ?_
     refine l_val (v := Value.int .i64 ((gI (gI r (k : Int)) (i : Int)) / 2)) (want_y rfl rfl rfl (Bool.eq_false_iff.2 q51)) (e_quo (m := (gI (gI r (k : Int)) (i : Int))) (n := 2) rfl rfl (by omega) (by omega) (by omega)) ?_
     refine l_val (v := Value.int .i64 (gI (gI r (k : Int)) (i : Int))) (want_y rfl rfl rfl (Bool.eq_false_iff.2 q51)) (e_move rfl) ?_
     refine l_val (v := Value.int .i64 ((gI (gI r (k : Int)) (i : Int)) % 2)) (want_y rfl rfl rfl (Bool.eq_false_iff.2 q51)) (e_rem (m := (gI (gI r (k : Int)) (i : Int))) (n := 2) rfl rfl (by omega) (by omega)) ?_
     refine l_val (v := Value.pointer (some (eAddr g_v 2 (Int.toNat ((gI (gI r (k : Int)) (i : Int)) / 2))))) (want_y rfl rfl rfl (Bool.eq_false_iff.2 q51)) (e_indexAddr (α := (Int) × (Int)) (xs := g.2) (v := g_v) (i := (gI (gI r (k : Int)) (i : Int)) / 2) Try.underlying22 rfl rfl r_g_v rfl (by omega) (by omega)) ?_
     refine l_val (v := Value.pointer (some ⟨(eAddr g_v 2 (Int.toNat ((gI (gI r (k : Int)) (i : Int)) / 2))).block, (eAddr g_v 2 (Int.toNat ((gI (gI r (k : Int)) (i : Int)) / 2))).off + (Int.toNat ((gI (gI r (k : Int)) (i : Int)) % 2)), none⟩)) (want_y rfl rfl rfl (Bool.eq_false_iff.2 q51)) (e_indexAddr_el (i := (gI (gI r (k : Int)) (i : Int)) % 2) Try.underlying60 rfl rfl rfl (by omega) (by omega) (Nat.mul_one _)) ?_
     refine l_val (v := Value.int .i64 (pI (gI g.2 ((gI (gI r (k : Int)) (i : Int)) / 2)) ((gI (gI r (k : Int)) (i : Int)) % 2))) (want_y rfl rfl rfl (Bool.eq_false_iff.2 q51)) (e_load_elF (α := (Int) × (Int)) (xs := g.2) (v := g_v) (i := (gI (gI r (k : Int)) (i : Int)) / 2) tp3_x rfl r_g_v (by omega) (by omega) (show Int.toNat ((gI (gI r (k : Int)) (i : Int)) % 2) < 2 by omega) (pI_cells _ (by omega) (by omega))) ?_
     refine l_val (v := Value.int .i64 (k : Int)) (want_y rfl rfl rfl (Bool.eq_false_iff.2 q51)) (e_move (by exact zs7)) ?_
     refine l_val (v := Value.bool (!(decide ((pI (gI g.2 ((gI (gI r (k : Int)) (i : Int)) / 2)) ((gI (gI r (k : Int)) (i : Int)) % 2)) = (k : Int))))) (want_y rfl rfl rfl (Bool.eq_false_iff.2 q51)) (e_neq (m := pI (gI g.2 ((gI (gI r (k : Int)) (i : Int)) / 2)) ((gI (gI r (k : Int)) (i : Int)) % 2)) (n := (k : Int)) rfl rfl) ?_
     refine l_val (v := Value.bool (!(decide ((pI (gI g.2 ((gI (gI r (k : Int)) (i : Int)) / 2)) ((gI (gI r (k : Int)) (i : Int)) % 2)) = (k : Int))))) rfl (e_pick_f rfl (Bool.eq_false_iff.2 q51) rfl) ?_
     refine l_nil ?_
     by_cases p13 : (pI (gI g.2 ((gI (gI r (k : Int)) (i : Int)) / 2)) ((gI (gI r (k : Int)) (i : Int)) % 2)) = (k : Int)
     ·
      refine run_cond_f rfl (congrArg Bool.not (decide_eq_true p13)) ?_
      refine run_skip ?_
      refine run_seq (run_region rfl ?_)
      refine l_val (v := v12) rfl (e_move (by exact zs5)) ?_
      refine l_val (v := Value.int .i64 (gI (gI r (k : Int)) (i : Int))) rfl (e_move rfl) ?_
      refine l_val (v := Value.pointer (some (eAddr v12 1 (Int.toNat (gI (gI r (k : Int)) (i : Int)))))) rfl (e_indexAddr (α := Bool) (xs := seen) (v := v12) (i := (gI (gI r (k : Int)) (i : Int))) Try.underlying75 rfl rfl o14.flat rfl (by omega) (by omega)) ?_
      refine l_op rfl ?_
      refine o_store_el (i := (gI (gI r (k : Int)) (i : Int))) true tp4_x rfl rfl o14 (by omega) (by omega) rfl ?_
      intro w27 ch28 bx29
      clear o14
      refine l_nil (run_region rfl ?_)
      refine l_val (v := Value.int .i64 n) rfl (e_move (by exact zs6)) ?_
      refine l_val (v := Value.int .i64 (n + 1)) rfl (e_add (m := n) (n := 1) rfl rfl (by omega)) ?_
      refine l_val (v := Value.int .i64 (n + 1)) rfl (e_assign rfl) ?_
      refine l_nil ?_
      refine run_inBlock ?_
      refine run_region rfl ?_
      refine l_val (v := Value.int .i64 ((i : Int) + 1)) rfl (e_add (m := (i : Int)) (n := 1) (by exact zs33) rfl (by omega)) ?_
      refine l_val (v := Value.int .i64 ((i : Int) + 1)) rfl (e_move rfl) ?_
      refine l_nil ?_
      replace hbase := hbase.chg ch28 (is_ne rfl)
      replace r_g_v := r_g_v.chg ch28 (is_ne rfl)
      replace r_r_v := r_r_v.chg ch28 (is_ne rfl)
      replace bx5 := bx5.chg ch28 (is_ne rfl)
      replace r21 := r21.chg ch28 (is_ne rfl)
      refine back11 (n + 1, i + 1, (List.set seen (Int.toNat (gI (gI r (k : Int)) (i : Int))) true), g25) _ _ ⟨hbase, (by exact zs2), (by exact zs5), rfl, (by exact zs7), (by exact zs24), (by exact zs25), (by exact zs26), (by exact zs31), (by exact zs32), rfl, r_g_v, r_r_v, bx5, bx29, r21, by omega, ?_⟩ ?_
      · show MayInv (List.set seen (Int.toNat (gI (gI r (k : Int)) (i : Int))) true) (n + 1) g r k (i + 1)
        exact hin.next (by assumption) (by omega) (by omega) (Bool.eq_false_iff.2 (by assumption)) (by assumption)
      · show Int.toNat (((List.length (gI r (k : Int)) : Int) : Int) - ((i + 1) : Int)) < Int.toNat (((List.length (gI r (k : Int)) : Int) : Int) - (i : Int))
        omega
     refine run_cond_t rfl (congrArg Bool.not (decide_eq_false p13)) ?_
     refine run_seq ?_
     clear bx5
     clear o14
     clear r21
     refine run_region rfl ?_
     refine l_val (v := Value.int .i64 4) rfl (e_assign rfl) ?_
     refine l_nil ?_
     refine run_ret (vs := [Value.int .i64 4]) Try.func15 (.tmp rfl .nil) ?_
     -- return 3
     have e0 : (4 : Int) = (rmayR g r) := by
       first
         | (have hn : ¬ MayP g := fun h => p1 (decide_eq_true h)
            unfold rmayR; rw [if_neg hn]; done)
         | exact (rmay_no hm (fun h => by have := h.1; omega)).symm
         | exact (rmay_no hm (hin.bad (by omega) (by assumption) (by rintro ⟨⟨h1, h2⟩, h3⟩; omega))).symm
         | exact (rmay_no hm (hin.bad (by omega) (by assumption) (by rintro ⟨⟨h1, h2⟩, h3⟩; exact absurd h3 (by assumption)))).symm
         | exact (rmay_no hm (hin.twice (by omega) (by assumption) (by omega) (by omega) (by assumption))).symm
         | exact (rmay_yes hm ((hinv.fin (by omega) (by omega) rfl).2 (by omega))).symm
         | exact (rmay_no hm (fun h => by have := (hinv.fin (by omega) (by omega) rfl).1 h; omega)).symm
     exact ⟨(congrArg (a₁ := 4) (fun (z0 : Int) => Ending.returned (Value.int .i64 z0)) e0), hbase.below⟩
    refine run_cond_f rfl (decide_eq_false p11) ?_
    refine run_exit rfl ?_
    refine run_inBlock ?_
    clear r21
    refine run_region rfl ?_
    refine l_val (v := Value.int .i64 ((k : Int) + 1)) rfl (e_add (m := (k : Int)) (n := 1) (by exact zs26) rfl (by omega)) ?_
    refine l_val (v := Value.int .i64 ((k : Int) + 1)) rfl (e_move rfl) ?_
    refine l_nil ?_
    refine back8 (n, k + 1, seen, g25) _ _ ⟨hbase, (by exact zs2), (by exact zs5), (by exact zs6), (by exact zs24), (by exact zs25), rfl, r_g_v, r_r_v, bx5, o14, by omega, ?_⟩ ?_
    · show MayInv seen n g r (k + 1) 0
      exact hin.row_done (by assumption) (by assumption)
    · show Int.toNat (((List.length r : Int) : Int) - ((k + 1) : Int)) < Int.toNat (((List.length r : Int) : Int) - (k : Int))
      omega
   refine run_cond_f rfl (decide_eq_false p8) ?_
   refine run_exit rfl ?_
   refine run_seq (run_seq ?_)
   clear bx5
   refine run_region rfl ?_
   refine l_val (v := Value.int .i64 n) rfl (e_move (by exact zs6)) ?_
   refine l_val (v := v12) rfl (e_move (by exact zs5)) ?_
   have len30 := (o14.flat).small
   refine l_val (v := Value.int .i64 (List.length seen : Int)) rfl (e_len Try.underlying75 rfl o14.flat) ?_
   refine l_val (v := Value.bool (!(decide (n = (List.length seen : Int))))) rfl (e_neq (m := n) (n := (List.length seen : Int)) rfl rfl) ?_
   refine l_nil ?_
   by_cases p19 : n = (List.length seen : Int)
   ·
    refine run_cond_f rfl (congrArg Bool.not (decide_eq_true p19)) ?_
    refine run_skip ?_
    refine run_seq ?_
    clear o14
    refine run_region rfl ?_
    refine l_val (v := Value.int .i64 0) rfl (e_assign rfl) ?_
    refine l_nil ?_
    refine run_ret (vs := [Value.int .i64 0]) Try.func15 (.tmp rfl .nil) ?_
    -- return 4
    have e0 : (0 : Int) = (rmayR g r) := by
      first
        | (have hn : ¬ MayP g := fun h => p1 (decide_eq_true h)
           unfold rmayR; rw [if_neg hn]; done)
        | exact (rmay_no hm (fun h => by have := h.1; omega)).symm
        | exact (rmay_no hm (hin.bad (by omega) (by assumption) (by rintro ⟨⟨h1, h2⟩, h3⟩; omega))).symm
        | exact (rmay_no hm (hin.bad (by omega) (by assumption) (by rintro ⟨⟨h1, h2⟩, h3⟩; exact absurd h3 (by assumption)))).symm
        | exact (rmay_no hm (hin.twice (by omega) (by assumption) (by omega) (by omega) (by assumption))).symm
        | exact (rmay_yes hm ((hinv.fin (by omega) (by omega) rfl).2 (by omega))).symm
        | exact (rmay_no hm (fun h => by have := (hinv.fin (by omega) (by omega) rfl).1 h; omega)).symm
    exact ⟨(congrArg (a₁ := 0) (fun (z0 : Int) => Ending.returned (Value.int .i64 z0)) e0), hbase.below⟩
   refine run_cond_t rfl (congrArg Bool.not (decide_eq_false p19)) ?_
   refine run_seq ?_
   clear o14
   refine run_region rfl ?_
   refine l_val (v := Value.int .i64 4) rfl (e_assign rfl) ?_
   refine l_nil ?_
   refine run_ret (vs := [Value.int .i64 4]) Try.func15 (.tmp rfl .nil) ?_
   -- return 5
   have e0 : (4 : Int) = (rmayR g r) := by
     first
       | (have hn : ¬ MayP g := fun h => p1 (decide_eq_true h)
          unfold rmayR; rw [if_neg hn]; done)
       | exact (rmay_no hm (fun h => by have := h.1; omega)).symm
       | exact (rmay_no hm (hin.bad (by omega) (by assumption) (by rintro ⟨⟨h1, h2⟩, h3⟩; omega))).symm
       | exact (rmay_no hm (hin.bad (by omega) (by assumption) (by rintro ⟨⟨h1, h2⟩, h3⟩; exact absurd h3 (by assumption)))).symm
       | exact (rmay_no hm (hin.twice (by omega) (by assumption) (by omega) (by omega) (by assumption))).symm
       | exact (rmay_yes hm ((hinv.fin (by omega) (by omega) rfl).2 (by omega))).symm
       | exact (rmay_no hm (fun h => by have := (hinv.fin (by omega) (by omega) rfl).1 h; omega)).symm
   exact ⟨(congrArg (a₁ := 4) (fun (z0 : Int) => Ending.returned (Value.int .i64 z0)) e0), hbase.below⟩
  refine run_cond_t rfl (congrArg Bool.not (decide_eq_false p3)) ?_
  refine run_seq ?_
  clear bx5
  refine run_region rfl ?_
  refine l_val (v := Value.int .i64 4) rfl (e_assign rfl) ?_
  refine l_nil ?_
  refine run_ret (vs := [Value.int .i64 4]) Try.func15 (.tmp rfl .nil) ?_
  -- return 6
  have e0 : (4 : Int) = (rmayR g r) := by
    first
      | (have hn : ¬ MayP g := fun h => p1 (decide_eq_true h)
         unfold rmayR; rw [if_neg hn]; done)
      | exact (rmay_no hm (fun h => by have := h.1; omega)).symm
      | exact (rmay_no hm (hin.bad (by omega) (by assumption) (by rintro ⟨⟨h1, h2⟩, h3⟩; omega))).symm
      | exact (rmay_no hm (hin.bad (by omega) (by assumption) (by rintro ⟨⟨h1, h2⟩, h3⟩; exact absurd h3 (by assumption)))).symm
      | exact (rmay_no hm (hin.twice (by omega) (by assumption) (by omega) (by omega) (by assumption))).symm
      | exact (rmay_yes hm ((hinv.fin (by omega) (by omega) rfl).2 (by omega))).symm
      | exact (rmay_no hm (fun h => by have := (hinv.fin (by omega) (by omega) rfl).1 h; omega)).symm
  replace hbase := hbase.chg ch2 (not_no _)
  replace hbase := hbase.chg hb7 (not_no _)
  exact ⟨(congrArg (a₁ := 4) (fun (z0 : Int) => Ending.returned (Value.int .i64 z0)) e0), hbase.below⟩
 refine run_cond_t rfl (congrArg Bool.not (Bool.eq_false_iff.2 p1)) ?_
 refine run_seq ?_
 clear bx5
 refine run_region rfl ?_
 refine l_val (v := Value.int .i64 1) rfl (e_assign rfl) ?_
 refine l_nil ?_
 refine run_ret (vs := [Value.int .i64 1]) Try.func15 (.tmp rfl .nil) ?_
 -- return 7
 have e0 : (1 : Int) = (rmayR g r) := by
   first
     | (have hn : ¬ MayP g := fun h => p1 (decide_eq_true h)
        unfold rmayR; rw [if_neg hn]; done)
     | exact (rmay_no hm (fun h => by have := h.1; omega)).symm
     | exact (rmay_no hm (hin.bad (by omega) (by assumption) (by rintro ⟨⟨h1, h2⟩, h3⟩; omega))).symm
     | exact (rmay_no hm (hin.bad (by omega) (by assumption) (by rintro ⟨⟨h1, h2⟩, h3⟩; exact absurd h3 (by assumption)))).symm
     | exact (rmay_no hm (hin.twice (by omega) (by assumption) (by omega) (by omega) (by assumption))).symm
     | exact (rmay_yes hm ((hinv.fin (by omega) (by omega) rfl).2 (by omega))).symm
     | exact (rmay_no hm (fun h => by have := (hinv.fin (by omega) (by omega) rfl).1 h; omega)).symm
 replace hbase := hbase.chg ch2 (not_no _)
 replace hbase := hbase.chg hb7 (not_no _)
 exact ⟨(congrArg (a₁ := 1) (fun (z0 : Int) => Ending.returned (Value.int .i64 z0)) e0), hbase.below⟩
theorem rRMay_ok (w0 : World) (g : (Int) × (List ((Int) × (Int)))) (g_v : Value) (hg_v : Ro w0 g_v g.2) (r : List (List Int)) (r_v : Value) (hr_v : Ro w0 r_v r) :
    Calls Try.prog 12 #[Value.agg (List.toArray [Value.int .i64 g.1, g_v]), r_v] w0 (fun ee w => ee = .returned (Value.int .i64 (rmayR g r)) ∧ Bel w0.heap.size w0 w) := by
 refine calls_of_run Try.func12 rfl (Nat.le_of_ble_eq_true rfl) ?_
 have hbase := Base.start w0
 have r_g_v := hg_v.sl
 have r_r_v := hr_v.sl
 refine run_seq (run_region rfl (l_op rfl ?_))
 refine o_box c0 (is 1) (1, 0) rfl rfl ?_
 intro g4 w1 b3 ch2 bx5
 replace bx5 : Bx g4 (is 1) w1 b3 [Value.int .i64 g.1, g_v] := bx5
 refine l_val (v := Value.int .i64 0) rfl (e_assign rfl) ?_
 refine l_nil (run_seq (run_seq (run_region rfl ?_)))
 refine l_val (v := Value.agg (List.toArray [Value.int .i64 g.1, g_v])) rfl (e_load_bxN (ds := [Value.int .i64 g.1, g_v]) tp24_x rfl bx5 rfl rfl) ?_
 replace r_g_v := r_g_v.chg ch2 (not_no _)
 refine l_op rfl ?_
 refine o_call (v := Value.bool (mayB g)) (e_call (vals := [Value.agg (List.toArray [Value.int .i64 g.1, g_v])]) Try.func35 bd35_x nm35_x rfl) (rMay_ok w1 g g_v (r_g_v).ro) ?_
 intro w6 hb7
 replace hb7 := chg_below hb7 g4
 refine l_val (v := Value.bool (!(mayB g))) rfl (e_not (b := (mayB g)) rfl) ?_
 refine l_nil ?_
 by_cases p1 : (mayB g) = true
 ·
  have hm := of_decide_eq_true p1
  have hm0 := hm
  obtain ⟨hm1, hm2, hm3, hm4⟩ := hm0
  refine run_cond_f rfl (congrArg Bool.not p1) ?_
  refine run_skip ?_
  refine run_seq (run_seq (run_region rfl ?_))
  refine l_val (v := r_v) rfl (e_move rfl) ?_
  replace r_r_v := (r_r_v.chg ch2 (not_no _)).chg hb7 (not_no _)
  have len8 := (r_r_v).small
  refine l_val (v := Value.int .i64 (List.length r : Int)) rfl (e_len Try.underlying26 rfl r_r_v) ?_
  refine l_val (v := Value.pointer (some ⟨b3, 0, none⟩)) rfl (e_fieldAddr Try.underlying24 rfl rfl rfl rfl) ?_
  replace bx5 := bx5.chg hb7 (not_no _)
  refine l_val (v := Value.int .i64 g.1) rfl (e_load_bx1 tp3_x rfl bx5 rfl) ?_
  refine l_val (v := Value.bool (!(decide ((List.length r : Int) = g.1)))) rfl (e_neq (m := (List.length r : Int)) (n := g.1) rfl rfl) ?_
  refine l_nil ?_
  by_cases p3 : (List.length r : Int) = g.1
  ·
   refine run_cond_f rfl (congrArg Bool.not (decide_eq_true p3)) ?_
   refine run_skip ?_
   refine run_seq (run_region rfl ?_)
   refine l_val (v := Value.pointer (some ⟨b3, 1, none⟩)) rfl (e_fieldAddr Try.underlying24 rfl rfl rfl rfl) ?_
   refine l_val (v := g_v) rfl (e_load_bx1 tp22_x rfl bx5 rfl) ?_
   replace r_g_v := r_g_v.chg hb7 (not_no _)
   have len9 := (r_g_v).small
   refine l_val (v := Value.int .i64 (List.length g.2 : Int)) rfl (e_len Try.underlying22 rfl r_g_v) ?_
   refine l_val (v := Value.int .i64 (2 * (List.length g.2 : Int))) rfl (e_mul (m := 2) (n := (List.length g.2 : Int)) rfl rfl (by omega)) ?_
   refine l_op rfl ?_
   refine o_make (α := Bool) (l := 2 * (List.length g.2 : Int)) (cp := 2 * (List.length g.2 : Int)) g4 (is 2) (is 2) (2, 0) rfl false Try.underlying75 tp4_x rfl rfl rfl (by omega) (by omega) (by omega) (by omega) ?_
   intro g10 w11 v12 ch13 o14 _
   refine l_val (v := v12) rfl (e_assign rfl) ?_
   refine l_nil (run_seq (run_region rfl ?_))
   refine l_val (v := Value.int .i64 0) rfl (e_assign rfl) ?_
   refine l_nil (run_seq (run_seq (run_region rfl ?_)))
   refine l_val (v := Value.int .i64 0) rfl (e_assign rfl) ?_
   refine l_nil ?_
   refine run_block ?_
   refine run_loop (σ := Int × Nat × (List Bool) × Cmap) (fun ⟨n, k, seen, gq⟩ f w => Base w0 gq w ∧ f 1 = r_v ∧ f 2 = Value.pointer (some ⟨b3, 0, none⟩) ∧ f 5 = v12 ∧ f 6 = Value.int .i64 n ∧ f 7 = Value.int .i64 (k : Int) ∧ Sl gq (is 0) w g_v g.2 ∧ Sl gq (is 0) w r_v r ∧ Bx gq (is 1) w b3 [Value.int .i64 g.1, g_v] ∧ Ow gq (is 2) (is 2) w v12 seen ∧ (k : Int) ≤ (g.1 : Int) ∧ (MayInv seen n g r k 0)) (fun ⟨n, k, seen, gq⟩ => Int.toNat ((g.1 : Int) - (k : Int))) (0, 0, (List.replicate (Int.toNat (2 * (List.length g.2 : Int))) false), g10) ?_ ?_
   have C15 : Chg (inl []) _ _ _ _ := (ch2.n).seq ((hb7.n).seq (ch13.n))
   replace hbase := hbase.chg C15 (is_nl rfl)
   replace r_g_v := r_g_v.chg ch13 (not_no _)
   replace r_r_v := r_r_v.chg ch13 (not_no _)
   replace bx5 := bx5.chg ch13 (not_no _)
   · exact ⟨hbase, rfl, rfl, rfl, rfl, rfl, r_g_v, r_r_v, bx5, o14, by omega, by exact MayInv.start g r⟩
   clear r_g_v
   clear r_r_v
   clear bx5
   clear o14
   clear hbase
   rintro ⟨n, k, seen, g18⟩ f16 w17 ⟨hbase, zs1, zs2, zs5, zs6, zs7, r_g_v, r_r_v, bx5, o14, hle_k, hinv⟩ back8
   have hsl := hinv.rm.len
   have hbd := hinv.bd
   refine run_seq (run_seq (run_region rfl ?_))
   refine l_val (v := Value.int .i64 (k : Int)) rfl (e_move (by exact zs7)) ?_
   refine l_val (v := Value.pointer (some ⟨b3, 0, none⟩)) rfl (e_fieldAddr Try.underlying24 rfl rfl (by exact zs2) rfl) ?_
   refine l_val (v := Value.int .i64 g.1) rfl (e_load_bx1 tp3_x rfl bx5 rfl) ?_
   refine l_val (v := Value.bool (decide ((k : Int) < g.1))) rfl (e_lss (m := (k : Int)) (n := g.1) rfl rfl) ?_
   refine l_nil ?_
   by_cases p8 : (k : Int) < g.1
   ·
    refine run_cond_t rfl (decide_eq_true p8) ?_
    refine run_skip ?_
    refine run_seq ?_
    refine run_block ?_
    refine run_seq (run_region rfl ?_)
    refine l_val (v := Value.int .i64 0) rfl (e_assign rfl) ?_
    refine l_nil ?_
    refine run_block ?_
    refine run_loop (σ := Int × Nat × (List Bool) × Cmap) (fun ⟨n, i, seen, gq⟩ f w => Base w0 gq w ∧ f 1 = r_v ∧ f 2 = Value.pointer (some ⟨b3, 0, none⟩) ∧ f 5 = v12 ∧ f 6 = Value.int .i64 n ∧ f 7 = Value.int .i64 (k : Int) ∧ f 8 = Value.int .i64 (i : Int) ∧ Sl gq (is 0) w g_v g.2 ∧ Sl gq (is 0) w r_v r ∧ Bx gq (is 1) w b3 [Value.int .i64 g.1, g_v] ∧ Ow gq (is 2) (is 2) w v12 seen ∧ (i : Int) ≤ ((List.length (gI r (k : Int)) : Int) : Int) ∧ (MayInv seen n g r k i)) (fun ⟨n, i, seen, gq⟩ => Int.toNat (((List.length (gI r (k : Int)) : Int) : Int) - (i : Int))) (n, 0, seen, g18) ?_ ?_
    · exact ⟨hbase, (by exact zs1), (by exact zs2), (by exact zs5), (by exact zs6), (by exact zs7), rfl, r_g_v, r_r_v, bx5, o14, by omega, by exact hinv⟩
    clear r_g_v
    clear r_r_v
    clear bx5
    clear o14
    clear hbase
    rintro ⟨n, i, seen, g21⟩ f19 w20 ⟨hbase, zs1, zs2, zs5, zs6, zs7, zs8, r_g_v, r_r_v, bx5, o14, hle_i, hin⟩ back11
    have hsl := hin.rm.len
    have hbd := hin.bd
    refine run_seq (run_seq (run_region rfl ?_))
    refine l_val (v := Value.int .i64 (i : Int)) rfl (e_move (by exact zs8)) ?_
    refine l_val (v := r_v) rfl (e_move (by exact zs1)) ?_
    refine l_val (v := Value.int .i64 (k : Int)) rfl (e_move (by exact zs7)) ?_
    refine l_val (v := Value.pointer (some (eAddr r_v 1 (Int.toNat (k : Int))))) rfl (e_indexAddr (α := List Int) (xs := r) (v := r_v) (i := (k : Int)) Try.underlying26 rfl rfl r_r_v rfl (by omega) (by omega)) ?_
    obtain ⟨v22, cel23, r24⟩ := sl_row (r := (k : Int)) r_r_v (by omega) (by omega)
    refine l_val (v := v22) rfl (e_load1 tp27_x rfl cel23) ?_
    have len25 := (r24).small
    refine l_val (v := Value.int .i64 (List.length (gI r (k : Int)) : Int)) rfl (e_len Try.underlying27 rfl r24) ?_
    refine l_val (v := Value.bool (decide ((i : Int) < (List.length (gI r (k : Int)) : Int)))) rfl (e_lss (m := (i : Int)) (n := (List.length (gI r (k : Int)) : Int)) rfl rfl) ?_
    refine l_nil ?_
    by_cases p11 : (i : Int) < (List.length (gI r (k : Int)) : Int)
    ·
     refine run_cond_t rfl (decide_eq_true p11) ?_
     refine run_skip ?_
     refine run_seq ?_
     refine run_block ?_
     refine run_seq ?_
     clear r24
     refine run_region rfl ?_
     refine l_val (v := r_v) rfl (e_move (by exact zs1)) ?_
     refine l_val (v := Value.int .i64 (k : Int)) rfl (e_move (by exact zs7)) ?_
     refine l_val (v := Value.pointer (some (eAddr r_v 1 (Int.toNat (k : Int))))) rfl (e_indexAddr (α := List Int) (xs := r) (v := r_v) (i := (k : Int)) Try.underlying26 rfl rfl r_r_v rfl (by omega) (by omega)) ?_
     obtain ⟨v26, cel27, r28⟩ := sl_row (r := (k : Int)) r_r_v (by omega) (by omega)
     refine l_val (v := v26) rfl (e_load1 tp27_x rfl cel27) ?_
     refine l_val (v := Value.int .i64 (i : Int)) rfl (e_move (by exact zs8)) ?_
     refine l_val (v := Value.pointer (some (eAddr v26 1 (Int.toNat (i : Int))))) rfl (e_indexAddr (α := Int) (xs := gI r (k : Int)) (v := v26) (i := (i : Int)) Try.underlying27 rfl rfl r28 rfl (by omega) (by omega)) ?_
     refine l_val (v := Value.int .i64 (gI (gI r (k : Int)) (i : Int))) rfl (e_load_el1 (α := Int) (xs := gI r (k : Int)) (v := v26) (i := (i : Int)) tp3_x rfl r28 (by omega) (by omega) (by decide) rfl) ?_
     refine l_val (v := Value.int .i64 (gI (gI r (k : Int)) (i : Int))) rfl (e_assign rfl) ?_
     refine l_nil (run_seq (run_seq ?_))
     clear r28
     refine run_region rfl ?_
     refine l_val (v := Value.int .i64 (gI (gI r (k : Int)) (i : Int))) rfl (e_move rfl) ?_
     refine l_val (v := Value.bool (decide ((gI (gI r (k : Int)) (i : Int)) < 0))) rfl (e_lss (m := (gI (gI r (k : Int)) (i : Int))) (n := 0) rfl rfl) ?_
     refine l_val (v := Value.bool (decide ((gI (gI r (k : Int)) (i : Int)) < 0))) rfl (e_move rfl) ?_
     by_cases q47 : (gI (gI r (k : Int)) (i : Int)) < 0
     ·
      refine l_skip (want_n rfl rfl rfl (decide_eq_true q47)) ?_
      refine l_skip (want_n rfl rfl rfl (decide_eq_true q47)) ?_
      refine l_skip (want_n rfl rfl rfl (decide_eq_true q47)) ?_
      refine l_skip (want_n rfl rfl rfl (decide_eq_true q47)) ?_
      refine l_val (v := Value.bool true) rfl (e_pick_t rfl (decide_eq_true q47) rfl) ?_
      refine l_val (v := Value.bool true) rfl (e_move rfl) ?_
      refine l_skip (want_n rfl rfl rfl rfl) (l_skip (want_n rfl rfl rfl rfl) (l_skip (want_n rfl rfl rfl rfl) (l_skip (want_n rfl rfl rfl rfl) ?_)))
      refine l_val (v := Value.bool true) rfl (e_pick_t rfl rfl rfl) ?_
      refine l_val (v := Value.bool true) rfl (e_move rfl) ?_
      refine l_skip (want_n rfl rfl rfl rfl) (l_skip (want_n rfl rfl rfl rfl) (l_skip (want_n rfl rfl rfl rfl) (l_skip (want_n rfl rfl rfl rfl) (l_skip (want_n rfl rfl rfl rfl) ?_))))
      refine l_val (v := Value.bool true) rfl (e_pick_t rfl rfl rfl) ?_
      refine l_nil ?_
      refine run_cond_t rfl rfl ?_
      refine run_seq ?_
      clear bx5
      clear o14
      refine run_region rfl ?_
      refine l_val (v := Value.int .i64 4) rfl (e_assign rfl) ?_
      refine l_nil ?_
      refine run_ret (vs := [Value.int .i64 4]) Try.func12 (.tmp rfl .nil) ?_
      -- return 0
      have e0 : (4 : Int) = (rmayR g r) := by
        first
          | (have hn : ¬ MayP g := fun h => p1 (decide_eq_true h)
             unfold rmayR; rw [if_neg hn]; done)
          | exact (rmay_no hm (fun h => by have := h.1; omega)).symm
          | exact (rmay_no hm (hin.bad (by omega) (by assumption) (by rintro ⟨⟨h1, h2⟩, h3⟩; omega))).symm
          | exact (rmay_no hm (hin.bad (by omega) (by assumption) (by rintro ⟨⟨h1, h2⟩, h3⟩; exact absurd h3 (by assumption)))).symm
          | exact (rmay_no hm (hin.twice (by omega) (by assumption) (by omega) (by omega) (by assumption))).symm
          | exact (rmay_yes hm ((hinv.fin (by omega) (by omega) rfl).2 (by omega))).symm
          | exact (rmay_no hm (fun h => by have := (hinv.fin (by omega) (by omega) rfl).1 h; omega)).symm
      exact ⟨(congrArg (a₁ := 4) (fun (z0 : Int) => Ending.returned (Value.int .i64 z0)) e0), hbase.below⟩
     refine l_val (v := Value.int .i64 (gI (gI r (k : Int)) (i : Int))) (want_y rfl rfl rfl (decide_eq_false q47)) (e_move rfl) ?_
     refine l_val (v := v12) (want_y rfl rfl rfl (decide_eq_false q47)) (e_move (by exact zs5)) ?_
     have len29 := (o14.flat).small
     refine l_val (v := Value.int .i64 (List.length seen : Int)) (want_y rfl rfl rfl (decide_eq_false q47)) (e_len Try.underlying75 rfl o14.flat) ?_
     refine l_val (v := Value.bool (decide ((List.length seen : Int) ≤ (gI (gI r (k : Int)) (i : Int))))) (want_y rfl rfl rfl (decide_eq_false q47)) (e_geq (m := (gI (gI r (k : Int)) (i : Int))) (n := (List.length seen : Int)) rfl rfl) ?_
     refine l_val (v := Value.bool (decide ((List.length seen : Int) ≤ (gI (gI r (k : Int)) (i : Int))))) rfl (e_pick_f rfl (decide_eq_false q47) rfl) ?_
     refine l_val (v := Value.bool (decide ((List.length seen : Int) ≤ (gI (gI r (k : Int)) (i : Int))))) rfl (e_move rfl) ?_
     by_cases q53 : (List.length seen : Int) ≤ (gI (gI r (k : Int)) (i : Int))
     ·
      refine l_skip (want_n rfl rfl rfl (decide_eq_true q53)) ?_
      refine l_skip (want_n rfl rfl rfl (decide_eq_true q53)) ?_
      refine l_skip (want_n rfl rfl rfl (decide_eq_true q53)) ?_
      refine l_skip (want_n rfl rfl rfl (decide_eq_true q53)) ?_
      refine l_val (v := Value.bool true) rfl (e_pick_t rfl (decide_eq_true q53) rfl) ?_
      refine l_val (v := Value.bool true) rfl (e_move rfl) ?_
      refine l_skip (want_n rfl rfl rfl rfl) (l_skip (want_n rfl rfl rfl rfl) (l_skip (want_n rfl rfl rfl rfl) (l_skip (want_n rfl rfl rfl rfl) (l_skip (want_n rfl rfl rfl rfl) ?_))))
      refine l_val (v := Value.bool true) rfl (e_pick_t rfl rfl rfl) ?_
      refine l_nil ?_
      refine run_cond_t rfl rfl ?_
      refine run_seq ?_
      clear bx5
      clear o14
      refine run_region rfl ?_
      refine l_val (v := Value.int .i64 4) rfl (e_assign rfl) ?_
      refine l_nil ?_
      refine run_ret (vs := [Value.int .i64 4]) Try.func12 (.tmp rfl .nil) ?_
      -- return 1
      have e0 : (4 : Int) = (rmayR g r) := by
        first
          | (have hn : ¬ MayP g := fun h => p1 (decide_eq_true h)
             unfold rmayR; rw [if_neg hn]; done)
          | exact (rmay_no hm (fun h => by have := h.1; omega)).symm
          | exact (rmay_no hm (hin.bad (by omega) (by assumption) (by rintro ⟨⟨h1, h2⟩, h3⟩; omega))).symm
          | exact (rmay_no hm (hin.bad (by omega) (by assumption) (by rintro ⟨⟨h1, h2⟩, h3⟩; exact absurd h3 (by assumption)))).symm
          | exact (rmay_no hm (hin.twice (by omega) (by assumption) (by omega) (by omega) (by assumption))).symm
          | exact (rmay_yes hm ((hinv.fin (by omega) (by omega) rfl).2 (by omega))).symm
          | exact (rmay_no hm (fun h => by have := (hinv.fin (by omega) (by omega) rfl).1 h; omega)).symm
      exact ⟨(congrArg (a₁ := 4) (fun (z0 : Int) => Ending.returned (Value.int .i64 z0)) e0), hbase.below⟩
     refine l_val (v := v12) (want_y rfl rfl rfl (decide_eq_false q53)) (e_move (by exact zs5)) ?_
     refine l_val (v := Value.int .i64 (gI (gI r (k : Int)) (i : Int))) (want_y rfl rfl rfl (decide_eq_false q53)) (e_move rfl) ?_
     refine l_val (v := Value.pointer (some (eAddr v12 1 (Int.toNat (gI (gI r (k : Int)) (i : Int)))))) (want_y rfl rfl rfl (decide_eq_false q53)) (e_indexAddr (α := Bool) (xs := seen) (v := v12) (i := (gI (gI r (k : Int)) (i : Int))) Try.underlying75 rfl rfl o14.flat rfl (by omega) (by omega)) ?_
     refine l_val (v := Value.bool (gI seen (gI (gI r (k : Int)) (i : Int)))) (want_y rfl rfl rfl (decide_eq_false q53)) (e_load_el1 (α := Bool) (xs := seen) (v := v12) (i := (gI (gI r (k : Int)) (i : Int))) tp4_x rfl o14.flat (by omega) (by omega) (by decide) rfl) ?_
     refine l_val (v := Value.bool (gI seen (gI (gI r (k : Int)) (i : Int)))) rfl (e_pick_f rfl (decide_eq_false q53) rfl) ?_
     refine l_val (v := Value.bool (gI seen (gI (gI r (k : Int)) (i : Int)))) rfl (e_move rfl) ?_
     by_cases q59 : (gI seen (gI (gI r (k : Int)) (i : Int))) = true
     ·
      refine l_skip (want_n rfl rfl rfl q59) (l_skip (want_n rfl rfl rfl q59) (l_skip (want_n rfl rfl rfl q59) (l_skip (want_n rfl rfl rfl q59) (l_skip (want_n rfl rfl rfl q59) ?_))))
      refine l_val (v := Value.bool true) rfl (e_pick_t rfl q59 rfl) ?_
      refine l_nil ?_
      refine run_cond_t rfl rfl ?_
      refine run_seq ?_
      clear bx5
      clear o14
      refine run_region rfl ?_
      refine l_val (v := Value.int .i64 4) rfl (e_assign rfl) ?_
      refine l_nil ?_
      refine run_ret (vs := [Value.int .i64 4]) Try.func12 (.tmp rfl .nil) ?_
      -- return 2
      have e0 : (4 : Int) = (rmayR g r) := by
        first
          | (have hn : ¬ MayP g := fun h => p1 (decide_eq_true h)
             unfold rmayR; rw [if_neg hn]; done)
          | exact (rmay_no hm (fun h => by have := h.1; omega)).symm
          | exact (rmay_no hm (hin.bad (by omega) (by assumption) (by rintro ⟨⟨h1, h2⟩, h3⟩; omega))).symm
          | exact (rmay_no hm (hin.bad (by omega) (by assumption) (by rintro ⟨⟨h1, h2⟩, h3⟩; exact absurd h3 (by assumption)))).symm
          | exact (rmay_no hm (hin.twice (by omega) (by assumption) (by omega) (by omega) (by assumption))).symm
          | exact (rmay_yes hm ((hinv.fin (by omega) (by omega) rfl).2 (by omega))).symm
          | exact (rmay_no hm (fun h => by have := (hinv.fin (by omega) (by omega) rfl).1 h; omega)).symm
      exact ⟨(congrArg (a₁ := 4) (fun (z0 : Int) => Ending.returned (Value.int .i64 z0)) e0), hbase.below⟩
     refine l_val (v := Value.agg (List.toArray [Value.int .i64 g.1, g_v])) (want_y rfl rfl rfl (Bool.eq_false_iff.2 q59)) (e_load_bxN (ds := [Value.int .i64 g.1, g_v]) tp24_x (by exact zs2) bx5 rfl rfl) ?_
     refine l_val (v := Value.int .i64 (gI (gI r (k : Int)) (i : Int))) (want_y rfl rfl rfl (Bool.eq_false_iff.2 q59)) (e_move rfl) ?_
     refine l_op (want_y rfl rfl rfl (Bool.eq_false_iff.2 q59)) ?_
     refine o_call (v := Value.int .i64 (fromS g (gI (gI r (k : Int)) (i : Int)))) (e_call (vals := [Value.agg (List.toArray [Value.int .i64 g.1, g_v]), Value.int .i64 (gI (gI r (k : Int)) (i : Int))]) Try.func52 bd52_x nm52_x rfl) (From_ok w20 g g_v (r_g_v).ro (gI (gI r (k : Int)) (i : Int)) (by omega) (by omega)) ?_
     intro w30 hb31
     replace hb31 := chg_below hb31 g21
     refine l_val (v := Value.int .i64 (k : Int)) (want_y rfl rfl rfl (Bool.eq_false_iff.2 q59)) (e_move (by exact zs7)) ?_
     refine l_val (v := Value.bool (!(decide ((fromS g (gI (gI r (k : Int)) (i : Int))) = (k : Int))))) (want_y rfl rfl rfl (Bool.eq_false_iff.2 q59)) (e_neq (m := fromS g (gI (gI r (k : Int)) (i : Int))) (n := (k : Int)) rfl rfl) ?_
     refine l_val (v := Value.bool (!(decide ((fromS g (gI (gI r (k : Int)) (i : Int))) = (k : Int))))) rfl (e_pick_f rfl (Bool.eq_false_iff.2 q59) rfl) ?_
     refine l_nil ?_
     by_cases p14 : (fromS g (gI (gI r (k : Int)) (i : Int))) = (k : Int)
     ·
      refine run_cond_f rfl (congrArg Bool.not (decide_eq_true p14)) ?_
      refine run_skip ?_
      refine run_seq (run_region rfl ?_)
      refine l_val (v := v12) rfl (e_move (by exact zs5)) ?_
      refine l_val (v := Value.int .i64 (gI (gI r (k : Int)) (i : Int))) rfl (e_move rfl) ?_
      replace o14 := o14.chg hb31 (not_no _) (not_no _)
      refine l_val (v := Value.pointer (some (eAddr v12 1 (Int.toNat (gI (gI r (k : Int)) (i : Int)))))) rfl (e_indexAddr (α := Bool) (xs := seen) (v := v12) (i := (gI (gI r (k : Int)) (i : Int))) Try.underlying75 rfl rfl o14.flat rfl (by omega) (by omega)) ?_
      refine l_op rfl ?_
      refine o_store_el (i := (gI (gI r (k : Int)) (i : Int))) true tp4_x rfl rfl o14 (by omega) (by omega) rfl ?_
      intro w32 ch33 bx34
      clear o14
      refine l_nil (run_region rfl ?_)
      refine l_val (v := Value.int .i64 n) rfl (e_move (by exact zs6)) ?_
      refine l_val (v := Value.int .i64 (n + 1)) rfl (e_add (m := n) (n := 1) rfl rfl (by omega)) ?_
      refine l_val (v := Value.int .i64 (n + 1)) rfl (e_assign rfl) ?_
      refine l_nil ?_
      refine run_inBlock ?_
      refine run_region rfl ?_
      refine l_val (v := Value.int .i64 (i : Int)) rfl (e_move (by exact zs8)) ?_
      refine l_val (v := Value.int .i64 ((i : Int) + 1)) rfl (e_add (m := (i : Int)) (n := 1) rfl rfl (by omega)) ?_
      refine l_val (v := Value.int .i64 ((i : Int) + 1)) rfl (e_assign rfl) ?_
      refine l_nil ?_
      replace hbase := hbase.chg hb31 (not_no _)
      replace hbase := hbase.chg ch33 (is_ne rfl)
      replace r_g_v := (r_g_v.chg hb31 (not_no _)).chg ch33 (is_ne rfl)
      replace r_r_v := (r_r_v.chg hb31 (not_no _)).chg ch33 (is_ne rfl)
      replace bx5 := (bx5.chg hb31 (not_no _)).chg ch33 (is_ne rfl)
      refine back11 (n + 1, i + 1, (List.set seen (Int.toNat (gI (gI r (k : Int)) (i : Int))) true), g21) _ _ ⟨hbase, (by exact zs1), (by exact zs2), (by exact zs5), rfl, (by exact zs7), rfl, r_g_v, r_r_v, bx5, bx34, by omega, ?_⟩ ?_
      · show MayInv (List.set seen (Int.toNat (gI (gI r (k : Int)) (i : Int))) true) (n + 1) g r k (i + 1)
        exact hin.next (by assumption) (by omega) (by omega) (Bool.eq_false_iff.2 (by assumption)) (by assumption)
      · show Int.toNat (((List.length (gI r (k : Int)) : Int) : Int) - ((i + 1) : Int)) < Int.toNat (((List.length (gI r (k : Int)) : Int) : Int) - (i : Int))
        omega
     refine run_cond_t rfl (congrArg Bool.not (decide_eq_false p14)) ?_
     refine run_seq ?_
     clear bx5
     clear o14
     refine run_region rfl ?_
     refine l_val (v := Value.int .i64 4) rfl (e_assign rfl) ?_
     refine l_nil ?_
     refine run_ret (vs := [Value.int .i64 4]) Try.func12 (.tmp rfl .nil) ?_
     -- return 3
     have e0 : (4 : Int) = (rmayR g r) := by
       first
         | (have hn : ¬ MayP g := fun h => p1 (decide_eq_true h)
            unfold rmayR; rw [if_neg hn]; done)
         | exact (rmay_no hm (fun h => by have := h.1; omega)).symm
         | exact (rmay_no hm (hin.bad (by omega) (by assumption) (by rintro ⟨⟨h1, h2⟩, h3⟩; omega))).symm
         | exact (rmay_no hm (hin.bad (by omega) (by assumption) (by rintro ⟨⟨h1, h2⟩, h3⟩; exact absurd h3 (by assumption)))).symm
         | exact (rmay_no hm (hin.twice (by omega) (by assumption) (by omega) (by omega) (by assumption))).symm
         | exact (rmay_yes hm ((hinv.fin (by omega) (by omega) rfl).2 (by omega))).symm
         | exact (rmay_no hm (fun h => by have := (hinv.fin (by omega) (by omega) rfl).1 h; omega)).symm
     replace hbase := hbase.chg hb31 (not_no _)
     exact ⟨(congrArg (a₁ := 4) (fun (z0 : Int) => Ending.returned (Value.int .i64 z0)) e0), hbase.below⟩
    refine run_cond_f rfl (decide_eq_false p11) ?_
    refine run_exit rfl ?_
    refine run_inBlock ?_
    clear r24
    refine run_region rfl ?_
    refine l_val (v := Value.int .i64 (k : Int)) rfl (e_move (by exact zs7)) ?_
    refine l_val (v := Value.int .i64 ((k : Int) + 1)) rfl (e_add (m := (k : Int)) (n := 1) rfl rfl (by omega)) ?_
    refine l_val (v := Value.int .i64 ((k : Int) + 1)) rfl (e_assign rfl) ?_
    refine l_nil ?_
    refine back8 (n, k + 1, seen, g21) _ _ ⟨hbase, (by exact zs1), (by exact zs2), (by exact zs5), (by exact zs6), rfl, r_g_v, r_r_v, bx5, o14, by omega, ?_⟩ ?_
    · show MayInv seen n g r (k + 1) 0
      exact hin.row_done (by omega) (by assumption)
    · show Int.toNat ((g.1 : Int) - ((k + 1) : Int)) < Int.toNat ((g.1 : Int) - (k : Int))
      omega
   refine run_cond_f rfl (decide_eq_false p8) ?_
   refine run_exit rfl ?_
   refine run_seq (run_seq ?_)
   clear bx5
   refine run_region rfl ?_
   refine l_val (v := Value.int .i64 n) rfl (e_move (by exact zs6)) ?_
   refine l_val (v := v12) rfl (e_move (by exact zs5)) ?_
   have len35 := (o14.flat).small
   refine l_val (v := Value.int .i64 (List.length seen : Int)) rfl (e_len Try.underlying75 rfl o14.flat) ?_
   refine l_val (v := Value.bool (decide (n < (List.length seen : Int)))) rfl (e_lss (m := n) (n := (List.length seen : Int)) rfl rfl) ?_
   refine l_nil ?_
   by_cases p18 : n < (List.length seen : Int)
   ·
    refine run_cond_t rfl (decide_eq_true p18) ?_
    refine run_seq ?_
    clear o14
    refine run_region rfl ?_
    refine l_val (v := Value.int .i64 4) rfl (e_assign rfl) ?_
    refine l_nil ?_
    refine run_ret (vs := [Value.int .i64 4]) Try.func12 (.tmp rfl .nil) ?_
    -- return 4
    have e0 : (4 : Int) = (rmayR g r) := by
      first
        | (have hn : ¬ MayP g := fun h => p1 (decide_eq_true h)
           unfold rmayR; rw [if_neg hn]; done)
        | exact (rmay_no hm (fun h => by have := h.1; omega)).symm
        | exact (rmay_no hm (hin.bad (by omega) (by assumption) (by rintro ⟨⟨h1, h2⟩, h3⟩; omega))).symm
        | exact (rmay_no hm (hin.bad (by omega) (by assumption) (by rintro ⟨⟨h1, h2⟩, h3⟩; exact absurd h3 (by assumption)))).symm
        | exact (rmay_no hm (hin.twice (by omega) (by assumption) (by omega) (by omega) (by assumption))).symm
        | exact (rmay_yes hm ((hinv.fin (by omega) (by omega) rfl).2 (by omega))).symm
        | exact (rmay_no hm (fun h => by have := (hinv.fin (by omega) (by omega) rfl).1 h; omega)).symm
    exact ⟨(congrArg (a₁ := 4) (fun (z0 : Int) => Ending.returned (Value.int .i64 z0)) e0), hbase.below⟩
   refine run_cond_f rfl (decide_eq_false p18) ?_
   refine run_skip ?_
   refine run_seq ?_
   clear o14
   refine run_region rfl ?_
   refine l_val (v := Value.int .i64 0) rfl (e_assign rfl) ?_
   refine l_nil ?_
   refine run_ret (vs := [Value.int .i64 0]) Try.func12 (.tmp rfl .nil) ?_
   -- return 5
   have e0 : (0 : Int) = (rmayR g r) := by
     first
       | (have hn : ¬ MayP g := fun h => p1 (decide_eq_true h)
          unfold rmayR; rw [if_neg hn]; done)
       | exact (rmay_no hm (fun h => by have := h.1; omega)).symm
       | exact (rmay_no hm (hin.bad (by omega) (by assumption) (by rintro ⟨⟨h1, h2⟩, h3⟩; omega))).symm
       | exact (rmay_no hm (hin.bad (by omega) (by assumption) (by rintro ⟨⟨h1, h2⟩, h3⟩; exact absurd h3 (by assumption)))).symm
       | exact (rmay_no hm (hin.twice (by omega) (by assumption) (by omega) (by omega) (by assumption))).symm
       | exact (rmay_yes hm ((hinv.fin (by omega) (by omega) rfl).2 (by omega))).symm
       | exact (rmay_no hm (fun h => by have := (hinv.fin (by omega) (by omega) rfl).1 h; omega)).symm
   exact ⟨(congrArg (a₁ := 0) (fun (z0 : Int) => Ending.returned (Value.int .i64 z0)) e0), hbase.below⟩
  refine run_cond_t rfl (congrArg Bool.not (decide_eq_false p3)) ?_
  refine run_seq ?_
  clear bx5
  refine run_region rfl ?_
  refine l_val (v := Value.int .i64 4) rfl (e_assign rfl) ?_
  refine l_nil ?_
  refine run_ret (vs := [Value.int .i64 4]) Try.func12 (.tmp rfl .nil) ?_
  -- return 6
  have e0 : (4 : Int) = (rmayR g r) := by
    first
      | (have hn : ¬ MayP g := fun h => p1 (decide_eq_true h)
         unfold rmayR; rw [if_neg hn]; done)
      | exact (rmay_no hm (fun h => by have := h.1; omega)).symm
      | exact (rmay_no hm (hin.bad (by omega) (by assumption) (by rintro ⟨⟨h1, h2⟩, h3⟩; omega))).symm
      | exact (rmay_no hm (hin.bad (by omega) (by assumption) (by rintro ⟨⟨h1, h2⟩, h3⟩; exact absurd h3 (by assumption)))).symm
      | exact (rmay_no hm (hin.twice (by omega) (by assumption) (by omega) (by omega) (by assumption))).symm
      | exact (rmay_yes hm ((hinv.fin (by omega) (by omega) rfl).2 (by omega))).symm
      | exact (rmay_no hm (fun h => by have := (hinv.fin (by omega) (by omega) rfl).1 h; omega)).symm
  replace hbase := hbase.chg ch2 (not_no _)
  replace hbase := hbase.chg hb7 (not_no _)
  exact ⟨(congrArg (a₁ := 4) (fun (z0 : Int) => Ending.returned (Value.int .i64 z0)) e0), hbase.below⟩
 refine run_cond_t rfl (congrArg Bool.not (Bool.eq_false_iff.2 p1)) ?_
 refine run_seq ?_
 clear bx5
 refine run_region rfl ?_
 refine l_val (v := Value.int .i64 1) rfl (e_assign rfl) ?_
 refine l_nil ?_
 refine run_ret (vs := [Value.int .i64 1]) Try.func12 (.tmp rfl .nil) ?_
 -- return 7
 have e0 : (1 : Int) = (rmayR g r) := by
   first
     | (have hn : ¬ MayP g := fun h => p1 (decide_eq_true h)
        unfold rmayR; rw [if_neg hn]; done)
     | exact (rmay_no hm (fun h => by have := h.1; omega)).symm
     | exact (rmay_no hm (hin.bad (by omega) (by assumption) (by rintro ⟨⟨h1, h2⟩, h3⟩; omega))).symm
     | exact (rmay_no hm (hin.bad (by omega) (by assumption) (by rintro ⟨⟨h1, h2⟩, h3⟩; exact absurd h3 (by assumption)))).symm
     | exact (rmay_no hm (hin.twice (by omega) (by assumption) (by omega) (by omega) (by assumption))).symm
     | exact (rmay_yes hm ((hinv.fin (by omega) (by omega) rfl).2 (by omega))).symm
     | exact (rmay_no hm (fun h => by have := (hinv.fin (by omega) (by omega) rfl).1 h; omega)).symm
 replace hbase := hbase.chg ch2 (not_no _)
 replace hbase := hbase.chg hb7 (not_no _)
 exact ⟨(congrArg (a₁ := 1) (fun (z0 : Int) => Ending.returned (Value.int .i64 z0)) e0), hbase.below⟩
theorem Index_ok (w0 : World) (s : List Int) (s_v : Value) (hs_v : Ro w0 s_v s) (v : Int) :
    Calls Try.prog 71 #[s_v, Value.int .i64 v] w0 (fun ee w => ee = .returned (Value.int .i64 (idxS s v)) ∧ Bel w0.heap.size w0 w) := by
 refine calls_of_run Try.func71 rfl (Nat.le_of_ble_eq_true rfl) ?_
 have hbase := Base.start w0
 have r_s_v := hs_v.sl
 refine run_seq (run_region rfl ?_)
 refine l_val (v := Value.int .i64 0) rfl (e_assign rfl) ?_
 refine l_nil (run_seq (run_seq (run_region rfl ?_)))
 refine l_val (v := s_v) rfl (e_move rfl) ?_
 have len1 := (r_s_v).small
 refine l_val (v := Value.int .i64 (List.length s : Int)) rfl (e_len Try.underlying27 rfl r_s_v) ?_
 refine l_val (v := Value.int .i64 0) rfl (e_move rfl) ?_
 refine l_nil ?_
 refine run_block ?_
 refine run_loop (σ := Nat × Cmap) (fun ⟨k, gq⟩ f w => Base w0 gq w ∧ f 0 = s_v ∧ f 1 = Value.int .i64 v ∧ f 7 = Value.int .i64 (List.length s : Int) ∧ f 8 = Value.int .i64 (k : Int) ∧ Sl gq (is 0) w s_v s ∧ (k : Int) ≤ ((List.length s : Int) : Int) ∧ (∀ j : Nat, j < k → ¬ v = gI s (j : Int))) (fun ⟨k, gq⟩ => Int.toNat (((List.length s : Int) : Int) - (k : Int))) (0, c0) ?_ ?_
 · exact ⟨hbase, rfl, rfl, rfl, rfl, r_s_v, by omega, by intro j hj; omega⟩
 clear r_s_v
 clear hbase
 rintro ⟨k, g4⟩ f2 w3 ⟨hbase, zs0, zs1, zs7, zs8, r_s_v, hle_k, hinv⟩ back2
 refine run_seq (run_region rfl ?_)
 refine l_val (v := Value.bool (decide ((k : Int) < (List.length s : Int)))) rfl (e_lss (m := (k : Int)) (n := (List.length s : Int)) (by exact zs8) (by exact zs7)) ?_
 refine l_nil (run_seq ?_)
 by_cases p2 : (k : Int) < (List.length s : Int)
 ·
  refine run_cond_t rfl (decide_eq_true p2) ?_
  refine run_skip ?_
  refine run_seq ?_
  refine run_block ?_
  refine run_seq (run_region rfl ?_)
  refine l_val (v := Value.int .i64 (k : Int)) rfl (e_move (by exact zs8)) ?_
  refine l_val (v := Value.int .i64 (k : Int)) rfl (e_assign rfl) ?_
  refine l_nil (run_seq (run_region rfl ?_))
  refine l_val (v := Value.int .i64 v) rfl (e_move (by exact zs1)) ?_
  refine l_val (v := s_v) rfl (e_move (by exact zs0)) ?_
  refine l_val (v := Value.int .i64 (k : Int)) rfl (e_move rfl) ?_
  refine l_val (v := Value.pointer (some (eAddr s_v 1 (Int.toNat (k : Int))))) rfl (e_indexAddr (α := Int) (xs := s) (v := s_v) (i := (k : Int)) Try.underlying27 rfl rfl r_s_v rfl (by omega) (by omega)) ?_
  refine l_val (v := Value.int .i64 (gI s (k : Int))) rfl (e_load_el1 (α := Int) (xs := s) (v := s_v) (i := (k : Int)) tp3_x rfl r_s_v (by omega) (by omega) (by decide) rfl) ?_
  refine l_val (v := Value.bool (decide (v = (gI s (k : Int))))) rfl (e_eql (m := v) (n := (gI s (k : Int))) rfl rfl) ?_
  refine l_nil ?_
  by_cases p4 : v = (gI s (k : Int))
  ·
   refine run_cond_t rfl (decide_eq_true p4) ?_
   refine run_seq (run_region rfl ?_)
   refine l_val (v := Value.int .i64 (k : Int)) rfl (e_move rfl) ?_
   refine l_val (v := Value.int .i64 (k : Int)) rfl (e_assign rfl) ?_
   refine l_nil ?_
   refine run_ret (vs := [Value.int .i64 (k : Int)]) Try.func71 (.tmp rfl .nil) ?_
   -- return 0
   have e0 : ((k : Int) : Int) = (idxS s v) := by
     first
       | exact idxS_yes hinv (by assumption) (by assumption)
       | exact idxS_no hinv (by assumption)
   exact ⟨(congrArg (a₁ := (k : Int)) (fun (z0 : Int) => Ending.returned (Value.int .i64 z0)) e0), hbase.below⟩
  refine run_cond_f rfl (decide_eq_false p4) ?_
  refine run_skip ?_
  refine run_inBlock ?_
  refine run_region rfl ?_
  refine l_val (v := Value.int .i64 ((k : Int) + 1)) rfl (e_add (m := (k : Int)) (n := 1) (by exact zs8) rfl (by omega)) ?_
  refine l_val (v := Value.int .i64 ((k : Int) + 1)) rfl (e_move rfl) ?_
  refine l_nil ?_
  refine back2 (k + 1, g4) _ _ ⟨hbase, (by exact zs0), (by exact zs1), (by exact zs7), rfl, r_s_v, by omega, ?_⟩ ?_
  · show ∀ j : Nat, j < (k + 1) → ¬ v = gI s (j : Int)
    intro j hj
    by_cases e0 : j = k
    · subst e0; assumption
    · exact hinv j (by omega)
  · show Int.toNat (((List.length s : Int) : Int) - ((k + 1) : Int)) < Int.toNat (((List.length s : Int) : Int) - (k : Int))
    omega
 refine run_cond_f rfl (decide_eq_false p2) ?_
 refine run_exit rfl ?_
 refine run_seq (run_region rfl ?_)
 refine l_val (v := Value.int .i64 (-1)) rfl (e_assign rfl) ?_
 refine l_nil ?_
 refine run_ret (vs := [Value.int .i64 (-1)]) Try.func71 (.tmp rfl .nil) ?_
 -- return 1
 have e0 : (-1 : Int) = (idxS s v) := by
   first
     | exact idxS_yes hinv (by assumption) (by assumption)
     | exact idxS_no hinv (by assumption)
 exact ⟨(congrArg (a₁ := -1) (fun (z0 : Int) => Ending.returned (Value.int .i64 z0)) e0), hbase.below⟩
theorem canon_ok (w0 : World) (r : List (List Int)) (r_v : Value) (hr_v : Ro w0 r_v r) :
    Calls Try.prog 89 #[r_v] w0 (fun ee w => ∃ xx : Cmap × Value, ee = .returned ((fun ⟨δ, rv0⟩ => rv0) xx) ∧ (fun (⟨δ, rv0⟩ : Cmap × Value) (w : World) => Fresh w0 δ w ∧ Nst δ 1 w rv0 (canonS r)) xx w) := by
 refine calls_of_run Try.func89 rfl (Nat.le_of_ble_eq_true rfl) ?_
 have hbase := Base.start w0
 have r_r_v := hr_v.sl
 refine run_seq (run_region rfl ?_)
 refine l_val (v := Value.slice none 0 0) rfl (e_assign rfl) ?_
 refine l_nil (run_seq (run_region rfl ?_))
 refine l_val (v := r_v) rfl (e_move rfl) ?_
 have len1 := (r_r_v).small
 refine l_val (v := Value.int .i64 (List.length r : Int)) rfl (e_len Try.underlying26 rfl r_r_v) ?_
 refine l_op rfl ?_
 refine o_make_nst (α := Int) (n := (List.length r : Int)) (cp := (List.length r : Int)) c0 1 Try.underlying26 tp27_x rfl rfl rfl (by omega) (by omega) (by omega) (by omega) ?_
 intro g2 w3 v4 ch5 o6
 refine l_val (v := v4) rfl (e_assign rfl) ?_
 refine l_nil (run_seq (run_seq (run_region rfl ?_)))
 refine l_val (v := r_v) rfl (e_move rfl) ?_
 replace r_r_v := r_r_v.chg ch5 (not_no _)
 refine l_val (v := Value.int .i64 (List.length r : Int)) rfl (e_len Try.underlying26 rfl r_r_v) ?_
 refine l_val (v := Value.int .i64 0) rfl (e_move rfl) ?_
 refine l_nil ?_
 refine run_block ?_
 refine run_loop (σ := Nat × (List (List Int)) × Cmap) (fun ⟨k, out, gq⟩ f w => Base w0 gq w ∧ f 3 = v4 ∧ f 10 = r_v ∧ f 11 = Value.int .i64 (List.length r : Int) ∧ f 12 = Value.int .i64 (k : Int) ∧ Sl gq (is 0) w r_v r ∧ Nst gq 1 w v4 out ∧ (k : Int) ≤ ((List.length r : Int) : Int) ∧ (out = List.map turnS (List.take k r) ++ List.replicate (r.length - k) [])) (fun ⟨k, out, gq⟩ => Int.toNat (((List.length r : Int) : Int) - (k : Int))) (0, (List.replicate (Int.toNat (List.length r : Int)) []), g2) ?_ ?_
 replace hbase := hbase.chg ch5 (not_no _)
 · exact ⟨hbase, rfl, rfl, rfl, rfl, r_r_v, o6, by omega, by simp⟩
 clear r_r_v
 clear o6
 clear hbase
 rintro ⟨k, out, g9⟩ f7 w8 ⟨hbase, zs3, zs10, zs11, zs12, r_r_v, o6, hle_k, hinv⟩ back3
 have hol : out.length = r.length := by rw [hinv]; simp; omega
 refine run_seq (run_region rfl ?_)
 refine l_val (v := Value.bool (decide ((k : Int) < (List.length r : Int)))) rfl (e_lss (m := (k : Int)) (n := (List.length r : Int)) (by exact zs12) (by exact zs11)) ?_
 refine l_nil (run_seq ?_)
 by_cases p3 : (k : Int) < (List.length r : Int)
 ·
  refine run_cond_t rfl (decide_eq_true p3) ?_
  refine run_skip ?_
  refine run_seq ?_
  refine run_block ?_
  refine run_seq (run_region rfl ?_)
  refine l_val (v := Value.int .i64 (k : Int)) rfl (e_move (by exact zs12)) ?_
  refine l_val (v := Value.pointer (some (eAddr r_v 1 (Int.toNat (k : Int))))) rfl (e_indexAddr (α := List Int) (xs := r) (v := r_v) (i := (k : Int)) Try.underlying26 rfl (by exact zs10) r_r_v (by exact zs12) (by omega) (by omega)) ?_
  obtain ⟨v10, cel11, r12⟩ := sl_row (r := (k : Int)) r_r_v (by omega) (by omega)
  refine l_val (v := v10) rfl (e_load1 tp27_x rfl cel11) ?_
  refine l_val (v := Value.int .i64 (k : Int)) rfl (e_assign rfl) ?_
  refine l_val (v := v10) rfl (e_assign rfl) ?_
  refine l_nil (run_seq (run_seq (run_region rfl ?_)))
  refine l_val (v := v10) rfl (e_move rfl) ?_
  have len13 := (r12).small
  refine l_val (v := Value.int .i64 (List.length (gI r (k : Int)) : Int)) rfl (e_len Try.underlying27 rfl r12) ?_
  refine l_val (v := Value.bool (decide ((List.length (gI r (k : Int)) : Int) = 0))) rfl (e_eql (m := (List.length (gI r (k : Int)) : Int)) (n := 0) rfl rfl) ?_
  refine l_nil ?_
  by_cases p5 : (List.length (gI r (k : Int)) : Int) = 0
  ·
   refine run_cond_t rfl (decide_eq_true p5) ?_
   refine run_exit rfl ?_
   clear r12
   refine run_region rfl ?_
   refine l_val (v := Value.int .i64 ((k : Int) + 1)) rfl (e_add (m := (k : Int)) (n := 1) (by exact zs12) rfl (by omega)) ?_
   refine l_val (v := Value.int .i64 ((k : Int) + 1)) rfl (e_move rfl) ?_
   refine l_nil ?_
   refine back3 (k + 1, out, g9) _ _ ⟨hbase, (by exact zs3), (by exact zs10), (by exact zs11), rfl, r_r_v, o6, by omega, ?_⟩ ?_
   · show out = List.map turnS (List.take (k + 1) r) ++ List.replicate (r.length - (k + 1)) []
     first
       | (rw [hinv]; exact map_skip (by assumption) (by rw [turnS, if_pos]; apply List.eq_nil_of_length_eq_zero; omega))
       | (rw [hinv]; exact map_next (by assumption) (by rw [hti.1]; simp))
   · show Int.toNat (((List.length r : Int) : Int) - ((k + 1) : Int)) < Int.toNat (((List.length r : Int) : Int) - (k : Int))
     omega
  have hti := turnS_idx (l := gI r (k : Int)) (by intro h; rw [h] at p5; simp at p5)
  have hti2 := hti.2.1
  have hti3 := hti.2.2
  refine run_cond_f rfl (decide_eq_false p5) ?_
  refine run_skip ?_
  refine run_seq (run_region rfl ?_)
  refine l_val (v := v10) rfl (e_move rfl) ?_
  refine l_val (v := v10) rfl (e_move rfl) ?_
  refine l_op rfl ?_
  refine o_call (v := Value.int .i64 (minL (gI r (k : Int)))) (e_call (vals := [v10]) Try.func102 bd102_x nm102_x rfl) (Min_ok w8 (gI r (k : Int)) v10 (r12).ro (by omega)) ?_
  intro w14 hb15
  replace hb15 := chg_below hb15 g9
  replace r12 := r12.chg hb15 (not_no _)
  refine l_op rfl ?_
  refine o_call (v := Value.int .i64 (idxS (gI r (k : Int)) (minL (gI r (k : Int))))) (e_call (vals := [v10, Value.int .i64 (minL (gI r (k : Int)))]) Try.func71 bd71_x nm71_x rfl) (Index_ok w14 (gI r (k : Int)) v10 (r12).ro (minL (gI r (k : Int)))) ?_
  intro w16 hb17
  replace hb17 := chg_below hb17 g9
  refine l_val (v := Value.int .i64 (idxS (gI r (k : Int)) (minL (gI r (k : Int))))) rfl (e_assign rfl) ?_
  refine l_nil ?_
  refine run_region_x g9 [0, 1, 2, 3, 4, 6, 7, 8, 10] mixed_x ?_
  intro w19 ch18
  refine x_pure (v := v4) 0 rfl (by kernel_rfl) (by kernel_rfl) rfl (fun w => e_move (by exact zs3)) ?_
  refine x_pure (v := Value.int .i64 (k : Int)) 1 rfl (by kernel_rfl) (by kernel_rfl) rfl (fun w => e_move rfl) ?_
  refine x_pure (v := v10) 2 rfl (by kernel_rfl) (by kernel_rfl) rfl (fun w => e_move rfl) ?_
  refine x_pure (v := Value.int .i64 (idxS (gI r (k : Int)) (minL (gI r (k : Int))))) 3 rfl (by kernel_rfl) (by kernel_rfl) rfl (fun w => e_move rfl) ?_
  replace r12 := (r12.chg hb17 (not_no _)).chg ch18 (not_no _)
  refine x_pure (v := (subV v10 1 (Int.toNat (idxS (gI r (k : Int)) (minL (gI r (k : Int))))) (Int.toNat ((gI r (k : Int)).length)))) 4 rfl (by kernel_rfl) (by kernel_rfl) rfl (fun w => e_slice (α := Int) (xs := gI r (k : Int)) (v := v10) (l := idxS (gI r (k : Int)) (minL (gI r (k : Int)))) (h := (gI r (k : Int)).length) Try.underlying27 rfl rfl r12 (.inl (congrArg some rfl)) (.inr ⟨rfl, rfl⟩) (by omega) (by omega) (by omega)) ?_
  have r21 := sl_sub r12 (show Int.toNat (idxS (gI r (k : Int)) (minL (gI r (k : Int)))) ≤ Int.toNat ((gI r (k : Int)).length) by omega) (show Int.toNat ((gI r (k : Int)).length) ≤ List.length _ by omega)
  refine x_pure (v := v10) 6 rfl (by kernel_rfl) (by kernel_rfl) rfl (fun w => e_move rfl) ?_
  refine x_pure (v := Value.int .i64 (idxS (gI r (k : Int)) (minL (gI r (k : Int))))) 7 rfl (by kernel_rfl) (by kernel_rfl) rfl (fun w => e_move rfl) ?_
  refine x_pure (v := (subV v10 1 (Int.toNat 0) (Int.toNat (idxS (gI r (k : Int)) (minL (gI r (k : Int))))))) 8 rfl (by kernel_rfl) (by kernel_rfl) rfl (fun w => e_slice (α := Int) (xs := gI r (k : Int)) (v := v10) (l := 0) (h := idxS (gI r (k : Int)) (minL (gI r (k : Int)))) Try.underlying27 rfl rfl r12 (.inr ⟨rfl, rfl⟩) (.inl (congrArg some rfl)) (by omega) (by omega) (by omega)) ?_
  have r23 := sl_sub r12 (show Int.toNat 0 ≤ Int.toNat (idxS (gI r (k : Int)) (minL (gI r (k : Int)))) by omega) (show Int.toNat (idxS (gI r (k : Int)) (minL (gI r (k : Int)))) ≤ List.length _ by omega)
  refine x_one 5 rfl (by kernel_rfl) rfl ?_
  refine o_append (α := Int) (xs := ([])) (ys := (List.drop (Int.toNat (idxS (gI r (k : Int)) (minL (gI r (k : Int))))) (List.take (Int.toNat ((gI r (k : Int)).length)) (gI r (k : Int))))) g9 (J := is 2) (S := is 2) (2, 0) rfl Try.underlying27 tp3_x (by decide) rfl rfl rfl Ow.nil r21 (by decide) (by first | omega | (simp; done) | (simp; omega)) ?_
  intro g24 w25 v26 ch27 o28
  replace o28 : Ow g24 (is 2) (is 2) w25 v26 (List.drop (Int.toNat (idxS (gI r (k : Int)) (minL (gI r (k : Int))))) (List.take (Int.toNat ((gI r (k : Int)).length)) (gI r (k : Int)))) := o28
  refine x_one 9 rfl (by kernel_rfl) rfl ?_
  replace r23 := r23.chg ch27 (is_ne rfl)
  refine o_append (α := Int) (xs := (List.drop (Int.toNat (idxS (gI r (k : Int)) (minL (gI r (k : Int))))) (List.take (Int.toNat ((gI r (k : Int)).length)) (gI r (k : Int))))) (ys := (List.drop (Int.toNat 0) (List.take (Int.toNat (idxS (gI r (k : Int)) (minL (gI r (k : Int))))) (gI r (k : Int))))) g24 (J := is 2) (S := is 2) (2, 0) rfl Try.underlying27 tp3_x (by decide) rfl rfl rfl o28 r23 (by decide) (by first | omega | (simp; done) | (simp; omega)) ?_
  intro g29 w30 v31 ch32 o33
  clear o28
  have C34 : Chg (inl [2]) _ _ _ _ := (hb15.n).seq ((hb17.n).seq ((ch18.n).seq ((ch27.l rfl).seq (ch32.l rfl))))
  replace o6 := o6.chg C34 (is_nl rfl)
  refine x_val (v := Value.pointer (some (eAddr v4 1 (Int.toNat (k : Int))))) 10 [9, 5, 8, 7, 6, 4, 3, 2, 1, 0] rfl (by kernel_rfl) (by kernel_rfl) rfl (e_indexAddr (α := List Int) (xs := out) (v := v4) (i := (k : Int)) Try.underlying26 rfl rfl o6.sl rfl (by omega) (by omega)) ?_
  refine x_one 11 rfl (by kernel_rfl) rfl ?_
  refine o_store_fresh (r := (k : Int)) tp27_x rfl rfl o6 o33 rfl (by omega) (by omega) ?_
  intro g41 w38 ch39 o40
  clear o6
  clear o33
  refine x_nil (by kernel_rfl) ?_
  refine run_inBlock ?_
  clear r12
  clear r21
  clear r23
  refine run_region rfl ?_
  refine l_val (v := Value.int .i64 ((k : Int) + 1)) rfl (e_add (m := (k : Int)) (n := 1) (by exact zs12) rfl (by omega)) ?_
  refine l_val (v := Value.int .i64 ((k : Int) + 1)) rfl (e_move rfl) ?_
  refine l_nil ?_
  have C42 : Chg (inl [1, 2]) _ _ _ _ := (hb15.n).seq ((hb17.n).seq ((ch18.n).seq ((ch27.l rfl).seq ((ch32.l rfl).seq (ch39.l2 rfl rfl)))))
  replace hbase := hbase.chg C42 (is_nl rfl)
  replace r_r_v := r_r_v.chg C42 (is_nl rfl)
  refine back3 (k + 1, (List.set out (Int.toNat (k : Int)) ((List.drop (Int.toNat (idxS (gI r (k : Int)) (minL (gI r (k : Int))))) (List.take (Int.toNat ((gI r (k : Int)).length)) (gI r (k : Int)))) ++ (List.drop (Int.toNat 0) (List.take (Int.toNat (idxS (gI r (k : Int)) (minL (gI r (k : Int))))) (gI r (k : Int)))))), g41) _ _ ⟨hbase, (by exact zs3), (by exact zs10), (by exact zs11), rfl, r_r_v, o40, by omega, ?_⟩ ?_
  · show (List.set out (Int.toNat (k : Int)) ((List.drop (Int.toNat (idxS (gI r (k : Int)) (minL (gI r (k : Int))))) (List.take (Int.toNat ((gI r (k : Int)).length)) (gI r (k : Int)))) ++ (List.drop (Int.toNat 0) (List.take (Int.toNat (idxS (gI r (k : Int)) (minL (gI r (k : Int))))) (gI r (k : Int)))))) = List.map turnS (List.take (k + 1) r) ++ List.replicate (r.length - (k + 1)) []
    first
      | (rw [hinv]; exact map_skip (by assumption) (by rw [turnS, if_pos]; apply List.eq_nil_of_length_eq_zero; omega))
      | (rw [hinv]; exact map_next (by assumption) (by rw [hti.1]; simp))
  · show Int.toNat (((List.length r : Int) : Int) - ((k + 1) : Int)) < Int.toNat (((List.length r : Int) : Int) - (k : Int))
    omega
 refine run_cond_f rfl (decide_eq_false p3) ?_
 refine run_exit rfl ?_
 refine run_seq (run_region rfl ?_)
 refine l_val (v := v4) rfl (e_move (by exact zs3)) ?_
 refine l_val (v := v4) rfl (e_assign rfl) ?_
 refine l_nil ?_
 refine run_ret (vs := [v4]) Try.func89 (.tmp rfl .nil) ?_
 -- return 0
 have e0 : (out : List (List Int)) = (canonS r) := by
   rw [hinv, show k = r.length by omega]; simp [canonS]
 exact ⟨(fin w0 g9 (fun n => if n = 1 then 1 else 0), v4), (congrArg (a₁ := out) (fun (z0 : List (List Int)) => Ending.returned (v4)) e0), hbase.fresh _, (e0 ▸ (o6.glue (γ := c0) (ren := (fun n => if n = 1 then 1 else 0)) (k := 1) hbase.col rfl rfl))⟩
theorem Light9_ok (w0 : World) (g : (Int) × (List ((Int) × (Int)))) (g_v : Value) (hg_v : Ro w0 g_v g.2) (r : List (List Int)) (r_v : Value) (hr_v : Ro w0 r_v r) (hb : (r.length : Int) ≤ 1048576 ∧ ∀ l ∈ r, l.length ≤ 1048576) :
    Calls Try.prog 11 #[Value.agg (List.toArray [Value.int .i64 g.1, g_v]), r_v] w0 (fun ee w => ee = .returned (Value.bool (decide ((g.2.length ≤ 300 ∧ (g.1 ≤ 300 ∨ ¬ MayP g)) ∧ g.1 ≤ 200 ∧ r.length + r.flatten.length ≤ 1000))) ∧ Bel w0.heap.size w0 w) := by
 refine calls_of_run Try.func11 rfl (Nat.le_of_ble_eq_true rfl) ?_
 have hbase := Base.start w0
 have r_g_v := hg_v.sl
 have r_r_v := hr_v.sl
 obtain ⟨hb1, hb2⟩ := hb
 refine run_seq (run_region rfl (l_op rfl ?_))
 refine o_box c0 (is 1) (1, 0) rfl rfl ?_
 intro g4 w1 b3 ch2 bx5
 replace bx5 : Bx g4 (is 1) w1 b3 [Value.int .i64 g.1, g_v] := bx5
 refine l_val (v := Value.bool false) rfl (e_assign rfl) ?_
 refine l_nil (run_seq (run_region rfl ?_))
 refine l_val (v := r_v) rfl (e_move rfl) ?_
 replace r_r_v := r_r_v.chg ch2 (not_no _)
 have len6 := (r_r_v).small
 refine l_val (v := Value.int .i64 (List.length r : Int)) rfl (e_len Try.underlying26 rfl r_r_v) ?_
 refine l_val (v := Value.int .i64 (List.length r : Int)) rfl (e_assign rfl) ?_
 refine l_nil (run_seq (run_seq (run_region rfl ?_)))
 refine l_val (v := Value.int .i64 0) rfl (e_assign rfl) ?_
 refine l_nil ?_
 refine run_block ?_
 refine run_loop (σ := Int × Nat × Cmap) (fun ⟨n, k, gq⟩ f w => Base w0 gq w ∧ f 1 = r_v ∧ f 2 = Value.pointer (some ⟨b3, 0, none⟩) ∧ f 5 = Value.int .i64 n ∧ f 6 = Value.int .i64 (k : Int) ∧ Sl gq (is 0) w g_v g.2 ∧ Sl gq (is 0) w r_v r ∧ Bx gq (is 1) w b3 [Value.int .i64 g.1, g_v] ∧ (k : Int) ≤ ((List.length r : Int) : Int) ∧ (n = (r.length : Int) + (((List.take k r).flatten.length : Nat) : Int) ∧ (((List.take k r).flatten.length : Nat) : Int) ≤ 1048576 * (k : Int))) (fun ⟨n, k, gq⟩ => Int.toNat (((List.length r : Int) : Int) - (k : Int))) ((List.length r : Int), 0, g4) ?_ ?_
 replace hbase := hbase.chg ch2 (not_no _)
 replace r_g_v := r_g_v.chg ch2 (not_no _)
 · exact ⟨hbase, rfl, rfl, rfl, rfl, r_g_v, r_r_v, bx5, by omega, by exact ⟨by simp, by simp⟩⟩
 clear r_g_v
 clear r_r_v
 clear bx5
 clear hbase
 rintro ⟨n, k, g9⟩ f7 w8 ⟨hbase, zs1, zs2, zs5, zs6, r_g_v, r_r_v, bx5, hle_k, hinv⟩ back3
 refine run_seq (run_seq (run_region rfl ?_))
 refine l_val (v := Value.int .i64 (k : Int)) rfl (e_move (by exact zs6)) ?_
 refine l_val (v := r_v) rfl (e_move (by exact zs1)) ?_
 refine l_val (v := Value.int .i64 (List.length r : Int)) rfl (e_len Try.underlying26 rfl r_r_v) ?_
 refine l_val (v := Value.bool (decide ((k : Int) < (List.length r : Int)))) rfl (e_lss (m := (k : Int)) (n := (List.length r : Int)) rfl rfl) ?_
 refine l_nil ?_
 by_cases p3 : (k : Int) < (List.length r : Int)
 ·
  refine run_cond_t rfl (decide_eq_true p3) ?_
  have hlk := hb2 _ (gI_mem (xs := r) (i := (k : Int)) (by omega) (by assumption))
  refine run_skip ?_
  refine run_seq ?_
  refine run_block ?_
  refine run_region rfl ?_
  refine l_val (v := Value.int .i64 n) rfl (e_move (by exact zs5)) ?_
  refine l_val (v := r_v) rfl (e_move (by exact zs1)) ?_
  refine l_val (v := Value.int .i64 (k : Int)) rfl (e_move (by exact zs6)) ?_
  refine l_val (v := Value.pointer (some (eAddr r_v 1 (Int.toNat (k : Int))))) rfl (e_indexAddr (α := List Int) (xs := r) (v := r_v) (i := (k : Int)) Try.underlying26 rfl rfl r_r_v rfl (by omega) (by omega)) ?_
  obtain ⟨v10, cel11, r12⟩ := sl_row (r := (k : Int)) r_r_v (by omega) (by omega)
  refine l_val (v := v10) rfl (e_load1 tp27_x rfl cel11) ?_
  have len13 := (r12).small
  refine l_val (v := Value.int .i64 (List.length (gI r (k : Int)) : Int)) rfl (e_len Try.underlying27 rfl r12) ?_
  refine l_val (v := Value.int .i64 (n + (List.length (gI r (k : Int)) : Int))) rfl (e_add (m := n) (n := (List.length (gI r (k : Int)) : Int)) rfl rfl (by omega)) ?_
  refine l_val (v := Value.int .i64 (n + (List.length (gI r (k : Int)) : Int))) rfl (e_assign rfl) ?_
  refine l_nil ?_
  refine run_inBlock ?_
  clear r12
  refine run_region rfl ?_
  refine l_val (v := Value.int .i64 (k : Int)) rfl (e_move (by exact zs6)) ?_
  refine l_val (v := Value.int .i64 ((k : Int) + 1)) rfl (e_add (m := (k : Int)) (n := 1) rfl rfl (by omega)) ?_
  refine l_val (v := Value.int .i64 ((k : Int) + 1)) rfl (e_assign rfl) ?_
  refine l_nil ?_
  refine back3 (n + (List.length (gI r (k : Int)) : Int), k + 1, g9) _ _ ⟨hbase, (by exact zs1), (by exact zs2), rfl, rfl, r_g_v, r_r_v, bx5, by omega, ?_⟩ ?_
  · show (n + (List.length (gI r (k : Int)) : Int)) = (r.length : Int) + (((List.take (k + 1) r).flatten.length : Nat) : Int) ∧ (((List.take (k + 1) r).flatten.length : Nat) : Int) ≤ 1048576 * ((k + 1) : Int)
    rw [flat_take_succ (by assumption), List.length_append]; constructor <;> omega
  · show Int.toNat (((List.length r : Int) : Int) - ((k + 1) : Int)) < Int.toNat (((List.length r : Int) : Int) - (k : Int))
    omega
 refine run_cond_f rfl (decide_eq_false p3) ?_
 refine run_exit rfl ?_
 refine run_seq (run_region rfl ?_)
 refine l_val (v := Value.agg (List.toArray [Value.int .i64 g.1, g_v])) rfl (e_load_bxN (ds := [Value.int .i64 g.1, g_v]) tp24_x (by exact zs2) bx5 rfl rfl) ?_
 refine l_op rfl ?_
 refine o_call (v := Value.bool (decide (g.2.length ≤ 300 ∧ (g.1 ≤ 300 ∨ ¬ MayP g)))) (e_call (vals := [Value.agg (List.toArray [Value.int .i64 g.1, g_v])]) Try.func51 bd51_x nm51_x rfl) (Light_ok w8 g g_v (r_g_v).ro) ?_
 intro w14 hb15
 replace hb15 := chg_below hb15 g9
 refine l_val (v := Value.bool (decide (g.2.length ≤ 300 ∧ (g.1 ≤ 300 ∨ ¬ MayP g)))) rfl (e_move rfl) ?_
 by_cases q24 : (decide (g.2.length ≤ 300 ∧ (g.1 ≤ 300 ∨ ¬ MayP g))) = true
 ·
  refine l_val (v := Value.pointer (some ⟨b3, 0, none⟩)) (want_y rfl rfl rfl q24) (e_fieldAddr Try.underlying24 rfl rfl (by exact zs2) rfl) ?_
  replace bx5 := bx5.chg hb15 (not_no _)
  refine l_val (v := Value.int .i64 g.1) (want_y rfl rfl rfl q24) (e_load_bx1 tp3_x rfl bx5 rfl) ?_
  refine l_val (v := Value.bool (decide (g.1 ≤ 200))) (want_y rfl rfl rfl q24) (e_leq (m := g.1) (n := 200) rfl rfl) ?_
  refine l_val (v := Value.bool (decide (g.1 ≤ 200))) rfl (e_pick_t rfl q24 rfl) ?_
  refine l_val (v := Value.bool (decide (g.1 ≤ 200))) rfl (e_move rfl) ?_
  by_cases q29 : g.1 ≤ 200
  ·
   refine l_val (v := Value.int .i64 n) (want_y rfl rfl rfl (decide_eq_true q29)) (e_move (by exact zs5)) ?_
   refine l_val (v := Value.bool (decide (n ≤ 1000))) (want_y rfl rfl rfl (decide_eq_true q29)) (e_leq (m := n) (n := 1000) rfl rfl) ?_
   refine l_val (v := Value.bool (decide (n ≤ 1000))) rfl (e_pick_t rfl (decide_eq_true q29) rfl) ?_
   refine l_val (v := Value.bool (decide (n ≤ 1000))) rfl (e_assign rfl) ?_
   refine l_nil ?_
   refine run_ret (vs := [Value.bool (decide (n ≤ 1000))]) Try.func11 (.tmp rfl .nil) ?_
   -- return 0
   have e0 : (decide (n ≤ 1000) : Bool) = (decide ((g.2.length ≤ 300 ∧ (g.1 ≤ 300 ∨ ¬ MayP g)) ∧ g.1 ≤ 200 ∧ r.length + r.flatten.length ≤ 1000)) := by
     (try rw [List.take_of_length_le (by omega)] at hinv)
     (try simp only [mayB] at *)
     obtain ⟨hi1, hi2⟩ := hinv
     by_cases h : MayP g <;> simp_all <;> omega
   replace hbase := hbase.chg hb15 (not_no _)
   exact ⟨(congrArg (a₁ := decide (n ≤ 1000)) (fun (z0 : Bool) => Ending.returned (Value.bool z0)) e0), hbase.below⟩
  refine l_skip (want_n rfl rfl rfl (decide_eq_false q29)) ?_
  refine l_skip (want_n rfl rfl rfl (decide_eq_false q29)) ?_
  refine l_val (v := Value.bool false) rfl (e_pick_f rfl (decide_eq_false q29) rfl) ?_
  refine l_val (v := Value.bool false) rfl (e_assign rfl) ?_
  refine l_nil ?_
  refine run_ret (vs := [Value.bool false]) Try.func11 (.tmp rfl .nil) ?_
  -- return 1
  have e0 : (false : Bool) = (decide ((g.2.length ≤ 300 ∧ (g.1 ≤ 300 ∨ ¬ MayP g)) ∧ g.1 ≤ 200 ∧ r.length + r.flatten.length ≤ 1000)) := by
    (try rw [List.take_of_length_le (by omega)] at hinv)
    (try simp only [mayB] at *)
    obtain ⟨hi1, hi2⟩ := hinv
    by_cases h : MayP g <;> simp_all <;> omega
  replace hbase := hbase.chg hb15 (not_no _)
  exact ⟨(congrArg (a₁ := false) (fun (z0 : Bool) => Ending.returned (Value.bool z0)) e0), hbase.below⟩
 refine l_skip (want_n rfl rfl rfl (Bool.eq_false_iff.2 q24)) ?_
 refine l_skip (want_n rfl rfl rfl (Bool.eq_false_iff.2 q24)) ?_
 refine l_skip (want_n rfl rfl rfl (Bool.eq_false_iff.2 q24)) ?_
 refine l_val (v := Value.bool false) rfl (e_pick_f rfl (Bool.eq_false_iff.2 q24) rfl) ?_
 refine l_val (v := Value.bool false) rfl (e_move rfl) ?_
 refine l_skip (want_n rfl rfl rfl rfl) (l_skip (want_n rfl rfl rfl rfl) ?_)
 refine l_val (v := Value.bool false) rfl (e_pick_f rfl rfl rfl) ?_
 refine l_val (v := Value.bool false) rfl (e_assign rfl) ?_
 refine l_nil ?_
 refine run_ret (vs := [Value.bool false]) Try.func11 (.tmp rfl .nil) ?_
 -- return 2
 have e0 : (false : Bool) = (decide ((g.2.length ≤ 300 ∧ (g.1 ≤ 300 ∨ ¬ MayP g)) ∧ g.1 ≤ 200 ∧ r.length + r.flatten.length ≤ 1000)) := by
   (try rw [List.take_of_length_le (by omega)] at hinv)
   (try simp only [mayB] at *)
   obtain ⟨hi1, hi2⟩ := hinv
   by_cases h : MayP g <;> simp_all <;> omega
 replace hbase := hbase.chg hb15 (not_no _)
 exact ⟨(congrArg (a₁ := false) (fun (z0 : Bool) => Ending.returned (Value.bool z0)) e0), hbase.below⟩
end TL
