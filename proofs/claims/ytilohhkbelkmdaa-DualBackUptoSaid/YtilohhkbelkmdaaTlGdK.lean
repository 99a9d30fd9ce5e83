import Derived.Test.YtilohhkbelkmdaaTlGdA
import Derived.Test.YtilohhkbelkmdaaTlGdF
import Derived.Test.YtilohhkbelkmdaaTlGenA
import Derived.Test.YtilohhkbelkmdaaTlGenJ
import Derived.Test.YtilohhkbelkmdaaTlGenI
import Derived.Test.YtilohhkbelkmdaaTlGenV
import Derived.Test.YtilohhkbelkmdaaTlGenX
import Derived.Test.YtilohhkbelkmdaaTlP3
import Derived.Test.YtilohhkbelkmdaaProg
set_option linter.all false
set_option maxRecDepth 20000
namespace TL
open Go Go.Proofs
theorem mixed_dk : Try.prog.follows .mixedOrders = true := by kernel_rfl
theorem tp3_dk : Tp Try.prog 3 false 1 8 (.int .i64 0) := Tp.of (by kernel_rfl)
theorem tp22_dk : Tp Try.prog 22 false 1 24 (.slice none 0 0) := Tp.of (by kernel_rfl)
theorem tp24_dk : Tp Try.prog 24 true 2 32 (.agg #[.int .i64 0, .slice none 0 0]) := Tp.of (by kernel_rfl)
theorem tp27_dk : Tp Try.prog 27 false 1 24 (.slice none 0 0) := Tp.of (by kernel_rfl)
theorem bd11_dk : Try.f11.body.isNone = false := rfl
theorem nm11_dk : (Try.f11.name == "runtime.NumGoroutine") = false := by decide +kernel
theorem bd12_dk : Try.f12.body.isNone = false := rfl
theorem nm12_dk : (Try.f12.name == "runtime.NumGoroutine") = false := by decide +kernel
theorem bd21_dk : Try.f21.body.isNone = false := rfl
theorem nm21_dk : (Try.f21.name == "runtime.NumGoroutine") = false := by decide +kernel
theorem bd22_dk : Try.f22.body.isNone = false := rfl
theorem nm22_dk : (Try.f22.name == "runtime.NumGoroutine") = false := by decide +kernel
theorem bd23_dk : Try.f23.body.isNone = false := rfl
theorem nm23_dk : (Try.f23.name == "runtime.NumGoroutine") = false := by decide +kernel
theorem bd24_dk : Try.f24.body.isNone = false := rfl
theorem nm24_dk : (Try.f24.name == "runtime.NumGoroutine") = false := by decide +kernel
theorem behindD_ok (w0 : World) (l : List Int) (l_v : Value) (hl_v : Ro w0 l_v l) (x : Int) (hl : l.length ≤ 1000000) :
    Calls Try.prog 24 #[l_v, Value.int .i64 x] w0 (fun ee w => ee = .returned (Value.int .i64 (behS l x)) ∧ Bel w0.heap.size w0 w) := by
 refine calls_of_run Try.func24 rfl (Nat.le_of_ble_eq_true rfl) ?_
 have hbase := Base.start w0
 have r_l_v := hl_v.sl
 refine run_seq (run_region rfl ?_)
 refine l_val (v := Value.int .i64 0) rfl (e_assign rfl) ?_
 refine l_nil (run_seq (run_seq (run_region rfl ?_)))
 refine l_val (v := Value.int .i64 0) rfl (e_assign rfl) ?_
 refine l_nil ?_
 refine run_block ?_
 refine run_loop (σ := Nat × Cmap) (fun ⟨k, gq⟩ f w => Base w0 gq w ∧ f 0 = l_v ∧ f 1 = Value.int .i64 x ∧ f 5 = Value.int .i64 (k : Int) ∧ Sl gq (is 0) w l_v l ∧ (k : Int) ≤ ((List.length l : Int) : Int) ∧ (∀ j : Nat, j < k → ¬ gI l (j : Int) = x)) (fun ⟨k, gq⟩ => Int.toNat (((List.length l : Int) : Int) - (k : Int))) (0, c0) ?_ ?_
 · exact ⟨hbase, rfl, rfl, rfl, r_l_v, by omega, by intro j hj; omega⟩
 clear r_l_v
 clear hbase
 rintro ⟨k, g3⟩ f1 w2 ⟨hbase, zs0, zs1, zs5, r_l_v, hle_k, hinv⟩ back2
 refine run_seq (run_seq (run_region rfl ?_))
 refine l_val (v := Value.int .i64 (k : Int)) rfl (e_move (by exact zs5)) ?_
 refine l_val (v := l_v) rfl (e_move (by exact zs0)) ?_
 have len4 := (r_l_v).small
 refine l_val (v := Value.int .i64 (List.length l : Int)) rfl (e_len Try.underlying27 rfl r_l_v) ?_
 refine l_val (v := Value.bool (decide ((k : Int) < (List.length l : Int)))) rfl (e_lss (m := (k : Int)) (n := (List.length l : Int)) rfl rfl) ?_
 refine l_nil ?_
 by_cases p2 : (k : Int) < (List.length l : Int)
 ·
  refine run_cond_t rfl (decide_eq_true p2) ?_
  have he1 := Int.emod_nonneg ((k : Int) + 1) (show ((l.length : Nat) : Int) ≠ 0 by omega)
  have he2 := Int.emod_lt_of_pos ((k : Int) + 1) (show (0 : Int) < ((l.length : Nat) : Int) by omega)
  refine run_skip ?_
  refine run_seq ?_
  refine run_block ?_
  refine run_seq (run_region rfl ?_)
  refine l_val (v := l_v) rfl (e_move (by exact zs0)) ?_
  refine l_val (v := Value.int .i64 (k : Int)) rfl (e_move (by exact zs5)) ?_
  refine l_val (v := Value.pointer (some (eAddr l_v 1 (Int.toNat (k : Int))))) rfl (e_indexAddr (α := Int) (xs := l) (v := l_v) (i := (k : Int)) Try.underlying27 rfl rfl r_l_v rfl (by omega) (by omega)) ?_
  refine l_val (v := Value.int .i64 (gI l (k : Int))) rfl (e_load_el1 (α := Int) (xs := l) (v := l_v) (i := (k : Int)) tp3_dk rfl r_l_v (by omega) (by omega) (by decide) rfl) ?_
  refine l_val (v := Value.int .i64 x) rfl (e_move (by exact zs1)) ?_
  refine l_val (v := Value.bool (decide ((gI l (k : Int)) = x))) rfl (e_eql (m := (gI l (k : Int))) (n := x) rfl rfl) ?_
  refine l_nil ?_
  by_cases p4 : (gI l (k : Int)) = x
  ·
   refine run_cond_t rfl (decide_eq_true p4) ?_
   refine run_seq (run_region rfl ?_)
   refine l_val (v := l_v) rfl (e_move (by exact zs0)) ?_
   refine l_val (v := Value.int .i64 (k : Int)) rfl (e_move (by exact zs5)) ?_
   refine l_val (v := Value.int .i64 ((k : Int) + 1)) rfl (e_add (m := (k : Int)) (n := 1) rfl rfl (by omega)) ?_
   refine l_val (v := l_v) rfl (e_move (by exact zs0)) ?_
   refine l_val (v := Value.int .i64 (List.length l : Int)) rfl (e_len Try.underlying27 rfl r_l_v) ?_
   refine l_val (v := Value.int .i64 (((k : Int) + 1) % (List.length l : Int))) rfl (e_rem (m := (k : Int) + 1) (n := (List.length l : Int)) rfl rfl (by omega) (by omega)) ?_
   refine l_val (v := Value.pointer (some (eAddr l_v 1 (Int.toNat (((k : Int) + 1) % (List.length l : Int)))))) rfl (e_indexAddr (α := Int) (xs := l) (v := l_v) (i := ((k : Int) + 1) % (List.length l : Int)) Try.underlying27 rfl rfl r_l_v rfl (by omega) (by omega)) ?_
   refine l_val (v := Value.int .i64 (gI l (((k : Int) + 1) % (List.length l : Int)))) rfl (e_load_el1 (α := Int) (xs := l) (v := l_v) (i := ((k : Int) + 1) % (List.length l : Int)) tp3_dk rfl r_l_v (by omega) (by omega) (by decide) rfl) ?_
   refine l_val (v := Value.int .i64 (gI l (((k : Int) + 1) % (List.length l : Int)))) rfl (e_assign rfl) ?_
   refine l_nil ?_
   refine run_ret (vs := [Value.int .i64 (gI l (((k : Int) + 1) % (List.length l : Int)))]) Try.func24 (.tmp rfl .nil) ?_
   -- return 0
   have e0 : ((gI l (((k : Int) + 1) % (List.length l : Int))) : Int) = (behS l x) := by
     first
       | exact behS_yes hinv (by assumption) (by assumption)
       | exact behS_no hinv (by assumption)
   exact ⟨(congrArg (a₁ := (gI l (((k : Int) + 1) % (List.length l : Int)))) (fun (z0 : Int) => Ending.returned (Value.int .i64 z0)) e0), hbase.below⟩
  refine run_cond_f rfl (decide_eq_false p4) ?_
  refine run_skip ?_
  refine run_inBlock ?_
  refine run_region rfl ?_
  refine l_val (v := Value.int .i64 (k : Int)) rfl (e_move (by exact zs5)) ?_
  refine l_val (v := Value.int .i64 ((k : Int) + 1)) rfl (e_add (m := (k : Int)) (n := 1) rfl rfl (by omega)) ?_
  refine l_val (v := Value.int .i64 ((k : Int) + 1)) rfl (e_assign rfl) ?_
  refine l_nil ?_
  refine back2 (k + 1, g3) _ _ ⟨hbase, (by exact zs0), (by exact zs1), rfl, r_l_v, by omega, ?_⟩ ?_
  · show ∀ j : Nat, j < (k + 1) → ¬ gI l (j : Int) = x
    intro j hj
    by_cases e0 : j = k
    · subst e0; assumption
    · exact hinv j (by omega)
  · show Int.toNat (((List.length l : Int) : Int) - ((k + 1) : Int)) < Int.toNat (((List.length l : Int) : Int) - (k : Int))
    omega
 refine run_cond_f rfl (decide_eq_false p2) ?_
 refine run_exit rfl ?_
 refine run_seq (run_region rfl ?_)
 refine l_val (v := Value.int .i64 (-1)) rfl (e_assign rfl) ?_
 refine l_nil ?_
 refine run_ret (vs := [Value.int .i64 (-1)]) Try.func24 (.tmp rfl .nil) ?_
 -- return 1
 have e0 : (-1 : Int) = (behS l x) := by
   first
     | exact behS_yes hinv (by assumption) (by assumption)
     | exact behS_no hinv (by assumption)
 exact ⟨(congrArg (a₁ := -1) (fun (z0 : Int) => Ending.returned (Value.int .i64 z0)) e0), hbase.below⟩
set_option maxHeartbeats 4000000 in
theorem DualBack_ok (w0 : World) (g : (Int) × (List ((Int) × (Int)))) (g_v : Value) (hg_v : Ro w0 g_v g.2) (r : List (List Int)) (r_v : Value) (hr_v : Ro w0 r_v r) (hb : (r.length : Int) ≤ 1048576 ∧ ∀ l_ ∈ r, l_.length ≤ 1048576) :
    Calls Try.prog 4 #[Value.agg (List.toArray [Value.int .i64 g.1, g_v]), r_v] w0 (fun ee w => ee = .returned (Value.bool true) ∧ Bel w0.heap.size w0 w) := by
 refine calls_of_run Try.func4 rfl (Nat.le_of_ble_eq_true rfl) ?_
 have hbase := Base.start w0
 have r_g_v := hg_v.sl
 have r_r_v := hr_v.sl
 refine run_seq (run_region rfl (l_op rfl ?_))
 refine o_box c0 (is 1) (1, 0) rfl rfl ?_
 intro g4 w1 b3 ch2 bx5
 replace bx5 : Bx g4 (is 1) w1 b3 [Value.int .i64 g.1, g_v] := bx5
 refine l_val (v := Value.bool false) rfl (e_assign rfl) ?_
 refine l_nil (run_seq (run_seq (run_region rfl (l_op rfl ?_))))
 refine o_call (v := Value.bool true) (e_call (vals := []) Try.func21 bd21_dk nm21_dk rfl) (begunD_ok w1 ) ?_
 intro w6 hb7
 replace hb7 := chg_below hb7 g4
 refine l_val (v := Value.bool false) rfl (e_not (b := true) rfl) ?_
 refine l_nil ?_
 refine run_cond_f rfl rfl ?_
 refine run_skip ?_
 refine run_seq (run_region rfl ?_)
 replace bx5 := bx5.chg hb7 (not_no _)
 refine l_val (v := Value.agg (List.toArray [Value.int .i64 g.1, g_v])) rfl (e_load_bxN (ds := [Value.int .i64 g.1, g_v]) tp24_dk rfl bx5 rfl rfl) ?_
 refine l_val (v := r_v) rfl (e_move rfl) ?_
 replace r_g_v := (r_g_v.chg ch2 (not_no _)).chg hb7 (not_no _)
 replace r_r_v := (r_r_v.chg ch2 (not_no _)).chg hb7 (not_no _)
 refine l_op rfl ?_
 refine o_callx (e_call (vals := [Value.agg (List.toArray [Value.int .i64 g.1, g_v]), r_v]) Try.func22 bd22_dk nm22_dk rfl) (dOf_ok w6 g g_v (r_g_v).ro r r_v (r_r_v).ro) ?_
 rintro ⟨d9, v11, v13⟩ w8 ⟨fr10, o12, o14⟩
 obtain ⟨g15, hg15⟩ : ∃ q, q = glue w6.heap.size g4 d9 (fun n => if n = 1 then 2 else if n = 2 then 3 else 0) := ⟨_, rfl⟩
 have ch16 := chg_glue fr10.below g4 d9 (fun n => if n = 1 then 2 else if n = 2 then 3 else 0)
 rw [← hg15] at ch16
 replace o12 := o12.glue (γ := g4) (ren := (fun n => if n = 1 then 2 else if n = 2 then 3 else 0)) (k := 2) fr10.col rfl rfl
 rw [← hg15] at o12
 replace o14 := o14.glue (γ := g4) (ren := (fun n => if n = 1 then 2 else if n = 2 then 3 else 0)) (k := 3) fr10.col rfl rfl
 rw [← hg15] at o14
 clear hg15
 refine l_val (v := Value.tuple (List.toArray [Value.agg (List.toArray [Value.int .i64 (((dualR g r).1).1), v11]), v13, Value.int .i64 ((dualR g r).2.2)])) rfl (e_move rfl) ?_
 refine l_val (v := Value.agg (List.toArray [Value.int .i64 (((dualR g r).1).1), v11])) rfl (e_extract rfl rfl) ?_
 refine l_val (v := v13) rfl (e_extract rfl rfl) ?_
 refine l_val (v := Value.int .i64 ((dualR g r).2.2)) rfl (e_extract rfl rfl) ?_
 refine l_op rfl ?_
 refine o_alloc g15 (is 4) (4, 0) rfl tp24_dk ?_
 intro g20 w17 b19 ch18 bx21
 replace bx21 : Bx g20 (is 4) w17 b19 [Value.int .i64 0, Value.slice none 0 0] := bx21
 refine l_op rfl ?_
 replace o12 := o12.chg ch18 (not_no _) (not_no _)
 refine o_store_bx (cs' := [Value.int .i64 (((dualR g r).1).1), v11]) tp24_dk rfl rfl bx21 rfl (Nat.le_of_ble_eq_true rfl) (AllOne.all (.cons rfl (.cons (sl_one o12.flat) .nil))) rfl ?_
 intro w22 ch23 bx24
 clear bx21
 refine l_val (v := v13) rfl (e_assign rfl) ?_
 refine l_val (v := Value.int .i64 ((dualR g r).2.2)) rfl (e_assign rfl) ?_
 refine l_nil (run_seq (run_seq (run_region rfl ?_)))
 refine l_val (v := Value.int .i64 ((dualR g r).2.2)) rfl (e_move rfl) ?_
 refine l_val (v := Value.bool (!(decide (((dualR g r).2.2) = 0)))) rfl (e_neq (m := (dualR g r).2.2) (n := 0) rfl rfl) ?_
 refine l_val (v := Value.bool (!(decide (((dualR g r).2.2) = 0)))) rfl (e_move rfl) ?_
 by_cases q26 : ((dualR g r).2.2) = 0
 ·
  have hB := back_law q26
  have hm := hB.may
  have hrp := hB.rot
  have hm0 := hm
  obtain ⟨hm1, hm2, hm3, hm4⟩ := hm0
  have hrl := hrp.1
  obtain ⟨hm1d, hr1d⟩ := rmay_ok hB.may1
  have hyl := hB.yl
  have hn2 := hB.n2
  have C25 : Chg (inl [4]) _ _ _ _ := (ch16.n).seq ((ch18.n).seq (ch23.l rfl))
  replace bx5 := bx5.chg C25 (is_nl rfl)
  refine l_val (v := Value.agg (List.toArray [Value.int .i64 g.1, g_v])) (want_y rfl rfl rfl (congrArg Bool.not (decide_eq_true q26))) (e_load_bxN (ds := [Value.int .i64 g.1, g_v]) tp24_dk rfl bx5 rfl rfl) ?_
  refine l_val (v := r_v) (want_y rfl rfl rfl (congrArg Bool.not (decide_eq_true q26))) (e_move rfl) ?_
  replace r_g_v := r_g_v.chg C25 (is_nl rfl)
  replace r_r_v := r_r_v.chg C25 (is_nl rfl)
  refine l_op (want_y rfl rfl rfl (congrArg Bool.not (decide_eq_true q26))) ?_
  refine o_call (v := Value.bool (decide ((g.2.length ≤ 300 ∧ (g.1 ≤ 300 ∨ ¬ MayP g)) ∧ g.1 ≤ 200 ∧ r.length + r.flatten.length ≤ 1000))) (e_call (vals := [Value.agg (List.toArray [Value.int .i64 g.1, g_v]), r_v]) Try.func11 bd11_dk nm11_dk rfl) (Light9_ok w22 g g_v (r_g_v).ro r r_v (r_r_v).ro (by assumption)) ?_
  intro w26 hb27
  replace hb27 := chg_below hb27 g20
  refine l_val (v := Value.bool (!(decide ((g.2.length ≤ 300 ∧ (g.1 ≤ 300 ∨ ¬ MayP g)) ∧ g.1 ≤ 200 ∧ r.length + r.flatten.length ≤ 1000)))) (want_y rfl rfl rfl (congrArg Bool.not (decide_eq_true q26))) (e_not (b := (decide ((g.2.length ≤ 300 ∧ (g.1 ≤ 300 ∨ ¬ MayP g)) ∧ g.1 ≤ 200 ∧ r.length + r.flatten.length ≤ 1000))) rfl) ?_
  refine l_val (v := Value.bool (!(decide ((g.2.length ≤ 300 ∧ (g.1 ≤ 300 ∨ ¬ MayP g)) ∧ g.1 ≤ 200 ∧ r.length + r.flatten.length ≤ 1000)))) rfl (e_pick_f rfl (congrArg Bool.not (decide_eq_true q26)) rfl) ?_
  refine l_nil ?_
  by_cases p4 : (decide ((g.2.length ≤ 300 ∧ (g.1 ≤ 300 ∨ ¬ MayP g)) ∧ g.1 ≤ 200 ∧ r.length + r.flatten.length ≤ 1000)) = true
  ·
   refine run_cond_f rfl (congrArg Bool.not p4) ?_
   refine run_skip ?_
   refine run_seq (run_seq ?_)
   refine region_q g20 rfl mixed_dk (by kernel_rfl) ?_
   intro w29 ch28
   replace bx24 := (bx24.chg hb27 (not_no _)).chg ch28 (not_no _)
   refine q_val (v := Value.agg (List.toArray [Value.int .i64 (((dualR g r).1).1), v11])) rfl (fun w' hw' => e_load_bxN (ds := [Value.int .i64 (((dualR g r).1).1), v11]) tp24_dk rfl (bx24.bel hw') rfl rfl) ?_
   refine q_val (v := v13) rfl (fun w' hw' => e_move rfl) ?_
   have C30 : Chg (inl [4]) _ _ _ _ := (ch23.l rfl).seq ((hb27.n).seq (ch28.n))
   replace o12 := o12.chg C30 (is_nl rfl) (is_nl rfl)
   have C31 : Chg (inl [4]) _ _ _ _ := (ch18.n).seq ((ch23.l rfl).seq ((hb27.n).seq (ch28.n)))
   replace o14 := o14.chg C31 (is_nl rfl)
   refine q_call (v := Value.int .i64 (rmayR ((dualR g r).1) ((dualR g r).2.1))) rfl (fun w' hw' => e_call (vals := [Value.agg (List.toArray [Value.int .i64 (((dualR g r).1).1), v11]), v13]) Try.func12 bd12_dk nm12_dk rfl) (fun w' hw' => (rRMay_ok w' ((dualR g r).1) v11 ((o12.flat.bel hw')).ro ((dualR g r).2.1) v13 ((o14.sl.bel hw')).ro).mono fun e w2 h2 => ⟨h2.1, hw'.trans (h2.2.mono hw'.size)⟩) ?_
   refine q_val (v := Value.bool (!(decide ((rmayR ((dualR g r).1) ((dualR g r).2.1)) = 0)))) rfl (fun w' hw' => e_neq (m := rmayR ((dualR g r).1) ((dualR g r).2.1)) (n := 0) rfl rfl) ?_
   refine q_val (v := Value.bool (!(decide ((rmayR ((dualR g r).1) ((dualR g r).2.1)) = 0)))) rfl (fun w' hw' => e_move rfl) ?_
   have q43 : (rmayR ((dualR g r).1) ((dualR g r).2.1)) = 0 := by first | exact hB.may1 | exact hB.gen | exact hB.ok2 | exact hB.n2 | exact hp3 | exact hp5 | exact hp6
   refine q_val (v := Value.agg (List.toArray [Value.int .i64 (((dualR g r).1).1), v11])) (want_y rfl rfl rfl (congrArg Bool.not (decide_eq_true q43))) (fun w' hw' => e_load_bxN (ds := [Value.int .i64 (((dualR g r).1).1), v11]) tp24_dk rfl (bx24.bel hw') rfl rfl) ?_
   refine q_val (v := v13) (want_y rfl rfl rfl (congrArg Bool.not (decide_eq_true q43))) (fun w' hw' => e_move rfl) ?_
   refine q_call (v := Value.int .i64 (genusS ((dualR g r).1) ((dualR g r).2.1))) (want_y rfl rfl rfl (congrArg Bool.not (decide_eq_true q43))) (fun w' hw' => e_call (vals := [Value.agg (List.toArray [Value.int .i64 (((dualR g r).1).1), v11]), v13]) Try.func23 bd23_dk nm23_dk rfl) (fun w' hw' => (rGenus_ok w' ((dualR g r).1) v11 ((o12.flat.bel hw')).ro ((dualR g r).2.1) v13 ((o14.sl.bel hw')).ro (by first | exact hm | exact hm1d) (by first | exact hrp | exact hr1d)).mono fun e w2 h2 => ⟨h2.1, hw'.trans (h2.2.mono hw'.size)⟩) ?_
   replace bx5 := (bx5.chg hb27 (not_no _)).chg ch28 (not_no _)
   refine q_val (v := Value.agg (List.toArray [Value.int .i64 g.1, g_v])) (want_y rfl rfl rfl (congrArg Bool.not (decide_eq_true q43))) (fun w' hw' => e_load_bxN (ds := [Value.int .i64 g.1, g_v]) tp24_dk rfl (bx5.bel hw') rfl rfl) ?_
   refine q_val (v := r_v) (want_y rfl rfl rfl (congrArg Bool.not (decide_eq_true q43))) (fun w' hw' => e_move rfl) ?_
   replace r_g_v := (r_g_v.chg hb27 (not_no _)).chg ch28 (not_no _)
   replace r_r_v := (r_r_v.chg hb27 (not_no _)).chg ch28 (not_no _)
   refine q_call (v := Value.int .i64 (genusS g r)) (want_y rfl rfl rfl (congrArg Bool.not (decide_eq_true q43))) (fun w' hw' => e_call (vals := [Value.agg (List.toArray [Value.int .i64 g.1, g_v]), r_v]) Try.func23 bd23_dk nm23_dk rfl) (fun w' hw' => (rGenus_ok w' g g_v ((r_g_v.bel hw')).ro r r_v ((r_r_v.bel hw')).ro (by first | exact hm | exact hm1d) (by first | exact hrp | exact hr1d)).mono fun e w2 h2 => ⟨h2.1, hw'.trans (h2.2.mono hw'.size)⟩) ?_
   refine q_val (v := Value.bool (!(decide ((genusS ((dualR g r).1) ((dualR g r).2.1)) = (genusS g r))))) (want_y rfl rfl rfl (congrArg Bool.not (decide_eq_true q43))) (fun w' hw' => e_neq (m := genusS ((dualR g r).1) ((dualR g r).2.1)) (n := genusS g r) rfl rfl) ?_
   refine q_val (v := Value.bool (!(decide ((genusS ((dualR g r).1) ((dualR g r).2.1)) = (genusS g r))))) rfl (fun w' hw' => e_pick_f rfl (congrArg Bool.not (decide_eq_true q43)) rfl) ?_
   refine q_nil ?_
   intro w32 hc33
   replace hc33 := chg_below hc33 g20
   have p6 : (genusS ((dualR g r).1) ((dualR g r).2.1)) = (genusS g r) := by first | exact hB.may1 | exact hB.gen | exact hB.ok2 | exact hB.n2 | exact hp3 | exact hp5 | exact hp6
   refine run_cond_f rfl (congrArg Bool.not (decide_eq_true p6)) ?_
   refine run_skip ?_
   refine run_seq (run_region rfl ?_)
   replace bx24 := bx24.chg hc33 (not_no _)
   refine l_val (v := Value.agg (List.toArray [Value.int .i64 (((dualR g r).1).1), v11])) rfl (e_load_bxN (ds := [Value.int .i64 (((dualR g r).1).1), v11]) tp24_dk rfl bx24 rfl rfl) ?_
   refine l_val (v := v13) rfl (e_move rfl) ?_
   replace o12 := o12.chg hc33 (not_no _) (not_no _)
   replace o14 := o14.chg hc33 (not_no _)
   refine l_op rfl ?_
   refine o_callx (e_call (vals := [Value.agg (List.toArray [Value.int .i64 (((dualR g r).1).1), v11]), v13]) Try.func22 bd22_dk nm22_dk rfl) (dOf_ok w32 ((dualR g r).1) v11 (o12.flat).ro ((dualR g r).2.1) v13 (o14.sl).ro) ?_
   rintro ⟨d35, v37, v39⟩ w34 ⟨fr36, o38, o40⟩
   obtain ⟨g41, hg41⟩ : ∃ q, q = glue w32.heap.size g20 d35 (fun n => if n = 1 then 5 else if n = 2 then 6 else 0) := ⟨_, rfl⟩
   have ch42 := chg_glue fr36.below g20 d35 (fun n => if n = 1 then 5 else if n = 2 then 6 else 0)
   rw [← hg41] at ch42
   replace o38 := o38.glue (γ := g20) (ren := (fun n => if n = 1 then 5 else if n = 2 then 6 else 0)) (k := 5) fr36.col rfl rfl
   rw [← hg41] at o38
   replace o40 := o40.glue (γ := g20) (ren := (fun n => if n = 1 then 5 else if n = 2 then 6 else 0)) (k := 6) fr36.col rfl rfl
   rw [← hg41] at o40
   clear hg41
   refine l_val (v := Value.tuple (List.toArray [Value.agg (List.toArray [Value.int .i64 (((dualR ((dualR g r).1) ((dualR g r).2.1)).1).1), v37]), v39, Value.int .i64 ((dualR ((dualR g r).1) ((dualR g r).2.1)).2.2)])) rfl (e_move rfl) ?_
   refine l_val (v := Value.agg (List.toArray [Value.int .i64 (((dualR ((dualR g r).1) ((dualR g r).2.1)).1).1), v37])) rfl (e_extract rfl rfl) ?_
   refine l_val (v := v39) rfl (e_extract rfl rfl) ?_
   refine l_val (v := Value.int .i64 ((dualR ((dualR g r).1) ((dualR g r).2.1)).2.2)) rfl (e_extract rfl rfl) ?_
   refine l_op rfl ?_
   refine o_alloc g41 (is 7) (7, 0) rfl tp24_dk ?_
   intro g46 w43 b45 ch44 bx47
   replace bx47 : Bx g46 (is 7) w43 b45 [Value.int .i64 0, Value.slice none 0 0] := bx47
   refine l_op rfl ?_
   replace o38 := o38.chg ch44 (not_no _) (not_no _)
   refine o_store_bx (cs' := [Value.int .i64 (((dualR ((dualR g r).1) ((dualR g r).2.1)).1).1), v37]) tp24_dk rfl rfl bx47 rfl (Nat.le_of_ble_eq_true rfl) (AllOne.all (.cons rfl (.cons (sl_one o38.flat) .nil))) rfl ?_
   intro w48 ch49 bx50
   clear bx47
   refine l_val (v := v39) rfl (e_assign rfl) ?_
   refine l_val (v := Value.int .i64 ((dualR ((dualR g r).1) ((dualR g r).2.1)).2.2)) rfl (e_assign rfl) ?_
   refine l_nil (run_seq (run_seq ?_))
   clear o12
   clear o14
   clear bx24
   refine run_region rfl ?_
   refine l_val (v := Value.int .i64 ((dualR ((dualR g r).1) ((dualR g r).2.1)).2.2)) rfl (e_move rfl) ?_
   refine l_val (v := Value.bool (!(decide (((dualR ((dualR g r).1) ((dualR g r).2.1)).2.2) = 0)))) rfl (e_neq (m := (dualR ((dualR g r).1) ((dualR g r).2.1)).2.2) (n := 0) rfl rfl) ?_
   refine l_val (v := Value.bool (!(decide (((dualR ((dualR g r).1) ((dualR g r).2.1)).2.2) = 0)))) rfl (e_move rfl) ?_
   have q61 : ((dualR ((dualR g r).1) ((dualR g r).2.1)).2.2) = 0 := by first | exact hB.may1 | exact hB.gen | exact hB.ok2 | exact hB.n2 | exact hp3 | exact hp5 | exact hp6
   refine l_val (v := Value.pointer (some ⟨b45, 0, none⟩)) (want_y rfl rfl rfl (congrArg Bool.not (decide_eq_true q61))) (e_fieldAddr Try.underlying24 rfl rfl rfl rfl) ?_
   refine l_val (v := Value.int .i64 (((dualR ((dualR g r).1) ((dualR g r).2.1)).1).1)) (want_y rfl rfl rfl (congrArg Bool.not (decide_eq_true q61))) (e_load_bx1 tp3_dk rfl bx50 rfl) ?_
   refine l_val (v := Value.pointer (some ⟨b3, 0, none⟩)) (want_y rfl rfl rfl (congrArg Bool.not (decide_eq_true q61))) (e_fieldAddr Try.underlying24 rfl rfl rfl rfl) ?_
   have C51 : Chg (inl [7]) _ _ _ _ := (hc33.n).seq ((ch42.n).seq ((ch44.n).seq (ch49.l rfl)))
   replace bx5 := bx5.chg C51 (is_nl rfl)
   refine l_val (v := Value.int .i64 g.1) (want_y rfl rfl rfl (congrArg Bool.not (decide_eq_true q61))) (e_load_bx1 tp3_dk rfl bx5 rfl) ?_
   refine l_val (v := Value.bool (!(decide ((((dualR ((dualR g r).1) ((dualR g r).2.1)).1).1) = g.1)))) (want_y rfl rfl rfl (congrArg Bool.not (decide_eq_true q61))) (e_neq (m := ((dualR ((dualR g r).1) ((dualR g r).2.1)).1).1) (n := g.1) rfl rfl) ?_
   refine l_val (v := Value.bool (!(decide ((((dualR ((dualR g r).1) ((dualR g r).2.1)).1).1) = g.1)))) rfl (e_pick_f rfl (congrArg Bool.not (decide_eq_true q61)) rfl) ?_
   refine l_nil ?_
   have p9 : (((dualR ((dualR g r).1) ((dualR g r).2.1)).1).1) = g.1 := by first | exact hB.may1 | exact hB.gen | exact hB.ok2 | exact hB.n2 | exact hp3 | exact hp5 | exact hp6
   refine run_cond_f rfl (congrArg Bool.not (decide_eq_true p9)) ?_
   refine run_skip ?_
   refine run_seq (run_region rfl ?_)
   refine l_val (v := Value.pointer (some ⟨b3, 1, none⟩)) rfl (e_fieldAddr Try.underlying24 rfl rfl rfl rfl) ?_
   refine l_val (v := g_v) rfl (e_load_bx1 tp22_dk rfl bx5 rfl) ?_
   replace r_g_v := r_g_v.chg C51 (is_nl rfl)
   have len52 := (r_g_v).small
   refine l_val (v := Value.int .i64 (List.length g.2 : Int)) rfl (e_len Try.underlying22 rfl r_g_v) ?_
   refine l_val (v := Value.int .i64 (2 * (List.length g.2 : Int))) rfl (e_mul (m := 2) (n := (List.length g.2 : Int)) rfl rfl (by omega)) ?_
   refine l_op rfl ?_
   refine o_make (α := Int) (l := 2 * (List.length g.2 : Int)) (cp := 2 * (List.length g.2 : Int)) g46 (is 8) (is 8) (8, 0) rfl (0 : Int) Try.underlying27 tp3_dk rfl rfl rfl (by omega) (by omega) (by omega) (by omega) ?_
   intro g53 w54 v55 ch56 o57 _
   refine l_val (v := v55) rfl (e_assign rfl) ?_
   refine l_nil (run_seq (run_seq (run_region rfl ?_)))
   refine l_val (v := Value.int .i64 0) rfl (e_assign rfl) ?_
   refine l_nil ?_
   refine run_block ?_
   refine run_loop (σ := Nat × (List Int) × Cmap) (fun ⟨i, nm, gq⟩ f w => Base w0 gq w ∧ f 1 = r_v ∧ f 2 = Value.pointer (some ⟨b3, 0, none⟩) ∧ f 8 = Value.pointer (some ⟨b45, 0, none⟩) ∧ f 9 = v39 ∧ f 10 = v55 ∧ f 11 = Value.int .i64 (i : Int) ∧ Sl gq (is 0) w g_v g.2 ∧ Sl gq (is 0) w r_v r ∧ Bx gq (is 1) w b3 [Value.int .i64 g.1, g_v] ∧ Ow gq (is 5) (is 5) w v37 (((dualR ((dualR g r).1) ((dualR g r).2.1)).1).2) ∧ Nst gq 6 w v39 ((dualR ((dualR g r).1) ((dualR g r).2.1)).2.1) ∧ Bx gq (is 7) w b45 [Value.int .i64 (((dualR ((dualR g r).1) ((dualR g r).2.1)).1).1), v37] ∧ Ow gq (is 8) (is 8) w v55 nm ∧ (i : Int) ≤ (((dualR ((dualR g r).1) ((dualR g r).2.1)).1).1 : Int) ∧ (nm = ofK (dualR (dualR g r).1 (dualR g r).2.1).2.1 (2 * (g.2.length : Int)) i)) (fun ⟨i, nm, gq⟩ => Int.toNat ((((dualR ((dualR g r).1) ((dualR g r).2.1)).1).1 : Int) - (i : Int))) (0, (List.replicate (Int.toNat (2 * (List.length g.2 : Int))) (0 : Int)), g53) ?_ ?_
   have C58 : Chg (inl [4, 7]) _ _ _ _ := (ch2.n).seq ((hb7.n).seq ((ch16.n).seq ((ch18.n).seq ((ch23.l rfl).seq ((hb27.n).seq ((ch28.n).seq ((hc33.n).seq ((ch42.n).seq ((ch44.n).seq ((ch49.l rfl).seq (ch56.n)))))))))))
   replace hbase := hbase.chg C58 (is_nl rfl)
   replace r_g_v := r_g_v.chg ch56 (not_no _)
   have C59 : Chg (inl [7]) _ _ _ _ := (hc33.n).seq ((ch42.n).seq ((ch44.n).seq ((ch49.l rfl).seq (ch56.n))))
   replace r_r_v := r_r_v.chg C59 (is_nl rfl)
   replace bx5 := bx5.chg ch56 (not_no _)
   replace o38 := (o38.chg ch49 (is_ne rfl) (is_ne rfl)).chg ch56 (not_no _) (not_no _)
   have C60 : Chg (inl [7]) _ _ _ _ := (ch44.n).seq ((ch49.l rfl).seq (ch56.n))
   replace o40 := o40.chg C60 (is_nl rfl)
   replace bx50 := bx50.chg ch56 (not_no _)
   · exact ⟨hbase, rfl, rfl, rfl, rfl, rfl, rfl, r_g_v, r_r_v, bx5, o38, o40, bx50, o57, by omega, by rfl⟩
   clear r_g_v
   clear r_r_v
   clear bx5
   clear o38
   clear o40
   clear bx50
   clear o57
   clear hbase
   rintro ⟨i, nm, g63⟩ f61 w62 ⟨hbase, zs1, zs2, zs8, zs9, zs10, zs11, r_g_v, r_r_v, bx5, o38, o40, bx50, o57, hle_i, hinv⟩ back13
   have hll : (nm.length : Int) = 2 * (g.2.length : Int) := by rw [hinv, ofK_len]; omega
   refine run_seq (run_seq (run_region rfl ?_))
   refine l_val (v := Value.int .i64 (i : Int)) rfl (e_move (by exact zs11)) ?_
   refine l_val (v := Value.pointer (some ⟨b45, 0, none⟩)) rfl (e_fieldAddr Try.underlying24 rfl rfl (by exact zs8) rfl) ?_
   refine l_val (v := Value.int .i64 (((dualR ((dualR g r).1) ((dualR g r).2.1)).1).1)) rfl (e_load_bx1 tp3_dk rfl bx50 rfl) ?_
   refine l_val (v := Value.bool (decide ((i : Int) < (((dualR ((dualR g r).1) ((dualR g r).2.1)).1).1)))) rfl (e_lss (m := (i : Int)) (n := ((dualR ((dualR g r).1) ((dualR g r).2.1)).1).1) rfl rfl) ?_
   refine l_nil ?_
   by_cases p13 : (i : Int) < (((dualR ((dualR g r).1) ((dualR g r).2.1)).1).1)
   ·
    refine run_cond_t rfl (decide_eq_true p13) ?_
    have hrl0 := hB.rl i (by omega)
    refine run_skip ?_
    refine run_seq ?_
    refine run_block ?_
    refine run_seq (run_region rfl ?_)
    refine l_val (v := Value.int .i64 0) rfl (e_assign rfl) ?_
    refine l_nil ?_
    refine run_block ?_
    refine run_loop (σ := Nat × (List Int) × Cmap) (fun ⟨k, nm1_dk, gq⟩ f w => Base w0 gq w ∧ f 1 = r_v ∧ f 2 = Value.pointer (some ⟨b3, 0, none⟩) ∧ f 8 = Value.pointer (some ⟨b45, 0, none⟩) ∧ f 9 = v39 ∧ f 10 = v55 ∧ f 11 = Value.int .i64 (i : Int) ∧ f 12 = Value.int .i64 (k : Int) ∧ Sl gq (is 0) w g_v g.2 ∧ Sl gq (is 0) w r_v r ∧ Bx gq (is 1) w b3 [Value.int .i64 g.1, g_v] ∧ Ow gq (is 5) (is 5) w v37 (((dualR ((dualR g r).1) ((dualR g r).2.1)).1).2) ∧ Nst gq 6 w v39 ((dualR ((dualR g r).1) ((dualR g r).2.1)).2.1) ∧ Bx gq (is 7) w b45 [Value.int .i64 (((dualR ((dualR g r).1) ((dualR g r).2.1)).1).1), v37] ∧ Ow gq (is 8) (is 8) w v55 nm1_dk ∧ (k : Int) ≤ ((List.length (gI ((dualR ((dualR g r).1) ((dualR g r).2.1)).2.1) (i : Int)) : Int) : Int) ∧ (nm1_dk = ofKi (dualR (dualR g r).1 (dualR g r).2.1).2.1 (2 * (g.2.length : Int)) i k)) (fun ⟨k, nm1_dk, gq⟩ => Int.toNat (((List.length (gI ((dualR ((dualR g r).1) ((dualR g r).2.1)).2.1) (i : Int)) : Int) : Int) - (k : Int))) (0, nm, g63) ?_ ?_
    · exact ⟨hbase, (by exact zs1), (by exact zs2), (by exact zs8), (by exact zs9), (by exact zs10), (by exact zs11), rfl, r_g_v, r_r_v, bx5, o38, o40, bx50, o57, by omega, by rw [ofKi_zero]; exact hinv⟩
    clear r_g_v
    clear r_r_v
    clear bx5
    clear o38
    clear o40
    clear bx50
    clear o57
    clear hbase
    rintro ⟨k, nm1_dk, g66⟩ f64 w65 ⟨hbase, zs1, zs2, zs8, zs9, zs10, zs11, zs12, r_g_v, r_r_v, bx5, o38, o40, bx50, o57, hle_k, hin⟩ back16
    have hll1 : (nm1_dk.length : Int) = 2 * (g.2.length : Int) := by rw [hin, ofKi_len]; omega
    refine run_seq (run_seq (run_region rfl ?_))
    refine l_val (v := Value.int .i64 (k : Int)) rfl (e_move (by exact zs12)) ?_
    refine l_val (v := v39) rfl (e_move (by exact zs9)) ?_
    refine l_val (v := Value.int .i64 (i : Int)) rfl (e_move (by exact zs11)) ?_
    refine l_val (v := Value.pointer (some (eAddr v39 1 (Int.toNat (i : Int))))) rfl (e_indexAddr (α := List Int) (xs := (dualR ((dualR g r).1) ((dualR g r).2.1)).2.1) (v := v39) (i := (i : Int)) Try.underlying26 rfl rfl o40.sl rfl (by omega) (by omega)) ?_
    obtain ⟨v67, cel68, r69⟩ := nst_row (r := (i : Int)) o40 (by omega) (by omega)
    refine l_val (v := v67) rfl (e_load1 tp27_dk rfl cel68) ?_
    have len70 := (r69.row_sl).small
    refine l_val (v := Value.int .i64 (List.length (gI ((dualR ((dualR g r).1) ((dualR g r).2.1)).2.1) (i : Int)) : Int)) rfl (e_len Try.underlying27 rfl r69.row_sl) ?_
    refine l_val (v := Value.bool (decide ((k : Int) < (List.length (gI ((dualR ((dualR g r).1) ((dualR g r).2.1)).2.1) (i : Int)) : Int)))) rfl (e_lss (m := (k : Int)) (n := (List.length (gI ((dualR ((dualR g r).1) ((dualR g r).2.1)).2.1) (i : Int)) : Int)) rfl rfl) ?_
    refine l_nil ?_
    by_cases p16 : (k : Int) < (List.length (gI ((dualR ((dualR g r).1) ((dualR g r).2.1)).2.1) (i : Int)) : Int)
    ·
     refine run_cond_t rfl (decide_eq_true p16) ?_
     obtain ⟨hh1, hh2⟩ := hB.row i k (by omega) (by assumption)
     refine run_skip ?_
     refine run_seq ?_
     refine run_block ?_
     clear cel68
     clear r69
     refine run_region rfl ?_
     refine l_val (v := v55) rfl (e_move (by exact zs10)) ?_
     refine l_val (v := v39) rfl (e_move (by exact zs9)) ?_
     refine l_val (v := Value.int .i64 (i : Int)) rfl (e_move (by exact zs11)) ?_
     refine l_val (v := Value.pointer (some (eAddr v39 1 (Int.toNat (i : Int))))) rfl (e_indexAddr (α := List Int) (xs := (dualR ((dualR g r).1) ((dualR g r).2.1)).2.1) (v := v39) (i := (i : Int)) Try.underlying26 rfl rfl o40.sl rfl (by omega) (by omega)) ?_
     obtain ⟨v71, cel72, r73⟩ := nst_row (r := (i : Int)) o40 (by omega) (by omega)
     refine l_val (v := v71) rfl (e_load1 tp27_dk rfl cel72) ?_
     refine l_val (v := Value.int .i64 (k : Int)) rfl (e_move (by exact zs12)) ?_
     refine l_val (v := Value.pointer (some (eAddr v71 1 (Int.toNat (k : Int))))) rfl (e_indexAddr (α := Int) (xs := gI ((dualR ((dualR g r).1) ((dualR g r).2.1)).2.1) (i : Int)) (v := v71) (i := (k : Int)) Try.underlying27 rfl rfl r73.row_sl rfl (by omega) (by omega)) ?_
     refine l_val (v := Value.int .i64 (gI (gI ((dualR ((dualR g r).1) ((dualR g r).2.1)).2.1) (i : Int)) (k : Int))) rfl (e_load_el1 (α := Int) (xs := gI ((dualR ((dualR g r).1) ((dualR g r).2.1)).2.1) (i : Int)) (v := v71) (i := (k : Int)) tp3_dk rfl r73.row_sl (by omega) (by omega) (by decide) rfl) ?_
     refine l_val (v := Value.int .i64 (i : Int)) rfl (e_move (by exact zs11)) ?_
     refine l_val (v := Value.pointer (some (eAddr v55 1 (Int.toNat (gI (gI ((dualR ((dualR g r).1) ((dualR g r).2.1)).2.1) (i : Int)) (k : Int)))))) rfl (e_indexAddr (α := Int) (xs := nm1_dk) (v := v55) (i := (gI (gI ((dualR ((dualR g r).1) ((dualR g r).2.1)).2.1) (i : Int)) (k : Int))) Try.underlying27 rfl rfl o57.flat rfl (by omega) (by omega)) ?_
     refine l_op rfl ?_
     refine o_store_el (i := (gI (gI ((dualR ((dualR g r).1) ((dualR g r).2.1)).2.1) (i : Int)) (k : Int))) (i : Int) tp3_dk rfl rfl o57 (by omega) (by omega) rfl ?_
     intro w74 ch75 bx76
     clear o57
     clear cel72
     refine l_nil ?_
     refine run_inBlock ?_
     clear r73
     refine run_region rfl ?_
     refine l_val (v := Value.int .i64 (k : Int)) rfl (e_move (by exact zs12)) ?_
     refine l_val (v := Value.int .i64 ((k : Int) + 1)) rfl (e_add (m := (k : Int)) (n := 1) rfl rfl (by omega)) ?_
     refine l_val (v := Value.int .i64 ((k : Int) + 1)) rfl (e_assign rfl) ?_
     refine l_nil ?_
     replace hbase := hbase.chg ch75 (is_ne rfl)
     replace r_g_v := r_g_v.chg ch75 (is_ne rfl)
     replace r_r_v := r_r_v.chg ch75 (is_ne rfl)
     replace bx5 := bx5.chg ch75 (is_ne rfl)
     replace o38 := o38.chg ch75 (is_ne rfl) (is_ne rfl)
     replace o40 := o40.chg ch75 (is_ne rfl)
     replace bx50 := bx50.chg ch75 (is_ne rfl)
     refine back16 (k + 1, (List.set nm1_dk (Int.toNat (gI (gI ((dualR ((dualR g r).1) ((dualR g r).2.1)).2.1) (i : Int)) (k : Int))) (i : Int)), g66) _ _ ⟨hbase, (by exact zs1), (by exact zs2), (by exact zs8), (by exact zs9), (by exact zs10), (by exact zs11), rfl, r_g_v, r_r_v, bx5, o38, o40, bx50, bx76, by omega, ?_⟩ ?_
     · show (List.set nm1_dk (Int.toNat (gI (gI ((dualR ((dualR g r).1) ((dualR g r).2.1)).2.1) (i : Int)) (k : Int))) (i : Int)) = ofKi (dualR (dualR g r).1 (dualR g r).2.1).2.1 (2 * (g.2.length : Int)) i (k + 1)
       rw [ofKi_succ _ _ _ _ (by assumption), hin]
     · show Int.toNat (((List.length (gI ((dualR ((dualR g r).1) ((dualR g r).2.1)).2.1) (i : Int)) : Int) : Int) - ((k + 1) : Int)) < Int.toNat (((List.length (gI ((dualR ((dualR g r).1) ((dualR g r).2.1)).2.1) (i : Int)) : Int) : Int) - (k : Int))
       omega
    refine run_cond_f rfl (decide_eq_false p16) ?_
    refine run_exit rfl ?_
    refine run_inBlock ?_
    clear cel68
    clear r69
    refine run_region rfl ?_
    refine l_val (v := Value.int .i64 (i : Int)) rfl (e_move (by exact zs11)) ?_
    refine l_val (v := Value.int .i64 ((i : Int) + 1)) rfl (e_add (m := (i : Int)) (n := 1) rfl rfl (by omega)) ?_
    refine l_val (v := Value.int .i64 ((i : Int) + 1)) rfl (e_assign rfl) ?_
    refine l_nil ?_
    refine back13 (i + 1, nm1_dk, g66) _ _ ⟨hbase, (by exact zs1), (by exact zs2), (by exact zs8), (by exact zs9), (by exact zs10), rfl, r_g_v, r_r_v, bx5, o38, o40, bx50, o57, by omega, ?_⟩ ?_
    · show nm1_dk = ofK (dualR (dualR g r).1 (dualR g r).2.1).2.1 (2 * (g.2.length : Int)) (i + 1)
      rw [hin]; exact ofKi_done _ _ _ _ (by assumption)
    · show Int.toNat ((((dualR ((dualR g r).1) ((dualR g r).2.1)).1).1 : Int) - ((i + 1) : Int)) < Int.toNat ((((dualR ((dualR g r).1) ((dualR g r).2.1)).1).1 : Int) - (i : Int))
      omega
   refine run_cond_f rfl (decide_eq_false p13) ?_
   refine run_exit rfl ?_
   refine run_seq (run_seq ?_)
   clear o38
   clear bx50
   refine run_region rfl ?_
   refine l_val (v := Value.int .i64 0) rfl (e_assign rfl) ?_
   refine l_nil ?_
   refine run_block ?_
   refine run_loop (σ := Nat × Cmap) (fun ⟨v, gq⟩ f w => Base w0 gq w ∧ f 1 = r_v ∧ f 2 = Value.pointer (some ⟨b3, 0, none⟩) ∧ f 9 = v39 ∧ f 10 = v55 ∧ f 13 = Value.int .i64 (v : Int) ∧ Sl gq (is 0) w g_v g.2 ∧ Sl gq (is 0) w r_v r ∧ Bx gq (is 1) w b3 [Value.int .i64 g.1, g_v] ∧ Nst gq 6 w v39 ((dualR ((dualR g r).1) ((dualR g r).2.1)).2.1) ∧ Ow gq (is 8) (is 8) w v55 nm ∧ (v : Int) ≤ (g.1 : Int) ∧ True) (fun ⟨v, gq⟩ => Int.toNat ((g.1 : Int) - (v : Int))) (0, g63) ?_ ?_
   · exact ⟨hbase, (by exact zs1), (by exact zs2), (by exact zs9), (by exact zs10), rfl, r_g_v, r_r_v, bx5, o40, o57, by omega, trivial⟩
   clear r_g_v
   clear r_r_v
   clear bx5
   clear o40
   clear o57
   clear hbase
   rintro ⟨v, g79⟩ f77 w78 ⟨hbase, zs1, zs2, zs9, zs10, zs13, r_g_v, r_r_v, bx5, o40, o57, hle_v, hinv20⟩ back20
   have hnm : nm = ofK (dualR (dualR g r).1 (dualR g r).2.1).2.1 (2 * (g.2.length : Int)) (dualR (dualR g r).1 (dualR g r).2.1).2.1.length := by rw [hinv, show i = (dualR (dualR g r).1 (dualR g r).2.1).2.1.length by omega]
   have hll2 : (nm.length : Int) = 2 * (g.2.length : Int) := by rw [hinv, ofK_len]; omega
   refine run_seq (run_seq (run_region rfl ?_))
   refine l_val (v := Value.int .i64 (v : Int)) rfl (e_move (by exact zs13)) ?_
   refine l_val (v := Value.pointer (some ⟨b3, 0, none⟩)) rfl (e_fieldAddr Try.underlying24 rfl rfl (by exact zs2) rfl) ?_
   refine l_val (v := Value.int .i64 g.1) rfl (e_load_bx1 tp3_dk rfl bx5 rfl) ?_
   refine l_val (v := Value.bool (decide ((v : Int) < g.1))) rfl (e_lss (m := (v : Int)) (n := g.1) rfl rfl) ?_
   refine l_nil ?_
   by_cases p20 : (v : Int) < g.1
   ·
    refine run_cond_t rfl (decide_eq_true p20) ?_
    have hrv := row_len hrp (k := v) (by omega)
    refine run_skip ?_
    refine run_seq ?_
    refine run_block ?_
    refine run_seq (run_region rfl ?_)
    refine l_val (v := Value.int .i64 0) rfl (e_assign rfl) ?_
    refine l_nil ?_
    refine run_block ?_
    refine run_loop (σ := Nat × Cmap) (fun ⟨j, gq⟩ f w => Base w0 gq w ∧ f 1 = r_v ∧ f 2 = Value.pointer (some ⟨b3, 0, none⟩) ∧ f 9 = v39 ∧ f 10 = v55 ∧ f 13 = Value.int .i64 (v : Int) ∧ f 14 = Value.int .i64 (j : Int) ∧ Sl gq (is 0) w g_v g.2 ∧ Sl gq (is 0) w r_v r ∧ Bx gq (is 1) w b3 [Value.int .i64 g.1, g_v] ∧ Nst gq 6 w v39 ((dualR ((dualR g r).1) ((dualR g r).2.1)).2.1) ∧ Ow gq (is 8) (is 8) w v55 nm ∧ (j : Int) ≤ ((List.length (gI r (v : Int)) : Int) : Int) ∧ True) (fun ⟨j, gq⟩ => Int.toNat (((List.length (gI r (v : Int)) : Int) : Int) - (j : Int))) (0, g79) ?_ ?_
    · exact ⟨hbase, (by exact zs1), (by exact zs2), (by exact zs9), (by exact zs10), (by exact zs13), rfl, r_g_v, r_r_v, bx5, o40, o57, by omega, trivial⟩
    clear r_g_v
    clear r_r_v
    clear bx5
    clear o40
    clear o57
    clear hbase
    rintro ⟨j, g82⟩ f80 w81 ⟨hbase, zs1, zs2, zs9, zs10, zs13, zs14, r_g_v, r_r_v, bx5, o40, o57, hle_j, hinv23⟩ back23
    refine run_seq (run_seq (run_region rfl ?_))
    refine l_val (v := Value.int .i64 (j : Int)) rfl (e_move (by exact zs14)) ?_
    refine l_val (v := r_v) rfl (e_move (by exact zs1)) ?_
    refine l_val (v := Value.int .i64 (v : Int)) rfl (e_move (by exact zs13)) ?_
    refine l_val (v := Value.pointer (some (eAddr r_v 1 (Int.toNat (v : Int))))) rfl (e_indexAddr (α := List Int) (xs := r) (v := r_v) (i := (v : Int)) Try.underlying26 rfl rfl r_r_v rfl (by omega) (by omega)) ?_
    obtain ⟨v83, cel84, r85⟩ := sl_row (r := (v : Int)) r_r_v (by omega) (by omega)
    refine l_val (v := v83) rfl (e_load1 tp27_dk rfl cel84) ?_
    have len86 := (r85).small
    refine l_val (v := Value.int .i64 (List.length (gI r (v : Int)) : Int)) rfl (e_len Try.underlying27 rfl r85) ?_
    refine l_val (v := Value.bool (decide ((j : Int) < (List.length (gI r (v : Int)) : Int)))) rfl (e_lss (m := (j : Int)) (n := (List.length (gI r (v : Int)) : Int)) rfl rfl) ?_
    refine l_nil ?_
    by_cases p23 : (j : Int) < (List.length (gI r (v : Int)) : Int)
    ·
     refine run_cond_t rfl (decide_eq_true p23) ?_
     obtain ⟨⟨hp1, hp1b⟩, ⟨hp2, hp2b⟩, hp3, ⟨hp4, hp4b⟩, hp5, hp6⟩ := hB.pt v j (by omega) (by assumption)
     rw [← hnm] at hp3 hp4 hp4b hp5 hp6
     have he1 := Int.emod_nonneg ((j : Int) + 1) (show (((gI r (v : Int)).length : Nat) : Int) ≠ 0 by omega)
     have he2 := Int.emod_lt_of_pos ((j : Int) + 1) (show (0 : Int) < (((gI r (v : Int)).length : Nat) : Int) by omega)
     refine run_skip ?_
     refine run_seq ?_
     refine run_block ?_
     refine run_seq (run_seq ?_)
     clear r85
     refine region_q g82 rfl mixed_dk (by kernel_rfl) ?_
     intro w88 ch87
     refine q_val (v := v55) rfl (fun w' hw' => e_move (by exact zs10)) ?_
     refine q_val (v := r_v) rfl (fun w' hw' => e_move (by exact zs1)) ?_
     refine q_val (v := Value.int .i64 (v : Int)) rfl (fun w' hw' => e_move (by exact zs13)) ?_
     replace r_r_v := r_r_v.chg ch87 (not_no _)
     refine q_val (v := Value.pointer (some (eAddr r_v 1 (Int.toNat (v : Int))))) rfl (fun w' hw' => e_indexAddr (α := List Int) (xs := r) (v := r_v) (i := (v : Int)) Try.underlying26 rfl rfl (r_r_v.bel hw') rfl (by omega) (by omega)) ?_
     obtain ⟨v89, cel90, r91⟩ := sl_row (r := (v : Int)) r_r_v (by omega) (by omega)
     refine q_val (v := v89) rfl (fun w' hw' => e_load1 tp27_dk rfl (cel_bel cel90 hw')) ?_
     refine q_val (v := Value.int .i64 (j : Int)) rfl (fun w' hw' => e_move (by exact zs14)) ?_
     refine q_val (v := Value.pointer (some (eAddr v89 1 (Int.toNat (j : Int))))) rfl (fun w' hw' => e_indexAddr (α := Int) (xs := gI r (v : Int)) (v := v89) (i := (j : Int)) Try.underlying27 rfl rfl (r91.bel hw') rfl (by omega) (by omega)) ?_
     refine q_val (v := Value.int .i64 (gI (gI r (v : Int)) (j : Int))) rfl (fun w' hw' => e_load_el1 (α := Int) (xs := gI r (v : Int)) (v := v89) (i := (j : Int)) tp3_dk rfl (r91.bel hw') (by omega) (by omega) (by decide) rfl) ?_
     replace o57 := o57.chg ch87 (not_no _) (not_no _)
     refine q_val (v := Value.pointer (some (eAddr v55 1 (Int.toNat (gI (gI r (v : Int)) (j : Int)))))) rfl (fun w' hw' => e_indexAddr (α := Int) (xs := nm) (v := v55) (i := (gI (gI r (v : Int)) (j : Int))) Try.underlying27 rfl rfl (o57.flat.bel hw') rfl (by omega) (by omega)) ?_
     refine q_val (v := Value.int .i64 (gI nm (gI (gI r (v : Int)) (j : Int)))) rfl (fun w' hw' => e_load_el1 (α := Int) (xs := nm) (v := v55) (i := (gI (gI r (v : Int)) (j : Int))) tp3_dk rfl (o57.flat.bel hw') (by omega) (by omega) (by decide) rfl) ?_
     refine q_val (v := v55) rfl (fun w' hw' => e_move (by exact zs10)) ?_
     refine q_val (v := r_v) rfl (fun w' hw' => e_move (by exact zs1)) ?_
     refine q_val (v := Value.int .i64 (v : Int)) rfl (fun w' hw' => e_move (by exact zs13)) ?_
     refine q_val (v := Value.pointer (some (eAddr r_v 1 (Int.toNat (v : Int))))) rfl (fun w' hw' => e_indexAddr (α := List Int) (xs := r) (v := r_v) (i := (v : Int)) Try.underlying26 rfl rfl (r_r_v.bel hw') rfl (by omega) (by omega)) ?_
     obtain ⟨v92, cel93, r94⟩ := sl_row (r := (v : Int)) r_r_v (by omega) (by omega)
     refine q_val (v := v92) rfl (fun w' hw' => e_load1 tp27_dk rfl (cel_bel cel93 hw')) ?_
     refine q_val (v := Value.pointer (some (eAddr v92 1 (Int.toNat 0)))) rfl (fun w' hw' => e_indexAddr (α := Int) (xs := gI r (v : Int)) (v := v92) (i := 0) Try.underlying27 rfl rfl (r94.bel hw') rfl (by omega) (by omega)) ?_
     refine q_val (v := Value.int .i64 (gI (gI r (v : Int)) 0)) rfl (fun w' hw' => e_load_el1 (α := Int) (xs := gI r (v : Int)) (v := v92) (i := 0) tp3_dk rfl (r94.bel hw') (by omega) (by omega) (by decide) rfl) ?_
     refine q_val (v := Value.pointer (some (eAddr v55 1 (Int.toNat (gI (gI r (v : Int)) 0))))) rfl (fun w' hw' => e_indexAddr (α := Int) (xs := nm) (v := v55) (i := (gI (gI r (v : Int)) 0)) Try.underlying27 rfl rfl (o57.flat.bel hw') rfl (by omega) (by omega)) ?_
     refine q_val (v := Value.int .i64 (gI nm (gI (gI r (v : Int)) 0))) rfl (fun w' hw' => e_load_el1 (α := Int) (xs := nm) (v := v55) (i := (gI (gI r (v : Int)) 0)) tp3_dk rfl (o57.flat.bel hw') (by omega) (by omega) (by decide) rfl) ?_
     refine q_val (v := Value.bool (!(decide ((gI nm (gI (gI r (v : Int)) (j : Int))) = (gI nm (gI (gI r (v : Int)) 0)))))) rfl (fun w' hw' => e_neq (m := (gI nm (gI (gI r (v : Int)) (j : Int)))) (n := (gI nm (gI (gI r (v : Int)) 0))) rfl rfl) ?_
     refine q_val (v := Value.bool (!(decide ((gI nm (gI (gI r (v : Int)) (j : Int))) = (gI nm (gI (gI r (v : Int)) 0)))))) rfl (fun w' hw' => e_move rfl) ?_
     have q133 : (gI nm (gI (gI r (v : Int)) (j : Int))) = (gI nm (gI (gI r (v : Int)) 0)) := by first | exact hB.may1 | exact hB.gen | exact hB.ok2 | exact hB.n2 | exact hp3 | exact hp5 | exact hp6
     refine q_val (v := v39) (want_y rfl rfl rfl (congrArg Bool.not (decide_eq_true q133))) (fun w' hw' => e_move (by exact zs9)) ?_
     refine q_val (v := v55) (want_y rfl rfl rfl (congrArg Bool.not (decide_eq_true q133))) (fun w' hw' => e_move (by exact zs10)) ?_
     refine q_val (v := r_v) (want_y rfl rfl rfl (congrArg Bool.not (decide_eq_true q133))) (fun w' hw' => e_move (by exact zs1)) ?_
     refine q_val (v := Value.int .i64 (v : Int)) (want_y rfl rfl rfl (congrArg Bool.not (decide_eq_true q133))) (fun w' hw' => e_move (by exact zs13)) ?_
     refine q_val (v := Value.pointer (some (eAddr r_v 1 (Int.toNat (v : Int))))) (want_y rfl rfl rfl (congrArg Bool.not (decide_eq_true q133))) (fun w' hw' => e_indexAddr (α := List Int) (xs := r) (v := r_v) (i := (v : Int)) Try.underlying26 rfl rfl (r_r_v.bel hw') rfl (by omega) (by omega)) ?_
     obtain ⟨v95, cel96, r97⟩ := sl_row (r := (v : Int)) r_r_v (by omega) (by omega)
     refine q_val (v := v95) (want_y rfl rfl rfl (congrArg Bool.not (decide_eq_true q133))) (fun w' hw' => e_load1 tp27_dk rfl (cel_bel cel96 hw')) ?_
     refine q_val (v := Value.pointer (some (eAddr v95 1 (Int.toNat 0)))) (want_y rfl rfl rfl (congrArg Bool.not (decide_eq_true q133))) (fun w' hw' => e_indexAddr (α := Int) (xs := gI r (v : Int)) (v := v95) (i := 0) Try.underlying27 rfl rfl (r97.bel hw') rfl (by omega) (by omega)) ?_
     refine q_val (v := Value.int .i64 (gI (gI r (v : Int)) 0)) (want_y rfl rfl rfl (congrArg Bool.not (decide_eq_true q133))) (fun w' hw' => e_load_el1 (α := Int) (xs := gI r (v : Int)) (v := v95) (i := 0) tp3_dk rfl (r97.bel hw') (by omega) (by omega) (by decide) rfl) ?_
     refine q_val (v := Value.pointer (some (eAddr v55 1 (Int.toNat (gI (gI r (v : Int)) 0))))) (want_y rfl rfl rfl (congrArg Bool.not (decide_eq_true q133))) (fun w' hw' => e_indexAddr (α := Int) (xs := nm) (v := v55) (i := (gI (gI r (v : Int)) 0)) Try.underlying27 rfl rfl (o57.flat.bel hw') rfl (by omega) (by omega)) ?_
     refine q_val (v := Value.int .i64 (gI nm (gI (gI r (v : Int)) 0))) (want_y rfl rfl rfl (congrArg Bool.not (decide_eq_true q133))) (fun w' hw' => e_load_el1 (α := Int) (xs := nm) (v := v55) (i := (gI (gI r (v : Int)) 0)) tp3_dk rfl (o57.flat.bel hw') (by omega) (by omega) (by decide) rfl) ?_
     replace o40 := o40.chg ch87 (not_no _)
     refine q_val (v := Value.pointer (some (eAddr v39 1 (Int.toNat (gI nm (gI (gI r (v : Int)) 0)))))) (want_y rfl rfl rfl (congrArg Bool.not (decide_eq_true q133))) (fun w' hw' => e_indexAddr (α := List Int) (xs := (dualR ((dualR g r).1) ((dualR g r).2.1)).2.1) (v := v39) (i := (gI nm (gI (gI r (v : Int)) 0))) Try.underlying26 rfl rfl (o40.sl.bel hw') rfl (by omega) (by omega)) ?_
     obtain ⟨v98, cel99, r100⟩ := nst_row (r := (gI nm (gI (gI r (v : Int)) 0))) o40 (by omega) (by omega)
     refine q_val (v := v98) (want_y rfl rfl rfl (congrArg Bool.not (decide_eq_true q133))) (fun w' hw' => e_load1 tp27_dk rfl (cel_bel cel99 hw')) ?_
     have len101 := (r100.row_sl).small
     refine q_val (v := Value.int .i64 (List.length (gI ((dualR ((dualR g r).1) ((dualR g r).2.1)).2.1) (gI nm (gI (gI r (v : Int)) 0))) : Int)) (want_y rfl rfl rfl (congrArg Bool.not (decide_eq_true q133))) (fun w' hw' => e_len Try.underlying27 rfl (r100.row_sl.bel hw')) ?_
     refine q_val (v := r_v) (want_y rfl rfl rfl (congrArg Bool.not (decide_eq_true q133))) (fun w' hw' => e_move (by exact zs1)) ?_
     refine q_val (v := Value.int .i64 (v : Int)) (want_y rfl rfl rfl (congrArg Bool.not (decide_eq_true q133))) (fun w' hw' => e_move (by exact zs13)) ?_
     refine q_val (v := Value.pointer (some (eAddr r_v 1 (Int.toNat (v : Int))))) (want_y rfl rfl rfl (congrArg Bool.not (decide_eq_true q133))) (fun w' hw' => e_indexAddr (α := List Int) (xs := r) (v := r_v) (i := (v : Int)) Try.underlying26 rfl rfl (r_r_v.bel hw') rfl (by omega) (by omega)) ?_
     obtain ⟨v102, cel103, r104⟩ := sl_row (r := (v : Int)) r_r_v (by omega) (by omega)
     refine q_val (v := v102) (want_y rfl rfl rfl (congrArg Bool.not (decide_eq_true q133))) (fun w' hw' => e_load1 tp27_dk rfl (cel_bel cel103 hw')) ?_
     refine q_val (v := Value.int .i64 (List.length (gI r (v : Int)) : Int)) (want_y rfl rfl rfl (congrArg Bool.not (decide_eq_true q133))) (fun w' hw' => e_len Try.underlying27 rfl (r104.bel hw')) ?_
     refine q_val (v := Value.bool (!(decide ((List.length (gI ((dualR ((dualR g r).1) ((dualR g r).2.1)).2.1) (gI nm (gI (gI r (v : Int)) 0))) : Int) = (List.length (gI r (v : Int)) : Int))))) (want_y rfl rfl rfl (congrArg Bool.not (decide_eq_true q133))) (fun w' hw' => e_neq (m := (List.length (gI ((dualR ((dualR g r).1) ((dualR g r).2.1)).2.1) (gI nm (gI (gI r (v : Int)) 0))) : Int)) (n := (List.length (gI r (v : Int)) : Int)) rfl rfl) ?_
     refine q_val (v := Value.bool (!(decide ((List.length (gI ((dualR ((dualR g r).1) ((dualR g r).2.1)).2.1) (gI nm (gI (gI r (v : Int)) 0))) : Int) = (List.length (gI r (v : Int)) : Int))))) rfl (fun w' hw' => e_pick_f rfl (congrArg Bool.not (decide_eq_true q133)) rfl) ?_
     refine q_nil ?_
     intro w105 hc106
     replace hc106 := chg_below hc106 g82
     have p25 : (List.length (gI ((dualR ((dualR g r).1) ((dualR g r).2.1)).2.1) (gI nm (gI (gI r (v : Int)) 0))) : Int) = (List.length (gI r (v : Int)) : Int) := by first | exact hB.may1 | exact hB.gen | exact hB.ok2 | exact hB.n2 | exact hp3 | exact hp5 | exact hp6
     refine run_cond_f rfl (congrArg Bool.not (decide_eq_true p25)) ?_
     refine run_skip ?_
     refine run_seq ?_
     clear r91
     clear r94
     clear r97
     clear cel99
     clear r100
     clear r104
     refine region_q g82 rfl mixed_dk (by kernel_rfl) ?_
     intro w108 ch107
     refine q_val (v := v39) rfl (fun w' hw' => e_move (by exact zs9)) ?_
     refine q_val (v := v55) rfl (fun w' hw' => e_move (by exact zs10)) ?_
     refine q_val (v := r_v) rfl (fun w' hw' => e_move (by exact zs1)) ?_
     refine q_val (v := Value.int .i64 (v : Int)) rfl (fun w' hw' => e_move (by exact zs13)) ?_
     replace r_r_v := (r_r_v.chg hc106 (not_no _)).chg ch107 (not_no _)
     refine q_val (v := Value.pointer (some (eAddr r_v 1 (Int.toNat (v : Int))))) rfl (fun w' hw' => e_indexAddr (α := List Int) (xs := r) (v := r_v) (i := (v : Int)) Try.underlying26 rfl rfl (r_r_v.bel hw') rfl (by omega) (by omega)) ?_
     obtain ⟨v109, cel110, r111⟩ := sl_row (r := (v : Int)) r_r_v (by omega) (by omega)
     refine q_val (v := v109) rfl (fun w' hw' => e_load1 tp27_dk rfl (cel_bel cel110 hw')) ?_
     refine q_val (v := Value.pointer (some (eAddr v109 1 (Int.toNat 0)))) rfl (fun w' hw' => e_indexAddr (α := Int) (xs := gI r (v : Int)) (v := v109) (i := 0) Try.underlying27 rfl rfl (r111.bel hw') rfl (by omega) (by omega)) ?_
     refine q_val (v := Value.int .i64 (gI (gI r (v : Int)) 0)) rfl (fun w' hw' => e_load_el1 (α := Int) (xs := gI r (v : Int)) (v := v109) (i := 0) tp3_dk rfl (r111.bel hw') (by omega) (by omega) (by decide) rfl) ?_
     replace o57 := (o57.chg hc106 (not_no _) (not_no _)).chg ch107 (not_no _) (not_no _)
     refine q_val (v := Value.pointer (some (eAddr v55 1 (Int.toNat (gI (gI r (v : Int)) 0))))) rfl (fun w' hw' => e_indexAddr (α := Int) (xs := nm) (v := v55) (i := (gI (gI r (v : Int)) 0)) Try.underlying27 rfl rfl (o57.flat.bel hw') rfl (by omega) (by omega)) ?_
     refine q_val (v := Value.int .i64 (gI nm (gI (gI r (v : Int)) 0))) rfl (fun w' hw' => e_load_el1 (α := Int) (xs := nm) (v := v55) (i := (gI (gI r (v : Int)) 0)) tp3_dk rfl (o57.flat.bel hw') (by omega) (by omega) (by decide) rfl) ?_
     replace o40 := (o40.chg hc106 (not_no _)).chg ch107 (not_no _)
     refine q_val (v := Value.pointer (some (eAddr v39 1 (Int.toNat (gI nm (gI (gI r (v : Int)) 0)))))) rfl (fun w' hw' => e_indexAddr (α := List Int) (xs := (dualR ((dualR g r).1) ((dualR g r).2.1)).2.1) (v := v39) (i := (gI nm (gI (gI r (v : Int)) 0))) Try.underlying26 rfl rfl (o40.sl.bel hw') rfl (by omega) (by omega)) ?_
     obtain ⟨v112, cel113, r114⟩ := nst_row (r := (gI nm (gI (gI r (v : Int)) 0))) o40 (by omega) (by omega)
     refine q_val (v := v112) rfl (fun w' hw' => e_load1 tp27_dk rfl (cel_bel cel113 hw')) ?_
     refine q_val (v := r_v) rfl (fun w' hw' => e_move (by exact zs1)) ?_
     refine q_val (v := Value.int .i64 (v : Int)) rfl (fun w' hw' => e_move (by exact zs13)) ?_
     refine q_val (v := Value.pointer (some (eAddr r_v 1 (Int.toNat (v : Int))))) rfl (fun w' hw' => e_indexAddr (α := List Int) (xs := r) (v := r_v) (i := (v : Int)) Try.underlying26 rfl rfl (r_r_v.bel hw') rfl (by omega) (by omega)) ?_
     obtain ⟨v115, cel116, r117⟩ := sl_row (r := (v : Int)) r_r_v (by omega) (by omega)
     refine q_val (v := v115) rfl (fun w' hw' => e_load1 tp27_dk rfl (cel_bel cel116 hw')) ?_
     refine q_val (v := Value.int .i64 (j : Int)) rfl (fun w' hw' => e_move (by exact zs14)) ?_
     refine q_val (v := Value.pointer (some (eAddr v115 1 (Int.toNat (j : Int))))) rfl (fun w' hw' => e_indexAddr (α := Int) (xs := gI r (v : Int)) (v := v115) (i := (j : Int)) Try.underlying27 rfl rfl (r117.bel hw') rfl (by omega) (by omega)) ?_
     refine q_val (v := Value.int .i64 (gI (gI r (v : Int)) (j : Int))) rfl (fun w' hw' => e_load_el1 (α := Int) (xs := gI r (v : Int)) (v := v115) (i := (j : Int)) tp3_dk rfl (r117.bel hw') (by omega) (by omega) (by decide) rfl) ?_
     refine q_call (v := Value.int .i64 (behS (gI ((dualR ((dualR g r).1) ((dualR g r).2.1)).2.1) (gI nm (gI (gI r (v : Int)) 0))) (gI (gI r (v : Int)) (j : Int)))) rfl (fun w' hw' => e_call (vals := [v112, Value.int .i64 (gI (gI r (v : Int)) (j : Int))]) Try.func24 bd24_dk nm24_dk rfl) (fun w' hw' => (behindD_ok w' (gI ((dualR ((dualR g r).1) ((dualR g r).2.1)).2.1) (gI nm (gI (gI r (v : Int)) 0))) v112 ((r114.row_sl.bel hw')).ro (gI (gI r (v : Int)) (j : Int)) (by omega)).mono fun e w2 h2 => ⟨h2.1, hw'.trans (h2.2.mono hw'.size)⟩) ?_
     refine q_val (v := r_v) rfl (fun w' hw' => e_move (by exact zs1)) ?_
     refine q_val (v := Value.int .i64 (v : Int)) rfl (fun w' hw' => e_move (by exact zs13)) ?_
     refine q_val (v := Value.pointer (some (eAddr r_v 1 (Int.toNat (v : Int))))) rfl (fun w' hw' => e_indexAddr (α := List Int) (xs := r) (v := r_v) (i := (v : Int)) Try.underlying26 rfl rfl (r_r_v.bel hw') rfl (by omega) (by omega)) ?_
     obtain ⟨v118, cel119, r120⟩ := sl_row (r := (v : Int)) r_r_v (by omega) (by omega)
     refine q_val (v := v118) rfl (fun w' hw' => e_load1 tp27_dk rfl (cel_bel cel119 hw')) ?_
     refine q_val (v := Value.int .i64 (j : Int)) rfl (fun w' hw' => e_move (by exact zs14)) ?_
     refine q_val (v := Value.int .i64 ((j : Int) + 1)) rfl (fun w' hw' => e_add (m := (j : Int)) (n := 1) rfl rfl (by omega)) ?_
     refine q_val (v := r_v) rfl (fun w' hw' => e_move (by exact zs1)) ?_
     refine q_val (v := Value.int .i64 (v : Int)) rfl (fun w' hw' => e_move (by exact zs13)) ?_
     refine q_val (v := Value.pointer (some (eAddr r_v 1 (Int.toNat (v : Int))))) rfl (fun w' hw' => e_indexAddr (α := List Int) (xs := r) (v := r_v) (i := (v : Int)) Try.underlying26 rfl rfl (r_r_v.bel hw') rfl (by omega) (by omega)) ?_
     obtain ⟨v121, cel122, r123⟩ := sl_row (r := (v : Int)) r_r_v (by omega) (by omega)
     refine q_val (v := v121) rfl (fun w' hw' => e_load1 tp27_dk rfl (cel_bel cel122 hw')) ?_
     refine q_val (v := Value.int .i64 (List.length (gI r (v : Int)) : Int)) rfl (fun w' hw' => e_len Try.underlying27 rfl (r123.bel hw')) ?_
     refine q_val (v := Value.int .i64 (((j : Int) + 1) % (List.length (gI r (v : Int)) : Int))) rfl (fun w' hw' => e_rem (m := (j : Int) + 1) (n := (List.length (gI r (v : Int)) : Int)) rfl rfl (by omega) (by omega)) ?_
     refine q_val (v := Value.pointer (some (eAddr v118 1 (Int.toNat (((j : Int) + 1) % (List.length (gI r (v : Int)) : Int)))))) rfl (fun w' hw' => e_indexAddr (α := Int) (xs := gI r (v : Int)) (v := v118) (i := ((j : Int) + 1) % (List.length (gI r (v : Int)) : Int)) Try.underlying27 rfl rfl (r120.bel hw') rfl (by omega) (by omega)) ?_
     refine q_val (v := Value.int .i64 (gI (gI r (v : Int)) (((j : Int) + 1) % (List.length (gI r (v : Int)) : Int)))) rfl (fun w' hw' => e_load_el1 (α := Int) (xs := gI r (v : Int)) (v := v118) (i := ((j : Int) + 1) % (List.length (gI r (v : Int)) : Int)) tp3_dk rfl (r120.bel hw') (by omega) (by omega) (by decide) rfl) ?_
     refine q_val (v := Value.bool (!(decide ((behS (gI ((dualR ((dualR g r).1) ((dualR g r).2.1)).2.1) (gI nm (gI (gI r (v : Int)) 0))) (gI (gI r (v : Int)) (j : Int))) = (gI (gI r (v : Int)) (((j : Int) + 1) % (List.length (gI r (v : Int)) : Int))))))) rfl (fun w' hw' => e_neq (m := behS (gI ((dualR ((dualR g r).1) ((dualR g r).2.1)).2.1) (gI nm (gI (gI r (v : Int)) 0))) (gI (gI r (v : Int)) (j : Int))) (n := (gI (gI r (v : Int)) (((j : Int) + 1) % (List.length (gI r (v : Int)) : Int)))) rfl rfl) ?_
     refine q_nil ?_
     intro w124 hc125
     replace hc125 := chg_below hc125 g82
     have p27 : (behS (gI ((dualR ((dualR g r).1) ((dualR g r).2.1)).2.1) (gI nm (gI (gI r (v : Int)) 0))) (gI (gI r (v : Int)) (j : Int))) = (gI (gI r (v : Int)) (((j : Int) + 1) % (List.length (gI r (v : Int)) : Int))) := by first | exact hB.may1 | exact hB.gen | exact hB.ok2 | exact hB.n2 | exact hp3 | exact hp5 | exact hp6
     refine run_cond_f rfl (congrArg Bool.not (decide_eq_true p27)) ?_
     refine run_skip ?_
     refine run_inBlock ?_
     clear r111
     clear cel113
     clear r114
     clear r117
     clear r120
     clear r123
     refine run_region rfl ?_
     refine l_val (v := Value.int .i64 (j : Int)) rfl (e_move (by exact zs14)) ?_
     refine l_val (v := Value.int .i64 ((j : Int) + 1)) rfl (e_add (m := (j : Int)) (n := 1) rfl rfl (by omega)) ?_
     refine l_val (v := Value.int .i64 ((j : Int) + 1)) rfl (e_assign rfl) ?_
     refine l_nil ?_
     have C126 : Chg (inl []) _ _ _ _ := (ch87.n).seq ((hc106.n).seq ((ch107.n).seq (hc125.n)))
     replace hbase := hbase.chg C126 (is_nl rfl)
     replace r_g_v := r_g_v.chg C126 (is_nl rfl)
     replace r_r_v := r_r_v.chg hc125 (not_no _)
     replace bx5 := bx5.chg C126 (is_nl rfl)
     replace o40 := o40.chg hc125 (not_no _)
     replace o57 := o57.chg hc125 (not_no _) (not_no _)
     refine back23 (j + 1, g82) _ _ ⟨hbase, (by exact zs1), (by exact zs2), (by exact zs9), (by exact zs10), (by exact zs13), rfl, r_g_v, r_r_v, bx5, o40, o57, by omega, ?_⟩ ?_
     · trivial
     · show Int.toNat (((List.length (gI r (v : Int)) : Int) : Int) - ((j + 1) : Int)) < Int.toNat (((List.length (gI r (v : Int)) : Int) : Int) - (j : Int))
       omega
    refine run_cond_f rfl (decide_eq_false p23) ?_
    refine run_exit rfl ?_
    refine run_inBlock ?_
    clear r85
    refine run_region rfl ?_
    refine l_val (v := Value.int .i64 (v : Int)) rfl (e_move (by exact zs13)) ?_
    refine l_val (v := Value.int .i64 ((v : Int) + 1)) rfl (e_add (m := (v : Int)) (n := 1) rfl rfl (by omega)) ?_
    refine l_val (v := Value.int .i64 ((v : Int) + 1)) rfl (e_assign rfl) ?_
    refine l_nil ?_
    refine back20 (v + 1, g82) _ _ ⟨hbase, (by exact zs1), (by exact zs2), (by exact zs9), (by exact zs10), rfl, r_g_v, r_r_v, bx5, o40, o57, by omega, ?_⟩ ?_
    · trivial
    · show Int.toNat ((g.1 : Int) - ((v + 1) : Int)) < Int.toNat ((g.1 : Int) - (v : Int))
      omega
   refine run_cond_f rfl (decide_eq_false p20) ?_
   refine run_exit rfl ?_
   refine run_seq ?_
   clear bx5
   clear o40
   clear o57
   refine run_region rfl ?_
   refine l_val (v := Value.bool true) rfl (e_assign rfl) ?_
   refine l_nil ?_
   refine run_ret (vs := [Value.bool true]) Try.func4 (.tmp rfl .nil) ?_
   -- return 0
   have e0 : (true : Bool) = (true) := by
     first
       | rfl
       | exact decide_eq_true hbd
       | exact (decide_eq_true hbd).symm
   exact ⟨(congrArg (a₁ := true) (fun (z0 : Bool) => Ending.returned (Value.bool z0)) e0), hbase.below⟩
  refine run_cond_t rfl (congrArg Bool.not (Bool.eq_false_iff.2 p4)) ?_
  refine run_seq ?_
  clear bx5
  clear o14
  refine run_region rfl ?_
  refine l_val (v := Value.int .i64 ((dualR g r).2.2)) rfl (e_move rfl) ?_
  refine l_val (v := Value.bool (decide (((dualR g r).2.2) = 0))) rfl (e_eql (m := (dualR g r).2.2) (n := 0) rfl rfl) ?_
  refine l_val (v := Value.bool (decide (((dualR g r).2.2) = 0))) rfl (e_move rfl) ?_
  refine l_skip (want_n rfl rfl rfl (decide_eq_true q26)) ?_
  refine l_skip (want_n rfl rfl rfl (decide_eq_true q26)) ?_
  refine l_skip (want_n rfl rfl rfl (decide_eq_true q26)) ?_
  refine l_val (v := Value.bool true) rfl (e_pick_t rfl (decide_eq_true q26) rfl) ?_
  refine l_val (v := Value.bool true) rfl (e_assign rfl) ?_
  refine l_nil ?_
  refine run_ret (vs := [Value.bool true]) Try.func4 (.tmp rfl .nil) ?_
  -- return 1
  have e0 : (true : Bool) = (true) := by
    first
      | rfl
      | exact decide_eq_true hbd
      | exact (decide_eq_true hbd).symm
  have C127 : Chg (inl [4]) _ _ _ _ := (ch2.n).seq ((hb7.n).seq ((ch16.n).seq ((ch18.n).seq ((ch23.l rfl).seq (hb27.n)))))
  replace hbase := hbase.chg C127 (is_nl rfl)
  exact ⟨(congrArg (a₁ := true) (fun (z0 : Bool) => Ending.returned (Value.bool z0)) e0), hbase.below⟩
 have hbd := dualR_bad q26
 refine l_skip (want_n rfl rfl rfl (congrArg Bool.not (decide_eq_false q26))) ?_
 refine l_skip (want_n rfl rfl rfl (congrArg Bool.not (decide_eq_false q26))) ?_
 refine l_skip (want_n rfl rfl rfl (congrArg Bool.not (decide_eq_false q26))) ?_
 refine l_skip (want_n rfl rfl rfl (congrArg Bool.not (decide_eq_false q26))) ?_
 refine l_val (v := Value.bool true) rfl (e_pick_t rfl (congrArg Bool.not (decide_eq_false q26)) rfl) ?_
 refine l_nil ?_
 refine run_cond_t rfl rfl ?_
 refine run_seq ?_
 clear bx5
 clear o14
 refine run_region rfl ?_
 refine l_val (v := Value.int .i64 ((dualR g r).2.2)) rfl (e_move rfl) ?_
 refine l_val (v := Value.bool (decide (((dualR g r).2.2) = 0))) rfl (e_eql (m := (dualR g r).2.2) (n := 0) rfl rfl) ?_
 refine l_val (v := Value.bool (decide (((dualR g r).2.2) = 0))) rfl (e_move rfl) ?_
 refine l_val (v := Value.pointer (some ⟨b19, 0, none⟩)) (want_y rfl rfl rfl (decide_eq_false q26)) (e_fieldAddr Try.underlying24 rfl rfl rfl rfl) ?_
 refine l_val (v := Value.int .i64 (((dualR g r).1).1)) (want_y rfl rfl rfl (decide_eq_false q26)) (e_load_bx1 tp3_dk rfl bx24 rfl) ?_
 refine l_val (v := Value.bool (decide ((((dualR g r).1).1) = 0))) (want_y rfl rfl rfl (decide_eq_false q26)) (e_eql (m := ((dualR g r).1).1) (n := 0) rfl rfl) ?_
 refine l_val (v := Value.bool (decide ((((dualR g r).1).1) = 0))) rfl (e_pick_f rfl (decide_eq_false q26) rfl) ?_
 refine l_val (v := Value.bool (decide ((((dualR g r).1).1) = 0))) rfl (e_assign rfl) ?_
 refine l_nil ?_
 refine run_ret (vs := [Value.bool (decide ((((dualR g r).1).1) = 0))]) Try.func4 (.tmp rfl .nil) ?_
 -- return 2
 have e0 : (decide ((((dualR g r).1).1) = 0) : Bool) = (true) := by
   first
     | rfl
     | exact decide_eq_true hbd
     | exact (decide_eq_true hbd).symm
 have C128 : Chg (inl [4]) _ _ _ _ := (ch2.n).seq ((hb7.n).seq ((ch16.n).seq ((ch18.n).seq (ch23.l rfl))))
 replace hbase := hbase.chg C128 (is_nl rfl)
 exact ⟨(congrArg (a₁ := decide ((((dualR g r).1).1) = 0)) (fun (z0 : Bool) => Ending.returned (Value.bool z0)) e0), hbase.below⟩
end TL
