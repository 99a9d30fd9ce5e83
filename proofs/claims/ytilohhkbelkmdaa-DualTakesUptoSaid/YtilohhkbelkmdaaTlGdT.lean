import Derived.Test.YtilohhkbelkmdaaTlGdB
import Derived.Test.YtilohhkbelkmdaaTlGdF
import Derived.Test.YtilohhkbelkmdaaTlGenA
import Derived.Test.YtilohhkbelkmdaaTlGenJ
import Derived.Test.YtilohhkbelkmdaaTlGenI
import Derived.Test.YtilohhkbelkmdaaTlGenV
import Derived.Test.YtilohhkbelkmdaaTlGenX
import Derived.Test.YtilohhkbelkmdaaTlP3
import Derived.Test.YtilohhkbelkmdaaProg
set_option linter.all false
set_option maxRecDepth 20000
namespace TL
open Go Go.Proofs
theorem mixed_dt : Try.prog.follows .mixedOrders = true := by kernel_rfl
theorem tp3_dt : Tp Try.prog 3 false 1 8 (.int .i64 0) := Tp.of (by kernel_rfl)
theorem tp22_dt : Tp Try.prog 22 false 1 24 (.slice none 0 0) := Tp.of (by kernel_rfl)
theorem tp24_dt : Tp Try.prog 24 true 2 32 (.agg #[.int .i64 0, .slice none 0 0]) := Tp.of (by kernel_rfl)
theorem bd11_dt : Try.f11.body.isNone = false := rfl
theorem nm11_dt : (Try.f11.name == "runtime.NumGoroutine") = false := by decide +kernel
theorem bd21_dt : Try.f21.body.isNone = false := rfl
theorem nm21_dt : (Try.f21.name == "runtime.NumGoroutine") = false := by decide +kernel
theorem bd23_dt : Try.f23.body.isNone = false := rfl
theorem nm23_dt : (Try.f23.name == "runtime.NumGoroutine") = false := by decide +kernel
theorem bd26_dt : Try.f26.body.isNone = false := rfl
theorem nm26_dt : (Try.f26.name == "runtime.NumGoroutine") = false := by decide +kernel
theorem bd31_dt : Try.f31.body.isNone = false := rfl
theorem nm31_dt : (Try.f31.name == "runtime.NumGoroutine") = false := by decide +kernel
theorem bd32_dt : Try.f32.body.isNone = false := rfl
theorem nm32_dt : (Try.f32.name == "runtime.NumGoroutine") = false := by decide +kernel
theorem bd35_dt : Try.f35.body.isNone = false := rfl
theorem nm35_dt : (Try.f35.name == "runtime.NumGoroutine") = false := by decide +kernel
set_option maxHeartbeats 4000000 in
theorem DualTakes_ok (w0 : World) (g : (Int) × (List ((Int) × (Int)))) (g_v : Value) (hg_v : Ro w0 g_v g.2) (r : List (List Int)) (r_v : Value) (hr_v : Ro w0 r_v r) (e : Int) (hb : (r.length : Int) ≤ 1048576 ∧ ∀ l_ ∈ r, l_.length ≤ 1048576) :
    Calls Try.prog 8 #[Value.agg (List.toArray [Value.int .i64 g.1, g_v]), r_v, Value.int .i64 e] w0 (fun ee w => ee = .returned (Value.bool true) ∧ Bel w0.heap.size w0 w) := by
 refine calls_of_run Try.func8 rfl (Nat.le_of_ble_eq_true rfl) ?_
 have hbase := Base.start w0
 have r_g_v := hg_v.sl
 have r_r_v := hr_v.sl
 refine run_seq (run_region rfl (l_op rfl ?_))
 refine o_box c0 (is 1) (1, 0) rfl rfl ?_
 intro g4 w1 b3 ch2 bx5
 replace bx5 : Bx g4 (is 1) w1 b3 [Value.int .i64 g.1, g_v] := bx5
 refine l_val (v := Value.bool false) rfl (e_assign rfl) ?_
 refine l_nil (run_seq (run_seq (run_region rfl (l_op rfl ?_))))
 refine o_call (v := Value.bool true) (e_call (vals := []) Try.func21 bd21_dt nm21_dt rfl) (begunD_ok w1 ) ?_
 intro w6 hb7
 replace hb7 := chg_below hb7 g4
 refine l_val (v := Value.bool false) rfl (e_not (b := true) rfl) ?_
 refine l_nil ?_
 refine run_cond_f rfl rfl ?_
 refine run_skip ?_
 refine run_seq (run_seq (run_region rfl ?_))
 replace bx5 := bx5.chg hb7 (not_no _)
 refine l_val (v := Value.agg (List.toArray [Value.int .i64 g.1, g_v])) rfl (e_load_bxN (ds := [Value.int .i64 g.1, g_v]) tp24_dt rfl bx5 rfl rfl) ?_
 refine l_val (v := r_v) rfl (e_move rfl) ?_
 replace r_g_v := (r_g_v.chg ch2 (not_no _)).chg hb7 (not_no _)
 replace r_r_v := (r_r_v.chg ch2 (not_no _)).chg hb7 (not_no _)
 refine l_op rfl ?_
 refine o_call (v := Value.bool (decide ((g.2.length ≤ 300 ∧ (g.1 ≤ 300 ∨ ¬ MayP g)) ∧ g.1 ≤ 200 ∧ r.length + r.flatten.length ≤ 1000))) (e_call (vals := [Value.agg (List.toArray [Value.int .i64 g.1, g_v]), r_v]) Try.func11 bd11_dt nm11_dt rfl) (Light9_ok w6 g g_v (r_g_v).ro r r_v (r_r_v).ro (by assumption)) ?_
 intro w8 hb9
 replace hb9 := chg_below hb9 g4
 refine l_val (v := Value.bool (!(decide ((g.2.length ≤ 300 ∧ (g.1 ≤ 300 ∨ ¬ MayP g)) ∧ g.1 ≤ 200 ∧ r.length + r.flatten.length ≤ 1000)))) rfl (e_not (b := (decide ((g.2.length ≤ 300 ∧ (g.1 ≤ 300 ∨ ¬ MayP g)) ∧ g.1 ≤ 200 ∧ r.length + r.flatten.length ≤ 1000))) rfl) ?_
 refine l_nil ?_
 by_cases p3 : (decide ((g.2.length ≤ 300 ∧ (g.1 ≤ 300 ∨ ¬ MayP g)) ∧ g.1 ≤ 200 ∧ r.length + r.flatten.length ≤ 1000)) = true
 ·
  refine run_cond_f rfl (congrArg Bool.not p3) ?_
  refine run_skip ?_
  refine run_seq (run_region rfl ?_)
  replace bx5 := bx5.chg hb9 (not_no _)
  refine l_val (v := Value.agg (List.toArray [Value.int .i64 g.1, g_v])) rfl (e_load_bxN (ds := [Value.int .i64 g.1, g_v]) tp24_dt rfl bx5 rfl rfl) ?_
  refine l_val (v := r_v) rfl (e_move rfl) ?_
  refine l_val (v := Value.int .i64 e) rfl (e_move rfl) ?_
  replace r_g_v := r_g_v.chg hb9 (not_no _)
  replace r_r_v := r_r_v.chg hb9 (not_no _)
  refine l_op rfl ?_
  refine o_callx (e_call (vals := [Value.agg (List.toArray [Value.int .i64 g.1, g_v]), r_v, Value.int .i64 e]) Try.func32 bd32_dt nm32_dt rfl) (Take_ok w8 g g_v (r_g_v).ro r r_v (r_r_v).ro e) ?_
  rintro ⟨d11, v13, v15⟩ w10 ⟨fr12, o14, o16⟩
  obtain ⟨g17, hg17⟩ : ∃ q, q = glue w8.heap.size g4 d11 (fun n => if n = 1 then 2 else if n = 2 then 3 else 0) := ⟨_, rfl⟩
  have ch18 := chg_glue fr12.below g4 d11 (fun n => if n = 1 then 2 else if n = 2 then 3 else 0)
  rw [← hg17] at ch18
  replace o14 := o14.glue (γ := g4) (ren := (fun n => if n = 1 then 2 else if n = 2 then 3 else 0)) (k := 2) fr12.col rfl rfl
  rw [← hg17] at o14
  replace o16 := o16.glue (γ := g4) (ren := (fun n => if n = 1 then 2 else if n = 2 then 3 else 0)) (k := 3) fr12.col rfl rfl
  rw [← hg17] at o16
  clear hg17
  refine l_val (v := Value.tuple (List.toArray [Value.agg (List.toArray [Value.int .i64 (((takeR g r e).1).1), v13]), v15, Value.int .i64 ((takeR g r e).2.2)])) rfl (e_move rfl) ?_
  refine l_val (v := Value.agg (List.toArray [Value.int .i64 (((takeR g r e).1).1), v13])) rfl (e_extract rfl rfl) ?_
  refine l_val (v := v15) rfl (e_extract rfl rfl) ?_
  refine l_val (v := Value.int .i64 ((takeR g r e).2.2)) rfl (e_extract rfl rfl) ?_
  refine l_op rfl ?_
  refine o_alloc g17 (is 4) (4, 0) rfl tp24_dt ?_
  intro g22 w19 b21 ch20 bx23
  replace bx23 : Bx g22 (is 4) w19 b21 [Value.int .i64 0, Value.slice none 0 0] := bx23
  refine l_op rfl ?_
  replace o14 := o14.chg ch20 (not_no _) (not_no _)
  refine o_store_bx (cs' := [Value.int .i64 (((takeR g r e).1).1), v13]) tp24_dt rfl rfl bx23 rfl (Nat.le_of_ble_eq_true rfl) (AllOne.all (.cons rfl (.cons (sl_one o14.flat) .nil))) rfl ?_
  intro w24 ch25 bx26
  clear bx23
  refine l_val (v := v15) rfl (e_assign rfl) ?_
  refine l_val (v := Value.int .i64 ((takeR g r e).2.2)) rfl (e_assign rfl) ?_
  refine l_nil (run_seq (run_seq (run_region rfl ?_)))
  refine l_val (v := Value.int .i64 ((takeR g r e).2.2)) rfl (e_move rfl) ?_
  refine l_val (v := Value.bool (!(decide (((takeR g r e).2.2) = 0)))) rfl (e_neq (m := (takeR g r e).2.2) (n := 0) rfl rfl) ?_
  refine l_nil ?_
  by_cases p6 : ((takeR g r e).2.2) = 0
  ·
   have hT := take_law p6
   have hm := hT.may
   have hrp := hT.rot
   have hm0 := hm
   obtain ⟨hm1, hm2, hm3, hm4⟩ := hm0
   have hol := ofS_len g r
   obtain ⟨he1, he2⟩ := hT.bd
   obtain ⟨⟨hx1, hx2⟩, hy1, hy2⟩ := hT.ends
   have hpl := partsR_len hT.may'
   have hn1 : (takeR g r e).1.1 = g.1 := by rw [hT.eq]
   have hgb := genusS_bd hm hrp
   have hgb' := genusS_bd hT.may' hT.rot'
   have hmb : mayB (takeR g r e).1 = true := mayB_true hT.may'
   refine run_cond_f rfl (congrArg Bool.not (decide_eq_true p6)) ?_
   refine run_skip ?_
   refine run_seq (run_region rfl ?_)
   have C27 : Chg (inl [4]) _ _ _ _ := (ch18.n).seq ((ch20.n).seq (ch25.l rfl))
   replace bx5 := bx5.chg C27 (is_nl rfl)
   refine l_val (v := Value.agg (List.toArray [Value.int .i64 g.1, g_v])) rfl (e_load_bxN (ds := [Value.int .i64 g.1, g_v]) tp24_dt rfl bx5 rfl rfl) ?_
   refine l_val (v := r_v) rfl (e_move rfl) ?_
   replace r_g_v := r_g_v.chg C27 (is_nl rfl)
   replace r_r_v := r_r_v.chg C27 (is_nl rfl)
   refine l_op rfl ?_
   refine o_callx (e_call (vals := [Value.agg (List.toArray [Value.int .i64 g.1, g_v]), r_v]) Try.func26 bd26_dt nm26_dt rfl) (rOf_ok w24 g g_v (r_g_v).ro r r_v (r_r_v).ro (by exact hm) (by exact hrp)) ?_
   rintro ⟨d29, v31⟩ w28 ⟨fr30, o32⟩
   obtain ⟨g33, hg33⟩ : ∃ q, q = glue w24.heap.size g22 d29 (fun n => if n = 1 then 5 else 0) := ⟨_, rfl⟩
   have ch34 := chg_glue fr30.below g22 d29 (fun n => if n = 1 then 5 else 0)
   rw [← hg33] at ch34
   replace o32 := o32.glue (γ := g22) (ren := (fun n => if n = 1 then 5 else 0)) (k := 5) fr30.col rfl rfl
   rw [← hg33] at o32
   clear hg33
   refine l_val (v := v31) rfl (e_assign rfl) ?_
   refine l_nil (run_seq (run_region rfl ?_))
   replace bx26 := bx26.chg ch34 (not_no _)
   refine l_val (v := Value.agg (List.toArray [Value.int .i64 (((takeR g r e).1).1), v13])) rfl (e_load_bxN (ds := [Value.int .i64 (((takeR g r e).1).1), v13]) tp24_dt rfl bx26 rfl rfl) ?_
   replace o14 := (o14.chg ch25 (is_ne rfl) (is_ne rfl)).chg ch34 (not_no _) (not_no _)
   refine l_op rfl ?_
   refine o_callx (e_call (vals := [Value.agg (List.toArray [Value.int .i64 (((takeR g r e).1).1), v13]), Value.slice none 0 0, Value.slice none 0 0]) Try.func31 bd31_dt nm31_dt rfl) (rParts_ok w28 ((takeR g r e).1) v13 (o14.flat).ro (by exact hT.may')) ?_
   rintro ⟨d36, v38⟩ w35 ⟨fr37, o39⟩
   obtain ⟨g40, hg40⟩ : ∃ q, q = glue w28.heap.size g33 d36 (fun n => if n = 1 then 6 else 0) := ⟨_, rfl⟩
   have ch41 := chg_glue fr37.below g33 d36 (fun n => if n = 1 then 6 else 0)
   rw [← hg40] at ch41
   replace o39 := o39.glue (γ := g33) (ren := (fun n => if n = 1 then 6 else 0)) (k := 6) fr37.col rfl rfl
   rw [← hg40] at o39
   clear hg40
   refine l_val (v := Value.tuple (List.toArray [v38, Value.int .i64 ((partsR ((takeR g r e).1)).2.1)])) rfl (e_move rfl) ?_
   refine l_val (v := v38) rfl (e_extract rfl rfl) ?_
   refine l_val (v := Value.int .i64 ((partsR ((takeR g r e).1)).2.1)) rfl (e_extract rfl rfl) ?_
   refine l_val (v := v38) rfl (e_assign rfl) ?_
   refine l_val (v := Value.int .i64 ((partsR ((takeR g r e).1)).2.1)) rfl (e_assign rfl) ?_
   refine l_nil (run_seq ?_)
   refine region_q g40 rfl mixed_dt (by kernel_rfl) ?_
   intro w43 ch42
   refine q_val (v := v38) rfl (fun w' hw' => e_move rfl) ?_
   refine q_val (v := Value.pointer (some ⟨b3, 1, none⟩)) rfl (fun w' hw' => e_fieldAddr Try.underlying24 rfl rfl rfl rfl) ?_
   have C44 : Chg (inl []) _ _ _ _ := (ch34.n).seq ((ch41.n).seq (ch42.n))
   replace bx5 := bx5.chg C44 (is_nl rfl)
   refine q_val (v := g_v) rfl (fun w' hw' => e_load_bx1 tp22_dt rfl (bx5.bel hw') rfl) ?_
   refine q_val (v := Value.int .i64 e) rfl (fun w' hw' => e_move rfl) ?_
   replace r_g_v := r_g_v.chg C44 (is_nl rfl)
   refine q_val (v := Value.pointer (some (eAddr g_v 2 (Int.toNat e)))) rfl (fun w' hw' => e_indexAddr (α := (Int) × (Int)) (xs := g.2) (v := g_v) (i := e) Try.underlying22 rfl rfl (r_g_v.bel hw') rfl (by omega) (by omega)) ?_
   refine q_val (v := Value.pointer (some ⟨(eAddr g_v 2 (Int.toNat e)).block, (eAddr g_v 2 (Int.toNat e)).off + 0, none⟩)) rfl (fun w' hw' => e_indexAddr_el Try.underlying60 rfl rfl rfl (by decide) (by decide) rfl) ?_
   refine q_val (v := Value.int .i64 ((gI g.2 e).1)) rfl (fun w' hw' => e_load_elF (α := (Int) × (Int)) (xs := g.2) (v := g_v) (i := e) tp3_dt rfl (r_g_v.bel hw') (by omega) (by omega) (by decide) rfl) ?_
   replace o39 := o39.chg ch42 (not_no _) (not_no _)
   refine q_val (v := Value.pointer (some (eAddr v38 1 (Int.toNat ((gI g.2 e).1))))) rfl (fun w' hw' => e_indexAddr (α := Int) (xs := (partsR ((takeR g r e).1)).1) (v := v38) (i := (gI g.2 e).1) Try.underlying27 rfl rfl (o39.flat.bel hw') rfl (by omega) (by omega)) ?_
   refine q_val (v := Value.int .i64 (gI ((partsR ((takeR g r e).1)).1) ((gI g.2 e).1))) rfl (fun w' hw' => e_load_el1 (α := Int) (xs := (partsR ((takeR g r e).1)).1) (v := v38) (i := (gI g.2 e).1) tp3_dt rfl (o39.flat.bel hw') (by omega) (by omega) (by decide) rfl) ?_
   refine q_val (v := v38) rfl (fun w' hw' => e_move rfl) ?_
   refine q_val (v := Value.pointer (some ⟨b3, 1, none⟩)) rfl (fun w' hw' => e_fieldAddr Try.underlying24 rfl rfl rfl rfl) ?_
   refine q_val (v := g_v) rfl (fun w' hw' => e_load_bx1 tp22_dt rfl (bx5.bel hw') rfl) ?_
   refine q_val (v := Value.int .i64 e) rfl (fun w' hw' => e_move rfl) ?_
   refine q_val (v := Value.pointer (some (eAddr g_v 2 (Int.toNat e)))) rfl (fun w' hw' => e_indexAddr (α := (Int) × (Int)) (xs := g.2) (v := g_v) (i := e) Try.underlying22 rfl rfl (r_g_v.bel hw') rfl (by omega) (by omega)) ?_
   refine q_val (v := Value.pointer (some ⟨(eAddr g_v 2 (Int.toNat e)).block, (eAddr g_v 2 (Int.toNat e)).off + 1, none⟩)) rfl (fun w' hw' => e_indexAddr_el Try.underlying60 rfl rfl rfl (by decide) (by decide) rfl) ?_
   refine q_val (v := Value.int .i64 ((gI g.2 e).2)) rfl (fun w' hw' => e_load_elF (α := (Int) × (Int)) (xs := g.2) (v := g_v) (i := e) tp3_dt rfl (r_g_v.bel hw') (by omega) (by omega) (by decide) rfl) ?_
   refine q_val (v := Value.pointer (some (eAddr v38 1 (Int.toNat ((gI g.2 e).2))))) rfl (fun w' hw' => e_indexAddr (α := Int) (xs := (partsR ((takeR g r e).1)).1) (v := v38) (i := (gI g.2 e).2) Try.underlying27 rfl rfl (o39.flat.bel hw') rfl (by omega) (by omega)) ?_
   refine q_val (v := Value.int .i64 (gI ((partsR ((takeR g r e).1)).1) ((gI g.2 e).2))) rfl (fun w' hw' => e_load_el1 (α := Int) (xs := (partsR ((takeR g r e).1)).1) (v := v38) (i := (gI g.2 e).2) tp3_dt rfl (o39.flat.bel hw') (by omega) (by omega) (by decide) rfl) ?_
   refine q_val (v := Value.bool (decide ((gI ((partsR ((takeR g r e).1)).1) ((gI g.2 e).1)) = (gI ((partsR ((takeR g r e).1)).1) ((gI g.2 e).2))))) rfl (fun w' hw' => e_eql (m := (gI ((partsR ((takeR g r e).1)).1) ((gI g.2 e).1))) (n := (gI ((partsR ((takeR g r e).1)).1) ((gI g.2 e).2))) rfl rfl) ?_
   refine q_val (v := Value.bool (decide ((gI ((partsR ((takeR g r e).1)).1) ((gI g.2 e).1)) = (gI ((partsR ((takeR g r e).1)).1) ((gI g.2 e).2))))) rfl (fun w' hw' => e_assign rfl) ?_
   refine q_nil ?_
   intro w45 hc46
   replace hc46 := chg_below hc46 g40
   refine run_seq ?_
   clear o39
   refine region_q g40 rfl mixed_dt (by kernel_rfl) ?_
   intro w48 ch47
   refine q_val (v := v31) rfl (fun w' hw' => e_move rfl) ?_
   refine q_val (v := Value.int .i64 e) rfl (fun w' hw' => e_move rfl) ?_
   refine q_val (v := Value.int .i64 (2 * e)) rfl (fun w' hw' => e_mul (m := 2) (n := e) rfl rfl (by omega)) ?_
   have C49 : Chg (inl []) _ _ _ _ := (ch41.n).seq ((ch42.n).seq ((hc46.n).seq (ch47.n)))
   replace o32 := o32.chg C49 (is_nl rfl) (is_nl rfl)
   refine q_val (v := Value.pointer (some (eAddr v31 1 (Int.toNat (2 * e))))) rfl (fun w' hw' => e_indexAddr (α := Int) (xs := ofS g r) (v := v31) (i := 2 * e) Try.underlying27 rfl rfl (o32.flat.bel hw') rfl (by omega) (by omega)) ?_
   refine q_val (v := Value.int .i64 (gI (ofS g r) (2 * e))) rfl (fun w' hw' => e_load_el1 (α := Int) (xs := ofS g r) (v := v31) (i := 2 * e) tp3_dt rfl (o32.flat.bel hw') (by omega) (by omega) (by decide) rfl) ?_
   refine q_val (v := v31) rfl (fun w' hw' => e_move rfl) ?_
   refine q_val (v := Value.int .i64 e) rfl (fun w' hw' => e_move rfl) ?_
   refine q_val (v := Value.int .i64 (2 * e)) rfl (fun w' hw' => e_mul (m := 2) (n := e) rfl rfl (by omega)) ?_
   refine q_val (v := Value.int .i64 ((2 * e) + 1)) rfl (fun w' hw' => e_add (m := 2 * e) (n := 1) rfl rfl (by omega)) ?_
   refine q_val (v := Value.pointer (some (eAddr v31 1 (Int.toNat ((2 * e) + 1))))) rfl (fun w' hw' => e_indexAddr (α := Int) (xs := ofS g r) (v := v31) (i := (2 * e) + 1) Try.underlying27 rfl rfl (o32.flat.bel hw') rfl (by omega) (by omega)) ?_
   refine q_val (v := Value.int .i64 (gI (ofS g r) ((2 * e) + 1))) rfl (fun w' hw' => e_load_el1 (α := Int) (xs := ofS g r) (v := v31) (i := (2 * e) + 1) tp3_dt rfl (o32.flat.bel hw') (by omega) (by omega) (by decide) rfl) ?_
   refine q_val (v := Value.bool (decide ((gI (ofS g r) (2 * e)) = (gI (ofS g r) ((2 * e) + 1))))) rfl (fun w' hw' => e_eql (m := (gI (ofS g r) (2 * e))) (n := (gI (ofS g r) ((2 * e) + 1))) rfl rfl) ?_
   refine q_val (v := Value.bool (decide ((gI (ofS g r) (2 * e)) = (gI (ofS g r) ((2 * e) + 1))))) rfl (fun w' hw' => e_move rfl) ?_
   by_cases q80 : (gI (ofS g r) (2 * e)) = (gI (ofS g r) ((2 * e) + 1))
   ·
    refine q_val (v := Value.bool (decide ((gI ((partsR ((takeR g r e).1)).1) ((gI g.2 e).1)) = (gI ((partsR ((takeR g r e).1)).1) ((gI g.2 e).2))))) (want_y rfl rfl rfl (decide_eq_true q80)) (fun w' hw' => e_move rfl) ?_
    refine q_val (v := Value.bool (decide ((gI ((partsR ((takeR g r e).1)).1) ((gI g.2 e).1)) = (gI ((partsR ((takeR g r e).1)).1) ((gI g.2 e).2))))) rfl (fun w' hw' => e_pick_t rfl (decide_eq_true q80) rfl) ?_
    refine q_val (v := Value.bool (decide ((gI ((partsR ((takeR g r e).1)).1) ((gI g.2 e).1)) = (gI ((partsR ((takeR g r e).1)).1) ((gI g.2 e).2))))) rfl (fun w' hw' => e_assign rfl) ?_
    refine q_nil ?_
    intro w50 hc51
    replace hc51 := chg_below hc51 g40
    refine run_seq ?_
    clear o32
    refine region_q g40 rfl mixed_dt (by kernel_rfl) ?_
    intro w53 ch52
    have C54 : Chg (inl []) _ _ _ _ := (hc46.n).seq ((ch47.n).seq ((hc51.n).seq (ch52.n)))
    replace bx5 := bx5.chg C54 (is_nl rfl)
    refine q_val (v := Value.agg (List.toArray [Value.int .i64 g.1, g_v])) rfl (fun w' hw' => e_load_bxN (ds := [Value.int .i64 g.1, g_v]) tp24_dt rfl (bx5.bel hw') rfl rfl) ?_
    refine q_val (v := r_v) rfl (fun w' hw' => e_move rfl) ?_
    replace r_g_v := r_g_v.chg C54 (is_nl rfl)
    have C55 : Chg (inl []) _ _ _ _ := (ch34.n).seq ((ch41.n).seq ((ch42.n).seq ((hc46.n).seq ((ch47.n).seq ((hc51.n).seq (ch52.n))))))
    replace r_r_v := r_r_v.chg C55 (is_nl rfl)
    refine q_call (v := Value.int .i64 (genusS g r)) rfl (fun w' hw' => e_call (vals := [Value.agg (List.toArray [Value.int .i64 g.1, g_v]), r_v]) Try.func23 bd23_dt nm23_dt rfl) (fun w' hw' => (rGenus_ok w' g g_v ((r_g_v.bel hw')).ro r r_v ((r_r_v.bel hw')).ro (by first | exact hm | exact hT.may') (by first | exact hrp | exact hT.rot')).mono fun e w2 h2 => ⟨h2.1, hw'.trans (h2.2.mono hw'.size)⟩) ?_
    have C56 : Chg (inl []) _ _ _ _ := (ch41.n).seq ((ch42.n).seq ((hc46.n).seq ((ch47.n).seq ((hc51.n).seq (ch52.n)))))
    replace bx26 := bx26.chg C56 (is_nl rfl)
    refine q_val (v := Value.agg (List.toArray [Value.int .i64 (((takeR g r e).1).1), v13])) rfl (fun w' hw' => e_load_bxN (ds := [Value.int .i64 (((takeR g r e).1).1), v13]) tp24_dt rfl (bx26.bel hw') rfl rfl) ?_
    refine q_val (v := v15) rfl (fun w' hw' => e_move rfl) ?_
    replace o14 := o14.chg C56 (is_nl rfl) (is_nl rfl)
    have C57 : Chg (inl [4]) _ _ _ _ := (ch20.n).seq ((ch25.l rfl).seq ((ch34.n).seq ((ch41.n).seq ((ch42.n).seq ((hc46.n).seq ((ch47.n).seq ((hc51.n).seq (ch52.n))))))))
    replace o16 := o16.chg C57 (is_nl rfl)
    refine q_call (v := Value.int .i64 (genusS ((takeR g r e).1) ((takeR g r e).2.1))) rfl (fun w' hw' => e_call (vals := [Value.agg (List.toArray [Value.int .i64 (((takeR g r e).1).1), v13]), v15]) Try.func23 bd23_dt nm23_dt rfl) (fun w' hw' => (rGenus_ok w' ((takeR g r e).1) v13 ((o14.flat.bel hw')).ro ((takeR g r e).2.1) v15 ((o16.sl.bel hw')).ro (by first | exact hm | exact hT.may') (by first | exact hrp | exact hT.rot')).mono fun e w2 h2 => ⟨h2.1, hw'.trans (h2.2.mono hw'.size)⟩) ?_
    refine q_val (v := Value.int .i64 (genusS g r)) rfl (fun w' hw' => e_assign rfl) ?_
    refine q_val (v := Value.int .i64 (genusS ((takeR g r e).1) ((takeR g r e).2.1))) rfl (fun w' hw' => e_assign rfl) ?_
    refine q_nil ?_
    intro w58 hc59
    replace hc59 := chg_below hc59 g40
    refine run_seq ?_
    clear bx5
    clear o16
    refine run_region rfl ?_
    replace bx26 := bx26.chg hc59 (not_no _)
    refine l_val (v := Value.agg (List.toArray [Value.int .i64 (((takeR g r e).1).1), v13])) rfl (e_load_bxN (ds := [Value.int .i64 (((takeR g r e).1).1), v13]) tp24_dt rfl bx26 rfl rfl) ?_
    replace o14 := o14.chg hc59 (not_no _) (not_no _)
    refine l_op rfl ?_
    refine o_call (v := Value.bool (mayB ((takeR g r e).1))) (e_call (vals := [Value.agg (List.toArray [Value.int .i64 (((takeR g r e).1).1), v13])]) Try.func35 bd35_dt nm35_dt rfl) (rMay_ok w58 ((takeR g r e).1) v13 (o14.flat).ro) ?_
    intro w60 hb61
    replace hb61 := chg_below hb61 g40
    refine l_val (v := Value.bool (mayB ((takeR g r e).1))) rfl (e_move rfl) ?_
    have q91 : (mayB ((takeR g r e).1)) = true := by first | exact hb1 | exact hmb | exact hT.less ⟨by assumption, by assumption⟩
    refine l_val (v := Value.bool (decide ((gI ((partsR ((takeR g r e).1)).1) ((gI g.2 e).1)) = (gI ((partsR ((takeR g r e).1)).1) ((gI g.2 e).2))))) (want_y rfl rfl rfl q91) (e_move rfl) ?_
    refine l_val (v := Value.bool (decide ((gI ((partsR ((takeR g r e).1)).1) ((gI g.2 e).1)) = (gI ((partsR ((takeR g r e).1)).1) ((gI g.2 e).2))))) (want_y rfl rfl rfl q91) (e_move rfl) ?_
    by_cases q93 : (gI ((partsR ((takeR g r e).1)).1) ((gI g.2 e).1)) = (gI ((partsR ((takeR g r e).1)).1) ((gI g.2 e).2))
    ·
     refine l_val (v := Value.int .i64 (genusS ((takeR g r e).1) ((takeR g r e).2.1))) (want_y rfl rfl rfl (decide_eq_true q93)) (e_move rfl) ?_
     refine l_val (v := Value.int .i64 (genusS g r)) (want_y rfl rfl rfl (decide_eq_true q93)) (e_move rfl) ?_
     refine l_val (v := Value.int .i64 ((genusS g r) - 1)) (want_y rfl rfl rfl (decide_eq_true q93)) (e_sub (m := genusS g r) (n := 1) rfl rfl (by omega)) ?_
     refine l_val (v := Value.bool (decide ((genusS ((takeR g r e).1) ((takeR g r e).2.1)) = ((genusS g r) - 1)))) (want_y rfl rfl rfl (decide_eq_true q93)) (e_eql (m := genusS ((takeR g r e).1) ((takeR g r e).2.1)) (n := (genusS g r) - 1) rfl rfl) ?_
     refine l_val (v := Value.bool (decide ((genusS ((takeR g r e).1) ((takeR g r e).2.1)) = ((genusS g r) - 1)))) (want_y rfl rfl rfl q91) (e_pick_t rfl (decide_eq_true q93) rfl) ?_
     refine l_val (v := Value.bool (decide ((genusS ((takeR g r e).1) ((takeR g r e).2.1)) = ((genusS g r) - 1)))) (want_y rfl rfl rfl q91) (e_move rfl) ?_
     have q99 : (genusS ((takeR g r e).1) ((takeR g r e).2.1)) = ((genusS g r) - 1) := by first | exact hb1 | exact hmb | exact hT.less ⟨by assumption, by assumption⟩
     refine l_skip (want_n rfl rfl rfl (decide_eq_true q99)) ?_
     refine l_skip (want_n rfl rfl rfl (decide_eq_true q99)) ?_
     refine l_skip (want_n rfl rfl rfl (decide_eq_true q99)) ?_
     refine l_skip (want_u rfl rfl rfl) ?_
     refine l_skip (want_u rfl rfl rfl) ?_
     refine l_skip (want_u rfl rfl rfl) ?_
     refine l_skip (want_n rfl rfl rfl (decide_eq_true q99)) ?_
     refine l_val (v := Value.bool true) (want_y rfl rfl rfl q91) (e_pick_t rfl (decide_eq_true q99) rfl) ?_
     refine l_val (v := Value.bool true) rfl (e_pick_t rfl q91 rfl) ?_
     refine l_val (v := Value.bool true) rfl (e_assign rfl) ?_
     refine l_nil ?_
     refine run_ret (vs := [Value.bool true]) Try.func8 (.tmp rfl .nil) ?_
     -- return 0
     have e0 : (true : Bool) = (true) := by
       first
         | rfl
         | (rw [hb2]; rfl)
         | exact decide_eq_true (hT.same fun c => by first | exact absurd c.1 (by assumption) | exact absurd c.2 (by assumption))
         | exact (decide_eq_true (hT.same fun c => by first | exact absurd c.1 (by assumption) | exact absurd c.2 (by assumption))).symm
     have C62 : Chg (inl [4]) _ _ _ _ := (ch2.n).seq ((hb7.n).seq ((hb9.n).seq ((ch18.n).seq ((ch20.n).seq ((ch25.l rfl).seq ((ch34.n).seq ((ch41.n).seq ((ch42.n).seq ((hc46.n).seq ((ch47.n).seq ((hc51.n).seq ((ch52.n).seq ((hc59.n).seq (hb61.n))))))))))))))
     replace hbase := hbase.chg C62 (is_nl rfl)
     exact ⟨(congrArg (a₁ := true) (fun (z0 : Bool) => Ending.returned (Value.bool z0)) e0), hbase.below⟩
    refine l_skip (want_n rfl rfl rfl (decide_eq_false q93)) ?_
    refine l_skip (want_n rfl rfl rfl (decide_eq_false q93)) ?_
    refine l_skip (want_n rfl rfl rfl (decide_eq_false q93)) ?_
    refine l_skip (want_n rfl rfl rfl (decide_eq_false q93)) ?_
    refine l_val (v := Value.bool false) (want_y rfl rfl rfl q91) (e_pick_f rfl (decide_eq_false q93) rfl) ?_
    refine l_val (v := Value.bool false) (want_y rfl rfl rfl q91) (e_move rfl) ?_
    refine l_val (v := Value.bool (decide ((gI ((partsR ((takeR g r e).1)).1) ((gI g.2 e).1)) = (gI ((partsR ((takeR g r e).1)).1) ((gI g.2 e).2))))) (want_y rfl rfl rfl rfl) (e_move rfl) ?_
    refine l_val (v := Value.bool (!(decide ((gI ((partsR ((takeR g r e).1)).1) ((gI g.2 e).1)) = (gI ((partsR ((takeR g r e).1)).1) ((gI g.2 e).2)))))) (want_y rfl rfl rfl rfl) (e_not (b := decide ((gI ((partsR ((takeR g r e).1)).1) ((gI g.2 e).1)) = (gI ((partsR ((takeR g r e).1)).1) ((gI g.2 e).2)))) rfl) ?_
    refine l_val (v := Value.bool (!(decide ((gI ((partsR ((takeR g r e).1)).1) ((gI g.2 e).1)) = (gI ((partsR ((takeR g r e).1)).1) ((gI g.2 e).2)))))) (want_y rfl rfl rfl rfl) (e_move rfl) ?_
    refine l_val (v := Value.int .i64 (genusS ((takeR g r e).1) ((takeR g r e).2.1))) (want_y rfl rfl rfl (congrArg Bool.not (decide_eq_false q93))) (e_move rfl) ?_
    refine l_val (v := Value.int .i64 (genusS g r)) (want_y rfl rfl rfl (congrArg Bool.not (decide_eq_false q93))) (e_move rfl) ?_
    refine l_val (v := Value.bool (decide ((genusS ((takeR g r e).1) ((takeR g r e).2.1)) = (genusS g r)))) (want_y rfl rfl rfl (congrArg Bool.not (decide_eq_false q93))) (e_eql (m := genusS ((takeR g r e).1) ((takeR g r e).2.1)) (n := genusS g r) rfl rfl) ?_
    refine l_val (v := Value.bool (decide ((genusS ((takeR g r e).1) ((takeR g r e).2.1)) = (genusS g r)))) (want_y rfl rfl rfl rfl) (e_pick_t rfl (congrArg Bool.not (decide_eq_false q93)) rfl) ?_
    refine l_val (v := Value.bool (decide ((genusS ((takeR g r e).1) ((takeR g r e).2.1)) = (genusS g r)))) (want_y rfl rfl rfl q91) (e_pick_f rfl rfl rfl) ?_
    refine l_val (v := Value.bool (decide ((genusS ((takeR g r e).1) ((takeR g r e).2.1)) = (genusS g r)))) rfl (e_pick_t rfl q91 rfl) ?_
    refine l_val (v := Value.bool (decide ((genusS ((takeR g r e).1) ((takeR g r e).2.1)) = (genusS g r)))) rfl (e_assign rfl) ?_
    refine l_nil ?_
    refine run_ret (vs := [Value.bool (decide ((genusS ((takeR g r e).1) ((takeR g r e).2.1)) = (genusS g r)))]) Try.func8 (.tmp rfl .nil) ?_
    -- return 1
    have e0 : (decide ((genusS ((takeR g r e).1) ((takeR g r e).2.1)) = (genusS g r)) : Bool) = (true) := by
      first
        | rfl
        | (rw [hb2]; rfl)
        | exact decide_eq_true (hT.same fun c => by first | exact absurd c.1 (by assumption) | exact absurd c.2 (by assumption))
        | exact (decide_eq_true (hT.same fun c => by first | exact absurd c.1 (by assumption) | exact absurd c.2 (by assumption))).symm
    have C63 : Chg (inl [4]) _ _ _ _ := (ch2.n).seq ((hb7.n).seq ((hb9.n).seq ((ch18.n).seq ((ch20.n).seq ((ch25.l rfl).seq ((ch34.n).seq ((ch41.n).seq ((ch42.n).seq ((hc46.n).seq ((ch47.n).seq ((hc51.n).seq ((ch52.n).seq ((hc59.n).seq (hb61.n))))))))))))))
    replace hbase := hbase.chg C63 (is_nl rfl)
    exact ⟨(congrArg (a₁ := decide ((genusS ((takeR g r e).1) ((takeR g r e).2.1)) = (genusS g r))) (fun (z0 : Bool) => Ending.returned (Value.bool z0)) e0), hbase.below⟩
   refine q_skip (want_n rfl rfl rfl (decide_eq_false q80)) ?_
   refine q_val (v := Value.bool false) rfl (fun w' hw' => e_pick_f rfl (decide_eq_false q80) rfl) ?_
   refine q_val (v := Value.bool false) rfl (fun w' hw' => e_assign rfl) ?_
   refine q_nil ?_
   intro w64 hc65
   replace hc65 := chg_below hc65 g40
   refine run_seq ?_
   clear o32
   refine region_q g40 rfl mixed_dt (by kernel_rfl) ?_
   intro w67 ch66
   have C68 : Chg (inl []) _ _ _ _ := (hc46.n).seq ((ch47.n).seq ((hc65.n).seq (ch66.n)))
   replace bx5 := bx5.chg C68 (is_nl rfl)
   refine q_val (v := Value.agg (List.toArray [Value.int .i64 g.1, g_v])) rfl (fun w' hw' => e_load_bxN (ds := [Value.int .i64 g.1, g_v]) tp24_dt rfl (bx5.bel hw') rfl rfl) ?_
   refine q_val (v := r_v) rfl (fun w' hw' => e_move rfl) ?_
   replace r_g_v := r_g_v.chg C68 (is_nl rfl)
   have C69 : Chg (inl []) _ _ _ _ := (ch34.n).seq ((ch41.n).seq ((ch42.n).seq ((hc46.n).seq ((ch47.n).seq ((hc65.n).seq (ch66.n))))))
   replace r_r_v := r_r_v.chg C69 (is_nl rfl)
   refine q_call (v := Value.int .i64 (genusS g r)) rfl (fun w' hw' => e_call (vals := [Value.agg (List.toArray [Value.int .i64 g.1, g_v]), r_v]) Try.func23 bd23_dt nm23_dt rfl) (fun w' hw' => (rGenus_ok w' g g_v ((r_g_v.bel hw')).ro r r_v ((r_r_v.bel hw')).ro (by first | exact hm | exact hT.may') (by first | exact hrp | exact hT.rot')).mono fun e w2 h2 => ⟨h2.1, hw'.trans (h2.2.mono hw'.size)⟩) ?_
   have C70 : Chg (inl []) _ _ _ _ := (ch41.n).seq ((ch42.n).seq ((hc46.n).seq ((ch47.n).seq ((hc65.n).seq (ch66.n)))))
   replace bx26 := bx26.chg C70 (is_nl rfl)
   refine q_val (v := Value.agg (List.toArray [Value.int .i64 (((takeR g r e).1).1), v13])) rfl (fun w' hw' => e_load_bxN (ds := [Value.int .i64 (((takeR g r e).1).1), v13]) tp24_dt rfl (bx26.bel hw') rfl rfl) ?_
   refine q_val (v := v15) rfl (fun w' hw' => e_move rfl) ?_
   replace o14 := o14.chg C70 (is_nl rfl) (is_nl rfl)
   have C71 : Chg (inl [4]) _ _ _ _ := (ch20.n).seq ((ch25.l rfl).seq ((ch34.n).seq ((ch41.n).seq ((ch42.n).seq ((hc46.n).seq ((ch47.n).seq ((hc65.n).seq (ch66.n))))))))
   replace o16 := o16.chg C71 (is_nl rfl)
   refine q_call (v := Value.int .i64 (genusS ((takeR g r e).1) ((takeR g r e).2.1))) rfl (fun w' hw' => e_call (vals := [Value.agg (List.toArray [Value.int .i64 (((takeR g r e).1).1), v13]), v15]) Try.func23 bd23_dt nm23_dt rfl) (fun w' hw' => (rGenus_ok w' ((takeR g r e).1) v13 ((o14.flat.bel hw')).ro ((takeR g r e).2.1) v15 ((o16.sl.bel hw')).ro (by first | exact hm | exact hT.may') (by first | exact hrp | exact hT.rot')).mono fun e w2 h2 => ⟨h2.1, hw'.trans (h2.2.mono hw'.size)⟩) ?_
   refine q_val (v := Value.int .i64 (genusS g r)) rfl (fun w' hw' => e_assign rfl) ?_
   refine q_val (v := Value.int .i64 (genusS ((takeR g r e).1) ((takeR g r e).2.1))) rfl (fun w' hw' => e_assign rfl) ?_
   refine q_nil ?_
   intro w72 hc73
   replace hc73 := chg_below hc73 g40
   refine run_seq ?_
   clear bx5
   clear o16
   refine run_region rfl ?_
   replace bx26 := bx26.chg hc73 (not_no _)
   refine l_val (v := Value.agg (List.toArray [Value.int .i64 (((takeR g r e).1).1), v13])) rfl (e_load_bxN (ds := [Value.int .i64 (((takeR g r e).1).1), v13]) tp24_dt rfl bx26 rfl rfl) ?_
   replace o14 := o14.chg hc73 (not_no _) (not_no _)
   refine l_op rfl ?_
   refine o_call (v := Value.bool (mayB ((takeR g r e).1))) (e_call (vals := [Value.agg (List.toArray [Value.int .i64 (((takeR g r e).1).1), v13])]) Try.func35 bd35_dt nm35_dt rfl) (rMay_ok w72 ((takeR g r e).1) v13 (o14.flat).ro) ?_
   intro w74 hb75
   replace hb75 := chg_below hb75 g40
   refine l_val (v := Value.bool (mayB ((takeR g r e).1))) rfl (e_move rfl) ?_
   have q91_76 : (mayB ((takeR g r e).1)) = true := by first | exact hb1 | exact hmb | exact hT.less ⟨by assumption, by assumption⟩
   refine l_val (v := Value.bool false) (want_y rfl rfl rfl q91_76) (e_move rfl) ?_
   refine l_val (v := Value.bool false) (want_y rfl rfl rfl q91_76) (e_move rfl) ?_
   refine l_skip (want_n rfl rfl rfl rfl) (l_skip (want_n rfl rfl rfl rfl) (l_skip (want_n rfl rfl rfl rfl) (l_skip (want_n rfl rfl rfl rfl) ?_)))
   refine l_val (v := Value.bool false) (want_y rfl rfl rfl q91_76) (e_pick_f rfl rfl rfl) ?_
   refine l_val (v := Value.bool false) (want_y rfl rfl rfl q91_76) (e_move rfl) ?_
   refine l_val (v := Value.bool false) (want_y rfl rfl rfl rfl) (e_move rfl) ?_
   refine l_val (v := Value.bool true) (want_y rfl rfl rfl rfl) (e_not (b := false) rfl) ?_
   refine l_val (v := Value.bool true) (want_y rfl rfl rfl rfl) (e_move rfl) ?_
   refine l_val (v := Value.int .i64 (genusS ((takeR g r e).1) ((takeR g r e).2.1))) (want_y rfl rfl rfl rfl) (e_move rfl) ?_
   refine l_val (v := Value.int .i64 (genusS g r)) (want_y rfl rfl rfl rfl) (e_move rfl) ?_
   refine l_val (v := Value.bool (decide ((genusS ((takeR g r e).1) ((takeR g r e).2.1)) = (genusS g r)))) (want_y rfl rfl rfl rfl) (e_eql (m := genusS ((takeR g r e).1) ((takeR g r e).2.1)) (n := genusS g r) rfl rfl) ?_
   refine l_val (v := Value.bool (decide ((genusS ((takeR g r e).1) ((takeR g r e).2.1)) = (genusS g r)))) (want_y rfl rfl rfl rfl) (e_pick_t rfl rfl rfl) ?_
   refine l_val (v := Value.bool (decide ((genusS ((takeR g r e).1) ((takeR g r e).2.1)) = (genusS g r)))) (want_y rfl rfl rfl q91_76) (e_pick_f rfl rfl rfl) ?_
   refine l_val (v := Value.bool (decide ((genusS ((takeR g r e).1) ((takeR g r e).2.1)) = (genusS g r)))) rfl (e_pick_t rfl q91_76 rfl) ?_
   refine l_val (v := Value.bool (decide ((genusS ((takeR g r e).1) ((takeR g r e).2.1)) = (genusS g r)))) rfl (e_assign rfl) ?_
   refine l_nil ?_
   refine run_ret (vs := [Value.bool (decide ((genusS ((takeR g r e).1) ((takeR g r e).2.1)) = (genusS g r)))]) Try.func8 (.tmp rfl .nil) ?_
   -- return 2
   have e0 : (decide ((genusS ((takeR g r e).1) ((takeR g r e).2.1)) = (genusS g r)) : Bool) = (true) := by
     first
       | rfl
       | (rw [hb2]; rfl)
       | exact decide_eq_true (hT.same fun c => by first | exact absurd c.1 (by assumption) | exact absurd c.2 (by assumption))
       | exact (decide_eq_true (hT.same fun c => by first | exact absurd c.1 (by assumption) | exact absurd c.2 (by assumption))).symm
   have C77 : Chg (inl [4]) _ _ _ _ := (ch2.n).seq ((hb7.n).seq ((hb9.n).seq ((ch18.n).seq ((ch20.n).seq ((ch25.l rfl).seq ((ch34.n).seq ((ch41.n).seq ((ch42.n).seq ((hc46.n).seq ((ch47.n).seq ((hc65.n).seq ((ch66.n).seq ((hc73.n).seq (hb75.n))))))))))))))
   replace hbase := hbase.chg C77 (is_nl rfl)
   exact ⟨(congrArg (a₁ := decide ((genusS ((takeR g r e).1) ((takeR g r e).2.1)) = (genusS g r))) (fun (z0 : Bool) => Ending.returned (Value.bool z0)) e0), hbase.below⟩
  obtain ⟨hb1, hb2⟩ := takeR_bad p6
  refine run_cond_t rfl (congrArg Bool.not (decide_eq_false p6)) ?_
  refine run_seq ?_
  clear bx5
  refine run_region rfl ?_
  refine l_val (v := Value.pointer (some ⟨b21, 0, none⟩)) rfl (e_fieldAddr Try.underlying24 rfl rfl rfl rfl) ?_
  refine l_val (v := Value.int .i64 (((takeR g r e).1).1)) rfl (e_load_bx1 tp3_dt rfl bx26 rfl) ?_
  refine l_val (v := Value.bool (decide ((((takeR g r e).1).1) = 0))) rfl (e_eql (m := ((takeR g r e).1).1) (n := 0) rfl rfl) ?_
  refine l_val (v := Value.bool (decide ((((takeR g r e).1).1) = 0))) rfl (e_move rfl) ?_
  have q36 : (((takeR g r e).1).1) = 0 := by first | exact hb1 | exact hmb | exact hT.less ⟨by assumption, by assumption⟩
  refine l_val (v := v15) (want_y rfl rfl rfl (decide_eq_true q36)) (e_move rfl) ?_
  replace o16 := (o16.chg ch20 (not_no _)).chg ch25 (is_ne rfl)
  have len78 := (o16.sl).small
  refine l_val (v := Value.int .i64 (List.length ((takeR g r e).2.1) : Int)) (want_y rfl rfl rfl (decide_eq_true q36)) (e_len Try.underlying26 rfl o16.sl) ?_
  refine l_val (v := Value.bool (decide ((List.length ((takeR g r e).2.1) : Int) = 0))) (want_y rfl rfl rfl (decide_eq_true q36)) (e_eql (m := (List.length ((takeR g r e).2.1) : Int)) (n := 0) rfl rfl) ?_
  refine l_val (v := Value.bool (decide ((List.length ((takeR g r e).2.1) : Int) = 0))) rfl (e_pick_t rfl (decide_eq_true q36) rfl) ?_
  refine l_val (v := Value.bool (decide ((List.length ((takeR g r e).2.1) : Int) = 0))) rfl (e_assign rfl) ?_
  refine l_nil ?_
  refine run_ret (vs := [Value.bool (decide ((List.length ((takeR g r e).2.1) : Int) = 0))]) Try.func8 (.tmp rfl .nil) ?_
  -- return 3
  have e0 : (decide ((List.length ((takeR g r e).2.1) : Int) = 0) : Bool) = (true) := by
    first
      | rfl
      | (rw [hb2]; rfl)
      | exact decide_eq_true (hT.same fun c => by first | exact absurd c.1 (by assumption) | exact absurd c.2 (by assumption))
      | exact (decide_eq_true (hT.same fun c => by first | exact absurd c.1 (by assumption) | exact absurd c.2 (by assumption))).symm
  have C79 : Chg (inl [4]) _ _ _ _ := (ch2.n).seq ((hb7.n).seq ((hb9.n).seq ((ch18.n).seq ((ch20.n).seq (ch25.l rfl)))))
  replace hbase := hbase.chg C79 (is_nl rfl)
  exact ⟨(congrArg (a₁ := decide ((List.length ((takeR g r e).2.1) : Int) = 0)) (fun (z0 : Bool) => Ending.returned (Value.bool z0)) e0), hbase.below⟩
 refine run_cond_t rfl (congrArg Bool.not (Bool.eq_false_iff.2 p3)) ?_
 refine run_seq ?_
 clear bx5
 refine run_region rfl ?_
 refine l_val (v := Value.bool true) rfl (e_assign rfl) ?_
 refine l_nil ?_
 refine run_ret (vs := [Value.bool true]) Try.func8 (.tmp rfl .nil) ?_
 -- return 4
 have e0 : (true : Bool) = (true) := by
   first
     | rfl
     | (rw [hb2]; rfl)
     | exact decide_eq_true (hT.same fun c => by first | exact absurd c.1 (by assumption) | exact absurd c.2 (by assumption))
     | exact (decide_eq_true (hT.same fun c => by first | exact absurd c.1 (by assumption) | exact absurd c.2 (by assumption))).symm
 have C80 : Chg (inl []) _ _ _ _ := (ch2.n).seq ((hb7.n).seq (hb9.n))
 replace hbase := hbase.chg C80 (is_nl rfl)
 exact ⟨(congrArg (a₁ := true) (fun (z0 : Bool) => Ending.returned (Value.bool z0)) e0), hbase.below⟩
end TL
