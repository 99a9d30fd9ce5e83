import Derived.Test.YtgaefcjhggdkcaaTlGenX
import Derived.Test.YtgaefcjhggdkcaaTlGenY
import Derived.Test.YtgaefcjhggdkcaaTlGenZ
import Derived.Test.YtgaefcjhggdkcaaTlGenV
import Derived.Test.YtgaefcjhggdkcaaTlRotSame
import Derived.Test.YtgaefcjhggdkcaaProg
import Derived.Test.YtgaefcjhggdkcaaTlNet2
import Derived.Test.YtgaefcjhggdkcaaTlEq
import Derived.Test.YtgaefcjhggdkcaaTlHold
import Derived.Test.YtgaefcjhggdkcaaTlDraw
import Derived.Test.YtgaefcjhggdkcaaTlMap
set_option linter.all false
set_option maxRecDepth 20000
namespace TL
open Go Go.Proofs
theorem mixed_u : Try.prog.follows .mixedOrders = true := by kernel_rfl
theorem tp3_u : Tp Try.prog 3 false 1 8 (.int .i64 0) := Tp.of (by kernel_rfl)
theorem tp24_u : Tp Try.prog 24 true 2 32 (.agg #[.int .i64 0, .slice none 0 0]) := Tp.of (by kernel_rfl)
theorem tp35_u : Tp Try.prog 35 false 1 24 (.slice none 0 0) := Tp.of (by kernel_rfl)
theorem bd9_u : Try.f9.body.isNone = false := rfl
theorem nm9_u : (Try.f9.name == "runtime.NumGoroutine") = false := by decide +kernel
theorem bd12_u : Try.f12.body.isNone = false := rfl
theorem nm12_u : (Try.f12.name == "runtime.NumGoroutine") = false := by decide +kernel
theorem bd31_u : Try.f31.body.isNone = false := rfl
theorem nm31_u : (Try.f31.name == "runtime.NumGoroutine") = false := by decide +kernel
theorem bd32_u : Try.f32.body.isNone = false := rfl
theorem nm32_u : (Try.f32.name == "runtime.NumGoroutine") = false := by decide +kernel
theorem bd33_u : Try.f33.body.isNone = false := rfl
theorem nm33_u : (Try.f33.name == "runtime.NumGoroutine") = false := by decide +kernel

set_option maxHeartbeats 4000000 in
theorem RotSame_ok (w0 : World) (g : (Int) × (List ((Int) × (Int)))) (g_v : Value) (hg_v : Ro w0 g_v g.2) (a : List (List Int)) (a_v : Value) (ha_v : Ro w0 a_v a) (b : List (List Int)) (b_v : Value) (hb_v : Ro w0 b_v b) (turn : List Int) (turn_v : Value) (hturn_v : Ro w0 turn_v turn) (hba : (a.length : Int) ≤ 1048576 ∧ ∀ l_ ∈ a, l_.length ≤ 1048576) (hbb : (b.length : Int) ≤ 1048576 ∧ ∀ l_ ∈ b, l_.length ≤ 1048576) :
    Calls Try.prog 5 #[Value.agg (List.toArray [Value.int .i64 g.1, g_v]), a_v, b_v, turn_v] w0 (fun ee w => ee = .returned (Value.bool true) ∧ RowKit.Below w0.heap.size w0 w) := by
 refine calls_of_run Try.func5 rfl (Nat.le_of_ble_eq_true rfl) ?_
 have hbase := Base.start w0
 have r_g_v := hg_v.sl
 have r_a_v := ha_v.sl
 have r_b_v := hb_v.sl
 have r_turn_v := hturn_v.sl
 refine run_seq ?_
 refine run_region rfl ?_
 refine l_op rfl ?_
 refine o_box c0 (is 1) (1, 0) rfl rfl ?_
 intro g4 w1 b3 ch2 bx5
 replace bx5 : Bx g4 (is 1) w1 b3 [Value.int .i64 g.1, g_v] := bx5
 refine l_val (v := Value.bool false) rfl (e_assign rfl) ?_
 refine l_nil ?_
 refine run_seq ?_
 refine run_seq ?_
 refine run_region rfl ?_
 refine l_op rfl ?_
 refine o_call (v := Value.bool true) (e_call (vals := []) Try.func9 bd9_u nm9_u rfl) (begun9_ok w1 ) ?_
 intro w6 hb7
 replace hb7 := chg_below hb7 g4
 refine l_val (v := Value.bool false) rfl (e_not (b := true) rfl) ?_
 refine l_nil ?_
 refine run_cond_f rfl rfl ?_
 refine run_skip ?_
 refine run_seq ?_
 refine run_seq ?_
 refine run_region rfl ?_
 replace bx5 := bx5.chg hb7 (not_no _)
 refine l_val (v := Value.agg (List.toArray [Value.int .i64 g.1, g_v])) rfl (e_load_bxN (ds := [Value.int .i64 g.1, g_v]) tp24_u rfl bx5 rfl rfl) ?_
 refine l_val (v := a_v) rfl (e_move rfl) ?_
 replace r_g_v := (r_g_v.chg ch2 (not_no _)).chg hb7 (not_no _)
 replace r_a_v := (r_a_v.chg ch2 (not_no _)).chg hb7 (not_no _)
 refine l_op rfl ?_
 refine o_call (v := Value.bool (decide ((g.2.length ≤ 300 ∧ (g.1 ≤ 300 ∨ ¬ MayP g)) ∧ g.1 ≤ 200 ∧ a.length + a.flatten.length ≤ 1000))) (e_call (vals := [Value.agg (List.toArray [Value.int .i64 g.1, g_v]), a_v]) Try.func12 bd12_u nm12_u rfl) (Light9_ok w6 g g_v (r_g_v).ro a a_v (r_a_v).ro (by assumption)) ?_
 intro w8 hb9
 replace hb9 := chg_below hb9 g4
 refine l_val (v := Value.bool (!(decide ((g.2.length ≤ 300 ∧ (g.1 ≤ 300 ∨ ¬ MayP g)) ∧ g.1 ≤ 200 ∧ a.length + a.flatten.length ≤ 1000)))) rfl (e_not (b := (decide ((g.2.length ≤ 300 ∧ (g.1 ≤ 300 ∨ ¬ MayP g)) ∧ g.1 ≤ 200 ∧ a.length + a.flatten.length ≤ 1000))) rfl) ?_
 refine l_val (v := Value.bool (!(decide ((g.2.length ≤ 300 ∧ (g.1 ≤ 300 ∨ ¬ MayP g)) ∧ g.1 ≤ 200 ∧ a.length + a.flatten.length ≤ 1000)))) rfl (e_move rfl) ?_
 by_cases q22 : (decide ((g.2.length ≤ 300 ∧ (g.1 ≤ 300 ∨ ¬ MayP g)) ∧ g.1 ≤ 200 ∧ a.length + a.flatten.length ≤ 1000)) = true
 ·
  replace bx5 := bx5.chg hb9 (not_no _)
  refine l_val (v := Value.agg (List.toArray [Value.int .i64 g.1, g_v])) (want_y rfl rfl rfl (congrArg Bool.not q22)) (e_load_bxN (ds := [Value.int .i64 g.1, g_v]) tp24_u rfl bx5 rfl rfl) ?_
  refine l_val (v := b_v) (want_y rfl rfl rfl (congrArg Bool.not q22)) (e_move rfl) ?_
  replace r_g_v := r_g_v.chg hb9 (not_no _)
  have C10 : Chg (inl []) _ _ _ _ := (ch2.n).seq ((hb7.n).seq (hb9.n))
  replace r_b_v := r_b_v.chg C10 (is_nl rfl)
  refine l_op (want_y rfl rfl rfl (congrArg Bool.not q22)) ?_
  refine o_call (v := Value.bool (decide ((g.2.length ≤ 300 ∧ (g.1 ≤ 300 ∨ ¬ MayP g)) ∧ g.1 ≤ 200 ∧ b.length + b.flatten.length ≤ 1000))) (e_call (vals := [Value.agg (List.toArray [Value.int .i64 g.1, g_v]), b_v]) Try.func12 bd12_u nm12_u rfl) (Light9_ok w8 g g_v (r_g_v).ro b b_v (r_b_v).ro (by assumption)) ?_
  intro w11 hb12
  replace hb12 := chg_below hb12 g4
  refine l_val (v := Value.bool (!(decide ((g.2.length ≤ 300 ∧ (g.1 ≤ 300 ∨ ¬ MayP g)) ∧ g.1 ≤ 200 ∧ b.length + b.flatten.length ≤ 1000)))) (want_y rfl rfl rfl (congrArg Bool.not q22)) (e_not (b := (decide ((g.2.length ≤ 300 ∧ (g.1 ≤ 300 ∨ ¬ MayP g)) ∧ g.1 ≤ 200 ∧ b.length + b.flatten.length ≤ 1000))) rfl) ?_
  refine l_val (v := Value.bool (!(decide ((g.2.length ≤ 300 ∧ (g.1 ≤ 300 ∨ ¬ MayP g)) ∧ g.1 ≤ 200 ∧ b.length + b.flatten.length ≤ 1000)))) rfl (e_pick_f rfl (congrArg Bool.not q22) rfl) ?_
  refine l_val (v := Value.bool (!(decide ((g.2.length ≤ 300 ∧ (g.1 ≤ 300 ∨ ¬ MayP g)) ∧ g.1 ≤ 200 ∧ b.length + b.flatten.length ≤ 1000)))) rfl (e_move rfl) ?_
  by_cases q28 : (decide ((g.2.length ≤ 300 ∧ (g.1 ≤ 300 ∨ ¬ MayP g)) ∧ g.1 ≤ 200 ∧ b.length + b.flatten.length ≤ 1000)) = true
  ·
   refine l_val (v := turn_v) (want_y rfl rfl rfl (congrArg Bool.not q28)) (e_move rfl) ?_
   have C13 : Chg (inl []) _ _ _ _ := (ch2.n).seq ((hb7.n).seq ((hb9.n).seq (hb12.n)))
   replace r_turn_v := r_turn_v.chg C13 (is_nl rfl)
   have len14 := (r_turn_v).small
   refine l_val (v := Value.int .i64 (List.length turn : Int)) (want_y rfl rfl rfl (congrArg Bool.not q28)) (e_len Try.underlying35 rfl r_turn_v) ?_
   refine l_val (v := Value.bool (decide (300 < (List.length turn : Int)))) (want_y rfl rfl rfl (congrArg Bool.not q28)) (e_gtr (m := (List.length turn : Int)) (n := 300) rfl rfl) ?_
   refine l_val (v := Value.bool (decide (300 < (List.length turn : Int)))) rfl (e_pick_f rfl (congrArg Bool.not q28) rfl) ?_
   refine l_nil ?_
   by_cases p3 : 300 < (List.length turn : Int)
   ·
    refine run_cond_t rfl (decide_eq_true p3) ?_
    refine run_seq ?_
    clear bx5
    refine run_region rfl ?_
    refine l_val (v := Value.bool true) rfl (e_assign rfl) ?_
    refine l_nil ?_
    refine run_ret (vs := [Value.bool true]) Try.func5 (.tmp rfl .nil) ?_
    -- return 0
    have e0 : (true : Bool) = (true) := by
      first
        | rfl
        | (rw [turns_same hinv (by omega) hm hra]; done)
        | (exfalso; rw [sameR_na p7] at q53; cases q53; done)
        | (exfalso; simp_all; done)
    replace hbase := hbase.chg C13 (is_nl rfl)
    exact ⟨(congrArg (a₁ := true) (fun (z0 : Bool) => Ending.returned (Value.bool z0)) e0), hbase.below⟩
   refine run_cond_f rfl (decide_eq_false p3) ?_
   refine run_skip ?_
   refine run_seq ?_
   refine run_region rfl ?_
   replace bx5 := bx5.chg hb12 (not_no _)
   refine l_val (v := Value.agg (List.toArray [Value.int .i64 g.1, g_v])) rfl (e_load_bxN (ds := [Value.int .i64 g.1, g_v]) tp24_u rfl bx5 rfl rfl) ?_
   refine l_val (v := a_v) rfl (e_move rfl) ?_
   refine l_val (v := b_v) rfl (e_move rfl) ?_
   replace r_g_v := r_g_v.chg hb12 (not_no _)
   replace r_a_v := (r_a_v.chg hb9 (not_no _)).chg hb12 (not_no _)
   replace r_b_v := r_b_v.chg hb12 (not_no _)
   refine l_op rfl ?_
   refine o_call (v := Value.tuple (List.toArray [Value.bool ((sameR g a b).1), Value.int .i64 ((sameR g a b).2)])) (e_call (vals := [Value.agg (List.toArray [Value.int .i64 g.1, g_v]), a_v, b_v]) Try.func31 bd31_u nm31_u rfl) (RSame_ok w11 g g_v (r_g_v).ro a a_v (r_a_v).ro b b_v (r_b_v).ro) ?_
   intro w15 hb16
   replace hb16 := chg_below hb16 g4
   refine l_val (v := Value.tuple (List.toArray [Value.bool ((sameR g a b).1), Value.int .i64 ((sameR g a b).2)])) rfl (e_move rfl) ?_
   refine l_val (v := Value.bool ((sameR g a b).1)) rfl (e_extract rfl rfl) ?_
   refine l_val (v := Value.int .i64 ((sameR g a b).2)) rfl (e_extract rfl rfl) ?_
   refine l_val (v := Value.bool ((sameR g a b).1)) rfl (e_assign rfl) ?_
   refine l_val (v := Value.int .i64 ((sameR g a b).2)) rfl (e_assign rfl) ?_
   refine l_nil ?_
   refine run_seq ?_
   refine run_region rfl ?_
   replace bx5 := bx5.chg hb16 (not_no _)
   refine l_val (v := Value.agg (List.toArray [Value.int .i64 g.1, g_v])) rfl (e_load_bxN (ds := [Value.int .i64 g.1, g_v]) tp24_u rfl bx5 rfl rfl) ?_
   refine l_val (v := a_v) rfl (e_move rfl) ?_
   replace r_g_v := r_g_v.chg hb16 (not_no _)
   replace r_a_v := r_a_v.chg hb16 (not_no _)
   refine l_op rfl ?_
   refine o_call (v := Value.int .i64 (rmayR g a)) (e_call (vals := [Value.agg (List.toArray [Value.int .i64 g.1, g_v]), a_v]) Try.func32 bd32_u nm32_u rfl) (rRMay_ok w15 g g_v (r_g_v).ro a a_v (r_a_v).ro) ?_
   intro w17 hb18
   replace hb18 := chg_below hb18 g4
   refine l_val (v := Value.int .i64 (rmayR g a)) rfl (e_assign rfl) ?_
   refine l_nil ?_
   refine run_seq ?_
   refine run_seq ?_
   refine run_region rfl ?_
   refine l_val (v := Value.int .i64 (rmayR g a)) rfl (e_move rfl) ?_
   refine l_val (v := Value.bool (decide ((rmayR g a) = 0))) rfl (e_eql (m := rmayR g a) (n := 0) rfl rfl) ?_
   refine l_nil ?_
   by_cases p7 : (rmayR g a) = 0
   ·
    obtain ⟨hm, hra⟩ := rmay_ok p7
    refine run_cond_t rfl (decide_eq_true p7) ?_
    refine run_region rfl ?_
    replace bx5 := bx5.chg hb18 (not_no _)
    refine l_val (v := Value.agg (List.toArray [Value.int .i64 g.1, g_v])) rfl (e_load_bxN (ds := [Value.int .i64 g.1, g_v]) tp24_u rfl bx5 rfl rfl) ?_
    refine l_val (v := b_v) rfl (e_move rfl) ?_
    replace r_g_v := r_g_v.chg hb18 (not_no _)
    replace r_b_v := (r_b_v.chg hb16 (not_no _)).chg hb18 (not_no _)
    refine l_op rfl ?_
    refine o_call (v := Value.int .i64 (rmayR g b)) (e_call (vals := [Value.agg (List.toArray [Value.int .i64 g.1, g_v]), b_v]) Try.func32 bd32_u nm32_u rfl) (rRMay_ok w17 g g_v (r_g_v).ro b b_v (r_b_v).ro) ?_
    intro w19 hb20
    replace hb20 := chg_below hb20 g4
    refine l_val (v := Value.int .i64 (rmayR g b)) rfl (e_assign rfl) ?_
    refine l_nil ?_
    refine run_seq ?_
    refine run_seq ?_
    refine run_mid [false, false, true, true, false, false, true, true] (σ := Cmap) (fun gq f w => Base w0 gq w ∧ f 1 = a_v ∧ f 3 = turn_v ∧ f 4 = Value.pointer (some ⟨b3, 0, none⟩) ∧ Sl gq (is 0) w g_v g.2 ∧ Sl gq (is 0) w a_v a ∧ Sl gq (is 0) w b_v b ∧ Sl gq (is 0) w turn_v turn ∧ Bx gq (is 1) w b3 [Value.int .i64 g.1, g_v] ∧ True) ?_ ?_
    ·
     intro mid_j1
     refine run_region rfl ?_
     refine l_val (v := Value.int .i64 ((sameR g a b).2)) rfl (e_move rfl) ?_
     refine l_val (v := Value.int .i64 (rmayR g b)) rfl (e_move rfl) ?_
     refine l_val (v := Value.bool (!(decide (((sameR g a b).2) = (rmayR g b))))) rfl (e_neq (m := (sameR g a b).2) (n := rmayR g b) rfl rfl) ?_
     refine l_val (v := Value.bool (!(decide (((sameR g a b).2) = (rmayR g b))))) rfl (e_move rfl) ?_
     have q51 : ((sameR g a b).2) = (rmayR g b) := by first | rfl | exact sameR_a p7 | (rw [sameR_na p7]; done) | exact sameR_x p7 (by assumption) | exact sameR_b p7 (by assumption) | (rw [turns_same hinv (by omega) hm hra]; done)
     refine l_val (v := Value.bool ((sameR g a b).1)) (want_y rfl rfl rfl (congrArg Bool.not (decide_eq_true q51))) (e_move rfl) ?_
     refine l_val (v := Value.bool ((sameR g a b).1)) (want_y rfl rfl rfl (congrArg Bool.not (decide_eq_true q51))) (e_move rfl) ?_
     by_cases q53 : ((sameR g a b).1) = true
     ·
      refine l_val (v := Value.int .i64 (rmayR g b)) (want_y rfl rfl rfl q53) (e_move rfl) ?_
      refine l_val (v := Value.bool (!(decide ((rmayR g b) = 0)))) (want_y rfl rfl rfl q53) (e_neq (m := rmayR g b) (n := 0) rfl rfl) ?_
      refine l_val (v := Value.bool (!(decide ((rmayR g b) = 0)))) (want_y rfl rfl rfl (congrArg Bool.not (decide_eq_true q51))) (e_pick_t rfl q53 rfl) ?_
      refine l_val (v := Value.bool (!(decide ((rmayR g b) = 0)))) rfl (e_pick_f rfl (congrArg Bool.not (decide_eq_true q51)) rfl) ?_
      refine l_nil ?_
      have p9 : (rmayR g b) = 0 := by first | rfl | exact sameR_a p7 | (rw [sameR_na p7]; done) | exact sameR_x p7 (by assumption) | exact sameR_b p7 (by assumption) | (rw [turns_same hinv (by omega) hm hra]; done)
      refine run_cond_f rfl (congrArg Bool.not (decide_eq_true p9)) ?_
      refine run_skip ?_
      refine run_seq ?_
      refine run_seq ?_
      refine run_region rfl ?_
      refine l_val (v := Value.int .i64 (rmayR g b)) rfl (e_move rfl) ?_
      refine l_val (v := Value.bool (decide ((rmayR g b) = 0))) rfl (e_eql (m := rmayR g b) (n := 0) rfl rfl) ?_
      refine l_val (v := Value.bool (decide ((rmayR g b) = 0))) rfl (e_move rfl) ?_
      refine l_val (v := Value.bool ((sameR g a b).1)) (want_y rfl rfl rfl (decide_eq_true p9)) (e_move rfl) ?_
      refine l_val (v := a_v) (want_y rfl rfl rfl (decide_eq_true p9)) (e_move rfl) ?_
      refine l_val (v := b_v) (want_y rfl rfl rfl (decide_eq_true p9)) (e_move rfl) ?_
      replace r_a_v := (r_a_v.chg hb18 (not_no _)).chg hb20 (not_no _)
      replace r_b_v := r_b_v.chg hb20 (not_no _)
      refine l_op (want_y rfl rfl rfl (decide_eq_true p9)) ?_
      refine o_call (v := Value.bool (decide (canonS a = canonS b))) (e_call (vals := [a_v, b_v]) Try.func33 bd33_u nm33_u rfl) (rRSame_ok w19 a a_v (r_a_v).ro b b_v (r_b_v).ro) ?_
      intro w21 hb22
      replace hb22 := chg_below hb22 g4
      refine l_val (v := Value.bool (!(decide (((sameR g a b).1) = (decide (canonS a = canonS b)))))) (want_y rfl rfl rfl (decide_eq_true p9)) (e_neq_bool Try.underlying4 rfl rfl) ?_
      refine l_val (v := Value.bool (!(decide (((sameR g a b).1) = (decide (canonS a = canonS b)))))) rfl (e_pick_t rfl (decide_eq_true p9) rfl) ?_
      refine l_nil ?_
      have p11 : ((sameR g a b).1) = (decide (canonS a = canonS b)) := by first | rfl | exact sameR_a p7 | (rw [sameR_na p7]; done) | exact sameR_x p7 (by assumption) | exact sameR_b p7 (by assumption) | (rw [turns_same hinv (by omega) hm hra]; done)
      refine run_cond_f rfl (congrArg Bool.not (decide_eq_true p11)) ?_
      refine run_skip ?_
      refine run_seq ?_
      refine run_seq ?_
      have C23 : Chg (inl []) _ _ _ _ := (ch2.n).seq ((hb7.n).seq ((hb9.n).seq ((hb12.n).seq ((hb16.n).seq ((hb18.n).seq ((hb20.n).seq (hb22.n)))))))
      replace hbase := hbase.chg C23 (is_nl rfl)
      replace r_g_v := (r_g_v.chg hb20 (not_no _)).chg hb22 (not_no _)
      replace r_a_v := r_a_v.chg hb22 (not_no _)
      replace r_b_v := r_b_v.chg hb22 (not_no _)
      have C24 : Chg (inl []) _ _ _ _ := (hb16.n).seq ((hb18.n).seq ((hb20.n).seq (hb22.n)))
      replace r_turn_v := r_turn_v.chg C24 (is_nl rfl)
      replace bx5 := (bx5.chg hb20 (not_no _)).chg hb22 (not_no _)
      refine mid_j1 (g4) _ _ ⟨hbase, rfl, rfl, rfl, r_g_v, r_a_v, r_b_v, r_turn_v, bx5, ?_⟩
      trivial
     refine l_skip (want_n rfl rfl rfl (Bool.eq_false_iff.2 q53)) ?_
     refine l_skip (want_n rfl rfl rfl (Bool.eq_false_iff.2 q53)) ?_
     refine l_val (v := Value.bool false) (want_y rfl rfl rfl (congrArg Bool.not (decide_eq_true q51))) (e_pick_f rfl (Bool.eq_false_iff.2 q53) rfl) ?_
     refine l_val (v := Value.bool false) rfl (e_pick_f rfl (congrArg Bool.not (decide_eq_true q51)) rfl) ?_
     refine l_nil ?_
     refine run_cond_f rfl rfl ?_
     refine run_skip ?_
     refine run_seq ?_
     refine run_seq ?_
     refine run_region rfl ?_
     refine l_val (v := Value.int .i64 (rmayR g b)) rfl (e_move rfl) ?_
     refine l_val (v := Value.bool (decide ((rmayR g b) = 0))) rfl (e_eql (m := rmayR g b) (n := 0) rfl rfl) ?_
     refine l_val (v := Value.bool (decide ((rmayR g b) = 0))) rfl (e_move rfl) ?_
     by_cases q60 : (rmayR g b) = 0
     ·
      refine l_val (v := Value.bool ((sameR g a b).1)) (want_y rfl rfl rfl (decide_eq_true q60)) (e_move rfl) ?_
      refine l_val (v := a_v) (want_y rfl rfl rfl (decide_eq_true q60)) (e_move rfl) ?_
      refine l_val (v := b_v) (want_y rfl rfl rfl (decide_eq_true q60)) (e_move rfl) ?_
      replace r_a_v := (r_a_v.chg hb18 (not_no _)).chg hb20 (not_no _)
      replace r_b_v := r_b_v.chg hb20 (not_no _)
      refine l_op (want_y rfl rfl rfl (decide_eq_true q60)) ?_
      refine o_call (v := Value.bool (decide (canonS a = canonS b))) (e_call (vals := [a_v, b_v]) Try.func33 bd33_u nm33_u rfl) (rRSame_ok w19 a a_v (r_a_v).ro b b_v (r_b_v).ro) ?_
      intro w25 hb26
      replace hb26 := chg_below hb26 g4
      refine l_val (v := Value.bool (!(decide (((sameR g a b).1) = (decide (canonS a = canonS b)))))) (want_y rfl rfl rfl (decide_eq_true q60)) (e_neq_bool Try.underlying4 rfl rfl) ?_
      refine l_val (v := Value.bool (!(decide (((sameR g a b).1) = (decide (canonS a = canonS b)))))) rfl (e_pick_t rfl (decide_eq_true q60) rfl) ?_
      refine l_nil ?_
      have p11_27 : ((sameR g a b).1) = (decide (canonS a = canonS b)) := by first | rfl | exact sameR_a p7 | (rw [sameR_na p7]; done) | exact sameR_x p7 (by assumption) | exact sameR_b p7 (by assumption) | (rw [turns_same hinv (by omega) hm hra]; done)
      refine run_cond_f rfl (congrArg Bool.not (decide_eq_true p11_27)) ?_
      refine run_skip ?_
      refine run_seq ?_
      refine run_seq ?_
      have C28 : Chg (inl []) _ _ _ _ := (ch2.n).seq ((hb7.n).seq ((hb9.n).seq ((hb12.n).seq ((hb16.n).seq ((hb18.n).seq ((hb20.n).seq (hb26.n)))))))
      replace hbase := hbase.chg C28 (is_nl rfl)
      replace r_g_v := (r_g_v.chg hb20 (not_no _)).chg hb26 (not_no _)
      replace r_a_v := r_a_v.chg hb26 (not_no _)
      replace r_b_v := r_b_v.chg hb26 (not_no _)
      have C29 : Chg (inl []) _ _ _ _ := (hb16.n).seq ((hb18.n).seq ((hb20.n).seq (hb26.n)))
      replace r_turn_v := r_turn_v.chg C29 (is_nl rfl)
      replace bx5 := (bx5.chg hb20 (not_no _)).chg hb26 (not_no _)
      refine mid_j1 (g4) _ _ ⟨hbase, rfl, rfl, rfl, r_g_v, r_a_v, r_b_v, r_turn_v, bx5, ?_⟩
      trivial
     refine l_skip (want_n rfl rfl rfl (decide_eq_false q60)) ?_
     refine l_skip (want_n rfl rfl rfl (decide_eq_false q60)) ?_
     refine l_skip (want_n rfl rfl rfl (decide_eq_false q60)) ?_
     refine l_skip (want_n rfl rfl rfl (decide_eq_false q60)) ?_
     refine l_skip (want_n rfl rfl rfl (decide_eq_false q60)) ?_
     refine l_val (v := Value.bool false) rfl (e_pick_f rfl (decide_eq_false q60) rfl) ?_
     refine l_nil ?_
     refine run_cond_f rfl rfl ?_
     refine run_skip ?_
     refine run_seq ?_
     refine run_seq ?_
     have C30 : Chg (inl []) _ _ _ _ := (ch2.n).seq ((hb7.n).seq ((hb9.n).seq ((hb12.n).seq ((hb16.n).seq ((hb18.n).seq (hb20.n))))))
     replace hbase := hbase.chg C30 (is_nl rfl)
     replace r_g_v := r_g_v.chg hb20 (not_no _)
     replace r_a_v := (r_a_v.chg hb18 (not_no _)).chg hb20 (not_no _)
     replace r_b_v := r_b_v.chg hb20 (not_no _)
     have C31 : Chg (inl []) _ _ _ _ := (hb16.n).seq ((hb18.n).seq (hb20.n))
     replace r_turn_v := r_turn_v.chg C31 (is_nl rfl)
     replace bx5 := bx5.chg hb20 (not_no _)
     refine mid_j1 (g4) _ _ ⟨hbase, rfl, rfl, rfl, r_g_v, r_a_v, r_b_v, r_turn_v, bx5, ?_⟩
     trivial
    clear r_g_v
    clear r_a_v
    clear r_b_v
    clear r_turn_v
    clear bx5
    clear hbase
    rintro g34 f32 w33 ⟨hbase, z35_1, z35_3, z35_4, r_g_v, r_a_v, r_b_v, r_turn_v, bx5, hj_j1⟩
    refine run_region rfl ?_
    refine l_val (v := Value.agg (List.toArray [Value.int .i64 g.1, g_v])) rfl (e_load_bxN (ds := [Value.int .i64 g.1, g_v]) tp24_u (by exact z35_4) bx5 rfl rfl) ?_
    refine l_val (v := a_v) rfl (e_move (by exact z35_1)) ?_
    refine l_op rfl ?_
    refine o_call (v := Value.int .i64 (rmayR g a)) (e_call (vals := [Value.agg (List.toArray [Value.int .i64 g.1, g_v]), a_v]) Try.func32 bd32_u nm32_u rfl) (rRMay_ok w33 g g_v (r_g_v).ro a a_v (r_a_v).ro) ?_
    intro w36 hb37
    replace hb37 := chg_below hb37 g34
    refine l_val (v := Value.bool (!(decide ((rmayR g a) = 0)))) rfl (e_neq (m := rmayR g a) (n := 0) rfl rfl) ?_
    refine l_nil ?_
    refine run_cond_f rfl (congrArg Bool.not (decide_eq_true p7)) ?_
    refine run_skip ?_
    refine run_seq ?_
    refine run_region rfl ?_
    refine l_val (v := a_v) rfl (e_move (by exact z35_1)) ?_
    replace r_a_v := r_a_v.chg hb37 (not_no _)
    have len38 := (r_a_v).small
    refine l_val (v := Value.int .i64 (List.length a : Int)) rfl (e_len Try.underlying26 rfl r_a_v) ?_
    refine l_op rfl ?_
    refine o_make_nst (α := Int) (n := (List.length a : Int)) (cp := (List.length a : Int)) g34 2 Try.underlying26 tp35_u rfl rfl rfl (by omega) (by omega) (by omega) (by omega) ?_
    intro g39 w40 v41 ch42 o43
    refine l_val (v := v41) rfl (e_assign rfl) ?_
    refine l_nil ?_
    refine run_seq ?_
    refine run_seq ?_
    refine run_region rfl ?_
    refine l_val (v := Value.int .i64 0) rfl (e_assign rfl) ?_
    refine l_nil ?_
    refine run_block ?_
    refine run_loop (σ := Nat × (List (List Int)) × Cmap) (fun ⟨v, c, gq⟩ f w => Base w0 gq w ∧ f 1 = a_v ∧ f 3 = turn_v ∧ f 4 = Value.pointer (some ⟨b3, 0, none⟩) ∧ f 12 = v41 ∧ f 13 = Value.int .i64 (v : Int) ∧ Sl gq (is 0) w g_v g.2 ∧ Sl gq (is 0) w a_v a ∧ Sl gq (is 0) w b_v b ∧ Sl gq (is 0) w turn_v turn ∧ Bx gq (is 1) w b3 [Value.int .i64 g.1, g_v] ∧ Nst gq 2 w v41 c ∧ (v : Int) ≤ ((List.length a : Int) : Int) ∧ (TurnsInv c a v)) (fun ⟨v, c, gq⟩ => Int.toNat (((List.length a : Int) : Int) - (v : Int))) (0, (List.replicate (Int.toNat (List.length a : Int)) []), g39) ?_ ?_
    replace hbase := hbase.chg hb37 (not_no _)
    replace hbase := hbase.chg ch42 (not_no _)
    replace r_g_v := (r_g_v.chg hb37 (not_no _)).chg ch42 (not_no _)
    replace r_a_v := r_a_v.chg ch42 (not_no _)
    replace r_b_v := (r_b_v.chg hb37 (not_no _)).chg ch42 (not_no _)
    replace r_turn_v := (r_turn_v.chg hb37 (not_no _)).chg ch42 (not_no _)
    replace bx5 := (bx5.chg hb37 (not_no _)).chg ch42 (not_no _)
    · exact ⟨hbase, (by exact z35_1), (by exact z35_3), (by exact z35_4), rfl, rfl, r_g_v, r_a_v, r_b_v, r_turn_v, bx5, o43, by omega, by (have h := TurnsInv.start a; simpa using h)⟩
    clear r_g_v
    clear r_a_v
    clear r_b_v
    clear r_turn_v
    clear bx5
    clear o43
    clear hbase
    rintro ⟨v, c, g46⟩ f44 w45 ⟨hbase, zs1, zs3, zs4, zs12, zs13, r_g_v, r_a_v, r_b_v, r_turn_v, bx5, o43, hle_v, hinv⟩ back17
    have hcl := hinv.len
    refine run_seq ?_
    refine run_seq ?_
    refine run_region rfl ?_
    refine l_val (v := Value.int .i64 (v : Int)) rfl (e_move (by exact zs13)) ?_
    refine l_val (v := a_v) rfl (e_move (by exact zs1)) ?_
    refine l_val (v := Value.int .i64 (List.length a : Int)) rfl (e_len Try.underlying26 rfl r_a_v) ?_
    refine l_val (v := Value.bool (decide ((v : Int) < (List.length a : Int)))) rfl (e_lss (m := (v : Int)) (n := (List.length a : Int)) rfl rfl) ?_
    refine l_nil ?_
    by_cases p17 : (v : Int) < (List.length a : Int)
    ·
     refine run_cond_t rfl (decide_eq_true p17) ?_
     have hrl := hba.2 _ (gI_mem (xs := a) (i := (v : Int)) (by omega) (by assumption))
     refine run_skip ?_
     refine run_seq ?_
     refine run_block ?_
     refine run_seq ?_
     refine run_region rfl ?_
     refine l_val (v := Value.int .i64 0) rfl (e_assign rfl) ?_
     refine l_nil ?_
     refine run_seq ?_
     refine run_seq ?_
     refine run_mid [false, false] (σ := Int × Cmap) (fun ⟨k_j2, gq⟩ f w => Base w0 gq w ∧ f 1 = a_v ∧ f 3 = turn_v ∧ f 4 = Value.pointer (some ⟨b3, 0, none⟩) ∧ f 12 = v41 ∧ f 13 = Value.int .i64 (v : Int) ∧ f 14 = Value.int .i64 k_j2 ∧ Sl gq (is 0) w g_v g.2 ∧ Sl gq (is 0) w a_v a ∧ Sl gq (is 0) w b_v b ∧ Sl gq (is 0) w turn_v turn ∧ Bx gq (is 1) w b3 [Value.int .i64 g.1, g_v] ∧ Nst gq 2 w v41 c ∧ (0 ≤ k_j2 ∧ k_j2 ≤ (List.length (gI a (v : Int)) : Int))) ?_ ?_
     ·
      intro mid_j2
      refine run_region rfl ?_
      refine l_val (v := Value.int .i64 (v : Int)) rfl (e_move (by exact zs13)) ?_
      refine l_val (v := turn_v) rfl (e_move (by exact zs3)) ?_
      refine l_val (v := Value.int .i64 (List.length turn : Int)) rfl (e_len Try.underlying35 rfl r_turn_v) ?_
      refine l_val (v := Value.bool (decide ((v : Int) < (List.length turn : Int)))) rfl (e_lss (m := (v : Int)) (n := (List.length turn : Int)) rfl rfl) ?_
      refine l_val (v := Value.bool (decide ((v : Int) < (List.length turn : Int)))) rfl (e_move rfl) ?_
      by_cases q84 : (v : Int) < (List.length turn : Int)
      ·
       refine l_val (v := turn_v) (want_y rfl rfl rfl (decide_eq_true q84)) (e_move (by exact zs3)) ?_
       refine l_val (v := Value.int .i64 (v : Int)) (want_y rfl rfl rfl (decide_eq_true q84)) (e_move (by exact zs13)) ?_
       refine l_val (v := Value.pointer (some (eAddr turn_v 1 (Int.toNat (v : Int))))) (want_y rfl rfl rfl (decide_eq_true q84)) (e_indexAddr (α := Int) (xs := turn) (v := turn_v) (i := (v : Int)) Try.underlying35 rfl rfl r_turn_v rfl (by omega) (by omega)) ?_
       refine l_val (v := Value.int .i64 (gI turn (v : Int))) (want_y rfl rfl rfl (decide_eq_true q84)) (e_load_el1 (α := Int) (xs := turn) (v := turn_v) (i := (v : Int)) tp3_u rfl r_turn_v (by omega) (by omega) (by decide) rfl) ?_
       refine l_val (v := Value.bool (decide (0 < (gI turn (v : Int))))) (want_y rfl rfl rfl (decide_eq_true q84)) (e_gtr (m := (gI turn (v : Int))) (n := 0) rfl rfl) ?_
       refine l_val (v := Value.bool (decide (0 < (gI turn (v : Int))))) rfl (e_pick_t rfl (decide_eq_true q84) rfl) ?_
       refine l_val (v := Value.bool (decide (0 < (gI turn (v : Int))))) rfl (e_move rfl) ?_
       by_cases q91 : 0 < (gI turn (v : Int))
       ·
        refine l_val (v := a_v) (want_y rfl rfl rfl (decide_eq_true q91)) (e_move (by exact zs1)) ?_
        refine l_val (v := Value.int .i64 (v : Int)) (want_y rfl rfl rfl (decide_eq_true q91)) (e_move (by exact zs13)) ?_
        refine l_val (v := Value.pointer (some (eAddr a_v 1 (Int.toNat (v : Int))))) (want_y rfl rfl rfl (decide_eq_true q91)) (e_indexAddr (α := List Int) (xs := a) (v := a_v) (i := (v : Int)) Try.underlying26 rfl rfl r_a_v rfl (by omega) (by omega)) ?_
        obtain ⟨v47, cel48, r49⟩ := sl_row (r := (v : Int)) r_a_v (by omega) (by omega)
        refine l_val (v := v47) (want_y rfl rfl rfl (decide_eq_true q91)) (e_load1 tp35_u rfl cel48) ?_
        have len50 := (r49).small
        refine l_val (v := Value.int .i64 (List.length (gI a (v : Int)) : Int)) (want_y rfl rfl rfl (decide_eq_true q91)) (e_len Try.underlying35 rfl r49) ?_
        refine l_val (v := Value.bool (decide (0 < (List.length (gI a (v : Int)) : Int)))) (want_y rfl rfl rfl (decide_eq_true q91)) (e_gtr (m := (List.length (gI a (v : Int)) : Int)) (n := 0) rfl rfl) ?_
        refine l_val (v := Value.bool (decide (0 < (List.length (gI a (v : Int)) : Int)))) rfl (e_pick_t rfl (decide_eq_true q91) rfl) ?_
        refine l_nil ?_
        by_cases p20 : 0 < (List.length (gI a (v : Int)) : Int)
        ·
         refine run_cond_t rfl (decide_eq_true p20) ?_
         clear r49
         refine region_q g46 rfl mixed_u (by kernel_rfl) ?_
         intro w52 ch51
         refine q_val (v := turn_v) rfl (fun w' hw' => e_move (by exact zs3)) ?_
         refine q_val (v := Value.int .i64 (v : Int)) rfl (fun w' hw' => e_move (by exact zs13)) ?_
         replace r_turn_v := r_turn_v.chg ch51 (not_no _)
         refine q_val (v := Value.pointer (some (eAddr turn_v 1 (Int.toNat (v : Int))))) rfl (fun w' hw' => e_indexAddr (α := Int) (xs := turn) (v := turn_v) (i := (v : Int)) Try.underlying35 rfl rfl (r_turn_v.bel hw') rfl (by omega) (by omega)) ?_
         refine q_val (v := Value.int .i64 (gI turn (v : Int))) rfl (fun w' hw' => e_load_el1 (α := Int) (xs := turn) (v := turn_v) (i := (v : Int)) tp3_u rfl (r_turn_v.bel hw') (by omega) (by omega) (by decide) rfl) ?_
         refine q_val (v := a_v) rfl (fun w' hw' => e_move (by exact zs1)) ?_
         refine q_val (v := Value.int .i64 (v : Int)) rfl (fun w' hw' => e_move (by exact zs13)) ?_
         replace r_a_v := r_a_v.chg ch51 (not_no _)
         refine q_val (v := Value.pointer (some (eAddr a_v 1 (Int.toNat (v : Int))))) rfl (fun w' hw' => e_indexAddr (α := List Int) (xs := a) (v := a_v) (i := (v : Int)) Try.underlying26 rfl rfl (r_a_v.bel hw') rfl (by omega) (by omega)) ?_
         obtain ⟨v53, cel54, r55⟩ := sl_row (r := (v : Int)) r_a_v (by omega) (by omega)
         refine q_val (v := v53) rfl (fun w' hw' => e_load1 tp35_u rfl (cel_bel cel54 hw')) ?_
         refine q_val (v := Value.int .i64 (List.length (gI a (v : Int)) : Int)) rfl (fun w' hw' => e_len Try.underlying35 rfl (r55.bel hw')) ?_
         refine q_val (v := Value.int .i64 ((gI turn (v : Int)) % (List.length (gI a (v : Int)) : Int))) rfl (fun w' hw' => e_rem (m := (gI turn (v : Int))) (n := (List.length (gI a (v : Int)) : Int)) rfl rfl (by omega) (by omega)) ?_
         refine q_val (v := Value.int .i64 ((gI turn (v : Int)) % (List.length (gI a (v : Int)) : Int))) rfl (fun w' hw' => e_assign rfl) ?_
         refine q_nil ?_
         intro w56 hc57
         replace hc57 := chg_below hc57 g46
         clear r55
         replace hbase := hbase.chg ch51 (not_no _)
         replace hbase := hbase.chg hc57 (not_no _)
         replace r_g_v := (r_g_v.chg ch51 (not_no _)).chg hc57 (not_no _)
         replace r_a_v := r_a_v.chg hc57 (not_no _)
         replace r_b_v := (r_b_v.chg ch51 (not_no _)).chg hc57 (not_no _)
         replace r_turn_v := r_turn_v.chg hc57 (not_no _)
         replace bx5 := (bx5.chg ch51 (not_no _)).chg hc57 (not_no _)
         replace o43 := (o43.chg ch51 (not_no _)).chg hc57 (not_no _)
         refine mid_j2 ((gI turn (v : Int)) % (List.length (gI a (v : Int)) : Int), g46) _ _ ⟨hbase, (by exact zs1), (by exact zs3), (by exact zs4), (by exact zs12), (by exact zs13), rfl, r_g_v, r_a_v, r_b_v, r_turn_v, bx5, o43, ?_⟩
         show 0 ≤ ((gI turn (v : Int)) % (List.length (gI a (v : Int)) : Int)) ∧ ((gI turn (v : Int)) % (List.length (gI a (v : Int)) : Int)) ≤ (List.length (gI a (v : Int)) : Int)
         first
           | omega
           | exact ⟨Int.emod_nonneg _ (by omega), by have := Int.emod_lt_of_pos (gI turn (v : Int)) (show (0 : Int) < (List.length (gI a (v : Int)) : Int) by assumption); omega⟩
        refine run_cond_f rfl (decide_eq_false p20) ?_
        refine run_skip ?_
        clear r49
        refine mid_j2 (0, g46) _ _ ⟨hbase, (by exact zs1), (by exact zs3), (by exact zs4), (by exact zs12), (by exact zs13), rfl, r_g_v, r_a_v, r_b_v, r_turn_v, bx5, o43, ?_⟩
        show 0 ≤ 0 ∧ 0 ≤ (List.length (gI a (v : Int)) : Int)
        first
          | omega
          | exact ⟨Int.emod_nonneg _ (by omega), by have := Int.emod_lt_of_pos (gI turn (v : Int)) (show (0 : Int) < (List.length (gI a (v : Int)) : Int) by assumption); omega⟩
       refine l_skip (want_n rfl rfl rfl (decide_eq_false q91)) ?_
       refine l_skip (want_n rfl rfl rfl (decide_eq_false q91)) ?_
       refine l_skip (want_n rfl rfl rfl (decide_eq_false q91)) ?_
       refine l_skip (want_n rfl rfl rfl (decide_eq_false q91)) ?_
       refine l_skip (want_n rfl rfl rfl (decide_eq_false q91)) ?_
       refine l_skip (want_n rfl rfl rfl (decide_eq_false q91)) ?_
       refine l_val (v := Value.bool false) rfl (e_pick_f rfl (decide_eq_false q91) rfl) ?_
       refine l_nil ?_
       refine run_cond_f rfl rfl ?_
       refine run_skip ?_
       refine mid_j2 (0, g46) _ _ ⟨hbase, (by exact zs1), (by exact zs3), (by exact zs4), (by exact zs12), (by exact zs13), rfl, r_g_v, r_a_v, r_b_v, r_turn_v, bx5, o43, ?_⟩
       show 0 ≤ 0 ∧ 0 ≤ (List.length (gI a (v : Int)) : Int)
       first
         | omega
         | exact ⟨Int.emod_nonneg _ (by omega), by have := Int.emod_lt_of_pos (gI turn (v : Int)) (show (0 : Int) < (List.length (gI a (v : Int)) : Int) by assumption); omega⟩
      refine l_skip (want_n rfl rfl rfl (decide_eq_false q84)) ?_
      refine l_skip (want_n rfl rfl rfl (decide_eq_false q84)) ?_
      refine l_skip (want_n rfl rfl rfl (decide_eq_false q84)) ?_
      refine l_skip (want_n rfl rfl rfl (decide_eq_false q84)) ?_
      refine l_skip (want_n rfl rfl rfl (decide_eq_false q84)) ?_
      refine l_val (v := Value.bool false) rfl (e_pick_f rfl (decide_eq_false q84) rfl) ?_
      refine l_val (v := Value.bool false) rfl (e_move rfl) ?_
      refine l_skip (want_n rfl rfl rfl rfl) ?_
      refine l_skip (want_n rfl rfl rfl rfl) ?_
      refine l_skip (want_n rfl rfl rfl rfl) ?_
      refine l_skip (want_n rfl rfl rfl rfl) ?_
      refine l_skip (want_n rfl rfl rfl rfl) ?_
      refine l_skip (want_n rfl rfl rfl rfl) ?_
      refine l_val (v := Value.bool false) rfl (e_pick_f rfl rfl rfl) ?_
      refine l_nil ?_
      refine run_cond_f rfl rfl ?_
      refine run_skip ?_
      refine mid_j2 (0, g46) _ _ ⟨hbase, (by exact zs1), (by exact zs3), (by exact zs4), (by exact zs12), (by exact zs13), rfl, r_g_v, r_a_v, r_b_v, r_turn_v, bx5, o43, ?_⟩
      show 0 ≤ 0 ∧ 0 ≤ (List.length (gI a (v : Int)) : Int)
      first
        | omega
        | exact ⟨Int.emod_nonneg _ (by omega), by have := Int.emod_lt_of_pos (gI turn (v : Int)) (show (0 : Int) < (List.length (gI a (v : Int)) : Int) by assumption); omega⟩
     clear r_g_v
     clear r_a_v
     clear r_b_v
     clear r_turn_v
     clear bx5
     clear o43
     clear hbase
     rintro ⟨k_j2, g60⟩ f58 w59 ⟨hbase, z61_1, z61_3, z61_4, z61_12, z61_13, z61_14, r_g_v, r_a_v, r_b_v, r_turn_v, bx5, o43, hk_j2⟩
     obtain ⟨hk1, hk2⟩ := hk_j2
     refine region_midh (σ := Cmap) (fun gq f w => Base w0 gq w ∧ f 1 = a_v ∧ f 3 = turn_v ∧ f 4 = Value.pointer (some ⟨b3, 0, none⟩) ∧ f 12 = v41 ∧ f 13 = Value.int .i64 (v : Int) ∧ Sl gq (is 0) w g_v g.2 ∧ Sl gq (is 0) w a_v a ∧ Sl gq (is 0) w b_v b ∧ Sl gq (is 0) w turn_v turn ∧ Bx gq (is 1) w b3 [Value.int .i64 g.1, g_v] ∧ Nst gq 2 w v41 (List.set c (Int.toNat (v : Int)) ((List.drop (Int.toNat k_j2) (List.take (Int.toNat ((gI a (v : Int)).length)) (gI a (v : Int)))) ++ (List.drop (Int.toNat 0) (List.take (Int.toNat k_j2) (gI a (v : Int))))))) g60 (inl [2, 3]) mixed_u ?_ ?_
     ·
      intro mid
      intro w63 ch62
      refine h_take (v := v41) 0 rfl (by kernel_rfl) (by kernel_rfl) rfl (Chg.refl _ _ _) (fun w' hw' => e_move (by exact z61_12)) ?_
      refine h_take (v := Value.int .i64 (v : Int)) 1 rfl (by kernel_rfl) (by kernel_rfl) rfl (Chg.refl _ _ _) (fun w' hw' => e_move (by exact z61_13)) ?_
      refine h_take (v := a_v) 2 rfl (by kernel_rfl) (by kernel_rfl) rfl (Chg.refl _ _ _) (fun w' hw' => e_move (by exact z61_1)) ?_
      refine h_take (v := Value.int .i64 (v : Int)) 3 rfl (by kernel_rfl) (by kernel_rfl) rfl (Chg.refl _ _ _) (fun w' hw' => e_move (by exact z61_13)) ?_
      refine h_take (v := Value.int .i64 k_j2) 6 rfl (by kernel_rfl) (by kernel_rfl) rfl (Chg.refl _ _ _) (fun w' hw' => e_move (by exact z61_14)) ?_
      refine h_take (v := a_v) 9 rfl (by kernel_rfl) (by kernel_rfl) rfl (Chg.refl _ _ _) (fun w' hw' => e_move (by exact z61_1)) ?_
      refine h_take (v := Value.int .i64 (v : Int)) 10 rfl (by kernel_rfl) (by kernel_rfl) rfl (Chg.refl _ _ _) (fun w' hw' => e_move (by exact z61_13)) ?_
      refine h_take (v := Value.int .i64 k_j2) 13 rfl (by kernel_rfl) (by kernel_rfl) rfl (Chg.refl _ _ _) (fun w' hw' => e_move (by exact z61_14)) ?_
      refine h_many 4 [11] (by kernel_rfl) ⟨h_of 4 rfl (by kernel_rfl) rfl ?_, h_of 11 rfl (by kernel_rfl) rfl ?_, trivial⟩
      ·
       replace r_a_v := r_a_v.chg ch62 (not_no _)
       refine o_of_val (v := Value.pointer (some (eAddr a_v 1 (Int.toNat (v : Int))))) (e_indexAddr (α := List Int) (xs := a) (v := a_v) (i := (v : Int)) Try.underlying26 rfl rfl r_a_v rfl (by omega) (by omega)) ?_
       refine ⟨(Chg.refl _ _ _), ?_⟩
       obtain ⟨v64, cel65, r66⟩ := sl_rowh (r := (v : Int)) r_a_v (by omega) (by omega)
       refine h_take (v := v64) 5 rfl (by kernel_rfl) (by kernel_rfl) rfl (Chg.refl _ _ _) (fun w' hw' => e_load1 tp35_u rfl (cel65 _ w' (is_nl rfl) hw')) ?_
       refine h_take (v := (subV v64 1 (Int.toNat k_j2) (Int.toNat ((gI a (v : Int)).length)))) 7 rfl (by kernel_rfl) (by kernel_rfl) rfl (Chg.refl _ _ _) (fun w' hw' => e_slice (α := Int) (xs := gI a (v : Int)) (v := v64) (l := k_j2) (h := (gI a (v : Int)).length) Try.underlying35 rfl rfl r66 (.inl (congrArg some rfl)) (.inr ⟨rfl, rfl⟩) (by omega) (by omega) (by omega)) ?_
       have r68 := sl_sub r66 (show Int.toNat k_j2 ≤ Int.toNat ((gI a (v : Int)).length) by omega) (show Int.toNat ((gI a (v : Int)).length) ≤ List.length _ by omega)
       refine h_many 8 [11] (by kernel_rfl) ⟨h_of 8 rfl (by kernel_rfl) rfl ?_, h_of 11 rfl (by kernel_rfl) rfl ?_, trivial⟩
       ·
        refine o_append (α := Int) (xs := ([])) (ys := (List.drop (Int.toNat k_j2) (List.take (Int.toNat ((gI a (v : Int)).length)) (gI a (v : Int))))) g60 (J := is 3) (S := is 3) (3, 0) rfl Try.underlying35 tp3_u (by decide) rfl rfl rfl Ow.nil r68 (by decide) (by first | omega | (simp; done) | (simp; omega)) ?_
        intro g69 w70 v71 ch72 o73
        replace o73 : Ow g69 (is 3) (is 3) w70 v71 (List.drop (Int.toNat k_j2) (List.take (Int.toNat ((gI a (v : Int)).length)) (gI a (v : Int)))) := o73
        have hs74 : Chg (inl [2, 3]) _ _ _ _ := ch72.l rfl
        refine ⟨hs74.same, ?_⟩
        refine h_one 11 rfl (by kernel_rfl) rfl ?_
        refine o_of_val (v := Value.pointer (some (eAddr a_v 1 (Int.toNat (v : Int))))) (e_indexAddr (α := List Int) (xs := a) (v := a_v) (i := (v : Int)) Try.underlying26 rfl rfl (r_a_v.chg hs74 (is_nl rfl)) rfl (by omega) (by omega)) ?_
        refine ⟨hs74.same, ?_⟩
        obtain ⟨v75, cel76, r77⟩ := sl_rowh (r := (v : Int)) r_a_v (by omega) (by omega)
        refine h_take (v := v75) 12 rfl (by kernel_rfl) (by kernel_rfl) rfl hs74.same (fun w' hw' => e_load1 tp35_u rfl (cel76 _ w' (is_nl rfl) hw')) ?_
        refine h_take (v := (subV v75 1 (Int.toNat 0) (Int.toNat k_j2))) 14 rfl (by kernel_rfl) (by kernel_rfl) rfl hs74.same (fun w' hw' => e_slice (α := Int) (xs := gI a (v : Int)) (v := v75) (l := 0) (h := k_j2) Try.underlying35 rfl rfl r77 (.inr ⟨rfl, rfl⟩) (.inl (congrArg some rfl)) (by omega) (by omega) (by omega)) ?_
        have r79 := sl_sub r77 (show Int.toNat 0 ≤ Int.toNat k_j2 by omega) (show Int.toNat k_j2 ≤ List.length _ by omega)
        refine h_one 15 rfl (by kernel_rfl) rfl ?_
        refine o_append (α := Int) (xs := (List.drop (Int.toNat k_j2) (List.take (Int.toNat ((gI a (v : Int)).length)) (gI a (v : Int))))) (ys := (List.drop (Int.toNat 0) (List.take (Int.toNat k_j2) (gI a (v : Int))))) g69 (J := is 3) (S := is 3) (3, 0) rfl Try.underlying35 tp3_u (by decide) rfl rfl rfl o73 (r79.chg hs74 (is_nl rfl)) (by decide) (by first | omega | (simp; done) | (simp; omega)) ?_
        intro g80 w81 v82 ch83 o84
        clear o73
        have hs85 := hs74.seq (ch83.l rfl)
        refine ⟨hs85.same, ?_⟩
        refine h_one 16 rfl (by kernel_rfl) rfl ?_
        have C86 : Chg (inl [3]) _ _ _ _ := (ch62.n).seq ((ch72.l rfl).seq (ch83.l rfl))
        replace o43 := o43.chg C86 (is_nl rfl)
        refine o_of_val (v := Value.pointer (some (eAddr v41 1 (Int.toNat (v : Int))))) (e_indexAddr (α := List Int) (xs := c) (v := v41) (i := (v : Int)) Try.underlying26 rfl rfl o43.sl rfl (by omega) (by omega)) ?_
        refine ⟨hs85.same, ?_⟩
        refine h_one 17 rfl (by kernel_rfl) rfl ?_
        refine o_store_fresh (r := (v : Int)) tp35_u rfl rfl o43 o84 rfl (by omega) (by omega) ?_
        intro g93 w90 ch91 o92
        clear o43
        clear o84
        have hs94 := hs85.seq (ch91.l2 rfl rfl)
        refine ⟨hs94.same, ?_⟩
        refine h_nil (by kernel_rfl) ?_
        have C95 : Chg (inl [2, 3]) _ _ _ _ := (ch62.n).seq ((ch72.l rfl).seq ((ch83.l rfl).seq (ch91.l2 rfl rfl)))
        replace hbase := hbase.chg C95 (is_nl rfl)
        replace r_g_v := r_g_v.chg ch62 (not_no _)
        replace r_b_v := r_b_v.chg ch62 (not_no _)
        replace r_turn_v := r_turn_v.chg ch62 (not_no _)
        replace bx5 := bx5.chg ch62 (not_no _)
        exact mid (g93) _ _ ⟨hbase, (by exact z61_1), (by exact z61_3), (by exact z61_4), (by exact z61_12), (by exact z61_13), (r_g_v.chg hs94 (is_nl rfl)), (r_a_v.chg hs94 (is_nl rfl)), (r_b_v.chg hs94 (is_nl rfl)), (r_turn_v.chg hs94 (is_nl rfl)), (bx5.chg hs94 (is_nl rfl)), o92⟩
       ·
        refine o_of_val (v := Value.pointer (some (eAddr a_v 1 (Int.toNat (v : Int))))) (e_indexAddr (α := List Int) (xs := a) (v := a_v) (i := (v : Int)) Try.underlying26 rfl rfl r_a_v rfl (by omega) (by omega)) ?_
        refine ⟨(Chg.refl _ _ _), ?_⟩
        obtain ⟨v96, cel97, r98⟩ := sl_rowh (r := (v : Int)) r_a_v (by omega) (by omega)
        refine h_take (v := v96) 12 rfl (by kernel_rfl) (by kernel_rfl) rfl (Chg.refl _ _ _) (fun w' hw' => e_load1 tp35_u rfl (cel97 _ w' (is_nl rfl) hw')) ?_
        refine h_take (v := (subV v96 1 (Int.toNat 0) (Int.toNat k_j2))) 14 rfl (by kernel_rfl) (by kernel_rfl) rfl (Chg.refl _ _ _) (fun w' hw' => e_slice (α := Int) (xs := gI a (v : Int)) (v := v96) (l := 0) (h := k_j2) Try.underlying35 rfl rfl r98 (.inr ⟨rfl, rfl⟩) (.inl (congrArg some rfl)) (by omega) (by omega) (by omega)) ?_
        have r100 := sl_sub r98 (show Int.toNat 0 ≤ Int.toNat k_j2 by omega) (show Int.toNat k_j2 ≤ List.length _ by omega)
        refine h_one 8 rfl (by kernel_rfl) rfl ?_
        refine o_append (α := Int) (xs := ([])) (ys := (List.drop (Int.toNat k_j2) (List.take (Int.toNat ((gI a (v : Int)).length)) (gI a (v : Int))))) g60 (J := is 3) (S := is 3) (3, 0) rfl Try.underlying35 tp3_u (by decide) rfl rfl rfl Ow.nil r68 (by decide) (by first | omega | (simp; done) | (simp; omega)) ?_
        intro g101 w102 v103 ch104 o105
        replace o105 : Ow g101 (is 3) (is 3) w102 v103 (List.drop (Int.toNat k_j2) (List.take (Int.toNat ((gI a (v : Int)).length)) (gI a (v : Int)))) := o105
        have hs106 : Chg (inl [2, 3]) _ _ _ _ := ch104.l rfl
        refine ⟨hs106.same, ?_⟩
        refine h_one 15 rfl (by kernel_rfl) rfl ?_
        refine o_append (α := Int) (xs := (List.drop (Int.toNat k_j2) (List.take (Int.toNat ((gI a (v : Int)).length)) (gI a (v : Int))))) (ys := (List.drop (Int.toNat 0) (List.take (Int.toNat k_j2) (gI a (v : Int))))) g101 (J := is 3) (S := is 3) (3, 0) rfl Try.underlying35 tp3_u (by decide) rfl rfl rfl o105 (r100.chg hs106 (is_nl rfl)) (by decide) (by first | omega | (simp; done) | (simp; omega)) ?_
        intro g107 w108 v109 ch110 o111
        clear o105
        have hs112 := hs106.seq (ch110.l rfl)
        refine ⟨hs112.same, ?_⟩
        refine h_one 16 rfl (by kernel_rfl) rfl ?_
        have C113 : Chg (inl [3]) _ _ _ _ := (ch62.n).seq ((ch104.l rfl).seq (ch110.l rfl))
        replace o43 := o43.chg C113 (is_nl rfl)
        refine o_of_val (v := Value.pointer (some (eAddr v41 1 (Int.toNat (v : Int))))) (e_indexAddr (α := List Int) (xs := c) (v := v41) (i := (v : Int)) Try.underlying26 rfl rfl o43.sl rfl (by omega) (by omega)) ?_
        refine ⟨hs112.same, ?_⟩
        refine h_one 17 rfl (by kernel_rfl) rfl ?_
        refine o_store_fresh (r := (v : Int)) tp35_u rfl rfl o43 o111 rfl (by omega) (by omega) ?_
        intro g120 w117 ch118 o119
        clear o43
        clear o111
        have hs121 := hs112.seq (ch118.l2 rfl rfl)
        refine ⟨hs121.same, ?_⟩
        refine h_nil (by kernel_rfl) ?_
        have C122 : Chg (inl [2, 3]) _ _ _ _ := (ch62.n).seq ((ch104.l rfl).seq ((ch110.l rfl).seq (ch118.l2 rfl rfl)))
        replace hbase := hbase.chg C122 (is_nl rfl)
        replace r_g_v := r_g_v.chg ch62 (not_no _)
        replace r_b_v := r_b_v.chg ch62 (not_no _)
        replace r_turn_v := r_turn_v.chg ch62 (not_no _)
        replace bx5 := bx5.chg ch62 (not_no _)
        exact mid (g120) _ _ ⟨hbase, (by exact z61_1), (by exact z61_3), (by exact z61_4), (by exact z61_12), (by exact z61_13), (r_g_v.chg hs121 (is_nl rfl)), (r_a_v.chg hs121 (is_nl rfl)), (r_b_v.chg hs121 (is_nl rfl)), (r_turn_v.chg hs121 (is_nl rfl)), (bx5.chg hs121 (is_nl rfl)), o119⟩
      ·
       replace r_a_v := r_a_v.chg ch62 (not_no _)
       refine o_of_val (v := Value.pointer (some (eAddr a_v 1 (Int.toNat (v : Int))))) (e_indexAddr (α := List Int) (xs := a) (v := a_v) (i := (v : Int)) Try.underlying26 rfl rfl r_a_v rfl (by omega) (by omega)) ?_
       refine ⟨(Chg.refl _ _ _), ?_⟩
       obtain ⟨v123, cel124, r125⟩ := sl_rowh (r := (v : Int)) r_a_v (by omega) (by omega)
       refine h_take (v := v123) 12 rfl (by kernel_rfl) (by kernel_rfl) rfl (Chg.refl _ _ _) (fun w' hw' => e_load1 tp35_u rfl (cel124 _ w' (is_nl rfl) hw')) ?_
       refine h_take (v := (subV v123 1 (Int.toNat 0) (Int.toNat k_j2))) 14 rfl (by kernel_rfl) (by kernel_rfl) rfl (Chg.refl _ _ _) (fun w' hw' => e_slice (α := Int) (xs := gI a (v : Int)) (v := v123) (l := 0) (h := k_j2) Try.underlying35 rfl rfl r125 (.inr ⟨rfl, rfl⟩) (.inl (congrArg some rfl)) (by omega) (by omega) (by omega)) ?_
       have r127 := sl_sub r125 (show Int.toNat 0 ≤ Int.toNat k_j2 by omega) (show Int.toNat k_j2 ≤ List.length _ by omega)
       refine h_one 4 rfl (by kernel_rfl) rfl ?_
       refine o_of_val (v := Value.pointer (some (eAddr a_v 1 (Int.toNat (v : Int))))) (e_indexAddr (α := List Int) (xs := a) (v := a_v) (i := (v : Int)) Try.underlying26 rfl rfl r_a_v rfl (by omega) (by omega)) ?_
       refine ⟨(Chg.refl _ _ _), ?_⟩
       obtain ⟨v128, cel129, r130⟩ := sl_rowh (r := (v : Int)) r_a_v (by omega) (by omega)
       refine h_take (v := v128) 5 rfl (by kernel_rfl) (by kernel_rfl) rfl (Chg.refl _ _ _) (fun w' hw' => e_load1 tp35_u rfl (cel129 _ w' (is_nl rfl) hw')) ?_
       refine h_take (v := (subV v128 1 (Int.toNat k_j2) (Int.toNat ((gI a (v : Int)).length)))) 7 rfl (by kernel_rfl) (by kernel_rfl) rfl (Chg.refl _ _ _) (fun w' hw' => e_slice (α := Int) (xs := gI a (v : Int)) (v := v128) (l := k_j2) (h := (gI a (v : Int)).length) Try.underlying35 rfl rfl r130 (.inl (congrArg some rfl)) (.inr ⟨rfl, rfl⟩) (by omega) (by omega) (by omega)) ?_
       have r132 := sl_sub r130 (show Int.toNat k_j2 ≤ Int.toNat ((gI a (v : Int)).length) by omega) (show Int.toNat ((gI a (v : Int)).length) ≤ List.length _ by omega)
       refine h_one 8 rfl (by kernel_rfl) rfl ?_
       refine o_append (α := Int) (xs := ([])) (ys := (List.drop (Int.toNat k_j2) (List.take (Int.toNat ((gI a (v : Int)).length)) (gI a (v : Int))))) g60 (J := is 3) (S := is 3) (3, 0) rfl Try.underlying35 tp3_u (by decide) rfl rfl rfl Ow.nil r132 (by decide) (by first | omega | (simp; done) | (simp; omega)) ?_
       intro g133 w134 v135 ch136 o137
       replace o137 : Ow g133 (is 3) (is 3) w134 v135 (List.drop (Int.toNat k_j2) (List.take (Int.toNat ((gI a (v : Int)).length)) (gI a (v : Int)))) := o137
       have hs138 : Chg (inl [2, 3]) _ _ _ _ := ch136.l rfl
       refine ⟨hs138.same, ?_⟩
       refine h_one 15 rfl (by kernel_rfl) rfl ?_
       refine o_append (α := Int) (xs := (List.drop (Int.toNat k_j2) (List.take (Int.toNat ((gI a (v : Int)).length)) (gI a (v : Int))))) (ys := (List.drop (Int.toNat 0) (List.take (Int.toNat k_j2) (gI a (v : Int))))) g133 (J := is 3) (S := is 3) (3, 0) rfl Try.underlying35 tp3_u (by decide) rfl rfl rfl o137 (r127.chg hs138 (is_nl rfl)) (by decide) (by first | omega | (simp; done) | (simp; omega)) ?_
       intro g139 w140 v141 ch142 o143
       clear o137
       have hs144 := hs138.seq (ch142.l rfl)
       refine ⟨hs144.same, ?_⟩
       refine h_one 16 rfl (by kernel_rfl) rfl ?_
       have C145 : Chg (inl [3]) _ _ _ _ := (ch62.n).seq ((ch136.l rfl).seq (ch142.l rfl))
       replace o43 := o43.chg C145 (is_nl rfl)
       refine o_of_val (v := Value.pointer (some (eAddr v41 1 (Int.toNat (v : Int))))) (e_indexAddr (α := List Int) (xs := c) (v := v41) (i := (v : Int)) Try.underlying26 rfl rfl o43.sl rfl (by omega) (by omega)) ?_
       refine ⟨hs144.same, ?_⟩
       refine h_one 17 rfl (by kernel_rfl) rfl ?_
       refine o_store_fresh (r := (v : Int)) tp35_u rfl rfl o43 o143 rfl (by omega) (by omega) ?_
       intro g152 w149 ch150 o151
       clear o43
       clear o143
       have hs153 := hs144.seq (ch150.l2 rfl rfl)
       refine ⟨hs153.same, ?_⟩
       refine h_nil (by kernel_rfl) ?_
       have C154 : Chg (inl [2, 3]) _ _ _ _ := (ch62.n).seq ((ch136.l rfl).seq ((ch142.l rfl).seq (ch150.l2 rfl rfl)))
       replace hbase := hbase.chg C154 (is_nl rfl)
       replace r_g_v := r_g_v.chg ch62 (not_no _)
       replace r_b_v := r_b_v.chg ch62 (not_no _)
       replace r_turn_v := r_turn_v.chg ch62 (not_no _)
       replace bx5 := bx5.chg ch62 (not_no _)
       exact mid (g152) _ _ ⟨hbase, (by exact z61_1), (by exact z61_3), (by exact z61_4), (by exact z61_12), (by exact z61_13), (r_g_v.chg hs153 (is_nl rfl)), (r_a_v.chg hs153 (is_nl rfl)), (r_b_v.chg hs153 (is_nl rfl)), (r_turn_v.chg hs153 (is_nl rfl)), (bx5.chg hs153 (is_nl rfl)), o151⟩
     clear r_g_v
     clear r_a_v
     clear r_b_v
     clear r_turn_v
     clear bx5
     clear o43
     clear hbase
     rintro g157 f155 w156 ⟨hbase, zs1, zs3, zs4, zs12, zs13, r_g_v, r_a_v, r_b_v, r_turn_v, bx5, o92⟩
     refine run_inBlock ?_
     refine run_region rfl ?_
     refine l_val (v := Value.int .i64 (v : Int)) rfl (e_move (by exact zs13)) ?_
     refine l_val (v := Value.int .i64 ((v : Int) + 1)) rfl (e_add (m := (v : Int)) (n := 1) rfl rfl (by omega)) ?_
     refine l_val (v := Value.int .i64 ((v : Int) + 1)) rfl (e_assign rfl) ?_
     refine l_nil ?_
     refine back17 (v + 1, (List.set c (Int.toNat (v : Int)) ((List.drop (Int.toNat k_j2) (List.take (Int.toNat ((gI a (v : Int)).length)) (gI a (v : Int)))) ++ (List.drop (Int.toNat 0) (List.take (Int.toNat k_j2) (gI a (v : Int)))))), g157) _ _ ⟨hbase, (by exact zs1), (by exact zs3), (by exact zs4), (by exact zs12), rfl, r_g_v, r_a_v, r_b_v, r_turn_v, bx5, o92, by omega, ?_⟩ ?_
     · show TurnsInv (List.set c (Int.toNat (v : Int)) ((List.drop (Int.toNat k_j2) (List.take (Int.toNat ((gI a (v : Int)).length)) (gI a (v : Int)))) ++ (List.drop (Int.toNat 0) (List.take (Int.toNat k_j2) (gI a (v : Int)))))) a (v + 1)
       exact hinv.nextk (by assumption)
     · show Int.toNat (((List.length a : Int) : Int) - ((v + 1) : Int)) < Int.toNat (((List.length a : Int) : Int) - (v : Int))
       omega
    refine run_cond_f rfl (decide_eq_false p17) ?_
    refine run_exit rfl ?_
    refine run_seq ?_
    refine run_region rfl ?_
    refine l_val (v := Value.agg (List.toArray [Value.int .i64 g.1, g_v])) rfl (e_load_bxN (ds := [Value.int .i64 g.1, g_v]) tp24_u (by exact zs4) bx5 rfl rfl) ?_
    refine l_val (v := a_v) rfl (e_move (by exact zs1)) ?_
    refine l_val (v := v41) rfl (e_move (by exact zs12)) ?_
    refine l_op rfl ?_
    refine o_call (v := Value.tuple (List.toArray [Value.bool ((sameR g a c).1), Value.int .i64 ((sameR g a c).2)])) (e_call (vals := [Value.agg (List.toArray [Value.int .i64 g.1, g_v]), a_v, v41]) Try.func31 bd31_u nm31_u rfl) (RSame_ok w45 g g_v (r_g_v).ro a a_v (r_a_v).ro c v41 (o43.sl).ro) ?_
    intro w158 hb159
    replace hb159 := chg_below hb159 g46
    refine l_val (v := Value.tuple (List.toArray [Value.bool ((sameR g a c).1), Value.int .i64 ((sameR g a c).2)])) rfl (e_move rfl) ?_
    refine l_val (v := Value.bool ((sameR g a c).1)) rfl (e_extract rfl rfl) ?_
    refine l_val (v := Value.int .i64 ((sameR g a c).2)) rfl (e_extract rfl rfl) ?_
    refine l_val (v := Value.bool ((sameR g a c).1)) rfl (e_assign rfl) ?_
    refine l_val (v := Value.int .i64 ((sameR g a c).2)) rfl (e_assign rfl) ?_
    refine l_nil ?_
    refine run_seq ?_
    clear bx5
    clear o43
    refine run_region rfl ?_
    refine l_val (v := Value.int .i64 ((sameR g a c).2)) rfl (e_move rfl) ?_
    refine l_val (v := Value.bool (decide (((sameR g a c).2) = 0))) rfl (e_eql (m := (sameR g a c).2) (n := 0) rfl rfl) ?_
    refine l_val (v := Value.bool (decide (((sameR g a c).2) = 0))) rfl (e_move rfl) ?_
    have q135 : ((sameR g a c).2) = 0 := by first | rfl | exact sameR_a p7 | (rw [sameR_na p7]; done) | exact sameR_x p7 (by assumption) | exact sameR_b p7 (by assumption) | (rw [turns_same hinv (by omega) hm hra]; done)
    refine l_val (v := Value.bool ((sameR g a c).1)) (want_y rfl rfl rfl (decide_eq_true q135)) (e_move rfl) ?_
    refine l_val (v := Value.bool ((sameR g a c).1)) rfl (e_pick_t rfl (decide_eq_true q135) rfl) ?_
    refine l_val (v := Value.bool ((sameR g a c).1)) rfl (e_assign rfl) ?_
    refine l_nil ?_
    refine run_ret (vs := [Value.bool ((sameR g a c).1)]) Try.func5 (.tmp rfl .nil) ?_
    -- return 1
    have e0 : (((sameR g a c).1) : Bool) = (true) := by
      first
        | rfl
        | (rw [turns_same hinv (by omega) hm hra]; done)
        | (exfalso; rw [sameR_na p7] at q53; cases q53; done)
        | (exfalso; simp_all; done)
    replace hbase := hbase.chg hb159 (not_no _)
    exact ⟨(congrArg (a₁ := ((sameR g a c).1)) (fun (z0 : Bool) => Ending.returned (Value.bool z0)) e0), hbase.below⟩
   refine run_cond_f rfl (decide_eq_false p7) ?_
   refine run_skip ?_
   refine run_seq ?_
   refine run_seq ?_
   refine run_mid [false, false, true, true, false, false, true, true] (σ := Cmap) (fun gq f w => Base w0 gq w ∧ f 1 = a_v ∧ f 3 = turn_v ∧ f 4 = Value.pointer (some ⟨b3, 0, none⟩) ∧ Sl gq (is 0) w g_v g.2 ∧ Sl gq (is 0) w a_v a ∧ Sl gq (is 0) w b_v b ∧ Sl gq (is 0) w turn_v turn ∧ Bx gq (is 1) w b3 [Value.int .i64 g.1, g_v] ∧ True) ?_ ?_
   ·
    intro mid_j3
    refine run_region rfl ?_
    refine l_val (v := Value.int .i64 ((sameR g a b).2)) rfl (e_move rfl) ?_
    refine l_val (v := Value.int .i64 (rmayR g a)) rfl (e_move rfl) ?_
    refine l_val (v := Value.bool (!(decide (((sameR g a b).2) = (rmayR g a))))) rfl (e_neq (m := (sameR g a b).2) (n := rmayR g a) rfl rfl) ?_
    refine l_val (v := Value.bool (!(decide (((sameR g a b).2) = (rmayR g a))))) rfl (e_move rfl) ?_
    have q51_160 : ((sameR g a b).2) = (rmayR g a) := by first | rfl | exact sameR_a p7 | (rw [sameR_na p7]; done) | exact sameR_x p7 (by assumption) | exact sameR_b p7 (by assumption) | (rw [turns_same hinv (by omega) hm hra]; done)
    refine l_val (v := Value.bool ((sameR g a b).1)) (want_y rfl rfl rfl (congrArg Bool.not (decide_eq_true q51_160))) (e_move rfl) ?_
    refine l_val (v := Value.bool ((sameR g a b).1)) (want_y rfl rfl rfl (congrArg Bool.not (decide_eq_true q51_160))) (e_move rfl) ?_
    by_cases q53 : ((sameR g a b).1) = true
    ·
     refine l_val (v := Value.int .i64 (rmayR g a)) (want_y rfl rfl rfl q53) (e_move rfl) ?_
     refine l_val (v := Value.bool (!(decide ((rmayR g a) = 0)))) (want_y rfl rfl rfl q53) (e_neq (m := rmayR g a) (n := 0) rfl rfl) ?_
     refine l_val (v := Value.bool (!(decide ((rmayR g a) = 0)))) (want_y rfl rfl rfl (congrArg Bool.not (decide_eq_true q51_160))) (e_pick_t rfl q53 rfl) ?_
     refine l_val (v := Value.bool (!(decide ((rmayR g a) = 0)))) rfl (e_pick_f rfl (congrArg Bool.not (decide_eq_true q51_160)) rfl) ?_
     refine l_nil ?_
     refine run_cond_t rfl (congrArg Bool.not (decide_eq_false p7)) ?_
     refine run_seq ?_
     clear bx5
     refine run_region rfl ?_
     refine l_val (v := Value.bool false) rfl (e_assign rfl) ?_
     refine l_nil ?_
     refine run_ret (vs := [Value.bool false]) Try.func5 (.tmp rfl .nil) ?_
     -- return 2
     have e0 : (false : Bool) = (true) := by
       first
         | rfl
         | (rw [turns_same hinv (by omega) hm hra]; done)
         | (exfalso; rw [sameR_na p7] at q53; cases q53; done)
         | (exfalso; simp_all; done)
     have C161 : Chg (inl []) _ _ _ _ := (ch2.n).seq ((hb7.n).seq ((hb9.n).seq ((hb12.n).seq ((hb16.n).seq (hb18.n)))))
     replace hbase := hbase.chg C161 (is_nl rfl)
     exact ⟨(congrArg (a₁ := false) (fun (z0 : Bool) => Ending.returned (Value.bool z0)) e0), hbase.below⟩
    refine l_skip (want_n rfl rfl rfl (Bool.eq_false_iff.2 q53)) ?_
    refine l_skip (want_n rfl rfl rfl (Bool.eq_false_iff.2 q53)) ?_
    refine l_val (v := Value.bool false) (want_y rfl rfl rfl (congrArg Bool.not (decide_eq_true q51_160))) (e_pick_f rfl (Bool.eq_false_iff.2 q53) rfl) ?_
    refine l_val (v := Value.bool false) rfl (e_pick_f rfl (congrArg Bool.not (decide_eq_true q51_160)) rfl) ?_
    refine l_nil ?_
    refine run_cond_f rfl rfl ?_
    refine run_skip ?_
    refine run_seq ?_
    refine run_seq ?_
    refine run_region rfl ?_
    refine l_val (v := Value.int .i64 (rmayR g a)) rfl (e_move rfl) ?_
    refine l_val (v := Value.bool (decide ((rmayR g a) = 0))) rfl (e_eql (m := rmayR g a) (n := 0) rfl rfl) ?_
    refine l_val (v := Value.bool (decide ((rmayR g a) = 0))) rfl (e_move rfl) ?_
    refine l_skip (want_n rfl rfl rfl (decide_eq_false p7)) ?_
    refine l_skip (want_n rfl rfl rfl (decide_eq_false p7)) ?_
    refine l_skip (want_n rfl rfl rfl (decide_eq_false p7)) ?_
    refine l_skip (want_n rfl rfl rfl (decide_eq_false p7)) ?_
    refine l_skip (want_n rfl rfl rfl (decide_eq_false p7)) ?_
    refine l_val (v := Value.bool false) rfl (e_pick_f rfl (decide_eq_false p7) rfl) ?_
    refine l_nil ?_
    refine run_cond_f rfl rfl ?_
    refine run_skip ?_
    refine run_seq ?_
    refine run_seq ?_
    have C162 : Chg (inl []) _ _ _ _ := (ch2.n).seq ((hb7.n).seq ((hb9.n).seq ((hb12.n).seq ((hb16.n).seq (hb18.n)))))
    replace hbase := hbase.chg C162 (is_nl rfl)
    replace r_g_v := r_g_v.chg hb18 (not_no _)
    replace r_a_v := r_a_v.chg hb18 (not_no _)
    replace r_b_v := (r_b_v.chg hb16 (not_no _)).chg hb18 (not_no _)
    replace r_turn_v := (r_turn_v.chg hb16 (not_no _)).chg hb18 (not_no _)
    replace bx5 := bx5.chg hb18 (not_no _)
    refine mid_j3 (g4) _ _ ⟨hbase, rfl, rfl, rfl, r_g_v, r_a_v, r_b_v, r_turn_v, bx5, ?_⟩
    trivial
   clear r_g_v
   clear r_a_v
   clear r_b_v
   clear r_turn_v
   clear bx5
   clear hbase
   rintro g165 f163 w164 ⟨hbase, z166_1, z166_3, z166_4, r_g_v, r_a_v, r_b_v, r_turn_v, bx5, hj_j3⟩
   refine run_region rfl ?_
   refine l_val (v := Value.agg (List.toArray [Value.int .i64 g.1, g_v])) rfl (e_load_bxN (ds := [Value.int .i64 g.1, g_v]) tp24_u (by exact z166_4) bx5 rfl rfl) ?_
   refine l_val (v := a_v) rfl (e_move (by exact z166_1)) ?_
   refine l_op rfl ?_
   refine o_call (v := Value.int .i64 (rmayR g a)) (e_call (vals := [Value.agg (List.toArray [Value.int .i64 g.1, g_v]), a_v]) Try.func32 bd32_u nm32_u rfl) (rRMay_ok w164 g g_v (r_g_v).ro a a_v (r_a_v).ro) ?_
   intro w167 hb168
   replace hb168 := chg_below hb168 g165
   refine l_val (v := Value.bool (!(decide ((rmayR g a) = 0)))) rfl (e_neq (m := rmayR g a) (n := 0) rfl rfl) ?_
   refine l_nil ?_
   refine run_cond_t rfl (congrArg Bool.not (decide_eq_false p7)) ?_
   refine run_seq ?_
   clear bx5
   refine run_region rfl ?_
   refine l_val (v := Value.bool true) rfl (e_assign rfl) ?_
   refine l_nil ?_
   refine run_ret (vs := [Value.bool true]) Try.func5 (.tmp rfl .nil) ?_
   -- return 3
   have e0 : (true : Bool) = (true) := by
     first
       | rfl
       | (rw [turns_same hinv (by omega) hm hra]; done)
       | (exfalso; rw [sameR_na p7] at q53; cases q53; done)
       | (exfalso; simp_all; done)
   replace hbase := hbase.chg hb168 (not_no _)
   exact ⟨(congrArg (a₁ := true) (fun (z0 : Bool) => Ending.returned (Value.bool z0)) e0), hbase.below⟩
  refine l_skip (want_n rfl rfl rfl (congrArg Bool.not (Bool.eq_false_iff.2 q28))) ?_
  refine l_skip (want_n rfl rfl rfl (congrArg Bool.not (Bool.eq_false_iff.2 q28))) ?_
  refine l_skip (want_n rfl rfl rfl (congrArg Bool.not (Bool.eq_false_iff.2 q28))) ?_
  refine l_val (v := Value.bool true) rfl (e_pick_t rfl (congrArg Bool.not (Bool.eq_false_iff.2 q28)) rfl) ?_
  refine l_nil ?_
  refine run_cond_t rfl rfl ?_
  refine run_seq ?_
  clear bx5
  refine run_region rfl ?_
  refine l_val (v := Value.bool true) rfl (e_assign rfl) ?_
  refine l_nil ?_
  refine run_ret (vs := [Value.bool true]) Try.func5 (.tmp rfl .nil) ?_
  -- return 4
  have e0 : (true : Bool) = (true) := by
    first
      | rfl
      | (rw [turns_same hinv (by omega) hm hra]; done)
      | (exfalso; rw [sameR_na p7] at q53; cases q53; done)
      | (exfalso; simp_all; done)
  have C169 : Chg (inl []) _ _ _ _ := (ch2.n).seq ((hb7.n).seq ((hb9.n).seq (hb12.n)))
  replace hbase := hbase.chg C169 (is_nl rfl)
  exact ⟨(congrArg (a₁ := true) (fun (z0 : Bool) => Ending.returned (Value.bool z0)) e0), hbase.below⟩
 refine l_skip (want_n rfl rfl rfl (congrArg Bool.not (Bool.eq_false_iff.2 q22))) ?_
 refine l_skip (want_n rfl rfl rfl (congrArg Bool.not (Bool.eq_false_iff.2 q22))) ?_
 refine l_skip (want_n rfl rfl rfl (congrArg Bool.not (Bool.eq_false_iff.2 q22))) ?_
 refine l_skip (want_n rfl rfl rfl (congrArg Bool.not (Bool.eq_false_iff.2 q22))) ?_
 refine l_val (v := Value.bool true) rfl (e_pick_t rfl (congrArg Bool.not (Bool.eq_false_iff.2 q22)) rfl) ?_
 refine l_val (v := Value.bool true) rfl (e_move rfl) ?_
 refine l_skip (want_n rfl rfl rfl rfl) ?_
 refine l_skip (want_n rfl rfl rfl rfl) ?_
 refine l_skip (want_n rfl rfl rfl rfl) ?_
 refine l_val (v := Value.bool true) rfl (e_pick_t rfl rfl rfl) ?_
 refine l_nil ?_
 refine run_cond_t rfl rfl ?_
 refine run_seq ?_
 clear bx5
 refine run_region rfl ?_
 refine l_val (v := Value.bool true) rfl (e_assign rfl) ?_
 refine l_nil ?_
 refine run_ret (vs := [Value.bool true]) Try.func5 (.tmp rfl .nil) ?_
 -- return 5
 have e0 : (true : Bool) = (true) := by
   first
     | rfl
     | (rw [turns_same hinv (by omega) hm hra]; done)
     | (exfalso; rw [sameR_na p7] at q53; cases q53; done)
     | (exfalso; simp_all; done)
 have C170 : Chg (inl []) _ _ _ _ := (ch2.n).seq ((hb7.n).seq (hb9.n))
 replace hbase := hbase.chg C170 (is_nl rfl)
 exact ⟨(congrArg (a₁ := true) (fun (z0 : Bool) => Ending.returned (Value.bool z0)) e0), hbase.below⟩
end TL
