import Derived.Test.YtklfjhklnlpdgaaTlGenA
import Derived.Test.YtklfjhklnlpdgaaTlGenB
import Derived.Test.YtklfjhklnlpdgaaTlGenC
import Derived.Test.YtklfjhklnlpdgaaTlGenD
import Derived.Test.YtklfjhklnlpdgaaTlGenE
import Derived.Test.YtklfjhklnlpdgaaProg
import Derived.Test.YtklfjhklnlpdgaaTlNet2
import Derived.Test.YtklfjhklnlpdgaaTlMark
import Derived.Test.YtklfjhklnlpdgaaTlDraw
import Derived.Test.YtklfjhklnlpdgaaTlMap
set_option linter.all false
set_option maxRecDepth 20000
namespace TL
open Go Go.Proofs
theorem mixed_t : Try.prog.follows .mixedOrders = true := by kernel_rfl
theorem tp3_t : Tp Try.prog 3 false 1 8 (.int .i64 0) := Tp.of (by kernel_rfl)
theorem tp24_t : Tp Try.prog 24 true 2 32 (.agg #[.int .i64 0, .slice none 0 0]) := Tp.of (by kernel_rfl)
theorem bd8_t : Try.f8.body.isNone = false := rfl
theorem nm8_t : (Try.f8.name == "runtime.NumGoroutine") = false := by decide +kernel
theorem bd9_t : Try.f9.body.isNone = false := rfl
theorem nm9_t : (Try.f9.name == "runtime.NumGoroutine") = false := by decide +kernel
theorem bd11_t : Try.f11.body.isNone = false := rfl
theorem nm11_t : (Try.f11.name == "runtime.NumGoroutine") = false := by decide +kernel
theorem bd14_t : Try.f14.body.isNone = false := rfl
theorem nm14_t : (Try.f14.name == "runtime.NumGoroutine") = false := by decide +kernel
theorem bd15_t : Try.f15.body.isNone = false := rfl
theorem nm15_t : (Try.f15.name == "runtime.NumGoroutine") = false := by decide +kernel
theorem bd16_t : Try.f16.body.isNone = false := rfl
theorem nm16_t : (Try.f16.name == "runtime.NumGoroutine") = false := by decide +kernel
theorem bd17_t : Try.f17.body.isNone = false := rfl
theorem nm17_t : (Try.f17.name == "runtime.NumGoroutine") = false := by decide +kernel
theorem bd18_t : Try.f18.body.isNone = false := rfl
theorem nm18_t : (Try.f18.name == "runtime.NumGoroutine") = false := by decide +kernel
theorem bd19_t : Try.f19.body.isNone = false := rfl
theorem nm19_t : (Try.f19.name == "runtime.NumGoroutine") = false := by decide +kernel
theorem bd20_t : Try.f20.body.isNone = false := rfl
theorem nm20_t : (Try.f20.name == "runtime.NumGoroutine") = false := by decide +kernel
theorem bd21_t : Try.f21.body.isNone = false := rfl
theorem nm21_t : (Try.f21.name == "runtime.NumGoroutine") = false := by decide +kernel
theorem bd22_t : Try.f22.body.isNone = false := rfl
theorem nm22_t : (Try.f22.name == "runtime.NumGoroutine") = false := by decide +kernel

set_option maxHeartbeats 8000000 in
theorem NetTwo_ok (w0 : World) (a : (Int) × (List ((Int) × (Int)))) (a_v : Value) (ha_v : Ro w0 a_v a.2) (b : (Int) × (List ((Int) × (Int)))) (b_v : Value) (hb_v : Ro w0 b_v b.2) (to : List Int) (to_v : Value) (hto_v : Ro w0 to_v to) :
    Calls Try.prog 4 #[Value.agg (List.toArray [Value.int .i64 a.1, a_v]), Value.agg (List.toArray [Value.int .i64 b.1, b_v]), to_v] w0 (fun ee w => ee = .returned (Value.bool true) ∧ RowKit.Below w0.heap.size w0 w) := by
  refine calls_of_run Try.func4 rfl (Nat.le_of_ble_eq_true rfl) ?_
  have hbase := Base.start w0
  have r_a_v := ha_v.sl
  have r_b_v := hb_v.sl
  have r_to_v := hto_v.sl
  refine run_seq ?_
  refine run_region rfl ?_
  refine l_op rfl ?_
  refine o_box c0 (is 1) (1, 0) rfl rfl ?_
  intro g4 w1 b3 ch2 bx5
  replace hbase := hbase.chg ch2 (not_no _)
  replace r_a_v := r_a_v.chg ch2 (not_no _)
  replace r_b_v := r_b_v.chg ch2 (not_no _)
  replace r_to_v := r_to_v.chg ch2 (not_no _)
  replace bx5 : Bx g4 (is 1) w1 b3 [Value.int .i64 a.1, a_v] := bx5
  refine l_op rfl ?_
  refine o_box g4 (is 2) (2, 0) rfl rfl ?_
  intro g9 w6 b8 ch7 bx10
  replace hbase := hbase.chg ch7 (not_no _)
  replace r_a_v := r_a_v.chg ch7 (not_no _)
  replace r_b_v := r_b_v.chg ch7 (not_no _)
  replace r_to_v := r_to_v.chg ch7 (not_no _)
  replace bx5 := bx5.chg ch7 (not_no _)
  replace bx10 : Bx g9 (is 2) w6 b8 [Value.int .i64 b.1, b_v] := bx10
  refine l_val (v := Value.bool false) rfl (e_assign rfl) ?_
  refine l_nil ?_
  refine run_seq ?_
  refine run_seq ?_
  refine run_region rfl ?_
  refine l_op rfl ?_
  refine o_call (v := Value.bool true) (e_call (vals := []) Try.func8 bd8_t nm8_t rfl) (begun_ok w6 ) ?_
  intro w11 hb12
  replace hb12 := chg_below hb12 g9
  replace hbase := hbase.chg hb12 (not_no _)
  replace r_a_v := r_a_v.chg hb12 (not_no _)
  replace r_b_v := r_b_v.chg hb12 (not_no _)
  replace r_to_v := r_to_v.chg hb12 (not_no _)
  replace bx5 := bx5.chg hb12 (not_no _)
  replace bx10 := bx10.chg hb12 (not_no _)
  refine l_val (v := Value.bool false) rfl (e_not (b := true) rfl) ?_
  refine l_nil ?_
  refine run_cond_f rfl rfl ?_
  refine run_skip ?_
  refine run_seq ?_
  refine run_seq ?_
  refine run_region rfl ?_
  refine l_val (v := Value.agg (List.toArray [Value.int .i64 a.1, a_v])) rfl (e_load_bxN (ds := [Value.int .i64 a.1, a_v]) tp24_t rfl bx5 rfl rfl) ?_
  refine l_op rfl ?_
  refine o_call (v := Value.bool (decide (a.2.length ≤ 300 ∧ (a.1 ≤ 300 ∨ ¬ MayP a)))) (e_call (vals := [Value.agg (List.toArray [Value.int .i64 a.1, a_v])]) Try.func14 bd14_t nm14_t rfl) (Light_ok w11 a a_v (r_a_v).ro) ?_
  intro w13 hb14
  replace hb14 := chg_below hb14 g9
  replace hbase := hbase.chg hb14 (not_no _)
  replace r_a_v := r_a_v.chg hb14 (not_no _)
  replace r_b_v := r_b_v.chg hb14 (not_no _)
  replace r_to_v := r_to_v.chg hb14 (not_no _)
  replace bx5 := bx5.chg hb14 (not_no _)
  replace bx10 := bx10.chg hb14 (not_no _)
  refine l_val (v := Value.bool (!(decide (a.2.length ≤ 300 ∧ (a.1 ≤ 300 ∨ ¬ MayP a))))) rfl (e_not (b := (decide (a.2.length ≤ 300 ∧ (a.1 ≤ 300 ∨ ¬ MayP a)))) rfl) ?_
  refine l_val (v := Value.bool (!(decide (a.2.length ≤ 300 ∧ (a.1 ≤ 300 ∨ ¬ MayP a))))) rfl (e_move rfl) ?_
  by_cases q22 : (decide (a.2.length ≤ 300 ∧ (a.1 ≤ 300 ∨ ¬ MayP a))) = true
  · skip
    have hla := (of_decide_eq_true q22).1
    refine l_val (v := Value.agg (List.toArray [Value.int .i64 b.1, b_v])) (want_y rfl rfl rfl (congrArg Bool.not q22)) (e_load_bxN (ds := [Value.int .i64 b.1, b_v]) tp24_t rfl bx10 rfl rfl) ?_
    refine l_op (want_y rfl rfl rfl (congrArg Bool.not q22)) ?_
    refine o_call (v := Value.bool (decide (b.2.length ≤ 300 ∧ (b.1 ≤ 300 ∨ ¬ MayP b)))) (e_call (vals := [Value.agg (List.toArray [Value.int .i64 b.1, b_v])]) Try.func14 bd14_t nm14_t rfl) (Light_ok w13 b b_v (r_b_v).ro) ?_
    intro w15 hb16
    replace hb16 := chg_below hb16 g9
    replace hbase := hbase.chg hb16 (not_no _)
    replace r_a_v := r_a_v.chg hb16 (not_no _)
    replace r_b_v := r_b_v.chg hb16 (not_no _)
    replace r_to_v := r_to_v.chg hb16 (not_no _)
    replace bx5 := bx5.chg hb16 (not_no _)
    replace bx10 := bx10.chg hb16 (not_no _)
    refine l_val (v := Value.bool (!(decide (b.2.length ≤ 300 ∧ (b.1 ≤ 300 ∨ ¬ MayP b))))) (want_y rfl rfl rfl (congrArg Bool.not q22)) (e_not (b := (decide (b.2.length ≤ 300 ∧ (b.1 ≤ 300 ∨ ¬ MayP b)))) rfl) ?_
    refine l_val (v := Value.bool (!(decide (b.2.length ≤ 300 ∧ (b.1 ≤ 300 ∨ ¬ MayP b))))) rfl (e_pick_f rfl (congrArg Bool.not q22) rfl) ?_
    refine l_val (v := Value.bool (!(decide (b.2.length ≤ 300 ∧ (b.1 ≤ 300 ∨ ¬ MayP b))))) rfl (e_move rfl) ?_
    by_cases q27 : (decide (b.2.length ≤ 300 ∧ (b.1 ≤ 300 ∨ ¬ MayP b))) = true
    · skip
      have hlb := (of_decide_eq_true q27).1
      refine l_val (v := to_v) (want_y rfl rfl rfl (congrArg Bool.not q27)) (e_move rfl) ?_
      refine l_op (want_y rfl rfl rfl (congrArg Bool.not q27)) ?_
      refine o_call (v := Value.bool (decide (to.length ≤ 400))) (e_call (vals := [to_v]) Try.func15 bd15_t nm15_t rfl) (few_ok w15 to to_v (r_to_v).ro) ?_
      intro w17 hb18
      replace hb18 := chg_below hb18 g9
      replace hbase := hbase.chg hb18 (not_no _)
      replace r_a_v := r_a_v.chg hb18 (not_no _)
      replace r_b_v := r_b_v.chg hb18 (not_no _)
      replace r_to_v := r_to_v.chg hb18 (not_no _)
      replace bx5 := bx5.chg hb18 (not_no _)
      replace bx10 := bx10.chg hb18 (not_no _)
      refine l_val (v := Value.bool (!(decide (to.length ≤ 400)))) (want_y rfl rfl rfl (congrArg Bool.not q27)) (e_not (b := (decide (to.length ≤ 400))) rfl) ?_
      refine l_val (v := Value.bool (!(decide (to.length ≤ 400)))) rfl (e_pick_f rfl (congrArg Bool.not q27) rfl) ?_
      refine l_nil ?_
      by_cases p3 : (decide (to.length ≤ 400)) = true
      · skip
        refine run_cond_f rfl (congrArg Bool.not p3) ?_
        refine run_skip ?_
        refine run_seq ?_
        refine region_mid (σ := Nat × Nat × Value × Value × Cmap) (fun ⟨b37, b42, v22, v30, gq⟩ f w => Base w0 gq w ∧ f 2 = to_v ∧ f 3 = Value.pointer (some ⟨b3, 0, none⟩) ∧ f 4 = Value.pointer (some ⟨b8, 0, none⟩) ∧ f 7 = Value.pointer (some ⟨b37, 0, none⟩) ∧ f 8 = Value.pointer (some ⟨b42, 0, none⟩) ∧ Sl gq (is 0) w a_v a.2 ∧ Sl gq (is 0) w b_v b.2 ∧ Sl gq (is 0) w to_v to ∧ Bx gq (is 1) w b3 [Value.int .i64 a.1, a_v] ∧ Bx gq (is 2) w b8 [Value.int .i64 b.1, b_v] ∧ Ow gq (is 3) (is 3) w (upV v22) (a.2 ++ [((-7 : Int), (7 : Int))]) ∧ Sl gq (is 3) w v22 a.2 ∧ Ow gq (is 4) (is 4) w (upV v30) (b.2 ++ [((-7 : Int), (7 : Int))]) ∧ Sl gq (is 4) w v30 b.2 ∧ Bx gq (is 5) w b37 [Value.int .i64 a.1, v22] ∧ Bx gq (is 6) w b42 [Value.int .i64 b.1, v30]) g9 [0] mixed_t ?_ ?_
        · intro mid
          intro w20 ch19
          replace hbase := hbase.chg ch19 (not_no _)
          replace r_a_v := r_a_v.chg ch19 (not_no _)
          replace r_b_v := r_b_v.chg ch19 (not_no _)
          replace r_to_v := r_to_v.chg ch19 (not_no _)
          replace bx5 := bx5.chg ch19 (not_no _)
          replace bx10 := bx10.chg ch19 (not_no _)
          refine x_held (v := Value.agg (List.toArray [Value.int .i64 a.1, a_v])) 0 [2, 4, 5] rfl (by kernel_rfl) (by kernel_rfl) rfl (fun w' hw' => e_load_bxN (ds := [Value.int .i64 a.1, a_v]) tp24_t rfl (bx5.bel hw') rfl rfl) ?_
          refine x_many 1 [2, 4, 5] (by kernel_rfl) ⟨x_of 1 rfl (by kernel_rfl) rfl ?_, x_of 2 rfl (by kernel_rfl) rfl ?_, x_of 4 rfl (by kernel_rfl) rfl ?_, x_of 5 rfl (by kernel_rfl) rfl ?_, trivial⟩
          · skip
            refine o_callx (e_call (vals := [Value.agg (List.toArray [Value.int .i64 a.1, a_v])]) Try.func16 bd16_t nm16_t rfl) (Twin_ok w20 a a_v (r_a_v).ro (by omega)) ?_
            rintro ⟨d22, v24⟩ w21 ⟨fr23, o25⟩
            obtain ⟨g26, hg26⟩ : ∃ q, q = glue w20.heap.size g9 d22 (fun n => if n = 1 then 3 else 0) := ⟨_, rfl⟩
            have ch27 := chg_glue fr23.below g9 d22 (fun n => if n = 1 then 3 else 0)
            rw [← hg26] at ch27
            replace hbase := hbase.chg ch27 (not_no _)
            replace r_a_v := r_a_v.chg ch27 (not_no _)
            replace r_b_v := r_b_v.chg ch27 (not_no _)
            replace r_to_v := r_to_v.chg ch27 (not_no _)
            replace bx5 := bx5.chg ch27 (not_no _)
            replace bx10 := bx10.chg ch27 (not_no _)
            replace o25 := o25.glue (γ := g9) (ren := (fun n => if n = 1 then 3 else 0)) (k := 3) fr23.col rfl rfl
            rw [← hg26] at o25
            have r28 := mark_sl o25.flat
            clear hg26
            refine x_many 2 [4, 5] (by kernel_rfl) ⟨x_of 2 rfl (by kernel_rfl) rfl ?_, x_of 4 rfl (by kernel_rfl) rfl ?_, x_of 5 rfl (by kernel_rfl) rfl ?_, trivial⟩
            · skip
              refine o_of_val (v := Value.agg (List.toArray [Value.int .i64 b.1, b_v])) (e_load_bxN (ds := [Value.int .i64 b.1, b_v]) tp24_t rfl bx10 rfl rfl) ?_
              refine x_many 3 [4, 5] (by kernel_rfl) ⟨x_of 3 rfl (by kernel_rfl) rfl ?_, x_of 4 rfl (by kernel_rfl) rfl ?_, x_of 5 rfl (by kernel_rfl) rfl ?_, trivial⟩
              · skip
                refine o_callx (e_call (vals := [Value.agg (List.toArray [Value.int .i64 b.1, b_v])]) Try.func16 bd16_t nm16_t rfl) (Twin_ok w21 b b_v (r_b_v).ro (by omega)) ?_
                rintro ⟨d30, v32⟩ w29 ⟨fr31, o33⟩
                obtain ⟨g34, hg34⟩ : ∃ q, q = glue w21.heap.size g26 d30 (fun n => if n = 1 then 4 else 0) := ⟨_, rfl⟩
                have ch35 := chg_glue fr31.below g26 d30 (fun n => if n = 1 then 4 else 0)
                rw [← hg34] at ch35
                replace hbase := hbase.chg ch35 (not_no _)
                replace r_a_v := r_a_v.chg ch35 (not_no _)
                replace r_b_v := r_b_v.chg ch35 (not_no _)
                replace r_to_v := r_to_v.chg ch35 (not_no _)
                replace bx5 := bx5.chg ch35 (not_no _)
                replace bx10 := bx10.chg ch35 (not_no _)
                replace o25 := o25.chg ch35 (not_no _) (not_no _)
                replace r28 := r28.chg ch35 (not_no _)
                replace o33 := o33.glue (γ := g26) (ren := (fun n => if n = 1 then 4 else 0)) (k := 4) fr31.col rfl rfl
                rw [← hg34] at o33
                have r36 := mark_sl o33.flat
                clear hg34
                refine x_two 4 5 rfl rfl (by kernel_rfl) rfl rfl ?_ ?_
                · skip
                  refine o_alloc g34 (is 5) (5, 0) rfl tp24_t ?_
                  intro g40 w37 b39 ch38 bx41
                  replace hbase := hbase.chg ch38 (not_no _)
                  replace r_a_v := r_a_v.chg ch38 (not_no _)
                  replace r_b_v := r_b_v.chg ch38 (not_no _)
                  replace r_to_v := r_to_v.chg ch38 (not_no _)
                  replace bx5 := bx5.chg ch38 (not_no _)
                  replace bx10 := bx10.chg ch38 (not_no _)
                  replace o25 := o25.chg ch38 (not_no _) (not_no _)
                  replace r28 := r28.chg ch38 (not_no _)
                  replace o33 := o33.chg ch38 (not_no _) (not_no _)
                  replace r36 := r36.chg ch38 (not_no _)
                  replace bx41 : Bx g40 (is 5) w37 b39 [Value.int .i64 0, Value.slice none 0 0] := bx41
                  refine x_one 5 rfl (by kernel_rfl) rfl ?_
                  refine o_alloc g40 (is 6) (6, 0) rfl tp24_t ?_
                  intro g45 w42 b44 ch43 bx46
                  replace hbase := hbase.chg ch43 (not_no _)
                  replace r_a_v := r_a_v.chg ch43 (not_no _)
                  replace r_b_v := r_b_v.chg ch43 (not_no _)
                  replace r_to_v := r_to_v.chg ch43 (not_no _)
                  replace bx5 := bx5.chg ch43 (not_no _)
                  replace bx10 := bx10.chg ch43 (not_no _)
                  replace o25 := o25.chg ch43 (not_no _) (not_no _)
                  replace r28 := r28.chg ch43 (not_no _)
                  replace o33 := o33.chg ch43 (not_no _) (not_no _)
                  replace r36 := r36.chg ch43 (not_no _)
                  replace bx41 := bx41.chg ch43 (not_no _)
                  replace bx46 : Bx g45 (is 6) w42 b44 [Value.int .i64 0, Value.slice none 0 0] := bx46
                  refine x_one 6 rfl (by kernel_rfl) rfl ?_
                  refine o_store_bx (cs' := [Value.int .i64 a.1, v24]) tp24_t rfl rfl bx41 rfl (Nat.le_of_ble_eq_true rfl) (AllOne.all (.cons rfl (.cons (sl_one r28) .nil))) rfl ?_
                  intro w47 ch48 bx49
                  replace hbase := hbase.chg ch48 (is_ne rfl)
                  replace r_a_v := r_a_v.chg ch48 (is_ne rfl)
                  replace r_b_v := r_b_v.chg ch48 (is_ne rfl)
                  replace r_to_v := r_to_v.chg ch48 (is_ne rfl)
                  replace bx5 := bx5.chg ch48 (is_ne rfl)
                  replace bx10 := bx10.chg ch48 (is_ne rfl)
                  replace o25 := o25.chg ch48 (is_ne rfl) (is_ne rfl)
                  replace r28 := r28.chg ch48 (is_ne rfl)
                  replace o33 := o33.chg ch48 (is_ne rfl) (is_ne rfl)
                  replace r36 := r36.chg ch48 (is_ne rfl)
                  replace bx46 := bx46.chg ch48 (is_ne rfl)
                  clear bx41
                  refine x_one 7 rfl (by kernel_rfl) rfl ?_
                  refine o_store_bx (cs' := [Value.int .i64 b.1, v32]) tp24_t rfl rfl bx46 rfl (Nat.le_of_ble_eq_true rfl) (AllOne.all (.cons rfl (.cons (sl_one r36) .nil))) rfl ?_
                  intro w50 ch51 bx52
                  replace hbase := hbase.chg ch51 (is_ne rfl)
                  replace r_a_v := r_a_v.chg ch51 (is_ne rfl)
                  replace r_b_v := r_b_v.chg ch51 (is_ne rfl)
                  replace r_to_v := r_to_v.chg ch51 (is_ne rfl)
                  replace bx5 := bx5.chg ch51 (is_ne rfl)
                  replace bx10 := bx10.chg ch51 (is_ne rfl)
                  replace o25 := o25.chg ch51 (is_ne rfl) (is_ne rfl)
                  replace r28 := r28.chg ch51 (is_ne rfl)
                  replace o33 := o33.chg ch51 (is_ne rfl) (is_ne rfl)
                  replace r36 := r36.chg ch51 (is_ne rfl)
                  replace bx49 := bx49.chg ch51 (is_ne rfl)
                  clear bx46
                  refine x_nil (by kernel_rfl) ?_
                  exact mid (b39, b44, v24, v32, g45) _ _ ⟨hbase, rfl, rfl, rfl, rfl, rfl, r_a_v, r_b_v, r_to_v, bx5, bx10, o25, r28, o33, r36, bx49, bx52⟩
                · skip
                  refine o_alloc g34 (is 6) (6, 0) rfl tp24_t ?_
                  intro g56 w53 b55 ch54 bx57
                  replace hbase := hbase.chg ch54 (not_no _)
                  replace r_a_v := r_a_v.chg ch54 (not_no _)
                  replace r_b_v := r_b_v.chg ch54 (not_no _)
                  replace r_to_v := r_to_v.chg ch54 (not_no _)
                  replace bx5 := bx5.chg ch54 (not_no _)
                  replace bx10 := bx10.chg ch54 (not_no _)
                  replace o25 := o25.chg ch54 (not_no _) (not_no _)
                  replace r28 := r28.chg ch54 (not_no _)
                  replace o33 := o33.chg ch54 (not_no _) (not_no _)
                  replace r36 := r36.chg ch54 (not_no _)
                  replace bx57 : Bx g56 (is 6) w53 b55 [Value.int .i64 0, Value.slice none 0 0] := bx57
                  refine x_one 4 rfl (by kernel_rfl) rfl ?_
                  refine o_alloc g56 (is 5) (5, 0) rfl tp24_t ?_
                  intro g61 w58 b60 ch59 bx62
                  replace hbase := hbase.chg ch59 (not_no _)
                  replace r_a_v := r_a_v.chg ch59 (not_no _)
                  replace r_b_v := r_b_v.chg ch59 (not_no _)
                  replace r_to_v := r_to_v.chg ch59 (not_no _)
                  replace bx5 := bx5.chg ch59 (not_no _)
                  replace bx10 := bx10.chg ch59 (not_no _)
                  replace o25 := o25.chg ch59 (not_no _) (not_no _)
                  replace r28 := r28.chg ch59 (not_no _)
                  replace o33 := o33.chg ch59 (not_no _) (not_no _)
                  replace r36 := r36.chg ch59 (not_no _)
                  replace bx57 := bx57.chg ch59 (not_no _)
                  replace bx62 : Bx g61 (is 5) w58 b60 [Value.int .i64 0, Value.slice none 0 0] := bx62
                  refine x_one 6 rfl (by kernel_rfl) rfl ?_
                  refine o_store_bx (cs' := [Value.int .i64 a.1, v24]) tp24_t rfl rfl bx62 rfl (Nat.le_of_ble_eq_true rfl) (AllOne.all (.cons rfl (.cons (sl_one r28) .nil))) rfl ?_
                  intro w63 ch64 bx65
                  replace hbase := hbase.chg ch64 (is_ne rfl)
                  replace r_a_v := r_a_v.chg ch64 (is_ne rfl)
                  replace r_b_v := r_b_v.chg ch64 (is_ne rfl)
                  replace r_to_v := r_to_v.chg ch64 (is_ne rfl)
                  replace bx5 := bx5.chg ch64 (is_ne rfl)
                  replace bx10 := bx10.chg ch64 (is_ne rfl)
                  replace o25 := o25.chg ch64 (is_ne rfl) (is_ne rfl)
                  replace r28 := r28.chg ch64 (is_ne rfl)
                  replace o33 := o33.chg ch64 (is_ne rfl) (is_ne rfl)
                  replace r36 := r36.chg ch64 (is_ne rfl)
                  replace bx57 := bx57.chg ch64 (is_ne rfl)
                  clear bx62
                  refine x_one 7 rfl (by kernel_rfl) rfl ?_
                  refine o_store_bx (cs' := [Value.int .i64 b.1, v32]) tp24_t rfl rfl bx57 rfl (Nat.le_of_ble_eq_true rfl) (AllOne.all (.cons rfl (.cons (sl_one r36) .nil))) rfl ?_
                  intro w66 ch67 bx68
                  replace hbase := hbase.chg ch67 (is_ne rfl)
                  replace r_a_v := r_a_v.chg ch67 (is_ne rfl)
                  replace r_b_v := r_b_v.chg ch67 (is_ne rfl)
                  replace r_to_v := r_to_v.chg ch67 (is_ne rfl)
                  replace bx5 := bx5.chg ch67 (is_ne rfl)
                  replace bx10 := bx10.chg ch67 (is_ne rfl)
                  replace o25 := o25.chg ch67 (is_ne rfl) (is_ne rfl)
                  replace r28 := r28.chg ch67 (is_ne rfl)
                  replace o33 := o33.chg ch67 (is_ne rfl) (is_ne rfl)
                  replace r36 := r36.chg ch67 (is_ne rfl)
                  replace bx65 := bx65.chg ch67 (is_ne rfl)
                  clear bx57
                  refine x_nil (by kernel_rfl) ?_
                  exact mid (b60, b55, v24, v32, g61) _ _ ⟨hbase, rfl, rfl, rfl, rfl, rfl, r_a_v, r_b_v, r_to_v, bx5, bx10, o25, r28, o33, r36, bx65, bx68⟩
              · skip
                refine o_alloc g26 (is 5) (5, 0) rfl tp24_t ?_
                intro g72 w69 b71 ch70 bx73
                replace hbase := hbase.chg ch70 (not_no _)
                replace r_a_v := r_a_v.chg ch70 (not_no _)
                replace r_b_v := r_b_v.chg ch70 (not_no _)
                replace r_to_v := r_to_v.chg ch70 (not_no _)
                replace bx5 := bx5.chg ch70 (not_no _)
                replace bx10 := bx10.chg ch70 (not_no _)
                replace o25 := o25.chg ch70 (not_no _) (not_no _)
                replace r28 := r28.chg ch70 (not_no _)
                replace bx73 : Bx g72 (is 5) w69 b71 [Value.int .i64 0, Value.slice none 0 0] := bx73
                refine x_two 3 5 rfl rfl (by kernel_rfl) rfl rfl ?_ ?_
                · skip
                  refine o_callx (e_call (vals := [Value.agg (List.toArray [Value.int .i64 b.1, b_v])]) Try.func16 bd16_t nm16_t rfl) (Twin_ok w69 b b_v (r_b_v).ro (by omega)) ?_
                  rintro ⟨d75, v77⟩ w74 ⟨fr76, o78⟩
                  obtain ⟨g79, hg79⟩ : ∃ q, q = glue w69.heap.size g72 d75 (fun n => if n = 1 then 4 else 0) := ⟨_, rfl⟩
                  have ch80 := chg_glue fr76.below g72 d75 (fun n => if n = 1 then 4 else 0)
                  rw [← hg79] at ch80
                  replace hbase := hbase.chg ch80 (not_no _)
                  replace r_a_v := r_a_v.chg ch80 (not_no _)
                  replace r_b_v := r_b_v.chg ch80 (not_no _)
                  replace r_to_v := r_to_v.chg ch80 (not_no _)
                  replace bx5 := bx5.chg ch80 (not_no _)
                  replace bx10 := bx10.chg ch80 (not_no _)
                  replace o25 := o25.chg ch80 (not_no _) (not_no _)
                  replace r28 := r28.chg ch80 (not_no _)
                  replace bx73 := bx73.chg ch80 (not_no _)
                  replace o78 := o78.glue (γ := g72) (ren := (fun n => if n = 1 then 4 else 0)) (k := 4) fr76.col rfl rfl
                  rw [← hg79] at o78
                  have r81 := mark_sl o78.flat
                  clear hg79
                  refine x_one 5 rfl (by kernel_rfl) rfl ?_
                  refine o_alloc g79 (is 6) (6, 0) rfl tp24_t ?_
                  intro g85 w82 b84 ch83 bx86
                  replace hbase := hbase.chg ch83 (not_no _)
                  replace r_a_v := r_a_v.chg ch83 (not_no _)
                  replace r_b_v := r_b_v.chg ch83 (not_no _)
                  replace r_to_v := r_to_v.chg ch83 (not_no _)
                  replace bx5 := bx5.chg ch83 (not_no _)
                  replace bx10 := bx10.chg ch83 (not_no _)
                  replace o25 := o25.chg ch83 (not_no _) (not_no _)
                  replace r28 := r28.chg ch83 (not_no _)
                  replace bx73 := bx73.chg ch83 (not_no _)
                  replace o78 := o78.chg ch83 (not_no _) (not_no _)
                  replace r81 := r81.chg ch83 (not_no _)
                  replace bx86 : Bx g85 (is 6) w82 b84 [Value.int .i64 0, Value.slice none 0 0] := bx86
                  refine x_one 6 rfl (by kernel_rfl) rfl ?_
                  refine o_store_bx (cs' := [Value.int .i64 a.1, v24]) tp24_t rfl rfl bx73 rfl (Nat.le_of_ble_eq_true rfl) (AllOne.all (.cons rfl (.cons (sl_one r28) .nil))) rfl ?_
                  intro w87 ch88 bx89
                  replace hbase := hbase.chg ch88 (is_ne rfl)
                  replace r_a_v := r_a_v.chg ch88 (is_ne rfl)
                  replace r_b_v := r_b_v.chg ch88 (is_ne rfl)
                  replace r_to_v := r_to_v.chg ch88 (is_ne rfl)
                  replace bx5 := bx5.chg ch88 (is_ne rfl)
                  replace bx10 := bx10.chg ch88 (is_ne rfl)
                  replace o25 := o25.chg ch88 (is_ne rfl) (is_ne rfl)
                  replace r28 := r28.chg ch88 (is_ne rfl)
                  replace o78 := o78.chg ch88 (is_ne rfl) (is_ne rfl)
                  replace r81 := r81.chg ch88 (is_ne rfl)
                  replace bx86 := bx86.chg ch88 (is_ne rfl)
                  clear bx73
                  refine x_one 7 rfl (by kernel_rfl) rfl ?_
                  refine o_store_bx (cs' := [Value.int .i64 b.1, v77]) tp24_t rfl rfl bx86 rfl (Nat.le_of_ble_eq_true rfl) (AllOne.all (.cons rfl (.cons (sl_one r81) .nil))) rfl ?_
                  intro w90 ch91 bx92
                  replace hbase := hbase.chg ch91 (is_ne rfl)
                  replace r_a_v := r_a_v.chg ch91 (is_ne rfl)
                  replace r_b_v := r_b_v.chg ch91 (is_ne rfl)
                  replace r_to_v := r_to_v.chg ch91 (is_ne rfl)
                  replace bx5 := bx5.chg ch91 (is_ne rfl)
                  replace bx10 := bx10.chg ch91 (is_ne rfl)
                  replace o25 := o25.chg ch91 (is_ne rfl) (is_ne rfl)
                  replace r28 := r28.chg ch91 (is_ne rfl)
                  replace o78 := o78.chg ch91 (is_ne rfl) (is_ne rfl)
                  replace r81 := r81.chg ch91 (is_ne rfl)
                  replace bx89 := bx89.chg ch91 (is_ne rfl)
                  clear bx86
                  refine x_nil (by kernel_rfl) ?_
                  exact mid (b71, b84, v24, v77, g85) _ _ ⟨hbase, rfl, rfl, rfl, rfl, rfl, r_a_v, r_b_v, r_to_v, bx5, bx10, o25, r28, o78, r81, bx89, bx92⟩
                · skip
                  refine o_alloc g72 (is 6) (6, 0) rfl tp24_t ?_
                  intro g96 w93 b95 ch94 bx97
                  replace hbase := hbase.chg ch94 (not_no _)
                  replace r_a_v := r_a_v.chg ch94 (not_no _)
                  replace r_b_v := r_b_v.chg ch94 (not_no _)
                  replace r_to_v := r_to_v.chg ch94 (not_no _)
                  replace bx5 := bx5.chg ch94 (not_no _)
                  replace bx10 := bx10.chg ch94 (not_no _)
                  replace o25 := o25.chg ch94 (not_no _) (not_no _)
                  replace r28 := r28.chg ch94 (not_no _)
                  replace bx73 := bx73.chg ch94 (not_no _)
                  replace bx97 : Bx g96 (is 6) w93 b95 [Value.int .i64 0, Value.slice none 0 0] := bx97
                  refine x_one 3 rfl (by kernel_rfl) rfl ?_
                  refine o_callx (e_call (vals := [Value.agg (List.toArray [Value.int .i64 b.1, b_v])]) Try.func16 bd16_t nm16_t rfl) (Twin_ok w93 b b_v (r_b_v).ro (by omega)) ?_
                  rintro ⟨d99, v101⟩ w98 ⟨fr100, o102⟩
                  obtain ⟨g103, hg103⟩ : ∃ q, q = glue w93.heap.size g96 d99 (fun n => if n = 1 then 4 else 0) := ⟨_, rfl⟩
                  have ch104 := chg_glue fr100.below g96 d99 (fun n => if n = 1 then 4 else 0)
                  rw [← hg103] at ch104
                  replace hbase := hbase.chg ch104 (not_no _)
                  replace r_a_v := r_a_v.chg ch104 (not_no _)
                  replace r_b_v := r_b_v.chg ch104 (not_no _)
                  replace r_to_v := r_to_v.chg ch104 (not_no _)
                  replace bx5 := bx5.chg ch104 (not_no _)
                  replace bx10 := bx10.chg ch104 (not_no _)
                  replace o25 := o25.chg ch104 (not_no _) (not_no _)
                  replace r28 := r28.chg ch104 (not_no _)
                  replace bx73 := bx73.chg ch104 (not_no _)
                  replace bx97 := bx97.chg ch104 (not_no _)
                  replace o102 := o102.glue (γ := g96) (ren := (fun n => if n = 1 then 4 else 0)) (k := 4) fr100.col rfl rfl
                  rw [← hg103] at o102
                  have r105 := mark_sl o102.flat
                  clear hg103
                  refine x_one 6 rfl (by kernel_rfl) rfl ?_
                  refine o_store_bx (cs' := [Value.int .i64 a.1, v24]) tp24_t rfl rfl bx73 rfl (Nat.le_of_ble_eq_true rfl) (AllOne.all (.cons rfl (.cons (sl_one r28) .nil))) rfl ?_
                  intro w106 ch107 bx108
                  replace hbase := hbase.chg ch107 (is_ne rfl)
                  replace r_a_v := r_a_v.chg ch107 (is_ne rfl)
                  replace r_b_v := r_b_v.chg ch107 (is_ne rfl)
                  replace r_to_v := r_to_v.chg ch107 (is_ne rfl)
                  replace bx5 := bx5.chg ch107 (is_ne rfl)
                  replace bx10 := bx10.chg ch107 (is_ne rfl)
                  replace o25 := o25.chg ch107 (is_ne rfl) (is_ne rfl)
                  replace r28 := r28.chg ch107 (is_ne rfl)
                  replace bx97 := bx97.chg ch107 (is_ne rfl)
                  replace o102 := o102.chg ch107 (is_ne rfl) (is_ne rfl)
                  replace r105 := r105.chg ch107 (is_ne rfl)
                  clear bx73
                  refine x_one 7 rfl (by kernel_rfl) rfl ?_
                  refine o_store_bx (cs' := [Value.int .i64 b.1, v101]) tp24_t rfl rfl bx97 rfl (Nat.le_of_ble_eq_true rfl) (AllOne.all (.cons rfl (.cons (sl_one r105) .nil))) rfl ?_
                  intro w109 ch110 bx111
                  replace hbase := hbase.chg ch110 (is_ne rfl)
                  replace r_a_v := r_a_v.chg ch110 (is_ne rfl)
                  replace r_b_v := r_b_v.chg ch110 (is_ne rfl)
                  replace r_to_v := r_to_v.chg ch110 (is_ne rfl)
                  replace bx5 := bx5.chg ch110 (is_ne rfl)
                  replace bx10 := bx10.chg ch110 (is_ne rfl)
                  replace o25 := o25.chg ch110 (is_ne rfl) (is_ne rfl)
                  replace r28 := r28.chg ch110 (is_ne rfl)
                  replace o102 := o102.chg ch110 (is_ne rfl) (is_ne rfl)
                  replace r105 := r105.chg ch110 (is_ne rfl)
                  replace bx108 := bx108.chg ch110 (is_ne rfl)
                  clear bx97
                  refine x_nil (by kernel_rfl) ?_
                  exact mid (b71, b95, v24, v101, g103) _ _ ⟨hbase, rfl, rfl, rfl, rfl, rfl, r_a_v, r_b_v, r_to_v, bx5, bx10, o25, r28, o102, r105, bx108, bx111⟩
              · skip
                refine o_alloc g26 (is 6) (6, 0) rfl tp24_t ?_
                intro g115 w112 b114 ch113 bx116
                replace hbase := hbase.chg ch113 (not_no _)
                replace r_a_v := r_a_v.chg ch113 (not_no _)
                replace r_b_v := r_b_v.chg ch113 (not_no _)
                replace r_to_v := r_to_v.chg ch113 (not_no _)
                replace bx5 := bx5.chg ch113 (not_no _)
                replace bx10 := bx10.chg ch113 (not_no _)
                replace o25 := o25.chg ch113 (not_no _) (not_no _)
                replace r28 := r28.chg ch113 (not_no _)
                replace bx116 : Bx g115 (is 6) w112 b114 [Value.int .i64 0, Value.slice none 0 0] := bx116
                refine x_two 3 4 rfl rfl (by kernel_rfl) rfl rfl ?_ ?_
                · skip
                  refine o_callx (e_call (vals := [Value.agg (List.toArray [Value.int .i64 b.1, b_v])]) Try.func16 bd16_t nm16_t rfl) (Twin_ok w112 b b_v (r_b_v).ro (by omega)) ?_
                  rintro ⟨d118, v120⟩ w117 ⟨fr119, o121⟩
                  obtain ⟨g122, hg122⟩ : ∃ q, q = glue w112.heap.size g115 d118 (fun n => if n = 1 then 4 else 0) := ⟨_, rfl⟩
                  have ch123 := chg_glue fr119.below g115 d118 (fun n => if n = 1 then 4 else 0)
                  rw [← hg122] at ch123
                  replace hbase := hbase.chg ch123 (not_no _)
                  replace r_a_v := r_a_v.chg ch123 (not_no _)
                  replace r_b_v := r_b_v.chg ch123 (not_no _)
                  replace r_to_v := r_to_v.chg ch123 (not_no _)
                  replace bx5 := bx5.chg ch123 (not_no _)
                  replace bx10 := bx10.chg ch123 (not_no _)
                  replace o25 := o25.chg ch123 (not_no _) (not_no _)
                  replace r28 := r28.chg ch123 (not_no _)
                  replace bx116 := bx116.chg ch123 (not_no _)
                  replace o121 := o121.glue (γ := g115) (ren := (fun n => if n = 1 then 4 else 0)) (k := 4) fr119.col rfl rfl
                  rw [← hg122] at o121
                  have r124 := mark_sl o121.flat
                  clear hg122
                  refine x_one 4 rfl (by kernel_rfl) rfl ?_
                  refine o_alloc g122 (is 5) (5, 0) rfl tp24_t ?_
                  intro g128 w125 b127 ch126 bx129
                  replace hbase := hbase.chg ch126 (not_no _)
                  replace r_a_v := r_a_v.chg ch126 (not_no _)
                  replace r_b_v := r_b_v.chg ch126 (not_no _)
                  replace r_to_v := r_to_v.chg ch126 (not_no _)
                  replace bx5 := bx5.chg ch126 (not_no _)
                  replace bx10 := bx10.chg ch126 (not_no _)
                  replace o25 := o25.chg ch126 (not_no _) (not_no _)
                  replace r28 := r28.chg ch126 (not_no _)
                  replace bx116 := bx116.chg ch126 (not_no _)
                  replace o121 := o121.chg ch126 (not_no _) (not_no _)
                  replace r124 := r124.chg ch126 (not_no _)
                  replace bx129 : Bx g128 (is 5) w125 b127 [Value.int .i64 0, Value.slice none 0 0] := bx129
                  refine x_one 6 rfl (by kernel_rfl) rfl ?_
                  refine o_store_bx (cs' := [Value.int .i64 a.1, v24]) tp24_t rfl rfl bx129 rfl (Nat.le_of_ble_eq_true rfl) (AllOne.all (.cons rfl (.cons (sl_one r28) .nil))) rfl ?_
                  intro w130 ch131 bx132
                  replace hbase := hbase.chg ch131 (is_ne rfl)
                  replace r_a_v := r_a_v.chg ch131 (is_ne rfl)
                  replace r_b_v := r_b_v.chg ch131 (is_ne rfl)
                  replace r_to_v := r_to_v.chg ch131 (is_ne rfl)
                  replace bx5 := bx5.chg ch131 (is_ne rfl)
                  replace bx10 := bx10.chg ch131 (is_ne rfl)
                  replace o25 := o25.chg ch131 (is_ne rfl) (is_ne rfl)
                  replace r28 := r28.chg ch131 (is_ne rfl)
                  replace bx116 := bx116.chg ch131 (is_ne rfl)
                  replace o121 := o121.chg ch131 (is_ne rfl) (is_ne rfl)
                  replace r124 := r124.chg ch131 (is_ne rfl)
                  clear bx129
                  refine x_one 7 rfl (by kernel_rfl) rfl ?_
                  refine o_store_bx (cs' := [Value.int .i64 b.1, v120]) tp24_t rfl rfl bx116 rfl (Nat.le_of_ble_eq_true rfl) (AllOne.all (.cons rfl (.cons (sl_one r124) .nil))) rfl ?_
                  intro w133 ch134 bx135
                  replace hbase := hbase.chg ch134 (is_ne rfl)
                  replace r_a_v := r_a_v.chg ch134 (is_ne rfl)
                  replace r_b_v := r_b_v.chg ch134 (is_ne rfl)
                  replace r_to_v := r_to_v.chg ch134 (is_ne rfl)
                  replace bx5 := bx5.chg ch134 (is_ne rfl)
                  replace bx10 := bx10.chg ch134 (is_ne rfl)
                  replace o25 := o25.chg ch134 (is_ne rfl) (is_ne rfl)
                  replace r28 := r28.chg ch134 (is_ne rfl)
                  replace o121 := o121.chg ch134 (is_ne rfl) (is_ne rfl)
                  replace r124 := r124.chg ch134 (is_ne rfl)
                  replace bx132 := bx132.chg ch134 (is_ne rfl)
                  clear bx116
                  refine x_nil (by kernel_rfl) ?_
                  exact mid (b127, b114, v24, v120, g128) _ _ ⟨hbase, rfl, rfl, rfl, rfl, rfl, r_a_v, r_b_v, r_to_v, bx5, bx10, o25, r28, o121, r124, bx132, bx135⟩
                · skip
                  refine o_alloc g115 (is 5) (5, 0) rfl tp24_t ?_
                  intro g139 w136 b138 ch137 bx140
                  replace hbase := hbase.chg ch137 (not_no _)
                  replace r_a_v := r_a_v.chg ch137 (not_no _)
                  replace r_b_v := r_b_v.chg ch137 (not_no _)
                  replace r_to_v := r_to_v.chg ch137 (not_no _)
                  replace bx5 := bx5.chg ch137 (not_no _)
                  replace bx10 := bx10.chg ch137 (not_no _)
                  replace o25 := o25.chg ch137 (not_no _) (not_no _)
                  replace r28 := r28.chg ch137 (not_no _)
                  replace bx116 := bx116.chg ch137 (not_no _)
                  replace bx140 : Bx g139 (is 5) w136 b138 [Value.int .i64 0, Value.slice none 0 0] := bx140
                  refine x_one 3 rfl (by kernel_rfl) rfl ?_
                  refine o_callx (e_call (vals := [Value.agg (List.toArray [Value.int .i64 b.1, b_v])]) Try.func16 bd16_t nm16_t rfl) (Twin_ok w136 b b_v (r_b_v).ro (by omega)) ?_
                  rintro ⟨d142, v144⟩ w141 ⟨fr143, o145⟩
                  obtain ⟨g146, hg146⟩ : ∃ q, q = glue w136.heap.size g139 d142 (fun n => if n = 1 then 4 else 0) := ⟨_, rfl⟩
                  have ch147 := chg_glue fr143.below g139 d142 (fun n => if n = 1 then 4 else 0)
                  rw [← hg146] at ch147
                  replace hbase := hbase.chg ch147 (not_no _)
                  replace r_a_v := r_a_v.chg ch147 (not_no _)
                  replace r_b_v := r_b_v.chg ch147 (not_no _)
                  replace r_to_v := r_to_v.chg ch147 (not_no _)
                  replace bx5 := bx5.chg ch147 (not_no _)
                  replace bx10 := bx10.chg ch147 (not_no _)
                  replace o25 := o25.chg ch147 (not_no _) (not_no _)
                  replace r28 := r28.chg ch147 (not_no _)
                  replace bx116 := bx116.chg ch147 (not_no _)
                  replace bx140 := bx140.chg ch147 (not_no _)
                  replace o145 := o145.glue (γ := g139) (ren := (fun n => if n = 1 then 4 else 0)) (k := 4) fr143.col rfl rfl
                  rw [← hg146] at o145
                  have r148 := mark_sl o145.flat
                  clear hg146
                  refine x_one 6 rfl (by kernel_rfl) rfl ?_
                  refine o_store_bx (cs' := [Value.int .i64 a.1, v24]) tp24_t rfl rfl bx140 rfl (Nat.le_of_ble_eq_true rfl) (AllOne.all (.cons rfl (.cons (sl_one r28) .nil))) rfl ?_
                  intro w149 ch150 bx151
                  replace hbase := hbase.chg ch150 (is_ne rfl)
                  replace r_a_v := r_a_v.chg ch150 (is_ne rfl)
                  replace r_b_v := r_b_v.chg ch150 (is_ne rfl)
                  replace r_to_v := r_to_v.chg ch150 (is_ne rfl)
                  replace bx5 := bx5.chg ch150 (is_ne rfl)
                  replace bx10 := bx10.chg ch150 (is_ne rfl)
                  replace o25 := o25.chg ch150 (is_ne rfl) (is_ne rfl)
                  replace r28 := r28.chg ch150 (is_ne rfl)
                  replace bx116 := bx116.chg ch150 (is_ne rfl)
                  replace o145 := o145.chg ch150 (is_ne rfl) (is_ne rfl)
                  replace r148 := r148.chg ch150 (is_ne rfl)
                  clear bx140
                  refine x_one 7 rfl (by kernel_rfl) rfl ?_
                  refine o_store_bx (cs' := [Value.int .i64 b.1, v144]) tp24_t rfl rfl bx116 rfl (Nat.le_of_ble_eq_true rfl) (AllOne.all (.cons rfl (.cons (sl_one r148) .nil))) rfl ?_
                  intro w152 ch153 bx154
                  replace hbase := hbase.chg ch153 (is_ne rfl)
                  replace r_a_v := r_a_v.chg ch153 (is_ne rfl)
                  replace r_b_v := r_b_v.chg ch153 (is_ne rfl)
                  replace r_to_v := r_to_v.chg ch153 (is_ne rfl)
                  replace bx5 := bx5.chg ch153 (is_ne rfl)
                  replace bx10 := bx10.chg ch153 (is_ne rfl)
                  replace o25 := o25.chg ch153 (is_ne rfl) (is_ne rfl)
                  replace r28 := r28.chg ch153 (is_ne rfl)
                  replace o145 := o145.chg ch153 (is_ne rfl) (is_ne rfl)
                  replace r148 := r148.chg ch153 (is_ne rfl)
                  replace bx151 := bx151.chg ch153 (is_ne rfl)
                  clear bx116
                  refine x_nil (by kernel_rfl) ?_
                  exact mid (b138, b114, v24, v144, g146) _ _ ⟨hbase, rfl, rfl, rfl, rfl, rfl, r_a_v, r_b_v, r_to_v, bx5, bx10, o25, r28, o145, r148, bx151, bx154⟩
            · skip
              refine o_alloc g26 (is 5) (5, 0) rfl tp24_t ?_
              intro g158 w155 b157 ch156 bx159
              replace hbase := hbase.chg ch156 (not_no _)
              replace r_a_v := r_a_v.chg ch156 (not_no _)
              replace r_b_v := r_b_v.chg ch156 (not_no _)
              replace r_to_v := r_to_v.chg ch156 (not_no _)
              replace bx5 := bx5.chg ch156 (not_no _)
              replace bx10 := bx10.chg ch156 (not_no _)
              replace o25 := o25.chg ch156 (not_no _) (not_no _)
              replace r28 := r28.chg ch156 (not_no _)
              replace bx159 : Bx g158 (is 5) w155 b157 [Value.int .i64 0, Value.slice none 0 0] := bx159
              refine x_two 2 5 rfl rfl (by kernel_rfl) rfl rfl ?_ ?_
              · skip
                refine o_of_val (v := Value.agg (List.toArray [Value.int .i64 b.1, b_v])) (e_load_bxN (ds := [Value.int .i64 b.1, b_v]) tp24_t rfl bx10 rfl rfl) ?_
                refine x_two 3 5 rfl rfl (by kernel_rfl) rfl rfl ?_ ?_
                · skip
                  refine o_callx (e_call (vals := [Value.agg (List.toArray [Value.int .i64 b.1, b_v])]) Try.func16 bd16_t nm16_t rfl) (Twin_ok w155 b b_v (r_b_v).ro (by omega)) ?_
                  rintro ⟨d161, v163⟩ w160 ⟨fr162, o164⟩
                  obtain ⟨g165, hg165⟩ : ∃ q, q = glue w155.heap.size g158 d161 (fun n => if n = 1 then 4 else 0) := ⟨_, rfl⟩
                  have ch166 := chg_glue fr162.below g158 d161 (fun n => if n = 1 then 4 else 0)
                  rw [← hg165] at ch166
                  replace hbase := hbase.chg ch166 (not_no _)
                  replace r_a_v := r_a_v.chg ch166 (not_no _)
                  replace r_b_v := r_b_v.chg ch166 (not_no _)
                  replace r_to_v := r_to_v.chg ch166 (not_no _)
                  replace bx5 := bx5.chg ch166 (not_no _)
                  replace bx10 := bx10.chg ch166 (not_no _)
                  replace o25 := o25.chg ch166 (not_no _) (not_no _)
                  replace r28 := r28.chg ch166 (not_no _)
                  replace bx159 := bx159.chg ch166 (not_no _)
                  replace o164 := o164.glue (γ := g158) (ren := (fun n => if n = 1 then 4 else 0)) (k := 4) fr162.col rfl rfl
                  rw [← hg165] at o164
                  have r167 := mark_sl o164.flat
                  clear hg165
                  refine x_one 5 rfl (by kernel_rfl) rfl ?_
                  refine o_alloc g165 (is 6) (6, 0) rfl tp24_t ?_
                  intro g171 w168 b170 ch169 bx172
                  replace hbase := hbase.chg ch169 (not_no _)
                  replace r_a_v := r_a_v.chg ch169 (not_no _)
                  replace r_b_v := r_b_v.chg ch169 (not_no _)
                  replace r_to_v := r_to_v.chg ch169 (not_no _)
                  replace bx5 := bx5.chg ch169 (not_no _)
                  replace bx10 := bx10.chg ch169 (not_no _)
                  replace o25 := o25.chg ch169 (not_no _) (not_no _)
                  replace r28 := r28.chg ch169 (not_no _)
                  replace bx159 := bx159.chg ch169 (not_no _)
                  replace o164 := o164.chg ch169 (not_no _) (not_no _)
                  replace r167 := r167.chg ch169 (not_no _)
                  replace bx172 : Bx g171 (is 6) w168 b170 [Value.int .i64 0, Value.slice none 0 0] := bx172
                  refine x_one 6 rfl (by kernel_rfl) rfl ?_
                  refine o_store_bx (cs' := [Value.int .i64 a.1, v24]) tp24_t rfl rfl bx159 rfl (Nat.le_of_ble_eq_true rfl) (AllOne.all (.cons rfl (.cons (sl_one r28) .nil))) rfl ?_
                  intro w173 ch174 bx175
                  replace hbase := hbase.chg ch174 (is_ne rfl)
                  replace r_a_v := r_a_v.chg ch174 (is_ne rfl)
                  replace r_b_v := r_b_v.chg ch174 (is_ne rfl)
                  replace r_to_v := r_to_v.chg ch174 (is_ne rfl)
                  replace bx5 := bx5.chg ch174 (is_ne rfl)
                  replace bx10 := bx10.chg ch174 (is_ne rfl)
                  replace o25 := o25.chg ch174 (is_ne rfl) (is_ne rfl)
                  replace r28 := r28.chg ch174 (is_ne rfl)
                  replace o164 := o164.chg ch174 (is_ne rfl) (is_ne rfl)
                  replace r167 := r167.chg ch174 (is_ne rfl)
                  replace bx172 := bx172.chg ch174 (is_ne rfl)
                  clear bx159
                  refine x_one 7 rfl (by kernel_rfl) rfl ?_
                  refine o_store_bx (cs' := [Value.int .i64 b.1, v163]) tp24_t rfl rfl bx172 rfl (Nat.le_of_ble_eq_true rfl) (AllOne.all (.cons rfl (.cons (sl_one r167) .nil))) rfl ?_
                  intro w176 ch177 bx178
                  replace hbase := hbase.chg ch177 (is_ne rfl)
                  replace r_a_v := r_a_v.chg ch177 (is_ne rfl)
                  replace r_b_v := r_b_v.chg ch177 (is_ne rfl)
                  replace r_to_v := r_to_v.chg ch177 (is_ne rfl)
                  replace bx5 := bx5.chg ch177 (is_ne rfl)
                  replace bx10 := bx10.chg ch177 (is_ne rfl)
                  replace o25 := o25.chg ch177 (is_ne rfl) (is_ne rfl)
                  replace r28 := r28.chg ch177 (is_ne rfl)
                  replace o164 := o164.chg ch177 (is_ne rfl) (is_ne rfl)
                  replace r167 := r167.chg ch177 (is_ne rfl)
                  replace bx175 := bx175.chg ch177 (is_ne rfl)
                  clear bx172
                  refine x_nil (by kernel_rfl) ?_
                  exact mid (b157, b170, v24, v163, g171) _ _ ⟨hbase, rfl, rfl, rfl, rfl, rfl, r_a_v, r_b_v, r_to_v, bx5, bx10, o25, r28, o164, r167, bx175, bx178⟩
                · skip
                  refine o_alloc g158 (is 6) (6, 0) rfl tp24_t ?_
                  intro g182 w179 b181 ch180 bx183
                  replace hbase := hbase.chg ch180 (not_no _)
                  replace r_a_v := r_a_v.chg ch180 (not_no _)
                  replace r_b_v := r_b_v.chg ch180 (not_no _)
                  replace r_to_v := r_to_v.chg ch180 (not_no _)
                  replace bx5 := bx5.chg ch180 (not_no _)
                  replace bx10 := bx10.chg ch180 (not_no _)
                  replace o25 := o25.chg ch180 (not_no _) (not_no _)
                  replace r28 := r28.chg ch180 (not_no _)
                  replace bx159 := bx159.chg ch180 (not_no _)
                  replace bx183 : Bx g182 (is 6) w179 b181 [Value.int .i64 0, Value.slice none 0 0] := bx183
                  refine x_one 3 rfl (by kernel_rfl) rfl ?_
                  refine o_callx (e_call (vals := [Value.agg (List.toArray [Value.int .i64 b.1, b_v])]) Try.func16 bd16_t nm16_t rfl) (Twin_ok w179 b b_v (r_b_v).ro (by omega)) ?_
                  rintro ⟨d185, v187⟩ w184 ⟨fr186, o188⟩
                  obtain ⟨g189, hg189⟩ : ∃ q, q = glue w179.heap.size g182 d185 (fun n => if n = 1 then 4 else 0) := ⟨_, rfl⟩
                  have ch190 := chg_glue fr186.below g182 d185 (fun n => if n = 1 then 4 else 0)
                  rw [← hg189] at ch190
                  replace hbase := hbase.chg ch190 (not_no _)
                  replace r_a_v := r_a_v.chg ch190 (not_no _)
                  replace r_b_v := r_b_v.chg ch190 (not_no _)
                  replace r_to_v := r_to_v.chg ch190 (not_no _)
                  replace bx5 := bx5.chg ch190 (not_no _)
                  replace bx10 := bx10.chg ch190 (not_no _)
                  replace o25 := o25.chg ch190 (not_no _) (not_no _)
                  replace r28 := r28.chg ch190 (not_no _)
                  replace bx159 := bx159.chg ch190 (not_no _)
                  replace bx183 := bx183.chg ch190 (not_no _)
                  replace o188 := o188.glue (γ := g182) (ren := (fun n => if n = 1 then 4 else 0)) (k := 4) fr186.col rfl rfl
                  rw [← hg189] at o188
                  have r191 := mark_sl o188.flat
                  clear hg189
                  refine x_one 6 rfl (by kernel_rfl) rfl ?_
                  refine o_store_bx (cs' := [Value.int .i64 a.1, v24]) tp24_t rfl rfl bx159 rfl (Nat.le_of_ble_eq_true rfl) (AllOne.all (.cons rfl (.cons (sl_one r28) .nil))) rfl ?_
                  intro w192 ch193 bx194
                  replace hbase := hbase.chg ch193 (is_ne rfl)
                  replace r_a_v := r_a_v.chg ch193 (is_ne rfl)
                  replace r_b_v := r_b_v.chg ch193 (is_ne rfl)
                  replace r_to_v := r_to_v.chg ch193 (is_ne rfl)
                  replace bx5 := bx5.chg ch193 (is_ne rfl)
                  replace bx10 := bx10.chg ch193 (is_ne rfl)
                  replace o25 := o25.chg ch193 (is_ne rfl) (is_ne rfl)
                  replace r28 := r28.chg ch193 (is_ne rfl)
                  replace bx183 := bx183.chg ch193 (is_ne rfl)
                  replace o188 := o188.chg ch193 (is_ne rfl) (is_ne rfl)
                  replace r191 := r191.chg ch193 (is_ne rfl)
                  clear bx159
                  refine x_one 7 rfl (by kernel_rfl) rfl ?_
                  refine o_store_bx (cs' := [Value.int .i64 b.1, v187]) tp24_t rfl rfl bx183 rfl (Nat.le_of_ble_eq_true rfl) (AllOne.all (.cons rfl (.cons (sl_one r191) .nil))) rfl ?_
                  intro w195 ch196 bx197
                  replace hbase := hbase.chg ch196 (is_ne rfl)
                  replace r_a_v := r_a_v.chg ch196 (is_ne rfl)
                  replace r_b_v := r_b_v.chg ch196 (is_ne rfl)
                  replace r_to_v := r_to_v.chg ch196 (is_ne rfl)
                  replace bx5 := bx5.chg ch196 (is_ne rfl)
                  replace bx10 := bx10.chg ch196 (is_ne rfl)
                  replace o25 := o25.chg ch196 (is_ne rfl) (is_ne rfl)
                  replace r28 := r28.chg ch196 (is_ne rfl)
                  replace o188 := o188.chg ch196 (is_ne rfl) (is_ne rfl)
                  replace r191 := r191.chg ch196 (is_ne rfl)
                  replace bx194 := bx194.chg ch196 (is_ne rfl)
                  clear bx183
                  refine x_nil (by kernel_rfl) ?_
                  exact mid (b157, b181, v24, v187, g189) _ _ ⟨hbase, rfl, rfl, rfl, rfl, rfl, r_a_v, r_b_v, r_to_v, bx5, bx10, o25, r28, o188, r191, bx194, bx197⟩
              · skip
                refine o_alloc g158 (is 6) (6, 0) rfl tp24_t ?_
                intro g201 w198 b200 ch199 bx202
                replace hbase := hbase.chg ch199 (not_no _)
                replace r_a_v := r_a_v.chg ch199 (not_no _)
                replace r_b_v := r_b_v.chg ch199 (not_no _)
                replace r_to_v := r_to_v.chg ch199 (not_no _)
                replace bx5 := bx5.chg ch199 (not_no _)
                replace bx10 := bx10.chg ch199 (not_no _)
                replace o25 := o25.chg ch199 (not_no _) (not_no _)
                replace r28 := r28.chg ch199 (not_no _)
                replace bx159 := bx159.chg ch199 (not_no _)
                replace bx202 : Bx g201 (is 6) w198 b200 [Value.int .i64 0, Value.slice none 0 0] := bx202
                refine x_one 2 rfl (by kernel_rfl) rfl ?_
                refine o_of_val (v := Value.agg (List.toArray [Value.int .i64 b.1, b_v])) (e_load_bxN (ds := [Value.int .i64 b.1, b_v]) tp24_t rfl bx10 rfl rfl) ?_
                refine x_one 3 rfl (by kernel_rfl) rfl ?_
                refine o_callx (e_call (vals := [Value.agg (List.toArray [Value.int .i64 b.1, b_v])]) Try.func16 bd16_t nm16_t rfl) (Twin_ok w198 b b_v (r_b_v).ro (by omega)) ?_
                rintro ⟨d204, v206⟩ w203 ⟨fr205, o207⟩
                obtain ⟨g208, hg208⟩ : ∃ q, q = glue w198.heap.size g201 d204 (fun n => if n = 1 then 4 else 0) := ⟨_, rfl⟩
                have ch209 := chg_glue fr205.below g201 d204 (fun n => if n = 1 then 4 else 0)
                rw [← hg208] at ch209
                replace hbase := hbase.chg ch209 (not_no _)
                replace r_a_v := r_a_v.chg ch209 (not_no _)
                replace r_b_v := r_b_v.chg ch209 (not_no _)
                replace r_to_v := r_to_v.chg ch209 (not_no _)
                replace bx5 := bx5.chg ch209 (not_no _)
                replace bx10 := bx10.chg ch209 (not_no _)
                replace o25 := o25.chg ch209 (not_no _) (not_no _)
                replace r28 := r28.chg ch209 (not_no _)
                replace bx159 := bx159.chg ch209 (not_no _)
                replace bx202 := bx202.chg ch209 (not_no _)
                replace o207 := o207.glue (γ := g201) (ren := (fun n => if n = 1 then 4 else 0)) (k := 4) fr205.col rfl rfl
                rw [← hg208] at o207
                have r210 := mark_sl o207.flat
                clear hg208
                refine x_one 6 rfl (by kernel_rfl) rfl ?_
                refine o_store_bx (cs' := [Value.int .i64 a.1, v24]) tp24_t rfl rfl bx159 rfl (Nat.le_of_ble_eq_true rfl) (AllOne.all (.cons rfl (.cons (sl_one r28) .nil))) rfl ?_
                intro w211 ch212 bx213
                replace hbase := hbase.chg ch212 (is_ne rfl)
                replace r_a_v := r_a_v.chg ch212 (is_ne rfl)
                replace r_b_v := r_b_v.chg ch212 (is_ne rfl)
                replace r_to_v := r_to_v.chg ch212 (is_ne rfl)
                replace bx5 := bx5.chg ch212 (is_ne rfl)
                replace bx10 := bx10.chg ch212 (is_ne rfl)
                replace o25 := o25.chg ch212 (is_ne rfl) (is_ne rfl)
                replace r28 := r28.chg ch212 (is_ne rfl)
                replace bx202 := bx202.chg ch212 (is_ne rfl)
                replace o207 := o207.chg ch212 (is_ne rfl) (is_ne rfl)
                replace r210 := r210.chg ch212 (is_ne rfl)
                clear bx159
                refine x_one 7 rfl (by kernel_rfl) rfl ?_
                refine o_store_bx (cs' := [Value.int .i64 b.1, v206]) tp24_t rfl rfl bx202 rfl (Nat.le_of_ble_eq_true rfl) (AllOne.all (.cons rfl (.cons (sl_one r210) .nil))) rfl ?_
                intro w214 ch215 bx216
                replace hbase := hbase.chg ch215 (is_ne rfl)
                replace r_a_v := r_a_v.chg ch215 (is_ne rfl)
                replace r_b_v := r_b_v.chg ch215 (is_ne rfl)
                replace r_to_v := r_to_v.chg ch215 (is_ne rfl)
                replace bx5 := bx5.chg ch215 (is_ne rfl)
                replace bx10 := bx10.chg ch215 (is_ne rfl)
                replace o25 := o25.chg ch215 (is_ne rfl) (is_ne rfl)
                replace r28 := r28.chg ch215 (is_ne rfl)
                replace o207 := o207.chg ch215 (is_ne rfl) (is_ne rfl)
                replace r210 := r210.chg ch215 (is_ne rfl)
                replace bx213 := bx213.chg ch215 (is_ne rfl)
                clear bx202
                refine x_nil (by kernel_rfl) ?_
                exact mid (b157, b200, v24, v206, g208) _ _ ⟨hbase, rfl, rfl, rfl, rfl, rfl, r_a_v, r_b_v, r_to_v, bx5, bx10, o25, r28, o207, r210, bx213, bx216⟩
            · skip
              refine o_alloc g26 (is 6) (6, 0) rfl tp24_t ?_
              intro g220 w217 b219 ch218 bx221
              replace hbase := hbase.chg ch218 (not_no _)
              replace r_a_v := r_a_v.chg ch218 (not_no _)
              replace r_b_v := r_b_v.chg ch218 (not_no _)
              replace r_to_v := r_to_v.chg ch218 (not_no _)
              replace bx5 := bx5.chg ch218 (not_no _)
              replace bx10 := bx10.chg ch218 (not_no _)
              replace o25 := o25.chg ch218 (not_no _) (not_no _)
              replace r28 := r28.chg ch218 (not_no _)
              replace bx221 : Bx g220 (is 6) w217 b219 [Value.int .i64 0, Value.slice none 0 0] := bx221
              refine x_two 2 4 rfl rfl (by kernel_rfl) rfl rfl ?_ ?_
              · skip
                refine o_of_val (v := Value.agg (List.toArray [Value.int .i64 b.1, b_v])) (e_load_bxN (ds := [Value.int .i64 b.1, b_v]) tp24_t rfl bx10 rfl rfl) ?_
                refine x_two 3 4 rfl rfl (by kernel_rfl) rfl rfl ?_ ?_
                · skip
                  refine o_callx (e_call (vals := [Value.agg (List.toArray [Value.int .i64 b.1, b_v])]) Try.func16 bd16_t nm16_t rfl) (Twin_ok w217 b b_v (r_b_v).ro (by omega)) ?_
                  rintro ⟨d223, v225⟩ w222 ⟨fr224, o226⟩
                  obtain ⟨g227, hg227⟩ : ∃ q, q = glue w217.heap.size g220 d223 (fun n => if n = 1 then 4 else 0) := ⟨_, rfl⟩
                  have ch228 := chg_glue fr224.below g220 d223 (fun n => if n = 1 then 4 else 0)
                  rw [← hg227] at ch228
                  replace hbase := hbase.chg ch228 (not_no _)
                  replace r_a_v := r_a_v.chg ch228 (not_no _)
                  replace r_b_v := r_b_v.chg ch228 (not_no _)
                  replace r_to_v := r_to_v.chg ch228 (not_no _)
                  replace bx5 := bx5.chg ch228 (not_no _)
                  replace bx10 := bx10.chg ch228 (not_no _)
                  replace o25 := o25.chg ch228 (not_no _) (not_no _)
                  replace r28 := r28.chg ch228 (not_no _)
                  replace bx221 := bx221.chg ch228 (not_no _)
                  replace o226 := o226.glue (γ := g220) (ren := (fun n => if n = 1 then 4 else 0)) (k := 4) fr224.col rfl rfl
                  rw [← hg227] at o226
                  have r229 := mark_sl o226.flat
                  clear hg227
                  refine x_one 4 rfl (by kernel_rfl) rfl ?_
                  refine o_alloc g227 (is 5) (5, 0) rfl tp24_t ?_
                  intro g233 w230 b232 ch231 bx234
                  replace hbase := hbase.chg ch231 (not_no _)
                  replace r_a_v := r_a_v.chg ch231 (not_no _)
                  replace r_b_v := r_b_v.chg ch231 (not_no _)
                  replace r_to_v := r_to_v.chg ch231 (not_no _)
                  replace bx5 := bx5.chg ch231 (not_no _)
                  replace bx10 := bx10.chg ch231 (not_no _)
                  replace o25 := o25.chg ch231 (not_no _) (not_no _)
                  replace r28 := r28.chg ch231 (not_no _)
                  replace bx221 := bx221.chg ch231 (not_no _)
                  replace o226 := o226.chg ch231 (not_no _) (not_no _)
                  replace r229 := r229.chg ch231 (not_no _)
                  replace bx234 : Bx g233 (is 5) w230 b232 [Value.int .i64 0, Value.slice none 0 0] := bx234
                  refine x_one 6 rfl (by kernel_rfl) rfl ?_
                  refine o_store_bx (cs' := [Value.int .i64 a.1, v24]) tp24_t rfl rfl bx234 rfl (Nat.le_of_ble_eq_true rfl) (AllOne.all (.cons rfl (.cons (sl_one r28) .nil))) rfl ?_
                  intro w235 ch236 bx237
                  replace hbase := hbase.chg ch236 (is_ne rfl)
                  replace r_a_v := r_a_v.chg ch236 (is_ne rfl)
                  replace r_b_v := r_b_v.chg ch236 (is_ne rfl)
                  replace r_to_v := r_to_v.chg ch236 (is_ne rfl)
                  replace bx5 := bx5.chg ch236 (is_ne rfl)
                  replace bx10 := bx10.chg ch236 (is_ne rfl)
                  replace o25 := o25.chg ch236 (is_ne rfl) (is_ne rfl)
                  replace r28 := r28.chg ch236 (is_ne rfl)
                  replace bx221 := bx221.chg ch236 (is_ne rfl)
                  replace o226 := o226.chg ch236 (is_ne rfl) (is_ne rfl)
                  replace r229 := r229.chg ch236 (is_ne rfl)
                  clear bx234
                  refine x_one 7 rfl (by kernel_rfl) rfl ?_
                  refine o_store_bx (cs' := [Value.int .i64 b.1, v225]) tp24_t rfl rfl bx221 rfl (Nat.le_of_ble_eq_true rfl) (AllOne.all (.cons rfl (.cons (sl_one r229) .nil))) rfl ?_
                  intro w238 ch239 bx240
                  replace hbase := hbase.chg ch239 (is_ne rfl)
                  replace r_a_v := r_a_v.chg ch239 (is_ne rfl)
                  replace r_b_v := r_b_v.chg ch239 (is_ne rfl)
                  replace r_to_v := r_to_v.chg ch239 (is_ne rfl)
                  replace bx5 := bx5.chg ch239 (is_ne rfl)
                  replace bx10 := bx10.chg ch239 (is_ne rfl)
                  replace o25 := o25.chg ch239 (is_ne rfl) (is_ne rfl)
                  replace r28 := r28.chg ch239 (is_ne rfl)
                  replace o226 := o226.chg ch239 (is_ne rfl) (is_ne rfl)
                  replace r229 := r229.chg ch239 (is_ne rfl)
                  replace bx237 := bx237.chg ch239 (is_ne rfl)
                  clear bx221
                  refine x_nil (by kernel_rfl) ?_
                  exact mid (b232, b219, v24, v225, g233) _ _ ⟨hbase, rfl, rfl, rfl, rfl, rfl, r_a_v, r_b_v, r_to_v, bx5, bx10, o25, r28, o226, r229, bx237, bx240⟩
                · skip
                  refine o_alloc g220 (is 5) (5, 0) rfl tp24_t ?_
                  intro g244 w241 b243 ch242 bx245
                  replace hbase := hbase.chg ch242 (not_no _)
                  replace r_a_v := r_a_v.chg ch242 (not_no _)
                  replace r_b_v := r_b_v.chg ch242 (not_no _)
                  replace r_to_v := r_to_v.chg ch242 (not_no _)
                  replace bx5 := bx5.chg ch242 (not_no _)
                  replace bx10 := bx10.chg ch242 (not_no _)
                  replace o25 := o25.chg ch242 (not_no _) (not_no _)
                  replace r28 := r28.chg ch242 (not_no _)
                  replace bx221 := bx221.chg ch242 (not_no _)
                  replace bx245 : Bx g244 (is 5) w241 b243 [Value.int .i64 0, Value.slice none 0 0] := bx245
                  refine x_one 3 rfl (by kernel_rfl) rfl ?_
                  refine o_callx (e_call (vals := [Value.agg (List.toArray [Value.int .i64 b.1, b_v])]) Try.func16 bd16_t nm16_t rfl) (Twin_ok w241 b b_v (r_b_v).ro (by omega)) ?_
                  rintro ⟨d247, v249⟩ w246 ⟨fr248, o250⟩
                  obtain ⟨g251, hg251⟩ : ∃ q, q = glue w241.heap.size g244 d247 (fun n => if n = 1 then 4 else 0) := ⟨_, rfl⟩
                  have ch252 := chg_glue fr248.below g244 d247 (fun n => if n = 1 then 4 else 0)
                  rw [← hg251] at ch252
                  replace hbase := hbase.chg ch252 (not_no _)
                  replace r_a_v := r_a_v.chg ch252 (not_no _)
                  replace r_b_v := r_b_v.chg ch252 (not_no _)
                  replace r_to_v := r_to_v.chg ch252 (not_no _)
                  replace bx5 := bx5.chg ch252 (not_no _)
                  replace bx10 := bx10.chg ch252 (not_no _)
                  replace o25 := o25.chg ch252 (not_no _) (not_no _)
                  replace r28 := r28.chg ch252 (not_no _)
                  replace bx221 := bx221.chg ch252 (not_no _)
                  replace bx245 := bx245.chg ch252 (not_no _)
                  replace o250 := o250.glue (γ := g244) (ren := (fun n => if n = 1 then 4 else 0)) (k := 4) fr248.col rfl rfl
                  rw [← hg251] at o250
                  have r253 := mark_sl o250.flat
                  clear hg251
                  refine x_one 6 rfl (by kernel_rfl) rfl ?_
                  refine o_store_bx (cs' := [Value.int .i64 a.1, v24]) tp24_t rfl rfl bx245 rfl (Nat.le_of_ble_eq_true rfl) (AllOne.all (.cons rfl (.cons (sl_one r28) .nil))) rfl ?_
                  intro w254 ch255 bx256
                  replace hbase := hbase.chg ch255 (is_ne rfl)
                  replace r_a_v := r_a_v.chg ch255 (is_ne rfl)
                  replace r_b_v := r_b_v.chg ch255 (is_ne rfl)
                  replace r_to_v := r_to_v.chg ch255 (is_ne rfl)
                  replace bx5 := bx5.chg ch255 (is_ne rfl)
                  replace bx10 := bx10.chg ch255 (is_ne rfl)
                  replace o25 := o25.chg ch255 (is_ne rfl) (is_ne rfl)
                  replace r28 := r28.chg ch255 (is_ne rfl)
                  replace bx221 := bx221.chg ch255 (is_ne rfl)
                  replace o250 := o250.chg ch255 (is_ne rfl) (is_ne rfl)
                  replace r253 := r253.chg ch255 (is_ne rfl)
                  clear bx245
                  refine x_one 7 rfl (by kernel_rfl) rfl ?_
                  refine o_store_bx (cs' := [Value.int .i64 b.1, v249]) tp24_t rfl rfl bx221 rfl (Nat.le_of_ble_eq_true rfl) (AllOne.all (.cons rfl (.cons (sl_one r253) .nil))) rfl ?_
                  intro w257 ch258 bx259
                  replace hbase := hbase.chg ch258 (is_ne rfl)
                  replace r_a_v := r_a_v.chg ch258 (is_ne rfl)
                  replace r_b_v := r_b_v.chg ch258 (is_ne rfl)
                  replace r_to_v := r_to_v.chg ch258 (is_ne rfl)
                  replace bx5 := bx5.chg ch258 (is_ne rfl)
                  replace bx10 := bx10.chg ch258 (is_ne rfl)
                  replace o25 := o25.chg ch258 (is_ne rfl) (is_ne rfl)
                  replace r28 := r28.chg ch258 (is_ne rfl)
                  replace o250 := o250.chg ch258 (is_ne rfl) (is_ne rfl)
                  replace r253 := r253.chg ch258 (is_ne rfl)
                  replace bx256 := bx256.chg ch258 (is_ne rfl)
                  clear bx221
                  refine x_nil (by kernel_rfl) ?_
                  exact mid (b243, b219, v24, v249, g251) _ _ ⟨hbase, rfl, rfl, rfl, rfl, rfl, r_a_v, r_b_v, r_to_v, bx5, bx10, o25, r28, o250, r253, bx256, bx259⟩
              · skip
                refine o_alloc g220 (is 5) (5, 0) rfl tp24_t ?_
                intro g263 w260 b262 ch261 bx264
                replace hbase := hbase.chg ch261 (not_no _)
                replace r_a_v := r_a_v.chg ch261 (not_no _)
                replace r_b_v := r_b_v.chg ch261 (not_no _)
                replace r_to_v := r_to_v.chg ch261 (not_no _)
                replace bx5 := bx5.chg ch261 (not_no _)
                replace bx10 := bx10.chg ch261 (not_no _)
                replace o25 := o25.chg ch261 (not_no _) (not_no _)
                replace r28 := r28.chg ch261 (not_no _)
                replace bx221 := bx221.chg ch261 (not_no _)
                replace bx264 : Bx g263 (is 5) w260 b262 [Value.int .i64 0, Value.slice none 0 0] := bx264
                refine x_one 2 rfl (by kernel_rfl) rfl ?_
                refine o_of_val (v := Value.agg (List.toArray [Value.int .i64 b.1, b_v])) (e_load_bxN (ds := [Value.int .i64 b.1, b_v]) tp24_t rfl bx10 rfl rfl) ?_
                refine x_one 3 rfl (by kernel_rfl) rfl ?_
                refine o_callx (e_call (vals := [Value.agg (List.toArray [Value.int .i64 b.1, b_v])]) Try.func16 bd16_t nm16_t rfl) (Twin_ok w260 b b_v (r_b_v).ro (by omega)) ?_
                rintro ⟨d266, v268⟩ w265 ⟨fr267, o269⟩
                obtain ⟨g270, hg270⟩ : ∃ q, q = glue w260.heap.size g263 d266 (fun n => if n = 1 then 4 else 0) := ⟨_, rfl⟩
                have ch271 := chg_glue fr267.below g263 d266 (fun n => if n = 1 then 4 else 0)
                rw [← hg270] at ch271
                replace hbase := hbase.chg ch271 (not_no _)
                replace r_a_v := r_a_v.chg ch271 (not_no _)
                replace r_b_v := r_b_v.chg ch271 (not_no _)
                replace r_to_v := r_to_v.chg ch271 (not_no _)
                replace bx5 := bx5.chg ch271 (not_no _)
                replace bx10 := bx10.chg ch271 (not_no _)
                replace o25 := o25.chg ch271 (not_no _) (not_no _)
                replace r28 := r28.chg ch271 (not_no _)
                replace bx221 := bx221.chg ch271 (not_no _)
                replace bx264 := bx264.chg ch271 (not_no _)
                replace o269 := o269.glue (γ := g263) (ren := (fun n => if n = 1 then 4 else 0)) (k := 4) fr267.col rfl rfl
                rw [← hg270] at o269
                have r272 := mark_sl o269.flat
                clear hg270
                refine x_one 6 rfl (by kernel_rfl) rfl ?_
                refine o_store_bx (cs' := [Value.int .i64 a.1, v24]) tp24_t rfl rfl bx264 rfl (Nat.le_of_ble_eq_true rfl) (AllOne.all (.cons rfl (.cons (sl_one r28) .nil))) rfl ?_
                intro w273 ch274 bx275
                replace hbase := hbase.chg ch274 (is_ne rfl)
                replace r_a_v := r_a_v.chg ch274 (is_ne rfl)
                replace r_b_v := r_b_v.chg ch274 (is_ne rfl)
                replace r_to_v := r_to_v.chg ch274 (is_ne rfl)
                replace bx5 := bx5.chg ch274 (is_ne rfl)
                replace bx10 := bx10.chg ch274 (is_ne rfl)
                replace o25 := o25.chg ch274 (is_ne rfl) (is_ne rfl)
                replace r28 := r28.chg ch274 (is_ne rfl)
                replace bx221 := bx221.chg ch274 (is_ne rfl)
                replace o269 := o269.chg ch274 (is_ne rfl) (is_ne rfl)
                replace r272 := r272.chg ch274 (is_ne rfl)
                clear bx264
                refine x_one 7 rfl (by kernel_rfl) rfl ?_
                refine o_store_bx (cs' := [Value.int .i64 b.1, v268]) tp24_t rfl rfl bx221 rfl (Nat.le_of_ble_eq_true rfl) (AllOne.all (.cons rfl (.cons (sl_one r272) .nil))) rfl ?_
                intro w276 ch277 bx278
                replace hbase := hbase.chg ch277 (is_ne rfl)
                replace r_a_v := r_a_v.chg ch277 (is_ne rfl)
                replace r_b_v := r_b_v.chg ch277 (is_ne rfl)
                replace r_to_v := r_to_v.chg ch277 (is_ne rfl)
                replace bx5 := bx5.chg ch277 (is_ne rfl)
                replace bx10 := bx10.chg ch277 (is_ne rfl)
                replace o25 := o25.chg ch277 (is_ne rfl) (is_ne rfl)
                replace r28 := r28.chg ch277 (is_ne rfl)
                replace o269 := o269.chg ch277 (is_ne rfl) (is_ne rfl)
                replace r272 := r272.chg ch277 (is_ne rfl)
                replace bx275 := bx275.chg ch277 (is_ne rfl)
                clear bx221
                refine x_nil (by kernel_rfl) ?_
                exact mid (b262, b219, v24, v268, g270) _ _ ⟨hbase, rfl, rfl, rfl, rfl, rfl, r_a_v, r_b_v, r_to_v, bx5, bx10, o25, r28, o269, r272, bx275, bx278⟩
          · skip
            refine o_of_val (v := Value.agg (List.toArray [Value.int .i64 b.1, b_v])) (e_load_bxN (ds := [Value.int .i64 b.1, b_v]) tp24_t rfl bx10 rfl rfl) ?_
            refine x_many 1 [4, 5] (by kernel_rfl) ⟨x_of 1 rfl (by kernel_rfl) rfl ?_, x_of 4 rfl (by kernel_rfl) rfl ?_, x_of 5 rfl (by kernel_rfl) rfl ?_, trivial⟩
            · skip
              refine o_callx (e_call (vals := [Value.agg (List.toArray [Value.int .i64 a.1, a_v])]) Try.func16 bd16_t nm16_t rfl) (Twin_ok w20 a a_v (r_a_v).ro (by omega)) ?_
              rintro ⟨d280, v282⟩ w279 ⟨fr281, o283⟩
              obtain ⟨g284, hg284⟩ : ∃ q, q = glue w20.heap.size g9 d280 (fun n => if n = 1 then 3 else 0) := ⟨_, rfl⟩
              have ch285 := chg_glue fr281.below g9 d280 (fun n => if n = 1 then 3 else 0)
              rw [← hg284] at ch285
              replace hbase := hbase.chg ch285 (not_no _)
              replace r_a_v := r_a_v.chg ch285 (not_no _)
              replace r_b_v := r_b_v.chg ch285 (not_no _)
              replace r_to_v := r_to_v.chg ch285 (not_no _)
              replace bx5 := bx5.chg ch285 (not_no _)
              replace bx10 := bx10.chg ch285 (not_no _)
              replace o283 := o283.glue (γ := g9) (ren := (fun n => if n = 1 then 3 else 0)) (k := 3) fr281.col rfl rfl
              rw [← hg284] at o283
              have r286 := mark_sl o283.flat
              clear hg284
              refine x_many 3 [4, 5] (by kernel_rfl) ⟨x_of 3 rfl (by kernel_rfl) rfl ?_, x_of 4 rfl (by kernel_rfl) rfl ?_, x_of 5 rfl (by kernel_rfl) rfl ?_, trivial⟩
              · skip
                refine o_callx (e_call (vals := [Value.agg (List.toArray [Value.int .i64 b.1, b_v])]) Try.func16 bd16_t nm16_t rfl) (Twin_ok w279 b b_v (r_b_v).ro (by omega)) ?_
                rintro ⟨d288, v290⟩ w287 ⟨fr289, o291⟩
                obtain ⟨g292, hg292⟩ : ∃ q, q = glue w279.heap.size g284 d288 (fun n => if n = 1 then 4 else 0) := ⟨_, rfl⟩
                have ch293 := chg_glue fr289.below g284 d288 (fun n => if n = 1 then 4 else 0)
                rw [← hg292] at ch293
                replace hbase := hbase.chg ch293 (not_no _)
                replace r_a_v := r_a_v.chg ch293 (not_no _)
                replace r_b_v := r_b_v.chg ch293 (not_no _)
                replace r_to_v := r_to_v.chg ch293 (not_no _)
                replace bx5 := bx5.chg ch293 (not_no _)
                replace bx10 := bx10.chg ch293 (not_no _)
                replace o283 := o283.chg ch293 (not_no _) (not_no _)
                replace r286 := r286.chg ch293 (not_no _)
                replace o291 := o291.glue (γ := g284) (ren := (fun n => if n = 1 then 4 else 0)) (k := 4) fr289.col rfl rfl
                rw [← hg292] at o291
                have r294 := mark_sl o291.flat
                clear hg292
                refine x_two 4 5 rfl rfl (by kernel_rfl) rfl rfl ?_ ?_
                · skip
                  refine o_alloc g292 (is 5) (5, 0) rfl tp24_t ?_
                  intro g298 w295 b297 ch296 bx299
                  replace hbase := hbase.chg ch296 (not_no _)
                  replace r_a_v := r_a_v.chg ch296 (not_no _)
                  replace r_b_v := r_b_v.chg ch296 (not_no _)
                  replace r_to_v := r_to_v.chg ch296 (not_no _)
                  replace bx5 := bx5.chg ch296 (not_no _)
                  replace bx10 := bx10.chg ch296 (not_no _)
                  replace o283 := o283.chg ch296 (not_no _) (not_no _)
                  replace r286 := r286.chg ch296 (not_no _)
                  replace o291 := o291.chg ch296 (not_no _) (not_no _)
                  replace r294 := r294.chg ch296 (not_no _)
                  replace bx299 : Bx g298 (is 5) w295 b297 [Value.int .i64 0, Value.slice none 0 0] := bx299
                  refine x_one 5 rfl (by kernel_rfl) rfl ?_
                  refine o_alloc g298 (is 6) (6, 0) rfl tp24_t ?_
                  intro g303 w300 b302 ch301 bx304
                  replace hbase := hbase.chg ch301 (not_no _)
                  replace r_a_v := r_a_v.chg ch301 (not_no _)
                  replace r_b_v := r_b_v.chg ch301 (not_no _)
                  replace r_to_v := r_to_v.chg ch301 (not_no _)
                  replace bx5 := bx5.chg ch301 (not_no _)
                  replace bx10 := bx10.chg ch301 (not_no _)
                  replace o283 := o283.chg ch301 (not_no _) (not_no _)
                  replace r286 := r286.chg ch301 (not_no _)
                  replace o291 := o291.chg ch301 (not_no _) (not_no _)
                  replace r294 := r294.chg ch301 (not_no _)
                  replace bx299 := bx299.chg ch301 (not_no _)
                  replace bx304 : Bx g303 (is 6) w300 b302 [Value.int .i64 0, Value.slice none 0 0] := bx304
                  refine x_one 6 rfl (by kernel_rfl) rfl ?_
                  refine o_store_bx (cs' := [Value.int .i64 a.1, v282]) tp24_t rfl rfl bx299 rfl (Nat.le_of_ble_eq_true rfl) (AllOne.all (.cons rfl (.cons (sl_one r286) .nil))) rfl ?_
                  intro w305 ch306 bx307
                  replace hbase := hbase.chg ch306 (is_ne rfl)
                  replace r_a_v := r_a_v.chg ch306 (is_ne rfl)
                  replace r_b_v := r_b_v.chg ch306 (is_ne rfl)
                  replace r_to_v := r_to_v.chg ch306 (is_ne rfl)
                  replace bx5 := bx5.chg ch306 (is_ne rfl)
                  replace bx10 := bx10.chg ch306 (is_ne rfl)
                  replace o283 := o283.chg ch306 (is_ne rfl) (is_ne rfl)
                  replace r286 := r286.chg ch306 (is_ne rfl)
                  replace o291 := o291.chg ch306 (is_ne rfl) (is_ne rfl)
                  replace r294 := r294.chg ch306 (is_ne rfl)
                  replace bx304 := bx304.chg ch306 (is_ne rfl)
                  clear bx299
                  refine x_one 7 rfl (by kernel_rfl) rfl ?_
                  refine o_store_bx (cs' := [Value.int .i64 b.1, v290]) tp24_t rfl rfl bx304 rfl (Nat.le_of_ble_eq_true rfl) (AllOne.all (.cons rfl (.cons (sl_one r294) .nil))) rfl ?_
                  intro w308 ch309 bx310
                  replace hbase := hbase.chg ch309 (is_ne rfl)
                  replace r_a_v := r_a_v.chg ch309 (is_ne rfl)
                  replace r_b_v := r_b_v.chg ch309 (is_ne rfl)
                  replace r_to_v := r_to_v.chg ch309 (is_ne rfl)
                  replace bx5 := bx5.chg ch309 (is_ne rfl)
                  replace bx10 := bx10.chg ch309 (is_ne rfl)
                  replace o283 := o283.chg ch309 (is_ne rfl) (is_ne rfl)
                  replace r286 := r286.chg ch309 (is_ne rfl)
                  replace o291 := o291.chg ch309 (is_ne rfl) (is_ne rfl)
                  replace r294 := r294.chg ch309 (is_ne rfl)
                  replace bx307 := bx307.chg ch309 (is_ne rfl)
                  clear bx304
                  refine x_nil (by kernel_rfl) ?_
                  exact mid (b297, b302, v282, v290, g303) _ _ ⟨hbase, rfl, rfl, rfl, rfl, rfl, r_a_v, r_b_v, r_to_v, bx5, bx10, o283, r286, o291, r294, bx307, bx310⟩
                · skip
                  refine o_alloc g292 (is 6) (6, 0) rfl tp24_t ?_
                  intro g314 w311 b313 ch312 bx315
                  replace hbase := hbase.chg ch312 (not_no _)
                  replace r_a_v := r_a_v.chg ch312 (not_no _)
                  replace r_b_v := r_b_v.chg ch312 (not_no _)
                  replace r_to_v := r_to_v.chg ch312 (not_no _)
                  replace bx5 := bx5.chg ch312 (not_no _)
                  replace bx10 := bx10.chg ch312 (not_no _)
                  replace o283 := o283.chg ch312 (not_no _) (not_no _)
                  replace r286 := r286.chg ch312 (not_no _)
                  replace o291 := o291.chg ch312 (not_no _) (not_no _)
                  replace r294 := r294.chg ch312 (not_no _)
                  replace bx315 : Bx g314 (is 6) w311 b313 [Value.int .i64 0, Value.slice none 0 0] := bx315
                  refine x_one 4 rfl (by kernel_rfl) rfl ?_
                  refine o_alloc g314 (is 5) (5, 0) rfl tp24_t ?_
                  intro g319 w316 b318 ch317 bx320
                  replace hbase := hbase.chg ch317 (not_no _)
                  replace r_a_v := r_a_v.chg ch317 (not_no _)
                  replace r_b_v := r_b_v.chg ch317 (not_no _)
                  replace r_to_v := r_to_v.chg ch317 (not_no _)
                  replace bx5 := bx5.chg ch317 (not_no _)
                  replace bx10 := bx10.chg ch317 (not_no _)
                  replace o283 := o283.chg ch317 (not_no _) (not_no _)
                  replace r286 := r286.chg ch317 (not_no _)
                  replace o291 := o291.chg ch317 (not_no _) (not_no _)
                  replace r294 := r294.chg ch317 (not_no _)
                  replace bx315 := bx315.chg ch317 (not_no _)
                  replace bx320 : Bx g319 (is 5) w316 b318 [Value.int .i64 0, Value.slice none 0 0] := bx320
                  refine x_one 6 rfl (by kernel_rfl) rfl ?_
                  refine o_store_bx (cs' := [Value.int .i64 a.1, v282]) tp24_t rfl rfl bx320 rfl (Nat.le_of_ble_eq_true rfl) (AllOne.all (.cons rfl (.cons (sl_one r286) .nil))) rfl ?_
                  intro w321 ch322 bx323
                  replace hbase := hbase.chg ch322 (is_ne rfl)
                  replace r_a_v := r_a_v.chg ch322 (is_ne rfl)
                  replace r_b_v := r_b_v.chg ch322 (is_ne rfl)
                  replace r_to_v := r_to_v.chg ch322 (is_ne rfl)
                  replace bx5 := bx5.chg ch322 (is_ne rfl)
                  replace bx10 := bx10.chg ch322 (is_ne rfl)
                  replace o283 := o283.chg ch322 (is_ne rfl) (is_ne rfl)
                  replace r286 := r286.chg ch322 (is_ne rfl)
                  replace o291 := o291.chg ch322 (is_ne rfl) (is_ne rfl)
                  replace r294 := r294.chg ch322 (is_ne rfl)
                  replace bx315 := bx315.chg ch322 (is_ne rfl)
                  clear bx320
                  refine x_one 7 rfl (by kernel_rfl) rfl ?_
                  refine o_store_bx (cs' := [Value.int .i64 b.1, v290]) tp24_t rfl rfl bx315 rfl (Nat.le_of_ble_eq_true rfl) (AllOne.all (.cons rfl (.cons (sl_one r294) .nil))) rfl ?_
                  intro w324 ch325 bx326
                  replace hbase := hbase.chg ch325 (is_ne rfl)
                  replace r_a_v := r_a_v.chg ch325 (is_ne rfl)
                  replace r_b_v := r_b_v.chg ch325 (is_ne rfl)
                  replace r_to_v := r_to_v.chg ch325 (is_ne rfl)
                  replace bx5 := bx5.chg ch325 (is_ne rfl)
                  replace bx10 := bx10.chg ch325 (is_ne rfl)
                  replace o283 := o283.chg ch325 (is_ne rfl) (is_ne rfl)
                  replace r286 := r286.chg ch325 (is_ne rfl)
                  replace o291 := o291.chg ch325 (is_ne rfl) (is_ne rfl)
                  replace r294 := r294.chg ch325 (is_ne rfl)
                  replace bx323 := bx323.chg ch325 (is_ne rfl)
                  clear bx315
                  refine x_nil (by kernel_rfl) ?_
                  exact mid (b318, b313, v282, v290, g319) _ _ ⟨hbase, rfl, rfl, rfl, rfl, rfl, r_a_v, r_b_v, r_to_v, bx5, bx10, o283, r286, o291, r294, bx323, bx326⟩
              · skip
                refine o_alloc g284 (is 5) (5, 0) rfl tp24_t ?_
                intro g330 w327 b329 ch328 bx331
                replace hbase := hbase.chg ch328 (not_no _)
                replace r_a_v := r_a_v.chg ch328 (not_no _)
                replace r_b_v := r_b_v.chg ch328 (not_no _)
                replace r_to_v := r_to_v.chg ch328 (not_no _)
                replace bx5 := bx5.chg ch328 (not_no _)
                replace bx10 := bx10.chg ch328 (not_no _)
                replace o283 := o283.chg ch328 (not_no _) (not_no _)
                replace r286 := r286.chg ch328 (not_no _)
                replace bx331 : Bx g330 (is 5) w327 b329 [Value.int .i64 0, Value.slice none 0 0] := bx331
                refine x_two 3 5 rfl rfl (by kernel_rfl) rfl rfl ?_ ?_
                · skip
                  refine o_callx (e_call (vals := [Value.agg (List.toArray [Value.int .i64 b.1, b_v])]) Try.func16 bd16_t nm16_t rfl) (Twin_ok w327 b b_v (r_b_v).ro (by omega)) ?_
                  rintro ⟨d333, v335⟩ w332 ⟨fr334, o336⟩
                  obtain ⟨g337, hg337⟩ : ∃ q, q = glue w327.heap.size g330 d333 (fun n => if n = 1 then 4 else 0) := ⟨_, rfl⟩
                  have ch338 := chg_glue fr334.below g330 d333 (fun n => if n = 1 then 4 else 0)
                  rw [← hg337] at ch338
                  replace hbase := hbase.chg ch338 (not_no _)
                  replace r_a_v := r_a_v.chg ch338 (not_no _)
                  replace r_b_v := r_b_v.chg ch338 (not_no _)
                  replace r_to_v := r_to_v.chg ch338 (not_no _)
                  replace bx5 := bx5.chg ch338 (not_no _)
                  replace bx10 := bx10.chg ch338 (not_no _)
                  replace o283 := o283.chg ch338 (not_no _) (not_no _)
                  replace r286 := r286.chg ch338 (not_no _)
                  replace bx331 := bx331.chg ch338 (not_no _)
                  replace o336 := o336.glue (γ := g330) (ren := (fun n => if n = 1 then 4 else 0)) (k := 4) fr334.col rfl rfl
                  rw [← hg337] at o336
                  have r339 := mark_sl o336.flat
                  clear hg337
                  refine x_one 5 rfl (by kernel_rfl) rfl ?_
                  refine o_alloc g337 (is 6) (6, 0) rfl tp24_t ?_
                  intro g343 w340 b342 ch341 bx344
                  replace hbase := hbase.chg ch341 (not_no _)
                  replace r_a_v := r_a_v.chg ch341 (not_no _)
                  replace r_b_v := r_b_v.chg ch341 (not_no _)
                  replace r_to_v := r_to_v.chg ch341 (not_no _)
                  replace bx5 := bx5.chg ch341 (not_no _)
                  replace bx10 := bx10.chg ch341 (not_no _)
                  replace o283 := o283.chg ch341 (not_no _) (not_no _)
                  replace r286 := r286.chg ch341 (not_no _)
                  replace bx331 := bx331.chg ch341 (not_no _)
                  replace o336 := o336.chg ch341 (not_no _) (not_no _)
                  replace r339 := r339.chg ch341 (not_no _)
                  replace bx344 : Bx g343 (is 6) w340 b342 [Value.int .i64 0, Value.slice none 0 0] := bx344
                  refine x_one 6 rfl (by kernel_rfl) rfl ?_
                  refine o_store_bx (cs' := [Value.int .i64 a.1, v282]) tp24_t rfl rfl bx331 rfl (Nat.le_of_ble_eq_true rfl) (AllOne.all (.cons rfl (.cons (sl_one r286) .nil))) rfl ?_
                  intro w345 ch346 bx347
                  replace hbase := hbase.chg ch346 (is_ne rfl)
                  replace r_a_v := r_a_v.chg ch346 (is_ne rfl)
                  replace r_b_v := r_b_v.chg ch346 (is_ne rfl)
                  replace r_to_v := r_to_v.chg ch346 (is_ne rfl)
                  replace bx5 := bx5.chg ch346 (is_ne rfl)
                  replace bx10 := bx10.chg ch346 (is_ne rfl)
                  replace o283 := o283.chg ch346 (is_ne rfl) (is_ne rfl)
                  replace r286 := r286.chg ch346 (is_ne rfl)
                  replace o336 := o336.chg ch346 (is_ne rfl) (is_ne rfl)
                  replace r339 := r339.chg ch346 (is_ne rfl)
                  replace bx344 := bx344.chg ch346 (is_ne rfl)
                  clear bx331
                  refine x_one 7 rfl (by kernel_rfl) rfl ?_
                  refine o_store_bx (cs' := [Value.int .i64 b.1, v335]) tp24_t rfl rfl bx344 rfl (Nat.le_of_ble_eq_true rfl) (AllOne.all (.cons rfl (.cons (sl_one r339) .nil))) rfl ?_
                  intro w348 ch349 bx350
                  replace hbase := hbase.chg ch349 (is_ne rfl)
                  replace r_a_v := r_a_v.chg ch349 (is_ne rfl)
                  replace r_b_v := r_b_v.chg ch349 (is_ne rfl)
                  replace r_to_v := r_to_v.chg ch349 (is_ne rfl)
                  replace bx5 := bx5.chg ch349 (is_ne rfl)
                  replace bx10 := bx10.chg ch349 (is_ne rfl)
                  replace o283 := o283.chg ch349 (is_ne rfl) (is_ne rfl)
                  replace r286 := r286.chg ch349 (is_ne rfl)
                  replace o336 := o336.chg ch349 (is_ne rfl) (is_ne rfl)
                  replace r339 := r339.chg ch349 (is_ne rfl)
                  replace bx347 := bx347.chg ch349 (is_ne rfl)
                  clear bx344
                  refine x_nil (by kernel_rfl) ?_
                  exact mid (b329, b342, v282, v335, g343) _ _ ⟨hbase, rfl, rfl, rfl, rfl, rfl, r_a_v, r_b_v, r_to_v, bx5, bx10, o283, r286, o336, r339, bx347, bx350⟩
                · skip
                  refine o_alloc g330 (is 6) (6, 0) rfl tp24_t ?_
                  intro g354 w351 b353 ch352 bx355
                  replace hbase := hbase.chg ch352 (not_no _)
                  replace r_a_v := r_a_v.chg ch352 (not_no _)
                  replace r_b_v := r_b_v.chg ch352 (not_no _)
                  replace r_to_v := r_to_v.chg ch352 (not_no _)
                  replace bx5 := bx5.chg ch352 (not_no _)
                  replace bx10 := bx10.chg ch352 (not_no _)
                  replace o283 := o283.chg ch352 (not_no _) (not_no _)
                  replace r286 := r286.chg ch352 (not_no _)
                  replace bx331 := bx331.chg ch352 (not_no _)
                  replace bx355 : Bx g354 (is 6) w351 b353 [Value.int .i64 0, Value.slice none 0 0] := bx355
                  refine x_one 3 rfl (by kernel_rfl) rfl ?_
                  refine o_callx (e_call (vals := [Value.agg (List.toArray [Value.int .i64 b.1, b_v])]) Try.func16 bd16_t nm16_t rfl) (Twin_ok w351 b b_v (r_b_v).ro (by omega)) ?_
                  rintro ⟨d357, v359⟩ w356 ⟨fr358, o360⟩
                  obtain ⟨g361, hg361⟩ : ∃ q, q = glue w351.heap.size g354 d357 (fun n => if n = 1 then 4 else 0) := ⟨_, rfl⟩
                  have ch362 := chg_glue fr358.below g354 d357 (fun n => if n = 1 then 4 else 0)
                  rw [← hg361] at ch362
                  replace hbase := hbase.chg ch362 (not_no _)
                  replace r_a_v := r_a_v.chg ch362 (not_no _)
                  replace r_b_v := r_b_v.chg ch362 (not_no _)
                  replace r_to_v := r_to_v.chg ch362 (not_no _)
                  replace bx5 := bx5.chg ch362 (not_no _)
                  replace bx10 := bx10.chg ch362 (not_no _)
                  replace o283 := o283.chg ch362 (not_no _) (not_no _)
                  replace r286 := r286.chg ch362 (not_no _)
                  replace bx331 := bx331.chg ch362 (not_no _)
                  replace bx355 := bx355.chg ch362 (not_no _)
                  replace o360 := o360.glue (γ := g354) (ren := (fun n => if n = 1 then 4 else 0)) (k := 4) fr358.col rfl rfl
                  rw [← hg361] at o360
                  have r363 := mark_sl o360.flat
                  clear hg361
                  refine x_one 6 rfl (by kernel_rfl) rfl ?_
                  refine o_store_bx (cs' := [Value.int .i64 a.1, v282]) tp24_t rfl rfl bx331 rfl (Nat.le_of_ble_eq_true rfl) (AllOne.all (.cons rfl (.cons (sl_one r286) .nil))) rfl ?_
                  intro w364 ch365 bx366
                  replace hbase := hbase.chg ch365 (is_ne rfl)
                  replace r_a_v := r_a_v.chg ch365 (is_ne rfl)
                  replace r_b_v := r_b_v.chg ch365 (is_ne rfl)
                  replace r_to_v := r_to_v.chg ch365 (is_ne rfl)
                  replace bx5 := bx5.chg ch365 (is_ne rfl)
                  replace bx10 := bx10.chg ch365 (is_ne rfl)
                  replace o283 := o283.chg ch365 (is_ne rfl) (is_ne rfl)
                  replace r286 := r286.chg ch365 (is_ne rfl)
                  replace bx355 := bx355.chg ch365 (is_ne rfl)
                  replace o360 := o360.chg ch365 (is_ne rfl) (is_ne rfl)
                  replace r363 := r363.chg ch365 (is_ne rfl)
                  clear bx331
                  refine x_one 7 rfl (by kernel_rfl) rfl ?_
                  refine o_store_bx (cs' := [Value.int .i64 b.1, v359]) tp24_t rfl rfl bx355 rfl (Nat.le_of_ble_eq_true rfl) (AllOne.all (.cons rfl (.cons (sl_one r363) .nil))) rfl ?_
                  intro w367 ch368 bx369
                  replace hbase := hbase.chg ch368 (is_ne rfl)
                  replace r_a_v := r_a_v.chg ch368 (is_ne rfl)
                  replace r_b_v := r_b_v.chg ch368 (is_ne rfl)
                  replace r_to_v := r_to_v.chg ch368 (is_ne rfl)
                  replace bx5 := bx5.chg ch368 (is_ne rfl)
                  replace bx10 := bx10.chg ch368 (is_ne rfl)
                  replace o283 := o283.chg ch368 (is_ne rfl) (is_ne rfl)
                  replace r286 := r286.chg ch368 (is_ne rfl)
                  replace o360 := o360.chg ch368 (is_ne rfl) (is_ne rfl)
                  replace r363 := r363.chg ch368 (is_ne rfl)
                  replace bx366 := bx366.chg ch368 (is_ne rfl)
                  clear bx355
                  refine x_nil (by kernel_rfl) ?_
                  exact mid (b329, b353, v282, v359, g361) _ _ ⟨hbase, rfl, rfl, rfl, rfl, rfl, r_a_v, r_b_v, r_to_v, bx5, bx10, o283, r286, o360, r363, bx366, bx369⟩
              · skip
                refine o_alloc g284 (is 6) (6, 0) rfl tp24_t ?_
                intro g373 w370 b372 ch371 bx374
                replace hbase := hbase.chg ch371 (not_no _)
                replace r_a_v := r_a_v.chg ch371 (not_no _)
                replace r_b_v := r_b_v.chg ch371 (not_no _)
                replace r_to_v := r_to_v.chg ch371 (not_no _)
                replace bx5 := bx5.chg ch371 (not_no _)
                replace bx10 := bx10.chg ch371 (not_no _)
                replace o283 := o283.chg ch371 (not_no _) (not_no _)
                replace r286 := r286.chg ch371 (not_no _)
                replace bx374 : Bx g373 (is 6) w370 b372 [Value.int .i64 0, Value.slice none 0 0] := bx374
                refine x_two 3 4 rfl rfl (by kernel_rfl) rfl rfl ?_ ?_
                · skip
                  refine o_callx (e_call (vals := [Value.agg (List.toArray [Value.int .i64 b.1, b_v])]) Try.func16 bd16_t nm16_t rfl) (Twin_ok w370 b b_v (r_b_v).ro (by omega)) ?_
                  rintro ⟨d376, v378⟩ w375 ⟨fr377, o379⟩
                  obtain ⟨g380, hg380⟩ : ∃ q, q = glue w370.heap.size g373 d376 (fun n => if n = 1 then 4 else 0) := ⟨_, rfl⟩
                  have ch381 := chg_glue fr377.below g373 d376 (fun n => if n = 1 then 4 else 0)
                  rw [← hg380] at ch381
                  replace hbase := hbase.chg ch381 (not_no _)
                  replace r_a_v := r_a_v.chg ch381 (not_no _)
                  replace r_b_v := r_b_v.chg ch381 (not_no _)
                  replace r_to_v := r_to_v.chg ch381 (not_no _)
                  replace bx5 := bx5.chg ch381 (not_no _)
                  replace bx10 := bx10.chg ch381 (not_no _)
                  replace o283 := o283.chg ch381 (not_no _) (not_no _)
                  replace r286 := r286.chg ch381 (not_no _)
                  replace bx374 := bx374.chg ch381 (not_no _)
                  replace o379 := o379.glue (γ := g373) (ren := (fun n => if n = 1 then 4 else 0)) (k := 4) fr377.col rfl rfl
                  rw [← hg380] at o379
                  have r382 := mark_sl o379.flat
                  clear hg380
                  refine x_one 4 rfl (by kernel_rfl) rfl ?_
                  refine o_alloc g380 (is 5) (5, 0) rfl tp24_t ?_
                  intro g386 w383 b385 ch384 bx387
                  replace hbase := hbase.chg ch384 (not_no _)
                  replace r_a_v := r_a_v.chg ch384 (not_no _)
                  replace r_b_v := r_b_v.chg ch384 (not_no _)
                  replace r_to_v := r_to_v.chg ch384 (not_no _)
                  replace bx5 := bx5.chg ch384 (not_no _)
                  replace bx10 := bx10.chg ch384 (not_no _)
                  replace o283 := o283.chg ch384 (not_no _) (not_no _)
                  replace r286 := r286.chg ch384 (not_no _)
                  replace bx374 := bx374.chg ch384 (not_no _)
                  replace o379 := o379.chg ch384 (not_no _) (not_no _)
                  replace r382 := r382.chg ch384 (not_no _)
                  replace bx387 : Bx g386 (is 5) w383 b385 [Value.int .i64 0, Value.slice none 0 0] := bx387
                  refine x_one 6 rfl (by kernel_rfl) rfl ?_
                  refine o_store_bx (cs' := [Value.int .i64 a.1, v282]) tp24_t rfl rfl bx387 rfl (Nat.le_of_ble_eq_true rfl) (AllOne.all (.cons rfl (.cons (sl_one r286) .nil))) rfl ?_
                  intro w388 ch389 bx390
                  replace hbase := hbase.chg ch389 (is_ne rfl)
                  replace r_a_v := r_a_v.chg ch389 (is_ne rfl)
                  replace r_b_v := r_b_v.chg ch389 (is_ne rfl)
                  replace r_to_v := r_to_v.chg ch389 (is_ne rfl)
                  replace bx5 := bx5.chg ch389 (is_ne rfl)
                  replace bx10 := bx10.chg ch389 (is_ne rfl)
                  replace o283 := o283.chg ch389 (is_ne rfl) (is_ne rfl)
                  replace r286 := r286.chg ch389 (is_ne rfl)
                  replace bx374 := bx374.chg ch389 (is_ne rfl)
                  replace o379 := o379.chg ch389 (is_ne rfl) (is_ne rfl)
                  replace r382 := r382.chg ch389 (is_ne rfl)
                  clear bx387
                  refine x_one 7 rfl (by kernel_rfl) rfl ?_
                  refine o_store_bx (cs' := [Value.int .i64 b.1, v378]) tp24_t rfl rfl bx374 rfl (Nat.le_of_ble_eq_true rfl) (AllOne.all (.cons rfl (.cons (sl_one r382) .nil))) rfl ?_
                  intro w391 ch392 bx393
                  replace hbase := hbase.chg ch392 (is_ne rfl)
                  replace r_a_v := r_a_v.chg ch392 (is_ne rfl)
                  replace r_b_v := r_b_v.chg ch392 (is_ne rfl)
                  replace r_to_v := r_to_v.chg ch392 (is_ne rfl)
                  replace bx5 := bx5.chg ch392 (is_ne rfl)
                  replace bx10 := bx10.chg ch392 (is_ne rfl)
                  replace o283 := o283.chg ch392 (is_ne rfl) (is_ne rfl)
                  replace r286 := r286.chg ch392 (is_ne rfl)
                  replace o379 := o379.chg ch392 (is_ne rfl) (is_ne rfl)
                  replace r382 := r382.chg ch392 (is_ne rfl)
                  replace bx390 := bx390.chg ch392 (is_ne rfl)
                  clear bx374
                  refine x_nil (by kernel_rfl) ?_
                  exact mid (b385, b372, v282, v378, g386) _ _ ⟨hbase, rfl, rfl, rfl, rfl, rfl, r_a_v, r_b_v, r_to_v, bx5, bx10, o283, r286, o379, r382, bx390, bx393⟩
                · skip
                  refine o_alloc g373 (is 5) (5, 0) rfl tp24_t ?_
                  intro g397 w394 b396 ch395 bx398
                  replace hbase := hbase.chg ch395 (not_no _)
                  replace r_a_v := r_a_v.chg ch395 (not_no _)
                  replace r_b_v := r_b_v.chg ch395 (not_no _)
                  replace r_to_v := r_to_v.chg ch395 (not_no _)
                  replace bx5 := bx5.chg ch395 (not_no _)
                  replace bx10 := bx10.chg ch395 (not_no _)
                  replace o283 := o283.chg ch395 (not_no _) (not_no _)
                  replace r286 := r286.chg ch395 (not_no _)
                  replace bx374 := bx374.chg ch395 (not_no _)
                  replace bx398 : Bx g397 (is 5) w394 b396 [Value.int .i64 0, Value.slice none 0 0] := bx398
                  refine x_one 3 rfl (by kernel_rfl) rfl ?_
                  refine o_callx (e_call (vals := [Value.agg (List.toArray [Value.int .i64 b.1, b_v])]) Try.func16 bd16_t nm16_t rfl) (Twin_ok w394 b b_v (r_b_v).ro (by omega)) ?_
                  rintro ⟨d400, v402⟩ w399 ⟨fr401, o403⟩
                  obtain ⟨g404, hg404⟩ : ∃ q, q = glue w394.heap.size g397 d400 (fun n => if n = 1 then 4 else 0) := ⟨_, rfl⟩
                  have ch405 := chg_glue fr401.below g397 d400 (fun n => if n = 1 then 4 else 0)
                  rw [← hg404] at ch405
                  replace hbase := hbase.chg ch405 (not_no _)
                  replace r_a_v := r_a_v.chg ch405 (not_no _)
                  replace r_b_v := r_b_v.chg ch405 (not_no _)
                  replace r_to_v := r_to_v.chg ch405 (not_no _)
                  replace bx5 := bx5.chg ch405 (not_no _)
                  replace bx10 := bx10.chg ch405 (not_no _)
                  replace o283 := o283.chg ch405 (not_no _) (not_no _)
                  replace r286 := r286.chg ch405 (not_no _)
                  replace bx374 := bx374.chg ch405 (not_no _)
                  replace bx398 := bx398.chg ch405 (not_no _)
                  replace o403 := o403.glue (γ := g397) (ren := (fun n => if n = 1 then 4 else 0)) (k := 4) fr401.col rfl rfl
                  rw [← hg404] at o403
                  have r406 := mark_sl o403.flat
                  clear hg404
                  refine x_one 6 rfl (by kernel_rfl) rfl ?_
                  refine o_store_bx (cs' := [Value.int .i64 a.1, v282]) tp24_t rfl rfl bx398 rfl (Nat.le_of_ble_eq_true rfl) (AllOne.all (.cons rfl (.cons (sl_one r286) .nil))) rfl ?_
                  intro w407 ch408 bx409
                  replace hbase := hbase.chg ch408 (is_ne rfl)
                  replace r_a_v := r_a_v.chg ch408 (is_ne rfl)
                  replace r_b_v := r_b_v.chg ch408 (is_ne rfl)
                  replace r_to_v := r_to_v.chg ch408 (is_ne rfl)
                  replace bx5 := bx5.chg ch408 (is_ne rfl)
                  replace bx10 := bx10.chg ch408 (is_ne rfl)
                  replace o283 := o283.chg ch408 (is_ne rfl) (is_ne rfl)
                  replace r286 := r286.chg ch408 (is_ne rfl)
                  replace bx374 := bx374.chg ch408 (is_ne rfl)
                  replace o403 := o403.chg ch408 (is_ne rfl) (is_ne rfl)
                  replace r406 := r406.chg ch408 (is_ne rfl)
                  clear bx398
                  refine x_one 7 rfl (by kernel_rfl) rfl ?_
                  refine o_store_bx (cs' := [Value.int .i64 b.1, v402]) tp24_t rfl rfl bx374 rfl (Nat.le_of_ble_eq_true rfl) (AllOne.all (.cons rfl (.cons (sl_one r406) .nil))) rfl ?_
                  intro w410 ch411 bx412
                  replace hbase := hbase.chg ch411 (is_ne rfl)
                  replace r_a_v := r_a_v.chg ch411 (is_ne rfl)
                  replace r_b_v := r_b_v.chg ch411 (is_ne rfl)
                  replace r_to_v := r_to_v.chg ch411 (is_ne rfl)
                  replace bx5 := bx5.chg ch411 (is_ne rfl)
                  replace bx10 := bx10.chg ch411 (is_ne rfl)
                  replace o283 := o283.chg ch411 (is_ne rfl) (is_ne rfl)
                  replace r286 := r286.chg ch411 (is_ne rfl)
                  replace o403 := o403.chg ch411 (is_ne rfl) (is_ne rfl)
                  replace r406 := r406.chg ch411 (is_ne rfl)
                  replace bx409 := bx409.chg ch411 (is_ne rfl)
                  clear bx374
                  refine x_nil (by kernel_rfl) ?_
                  exact mid (b396, b372, v282, v402, g404) _ _ ⟨hbase, rfl, rfl, rfl, rfl, rfl, r_a_v, r_b_v, r_to_v, bx5, bx10, o283, r286, o403, r406, bx409, bx412⟩
            · skip
              refine o_alloc g9 (is 5) (5, 0) rfl tp24_t ?_
              intro g416 w413 b415 ch414 bx417
              replace hbase := hbase.chg ch414 (not_no _)
              replace r_a_v := r_a_v.chg ch414 (not_no _)
              replace r_b_v := r_b_v.chg ch414 (not_no _)
              replace r_to_v := r_to_v.chg ch414 (not_no _)
              replace bx5 := bx5.chg ch414 (not_no _)
              replace bx10 := bx10.chg ch414 (not_no _)
              replace bx417 : Bx g416 (is 5) w413 b415 [Value.int .i64 0, Value.slice none 0 0] := bx417
              refine x_two 1 5 rfl rfl (by kernel_rfl) rfl rfl ?_ ?_
              · skip
                refine o_callx (e_call (vals := [Value.agg (List.toArray [Value.int .i64 a.1, a_v])]) Try.func16 bd16_t nm16_t rfl) (Twin_ok w413 a a_v (r_a_v).ro (by omega)) ?_
                rintro ⟨d419, v421⟩ w418 ⟨fr420, o422⟩
                obtain ⟨g423, hg423⟩ : ∃ q, q = glue w413.heap.size g416 d419 (fun n => if n = 1 then 3 else 0) := ⟨_, rfl⟩
                have ch424 := chg_glue fr420.below g416 d419 (fun n => if n = 1 then 3 else 0)
                rw [← hg423] at ch424
                replace hbase := hbase.chg ch424 (not_no _)
                replace r_a_v := r_a_v.chg ch424 (not_no _)
                replace r_b_v := r_b_v.chg ch424 (not_no _)
                replace r_to_v := r_to_v.chg ch424 (not_no _)
                replace bx5 := bx5.chg ch424 (not_no _)
                replace bx10 := bx10.chg ch424 (not_no _)
                replace bx417 := bx417.chg ch424 (not_no _)
                replace o422 := o422.glue (γ := g416) (ren := (fun n => if n = 1 then 3 else 0)) (k := 3) fr420.col rfl rfl
                rw [← hg423] at o422
                have r425 := mark_sl o422.flat
                clear hg423
                refine x_two 3 5 rfl rfl (by kernel_rfl) rfl rfl ?_ ?_
                · skip
                  refine o_callx (e_call (vals := [Value.agg (List.toArray [Value.int .i64 b.1, b_v])]) Try.func16 bd16_t nm16_t rfl) (Twin_ok w418 b b_v (r_b_v).ro (by omega)) ?_
                  rintro ⟨d427, v429⟩ w426 ⟨fr428, o430⟩
                  obtain ⟨g431, hg431⟩ : ∃ q, q = glue w418.heap.size g423 d427 (fun n => if n = 1 then 4 else 0) := ⟨_, rfl⟩
                  have ch432 := chg_glue fr428.below g423 d427 (fun n => if n = 1 then 4 else 0)
                  rw [← hg431] at ch432
                  replace hbase := hbase.chg ch432 (not_no _)
                  replace r_a_v := r_a_v.chg ch432 (not_no _)
                  replace r_b_v := r_b_v.chg ch432 (not_no _)
                  replace r_to_v := r_to_v.chg ch432 (not_no _)
                  replace bx5 := bx5.chg ch432 (not_no _)
                  replace bx10 := bx10.chg ch432 (not_no _)
                  replace bx417 := bx417.chg ch432 (not_no _)
                  replace o422 := o422.chg ch432 (not_no _) (not_no _)
                  replace r425 := r425.chg ch432 (not_no _)
                  replace o430 := o430.glue (γ := g423) (ren := (fun n => if n = 1 then 4 else 0)) (k := 4) fr428.col rfl rfl
                  rw [← hg431] at o430
                  have r433 := mark_sl o430.flat
                  clear hg431
                  refine x_one 5 rfl (by kernel_rfl) rfl ?_
                  refine o_alloc g431 (is 6) (6, 0) rfl tp24_t ?_
                  intro g437 w434 b436 ch435 bx438
                  replace hbase := hbase.chg ch435 (not_no _)
                  replace r_a_v := r_a_v.chg ch435 (not_no _)
                  replace r_b_v := r_b_v.chg ch435 (not_no _)
                  replace r_to_v := r_to_v.chg ch435 (not_no _)
                  replace bx5 := bx5.chg ch435 (not_no _)
                  replace bx10 := bx10.chg ch435 (not_no _)
                  replace bx417 := bx417.chg ch435 (not_no _)
                  replace o422 := o422.chg ch435 (not_no _) (not_no _)
                  replace r425 := r425.chg ch435 (not_no _)
                  replace o430 := o430.chg ch435 (not_no _) (not_no _)
                  replace r433 := r433.chg ch435 (not_no _)
                  replace bx438 : Bx g437 (is 6) w434 b436 [Value.int .i64 0, Value.slice none 0 0] := bx438
                  refine x_one 6 rfl (by kernel_rfl) rfl ?_
                  refine o_store_bx (cs' := [Value.int .i64 a.1, v421]) tp24_t rfl rfl bx417 rfl (Nat.le_of_ble_eq_true rfl) (AllOne.all (.cons rfl (.cons (sl_one r425) .nil))) rfl ?_
                  intro w439 ch440 bx441
                  replace hbase := hbase.chg ch440 (is_ne rfl)
                  replace r_a_v := r_a_v.chg ch440 (is_ne rfl)
                  replace r_b_v := r_b_v.chg ch440 (is_ne rfl)
                  replace r_to_v := r_to_v.chg ch440 (is_ne rfl)
                  replace bx5 := bx5.chg ch440 (is_ne rfl)
                  replace bx10 := bx10.chg ch440 (is_ne rfl)
                  replace o422 := o422.chg ch440 (is_ne rfl) (is_ne rfl)
                  replace r425 := r425.chg ch440 (is_ne rfl)
                  replace o430 := o430.chg ch440 (is_ne rfl) (is_ne rfl)
                  replace r433 := r433.chg ch440 (is_ne rfl)
                  replace bx438 := bx438.chg ch440 (is_ne rfl)
                  clear bx417
                  refine x_one 7 rfl (by kernel_rfl) rfl ?_
                  refine o_store_bx (cs' := [Value.int .i64 b.1, v429]) tp24_t rfl rfl bx438 rfl (Nat.le_of_ble_eq_true rfl) (AllOne.all (.cons rfl (.cons (sl_one r433) .nil))) rfl ?_
                  intro w442 ch443 bx444
                  replace hbase := hbase.chg ch443 (is_ne rfl)
                  replace r_a_v := r_a_v.chg ch443 (is_ne rfl)
                  replace r_b_v := r_b_v.chg ch443 (is_ne rfl)
                  replace r_to_v := r_to_v.chg ch443 (is_ne rfl)
                  replace bx5 := bx5.chg ch443 (is_ne rfl)
                  replace bx10 := bx10.chg ch443 (is_ne rfl)
                  replace o422 := o422.chg ch443 (is_ne rfl) (is_ne rfl)
                  replace r425 := r425.chg ch443 (is_ne rfl)
                  replace o430 := o430.chg ch443 (is_ne rfl) (is_ne rfl)
                  replace r433 := r433.chg ch443 (is_ne rfl)
                  replace bx441 := bx441.chg ch443 (is_ne rfl)
                  clear bx438
                  refine x_nil (by kernel_rfl) ?_
                  exact mid (b415, b436, v421, v429, g437) _ _ ⟨hbase, rfl, rfl, rfl, rfl, rfl, r_a_v, r_b_v, r_to_v, bx5, bx10, o422, r425, o430, r433, bx441, bx444⟩
                · skip
                  refine o_alloc g423 (is 6) (6, 0) rfl tp24_t ?_
                  intro g448 w445 b447 ch446 bx449
                  replace hbase := hbase.chg ch446 (not_no _)
                  replace r_a_v := r_a_v.chg ch446 (not_no _)
                  replace r_b_v := r_b_v.chg ch446 (not_no _)
                  replace r_to_v := r_to_v.chg ch446 (not_no _)
                  replace bx5 := bx5.chg ch446 (not_no _)
                  replace bx10 := bx10.chg ch446 (not_no _)
                  replace bx417 := bx417.chg ch446 (not_no _)
                  replace o422 := o422.chg ch446 (not_no _) (not_no _)
                  replace r425 := r425.chg ch446 (not_no _)
                  replace bx449 : Bx g448 (is 6) w445 b447 [Value.int .i64 0, Value.slice none 0 0] := bx449
                  refine x_one 3 rfl (by kernel_rfl) rfl ?_
                  refine o_callx (e_call (vals := [Value.agg (List.toArray [Value.int .i64 b.1, b_v])]) Try.func16 bd16_t nm16_t rfl) (Twin_ok w445 b b_v (r_b_v).ro (by omega)) ?_
                  rintro ⟨d451, v453⟩ w450 ⟨fr452, o454⟩
                  obtain ⟨g455, hg455⟩ : ∃ q, q = glue w445.heap.size g448 d451 (fun n => if n = 1 then 4 else 0) := ⟨_, rfl⟩
                  have ch456 := chg_glue fr452.below g448 d451 (fun n => if n = 1 then 4 else 0)
                  rw [← hg455] at ch456
                  replace hbase := hbase.chg ch456 (not_no _)
                  replace r_a_v := r_a_v.chg ch456 (not_no _)
                  replace r_b_v := r_b_v.chg ch456 (not_no _)
                  replace r_to_v := r_to_v.chg ch456 (not_no _)
                  replace bx5 := bx5.chg ch456 (not_no _)
                  replace bx10 := bx10.chg ch456 (not_no _)
                  replace bx417 := bx417.chg ch456 (not_no _)
                  replace o422 := o422.chg ch456 (not_no _) (not_no _)
                  replace r425 := r425.chg ch456 (not_no _)
                  replace bx449 := bx449.chg ch456 (not_no _)
                  replace o454 := o454.glue (γ := g448) (ren := (fun n => if n = 1 then 4 else 0)) (k := 4) fr452.col rfl rfl
                  rw [← hg455] at o454
                  have r457 := mark_sl o454.flat
                  clear hg455
                  refine x_one 6 rfl (by kernel_rfl) rfl ?_
                  refine o_store_bx (cs' := [Value.int .i64 a.1, v421]) tp24_t rfl rfl bx417 rfl (Nat.le_of_ble_eq_true rfl) (AllOne.all (.cons rfl (.cons (sl_one r425) .nil))) rfl ?_
                  intro w458 ch459 bx460
                  replace hbase := hbase.chg ch459 (is_ne rfl)
                  replace r_a_v := r_a_v.chg ch459 (is_ne rfl)
                  replace r_b_v := r_b_v.chg ch459 (is_ne rfl)
                  replace r_to_v := r_to_v.chg ch459 (is_ne rfl)
                  replace bx5 := bx5.chg ch459 (is_ne rfl)
                  replace bx10 := bx10.chg ch459 (is_ne rfl)
                  replace o422 := o422.chg ch459 (is_ne rfl) (is_ne rfl)
                  replace r425 := r425.chg ch459 (is_ne rfl)
                  replace bx449 := bx449.chg ch459 (is_ne rfl)
                  replace o454 := o454.chg ch459 (is_ne rfl) (is_ne rfl)
                  replace r457 := r457.chg ch459 (is_ne rfl)
                  clear bx417
                  refine x_one 7 rfl (by kernel_rfl) rfl ?_
                  refine o_store_bx (cs' := [Value.int .i64 b.1, v453]) tp24_t rfl rfl bx449 rfl (Nat.le_of_ble_eq_true rfl) (AllOne.all (.cons rfl (.cons (sl_one r457) .nil))) rfl ?_
                  intro w461 ch462 bx463
                  replace hbase := hbase.chg ch462 (is_ne rfl)
                  replace r_a_v := r_a_v.chg ch462 (is_ne rfl)
                  replace r_b_v := r_b_v.chg ch462 (is_ne rfl)
                  replace r_to_v := r_to_v.chg ch462 (is_ne rfl)
                  replace bx5 := bx5.chg ch462 (is_ne rfl)
                  replace bx10 := bx10.chg ch462 (is_ne rfl)
                  replace o422 := o422.chg ch462 (is_ne rfl) (is_ne rfl)
                  replace r425 := r425.chg ch462 (is_ne rfl)
                  replace o454 := o454.chg ch462 (is_ne rfl) (is_ne rfl)
                  replace r457 := r457.chg ch462 (is_ne rfl)
                  replace bx460 := bx460.chg ch462 (is_ne rfl)
                  clear bx449
                  refine x_nil (by kernel_rfl) ?_
                  exact mid (b415, b447, v421, v453, g455) _ _ ⟨hbase, rfl, rfl, rfl, rfl, rfl, r_a_v, r_b_v, r_to_v, bx5, bx10, o422, r425, o454, r457, bx460, bx463⟩
              · skip
                refine o_alloc g416 (is 6) (6, 0) rfl tp24_t ?_
                intro g467 w464 b466 ch465 bx468
                replace hbase := hbase.chg ch465 (not_no _)
                replace r_a_v := r_a_v.chg ch465 (not_no _)
                replace r_b_v := r_b_v.chg ch465 (not_no _)
                replace r_to_v := r_to_v.chg ch465 (not_no _)
                replace bx5 := bx5.chg ch465 (not_no _)
                replace bx10 := bx10.chg ch465 (not_no _)
                replace bx417 := bx417.chg ch465 (not_no _)
                replace bx468 : Bx g467 (is 6) w464 b466 [Value.int .i64 0, Value.slice none 0 0] := bx468
                refine x_one 1 rfl (by kernel_rfl) rfl ?_
                refine o_callx (e_call (vals := [Value.agg (List.toArray [Value.int .i64 a.1, a_v])]) Try.func16 bd16_t nm16_t rfl) (Twin_ok w464 a a_v (r_a_v).ro (by omega)) ?_
                rintro ⟨d470, v472⟩ w469 ⟨fr471, o473⟩
                obtain ⟨g474, hg474⟩ : ∃ q, q = glue w464.heap.size g467 d470 (fun n => if n = 1 then 3 else 0) := ⟨_, rfl⟩
                have ch475 := chg_glue fr471.below g467 d470 (fun n => if n = 1 then 3 else 0)
                rw [← hg474] at ch475
                replace hbase := hbase.chg ch475 (not_no _)
                replace r_a_v := r_a_v.chg ch475 (not_no _)
                replace r_b_v := r_b_v.chg ch475 (not_no _)
                replace r_to_v := r_to_v.chg ch475 (not_no _)
                replace bx5 := bx5.chg ch475 (not_no _)
                replace bx10 := bx10.chg ch475 (not_no _)
                replace bx417 := bx417.chg ch475 (not_no _)
                replace bx468 := bx468.chg ch475 (not_no _)
                replace o473 := o473.glue (γ := g467) (ren := (fun n => if n = 1 then 3 else 0)) (k := 3) fr471.col rfl rfl
                rw [← hg474] at o473
                have r476 := mark_sl o473.flat
                clear hg474
                refine x_one 3 rfl (by kernel_rfl) rfl ?_
                refine o_callx (e_call (vals := [Value.agg (List.toArray [Value.int .i64 b.1, b_v])]) Try.func16 bd16_t nm16_t rfl) (Twin_ok w469 b b_v (r_b_v).ro (by omega)) ?_
                rintro ⟨d478, v480⟩ w477 ⟨fr479, o481⟩
                obtain ⟨g482, hg482⟩ : ∃ q, q = glue w469.heap.size g474 d478 (fun n => if n = 1 then 4 else 0) := ⟨_, rfl⟩
                have ch483 := chg_glue fr479.below g474 d478 (fun n => if n = 1 then 4 else 0)
                rw [← hg482] at ch483
                replace hbase := hbase.chg ch483 (not_no _)
                replace r_a_v := r_a_v.chg ch483 (not_no _)
                replace r_b_v := r_b_v.chg ch483 (not_no _)
                replace r_to_v := r_to_v.chg ch483 (not_no _)
                replace bx5 := bx5.chg ch483 (not_no _)
                replace bx10 := bx10.chg ch483 (not_no _)
                replace bx417 := bx417.chg ch483 (not_no _)
                replace bx468 := bx468.chg ch483 (not_no _)
                replace o473 := o473.chg ch483 (not_no _) (not_no _)
                replace r476 := r476.chg ch483 (not_no _)
                replace o481 := o481.glue (γ := g474) (ren := (fun n => if n = 1 then 4 else 0)) (k := 4) fr479.col rfl rfl
                rw [← hg482] at o481
                have r484 := mark_sl o481.flat
                clear hg482
                refine x_one 6 rfl (by kernel_rfl) rfl ?_
                refine o_store_bx (cs' := [Value.int .i64 a.1, v472]) tp24_t rfl rfl bx417 rfl (Nat.le_of_ble_eq_true rfl) (AllOne.all (.cons rfl (.cons (sl_one r476) .nil))) rfl ?_
                intro w485 ch486 bx487
                replace hbase := hbase.chg ch486 (is_ne rfl)
                replace r_a_v := r_a_v.chg ch486 (is_ne rfl)
                replace r_b_v := r_b_v.chg ch486 (is_ne rfl)
                replace r_to_v := r_to_v.chg ch486 (is_ne rfl)
                replace bx5 := bx5.chg ch486 (is_ne rfl)
                replace bx10 := bx10.chg ch486 (is_ne rfl)
                replace bx468 := bx468.chg ch486 (is_ne rfl)
                replace o473 := o473.chg ch486 (is_ne rfl) (is_ne rfl)
                replace r476 := r476.chg ch486 (is_ne rfl)
                replace o481 := o481.chg ch486 (is_ne rfl) (is_ne rfl)
                replace r484 := r484.chg ch486 (is_ne rfl)
                clear bx417
                refine x_one 7 rfl (by kernel_rfl) rfl ?_
                refine o_store_bx (cs' := [Value.int .i64 b.1, v480]) tp24_t rfl rfl bx468 rfl (Nat.le_of_ble_eq_true rfl) (AllOne.all (.cons rfl (.cons (sl_one r484) .nil))) rfl ?_
                intro w488 ch489 bx490
                replace hbase := hbase.chg ch489 (is_ne rfl)
                replace r_a_v := r_a_v.chg ch489 (is_ne rfl)
                replace r_b_v := r_b_v.chg ch489 (is_ne rfl)
                replace r_to_v := r_to_v.chg ch489 (is_ne rfl)
                replace bx5 := bx5.chg ch489 (is_ne rfl)
                replace bx10 := bx10.chg ch489 (is_ne rfl)
                replace o473 := o473.chg ch489 (is_ne rfl) (is_ne rfl)
                replace r476 := r476.chg ch489 (is_ne rfl)
                replace o481 := o481.chg ch489 (is_ne rfl) (is_ne rfl)
                replace r484 := r484.chg ch489 (is_ne rfl)
                replace bx487 := bx487.chg ch489 (is_ne rfl)
                clear bx468
                refine x_nil (by kernel_rfl) ?_
                exact mid (b415, b466, v472, v480, g482) _ _ ⟨hbase, rfl, rfl, rfl, rfl, rfl, r_a_v, r_b_v, r_to_v, bx5, bx10, o473, r476, o481, r484, bx487, bx490⟩
            · skip
              refine o_alloc g9 (is 6) (6, 0) rfl tp24_t ?_
              intro g494 w491 b493 ch492 bx495
              replace hbase := hbase.chg ch492 (not_no _)
              replace r_a_v := r_a_v.chg ch492 (not_no _)
              replace r_b_v := r_b_v.chg ch492 (not_no _)
              replace r_to_v := r_to_v.chg ch492 (not_no _)
              replace bx5 := bx5.chg ch492 (not_no _)
              replace bx10 := bx10.chg ch492 (not_no _)
              replace bx495 : Bx g494 (is 6) w491 b493 [Value.int .i64 0, Value.slice none 0 0] := bx495
              refine x_two 1 4 rfl rfl (by kernel_rfl) rfl rfl ?_ ?_
              · skip
                refine o_callx (e_call (vals := [Value.agg (List.toArray [Value.int .i64 a.1, a_v])]) Try.func16 bd16_t nm16_t rfl) (Twin_ok w491 a a_v (r_a_v).ro (by omega)) ?_
                rintro ⟨d497, v499⟩ w496 ⟨fr498, o500⟩
                obtain ⟨g501, hg501⟩ : ∃ q, q = glue w491.heap.size g494 d497 (fun n => if n = 1 then 3 else 0) := ⟨_, rfl⟩
                have ch502 := chg_glue fr498.below g494 d497 (fun n => if n = 1 then 3 else 0)
                rw [← hg501] at ch502
                replace hbase := hbase.chg ch502 (not_no _)
                replace r_a_v := r_a_v.chg ch502 (not_no _)
                replace r_b_v := r_b_v.chg ch502 (not_no _)
                replace r_to_v := r_to_v.chg ch502 (not_no _)
                replace bx5 := bx5.chg ch502 (not_no _)
                replace bx10 := bx10.chg ch502 (not_no _)
                replace bx495 := bx495.chg ch502 (not_no _)
                replace o500 := o500.glue (γ := g494) (ren := (fun n => if n = 1 then 3 else 0)) (k := 3) fr498.col rfl rfl
                rw [← hg501] at o500
                have r503 := mark_sl o500.flat
                clear hg501
                refine x_two 3 4 rfl rfl (by kernel_rfl) rfl rfl ?_ ?_
                · skip
                  refine o_callx (e_call (vals := [Value.agg (List.toArray [Value.int .i64 b.1, b_v])]) Try.func16 bd16_t nm16_t rfl) (Twin_ok w496 b b_v (r_b_v).ro (by omega)) ?_
                  rintro ⟨d505, v507⟩ w504 ⟨fr506, o508⟩
                  obtain ⟨g509, hg509⟩ : ∃ q, q = glue w496.heap.size g501 d505 (fun n => if n = 1 then 4 else 0) := ⟨_, rfl⟩
                  have ch510 := chg_glue fr506.below g501 d505 (fun n => if n = 1 then 4 else 0)
                  rw [← hg509] at ch510
                  replace hbase := hbase.chg ch510 (not_no _)
                  replace r_a_v := r_a_v.chg ch510 (not_no _)
                  replace r_b_v := r_b_v.chg ch510 (not_no _)
                  replace r_to_v := r_to_v.chg ch510 (not_no _)
                  replace bx5 := bx5.chg ch510 (not_no _)
                  replace bx10 := bx10.chg ch510 (not_no _)
                  replace bx495 := bx495.chg ch510 (not_no _)
                  replace o500 := o500.chg ch510 (not_no _) (not_no _)
                  replace r503 := r503.chg ch510 (not_no _)
                  replace o508 := o508.glue (γ := g501) (ren := (fun n => if n = 1 then 4 else 0)) (k := 4) fr506.col rfl rfl
                  rw [← hg509] at o508
                  have r511 := mark_sl o508.flat
                  clear hg509
                  refine x_one 4 rfl (by kernel_rfl) rfl ?_
                  refine o_alloc g509 (is 5) (5, 0) rfl tp24_t ?_
                  intro g515 w512 b514 ch513 bx516
                  replace hbase := hbase.chg ch513 (not_no _)
                  replace r_a_v := r_a_v.chg ch513 (not_no _)
                  replace r_b_v := r_b_v.chg ch513 (not_no _)
                  replace r_to_v := r_to_v.chg ch513 (not_no _)
                  replace bx5 := bx5.chg ch513 (not_no _)
                  replace bx10 := bx10.chg ch513 (not_no _)
                  replace bx495 := bx495.chg ch513 (not_no _)
                  replace o500 := o500.chg ch513 (not_no _) (not_no _)
                  replace r503 := r503.chg ch513 (not_no _)
                  replace o508 := o508.chg ch513 (not_no _) (not_no _)
                  replace r511 := r511.chg ch513 (not_no _)
                  replace bx516 : Bx g515 (is 5) w512 b514 [Value.int .i64 0, Value.slice none 0 0] := bx516
                  refine x_one 6 rfl (by kernel_rfl) rfl ?_
                  refine o_store_bx (cs' := [Value.int .i64 a.1, v499]) tp24_t rfl rfl bx516 rfl (Nat.le_of_ble_eq_true rfl) (AllOne.all (.cons rfl (.cons (sl_one r503) .nil))) rfl ?_
                  intro w517 ch518 bx519
                  replace hbase := hbase.chg ch518 (is_ne rfl)
                  replace r_a_v := r_a_v.chg ch518 (is_ne rfl)
                  replace r_b_v := r_b_v.chg ch518 (is_ne rfl)
                  replace r_to_v := r_to_v.chg ch518 (is_ne rfl)
                  replace bx5 := bx5.chg ch518 (is_ne rfl)
                  replace bx10 := bx10.chg ch518 (is_ne rfl)
                  replace bx495 := bx495.chg ch518 (is_ne rfl)
                  replace o500 := o500.chg ch518 (is_ne rfl) (is_ne rfl)
                  replace r503 := r503.chg ch518 (is_ne rfl)
                  replace o508 := o508.chg ch518 (is_ne rfl) (is_ne rfl)
                  replace r511 := r511.chg ch518 (is_ne rfl)
                  clear bx516
                  refine x_one 7 rfl (by kernel_rfl) rfl ?_
                  refine o_store_bx (cs' := [Value.int .i64 b.1, v507]) tp24_t rfl rfl bx495 rfl (Nat.le_of_ble_eq_true rfl) (AllOne.all (.cons rfl (.cons (sl_one r511) .nil))) rfl ?_
                  intro w520 ch521 bx522
                  replace hbase := hbase.chg ch521 (is_ne rfl)
                  replace r_a_v := r_a_v.chg ch521 (is_ne rfl)
                  replace r_b_v := r_b_v.chg ch521 (is_ne rfl)
                  replace r_to_v := r_to_v.chg ch521 (is_ne rfl)
                  replace bx5 := bx5.chg ch521 (is_ne rfl)
                  replace bx10 := bx10.chg ch521 (is_ne rfl)
                  replace o500 := o500.chg ch521 (is_ne rfl) (is_ne rfl)
                  replace r503 := r503.chg ch521 (is_ne rfl)
                  replace o508 := o508.chg ch521 (is_ne rfl) (is_ne rfl)
                  replace r511 := r511.chg ch521 (is_ne rfl)
                  replace bx519 := bx519.chg ch521 (is_ne rfl)
                  clear bx495
                  refine x_nil (by kernel_rfl) ?_
                  exact mid (b514, b493, v499, v507, g515) _ _ ⟨hbase, rfl, rfl, rfl, rfl, rfl, r_a_v, r_b_v, r_to_v, bx5, bx10, o500, r503, o508, r511, bx519, bx522⟩
                · skip
                  refine o_alloc g501 (is 5) (5, 0) rfl tp24_t ?_
                  intro g526 w523 b525 ch524 bx527
                  replace hbase := hbase.chg ch524 (not_no _)
                  replace r_a_v := r_a_v.chg ch524 (not_no _)
                  replace r_b_v := r_b_v.chg ch524 (not_no _)
                  replace r_to_v := r_to_v.chg ch524 (not_no _)
                  replace bx5 := bx5.chg ch524 (not_no _)
                  replace bx10 := bx10.chg ch524 (not_no _)
                  replace bx495 := bx495.chg ch524 (not_no _)
                  replace o500 := o500.chg ch524 (not_no _) (not_no _)
                  replace r503 := r503.chg ch524 (not_no _)
                  replace bx527 : Bx g526 (is 5) w523 b525 [Value.int .i64 0, Value.slice none 0 0] := bx527
                  refine x_one 3 rfl (by kernel_rfl) rfl ?_
                  refine o_callx (e_call (vals := [Value.agg (List.toArray [Value.int .i64 b.1, b_v])]) Try.func16 bd16_t nm16_t rfl) (Twin_ok w523 b b_v (r_b_v).ro (by omega)) ?_
                  rintro ⟨d529, v531⟩ w528 ⟨fr530, o532⟩
                  obtain ⟨g533, hg533⟩ : ∃ q, q = glue w523.heap.size g526 d529 (fun n => if n = 1 then 4 else 0) := ⟨_, rfl⟩
                  have ch534 := chg_glue fr530.below g526 d529 (fun n => if n = 1 then 4 else 0)
                  rw [← hg533] at ch534
                  replace hbase := hbase.chg ch534 (not_no _)
                  replace r_a_v := r_a_v.chg ch534 (not_no _)
                  replace r_b_v := r_b_v.chg ch534 (not_no _)
                  replace r_to_v := r_to_v.chg ch534 (not_no _)
                  replace bx5 := bx5.chg ch534 (not_no _)
                  replace bx10 := bx10.chg ch534 (not_no _)
                  replace bx495 := bx495.chg ch534 (not_no _)
                  replace o500 := o500.chg ch534 (not_no _) (not_no _)
                  replace r503 := r503.chg ch534 (not_no _)
                  replace bx527 := bx527.chg ch534 (not_no _)
                  replace o532 := o532.glue (γ := g526) (ren := (fun n => if n = 1 then 4 else 0)) (k := 4) fr530.col rfl rfl
                  rw [← hg533] at o532
                  have r535 := mark_sl o532.flat
                  clear hg533
                  refine x_one 6 rfl (by kernel_rfl) rfl ?_
                  refine o_store_bx (cs' := [Value.int .i64 a.1, v499]) tp24_t rfl rfl bx527 rfl (Nat.le_of_ble_eq_true rfl) (AllOne.all (.cons rfl (.cons (sl_one r503) .nil))) rfl ?_
                  intro w536 ch537 bx538
                  replace hbase := hbase.chg ch537 (is_ne rfl)
                  replace r_a_v := r_a_v.chg ch537 (is_ne rfl)
                  replace r_b_v := r_b_v.chg ch537 (is_ne rfl)
                  replace r_to_v := r_to_v.chg ch537 (is_ne rfl)
                  replace bx5 := bx5.chg ch537 (is_ne rfl)
                  replace bx10 := bx10.chg ch537 (is_ne rfl)
                  replace bx495 := bx495.chg ch537 (is_ne rfl)
                  replace o500 := o500.chg ch537 (is_ne rfl) (is_ne rfl)
                  replace r503 := r503.chg ch537 (is_ne rfl)
                  replace o532 := o532.chg ch537 (is_ne rfl) (is_ne rfl)
                  replace r535 := r535.chg ch537 (is_ne rfl)
                  clear bx527
                  refine x_one 7 rfl (by kernel_rfl) rfl ?_
                  refine o_store_bx (cs' := [Value.int .i64 b.1, v531]) tp24_t rfl rfl bx495 rfl (Nat.le_of_ble_eq_true rfl) (AllOne.all (.cons rfl (.cons (sl_one r535) .nil))) rfl ?_
                  intro w539 ch540 bx541
                  replace hbase := hbase.chg ch540 (is_ne rfl)
                  replace r_a_v := r_a_v.chg ch540 (is_ne rfl)
                  replace r_b_v := r_b_v.chg ch540 (is_ne rfl)
                  replace r_to_v := r_to_v.chg ch540 (is_ne rfl)
                  replace bx5 := bx5.chg ch540 (is_ne rfl)
                  replace bx10 := bx10.chg ch540 (is_ne rfl)
                  replace o500 := o500.chg ch540 (is_ne rfl) (is_ne rfl)
                  replace r503 := r503.chg ch540 (is_ne rfl)
                  replace o532 := o532.chg ch540 (is_ne rfl) (is_ne rfl)
                  replace r535 := r535.chg ch540 (is_ne rfl)
                  replace bx538 := bx538.chg ch540 (is_ne rfl)
                  clear bx495
                  refine x_nil (by kernel_rfl) ?_
                  exact mid (b525, b493, v499, v531, g533) _ _ ⟨hbase, rfl, rfl, rfl, rfl, rfl, r_a_v, r_b_v, r_to_v, bx5, bx10, o500, r503, o532, r535, bx538, bx541⟩
              · skip
                refine o_alloc g494 (is 5) (5, 0) rfl tp24_t ?_
                intro g545 w542 b544 ch543 bx546
                replace hbase := hbase.chg ch543 (not_no _)
                replace r_a_v := r_a_v.chg ch543 (not_no _)
                replace r_b_v := r_b_v.chg ch543 (not_no _)
                replace r_to_v := r_to_v.chg ch543 (not_no _)
                replace bx5 := bx5.chg ch543 (not_no _)
                replace bx10 := bx10.chg ch543 (not_no _)
                replace bx495 := bx495.chg ch543 (not_no _)
                replace bx546 : Bx g545 (is 5) w542 b544 [Value.int .i64 0, Value.slice none 0 0] := bx546
                refine x_one 1 rfl (by kernel_rfl) rfl ?_
                refine o_callx (e_call (vals := [Value.agg (List.toArray [Value.int .i64 a.1, a_v])]) Try.func16 bd16_t nm16_t rfl) (Twin_ok w542 a a_v (r_a_v).ro (by omega)) ?_
                rintro ⟨d548, v550⟩ w547 ⟨fr549, o551⟩
                obtain ⟨g552, hg552⟩ : ∃ q, q = glue w542.heap.size g545 d548 (fun n => if n = 1 then 3 else 0) := ⟨_, rfl⟩
                have ch553 := chg_glue fr549.below g545 d548 (fun n => if n = 1 then 3 else 0)
                rw [← hg552] at ch553
                replace hbase := hbase.chg ch553 (not_no _)
                replace r_a_v := r_a_v.chg ch553 (not_no _)
                replace r_b_v := r_b_v.chg ch553 (not_no _)
                replace r_to_v := r_to_v.chg ch553 (not_no _)
                replace bx5 := bx5.chg ch553 (not_no _)
                replace bx10 := bx10.chg ch553 (not_no _)
                replace bx495 := bx495.chg ch553 (not_no _)
                replace bx546 := bx546.chg ch553 (not_no _)
                replace o551 := o551.glue (γ := g545) (ren := (fun n => if n = 1 then 3 else 0)) (k := 3) fr549.col rfl rfl
                rw [← hg552] at o551
                have r554 := mark_sl o551.flat
                clear hg552
                refine x_one 3 rfl (by kernel_rfl) rfl ?_
                refine o_callx (e_call (vals := [Value.agg (List.toArray [Value.int .i64 b.1, b_v])]) Try.func16 bd16_t nm16_t rfl) (Twin_ok w547 b b_v (r_b_v).ro (by omega)) ?_
                rintro ⟨d556, v558⟩ w555 ⟨fr557, o559⟩
                obtain ⟨g560, hg560⟩ : ∃ q, q = glue w547.heap.size g552 d556 (fun n => if n = 1 then 4 else 0) := ⟨_, rfl⟩
                have ch561 := chg_glue fr557.below g552 d556 (fun n => if n = 1 then 4 else 0)
                rw [← hg560] at ch561
                replace hbase := hbase.chg ch561 (not_no _)
                replace r_a_v := r_a_v.chg ch561 (not_no _)
                replace r_b_v := r_b_v.chg ch561 (not_no _)
                replace r_to_v := r_to_v.chg ch561 (not_no _)
                replace bx5 := bx5.chg ch561 (not_no _)
                replace bx10 := bx10.chg ch561 (not_no _)
                replace bx495 := bx495.chg ch561 (not_no _)
                replace bx546 := bx546.chg ch561 (not_no _)
                replace o551 := o551.chg ch561 (not_no _) (not_no _)
                replace r554 := r554.chg ch561 (not_no _)
                replace o559 := o559.glue (γ := g552) (ren := (fun n => if n = 1 then 4 else 0)) (k := 4) fr557.col rfl rfl
                rw [← hg560] at o559
                have r562 := mark_sl o559.flat
                clear hg560
                refine x_one 6 rfl (by kernel_rfl) rfl ?_
                refine o_store_bx (cs' := [Value.int .i64 a.1, v550]) tp24_t rfl rfl bx546 rfl (Nat.le_of_ble_eq_true rfl) (AllOne.all (.cons rfl (.cons (sl_one r554) .nil))) rfl ?_
                intro w563 ch564 bx565
                replace hbase := hbase.chg ch564 (is_ne rfl)
                replace r_a_v := r_a_v.chg ch564 (is_ne rfl)
                replace r_b_v := r_b_v.chg ch564 (is_ne rfl)
                replace r_to_v := r_to_v.chg ch564 (is_ne rfl)
                replace bx5 := bx5.chg ch564 (is_ne rfl)
                replace bx10 := bx10.chg ch564 (is_ne rfl)
                replace bx495 := bx495.chg ch564 (is_ne rfl)
                replace o551 := o551.chg ch564 (is_ne rfl) (is_ne rfl)
                replace r554 := r554.chg ch564 (is_ne rfl)
                replace o559 := o559.chg ch564 (is_ne rfl) (is_ne rfl)
                replace r562 := r562.chg ch564 (is_ne rfl)
                clear bx546
                refine x_one 7 rfl (by kernel_rfl) rfl ?_
                refine o_store_bx (cs' := [Value.int .i64 b.1, v558]) tp24_t rfl rfl bx495 rfl (Nat.le_of_ble_eq_true rfl) (AllOne.all (.cons rfl (.cons (sl_one r562) .nil))) rfl ?_
                intro w566 ch567 bx568
                replace hbase := hbase.chg ch567 (is_ne rfl)
                replace r_a_v := r_a_v.chg ch567 (is_ne rfl)
                replace r_b_v := r_b_v.chg ch567 (is_ne rfl)
                replace r_to_v := r_to_v.chg ch567 (is_ne rfl)
                replace bx5 := bx5.chg ch567 (is_ne rfl)
                replace bx10 := bx10.chg ch567 (is_ne rfl)
                replace o551 := o551.chg ch567 (is_ne rfl) (is_ne rfl)
                replace r554 := r554.chg ch567 (is_ne rfl)
                replace o559 := o559.chg ch567 (is_ne rfl) (is_ne rfl)
                replace r562 := r562.chg ch567 (is_ne rfl)
                replace bx565 := bx565.chg ch567 (is_ne rfl)
                clear bx495
                refine x_nil (by kernel_rfl) ?_
                exact mid (b544, b493, v550, v558, g560) _ _ ⟨hbase, rfl, rfl, rfl, rfl, rfl, r_a_v, r_b_v, r_to_v, bx5, bx10, o551, r554, o559, r562, bx565, bx568⟩
          · skip
            refine o_alloc g9 (is 5) (5, 0) rfl tp24_t ?_
            intro g572 w569 b571 ch570 bx573
            replace hbase := hbase.chg ch570 (not_no _)
            replace r_a_v := r_a_v.chg ch570 (not_no _)
            replace r_b_v := r_b_v.chg ch570 (not_no _)
            replace r_to_v := r_to_v.chg ch570 (not_no _)
            replace bx5 := bx5.chg ch570 (not_no _)
            replace bx10 := bx10.chg ch570 (not_no _)
            replace bx573 : Bx g572 (is 5) w569 b571 [Value.int .i64 0, Value.slice none 0 0] := bx573
            refine x_many 1 [2, 5] (by kernel_rfl) ⟨x_of 1 rfl (by kernel_rfl) rfl ?_, x_of 2 rfl (by kernel_rfl) rfl ?_, x_of 5 rfl (by kernel_rfl) rfl ?_, trivial⟩
            · skip
              refine o_callx (e_call (vals := [Value.agg (List.toArray [Value.int .i64 a.1, a_v])]) Try.func16 bd16_t nm16_t rfl) (Twin_ok w569 a a_v (r_a_v).ro (by omega)) ?_
              rintro ⟨d575, v577⟩ w574 ⟨fr576, o578⟩
              obtain ⟨g579, hg579⟩ : ∃ q, q = glue w569.heap.size g572 d575 (fun n => if n = 1 then 3 else 0) := ⟨_, rfl⟩
              have ch580 := chg_glue fr576.below g572 d575 (fun n => if n = 1 then 3 else 0)
              rw [← hg579] at ch580
              replace hbase := hbase.chg ch580 (not_no _)
              replace r_a_v := r_a_v.chg ch580 (not_no _)
              replace r_b_v := r_b_v.chg ch580 (not_no _)
              replace r_to_v := r_to_v.chg ch580 (not_no _)
              replace bx5 := bx5.chg ch580 (not_no _)
              replace bx10 := bx10.chg ch580 (not_no _)
              replace bx573 := bx573.chg ch580 (not_no _)
              replace o578 := o578.glue (γ := g572) (ren := (fun n => if n = 1 then 3 else 0)) (k := 3) fr576.col rfl rfl
              rw [← hg579] at o578
              have r581 := mark_sl o578.flat
              clear hg579
              refine x_two 2 5 rfl rfl (by kernel_rfl) rfl rfl ?_ ?_
              · skip
                refine o_of_val (v := Value.agg (List.toArray [Value.int .i64 b.1, b_v])) (e_load_bxN (ds := [Value.int .i64 b.1, b_v]) tp24_t rfl bx10 rfl rfl) ?_
                refine x_two 3 5 rfl rfl (by kernel_rfl) rfl rfl ?_ ?_
                · skip
                  refine o_callx (e_call (vals := [Value.agg (List.toArray [Value.int .i64 b.1, b_v])]) Try.func16 bd16_t nm16_t rfl) (Twin_ok w574 b b_v (r_b_v).ro (by omega)) ?_
                  rintro ⟨d583, v585⟩ w582 ⟨fr584, o586⟩
                  obtain ⟨g587, hg587⟩ : ∃ q, q = glue w574.heap.size g579 d583 (fun n => if n = 1 then 4 else 0) := ⟨_, rfl⟩
                  have ch588 := chg_glue fr584.below g579 d583 (fun n => if n = 1 then 4 else 0)
                  rw [← hg587] at ch588
                  replace hbase := hbase.chg ch588 (not_no _)
                  replace r_a_v := r_a_v.chg ch588 (not_no _)
                  replace r_b_v := r_b_v.chg ch588 (not_no _)
                  replace r_to_v := r_to_v.chg ch588 (not_no _)
                  replace bx5 := bx5.chg ch588 (not_no _)
                  replace bx10 := bx10.chg ch588 (not_no _)
                  replace bx573 := bx573.chg ch588 (not_no _)
                  replace o578 := o578.chg ch588 (not_no _) (not_no _)
                  replace r581 := r581.chg ch588 (not_no _)
                  replace o586 := o586.glue (γ := g579) (ren := (fun n => if n = 1 then 4 else 0)) (k := 4) fr584.col rfl rfl
                  rw [← hg587] at o586
                  have r589 := mark_sl o586.flat
                  clear hg587
                  refine x_one 5 rfl (by kernel_rfl) rfl ?_
                  refine o_alloc g587 (is 6) (6, 0) rfl tp24_t ?_
                  intro g593 w590 b592 ch591 bx594
                  replace hbase := hbase.chg ch591 (not_no _)
                  replace r_a_v := r_a_v.chg ch591 (not_no _)
                  replace r_b_v := r_b_v.chg ch591 (not_no _)
                  replace r_to_v := r_to_v.chg ch591 (not_no _)
                  replace bx5 := bx5.chg ch591 (not_no _)
                  replace bx10 := bx10.chg ch591 (not_no _)
                  replace bx573 := bx573.chg ch591 (not_no _)
                  replace o578 := o578.chg ch591 (not_no _) (not_no _)
                  replace r581 := r581.chg ch591 (not_no _)
                  replace o586 := o586.chg ch591 (not_no _) (not_no _)
                  replace r589 := r589.chg ch591 (not_no _)
                  replace bx594 : Bx g593 (is 6) w590 b592 [Value.int .i64 0, Value.slice none 0 0] := bx594
                  refine x_one 6 rfl (by kernel_rfl) rfl ?_
                  refine o_store_bx (cs' := [Value.int .i64 a.1, v577]) tp24_t rfl rfl bx573 rfl (Nat.le_of_ble_eq_true rfl) (AllOne.all (.cons rfl (.cons (sl_one r581) .nil))) rfl ?_
                  intro w595 ch596 bx597
                  replace hbase := hbase.chg ch596 (is_ne rfl)
                  replace r_a_v := r_a_v.chg ch596 (is_ne rfl)
                  replace r_b_v := r_b_v.chg ch596 (is_ne rfl)
                  replace r_to_v := r_to_v.chg ch596 (is_ne rfl)
                  replace bx5 := bx5.chg ch596 (is_ne rfl)
                  replace bx10 := bx10.chg ch596 (is_ne rfl)
                  replace o578 := o578.chg ch596 (is_ne rfl) (is_ne rfl)
                  replace r581 := r581.chg ch596 (is_ne rfl)
                  replace o586 := o586.chg ch596 (is_ne rfl) (is_ne rfl)
                  replace r589 := r589.chg ch596 (is_ne rfl)
                  replace bx594 := bx594.chg ch596 (is_ne rfl)
                  clear bx573
                  refine x_one 7 rfl (by kernel_rfl) rfl ?_
                  refine o_store_bx (cs' := [Value.int .i64 b.1, v585]) tp24_t rfl rfl bx594 rfl (Nat.le_of_ble_eq_true rfl) (AllOne.all (.cons rfl (.cons (sl_one r589) .nil))) rfl ?_
                  intro w598 ch599 bx600
                  replace hbase := hbase.chg ch599 (is_ne rfl)
                  replace r_a_v := r_a_v.chg ch599 (is_ne rfl)
                  replace r_b_v := r_b_v.chg ch599 (is_ne rfl)
                  replace r_to_v := r_to_v.chg ch599 (is_ne rfl)
                  replace bx5 := bx5.chg ch599 (is_ne rfl)
                  replace bx10 := bx10.chg ch599 (is_ne rfl)
                  replace o578 := o578.chg ch599 (is_ne rfl) (is_ne rfl)
                  replace r581 := r581.chg ch599 (is_ne rfl)
                  replace o586 := o586.chg ch599 (is_ne rfl) (is_ne rfl)
                  replace r589 := r589.chg ch599 (is_ne rfl)
                  replace bx597 := bx597.chg ch599 (is_ne rfl)
                  clear bx594
                  refine x_nil (by kernel_rfl) ?_
                  exact mid (b571, b592, v577, v585, g593) _ _ ⟨hbase, rfl, rfl, rfl, rfl, rfl, r_a_v, r_b_v, r_to_v, bx5, bx10, o578, r581, o586, r589, bx597, bx600⟩
                · skip
                  refine o_alloc g579 (is 6) (6, 0) rfl tp24_t ?_
                  intro g604 w601 b603 ch602 bx605
                  replace hbase := hbase.chg ch602 (not_no _)
                  replace r_a_v := r_a_v.chg ch602 (not_no _)
                  replace r_b_v := r_b_v.chg ch602 (not_no _)
                  replace r_to_v := r_to_v.chg ch602 (not_no _)
                  replace bx5 := bx5.chg ch602 (not_no _)
                  replace bx10 := bx10.chg ch602 (not_no _)
                  replace bx573 := bx573.chg ch602 (not_no _)
                  replace o578 := o578.chg ch602 (not_no _) (not_no _)
                  replace r581 := r581.chg ch602 (not_no _)
                  replace bx605 : Bx g604 (is 6) w601 b603 [Value.int .i64 0, Value.slice none 0 0] := bx605
                  refine x_one 3 rfl (by kernel_rfl) rfl ?_
                  refine o_callx (e_call (vals := [Value.agg (List.toArray [Value.int .i64 b.1, b_v])]) Try.func16 bd16_t nm16_t rfl) (Twin_ok w601 b b_v (r_b_v).ro (by omega)) ?_
                  rintro ⟨d607, v609⟩ w606 ⟨fr608, o610⟩
                  obtain ⟨g611, hg611⟩ : ∃ q, q = glue w601.heap.size g604 d607 (fun n => if n = 1 then 4 else 0) := ⟨_, rfl⟩
                  have ch612 := chg_glue fr608.below g604 d607 (fun n => if n = 1 then 4 else 0)
                  rw [← hg611] at ch612
                  replace hbase := hbase.chg ch612 (not_no _)
                  replace r_a_v := r_a_v.chg ch612 (not_no _)
                  replace r_b_v := r_b_v.chg ch612 (not_no _)
                  replace r_to_v := r_to_v.chg ch612 (not_no _)
                  replace bx5 := bx5.chg ch612 (not_no _)
                  replace bx10 := bx10.chg ch612 (not_no _)
                  replace bx573 := bx573.chg ch612 (not_no _)
                  replace o578 := o578.chg ch612 (not_no _) (not_no _)
                  replace r581 := r581.chg ch612 (not_no _)
                  replace bx605 := bx605.chg ch612 (not_no _)
                  replace o610 := o610.glue (γ := g604) (ren := (fun n => if n = 1 then 4 else 0)) (k := 4) fr608.col rfl rfl
                  rw [← hg611] at o610
                  have r613 := mark_sl o610.flat
                  clear hg611
                  refine x_one 6 rfl (by kernel_rfl) rfl ?_
                  refine o_store_bx (cs' := [Value.int .i64 a.1, v577]) tp24_t rfl rfl bx573 rfl (Nat.le_of_ble_eq_true rfl) (AllOne.all (.cons rfl (.cons (sl_one r581) .nil))) rfl ?_
                  intro w614 ch615 bx616
                  replace hbase := hbase.chg ch615 (is_ne rfl)
                  replace r_a_v := r_a_v.chg ch615 (is_ne rfl)
                  replace r_b_v := r_b_v.chg ch615 (is_ne rfl)
                  replace r_to_v := r_to_v.chg ch615 (is_ne rfl)
                  replace bx5 := bx5.chg ch615 (is_ne rfl)
                  replace bx10 := bx10.chg ch615 (is_ne rfl)
                  replace o578 := o578.chg ch615 (is_ne rfl) (is_ne rfl)
                  replace r581 := r581.chg ch615 (is_ne rfl)
                  replace bx605 := bx605.chg ch615 (is_ne rfl)
                  replace o610 := o610.chg ch615 (is_ne rfl) (is_ne rfl)
                  replace r613 := r613.chg ch615 (is_ne rfl)
                  clear bx573
                  refine x_one 7 rfl (by kernel_rfl) rfl ?_
                  refine o_store_bx (cs' := [Value.int .i64 b.1, v609]) tp24_t rfl rfl bx605 rfl (Nat.le_of_ble_eq_true rfl) (AllOne.all (.cons rfl (.cons (sl_one r613) .nil))) rfl ?_
                  intro w617 ch618 bx619
                  replace hbase := hbase.chg ch618 (is_ne rfl)
                  replace r_a_v := r_a_v.chg ch618 (is_ne rfl)
                  replace r_b_v := r_b_v.chg ch618 (is_ne rfl)
                  replace r_to_v := r_to_v.chg ch618 (is_ne rfl)
                  replace bx5 := bx5.chg ch618 (is_ne rfl)
                  replace bx10 := bx10.chg ch618 (is_ne rfl)
                  replace o578 := o578.chg ch618 (is_ne rfl) (is_ne rfl)
                  replace r581 := r581.chg ch618 (is_ne rfl)
                  replace o610 := o610.chg ch618 (is_ne rfl) (is_ne rfl)
                  replace r613 := r613.chg ch618 (is_ne rfl)
                  replace bx616 := bx616.chg ch618 (is_ne rfl)
                  clear bx605
                  refine x_nil (by kernel_rfl) ?_
                  exact mid (b571, b603, v577, v609, g611) _ _ ⟨hbase, rfl, rfl, rfl, rfl, rfl, r_a_v, r_b_v, r_to_v, bx5, bx10, o578, r581, o610, r613, bx616, bx619⟩
              · skip
                refine o_alloc g579 (is 6) (6, 0) rfl tp24_t ?_
                intro g623 w620 b622 ch621 bx624
                replace hbase := hbase.chg ch621 (not_no _)
                replace r_a_v := r_a_v.chg ch621 (not_no _)
                replace r_b_v := r_b_v.chg ch621 (not_no _)
                replace r_to_v := r_to_v.chg ch621 (not_no _)
                replace bx5 := bx5.chg ch621 (not_no _)
                replace bx10 := bx10.chg ch621 (not_no _)
                replace bx573 := bx573.chg ch621 (not_no _)
                replace o578 := o578.chg ch621 (not_no _) (not_no _)
                replace r581 := r581.chg ch621 (not_no _)
                replace bx624 : Bx g623 (is 6) w620 b622 [Value.int .i64 0, Value.slice none 0 0] := bx624
                refine x_one 2 rfl (by kernel_rfl) rfl ?_
                refine o_of_val (v := Value.agg (List.toArray [Value.int .i64 b.1, b_v])) (e_load_bxN (ds := [Value.int .i64 b.1, b_v]) tp24_t rfl bx10 rfl rfl) ?_
                refine x_one 3 rfl (by kernel_rfl) rfl ?_
                refine o_callx (e_call (vals := [Value.agg (List.toArray [Value.int .i64 b.1, b_v])]) Try.func16 bd16_t nm16_t rfl) (Twin_ok w620 b b_v (r_b_v).ro (by omega)) ?_
                rintro ⟨d626, v628⟩ w625 ⟨fr627, o629⟩
                obtain ⟨g630, hg630⟩ : ∃ q, q = glue w620.heap.size g623 d626 (fun n => if n = 1 then 4 else 0) := ⟨_, rfl⟩
                have ch631 := chg_glue fr627.below g623 d626 (fun n => if n = 1 then 4 else 0)
                rw [← hg630] at ch631
                replace hbase := hbase.chg ch631 (not_no _)
                replace r_a_v := r_a_v.chg ch631 (not_no _)
                replace r_b_v := r_b_v.chg ch631 (not_no _)
                replace r_to_v := r_to_v.chg ch631 (not_no _)
                replace bx5 := bx5.chg ch631 (not_no _)
                replace bx10 := bx10.chg ch631 (not_no _)
                replace bx573 := bx573.chg ch631 (not_no _)
                replace o578 := o578.chg ch631 (not_no _) (not_no _)
                replace r581 := r581.chg ch631 (not_no _)
                replace bx624 := bx624.chg ch631 (not_no _)
                replace o629 := o629.glue (γ := g623) (ren := (fun n => if n = 1 then 4 else 0)) (k := 4) fr627.col rfl rfl
                rw [← hg630] at o629
                have r632 := mark_sl o629.flat
                clear hg630
                refine x_one 6 rfl (by kernel_rfl) rfl ?_
                refine o_store_bx (cs' := [Value.int .i64 a.1, v577]) tp24_t rfl rfl bx573 rfl (Nat.le_of_ble_eq_true rfl) (AllOne.all (.cons rfl (.cons (sl_one r581) .nil))) rfl ?_
                intro w633 ch634 bx635
                replace hbase := hbase.chg ch634 (is_ne rfl)
                replace r_a_v := r_a_v.chg ch634 (is_ne rfl)
                replace r_b_v := r_b_v.chg ch634 (is_ne rfl)
                replace r_to_v := r_to_v.chg ch634 (is_ne rfl)
                replace bx5 := bx5.chg ch634 (is_ne rfl)
                replace bx10 := bx10.chg ch634 (is_ne rfl)
                replace o578 := o578.chg ch634 (is_ne rfl) (is_ne rfl)
                replace r581 := r581.chg ch634 (is_ne rfl)
                replace bx624 := bx624.chg ch634 (is_ne rfl)
                replace o629 := o629.chg ch634 (is_ne rfl) (is_ne rfl)
                replace r632 := r632.chg ch634 (is_ne rfl)
                clear bx573
                refine x_one 7 rfl (by kernel_rfl) rfl ?_
                refine o_store_bx (cs' := [Value.int .i64 b.1, v628]) tp24_t rfl rfl bx624 rfl (Nat.le_of_ble_eq_true rfl) (AllOne.all (.cons rfl (.cons (sl_one r632) .nil))) rfl ?_
                intro w636 ch637 bx638
                replace hbase := hbase.chg ch637 (is_ne rfl)
                replace r_a_v := r_a_v.chg ch637 (is_ne rfl)
                replace r_b_v := r_b_v.chg ch637 (is_ne rfl)
                replace r_to_v := r_to_v.chg ch637 (is_ne rfl)
                replace bx5 := bx5.chg ch637 (is_ne rfl)
                replace bx10 := bx10.chg ch637 (is_ne rfl)
                replace o578 := o578.chg ch637 (is_ne rfl) (is_ne rfl)
                replace r581 := r581.chg ch637 (is_ne rfl)
                replace o629 := o629.chg ch637 (is_ne rfl) (is_ne rfl)
                replace r632 := r632.chg ch637 (is_ne rfl)
                replace bx635 := bx635.chg ch637 (is_ne rfl)
                clear bx624
                refine x_nil (by kernel_rfl) ?_
                exact mid (b571, b622, v577, v628, g630) _ _ ⟨hbase, rfl, rfl, rfl, rfl, rfl, r_a_v, r_b_v, r_to_v, bx5, bx10, o578, r581, o629, r632, bx635, bx638⟩
            · skip
              refine o_of_val (v := Value.agg (List.toArray [Value.int .i64 b.1, b_v])) (e_load_bxN (ds := [Value.int .i64 b.1, b_v]) tp24_t rfl bx10 rfl rfl) ?_
              refine x_two 1 5 rfl rfl (by kernel_rfl) rfl rfl ?_ ?_
              · skip
                refine o_callx (e_call (vals := [Value.agg (List.toArray [Value.int .i64 a.1, a_v])]) Try.func16 bd16_t nm16_t rfl) (Twin_ok w569 a a_v (r_a_v).ro (by omega)) ?_
                rintro ⟨d640, v642⟩ w639 ⟨fr641, o643⟩
                obtain ⟨g644, hg644⟩ : ∃ q, q = glue w569.heap.size g572 d640 (fun n => if n = 1 then 3 else 0) := ⟨_, rfl⟩
                have ch645 := chg_glue fr641.below g572 d640 (fun n => if n = 1 then 3 else 0)
                rw [← hg644] at ch645
                replace hbase := hbase.chg ch645 (not_no _)
                replace r_a_v := r_a_v.chg ch645 (not_no _)
                replace r_b_v := r_b_v.chg ch645 (not_no _)
                replace r_to_v := r_to_v.chg ch645 (not_no _)
                replace bx5 := bx5.chg ch645 (not_no _)
                replace bx10 := bx10.chg ch645 (not_no _)
                replace bx573 := bx573.chg ch645 (not_no _)
                replace o643 := o643.glue (γ := g572) (ren := (fun n => if n = 1 then 3 else 0)) (k := 3) fr641.col rfl rfl
                rw [← hg644] at o643
                have r646 := mark_sl o643.flat
                clear hg644
                refine x_two 3 5 rfl rfl (by kernel_rfl) rfl rfl ?_ ?_
                · skip
                  refine o_callx (e_call (vals := [Value.agg (List.toArray [Value.int .i64 b.1, b_v])]) Try.func16 bd16_t nm16_t rfl) (Twin_ok w639 b b_v (r_b_v).ro (by omega)) ?_
                  rintro ⟨d648, v650⟩ w647 ⟨fr649, o651⟩
                  obtain ⟨g652, hg652⟩ : ∃ q, q = glue w639.heap.size g644 d648 (fun n => if n = 1 then 4 else 0) := ⟨_, rfl⟩
                  have ch653 := chg_glue fr649.below g644 d648 (fun n => if n = 1 then 4 else 0)
                  rw [← hg652] at ch653
                  replace hbase := hbase.chg ch653 (not_no _)
                  replace r_a_v := r_a_v.chg ch653 (not_no _)
                  replace r_b_v := r_b_v.chg ch653 (not_no _)
                  replace r_to_v := r_to_v.chg ch653 (not_no _)
                  replace bx5 := bx5.chg ch653 (not_no _)
                  replace bx10 := bx10.chg ch653 (not_no _)
                  replace bx573 := bx573.chg ch653 (not_no _)
                  replace o643 := o643.chg ch653 (not_no _) (not_no _)
                  replace r646 := r646.chg ch653 (not_no _)
                  replace o651 := o651.glue (γ := g644) (ren := (fun n => if n = 1 then 4 else 0)) (k := 4) fr649.col rfl rfl
                  rw [← hg652] at o651
                  have r654 := mark_sl o651.flat
                  clear hg652
                  refine x_one 5 rfl (by kernel_rfl) rfl ?_
                  refine o_alloc g652 (is 6) (6, 0) rfl tp24_t ?_
                  intro g658 w655 b657 ch656 bx659
                  replace hbase := hbase.chg ch656 (not_no _)
                  replace r_a_v := r_a_v.chg ch656 (not_no _)
                  replace r_b_v := r_b_v.chg ch656 (not_no _)
                  replace r_to_v := r_to_v.chg ch656 (not_no _)
                  replace bx5 := bx5.chg ch656 (not_no _)
                  replace bx10 := bx10.chg ch656 (not_no _)
                  replace bx573 := bx573.chg ch656 (not_no _)
                  replace o643 := o643.chg ch656 (not_no _) (not_no _)
                  replace r646 := r646.chg ch656 (not_no _)
                  replace o651 := o651.chg ch656 (not_no _) (not_no _)
                  replace r654 := r654.chg ch656 (not_no _)
                  replace bx659 : Bx g658 (is 6) w655 b657 [Value.int .i64 0, Value.slice none 0 0] := bx659
                  refine x_one 6 rfl (by kernel_rfl) rfl ?_
                  refine o_store_bx (cs' := [Value.int .i64 a.1, v642]) tp24_t rfl rfl bx573 rfl (Nat.le_of_ble_eq_true rfl) (AllOne.all (.cons rfl (.cons (sl_one r646) .nil))) rfl ?_
                  intro w660 ch661 bx662
                  replace hbase := hbase.chg ch661 (is_ne rfl)
                  replace r_a_v := r_a_v.chg ch661 (is_ne rfl)
                  replace r_b_v := r_b_v.chg ch661 (is_ne rfl)
                  replace r_to_v := r_to_v.chg ch661 (is_ne rfl)
                  replace bx5 := bx5.chg ch661 (is_ne rfl)
                  replace bx10 := bx10.chg ch661 (is_ne rfl)
                  replace o643 := o643.chg ch661 (is_ne rfl) (is_ne rfl)
                  replace r646 := r646.chg ch661 (is_ne rfl)
                  replace o651 := o651.chg ch661 (is_ne rfl) (is_ne rfl)
                  replace r654 := r654.chg ch661 (is_ne rfl)
                  replace bx659 := bx659.chg ch661 (is_ne rfl)
                  clear bx573
                  refine x_one 7 rfl (by kernel_rfl) rfl ?_
                  refine o_store_bx (cs' := [Value.int .i64 b.1, v650]) tp24_t rfl rfl bx659 rfl (Nat.le_of_ble_eq_true rfl) (AllOne.all (.cons rfl (.cons (sl_one r654) .nil))) rfl ?_
                  intro w663 ch664 bx665
                  replace hbase := hbase.chg ch664 (is_ne rfl)
                  replace r_a_v := r_a_v.chg ch664 (is_ne rfl)
                  replace r_b_v := r_b_v.chg ch664 (is_ne rfl)
                  replace r_to_v := r_to_v.chg ch664 (is_ne rfl)
                  replace bx5 := bx5.chg ch664 (is_ne rfl)
                  replace bx10 := bx10.chg ch664 (is_ne rfl)
                  replace o643 := o643.chg ch664 (is_ne rfl) (is_ne rfl)
                  replace r646 := r646.chg ch664 (is_ne rfl)
                  replace o651 := o651.chg ch664 (is_ne rfl) (is_ne rfl)
                  replace r654 := r654.chg ch664 (is_ne rfl)
                  replace bx662 := bx662.chg ch664 (is_ne rfl)
                  clear bx659
                  refine x_nil (by kernel_rfl) ?_
                  exact mid (b571, b657, v642, v650, g658) _ _ ⟨hbase, rfl, rfl, rfl, rfl, rfl, r_a_v, r_b_v, r_to_v, bx5, bx10, o643, r646, o651, r654, bx662, bx665⟩
                · skip
                  refine o_alloc g644 (is 6) (6, 0) rfl tp24_t ?_
                  intro g669 w666 b668 ch667 bx670
                  replace hbase := hbase.chg ch667 (not_no _)
                  replace r_a_v := r_a_v.chg ch667 (not_no _)
                  replace r_b_v := r_b_v.chg ch667 (not_no _)
                  replace r_to_v := r_to_v.chg ch667 (not_no _)
                  replace bx5 := bx5.chg ch667 (not_no _)
                  replace bx10 := bx10.chg ch667 (not_no _)
                  replace bx573 := bx573.chg ch667 (not_no _)
                  replace o643 := o643.chg ch667 (not_no _) (not_no _)
                  replace r646 := r646.chg ch667 (not_no _)
                  replace bx670 : Bx g669 (is 6) w666 b668 [Value.int .i64 0, Value.slice none 0 0] := bx670
                  refine x_one 3 rfl (by kernel_rfl) rfl ?_
                  refine o_callx (e_call (vals := [Value.agg (List.toArray [Value.int .i64 b.1, b_v])]) Try.func16 bd16_t nm16_t rfl) (Twin_ok w666 b b_v (r_b_v).ro (by omega)) ?_
                  rintro ⟨d672, v674⟩ w671 ⟨fr673, o675⟩
                  obtain ⟨g676, hg676⟩ : ∃ q, q = glue w666.heap.size g669 d672 (fun n => if n = 1 then 4 else 0) := ⟨_, rfl⟩
                  have ch677 := chg_glue fr673.below g669 d672 (fun n => if n = 1 then 4 else 0)
                  rw [← hg676] at ch677
                  replace hbase := hbase.chg ch677 (not_no _)
                  replace r_a_v := r_a_v.chg ch677 (not_no _)
                  replace r_b_v := r_b_v.chg ch677 (not_no _)
                  replace r_to_v := r_to_v.chg ch677 (not_no _)
                  replace bx5 := bx5.chg ch677 (not_no _)
                  replace bx10 := bx10.chg ch677 (not_no _)
                  replace bx573 := bx573.chg ch677 (not_no _)
                  replace o643 := o643.chg ch677 (not_no _) (not_no _)
                  replace r646 := r646.chg ch677 (not_no _)
                  replace bx670 := bx670.chg ch677 (not_no _)
                  replace o675 := o675.glue (γ := g669) (ren := (fun n => if n = 1 then 4 else 0)) (k := 4) fr673.col rfl rfl
                  rw [← hg676] at o675
                  have r678 := mark_sl o675.flat
                  clear hg676
                  refine x_one 6 rfl (by kernel_rfl) rfl ?_
                  refine o_store_bx (cs' := [Value.int .i64 a.1, v642]) tp24_t rfl rfl bx573 rfl (Nat.le_of_ble_eq_true rfl) (AllOne.all (.cons rfl (.cons (sl_one r646) .nil))) rfl ?_
                  intro w679 ch680 bx681
                  replace hbase := hbase.chg ch680 (is_ne rfl)
                  replace r_a_v := r_a_v.chg ch680 (is_ne rfl)
                  replace r_b_v := r_b_v.chg ch680 (is_ne rfl)
                  replace r_to_v := r_to_v.chg ch680 (is_ne rfl)
                  replace bx5 := bx5.chg ch680 (is_ne rfl)
                  replace bx10 := bx10.chg ch680 (is_ne rfl)
                  replace o643 := o643.chg ch680 (is_ne rfl) (is_ne rfl)
                  replace r646 := r646.chg ch680 (is_ne rfl)
                  replace bx670 := bx670.chg ch680 (is_ne rfl)
                  replace o675 := o675.chg ch680 (is_ne rfl) (is_ne rfl)
                  replace r678 := r678.chg ch680 (is_ne rfl)
                  clear bx573
                  refine x_one 7 rfl (by kernel_rfl) rfl ?_
                  refine o_store_bx (cs' := [Value.int .i64 b.1, v674]) tp24_t rfl rfl bx670 rfl (Nat.le_of_ble_eq_true rfl) (AllOne.all (.cons rfl (.cons (sl_one r678) .nil))) rfl ?_
                  intro w682 ch683 bx684
                  replace hbase := hbase.chg ch683 (is_ne rfl)
                  replace r_a_v := r_a_v.chg ch683 (is_ne rfl)
                  replace r_b_v := r_b_v.chg ch683 (is_ne rfl)
                  replace r_to_v := r_to_v.chg ch683 (is_ne rfl)
                  replace bx5 := bx5.chg ch683 (is_ne rfl)
                  replace bx10 := bx10.chg ch683 (is_ne rfl)
                  replace o643 := o643.chg ch683 (is_ne rfl) (is_ne rfl)
                  replace r646 := r646.chg ch683 (is_ne rfl)
                  replace o675 := o675.chg ch683 (is_ne rfl) (is_ne rfl)
                  replace r678 := r678.chg ch683 (is_ne rfl)
                  replace bx681 := bx681.chg ch683 (is_ne rfl)
                  clear bx670
                  refine x_nil (by kernel_rfl) ?_
                  exact mid (b571, b668, v642, v674, g676) _ _ ⟨hbase, rfl, rfl, rfl, rfl, rfl, r_a_v, r_b_v, r_to_v, bx5, bx10, o643, r646, o675, r678, bx681, bx684⟩
              · skip
                refine o_alloc g572 (is 6) (6, 0) rfl tp24_t ?_
                intro g688 w685 b687 ch686 bx689
                replace hbase := hbase.chg ch686 (not_no _)
                replace r_a_v := r_a_v.chg ch686 (not_no _)
                replace r_b_v := r_b_v.chg ch686 (not_no _)
                replace r_to_v := r_to_v.chg ch686 (not_no _)
                replace bx5 := bx5.chg ch686 (not_no _)
                replace bx10 := bx10.chg ch686 (not_no _)
                replace bx573 := bx573.chg ch686 (not_no _)
                replace bx689 : Bx g688 (is 6) w685 b687 [Value.int .i64 0, Value.slice none 0 0] := bx689
                refine x_one 1 rfl (by kernel_rfl) rfl ?_
                refine o_callx (e_call (vals := [Value.agg (List.toArray [Value.int .i64 a.1, a_v])]) Try.func16 bd16_t nm16_t rfl) (Twin_ok w685 a a_v (r_a_v).ro (by omega)) ?_
                rintro ⟨d691, v693⟩ w690 ⟨fr692, o694⟩
                obtain ⟨g695, hg695⟩ : ∃ q, q = glue w685.heap.size g688 d691 (fun n => if n = 1 then 3 else 0) := ⟨_, rfl⟩
                have ch696 := chg_glue fr692.below g688 d691 (fun n => if n = 1 then 3 else 0)
                rw [← hg695] at ch696
                replace hbase := hbase.chg ch696 (not_no _)
                replace r_a_v := r_a_v.chg ch696 (not_no _)
                replace r_b_v := r_b_v.chg ch696 (not_no _)
                replace r_to_v := r_to_v.chg ch696 (not_no _)
                replace bx5 := bx5.chg ch696 (not_no _)
                replace bx10 := bx10.chg ch696 (not_no _)
                replace bx573 := bx573.chg ch696 (not_no _)
                replace bx689 := bx689.chg ch696 (not_no _)
                replace o694 := o694.glue (γ := g688) (ren := (fun n => if n = 1 then 3 else 0)) (k := 3) fr692.col rfl rfl
                rw [← hg695] at o694
                have r697 := mark_sl o694.flat
                clear hg695
                refine x_one 3 rfl (by kernel_rfl) rfl ?_
                refine o_callx (e_call (vals := [Value.agg (List.toArray [Value.int .i64 b.1, b_v])]) Try.func16 bd16_t nm16_t rfl) (Twin_ok w690 b b_v (r_b_v).ro (by omega)) ?_
                rintro ⟨d699, v701⟩ w698 ⟨fr700, o702⟩
                obtain ⟨g703, hg703⟩ : ∃ q, q = glue w690.heap.size g695 d699 (fun n => if n = 1 then 4 else 0) := ⟨_, rfl⟩
                have ch704 := chg_glue fr700.below g695 d699 (fun n => if n = 1 then 4 else 0)
                rw [← hg703] at ch704
                replace hbase := hbase.chg ch704 (not_no _)
                replace r_a_v := r_a_v.chg ch704 (not_no _)
                replace r_b_v := r_b_v.chg ch704 (not_no _)
                replace r_to_v := r_to_v.chg ch704 (not_no _)
                replace bx5 := bx5.chg ch704 (not_no _)
                replace bx10 := bx10.chg ch704 (not_no _)
                replace bx573 := bx573.chg ch704 (not_no _)
                replace bx689 := bx689.chg ch704 (not_no _)
                replace o694 := o694.chg ch704 (not_no _) (not_no _)
                replace r697 := r697.chg ch704 (not_no _)
                replace o702 := o702.glue (γ := g695) (ren := (fun n => if n = 1 then 4 else 0)) (k := 4) fr700.col rfl rfl
                rw [← hg703] at o702
                have r705 := mark_sl o702.flat
                clear hg703
                refine x_one 6 rfl (by kernel_rfl) rfl ?_
                refine o_store_bx (cs' := [Value.int .i64 a.1, v693]) tp24_t rfl rfl bx573 rfl (Nat.le_of_ble_eq_true rfl) (AllOne.all (.cons rfl (.cons (sl_one r697) .nil))) rfl ?_
                intro w706 ch707 bx708
                replace hbase := hbase.chg ch707 (is_ne rfl)
                replace r_a_v := r_a_v.chg ch707 (is_ne rfl)
                replace r_b_v := r_b_v.chg ch707 (is_ne rfl)
                replace r_to_v := r_to_v.chg ch707 (is_ne rfl)
                replace bx5 := bx5.chg ch707 (is_ne rfl)
                replace bx10 := bx10.chg ch707 (is_ne rfl)
                replace bx689 := bx689.chg ch707 (is_ne rfl)
                replace o694 := o694.chg ch707 (is_ne rfl) (is_ne rfl)
                replace r697 := r697.chg ch707 (is_ne rfl)
                replace o702 := o702.chg ch707 (is_ne rfl) (is_ne rfl)
                replace r705 := r705.chg ch707 (is_ne rfl)
                clear bx573
                refine x_one 7 rfl (by kernel_rfl) rfl ?_
                refine o_store_bx (cs' := [Value.int .i64 b.1, v701]) tp24_t rfl rfl bx689 rfl (Nat.le_of_ble_eq_true rfl) (AllOne.all (.cons rfl (.cons (sl_one r705) .nil))) rfl ?_
                intro w709 ch710 bx711
                replace hbase := hbase.chg ch710 (is_ne rfl)
                replace r_a_v := r_a_v.chg ch710 (is_ne rfl)
                replace r_b_v := r_b_v.chg ch710 (is_ne rfl)
                replace r_to_v := r_to_v.chg ch710 (is_ne rfl)
                replace bx5 := bx5.chg ch710 (is_ne rfl)
                replace bx10 := bx10.chg ch710 (is_ne rfl)
                replace o694 := o694.chg ch710 (is_ne rfl) (is_ne rfl)
                replace r697 := r697.chg ch710 (is_ne rfl)
                replace o702 := o702.chg ch710 (is_ne rfl) (is_ne rfl)
                replace r705 := r705.chg ch710 (is_ne rfl)
                replace bx708 := bx708.chg ch710 (is_ne rfl)
                clear bx689
                refine x_nil (by kernel_rfl) ?_
                exact mid (b571, b687, v693, v701, g703) _ _ ⟨hbase, rfl, rfl, rfl, rfl, rfl, r_a_v, r_b_v, r_to_v, bx5, bx10, o694, r697, o702, r705, bx708, bx711⟩
            · skip
              refine o_alloc g572 (is 6) (6, 0) rfl tp24_t ?_
              intro g715 w712 b714 ch713 bx716
              replace hbase := hbase.chg ch713 (not_no _)
              replace r_a_v := r_a_v.chg ch713 (not_no _)
              replace r_b_v := r_b_v.chg ch713 (not_no _)
              replace r_to_v := r_to_v.chg ch713 (not_no _)
              replace bx5 := bx5.chg ch713 (not_no _)
              replace bx10 := bx10.chg ch713 (not_no _)
              replace bx573 := bx573.chg ch713 (not_no _)
              replace bx716 : Bx g715 (is 6) w712 b714 [Value.int .i64 0, Value.slice none 0 0] := bx716
              refine x_two 1 2 rfl rfl (by kernel_rfl) rfl rfl ?_ ?_
              · skip
                refine o_callx (e_call (vals := [Value.agg (List.toArray [Value.int .i64 a.1, a_v])]) Try.func16 bd16_t nm16_t rfl) (Twin_ok w712 a a_v (r_a_v).ro (by omega)) ?_
                rintro ⟨d718, v720⟩ w717 ⟨fr719, o721⟩
                obtain ⟨g722, hg722⟩ : ∃ q, q = glue w712.heap.size g715 d718 (fun n => if n = 1 then 3 else 0) := ⟨_, rfl⟩
                have ch723 := chg_glue fr719.below g715 d718 (fun n => if n = 1 then 3 else 0)
                rw [← hg722] at ch723
                replace hbase := hbase.chg ch723 (not_no _)
                replace r_a_v := r_a_v.chg ch723 (not_no _)
                replace r_b_v := r_b_v.chg ch723 (not_no _)
                replace r_to_v := r_to_v.chg ch723 (not_no _)
                replace bx5 := bx5.chg ch723 (not_no _)
                replace bx10 := bx10.chg ch723 (not_no _)
                replace bx573 := bx573.chg ch723 (not_no _)
                replace bx716 := bx716.chg ch723 (not_no _)
                replace o721 := o721.glue (γ := g715) (ren := (fun n => if n = 1 then 3 else 0)) (k := 3) fr719.col rfl rfl
                rw [← hg722] at o721
                have r724 := mark_sl o721.flat
                clear hg722
                refine x_one 2 rfl (by kernel_rfl) rfl ?_
                refine o_of_val (v := Value.agg (List.toArray [Value.int .i64 b.1, b_v])) (e_load_bxN (ds := [Value.int .i64 b.1, b_v]) tp24_t rfl bx10 rfl rfl) ?_
                refine x_one 3 rfl (by kernel_rfl) rfl ?_
                refine o_callx (e_call (vals := [Value.agg (List.toArray [Value.int .i64 b.1, b_v])]) Try.func16 bd16_t nm16_t rfl) (Twin_ok w717 b b_v (r_b_v).ro (by omega)) ?_
                rintro ⟨d726, v728⟩ w725 ⟨fr727, o729⟩
                obtain ⟨g730, hg730⟩ : ∃ q, q = glue w717.heap.size g722 d726 (fun n => if n = 1 then 4 else 0) := ⟨_, rfl⟩
                have ch731 := chg_glue fr727.below g722 d726 (fun n => if n = 1 then 4 else 0)
                rw [← hg730] at ch731
                replace hbase := hbase.chg ch731 (not_no _)
                replace r_a_v := r_a_v.chg ch731 (not_no _)
                replace r_b_v := r_b_v.chg ch731 (not_no _)
                replace r_to_v := r_to_v.chg ch731 (not_no _)
                replace bx5 := bx5.chg ch731 (not_no _)
                replace bx10 := bx10.chg ch731 (not_no _)
                replace bx573 := bx573.chg ch731 (not_no _)
                replace bx716 := bx716.chg ch731 (not_no _)
                replace o721 := o721.chg ch731 (not_no _) (not_no _)
                replace r724 := r724.chg ch731 (not_no _)
                replace o729 := o729.glue (γ := g722) (ren := (fun n => if n = 1 then 4 else 0)) (k := 4) fr727.col rfl rfl
                rw [← hg730] at o729
                have r732 := mark_sl o729.flat
                clear hg730
                refine x_one 6 rfl (by kernel_rfl) rfl ?_
                refine o_store_bx (cs' := [Value.int .i64 a.1, v720]) tp24_t rfl rfl bx573 rfl (Nat.le_of_ble_eq_true rfl) (AllOne.all (.cons rfl (.cons (sl_one r724) .nil))) rfl ?_
                intro w733 ch734 bx735
                replace hbase := hbase.chg ch734 (is_ne rfl)
                replace r_a_v := r_a_v.chg ch734 (is_ne rfl)
                replace r_b_v := r_b_v.chg ch734 (is_ne rfl)
                replace r_to_v := r_to_v.chg ch734 (is_ne rfl)
                replace bx5 := bx5.chg ch734 (is_ne rfl)
                replace bx10 := bx10.chg ch734 (is_ne rfl)
                replace bx716 := bx716.chg ch734 (is_ne rfl)
                replace o721 := o721.chg ch734 (is_ne rfl) (is_ne rfl)
                replace r724 := r724.chg ch734 (is_ne rfl)
                replace o729 := o729.chg ch734 (is_ne rfl) (is_ne rfl)
                replace r732 := r732.chg ch734 (is_ne rfl)
                clear bx573
                refine x_one 7 rfl (by kernel_rfl) rfl ?_
                refine o_store_bx (cs' := [Value.int .i64 b.1, v728]) tp24_t rfl rfl bx716 rfl (Nat.le_of_ble_eq_true rfl) (AllOne.all (.cons rfl (.cons (sl_one r732) .nil))) rfl ?_
                intro w736 ch737 bx738
                replace hbase := hbase.chg ch737 (is_ne rfl)
                replace r_a_v := r_a_v.chg ch737 (is_ne rfl)
                replace r_b_v := r_b_v.chg ch737 (is_ne rfl)
                replace r_to_v := r_to_v.chg ch737 (is_ne rfl)
                replace bx5 := bx5.chg ch737 (is_ne rfl)
                replace bx10 := bx10.chg ch737 (is_ne rfl)
                replace o721 := o721.chg ch737 (is_ne rfl) (is_ne rfl)
                replace r724 := r724.chg ch737 (is_ne rfl)
                replace o729 := o729.chg ch737 (is_ne rfl) (is_ne rfl)
                replace r732 := r732.chg ch737 (is_ne rfl)
                replace bx735 := bx735.chg ch737 (is_ne rfl)
                clear bx716
                refine x_nil (by kernel_rfl) ?_
                exact mid (b571, b714, v720, v728, g730) _ _ ⟨hbase, rfl, rfl, rfl, rfl, rfl, r_a_v, r_b_v, r_to_v, bx5, bx10, o721, r724, o729, r732, bx735, bx738⟩
              · skip
                refine o_of_val (v := Value.agg (List.toArray [Value.int .i64 b.1, b_v])) (e_load_bxN (ds := [Value.int .i64 b.1, b_v]) tp24_t rfl bx10 rfl rfl) ?_
                refine x_one 1 rfl (by kernel_rfl) rfl ?_
                refine o_callx (e_call (vals := [Value.agg (List.toArray [Value.int .i64 a.1, a_v])]) Try.func16 bd16_t nm16_t rfl) (Twin_ok w712 a a_v (r_a_v).ro (by omega)) ?_
                rintro ⟨d740, v742⟩ w739 ⟨fr741, o743⟩
                obtain ⟨g744, hg744⟩ : ∃ q, q = glue w712.heap.size g715 d740 (fun n => if n = 1 then 3 else 0) := ⟨_, rfl⟩
                have ch745 := chg_glue fr741.below g715 d740 (fun n => if n = 1 then 3 else 0)
                rw [← hg744] at ch745
                replace hbase := hbase.chg ch745 (not_no _)
                replace r_a_v := r_a_v.chg ch745 (not_no _)
                replace r_b_v := r_b_v.chg ch745 (not_no _)
                replace r_to_v := r_to_v.chg ch745 (not_no _)
                replace bx5 := bx5.chg ch745 (not_no _)
                replace bx10 := bx10.chg ch745 (not_no _)
                replace bx573 := bx573.chg ch745 (not_no _)
                replace bx716 := bx716.chg ch745 (not_no _)
                replace o743 := o743.glue (γ := g715) (ren := (fun n => if n = 1 then 3 else 0)) (k := 3) fr741.col rfl rfl
                rw [← hg744] at o743
                have r746 := mark_sl o743.flat
                clear hg744
                refine x_one 3 rfl (by kernel_rfl) rfl ?_
                refine o_callx (e_call (vals := [Value.agg (List.toArray [Value.int .i64 b.1, b_v])]) Try.func16 bd16_t nm16_t rfl) (Twin_ok w739 b b_v (r_b_v).ro (by omega)) ?_
                rintro ⟨d748, v750⟩ w747 ⟨fr749, o751⟩
                obtain ⟨g752, hg752⟩ : ∃ q, q = glue w739.heap.size g744 d748 (fun n => if n = 1 then 4 else 0) := ⟨_, rfl⟩
                have ch753 := chg_glue fr749.below g744 d748 (fun n => if n = 1 then 4 else 0)
                rw [← hg752] at ch753
                replace hbase := hbase.chg ch753 (not_no _)
                replace r_a_v := r_a_v.chg ch753 (not_no _)
                replace r_b_v := r_b_v.chg ch753 (not_no _)
                replace r_to_v := r_to_v.chg ch753 (not_no _)
                replace bx5 := bx5.chg ch753 (not_no _)
                replace bx10 := bx10.chg ch753 (not_no _)
                replace bx573 := bx573.chg ch753 (not_no _)
                replace bx716 := bx716.chg ch753 (not_no _)
                replace o743 := o743.chg ch753 (not_no _) (not_no _)
                replace r746 := r746.chg ch753 (not_no _)
                replace o751 := o751.glue (γ := g744) (ren := (fun n => if n = 1 then 4 else 0)) (k := 4) fr749.col rfl rfl
                rw [← hg752] at o751
                have r754 := mark_sl o751.flat
                clear hg752
                refine x_one 6 rfl (by kernel_rfl) rfl ?_
                refine o_store_bx (cs' := [Value.int .i64 a.1, v742]) tp24_t rfl rfl bx573 rfl (Nat.le_of_ble_eq_true rfl) (AllOne.all (.cons rfl (.cons (sl_one r746) .nil))) rfl ?_
                intro w755 ch756 bx757
                replace hbase := hbase.chg ch756 (is_ne rfl)
                replace r_a_v := r_a_v.chg ch756 (is_ne rfl)
                replace r_b_v := r_b_v.chg ch756 (is_ne rfl)
                replace r_to_v := r_to_v.chg ch756 (is_ne rfl)
                replace bx5 := bx5.chg ch756 (is_ne rfl)
                replace bx10 := bx10.chg ch756 (is_ne rfl)
                replace bx716 := bx716.chg ch756 (is_ne rfl)
                replace o743 := o743.chg ch756 (is_ne rfl) (is_ne rfl)
                replace r746 := r746.chg ch756 (is_ne rfl)
                replace o751 := o751.chg ch756 (is_ne rfl) (is_ne rfl)
                replace r754 := r754.chg ch756 (is_ne rfl)
                clear bx573
                refine x_one 7 rfl (by kernel_rfl) rfl ?_
                refine o_store_bx (cs' := [Value.int .i64 b.1, v750]) tp24_t rfl rfl bx716 rfl (Nat.le_of_ble_eq_true rfl) (AllOne.all (.cons rfl (.cons (sl_one r754) .nil))) rfl ?_
                intro w758 ch759 bx760
                replace hbase := hbase.chg ch759 (is_ne rfl)
                replace r_a_v := r_a_v.chg ch759 (is_ne rfl)
                replace r_b_v := r_b_v.chg ch759 (is_ne rfl)
                replace r_to_v := r_to_v.chg ch759 (is_ne rfl)
                replace bx5 := bx5.chg ch759 (is_ne rfl)
                replace bx10 := bx10.chg ch759 (is_ne rfl)
                replace o743 := o743.chg ch759 (is_ne rfl) (is_ne rfl)
                replace r746 := r746.chg ch759 (is_ne rfl)
                replace o751 := o751.chg ch759 (is_ne rfl) (is_ne rfl)
                replace r754 := r754.chg ch759 (is_ne rfl)
                replace bx757 := bx757.chg ch759 (is_ne rfl)
                clear bx716
                refine x_nil (by kernel_rfl) ?_
                exact mid (b571, b714, v742, v750, g752) _ _ ⟨hbase, rfl, rfl, rfl, rfl, rfl, r_a_v, r_b_v, r_to_v, bx5, bx10, o743, r746, o751, r754, bx757, bx760⟩
          · skip
            refine o_alloc g9 (is 6) (6, 0) rfl tp24_t ?_
            intro g764 w761 b763 ch762 bx765
            replace hbase := hbase.chg ch762 (not_no _)
            replace r_a_v := r_a_v.chg ch762 (not_no _)
            replace r_b_v := r_b_v.chg ch762 (not_no _)
            replace r_to_v := r_to_v.chg ch762 (not_no _)
            replace bx5 := bx5.chg ch762 (not_no _)
            replace bx10 := bx10.chg ch762 (not_no _)
            replace bx765 : Bx g764 (is 6) w761 b763 [Value.int .i64 0, Value.slice none 0 0] := bx765
            refine x_many 1 [2, 4] (by kernel_rfl) ⟨x_of 1 rfl (by kernel_rfl) rfl ?_, x_of 2 rfl (by kernel_rfl) rfl ?_, x_of 4 rfl (by kernel_rfl) rfl ?_, trivial⟩
            · skip
              refine o_callx (e_call (vals := [Value.agg (List.toArray [Value.int .i64 a.1, a_v])]) Try.func16 bd16_t nm16_t rfl) (Twin_ok w761 a a_v (r_a_v).ro (by omega)) ?_
              rintro ⟨d767, v769⟩ w766 ⟨fr768, o770⟩
              obtain ⟨g771, hg771⟩ : ∃ q, q = glue w761.heap.size g764 d767 (fun n => if n = 1 then 3 else 0) := ⟨_, rfl⟩
              have ch772 := chg_glue fr768.below g764 d767 (fun n => if n = 1 then 3 else 0)
              rw [← hg771] at ch772
              replace hbase := hbase.chg ch772 (not_no _)
              replace r_a_v := r_a_v.chg ch772 (not_no _)
              replace r_b_v := r_b_v.chg ch772 (not_no _)
              replace r_to_v := r_to_v.chg ch772 (not_no _)
              replace bx5 := bx5.chg ch772 (not_no _)
              replace bx10 := bx10.chg ch772 (not_no _)
              replace bx765 := bx765.chg ch772 (not_no _)
              replace o770 := o770.glue (γ := g764) (ren := (fun n => if n = 1 then 3 else 0)) (k := 3) fr768.col rfl rfl
              rw [← hg771] at o770
              have r773 := mark_sl o770.flat
              clear hg771
              refine x_two 2 4 rfl rfl (by kernel_rfl) rfl rfl ?_ ?_
              · skip
                refine o_of_val (v := Value.agg (List.toArray [Value.int .i64 b.1, b_v])) (e_load_bxN (ds := [Value.int .i64 b.1, b_v]) tp24_t rfl bx10 rfl rfl) ?_
                refine x_two 3 4 rfl rfl (by kernel_rfl) rfl rfl ?_ ?_
                · skip
                  refine o_callx (e_call (vals := [Value.agg (List.toArray [Value.int .i64 b.1, b_v])]) Try.func16 bd16_t nm16_t rfl) (Twin_ok w766 b b_v (r_b_v).ro (by omega)) ?_
                  rintro ⟨d775, v777⟩ w774 ⟨fr776, o778⟩
                  obtain ⟨g779, hg779⟩ : ∃ q, q = glue w766.heap.size g771 d775 (fun n => if n = 1 then 4 else 0) := ⟨_, rfl⟩
                  have ch780 := chg_glue fr776.below g771 d775 (fun n => if n = 1 then 4 else 0)
                  rw [← hg779] at ch780
                  replace hbase := hbase.chg ch780 (not_no _)
                  replace r_a_v := r_a_v.chg ch780 (not_no _)
                  replace r_b_v := r_b_v.chg ch780 (not_no _)
                  replace r_to_v := r_to_v.chg ch780 (not_no _)
                  replace bx5 := bx5.chg ch780 (not_no _)
                  replace bx10 := bx10.chg ch780 (not_no _)
                  replace bx765 := bx765.chg ch780 (not_no _)
                  replace o770 := o770.chg ch780 (not_no _) (not_no _)
                  replace r773 := r773.chg ch780 (not_no _)
                  replace o778 := o778.glue (γ := g771) (ren := (fun n => if n = 1 then 4 else 0)) (k := 4) fr776.col rfl rfl
                  rw [← hg779] at o778
                  have r781 := mark_sl o778.flat
                  clear hg779
                  refine x_one 4 rfl (by kernel_rfl) rfl ?_
                  refine o_alloc g779 (is 5) (5, 0) rfl tp24_t ?_
                  intro g785 w782 b784 ch783 bx786
                  replace hbase := hbase.chg ch783 (not_no _)
                  replace r_a_v := r_a_v.chg ch783 (not_no _)
                  replace r_b_v := r_b_v.chg ch783 (not_no _)
                  replace r_to_v := r_to_v.chg ch783 (not_no _)
                  replace bx5 := bx5.chg ch783 (not_no _)
                  replace bx10 := bx10.chg ch783 (not_no _)
                  replace bx765 := bx765.chg ch783 (not_no _)
                  replace o770 := o770.chg ch783 (not_no _) (not_no _)
                  replace r773 := r773.chg ch783 (not_no _)
                  replace o778 := o778.chg ch783 (not_no _) (not_no _)
                  replace r781 := r781.chg ch783 (not_no _)
                  replace bx786 : Bx g785 (is 5) w782 b784 [Value.int .i64 0, Value.slice none 0 0] := bx786
                  refine x_one 6 rfl (by kernel_rfl) rfl ?_
                  refine o_store_bx (cs' := [Value.int .i64 a.1, v769]) tp24_t rfl rfl bx786 rfl (Nat.le_of_ble_eq_true rfl) (AllOne.all (.cons rfl (.cons (sl_one r773) .nil))) rfl ?_
                  intro w787 ch788 bx789
                  replace hbase := hbase.chg ch788 (is_ne rfl)
                  replace r_a_v := r_a_v.chg ch788 (is_ne rfl)
                  replace r_b_v := r_b_v.chg ch788 (is_ne rfl)
                  replace r_to_v := r_to_v.chg ch788 (is_ne rfl)
                  replace bx5 := bx5.chg ch788 (is_ne rfl)
                  replace bx10 := bx10.chg ch788 (is_ne rfl)
                  replace bx765 := bx765.chg ch788 (is_ne rfl)
                  replace o770 := o770.chg ch788 (is_ne rfl) (is_ne rfl)
                  replace r773 := r773.chg ch788 (is_ne rfl)
                  replace o778 := o778.chg ch788 (is_ne rfl) (is_ne rfl)
                  replace r781 := r781.chg ch788 (is_ne rfl)
                  clear bx786
                  refine x_one 7 rfl (by kernel_rfl) rfl ?_
                  refine o_store_bx (cs' := [Value.int .i64 b.1, v777]) tp24_t rfl rfl bx765 rfl (Nat.le_of_ble_eq_true rfl) (AllOne.all (.cons rfl (.cons (sl_one r781) .nil))) rfl ?_
                  intro w790 ch791 bx792
                  replace hbase := hbase.chg ch791 (is_ne rfl)
                  replace r_a_v := r_a_v.chg ch791 (is_ne rfl)
                  replace r_b_v := r_b_v.chg ch791 (is_ne rfl)
                  replace r_to_v := r_to_v.chg ch791 (is_ne rfl)
                  replace bx5 := bx5.chg ch791 (is_ne rfl)
                  replace bx10 := bx10.chg ch791 (is_ne rfl)
                  replace o770 := o770.chg ch791 (is_ne rfl) (is_ne rfl)
                  replace r773 := r773.chg ch791 (is_ne rfl)
                  replace o778 := o778.chg ch791 (is_ne rfl) (is_ne rfl)
                  replace r781 := r781.chg ch791 (is_ne rfl)
                  replace bx789 := bx789.chg ch791 (is_ne rfl)
                  clear bx765
                  refine x_nil (by kernel_rfl) ?_
                  exact mid (b784, b763, v769, v777, g785) _ _ ⟨hbase, rfl, rfl, rfl, rfl, rfl, r_a_v, r_b_v, r_to_v, bx5, bx10, o770, r773, o778, r781, bx789, bx792⟩
                · skip
                  refine o_alloc g771 (is 5) (5, 0) rfl tp24_t ?_
                  intro g796 w793 b795 ch794 bx797
                  replace hbase := hbase.chg ch794 (not_no _)
                  replace r_a_v := r_a_v.chg ch794 (not_no _)
                  replace r_b_v := r_b_v.chg ch794 (not_no _)
                  replace r_to_v := r_to_v.chg ch794 (not_no _)
                  replace bx5 := bx5.chg ch794 (not_no _)
                  replace bx10 := bx10.chg ch794 (not_no _)
                  replace bx765 := bx765.chg ch794 (not_no _)
                  replace o770 := o770.chg ch794 (not_no _) (not_no _)
                  replace r773 := r773.chg ch794 (not_no _)
                  replace bx797 : Bx g796 (is 5) w793 b795 [Value.int .i64 0, Value.slice none 0 0] := bx797
                  refine x_one 3 rfl (by kernel_rfl) rfl ?_
                  refine o_callx (e_call (vals := [Value.agg (List.toArray [Value.int .i64 b.1, b_v])]) Try.func16 bd16_t nm16_t rfl) (Twin_ok w793 b b_v (r_b_v).ro (by omega)) ?_
                  rintro ⟨d799, v801⟩ w798 ⟨fr800, o802⟩
                  obtain ⟨g803, hg803⟩ : ∃ q, q = glue w793.heap.size g796 d799 (fun n => if n = 1 then 4 else 0) := ⟨_, rfl⟩
                  have ch804 := chg_glue fr800.below g796 d799 (fun n => if n = 1 then 4 else 0)
                  rw [← hg803] at ch804
                  replace hbase := hbase.chg ch804 (not_no _)
                  replace r_a_v := r_a_v.chg ch804 (not_no _)
                  replace r_b_v := r_b_v.chg ch804 (not_no _)
                  replace r_to_v := r_to_v.chg ch804 (not_no _)
                  replace bx5 := bx5.chg ch804 (not_no _)
                  replace bx10 := bx10.chg ch804 (not_no _)
                  replace bx765 := bx765.chg ch804 (not_no _)
                  replace o770 := o770.chg ch804 (not_no _) (not_no _)
                  replace r773 := r773.chg ch804 (not_no _)
                  replace bx797 := bx797.chg ch804 (not_no _)
                  replace o802 := o802.glue (γ := g796) (ren := (fun n => if n = 1 then 4 else 0)) (k := 4) fr800.col rfl rfl
                  rw [← hg803] at o802
                  have r805 := mark_sl o802.flat
                  clear hg803
                  refine x_one 6 rfl (by kernel_rfl) rfl ?_
                  refine o_store_bx (cs' := [Value.int .i64 a.1, v769]) tp24_t rfl rfl bx797 rfl (Nat.le_of_ble_eq_true rfl) (AllOne.all (.cons rfl (.cons (sl_one r773) .nil))) rfl ?_
                  intro w806 ch807 bx808
                  replace hbase := hbase.chg ch807 (is_ne rfl)
                  replace r_a_v := r_a_v.chg ch807 (is_ne rfl)
                  replace r_b_v := r_b_v.chg ch807 (is_ne rfl)
                  replace r_to_v := r_to_v.chg ch807 (is_ne rfl)
                  replace bx5 := bx5.chg ch807 (is_ne rfl)
                  replace bx10 := bx10.chg ch807 (is_ne rfl)
                  replace bx765 := bx765.chg ch807 (is_ne rfl)
                  replace o770 := o770.chg ch807 (is_ne rfl) (is_ne rfl)
                  replace r773 := r773.chg ch807 (is_ne rfl)
                  replace o802 := o802.chg ch807 (is_ne rfl) (is_ne rfl)
                  replace r805 := r805.chg ch807 (is_ne rfl)
                  clear bx797
                  refine x_one 7 rfl (by kernel_rfl) rfl ?_
                  refine o_store_bx (cs' := [Value.int .i64 b.1, v801]) tp24_t rfl rfl bx765 rfl (Nat.le_of_ble_eq_true rfl) (AllOne.all (.cons rfl (.cons (sl_one r805) .nil))) rfl ?_
                  intro w809 ch810 bx811
                  replace hbase := hbase.chg ch810 (is_ne rfl)
                  replace r_a_v := r_a_v.chg ch810 (is_ne rfl)
                  replace r_b_v := r_b_v.chg ch810 (is_ne rfl)
                  replace r_to_v := r_to_v.chg ch810 (is_ne rfl)
                  replace bx5 := bx5.chg ch810 (is_ne rfl)
                  replace bx10 := bx10.chg ch810 (is_ne rfl)
                  replace o770 := o770.chg ch810 (is_ne rfl) (is_ne rfl)
                  replace r773 := r773.chg ch810 (is_ne rfl)
                  replace o802 := o802.chg ch810 (is_ne rfl) (is_ne rfl)
                  replace r805 := r805.chg ch810 (is_ne rfl)
                  replace bx808 := bx808.chg ch810 (is_ne rfl)
                  clear bx765
                  refine x_nil (by kernel_rfl) ?_
                  exact mid (b795, b763, v769, v801, g803) _ _ ⟨hbase, rfl, rfl, rfl, rfl, rfl, r_a_v, r_b_v, r_to_v, bx5, bx10, o770, r773, o802, r805, bx808, bx811⟩
              · skip
                refine o_alloc g771 (is 5) (5, 0) rfl tp24_t ?_
                intro g815 w812 b814 ch813 bx816
                replace hbase := hbase.chg ch813 (not_no _)
                replace r_a_v := r_a_v.chg ch813 (not_no _)
                replace r_b_v := r_b_v.chg ch813 (not_no _)
                replace r_to_v := r_to_v.chg ch813 (not_no _)
                replace bx5 := bx5.chg ch813 (not_no _)
                replace bx10 := bx10.chg ch813 (not_no _)
                replace bx765 := bx765.chg ch813 (not_no _)
                replace o770 := o770.chg ch813 (not_no _) (not_no _)
                replace r773 := r773.chg ch813 (not_no _)
                replace bx816 : Bx g815 (is 5) w812 b814 [Value.int .i64 0, Value.slice none 0 0] := bx816
                refine x_one 2 rfl (by kernel_rfl) rfl ?_
                refine o_of_val (v := Value.agg (List.toArray [Value.int .i64 b.1, b_v])) (e_load_bxN (ds := [Value.int .i64 b.1, b_v]) tp24_t rfl bx10 rfl rfl) ?_
                refine x_one 3 rfl (by kernel_rfl) rfl ?_
                refine o_callx (e_call (vals := [Value.agg (List.toArray [Value.int .i64 b.1, b_v])]) Try.func16 bd16_t nm16_t rfl) (Twin_ok w812 b b_v (r_b_v).ro (by omega)) ?_
                rintro ⟨d818, v820⟩ w817 ⟨fr819, o821⟩
                obtain ⟨g822, hg822⟩ : ∃ q, q = glue w812.heap.size g815 d818 (fun n => if n = 1 then 4 else 0) := ⟨_, rfl⟩
                have ch823 := chg_glue fr819.below g815 d818 (fun n => if n = 1 then 4 else 0)
                rw [← hg822] at ch823
                replace hbase := hbase.chg ch823 (not_no _)
                replace r_a_v := r_a_v.chg ch823 (not_no _)
                replace r_b_v := r_b_v.chg ch823 (not_no _)
                replace r_to_v := r_to_v.chg ch823 (not_no _)
                replace bx5 := bx5.chg ch823 (not_no _)
                replace bx10 := bx10.chg ch823 (not_no _)
                replace bx765 := bx765.chg ch823 (not_no _)
                replace o770 := o770.chg ch823 (not_no _) (not_no _)
                replace r773 := r773.chg ch823 (not_no _)
                replace bx816 := bx816.chg ch823 (not_no _)
                replace o821 := o821.glue (γ := g815) (ren := (fun n => if n = 1 then 4 else 0)) (k := 4) fr819.col rfl rfl
                rw [← hg822] at o821
                have r824 := mark_sl o821.flat
                clear hg822
                refine x_one 6 rfl (by kernel_rfl) rfl ?_
                refine o_store_bx (cs' := [Value.int .i64 a.1, v769]) tp24_t rfl rfl bx816 rfl (Nat.le_of_ble_eq_true rfl) (AllOne.all (.cons rfl (.cons (sl_one r773) .nil))) rfl ?_
                intro w825 ch826 bx827
                replace hbase := hbase.chg ch826 (is_ne rfl)
                replace r_a_v := r_a_v.chg ch826 (is_ne rfl)
                replace r_b_v := r_b_v.chg ch826 (is_ne rfl)
                replace r_to_v := r_to_v.chg ch826 (is_ne rfl)
                replace bx5 := bx5.chg ch826 (is_ne rfl)
                replace bx10 := bx10.chg ch826 (is_ne rfl)
                replace bx765 := bx765.chg ch826 (is_ne rfl)
                replace o770 := o770.chg ch826 (is_ne rfl) (is_ne rfl)
                replace r773 := r773.chg ch826 (is_ne rfl)
                replace o821 := o821.chg ch826 (is_ne rfl) (is_ne rfl)
                replace r824 := r824.chg ch826 (is_ne rfl)
                clear bx816
                refine x_one 7 rfl (by kernel_rfl) rfl ?_
                refine o_store_bx (cs' := [Value.int .i64 b.1, v820]) tp24_t rfl rfl bx765 rfl (Nat.le_of_ble_eq_true rfl) (AllOne.all (.cons rfl (.cons (sl_one r824) .nil))) rfl ?_
                intro w828 ch829 bx830
                replace hbase := hbase.chg ch829 (is_ne rfl)
                replace r_a_v := r_a_v.chg ch829 (is_ne rfl)
                replace r_b_v := r_b_v.chg ch829 (is_ne rfl)
                replace r_to_v := r_to_v.chg ch829 (is_ne rfl)
                replace bx5 := bx5.chg ch829 (is_ne rfl)
                replace bx10 := bx10.chg ch829 (is_ne rfl)
                replace o770 := o770.chg ch829 (is_ne rfl) (is_ne rfl)
                replace r773 := r773.chg ch829 (is_ne rfl)
                replace o821 := o821.chg ch829 (is_ne rfl) (is_ne rfl)
                replace r824 := r824.chg ch829 (is_ne rfl)
                replace bx827 := bx827.chg ch829 (is_ne rfl)
                clear bx765
                refine x_nil (by kernel_rfl) ?_
                exact mid (b814, b763, v769, v820, g822) _ _ ⟨hbase, rfl, rfl, rfl, rfl, rfl, r_a_v, r_b_v, r_to_v, bx5, bx10, o770, r773, o821, r824, bx827, bx830⟩
            · skip
              refine o_of_val (v := Value.agg (List.toArray [Value.int .i64 b.1, b_v])) (e_load_bxN (ds := [Value.int .i64 b.1, b_v]) tp24_t rfl bx10 rfl rfl) ?_
              refine x_two 1 4 rfl rfl (by kernel_rfl) rfl rfl ?_ ?_
              · skip
                refine o_callx (e_call (vals := [Value.agg (List.toArray [Value.int .i64 a.1, a_v])]) Try.func16 bd16_t nm16_t rfl) (Twin_ok w761 a a_v (r_a_v).ro (by omega)) ?_
                rintro ⟨d832, v834⟩ w831 ⟨fr833, o835⟩
                obtain ⟨g836, hg836⟩ : ∃ q, q = glue w761.heap.size g764 d832 (fun n => if n = 1 then 3 else 0) := ⟨_, rfl⟩
                have ch837 := chg_glue fr833.below g764 d832 (fun n => if n = 1 then 3 else 0)
                rw [← hg836] at ch837
                replace hbase := hbase.chg ch837 (not_no _)
                replace r_a_v := r_a_v.chg ch837 (not_no _)
                replace r_b_v := r_b_v.chg ch837 (not_no _)
                replace r_to_v := r_to_v.chg ch837 (not_no _)
                replace bx5 := bx5.chg ch837 (not_no _)
                replace bx10 := bx10.chg ch837 (not_no _)
                replace bx765 := bx765.chg ch837 (not_no _)
                replace o835 := o835.glue (γ := g764) (ren := (fun n => if n = 1 then 3 else 0)) (k := 3) fr833.col rfl rfl
                rw [← hg836] at o835
                have r838 := mark_sl o835.flat
                clear hg836
                refine x_two 3 4 rfl rfl (by kernel_rfl) rfl rfl ?_ ?_
                · skip
                  refine o_callx (e_call (vals := [Value.agg (List.toArray [Value.int .i64 b.1, b_v])]) Try.func16 bd16_t nm16_t rfl) (Twin_ok w831 b b_v (r_b_v).ro (by omega)) ?_
                  rintro ⟨d840, v842⟩ w839 ⟨fr841, o843⟩
                  obtain ⟨g844, hg844⟩ : ∃ q, q = glue w831.heap.size g836 d840 (fun n => if n = 1 then 4 else 0) := ⟨_, rfl⟩
                  have ch845 := chg_glue fr841.below g836 d840 (fun n => if n = 1 then 4 else 0)
                  rw [← hg844] at ch845
                  replace hbase := hbase.chg ch845 (not_no _)
                  replace r_a_v := r_a_v.chg ch845 (not_no _)
                  replace r_b_v := r_b_v.chg ch845 (not_no _)
                  replace r_to_v := r_to_v.chg ch845 (not_no _)
                  replace bx5 := bx5.chg ch845 (not_no _)
                  replace bx10 := bx10.chg ch845 (not_no _)
                  replace bx765 := bx765.chg ch845 (not_no _)
                  replace o835 := o835.chg ch845 (not_no _) (not_no _)
                  replace r838 := r838.chg ch845 (not_no _)
                  replace o843 := o843.glue (γ := g836) (ren := (fun n => if n = 1 then 4 else 0)) (k := 4) fr841.col rfl rfl
                  rw [← hg844] at o843
                  have r846 := mark_sl o843.flat
                  clear hg844
                  refine x_one 4 rfl (by kernel_rfl) rfl ?_
                  refine o_alloc g844 (is 5) (5, 0) rfl tp24_t ?_
                  intro g850 w847 b849 ch848 bx851
                  replace hbase := hbase.chg ch848 (not_no _)
                  replace r_a_v := r_a_v.chg ch848 (not_no _)
                  replace r_b_v := r_b_v.chg ch848 (not_no _)
                  replace r_to_v := r_to_v.chg ch848 (not_no _)
                  replace bx5 := bx5.chg ch848 (not_no _)
                  replace bx10 := bx10.chg ch848 (not_no _)
                  replace bx765 := bx765.chg ch848 (not_no _)
                  replace o835 := o835.chg ch848 (not_no _) (not_no _)
                  replace r838 := r838.chg ch848 (not_no _)
                  replace o843 := o843.chg ch848 (not_no _) (not_no _)
                  replace r846 := r846.chg ch848 (not_no _)
                  replace bx851 : Bx g850 (is 5) w847 b849 [Value.int .i64 0, Value.slice none 0 0] := bx851
                  refine x_one 6 rfl (by kernel_rfl) rfl ?_
                  refine o_store_bx (cs' := [Value.int .i64 a.1, v834]) tp24_t rfl rfl bx851 rfl (Nat.le_of_ble_eq_true rfl) (AllOne.all (.cons rfl (.cons (sl_one r838) .nil))) rfl ?_
                  intro w852 ch853 bx854
                  replace hbase := hbase.chg ch853 (is_ne rfl)
                  replace r_a_v := r_a_v.chg ch853 (is_ne rfl)
                  replace r_b_v := r_b_v.chg ch853 (is_ne rfl)
                  replace r_to_v := r_to_v.chg ch853 (is_ne rfl)
                  replace bx5 := bx5.chg ch853 (is_ne rfl)
                  replace bx10 := bx10.chg ch853 (is_ne rfl)
                  replace bx765 := bx765.chg ch853 (is_ne rfl)
                  replace o835 := o835.chg ch853 (is_ne rfl) (is_ne rfl)
                  replace r838 := r838.chg ch853 (is_ne rfl)
                  replace o843 := o843.chg ch853 (is_ne rfl) (is_ne rfl)
                  replace r846 := r846.chg ch853 (is_ne rfl)
                  clear bx851
                  refine x_one 7 rfl (by kernel_rfl) rfl ?_
                  refine o_store_bx (cs' := [Value.int .i64 b.1, v842]) tp24_t rfl rfl bx765 rfl (Nat.le_of_ble_eq_true rfl) (AllOne.all (.cons rfl (.cons (sl_one r846) .nil))) rfl ?_
                  intro w855 ch856 bx857
                  replace hbase := hbase.chg ch856 (is_ne rfl)
                  replace r_a_v := r_a_v.chg ch856 (is_ne rfl)
                  replace r_b_v := r_b_v.chg ch856 (is_ne rfl)
                  replace r_to_v := r_to_v.chg ch856 (is_ne rfl)
                  replace bx5 := bx5.chg ch856 (is_ne rfl)
                  replace bx10 := bx10.chg ch856 (is_ne rfl)
                  replace o835 := o835.chg ch856 (is_ne rfl) (is_ne rfl)
                  replace r838 := r838.chg ch856 (is_ne rfl)
                  replace o843 := o843.chg ch856 (is_ne rfl) (is_ne rfl)
                  replace r846 := r846.chg ch856 (is_ne rfl)
                  replace bx854 := bx854.chg ch856 (is_ne rfl)
                  clear bx765
                  refine x_nil (by kernel_rfl) ?_
                  exact mid (b849, b763, v834, v842, g850) _ _ ⟨hbase, rfl, rfl, rfl, rfl, rfl, r_a_v, r_b_v, r_to_v, bx5, bx10, o835, r838, o843, r846, bx854, bx857⟩
                · skip
                  refine o_alloc g836 (is 5) (5, 0) rfl tp24_t ?_
                  intro g861 w858 b860 ch859 bx862
                  replace hbase := hbase.chg ch859 (not_no _)
                  replace r_a_v := r_a_v.chg ch859 (not_no _)
                  replace r_b_v := r_b_v.chg ch859 (not_no _)
                  replace r_to_v := r_to_v.chg ch859 (not_no _)
                  replace bx5 := bx5.chg ch859 (not_no _)
                  replace bx10 := bx10.chg ch859 (not_no _)
                  replace bx765 := bx765.chg ch859 (not_no _)
                  replace o835 := o835.chg ch859 (not_no _) (not_no _)
                  replace r838 := r838.chg ch859 (not_no _)
                  replace bx862 : Bx g861 (is 5) w858 b860 [Value.int .i64 0, Value.slice none 0 0] := bx862
                  refine x_one 3 rfl (by kernel_rfl) rfl ?_
                  refine o_callx (e_call (vals := [Value.agg (List.toArray [Value.int .i64 b.1, b_v])]) Try.func16 bd16_t nm16_t rfl) (Twin_ok w858 b b_v (r_b_v).ro (by omega)) ?_
                  rintro ⟨d864, v866⟩ w863 ⟨fr865, o867⟩
                  obtain ⟨g868, hg868⟩ : ∃ q, q = glue w858.heap.size g861 d864 (fun n => if n = 1 then 4 else 0) := ⟨_, rfl⟩
                  have ch869 := chg_glue fr865.below g861 d864 (fun n => if n = 1 then 4 else 0)
                  rw [← hg868] at ch869
                  replace hbase := hbase.chg ch869 (not_no _)
                  replace r_a_v := r_a_v.chg ch869 (not_no _)
                  replace r_b_v := r_b_v.chg ch869 (not_no _)
                  replace r_to_v := r_to_v.chg ch869 (not_no _)
                  replace bx5 := bx5.chg ch869 (not_no _)
                  replace bx10 := bx10.chg ch869 (not_no _)
                  replace bx765 := bx765.chg ch869 (not_no _)
                  replace o835 := o835.chg ch869 (not_no _) (not_no _)
                  replace r838 := r838.chg ch869 (not_no _)
                  replace bx862 := bx862.chg ch869 (not_no _)
                  replace o867 := o867.glue (γ := g861) (ren := (fun n => if n = 1 then 4 else 0)) (k := 4) fr865.col rfl rfl
                  rw [← hg868] at o867
                  have r870 := mark_sl o867.flat
                  clear hg868
                  refine x_one 6 rfl (by kernel_rfl) rfl ?_
                  refine o_store_bx (cs' := [Value.int .i64 a.1, v834]) tp24_t rfl rfl bx862 rfl (Nat.le_of_ble_eq_true rfl) (AllOne.all (.cons rfl (.cons (sl_one r838) .nil))) rfl ?_
                  intro w871 ch872 bx873
                  replace hbase := hbase.chg ch872 (is_ne rfl)
                  replace r_a_v := r_a_v.chg ch872 (is_ne rfl)
                  replace r_b_v := r_b_v.chg ch872 (is_ne rfl)
                  replace r_to_v := r_to_v.chg ch872 (is_ne rfl)
                  replace bx5 := bx5.chg ch872 (is_ne rfl)
                  replace bx10 := bx10.chg ch872 (is_ne rfl)
                  replace bx765 := bx765.chg ch872 (is_ne rfl)
                  replace o835 := o835.chg ch872 (is_ne rfl) (is_ne rfl)
                  replace r838 := r838.chg ch872 (is_ne rfl)
                  replace o867 := o867.chg ch872 (is_ne rfl) (is_ne rfl)
                  replace r870 := r870.chg ch872 (is_ne rfl)
                  clear bx862
                  refine x_one 7 rfl (by kernel_rfl) rfl ?_
                  refine o_store_bx (cs' := [Value.int .i64 b.1, v866]) tp24_t rfl rfl bx765 rfl (Nat.le_of_ble_eq_true rfl) (AllOne.all (.cons rfl (.cons (sl_one r870) .nil))) rfl ?_
                  intro w874 ch875 bx876
                  replace hbase := hbase.chg ch875 (is_ne rfl)
                  replace r_a_v := r_a_v.chg ch875 (is_ne rfl)
                  replace r_b_v := r_b_v.chg ch875 (is_ne rfl)
                  replace r_to_v := r_to_v.chg ch875 (is_ne rfl)
                  replace bx5 := bx5.chg ch875 (is_ne rfl)
                  replace bx10 := bx10.chg ch875 (is_ne rfl)
                  replace o835 := o835.chg ch875 (is_ne rfl) (is_ne rfl)
                  replace r838 := r838.chg ch875 (is_ne rfl)
                  replace o867 := o867.chg ch875 (is_ne rfl) (is_ne rfl)
                  replace r870 := r870.chg ch875 (is_ne rfl)
                  replace bx873 := bx873.chg ch875 (is_ne rfl)
                  clear bx765
                  refine x_nil (by kernel_rfl) ?_
                  exact mid (b860, b763, v834, v866, g868) _ _ ⟨hbase, rfl, rfl, rfl, rfl, rfl, r_a_v, r_b_v, r_to_v, bx5, bx10, o835, r838, o867, r870, bx873, bx876⟩
              · skip
                refine o_alloc g764 (is 5) (5, 0) rfl tp24_t ?_
                intro g880 w877 b879 ch878 bx881
                replace hbase := hbase.chg ch878 (not_no _)
                replace r_a_v := r_a_v.chg ch878 (not_no _)
                replace r_b_v := r_b_v.chg ch878 (not_no _)
                replace r_to_v := r_to_v.chg ch878 (not_no _)
                replace bx5 := bx5.chg ch878 (not_no _)
                replace bx10 := bx10.chg ch878 (not_no _)
                replace bx765 := bx765.chg ch878 (not_no _)
                replace bx881 : Bx g880 (is 5) w877 b879 [Value.int .i64 0, Value.slice none 0 0] := bx881
                refine x_one 1 rfl (by kernel_rfl) rfl ?_
                refine o_callx (e_call (vals := [Value.agg (List.toArray [Value.int .i64 a.1, a_v])]) Try.func16 bd16_t nm16_t rfl) (Twin_ok w877 a a_v (r_a_v).ro (by omega)) ?_
                rintro ⟨d883, v885⟩ w882 ⟨fr884, o886⟩
                obtain ⟨g887, hg887⟩ : ∃ q, q = glue w877.heap.size g880 d883 (fun n => if n = 1 then 3 else 0) := ⟨_, rfl⟩
                have ch888 := chg_glue fr884.below g880 d883 (fun n => if n = 1 then 3 else 0)
                rw [← hg887] at ch888
                replace hbase := hbase.chg ch888 (not_no _)
                replace r_a_v := r_a_v.chg ch888 (not_no _)
                replace r_b_v := r_b_v.chg ch888 (not_no _)
                replace r_to_v := r_to_v.chg ch888 (not_no _)
                replace bx5 := bx5.chg ch888 (not_no _)
                replace bx10 := bx10.chg ch888 (not_no _)
                replace bx765 := bx765.chg ch888 (not_no _)
                replace bx881 := bx881.chg ch888 (not_no _)
                replace o886 := o886.glue (γ := g880) (ren := (fun n => if n = 1 then 3 else 0)) (k := 3) fr884.col rfl rfl
                rw [← hg887] at o886
                have r889 := mark_sl o886.flat
                clear hg887
                refine x_one 3 rfl (by kernel_rfl) rfl ?_
                refine o_callx (e_call (vals := [Value.agg (List.toArray [Value.int .i64 b.1, b_v])]) Try.func16 bd16_t nm16_t rfl) (Twin_ok w882 b b_v (r_b_v).ro (by omega)) ?_
                rintro ⟨d891, v893⟩ w890 ⟨fr892, o894⟩
                obtain ⟨g895, hg895⟩ : ∃ q, q = glue w882.heap.size g887 d891 (fun n => if n = 1 then 4 else 0) := ⟨_, rfl⟩
                have ch896 := chg_glue fr892.below g887 d891 (fun n => if n = 1 then 4 else 0)
                rw [← hg895] at ch896
                replace hbase := hbase.chg ch896 (not_no _)
                replace r_a_v := r_a_v.chg ch896 (not_no _)
                replace r_b_v := r_b_v.chg ch896 (not_no _)
                replace r_to_v := r_to_v.chg ch896 (not_no _)
                replace bx5 := bx5.chg ch896 (not_no _)
                replace bx10 := bx10.chg ch896 (not_no _)
                replace bx765 := bx765.chg ch896 (not_no _)
                replace bx881 := bx881.chg ch896 (not_no _)
                replace o886 := o886.chg ch896 (not_no _) (not_no _)
                replace r889 := r889.chg ch896 (not_no _)
                replace o894 := o894.glue (γ := g887) (ren := (fun n => if n = 1 then 4 else 0)) (k := 4) fr892.col rfl rfl
                rw [← hg895] at o894
                have r897 := mark_sl o894.flat
                clear hg895
                refine x_one 6 rfl (by kernel_rfl) rfl ?_
                refine o_store_bx (cs' := [Value.int .i64 a.1, v885]) tp24_t rfl rfl bx881 rfl (Nat.le_of_ble_eq_true rfl) (AllOne.all (.cons rfl (.cons (sl_one r889) .nil))) rfl ?_
                intro w898 ch899 bx900
                replace hbase := hbase.chg ch899 (is_ne rfl)
                replace r_a_v := r_a_v.chg ch899 (is_ne rfl)
                replace r_b_v := r_b_v.chg ch899 (is_ne rfl)
                replace r_to_v := r_to_v.chg ch899 (is_ne rfl)
                replace bx5 := bx5.chg ch899 (is_ne rfl)
                replace bx10 := bx10.chg ch899 (is_ne rfl)
                replace bx765 := bx765.chg ch899 (is_ne rfl)
                replace o886 := o886.chg ch899 (is_ne rfl) (is_ne rfl)
                replace r889 := r889.chg ch899 (is_ne rfl)
                replace o894 := o894.chg ch899 (is_ne rfl) (is_ne rfl)
                replace r897 := r897.chg ch899 (is_ne rfl)
                clear bx881
                refine x_one 7 rfl (by kernel_rfl) rfl ?_
                refine o_store_bx (cs' := [Value.int .i64 b.1, v893]) tp24_t rfl rfl bx765 rfl (Nat.le_of_ble_eq_true rfl) (AllOne.all (.cons rfl (.cons (sl_one r897) .nil))) rfl ?_
                intro w901 ch902 bx903
                replace hbase := hbase.chg ch902 (is_ne rfl)
                replace r_a_v := r_a_v.chg ch902 (is_ne rfl)
                replace r_b_v := r_b_v.chg ch902 (is_ne rfl)
                replace r_to_v := r_to_v.chg ch902 (is_ne rfl)
                replace bx5 := bx5.chg ch902 (is_ne rfl)
                replace bx10 := bx10.chg ch902 (is_ne rfl)
                replace o886 := o886.chg ch902 (is_ne rfl) (is_ne rfl)
                replace r889 := r889.chg ch902 (is_ne rfl)
                replace o894 := o894.chg ch902 (is_ne rfl) (is_ne rfl)
                replace r897 := r897.chg ch902 (is_ne rfl)
                replace bx900 := bx900.chg ch902 (is_ne rfl)
                clear bx765
                refine x_nil (by kernel_rfl) ?_
                exact mid (b879, b763, v885, v893, g895) _ _ ⟨hbase, rfl, rfl, rfl, rfl, rfl, r_a_v, r_b_v, r_to_v, bx5, bx10, o886, r889, o894, r897, bx900, bx903⟩
            · skip
              refine o_alloc g764 (is 5) (5, 0) rfl tp24_t ?_
              intro g907 w904 b906 ch905 bx908
              replace hbase := hbase.chg ch905 (not_no _)
              replace r_a_v := r_a_v.chg ch905 (not_no _)
              replace r_b_v := r_b_v.chg ch905 (not_no _)
              replace r_to_v := r_to_v.chg ch905 (not_no _)
              replace bx5 := bx5.chg ch905 (not_no _)
              replace bx10 := bx10.chg ch905 (not_no _)
              replace bx765 := bx765.chg ch905 (not_no _)
              replace bx908 : Bx g907 (is 5) w904 b906 [Value.int .i64 0, Value.slice none 0 0] := bx908
              refine x_two 1 2 rfl rfl (by kernel_rfl) rfl rfl ?_ ?_
              · skip
                refine o_callx (e_call (vals := [Value.agg (List.toArray [Value.int .i64 a.1, a_v])]) Try.func16 bd16_t nm16_t rfl) (Twin_ok w904 a a_v (r_a_v).ro (by omega)) ?_
                rintro ⟨d910, v912⟩ w909 ⟨fr911, o913⟩
                obtain ⟨g914, hg914⟩ : ∃ q, q = glue w904.heap.size g907 d910 (fun n => if n = 1 then 3 else 0) := ⟨_, rfl⟩
                have ch915 := chg_glue fr911.below g907 d910 (fun n => if n = 1 then 3 else 0)
                rw [← hg914] at ch915
                replace hbase := hbase.chg ch915 (not_no _)
                replace r_a_v := r_a_v.chg ch915 (not_no _)
                replace r_b_v := r_b_v.chg ch915 (not_no _)
                replace r_to_v := r_to_v.chg ch915 (not_no _)
                replace bx5 := bx5.chg ch915 (not_no _)
                replace bx10 := bx10.chg ch915 (not_no _)
                replace bx765 := bx765.chg ch915 (not_no _)
                replace bx908 := bx908.chg ch915 (not_no _)
                replace o913 := o913.glue (γ := g907) (ren := (fun n => if n = 1 then 3 else 0)) (k := 3) fr911.col rfl rfl
                rw [← hg914] at o913
                have r916 := mark_sl o913.flat
                clear hg914
                refine x_one 2 rfl (by kernel_rfl) rfl ?_
                refine o_of_val (v := Value.agg (List.toArray [Value.int .i64 b.1, b_v])) (e_load_bxN (ds := [Value.int .i64 b.1, b_v]) tp24_t rfl bx10 rfl rfl) ?_
                refine x_one 3 rfl (by kernel_rfl) rfl ?_
                refine o_callx (e_call (vals := [Value.agg (List.toArray [Value.int .i64 b.1, b_v])]) Try.func16 bd16_t nm16_t rfl) (Twin_ok w909 b b_v (r_b_v).ro (by omega)) ?_
                rintro ⟨d918, v920⟩ w917 ⟨fr919, o921⟩
                obtain ⟨g922, hg922⟩ : ∃ q, q = glue w909.heap.size g914 d918 (fun n => if n = 1 then 4 else 0) := ⟨_, rfl⟩
                have ch923 := chg_glue fr919.below g914 d918 (fun n => if n = 1 then 4 else 0)
                rw [← hg922] at ch923
                replace hbase := hbase.chg ch923 (not_no _)
                replace r_a_v := r_a_v.chg ch923 (not_no _)
                replace r_b_v := r_b_v.chg ch923 (not_no _)
                replace r_to_v := r_to_v.chg ch923 (not_no _)
                replace bx5 := bx5.chg ch923 (not_no _)
                replace bx10 := bx10.chg ch923 (not_no _)
                replace bx765 := bx765.chg ch923 (not_no _)
                replace bx908 := bx908.chg ch923 (not_no _)
                replace o913 := o913.chg ch923 (not_no _) (not_no _)
                replace r916 := r916.chg ch923 (not_no _)
                replace o921 := o921.glue (γ := g914) (ren := (fun n => if n = 1 then 4 else 0)) (k := 4) fr919.col rfl rfl
                rw [← hg922] at o921
                have r924 := mark_sl o921.flat
                clear hg922
                refine x_one 6 rfl (by kernel_rfl) rfl ?_
                refine o_store_bx (cs' := [Value.int .i64 a.1, v912]) tp24_t rfl rfl bx908 rfl (Nat.le_of_ble_eq_true rfl) (AllOne.all (.cons rfl (.cons (sl_one r916) .nil))) rfl ?_
                intro w925 ch926 bx927
                replace hbase := hbase.chg ch926 (is_ne rfl)
                replace r_a_v := r_a_v.chg ch926 (is_ne rfl)
                replace r_b_v := r_b_v.chg ch926 (is_ne rfl)
                replace r_to_v := r_to_v.chg ch926 (is_ne rfl)
                replace bx5 := bx5.chg ch926 (is_ne rfl)
                replace bx10 := bx10.chg ch926 (is_ne rfl)
                replace bx765 := bx765.chg ch926 (is_ne rfl)
                replace o913 := o913.chg ch926 (is_ne rfl) (is_ne rfl)
                replace r916 := r916.chg ch926 (is_ne rfl)
                replace o921 := o921.chg ch926 (is_ne rfl) (is_ne rfl)
                replace r924 := r924.chg ch926 (is_ne rfl)
                clear bx908
                refine x_one 7 rfl (by kernel_rfl) rfl ?_
                refine o_store_bx (cs' := [Value.int .i64 b.1, v920]) tp24_t rfl rfl bx765 rfl (Nat.le_of_ble_eq_true rfl) (AllOne.all (.cons rfl (.cons (sl_one r924) .nil))) rfl ?_
                intro w928 ch929 bx930
                replace hbase := hbase.chg ch929 (is_ne rfl)
                replace r_a_v := r_a_v.chg ch929 (is_ne rfl)
                replace r_b_v := r_b_v.chg ch929 (is_ne rfl)
                replace r_to_v := r_to_v.chg ch929 (is_ne rfl)
                replace bx5 := bx5.chg ch929 (is_ne rfl)
                replace bx10 := bx10.chg ch929 (is_ne rfl)
                replace o913 := o913.chg ch929 (is_ne rfl) (is_ne rfl)
                replace r916 := r916.chg ch929 (is_ne rfl)
                replace o921 := o921.chg ch929 (is_ne rfl) (is_ne rfl)
                replace r924 := r924.chg ch929 (is_ne rfl)
                replace bx927 := bx927.chg ch929 (is_ne rfl)
                clear bx765
                refine x_nil (by kernel_rfl) ?_
                exact mid (b906, b763, v912, v920, g922) _ _ ⟨hbase, rfl, rfl, rfl, rfl, rfl, r_a_v, r_b_v, r_to_v, bx5, bx10, o913, r916, o921, r924, bx927, bx930⟩
              · skip
                refine o_of_val (v := Value.agg (List.toArray [Value.int .i64 b.1, b_v])) (e_load_bxN (ds := [Value.int .i64 b.1, b_v]) tp24_t rfl bx10 rfl rfl) ?_
                refine x_one 1 rfl (by kernel_rfl) rfl ?_
                refine o_callx (e_call (vals := [Value.agg (List.toArray [Value.int .i64 a.1, a_v])]) Try.func16 bd16_t nm16_t rfl) (Twin_ok w904 a a_v (r_a_v).ro (by omega)) ?_
                rintro ⟨d932, v934⟩ w931 ⟨fr933, o935⟩
                obtain ⟨g936, hg936⟩ : ∃ q, q = glue w904.heap.size g907 d932 (fun n => if n = 1 then 3 else 0) := ⟨_, rfl⟩
                have ch937 := chg_glue fr933.below g907 d932 (fun n => if n = 1 then 3 else 0)
                rw [← hg936] at ch937
                replace hbase := hbase.chg ch937 (not_no _)
                replace r_a_v := r_a_v.chg ch937 (not_no _)
                replace r_b_v := r_b_v.chg ch937 (not_no _)
                replace r_to_v := r_to_v.chg ch937 (not_no _)
                replace bx5 := bx5.chg ch937 (not_no _)
                replace bx10 := bx10.chg ch937 (not_no _)
                replace bx765 := bx765.chg ch937 (not_no _)
                replace bx908 := bx908.chg ch937 (not_no _)
                replace o935 := o935.glue (γ := g907) (ren := (fun n => if n = 1 then 3 else 0)) (k := 3) fr933.col rfl rfl
                rw [← hg936] at o935
                have r938 := mark_sl o935.flat
                clear hg936
                refine x_one 3 rfl (by kernel_rfl) rfl ?_
                refine o_callx (e_call (vals := [Value.agg (List.toArray [Value.int .i64 b.1, b_v])]) Try.func16 bd16_t nm16_t rfl) (Twin_ok w931 b b_v (r_b_v).ro (by omega)) ?_
                rintro ⟨d940, v942⟩ w939 ⟨fr941, o943⟩
                obtain ⟨g944, hg944⟩ : ∃ q, q = glue w931.heap.size g936 d940 (fun n => if n = 1 then 4 else 0) := ⟨_, rfl⟩
                have ch945 := chg_glue fr941.below g936 d940 (fun n => if n = 1 then 4 else 0)
                rw [← hg944] at ch945
                replace hbase := hbase.chg ch945 (not_no _)
                replace r_a_v := r_a_v.chg ch945 (not_no _)
                replace r_b_v := r_b_v.chg ch945 (not_no _)
                replace r_to_v := r_to_v.chg ch945 (not_no _)
                replace bx5 := bx5.chg ch945 (not_no _)
                replace bx10 := bx10.chg ch945 (not_no _)
                replace bx765 := bx765.chg ch945 (not_no _)
                replace bx908 := bx908.chg ch945 (not_no _)
                replace o935 := o935.chg ch945 (not_no _) (not_no _)
                replace r938 := r938.chg ch945 (not_no _)
                replace o943 := o943.glue (γ := g936) (ren := (fun n => if n = 1 then 4 else 0)) (k := 4) fr941.col rfl rfl
                rw [← hg944] at o943
                have r946 := mark_sl o943.flat
                clear hg944
                refine x_one 6 rfl (by kernel_rfl) rfl ?_
                refine o_store_bx (cs' := [Value.int .i64 a.1, v934]) tp24_t rfl rfl bx908 rfl (Nat.le_of_ble_eq_true rfl) (AllOne.all (.cons rfl (.cons (sl_one r938) .nil))) rfl ?_
                intro w947 ch948 bx949
                replace hbase := hbase.chg ch948 (is_ne rfl)
                replace r_a_v := r_a_v.chg ch948 (is_ne rfl)
                replace r_b_v := r_b_v.chg ch948 (is_ne rfl)
                replace r_to_v := r_to_v.chg ch948 (is_ne rfl)
                replace bx5 := bx5.chg ch948 (is_ne rfl)
                replace bx10 := bx10.chg ch948 (is_ne rfl)
                replace bx765 := bx765.chg ch948 (is_ne rfl)
                replace o935 := o935.chg ch948 (is_ne rfl) (is_ne rfl)
                replace r938 := r938.chg ch948 (is_ne rfl)
                replace o943 := o943.chg ch948 (is_ne rfl) (is_ne rfl)
                replace r946 := r946.chg ch948 (is_ne rfl)
                clear bx908
                refine x_one 7 rfl (by kernel_rfl) rfl ?_
                refine o_store_bx (cs' := [Value.int .i64 b.1, v942]) tp24_t rfl rfl bx765 rfl (Nat.le_of_ble_eq_true rfl) (AllOne.all (.cons rfl (.cons (sl_one r946) .nil))) rfl ?_
                intro w950 ch951 bx952
                replace hbase := hbase.chg ch951 (is_ne rfl)
                replace r_a_v := r_a_v.chg ch951 (is_ne rfl)
                replace r_b_v := r_b_v.chg ch951 (is_ne rfl)
                replace r_to_v := r_to_v.chg ch951 (is_ne rfl)
                replace bx5 := bx5.chg ch951 (is_ne rfl)
                replace bx10 := bx10.chg ch951 (is_ne rfl)
                replace o935 := o935.chg ch951 (is_ne rfl) (is_ne rfl)
                replace r938 := r938.chg ch951 (is_ne rfl)
                replace o943 := o943.chg ch951 (is_ne rfl) (is_ne rfl)
                replace r946 := r946.chg ch951 (is_ne rfl)
                replace bx949 := bx949.chg ch951 (is_ne rfl)
                clear bx765
                refine x_nil (by kernel_rfl) ?_
                exact mid (b906, b763, v934, v942, g944) _ _ ⟨hbase, rfl, rfl, rfl, rfl, rfl, r_a_v, r_b_v, r_to_v, bx5, bx10, o935, r938, o943, r946, bx949, bx952⟩
        clear r_a_v
        clear r_b_v
        clear r_to_v
        clear bx5
        clear bx10
        clear hbase
        rintro ⟨b37, b42, v22, v30, g955⟩ f953 w954 ⟨hbase, zs2, zs3, zs4, zs7, zs8, r_a_v, r_b_v, r_to_v, bx5, bx10, o23, r26, o31, r34, bx47, bx50⟩
        refine run_seq ?_
        refine run_region rfl ?_
        refine l_val (v := Value.agg (List.toArray [Value.int .i64 a.1, v22])) rfl (e_load_bxN (ds := [Value.int .i64 a.1, v22]) tp24_t (by exact zs7) bx47 rfl rfl) ?_
        refine l_val (v := Value.agg (List.toArray [Value.int .i64 b.1, v30])) rfl (e_load_bxN (ds := [Value.int .i64 b.1, v30]) tp24_t (by exact zs8) bx50 rfl rfl) ?_
        refine l_op rfl ?_
        refine o_callx (e_call (vals := [Value.agg (List.toArray [Value.int .i64 a.1, v22]), Value.agg (List.toArray [Value.int .i64 b.1, v30])]) Try.func17 bd17_t nm17_t rfl) (Join_ok w954 a v22 (r26).ro b v30 (r34).ro) ?_
        rintro ⟨d957, v959⟩ w956 ⟨fr958, o960⟩
        obtain ⟨g961, hg961⟩ : ∃ q, q = glue w954.heap.size g955 d957 (fun n => if n = 1 then 7 else 0) := ⟨_, rfl⟩
        have ch962 := chg_glue fr958.below g955 d957 (fun n => if n = 1 then 7 else 0)
        rw [← hg961] at ch962
        replace hbase := hbase.chg ch962 (not_no _)
        replace r_a_v := r_a_v.chg ch962 (not_no _)
        replace r_b_v := r_b_v.chg ch962 (not_no _)
        replace r_to_v := r_to_v.chg ch962 (not_no _)
        replace bx5 := bx5.chg ch962 (not_no _)
        replace bx10 := bx10.chg ch962 (not_no _)
        replace o23 := o23.chg ch962 (not_no _) (not_no _)
        replace r26 := r26.chg ch962 (not_no _)
        replace o31 := o31.chg ch962 (not_no _) (not_no _)
        replace r34 := r34.chg ch962 (not_no _)
        replace bx47 := bx47.chg ch962 (not_no _)
        replace bx50 := bx50.chg ch962 (not_no _)
        replace o960 := o960.glue (γ := g955) (ren := (fun n => if n = 1 then 7 else 0)) (k := 7) fr958.col rfl rfl
        rw [← hg961] at o960
        clear hg961
        refine l_val (v := Value.tuple (List.toArray [Value.agg (List.toArray [Value.int .i64 (((joinR a b).1).1), v959]), Value.int .i64 ((joinR a b).2)])) rfl (e_move rfl) ?_
        refine l_val (v := Value.agg (List.toArray [Value.int .i64 (((joinR a b).1).1), v959])) rfl (e_extract rfl rfl) ?_
        refine l_val (v := Value.int .i64 ((joinR a b).2)) rfl (e_extract rfl rfl) ?_
        refine l_op rfl ?_
        refine o_alloc g961 (is 8) (8, 0) rfl tp24_t ?_
        intro g966 w963 b965 ch964 bx967
        replace hbase := hbase.chg ch964 (not_no _)
        replace r_a_v := r_a_v.chg ch964 (not_no _)
        replace r_b_v := r_b_v.chg ch964 (not_no _)
        replace r_to_v := r_to_v.chg ch964 (not_no _)
        replace bx5 := bx5.chg ch964 (not_no _)
        replace bx10 := bx10.chg ch964 (not_no _)
        replace o23 := o23.chg ch964 (not_no _) (not_no _)
        replace r26 := r26.chg ch964 (not_no _)
        replace o31 := o31.chg ch964 (not_no _) (not_no _)
        replace r34 := r34.chg ch964 (not_no _)
        replace bx47 := bx47.chg ch964 (not_no _)
        replace bx50 := bx50.chg ch964 (not_no _)
        replace o960 := o960.chg ch964 (not_no _) (not_no _)
        replace bx967 : Bx g966 (is 8) w963 b965 [Value.int .i64 0, Value.slice none 0 0] := bx967
        refine l_op rfl ?_
        refine o_store_bx (cs' := [Value.int .i64 (((joinR a b).1).1), v959]) tp24_t rfl rfl bx967 rfl (Nat.le_of_ble_eq_true rfl) (AllOne.all (.cons rfl (.cons (sl_one o960.flat) .nil))) rfl ?_
        intro w968 ch969 bx970
        replace hbase := hbase.chg ch969 (is_ne rfl)
        replace r_a_v := r_a_v.chg ch969 (is_ne rfl)
        replace r_b_v := r_b_v.chg ch969 (is_ne rfl)
        replace r_to_v := r_to_v.chg ch969 (is_ne rfl)
        replace bx5 := bx5.chg ch969 (is_ne rfl)
        replace bx10 := bx10.chg ch969 (is_ne rfl)
        replace o23 := o23.chg ch969 (is_ne rfl) (is_ne rfl)
        replace r26 := r26.chg ch969 (is_ne rfl)
        replace o31 := o31.chg ch969 (is_ne rfl) (is_ne rfl)
        replace r34 := r34.chg ch969 (is_ne rfl)
        replace bx47 := bx47.chg ch969 (is_ne rfl)
        replace bx50 := bx50.chg ch969 (is_ne rfl)
        replace o960 := o960.chg ch969 (is_ne rfl) (is_ne rfl)
        clear bx967
        refine l_val (v := Value.int .i64 ((joinR a b).2)) rfl (e_assign rfl) ?_
        refine l_nil ?_
        refine run_seq ?_
        refine run_region rfl ?_
        refine l_val (v := Value.agg (List.toArray [Value.int .i64 a.1, v22])) rfl (e_load_bxN (ds := [Value.int .i64 a.1, v22]) tp24_t (by exact zs7) bx47 rfl rfl) ?_
        refine l_val (v := to_v) rfl (e_move (by exact zs2)) ?_
        refine l_op rfl ?_
        refine o_callx (e_call (vals := [Value.agg (List.toArray [Value.int .i64 a.1, v22]), to_v]) Try.func18 bd18_t nm18_t rfl) (Moved_ok w968 a v22 (r26).ro to to_v (r_to_v).ro) ?_
        rintro ⟨d972, v974⟩ w971 ⟨fr973, o975⟩
        obtain ⟨g976, hg976⟩ : ∃ q, q = glue w968.heap.size g966 d972 (fun n => if n = 1 then 9 else 0) := ⟨_, rfl⟩
        have ch977 := chg_glue fr973.below g966 d972 (fun n => if n = 1 then 9 else 0)
        rw [← hg976] at ch977
        replace hbase := hbase.chg ch977 (not_no _)
        replace r_a_v := r_a_v.chg ch977 (not_no _)
        replace r_b_v := r_b_v.chg ch977 (not_no _)
        replace r_to_v := r_to_v.chg ch977 (not_no _)
        replace bx5 := bx5.chg ch977 (not_no _)
        replace bx10 := bx10.chg ch977 (not_no _)
        replace o23 := o23.chg ch977 (not_no _) (not_no _)
        replace r26 := r26.chg ch977 (not_no _)
        replace o31 := o31.chg ch977 (not_no _) (not_no _)
        replace r34 := r34.chg ch977 (not_no _)
        replace bx47 := bx47.chg ch977 (not_no _)
        replace bx50 := bx50.chg ch977 (not_no _)
        replace o960 := o960.chg ch977 (not_no _) (not_no _)
        replace bx970 := bx970.chg ch977 (not_no _)
        replace o975 := o975.glue (γ := g966) (ren := (fun n => if n = 1 then 9 else 0)) (k := 9) fr973.col rfl rfl
        rw [← hg976] at o975
        clear hg976
        refine l_val (v := Value.tuple (List.toArray [Value.agg (List.toArray [Value.int .i64 (((movedR a to).1).1), v974]), Value.int .i64 ((movedR a to).2)])) rfl (e_move rfl) ?_
        refine l_val (v := Value.agg (List.toArray [Value.int .i64 (((movedR a to).1).1), v974])) rfl (e_extract rfl rfl) ?_
        refine l_val (v := Value.int .i64 ((movedR a to).2)) rfl (e_extract rfl rfl) ?_
        refine l_op rfl ?_
        refine o_alloc g976 (is 10) (10, 0) rfl tp24_t ?_
        intro g981 w978 b980 ch979 bx982
        replace hbase := hbase.chg ch979 (not_no _)
        replace r_a_v := r_a_v.chg ch979 (not_no _)
        replace r_b_v := r_b_v.chg ch979 (not_no _)
        replace r_to_v := r_to_v.chg ch979 (not_no _)
        replace bx5 := bx5.chg ch979 (not_no _)
        replace bx10 := bx10.chg ch979 (not_no _)
        replace o23 := o23.chg ch979 (not_no _) (not_no _)
        replace r26 := r26.chg ch979 (not_no _)
        replace o31 := o31.chg ch979 (not_no _) (not_no _)
        replace r34 := r34.chg ch979 (not_no _)
        replace bx47 := bx47.chg ch979 (not_no _)
        replace bx50 := bx50.chg ch979 (not_no _)
        replace o960 := o960.chg ch979 (not_no _) (not_no _)
        replace bx970 := bx970.chg ch979 (not_no _)
        replace o975 := o975.chg ch979 (not_no _) (not_no _)
        replace bx982 : Bx g981 (is 10) w978 b980 [Value.int .i64 0, Value.slice none 0 0] := bx982
        refine l_op rfl ?_
        refine o_store_bx (cs' := [Value.int .i64 (((movedR a to).1).1), v974]) tp24_t rfl rfl bx982 rfl (Nat.le_of_ble_eq_true rfl) (AllOne.all (.cons rfl (.cons (sl_one o975.flat) .nil))) rfl ?_
        intro w983 ch984 bx985
        replace hbase := hbase.chg ch984 (is_ne rfl)
        replace r_a_v := r_a_v.chg ch984 (is_ne rfl)
        replace r_b_v := r_b_v.chg ch984 (is_ne rfl)
        replace r_to_v := r_to_v.chg ch984 (is_ne rfl)
        replace bx5 := bx5.chg ch984 (is_ne rfl)
        replace bx10 := bx10.chg ch984 (is_ne rfl)
        replace o23 := o23.chg ch984 (is_ne rfl) (is_ne rfl)
        replace r26 := r26.chg ch984 (is_ne rfl)
        replace o31 := o31.chg ch984 (is_ne rfl) (is_ne rfl)
        replace r34 := r34.chg ch984 (is_ne rfl)
        replace bx47 := bx47.chg ch984 (is_ne rfl)
        replace bx50 := bx50.chg ch984 (is_ne rfl)
        replace o960 := o960.chg ch984 (is_ne rfl) (is_ne rfl)
        replace bx970 := bx970.chg ch984 (is_ne rfl)
        replace o975 := o975.chg ch984 (is_ne rfl) (is_ne rfl)
        clear bx982
        refine l_val (v := Value.int .i64 ((movedR a to).2)) rfl (e_assign rfl) ?_
        refine l_nil ?_
        refine run_seq ?_
        refine run_seq ?_
        refine region_q g981 rfl mixed_t (by kernel_rfl) ?_
        intro w987 ch986
        replace hbase := hbase.chg ch986 (not_no _)
        replace r_a_v := r_a_v.chg ch986 (not_no _)
        replace r_b_v := r_b_v.chg ch986 (not_no _)
        replace r_to_v := r_to_v.chg ch986 (not_no _)
        replace bx5 := bx5.chg ch986 (not_no _)
        replace bx10 := bx10.chg ch986 (not_no _)
        replace o23 := o23.chg ch986 (not_no _) (not_no _)
        replace r26 := r26.chg ch986 (not_no _)
        replace o31 := o31.chg ch986 (not_no _) (not_no _)
        replace r34 := r34.chg ch986 (not_no _)
        replace bx47 := bx47.chg ch986 (not_no _)
        replace bx50 := bx50.chg ch986 (not_no _)
        replace o960 := o960.chg ch986 (not_no _) (not_no _)
        replace bx970 := bx970.chg ch986 (not_no _)
        replace o975 := o975.chg ch986 (not_no _) (not_no _)
        replace bx985 := bx985.chg ch986 (not_no _)
        refine q_val (v := Value.agg (List.toArray [Value.int .i64 a.1, v22])) rfl (fun w' hw' => e_load_bxN (ds := [Value.int .i64 a.1, v22]) tp24_t (by exact zs7) (bx47.bel hw') rfl rfl) ?_
        refine q_val (v := Value.agg (List.toArray [Value.int .i64 b.1, v30])) rfl (fun w' hw' => e_load_bxN (ds := [Value.int .i64 b.1, v30]) tp24_t (by exact zs8) (bx50.bel hw') rfl rfl) ?_
        refine q_call (v := Value.bool (decide (a = b))) rfl (fun w' hw' => e_call (vals := [Value.agg (List.toArray [Value.int .i64 a.1, v22]), Value.agg (List.toArray [Value.int .i64 b.1, v30])]) Try.func11 bd11_t nm11_t rfl) (fun w' hw' => (Same_ok w' a v22 ((r26.bel hw')).ro b v30 ((r34.bel hw')).ro).mono fun e w2 h2 => ⟨h2.1, hw'.trans (h2.2.mono hw'.size)⟩) ?_
        refine q_val (v := Value.agg (List.toArray [Value.int .i64 a.1, a_v])) rfl (fun w' hw' => e_load_bxN (ds := [Value.int .i64 a.1, a_v]) tp24_t (by exact zs3) (bx5.bel hw') rfl rfl) ?_
        refine q_val (v := Value.agg (List.toArray [Value.int .i64 b.1, b_v])) rfl (fun w' hw' => e_load_bxN (ds := [Value.int .i64 b.1, b_v]) tp24_t (by exact zs4) (bx10.bel hw') rfl rfl) ?_
        refine q_call (v := Value.bool (decide (a = b))) rfl (fun w' hw' => e_call (vals := [Value.agg (List.toArray [Value.int .i64 a.1, a_v]), Value.agg (List.toArray [Value.int .i64 b.1, b_v])]) Try.func19 bd19_t nm19_t rfl) (fun w' hw' => (rSame_ok w' a a_v ((r_a_v.bel hw')).ro b b_v ((r_b_v.bel hw')).ro).mono fun e w2 h2 => ⟨h2.1, hw'.trans (h2.2.mono hw'.size)⟩) ?_
        refine q_val (v := Value.bool (!(decide ((decide (a = b)) = (decide (a = b)))))) rfl (fun w' hw' => e_neq_bool Try.underlying4 rfl rfl) ?_
        refine q_val (v := Value.bool (!(decide ((decide (a = b)) = (decide (a = b)))))) rfl (fun w' hw' => e_move rfl) ?_
        have q55 : (decide (a = b)) = (decide (a = b)) := by first | rfl | exact decide_eq_true rfl
        refine q_val (v := Value.agg (List.toArray [Value.int .i64 a.1, v22])) (want_y rfl rfl rfl (congrArg Bool.not (decide_eq_true q55))) (fun w' hw' => e_load_bxN (ds := [Value.int .i64 a.1, v22]) tp24_t (by exact zs7) (bx47.bel hw') rfl rfl) ?_
        refine q_val (v := Value.agg (List.toArray [Value.int .i64 a.1, a_v])) (want_y rfl rfl rfl (congrArg Bool.not (decide_eq_true q55))) (fun w' hw' => e_load_bxN (ds := [Value.int .i64 a.1, a_v]) tp24_t (by exact zs3) (bx5.bel hw') rfl rfl) ?_
        refine q_call (v := Value.bool (decide (a = a))) (want_y rfl rfl rfl (congrArg Bool.not (decide_eq_true q55))) (fun w' hw' => e_call (vals := [Value.agg (List.toArray [Value.int .i64 a.1, v22]), Value.agg (List.toArray [Value.int .i64 a.1, a_v])]) Try.func20 bd20_t nm20_t rfl) (fun w' hw' => (Kept_ok w' a v22 ((r26.bel hw')).ro a a_v ((r_a_v.bel hw')).ro (by exact Sl.ro (Sl.bel (Ow.flat (by assumption)) hw'))).mono fun e w2 h2 => ⟨h2.1, hw'.trans (h2.2.mono hw'.size)⟩) ?_
        refine q_val (v := Value.bool (!(decide (a = a)))) (want_y rfl rfl rfl (congrArg Bool.not (decide_eq_true q55))) (fun w' hw' => e_not (b := (decide (a = a))) rfl) ?_
        refine q_val (v := Value.bool (!(decide (a = a)))) rfl (fun w' hw' => e_pick_f rfl (congrArg Bool.not (decide_eq_true q55)) rfl) ?_
        refine q_val (v := Value.bool (!(decide (a = a)))) rfl (fun w' hw' => e_move rfl) ?_
        have q61 : (decide (a = a)) = true := by first | rfl | exact decide_eq_true rfl
        refine q_val (v := Value.agg (List.toArray [Value.int .i64 b.1, v30])) (want_y rfl rfl rfl (congrArg Bool.not q61)) (fun w' hw' => e_load_bxN (ds := [Value.int .i64 b.1, v30]) tp24_t (by exact zs8) (bx50.bel hw') rfl rfl) ?_
        refine q_val (v := Value.agg (List.toArray [Value.int .i64 b.1, b_v])) (want_y rfl rfl rfl (congrArg Bool.not q61)) (fun w' hw' => e_load_bxN (ds := [Value.int .i64 b.1, b_v]) tp24_t (by exact zs4) (bx10.bel hw') rfl rfl) ?_
        refine q_call (v := Value.bool (decide (b = b))) (want_y rfl rfl rfl (congrArg Bool.not q61)) (fun w' hw' => e_call (vals := [Value.agg (List.toArray [Value.int .i64 b.1, v30]), Value.agg (List.toArray [Value.int .i64 b.1, b_v])]) Try.func20 bd20_t nm20_t rfl) (fun w' hw' => (Kept_ok w' b v30 ((r34.bel hw')).ro b b_v ((r_b_v.bel hw')).ro (by exact Sl.ro (Sl.bel (Ow.flat (by assumption)) hw'))).mono fun e w2 h2 => ⟨h2.1, hw'.trans (h2.2.mono hw'.size)⟩) ?_
        refine q_val (v := Value.bool (!(decide (b = b)))) (want_y rfl rfl rfl (congrArg Bool.not q61)) (fun w' hw' => e_not (b := (decide (b = b))) rfl) ?_
        refine q_val (v := Value.bool (!(decide (b = b)))) rfl (fun w' hw' => e_pick_f rfl (congrArg Bool.not q61) rfl) ?_
        refine q_nil ?_
        intro w988 hc989
        replace hc989 := chg_below hc989 g981
        replace hbase := hbase.chg hc989 (not_no _)
        replace r_a_v := r_a_v.chg hc989 (not_no _)
        replace r_b_v := r_b_v.chg hc989 (not_no _)
        replace r_to_v := r_to_v.chg hc989 (not_no _)
        replace bx5 := bx5.chg hc989 (not_no _)
        replace bx10 := bx10.chg hc989 (not_no _)
        replace o23 := o23.chg hc989 (not_no _) (not_no _)
        replace r26 := r26.chg hc989 (not_no _)
        replace o31 := o31.chg hc989 (not_no _) (not_no _)
        replace r34 := r34.chg hc989 (not_no _)
        replace bx47 := bx47.chg hc989 (not_no _)
        replace bx50 := bx50.chg hc989 (not_no _)
        replace o960 := o960.chg hc989 (not_no _) (not_no _)
        replace bx970 := bx970.chg hc989 (not_no _)
        replace o975 := o975.chg hc989 (not_no _) (not_no _)
        replace bx985 := bx985.chg hc989 (not_no _)
        have p8 : (decide (b = b)) = true := by first | rfl | exact decide_eq_true rfl
        refine run_cond_f rfl (congrArg Bool.not p8) ?_
        refine run_skip ?_
        refine run_seq ?_
        refine run_seq ?_
        clear r26
        clear r34
        clear bx47
        clear bx50
        refine run_region rfl ?_
        refine l_val (v := Value.agg (List.toArray [Value.int .i64 a.1, a_v])) rfl (e_load_bxN (ds := [Value.int .i64 a.1, a_v]) tp24_t (by exact zs3) bx5 rfl rfl) ?_
        refine l_op rfl ?_
        refine o_call (v := Value.bool (mayB a)) (e_call (vals := [Value.agg (List.toArray [Value.int .i64 a.1, a_v])]) Try.func9 bd9_t nm9_t rfl) (rMay_ok w988 a a_v (r_a_v).ro) ?_
        intro w990 hb991
        replace hb991 := chg_below hb991 g981
        replace hbase := hbase.chg hb991 (not_no _)
        replace r_a_v := r_a_v.chg hb991 (not_no _)
        replace r_b_v := r_b_v.chg hb991 (not_no _)
        replace r_to_v := r_to_v.chg hb991 (not_no _)
        replace bx5 := bx5.chg hb991 (not_no _)
        replace bx10 := bx10.chg hb991 (not_no _)
        replace o23 := o23.chg hb991 (not_no _) (not_no _)
        replace o31 := o31.chg hb991 (not_no _) (not_no _)
        replace o960 := o960.chg hb991 (not_no _) (not_no _)
        replace bx970 := bx970.chg hb991 (not_no _)
        replace o975 := o975.chg hb991 (not_no _) (not_no _)
        replace bx985 := bx985.chg hb991 (not_no _)
        refine l_val (v := Value.bool (!(mayB a))) rfl (e_not (b := (mayB a)) rfl) ?_
        refine l_nil ?_
        by_cases p10 : (mayB a) = true
        · skip
          refine run_cond_f rfl (congrArg Bool.not p10) ?_
          refine run_skip ?_
          refine run_seq ?_
          refine run_region rfl ?_
          refine l_val (v := Value.agg (List.toArray [Value.int .i64 a.1, a_v])) rfl (e_load_bxN (ds := [Value.int .i64 a.1, a_v]) tp24_t (by exact zs3) bx5 rfl rfl) ?_
          refine l_val (v := to_v) rfl (e_move (by exact zs2)) ?_
          refine l_op rfl ?_
          refine o_callx (e_call (vals := [Value.agg (List.toArray [Value.int .i64 a.1, a_v]), to_v]) Try.func21 bd21_t nm21_t rfl) (rMoved_ok w990 a a_v (r_a_v).ro to to_v (r_to_v).ro (by exact of_decide_eq_true p10)) ?_
          rintro ⟨d993, v995⟩ w992 ⟨fr994, o996⟩
          obtain ⟨g997, hg997⟩ : ∃ q, q = glue w990.heap.size g981 d993 (fun n => if n = 1 then 11 else 0) := ⟨_, rfl⟩
          have ch998 := chg_glue fr994.below g981 d993 (fun n => if n = 1 then 11 else 0)
          rw [← hg997] at ch998
          replace hbase := hbase.chg ch998 (not_no _)
          replace r_a_v := r_a_v.chg ch998 (not_no _)
          replace r_b_v := r_b_v.chg ch998 (not_no _)
          replace r_to_v := r_to_v.chg ch998 (not_no _)
          replace bx5 := bx5.chg ch998 (not_no _)
          replace bx10 := bx10.chg ch998 (not_no _)
          replace o23 := o23.chg ch998 (not_no _) (not_no _)
          replace o31 := o31.chg ch998 (not_no _) (not_no _)
          replace o960 := o960.chg ch998 (not_no _) (not_no _)
          replace bx970 := bx970.chg ch998 (not_no _)
          replace o975 := o975.chg ch998 (not_no _) (not_no _)
          replace bx985 := bx985.chg ch998 (not_no _)
          replace o996 := o996.glue (γ := g981) (ren := (fun n => if n = 1 then 11 else 0)) (k := 11) fr994.col rfl rfl
          rw [← hg997] at o996
          clear hg997
          refine l_val (v := Value.tuple (List.toArray [Value.agg (List.toArray [Value.int .i64 (((movedR a to).1).1), v995]), Value.int .i64 ((movedR a to).2)])) rfl (e_move rfl) ?_
          refine l_val (v := Value.agg (List.toArray [Value.int .i64 (((movedR a to).1).1), v995])) rfl (e_extract rfl rfl) ?_
          refine l_val (v := Value.int .i64 ((movedR a to).2)) rfl (e_extract rfl rfl) ?_
          refine l_op rfl ?_
          refine o_alloc g997 (is 12) (12, 0) rfl tp24_t ?_
          intro g1002 w999 b1001 ch1000 bx1003
          replace hbase := hbase.chg ch1000 (not_no _)
          replace r_a_v := r_a_v.chg ch1000 (not_no _)
          replace r_b_v := r_b_v.chg ch1000 (not_no _)
          replace r_to_v := r_to_v.chg ch1000 (not_no _)
          replace bx5 := bx5.chg ch1000 (not_no _)
          replace bx10 := bx10.chg ch1000 (not_no _)
          replace o23 := o23.chg ch1000 (not_no _) (not_no _)
          replace o31 := o31.chg ch1000 (not_no _) (not_no _)
          replace o960 := o960.chg ch1000 (not_no _) (not_no _)
          replace bx970 := bx970.chg ch1000 (not_no _)
          replace o975 := o975.chg ch1000 (not_no _) (not_no _)
          replace bx985 := bx985.chg ch1000 (not_no _)
          replace o996 := o996.chg ch1000 (not_no _) (not_no _)
          replace bx1003 : Bx g1002 (is 12) w999 b1001 [Value.int .i64 0, Value.slice none 0 0] := bx1003
          refine l_op rfl ?_
          refine o_store_bx (cs' := [Value.int .i64 (((movedR a to).1).1), v995]) tp24_t rfl rfl bx1003 rfl (Nat.le_of_ble_eq_true rfl) (AllOne.all (.cons rfl (.cons (sl_one o996.flat) .nil))) rfl ?_
          intro w1004 ch1005 bx1006
          replace hbase := hbase.chg ch1005 (is_ne rfl)
          replace r_a_v := r_a_v.chg ch1005 (is_ne rfl)
          replace r_b_v := r_b_v.chg ch1005 (is_ne rfl)
          replace r_to_v := r_to_v.chg ch1005 (is_ne rfl)
          replace bx5 := bx5.chg ch1005 (is_ne rfl)
          replace bx10 := bx10.chg ch1005 (is_ne rfl)
          replace o23 := o23.chg ch1005 (is_ne rfl) (is_ne rfl)
          replace o31 := o31.chg ch1005 (is_ne rfl) (is_ne rfl)
          replace o960 := o960.chg ch1005 (is_ne rfl) (is_ne rfl)
          replace bx970 := bx970.chg ch1005 (is_ne rfl)
          replace o975 := o975.chg ch1005 (is_ne rfl) (is_ne rfl)
          replace bx985 := bx985.chg ch1005 (is_ne rfl)
          replace o996 := o996.chg ch1005 (is_ne rfl) (is_ne rfl)
          clear bx1003
          refine l_val (v := Value.int .i64 ((movedR a to).2)) rfl (e_assign rfl) ?_
          refine l_nil ?_
          refine run_seq ?_
          refine run_seq ?_
          refine run_region rfl ?_
          refine l_val (v := Value.int .i64 ((movedR a to).2)) rfl (e_move rfl) ?_
          refine l_val (v := Value.int .i64 ((movedR a to).2)) rfl (e_move rfl) ?_
          refine l_val (v := Value.bool (!(decide (((movedR a to).2) = ((movedR a to).2))))) rfl (e_neq (m := (movedR a to).2) (n := (movedR a to).2) rfl rfl) ?_
          refine l_val (v := Value.bool (!(decide (((movedR a to).2) = ((movedR a to).2))))) rfl (e_move rfl) ?_
          have q95 : ((movedR a to).2) = ((movedR a to).2) := by first | rfl | exact decide_eq_true rfl
          refine l_val (v := Value.agg (List.toArray [Value.int .i64 (((movedR a to).1).1), v974])) (want_y rfl rfl rfl (congrArg Bool.not (decide_eq_true q95))) (e_load_bxN (ds := [Value.int .i64 (((movedR a to).1).1), v974]) tp24_t rfl bx985 rfl rfl) ?_
          refine l_val (v := Value.agg (List.toArray [Value.int .i64 (((movedR a to).1).1), v995])) (want_y rfl rfl rfl (congrArg Bool.not (decide_eq_true q95))) (e_load_bxN (ds := [Value.int .i64 (((movedR a to).1).1), v995]) tp24_t rfl bx1006 rfl rfl) ?_
          refine l_op (want_y rfl rfl rfl (congrArg Bool.not (decide_eq_true q95))) ?_
          refine o_call (v := Value.bool (decide (((movedR a to).1) = ((movedR a to).1)))) (e_call (vals := [Value.agg (List.toArray [Value.int .i64 (((movedR a to).1).1), v974]), Value.agg (List.toArray [Value.int .i64 (((movedR a to).1).1), v995])]) Try.func19 bd19_t nm19_t rfl) (rSame_ok w1004 ((movedR a to).1) v974 (o975.flat).ro ((movedR a to).1) v995 (o996.flat).ro) ?_
          intro w1007 hb1008
          replace hb1008 := chg_below hb1008 g1002
          replace hbase := hbase.chg hb1008 (not_no _)
          replace r_a_v := r_a_v.chg hb1008 (not_no _)
          replace r_b_v := r_b_v.chg hb1008 (not_no _)
          replace r_to_v := r_to_v.chg hb1008 (not_no _)
          replace bx5 := bx5.chg hb1008 (not_no _)
          replace bx10 := bx10.chg hb1008 (not_no _)
          replace o23 := o23.chg hb1008 (not_no _) (not_no _)
          replace o31 := o31.chg hb1008 (not_no _) (not_no _)
          replace o960 := o960.chg hb1008 (not_no _) (not_no _)
          replace bx970 := bx970.chg hb1008 (not_no _)
          replace o975 := o975.chg hb1008 (not_no _) (not_no _)
          replace bx985 := bx985.chg hb1008 (not_no _)
          replace o996 := o996.chg hb1008 (not_no _) (not_no _)
          replace bx1006 := bx1006.chg hb1008 (not_no _)
          refine l_val (v := Value.bool (!(decide (((movedR a to).1) = ((movedR a to).1))))) (want_y rfl rfl rfl (congrArg Bool.not (decide_eq_true q95))) (e_not (b := (decide (((movedR a to).1) = ((movedR a to).1)))) rfl) ?_
          refine l_val (v := Value.bool (!(decide (((movedR a to).1) = ((movedR a to).1))))) rfl (e_pick_f rfl (congrArg Bool.not (decide_eq_true q95)) rfl) ?_
          refine l_nil ?_
          have p13 : (decide (((movedR a to).1) = ((movedR a to).1))) = true := by first | rfl | exact decide_eq_true rfl
          refine run_cond_f rfl (congrArg Bool.not p13) ?_
          refine run_skip ?_
          refine run_seq ?_
          refine run_seq ?_
          clear o975
          clear bx985
          clear o996
          clear bx1006
          refine run_region rfl ?_
          refine l_val (v := Value.agg (List.toArray [Value.int .i64 b.1, b_v])) rfl (e_load_bxN (ds := [Value.int .i64 b.1, b_v]) tp24_t (by exact zs4) bx10 rfl rfl) ?_
          refine l_op rfl ?_
          refine o_call (v := Value.bool (mayB b)) (e_call (vals := [Value.agg (List.toArray [Value.int .i64 b.1, b_v])]) Try.func9 bd9_t nm9_t rfl) (rMay_ok w1007 b b_v (r_b_v).ro) ?_
          intro w1009 hb1010
          replace hb1010 := chg_below hb1010 g1002
          replace hbase := hbase.chg hb1010 (not_no _)
          replace r_a_v := r_a_v.chg hb1010 (not_no _)
          replace r_b_v := r_b_v.chg hb1010 (not_no _)
          replace r_to_v := r_to_v.chg hb1010 (not_no _)
          replace bx5 := bx5.chg hb1010 (not_no _)
          replace bx10 := bx10.chg hb1010 (not_no _)
          replace o23 := o23.chg hb1010 (not_no _) (not_no _)
          replace o31 := o31.chg hb1010 (not_no _) (not_no _)
          replace o960 := o960.chg hb1010 (not_no _) (not_no _)
          replace bx970 := bx970.chg hb1010 (not_no _)
          refine l_val (v := Value.bool (!(mayB b))) rfl (e_not (b := (mayB b)) rfl) ?_
          refine l_nil ?_
          by_cases p15 : (mayB b) = true
          · skip
            refine run_cond_f rfl (congrArg Bool.not p15) ?_
            refine run_skip ?_
            refine run_seq ?_
            refine run_region rfl ?_
            refine l_val (v := Value.agg (List.toArray [Value.int .i64 a.1, a_v])) rfl (e_load_bxN (ds := [Value.int .i64 a.1, a_v]) tp24_t (by exact zs3) bx5 rfl rfl) ?_
            refine l_val (v := Value.agg (List.toArray [Value.int .i64 b.1, b_v])) rfl (e_load_bxN (ds := [Value.int .i64 b.1, b_v]) tp24_t (by exact zs4) bx10 rfl rfl) ?_
            refine l_op rfl ?_
            refine o_callx (e_call (vals := [Value.agg (List.toArray [Value.int .i64 a.1, a_v]), Value.agg (List.toArray [Value.int .i64 b.1, b_v])]) Try.func22 bd22_t nm22_t rfl) (rJoin_ok w1009 a a_v (r_a_v).ro b b_v (r_b_v).ro (by exact of_decide_eq_true p10) (by exact of_decide_eq_true p15)) ?_
            rintro ⟨d1012, v1014⟩ w1011 ⟨fr1013, o1015⟩
            obtain ⟨g1016, hg1016⟩ : ∃ q, q = glue w1009.heap.size g1002 d1012 (fun n => if n = 1 then 13 else 0) := ⟨_, rfl⟩
            have ch1017 := chg_glue fr1013.below g1002 d1012 (fun n => if n = 1 then 13 else 0)
            rw [← hg1016] at ch1017
            replace hbase := hbase.chg ch1017 (not_no _)
            replace r_a_v := r_a_v.chg ch1017 (not_no _)
            replace r_b_v := r_b_v.chg ch1017 (not_no _)
            replace r_to_v := r_to_v.chg ch1017 (not_no _)
            replace bx5 := bx5.chg ch1017 (not_no _)
            replace bx10 := bx10.chg ch1017 (not_no _)
            replace o23 := o23.chg ch1017 (not_no _) (not_no _)
            replace o31 := o31.chg ch1017 (not_no _) (not_no _)
            replace o960 := o960.chg ch1017 (not_no _) (not_no _)
            replace bx970 := bx970.chg ch1017 (not_no _)
            replace o1015 := o1015.glue (γ := g1002) (ren := (fun n => if n = 1 then 13 else 0)) (k := 13) fr1013.col rfl rfl
            rw [← hg1016] at o1015
            clear hg1016
            refine l_val (v := Value.tuple (List.toArray [Value.agg (List.toArray [Value.int .i64 (((joinR a b).1).1), v1014]), Value.int .i64 ((joinR a b).2)])) rfl (e_move rfl) ?_
            refine l_val (v := Value.agg (List.toArray [Value.int .i64 (((joinR a b).1).1), v1014])) rfl (e_extract rfl rfl) ?_
            refine l_val (v := Value.int .i64 ((joinR a b).2)) rfl (e_extract rfl rfl) ?_
            refine l_op rfl ?_
            refine o_alloc g1016 (is 14) (14, 0) rfl tp24_t ?_
            intro g1021 w1018 b1020 ch1019 bx1022
            replace hbase := hbase.chg ch1019 (not_no _)
            replace r_a_v := r_a_v.chg ch1019 (not_no _)
            replace r_b_v := r_b_v.chg ch1019 (not_no _)
            replace r_to_v := r_to_v.chg ch1019 (not_no _)
            replace bx5 := bx5.chg ch1019 (not_no _)
            replace bx10 := bx10.chg ch1019 (not_no _)
            replace o23 := o23.chg ch1019 (not_no _) (not_no _)
            replace o31 := o31.chg ch1019 (not_no _) (not_no _)
            replace o960 := o960.chg ch1019 (not_no _) (not_no _)
            replace bx970 := bx970.chg ch1019 (not_no _)
            replace o1015 := o1015.chg ch1019 (not_no _) (not_no _)
            replace bx1022 : Bx g1021 (is 14) w1018 b1020 [Value.int .i64 0, Value.slice none 0 0] := bx1022
            refine l_op rfl ?_
            refine o_store_bx (cs' := [Value.int .i64 (((joinR a b).1).1), v1014]) tp24_t rfl rfl bx1022 rfl (Nat.le_of_ble_eq_true rfl) (AllOne.all (.cons rfl (.cons (sl_one o1015.flat) .nil))) rfl ?_
            intro w1023 ch1024 bx1025
            replace hbase := hbase.chg ch1024 (is_ne rfl)
            replace r_a_v := r_a_v.chg ch1024 (is_ne rfl)
            replace r_b_v := r_b_v.chg ch1024 (is_ne rfl)
            replace r_to_v := r_to_v.chg ch1024 (is_ne rfl)
            replace bx5 := bx5.chg ch1024 (is_ne rfl)
            replace bx10 := bx10.chg ch1024 (is_ne rfl)
            replace o23 := o23.chg ch1024 (is_ne rfl) (is_ne rfl)
            replace o31 := o31.chg ch1024 (is_ne rfl) (is_ne rfl)
            replace o960 := o960.chg ch1024 (is_ne rfl) (is_ne rfl)
            replace bx970 := bx970.chg ch1024 (is_ne rfl)
            replace o1015 := o1015.chg ch1024 (is_ne rfl) (is_ne rfl)
            clear bx1022
            refine l_val (v := Value.int .i64 ((joinR a b).2)) rfl (e_assign rfl) ?_
            refine l_nil ?_
            refine run_seq ?_
            clear bx5
            clear bx10
            refine run_region rfl ?_
            refine l_val (v := Value.int .i64 ((joinR a b).2)) rfl (e_move rfl) ?_
            refine l_val (v := Value.int .i64 ((joinR a b).2)) rfl (e_move rfl) ?_
            refine l_val (v := Value.bool (decide (((joinR a b).2) = ((joinR a b).2)))) rfl (e_eql (m := (joinR a b).2) (n := (joinR a b).2) rfl rfl) ?_
            refine l_val (v := Value.bool (decide (((joinR a b).2) = ((joinR a b).2)))) rfl (e_move rfl) ?_
            have q120 : ((joinR a b).2) = ((joinR a b).2) := by first | rfl | exact decide_eq_true rfl
            refine l_val (v := Value.agg (List.toArray [Value.int .i64 (((joinR a b).1).1), v959])) (want_y rfl rfl rfl (decide_eq_true q120)) (e_load_bxN (ds := [Value.int .i64 (((joinR a b).1).1), v959]) tp24_t rfl bx970 rfl rfl) ?_
            refine l_val (v := Value.agg (List.toArray [Value.int .i64 (((joinR a b).1).1), v1014])) (want_y rfl rfl rfl (decide_eq_true q120)) (e_load_bxN (ds := [Value.int .i64 (((joinR a b).1).1), v1014]) tp24_t rfl bx1025 rfl rfl) ?_
            refine l_op (want_y rfl rfl rfl (decide_eq_true q120)) ?_
            refine o_call (v := Value.bool (decide (((joinR a b).1) = ((joinR a b).1)))) (e_call (vals := [Value.agg (List.toArray [Value.int .i64 (((joinR a b).1).1), v959]), Value.agg (List.toArray [Value.int .i64 (((joinR a b).1).1), v1014])]) Try.func19 bd19_t nm19_t rfl) (rSame_ok w1023 ((joinR a b).1) v959 (o960.flat).ro ((joinR a b).1) v1014 (o1015.flat).ro) ?_
            intro w1026 hb1027
            replace hb1027 := chg_below hb1027 g1021
            replace hbase := hbase.chg hb1027 (not_no _)
            replace r_a_v := r_a_v.chg hb1027 (not_no _)
            replace r_b_v := r_b_v.chg hb1027 (not_no _)
            replace r_to_v := r_to_v.chg hb1027 (not_no _)
            replace o23 := o23.chg hb1027 (not_no _) (not_no _)
            replace o31 := o31.chg hb1027 (not_no _) (not_no _)
            replace o960 := o960.chg hb1027 (not_no _) (not_no _)
            replace bx970 := bx970.chg hb1027 (not_no _)
            replace o1015 := o1015.chg hb1027 (not_no _) (not_no _)
            replace bx1025 := bx1025.chg hb1027 (not_no _)
            refine l_val (v := Value.bool (decide (((joinR a b).1) = ((joinR a b).1)))) rfl (e_pick_t rfl (decide_eq_true q120) rfl) ?_
            refine l_val (v := Value.bool (decide (((joinR a b).1) = ((joinR a b).1)))) rfl (e_assign rfl) ?_
            refine l_nil ?_
            refine run_ret (vs := [Value.bool (decide (((joinR a b).1) = ((joinR a b).1)))]) Try.func4 (.tmp rfl .nil) ?_
            -- return 0
            have e0 : ((decide (((joinR a b).1) = ((joinR a b).1))) : Bool) = (true) := by
              first
                | rfl
                | exact decide_eq_true rfl
                | (have hn : ¬ MayP a := fun h => p10 (decide_eq_true h)
                   exfalso; simp_all [joinR, movedR]; done)
                | (have hn : ¬ MayP b := fun h => p15 (decide_eq_true h)
                   exfalso; simp_all [joinR, movedR]; done)
                | (have hn : ¬ MayP a := fun h => p10 (decide_eq_true h)
                   simp [joinR, movedR, hn]; done)
                | (have hn : ¬ MayP b := fun h => p15 (decide_eq_true h)
                   simp [joinR, movedR, hn]; done)
            exact ⟨(congrArg (a₁ := (decide (((joinR a b).1) = ((joinR a b).1)))) (fun (z0 : Bool) => Ending.returned (Value.bool z0)) e0), hbase.below⟩
          · skip
            refine run_cond_t rfl (congrArg Bool.not (Bool.eq_false_iff.2 p15)) ?_
            refine run_seq ?_
            clear bx5
            clear bx10
            refine run_region rfl ?_
            refine l_val (v := Value.int .i64 ((joinR a b).2)) rfl (e_move rfl) ?_
            refine l_val (v := Value.bool (decide (((joinR a b).2) = 1))) rfl (e_eql (m := (joinR a b).2) (n := 1) rfl rfl) ?_
            refine l_val (v := Value.bool (decide (((joinR a b).2) = 1))) rfl (e_move rfl) ?_
            by_cases q106 : ((joinR a b).2) = 1
            · skip
              refine l_val (v := Value.pointer (some ⟨b965, 0, none⟩)) (want_y rfl rfl rfl (decide_eq_true q106)) (e_fieldAddr Try.underlying24 rfl rfl rfl rfl) ?_
              refine l_val (v := Value.int .i64 (((joinR a b).1).1)) (want_y rfl rfl rfl (decide_eq_true q106)) (e_load_bx1 tp3_t rfl bx970 rfl) ?_
              refine l_val (v := Value.bool (decide ((((joinR a b).1).1) = 0))) (want_y rfl rfl rfl (decide_eq_true q106)) (e_eql (m := ((joinR a b).1).1) (n := 0) rfl rfl) ?_
              refine l_val (v := Value.bool (decide ((((joinR a b).1).1) = 0))) rfl (e_pick_t rfl (decide_eq_true q106) rfl) ?_
              refine l_val (v := Value.bool (decide ((((joinR a b).1).1) = 0))) rfl (e_assign rfl) ?_
              refine l_nil ?_
              refine run_ret (vs := [Value.bool (decide ((((joinR a b).1).1) = 0))]) Try.func4 (.tmp rfl .nil) ?_
              -- return 1
              have e0 : (decide ((((joinR a b).1).1) = 0) : Bool) = (true) := by
                first
                  | rfl
                  | exact decide_eq_true rfl
                  | (have hn : ¬ MayP a := fun h => p10 (decide_eq_true h)
                     exfalso; simp_all [joinR, movedR]; done)
                  | (have hn : ¬ MayP b := fun h => p15 (decide_eq_true h)
                     exfalso; simp_all [joinR, movedR]; done)
                  | (have hn : ¬ MayP a := fun h => p10 (decide_eq_true h)
                     simp [joinR, movedR, hn]; done)
                  | (have hn : ¬ MayP b := fun h => p15 (decide_eq_true h)
                     simp [joinR, movedR, hn]; done)
              exact ⟨(congrArg (a₁ := decide ((((joinR a b).1).1) = 0)) (fun (z0 : Bool) => Ending.returned (Value.bool z0)) e0), hbase.below⟩
            · skip
              refine l_skip (want_n rfl rfl rfl (decide_eq_false q106)) ?_
              refine l_skip (want_n rfl rfl rfl (decide_eq_false q106)) ?_
              refine l_skip (want_n rfl rfl rfl (decide_eq_false q106)) ?_
              refine l_val (v := Value.bool false) rfl (e_pick_f rfl (decide_eq_false q106) rfl) ?_
              refine l_val (v := Value.bool false) rfl (e_assign rfl) ?_
              refine l_nil ?_
              refine run_ret (vs := [Value.bool false]) Try.func4 (.tmp rfl .nil) ?_
              -- return 2
              have e0 : (false : Bool) = (true) := by
                first
                  | rfl
                  | exact decide_eq_true rfl
                  | (have hn : ¬ MayP a := fun h => p10 (decide_eq_true h)
                     exfalso; simp_all [joinR, movedR]; done)
                  | (have hn : ¬ MayP b := fun h => p15 (decide_eq_true h)
                     exfalso; simp_all [joinR, movedR]; done)
                  | (have hn : ¬ MayP a := fun h => p10 (decide_eq_true h)
                     simp [joinR, movedR, hn]; done)
                  | (have hn : ¬ MayP b := fun h => p15 (decide_eq_true h)
                     simp [joinR, movedR, hn]; done)
              exact ⟨(congrArg (a₁ := false) (fun (z0 : Bool) => Ending.returned (Value.bool z0)) e0), hbase.below⟩
        · skip
          refine run_cond_t rfl (congrArg Bool.not (Bool.eq_false_iff.2 p10)) ?_
          refine run_seq ?_
          clear bx5
          clear bx10
          refine run_region rfl ?_
          refine l_val (v := Value.int .i64 ((joinR a b).2)) rfl (e_move rfl) ?_
          refine l_val (v := Value.bool (decide (((joinR a b).2) = 1))) rfl (e_eql (m := (joinR a b).2) (n := 1) rfl rfl) ?_
          refine l_val (v := Value.bool (decide (((joinR a b).2) = 1))) rfl (e_move rfl) ?_
          by_cases q72 : ((joinR a b).2) = 1
          · skip
            refine l_val (v := Value.int .i64 ((movedR a to).2)) (want_y rfl rfl rfl (decide_eq_true q72)) (e_move rfl) ?_
            refine l_val (v := Value.bool (decide (((movedR a to).2) = 1))) (want_y rfl rfl rfl (decide_eq_true q72)) (e_eql (m := (movedR a to).2) (n := 1) rfl rfl) ?_
            refine l_val (v := Value.bool (decide (((movedR a to).2) = 1))) rfl (e_pick_t rfl (decide_eq_true q72) rfl) ?_
            refine l_val (v := Value.bool (decide (((movedR a to).2) = 1))) rfl (e_move rfl) ?_
            by_cases q76 : ((movedR a to).2) = 1
            · skip
              refine l_val (v := Value.pointer (some ⟨b965, 0, none⟩)) (want_y rfl rfl rfl (decide_eq_true q76)) (e_fieldAddr Try.underlying24 rfl rfl rfl rfl) ?_
              refine l_val (v := Value.int .i64 (((joinR a b).1).1)) (want_y rfl rfl rfl (decide_eq_true q76)) (e_load_bx1 tp3_t rfl bx970 rfl) ?_
              refine l_val (v := Value.bool (decide ((((joinR a b).1).1) = 0))) (want_y rfl rfl rfl (decide_eq_true q76)) (e_eql (m := ((joinR a b).1).1) (n := 0) rfl rfl) ?_
              refine l_val (v := Value.bool (decide ((((joinR a b).1).1) = 0))) rfl (e_pick_t rfl (decide_eq_true q76) rfl) ?_
              refine l_val (v := Value.bool (decide ((((joinR a b).1).1) = 0))) rfl (e_move rfl) ?_
              by_cases q81 : (((joinR a b).1).1) = 0
              · skip
                refine l_val (v := Value.pointer (some ⟨b980, 0, none⟩)) (want_y rfl rfl rfl (decide_eq_true q81)) (e_fieldAddr Try.underlying24 rfl rfl rfl rfl) ?_
                refine l_val (v := Value.int .i64 (((movedR a to).1).1)) (want_y rfl rfl rfl (decide_eq_true q81)) (e_load_bx1 tp3_t rfl bx985 rfl) ?_
                refine l_val (v := Value.bool (decide ((((movedR a to).1).1) = 0))) (want_y rfl rfl rfl (decide_eq_true q81)) (e_eql (m := ((movedR a to).1).1) (n := 0) rfl rfl) ?_
                refine l_val (v := Value.bool (decide ((((movedR a to).1).1) = 0))) rfl (e_pick_t rfl (decide_eq_true q81) rfl) ?_
                refine l_val (v := Value.bool (decide ((((movedR a to).1).1) = 0))) rfl (e_assign rfl) ?_
                refine l_nil ?_
                refine run_ret (vs := [Value.bool (decide ((((movedR a to).1).1) = 0))]) Try.func4 (.tmp rfl .nil) ?_
                -- return 3
                have e0 : (decide ((((movedR a to).1).1) = 0) : Bool) = (true) := by
                  first
                    | rfl
                    | exact decide_eq_true rfl
                    | (have hn : ¬ MayP a := fun h => p10 (decide_eq_true h)
                       exfalso; simp_all [joinR, movedR]; done)
                    | (have hn : ¬ MayP b := fun h => p15 (decide_eq_true h)
                       exfalso; simp_all [joinR, movedR]; done)
                    | (have hn : ¬ MayP a := fun h => p10 (decide_eq_true h)
                       simp [joinR, movedR, hn]; done)
                    | (have hn : ¬ MayP b := fun h => p15 (decide_eq_true h)
                       simp [joinR, movedR, hn]; done)
                exact ⟨(congrArg (a₁ := decide ((((movedR a to).1).1) = 0)) (fun (z0 : Bool) => Ending.returned (Value.bool z0)) e0), hbase.below⟩
              · skip
                refine l_skip (want_n rfl rfl rfl (decide_eq_false q81)) ?_
                refine l_skip (want_n rfl rfl rfl (decide_eq_false q81)) ?_
                refine l_skip (want_n rfl rfl rfl (decide_eq_false q81)) ?_
                refine l_val (v := Value.bool false) rfl (e_pick_f rfl (decide_eq_false q81) rfl) ?_
                refine l_val (v := Value.bool false) rfl (e_assign rfl) ?_
                refine l_nil ?_
                refine run_ret (vs := [Value.bool false]) Try.func4 (.tmp rfl .nil) ?_
                -- return 4
                have e0 : (false : Bool) = (true) := by
                  first
                    | rfl
                    | exact decide_eq_true rfl
                    | (have hn : ¬ MayP a := fun h => p10 (decide_eq_true h)
                       exfalso; simp_all [joinR, movedR]; done)
                    | (have hn : ¬ MayP b := fun h => p15 (decide_eq_true h)
                       exfalso; simp_all [joinR, movedR]; done)
                    | (have hn : ¬ MayP a := fun h => p10 (decide_eq_true h)
                       simp [joinR, movedR, hn]; done)
                    | (have hn : ¬ MayP b := fun h => p15 (decide_eq_true h)
                       simp [joinR, movedR, hn]; done)
                exact ⟨(congrArg (a₁ := false) (fun (z0 : Bool) => Ending.returned (Value.bool z0)) e0), hbase.below⟩
            · skip
              refine l_skip (want_n rfl rfl rfl (decide_eq_false q76)) ?_
              refine l_skip (want_n rfl rfl rfl (decide_eq_false q76)) ?_
              refine l_skip (want_n rfl rfl rfl (decide_eq_false q76)) ?_
              refine l_val (v := Value.bool false) rfl (e_pick_f rfl (decide_eq_false q76) rfl) ?_
              refine l_val (v := Value.bool false) rfl (e_move rfl) ?_
              refine l_skip (want_n rfl rfl rfl rfl) ?_
              refine l_skip (want_n rfl rfl rfl rfl) ?_
              refine l_skip (want_n rfl rfl rfl rfl) ?_
              refine l_val (v := Value.bool false) rfl (e_pick_f rfl rfl rfl) ?_
              refine l_val (v := Value.bool false) rfl (e_assign rfl) ?_
              refine l_nil ?_
              refine run_ret (vs := [Value.bool false]) Try.func4 (.tmp rfl .nil) ?_
              -- return 5
              have e0 : (false : Bool) = (true) := by
                first
                  | rfl
                  | exact decide_eq_true rfl
                  | (have hn : ¬ MayP a := fun h => p10 (decide_eq_true h)
                     exfalso; simp_all [joinR, movedR]; done)
                  | (have hn : ¬ MayP b := fun h => p15 (decide_eq_true h)
                     exfalso; simp_all [joinR, movedR]; done)
                  | (have hn : ¬ MayP a := fun h => p10 (decide_eq_true h)
                     simp [joinR, movedR, hn]; done)
                  | (have hn : ¬ MayP b := fun h => p15 (decide_eq_true h)
                     simp [joinR, movedR, hn]; done)
              exact ⟨(congrArg (a₁ := false) (fun (z0 : Bool) => Ending.returned (Value.bool z0)) e0), hbase.below⟩
          · skip
            refine l_skip (want_n rfl rfl rfl (decide_eq_false q72)) ?_
            refine l_skip (want_n rfl rfl rfl (decide_eq_false q72)) ?_
            refine l_val (v := Value.bool false) rfl (e_pick_f rfl (decide_eq_false q72) rfl) ?_
            refine l_val (v := Value.bool false) rfl (e_move rfl) ?_
            refine l_skip (want_n rfl rfl rfl rfl) ?_
            refine l_skip (want_n rfl rfl rfl rfl) ?_
            refine l_skip (want_n rfl rfl rfl rfl) ?_
            refine l_val (v := Value.bool false) rfl (e_pick_f rfl rfl rfl) ?_
            refine l_val (v := Value.bool false) rfl (e_move rfl) ?_
            refine l_skip (want_n rfl rfl rfl rfl) ?_
            refine l_skip (want_n rfl rfl rfl rfl) ?_
            refine l_skip (want_n rfl rfl rfl rfl) ?_
            refine l_val (v := Value.bool false) rfl (e_pick_f rfl rfl rfl) ?_
            refine l_val (v := Value.bool false) rfl (e_assign rfl) ?_
            refine l_nil ?_
            refine run_ret (vs := [Value.bool false]) Try.func4 (.tmp rfl .nil) ?_
            -- return 6
            have e0 : (false : Bool) = (true) := by
              first
                | rfl
                | exact decide_eq_true rfl
                | (have hn : ¬ MayP a := fun h => p10 (decide_eq_true h)
                   exfalso; simp_all [joinR, movedR]; done)
                | (have hn : ¬ MayP b := fun h => p15 (decide_eq_true h)
                   exfalso; simp_all [joinR, movedR]; done)
                | (have hn : ¬ MayP a := fun h => p10 (decide_eq_true h)
                   simp [joinR, movedR, hn]; done)
                | (have hn : ¬ MayP b := fun h => p15 (decide_eq_true h)
                   simp [joinR, movedR, hn]; done)
            exact ⟨(congrArg (a₁ := false) (fun (z0 : Bool) => Ending.returned (Value.bool z0)) e0), hbase.below⟩
      · skip
        refine run_cond_t rfl (congrArg Bool.not (Bool.eq_false_iff.2 p3)) ?_
        refine run_seq ?_
        clear bx5
        clear bx10
        refine run_region rfl ?_
        refine l_val (v := Value.bool true) rfl (e_assign rfl) ?_
        refine l_nil ?_
        refine run_ret (vs := [Value.bool true]) Try.func4 (.tmp rfl .nil) ?_
        -- return 7
        have e0 : (true : Bool) = (true) := by
          first
            | rfl
            | exact decide_eq_true rfl
            | (have hn : ¬ MayP a := fun h => p10 (decide_eq_true h)
               exfalso; simp_all [joinR, movedR]; done)
            | (have hn : ¬ MayP b := fun h => p15 (decide_eq_true h)
               exfalso; simp_all [joinR, movedR]; done)
            | (have hn : ¬ MayP a := fun h => p10 (decide_eq_true h)
               simp [joinR, movedR, hn]; done)
            | (have hn : ¬ MayP b := fun h => p15 (decide_eq_true h)
               simp [joinR, movedR, hn]; done)
        exact ⟨(congrArg (a₁ := true) (fun (z0 : Bool) => Ending.returned (Value.bool z0)) e0), hbase.below⟩
    · skip
      refine l_skip (want_n rfl rfl rfl (congrArg Bool.not (Bool.eq_false_iff.2 q27))) ?_
      refine l_skip (want_n rfl rfl rfl (congrArg Bool.not (Bool.eq_false_iff.2 q27))) ?_
      refine l_skip (want_n rfl rfl rfl (congrArg Bool.not (Bool.eq_false_iff.2 q27))) ?_
      refine l_val (v := Value.bool true) rfl (e_pick_t rfl (congrArg Bool.not (Bool.eq_false_iff.2 q27)) rfl) ?_
      refine l_nil ?_
      refine run_cond_t rfl rfl ?_
      refine run_seq ?_
      clear bx5
      clear bx10
      refine run_region rfl ?_
      refine l_val (v := Value.bool true) rfl (e_assign rfl) ?_
      refine l_nil ?_
      refine run_ret (vs := [Value.bool true]) Try.func4 (.tmp rfl .nil) ?_
      -- return 8
      have e0 : (true : Bool) = (true) := by
        first
          | rfl
          | exact decide_eq_true rfl
          | (have hn : ¬ MayP a := fun h => p10 (decide_eq_true h)
             exfalso; simp_all [joinR, movedR]; done)
          | (have hn : ¬ MayP b := fun h => p15 (decide_eq_true h)
             exfalso; simp_all [joinR, movedR]; done)
          | (have hn : ¬ MayP a := fun h => p10 (decide_eq_true h)
             simp [joinR, movedR, hn]; done)
          | (have hn : ¬ MayP b := fun h => p15 (decide_eq_true h)
             simp [joinR, movedR, hn]; done)
      exact ⟨(congrArg (a₁ := true) (fun (z0 : Bool) => Ending.returned (Value.bool z0)) e0), hbase.below⟩
  · skip
    refine l_skip (want_n rfl rfl rfl (congrArg Bool.not (Bool.eq_false_iff.2 q22))) ?_
    refine l_skip (want_n rfl rfl rfl (congrArg Bool.not (Bool.eq_false_iff.2 q22))) ?_
    refine l_skip (want_n rfl rfl rfl (congrArg Bool.not (Bool.eq_false_iff.2 q22))) ?_
    refine l_val (v := Value.bool true) rfl (e_pick_t rfl (congrArg Bool.not (Bool.eq_false_iff.2 q22)) rfl) ?_
    refine l_val (v := Value.bool true) rfl (e_move rfl) ?_
    refine l_skip (want_n rfl rfl rfl rfl) ?_
    refine l_skip (want_n rfl rfl rfl rfl) ?_
    refine l_skip (want_n rfl rfl rfl rfl) ?_
    refine l_val (v := Value.bool true) rfl (e_pick_t rfl rfl rfl) ?_
    refine l_nil ?_
    refine run_cond_t rfl rfl ?_
    refine run_seq ?_
    clear bx5
    clear bx10
    refine run_region rfl ?_
    refine l_val (v := Value.bool true) rfl (e_assign rfl) ?_
    refine l_nil ?_
    refine run_ret (vs := [Value.bool true]) Try.func4 (.tmp rfl .nil) ?_
    -- return 9
    have e0 : (true : Bool) = (true) := by
      first
        | rfl
        | exact decide_eq_true rfl
        | (have hn : ¬ MayP a := fun h => p10 (decide_eq_true h)
           exfalso; simp_all [joinR, movedR]; done)
        | (have hn : ¬ MayP b := fun h => p15 (decide_eq_true h)
           exfalso; simp_all [joinR, movedR]; done)
        | (have hn : ¬ MayP a := fun h => p10 (decide_eq_true h)
           simp [joinR, movedR, hn]; done)
        | (have hn : ¬ MayP b := fun h => p15 (decide_eq_true h)
           simp [joinR, movedR, hn]; done)
    exact ⟨(congrArg (a₁ := true) (fun (z0 : Bool) => Ending.returned (Value.bool z0)) e0), hbase.below⟩
end TL
