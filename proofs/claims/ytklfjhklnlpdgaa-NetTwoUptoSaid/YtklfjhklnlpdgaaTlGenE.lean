import Derived.Test.YtklfjhklnlpdgaaTlGenA
import Derived.Test.YtklfjhklnlpdgaaTlGenC
import Derived.Test.YtklfjhklnlpdgaaProg
import Derived.Test.YtklfjhklnlpdgaaTlNet2
import Derived.Test.YtklfjhklnlpdgaaTlMark
import Derived.Test.YtklfjhklnlpdgaaTlDraw
import Derived.Test.YtklfjhklnlpdgaaTlMap
set_option linter.all false
set_option maxRecDepth 20000
namespace TL
open Go Go.Proofs
theorem mixed_e : Try.prog.follows .mixedOrders = true := by kernel_rfl
theorem tp3_e : Tp Try.prog 3 false 1 8 (.int .i64 0) := Tp.of (by kernel_rfl)
theorem tp22_e : Tp Try.prog 22 false 1 24 (.slice none 0 0) := Tp.of (by kernel_rfl)
theorem tp24_e : Tp Try.prog 24 true 2 32 (.agg #[.int .i64 0, .slice none 0 0]) := Tp.of (by kernel_rfl)
theorem tp60_e : Tp Try.prog 60 true 2 16 (.agg #[.int .i64 0, .int .i64 0]) := Tp.of (by kernel_rfl)
theorem bd9_e : Try.f9.body.isNone = false := rfl
theorem nm9_e : (Try.f9.name == "runtime.NumGoroutine") = false := by decide +kernel
theorem bd23_e : Try.f23.body.isNone = false := rfl
theorem nm23_e : (Try.f23.name == "runtime.NumGoroutine") = false := by decide +kernel
theorem bd37_e : Try.f37.body.isNone = false := rfl
theorem nm37_e : (Try.f37.name == "runtime.NumGoroutine") = false := by decide +kernel
theorem bd40_e : Try.f40.body.isNone = false := rfl
theorem nm40_e : (Try.f40.name == "runtime.NumGoroutine") = false := by decide +kernel
theorem bd41_e : Try.f41.body.isNone = false := rfl
theorem nm41_e : (Try.f41.name == "runtime.NumGoroutine") = false := by decide +kernel

theorem Join_ok (w0 : World) (a : (Int) × (List ((Int) × (Int)))) (a_v : Value) (ha_v : Ro w0 a_v a.2) (b : (Int) × (List ((Int) × (Int)))) (b_v : Value) (hb_v : Ro w0 b_v b.2) :
    Calls Try.prog 17 #[Value.agg (List.toArray [Value.int .i64 a.1, a_v]), Value.agg (List.toArray [Value.int .i64 b.1, b_v])] w0 (fun ee w => ∃ xx : Cmap × Value, ee = .returned ((fun ⟨δ, rv0⟩ => Value.tuple (List.toArray [Value.agg (List.toArray [Value.int .i64 (((joinR a b).1).1), rv0]), Value.int .i64 ((joinR a b).2)])) xx) ∧ (fun (⟨δ, rv0⟩ : Cmap × Value) (w : World) => Fresh w0 δ w ∧ Ow δ (is 1) (is 1) w rv0 (((joinR a b).1).2)) xx w) := by
  refine calls_of_run Try.func17 rfl (Nat.le_of_ble_eq_true rfl) ?_
  have hbase := Base.start w0
  have r_a_v := ha_v.sl
  have r_b_v := hb_v.sl
  refine run_seq ?_
  refine run_region rfl ?_
  refine l_op rfl ?_
  refine o_box c0 (is 1) (1, 0) rfl rfl ?_
  intro g4 w1 b3 ch2 bx5
  replace hbase := hbase.chg ch2 (not_no _)
  replace r_a_v := r_a_v.chg ch2 (not_no _)
  replace r_b_v := r_b_v.chg ch2 (not_no _)
  replace bx5 : Bx g4 (is 1) w1 b3 [Value.int .i64 a.1, a_v] := bx5
  refine l_op rfl ?_
  refine o_box g4 (is 2) (2, 0) rfl rfl ?_
  intro g9 w6 b8 ch7 bx10
  replace hbase := hbase.chg ch7 (not_no _)
  replace r_a_v := r_a_v.chg ch7 (not_no _)
  replace r_b_v := r_b_v.chg ch7 (not_no _)
  replace bx5 := bx5.chg ch7 (not_no _)
  replace bx10 : Bx g9 (is 2) w6 b8 [Value.int .i64 b.1, b_v] := bx10
  refine l_op rfl ?_
  refine o_alloc g9 (is 3) (3, 0) rfl tp24_e ?_
  intro g14 w11 b13 ch12 bx15
  replace hbase := hbase.chg ch12 (not_no _)
  replace r_a_v := r_a_v.chg ch12 (not_no _)
  replace r_b_v := r_b_v.chg ch12 (not_no _)
  replace bx5 := bx5.chg ch12 (not_no _)
  replace bx10 := bx10.chg ch12 (not_no _)
  replace bx15 : Bx g14 (is 3) w11 b13 [Value.int .i64 0, Value.slice none 0 0] := bx15
  refine l_val (v := Value.int .i64 0) rfl (e_assign rfl) ?_
  refine l_nil ?_
  refine run_seq ?_
  refine run_block ?_
  refine run_seq ?_
  refine run_region rfl ?_
  refine l_val (v := Value.agg (List.toArray [Value.int .i64 a.1, a_v])) rfl (e_load_bxN (ds := [Value.int .i64 a.1, a_v]) tp24_e rfl bx5 rfl rfl) ?_
  refine l_op rfl ?_
  refine o_call (v := Value.bool (mayB a)) (e_call (vals := [Value.agg (List.toArray [Value.int .i64 a.1, a_v])]) Try.func23 bd23_e nm23_e rfl) (May_ok w11 a a_v (r_a_v).ro) ?_
  intro w16 hb17
  replace hb17 := chg_below hb17 g14
  replace hbase := hbase.chg hb17 (not_no _)
  replace r_a_v := r_a_v.chg hb17 (not_no _)
  replace r_b_v := r_b_v.chg hb17 (not_no _)
  replace bx5 := bx5.chg hb17 (not_no _)
  replace bx10 := bx10.chg hb17 (not_no _)
  replace bx15 := bx15.chg hb17 (not_no _)
  refine l_val (v := Value.bool (!(mayB a))) rfl (e_not (b := (mayB a)) rfl) ?_
  refine l_val (v := Value.bool (!(mayB a))) rfl (e_move rfl) ?_
  by_cases q13 : (mayB a) = true
  · skip
    refine l_val (v := Value.agg (List.toArray [Value.int .i64 b.1, b_v])) (want_y rfl rfl rfl (congrArg Bool.not q13)) (e_load_bxN (ds := [Value.int .i64 b.1, b_v]) tp24_e rfl bx10 rfl rfl) ?_
    refine l_op (want_y rfl rfl rfl (congrArg Bool.not q13)) ?_
    refine o_call (v := Value.bool (mayB b)) (e_call (vals := [Value.agg (List.toArray [Value.int .i64 b.1, b_v])]) Try.func23 bd23_e nm23_e rfl) (May_ok w16 b b_v (r_b_v).ro) ?_
    intro w18 hb19
    replace hb19 := chg_below hb19 g14
    replace hbase := hbase.chg hb19 (not_no _)
    replace r_a_v := r_a_v.chg hb19 (not_no _)
    replace r_b_v := r_b_v.chg hb19 (not_no _)
    replace bx5 := bx5.chg hb19 (not_no _)
    replace bx10 := bx10.chg hb19 (not_no _)
    replace bx15 := bx15.chg hb19 (not_no _)
    refine l_val (v := Value.bool (!(mayB b))) (want_y rfl rfl rfl (congrArg Bool.not q13)) (e_not (b := (mayB b)) rfl) ?_
    refine l_val (v := Value.bool (!(mayB b))) rfl (e_pick_f rfl (congrArg Bool.not q13) rfl) ?_
    refine l_val (v := Value.bool (!(mayB b))) rfl (e_assign rfl) ?_
    refine l_nil ?_
    by_cases p1 : (mayB b) = true
    · skip
      have hma := of_decide_eq_true q13
      have hmb := of_decide_eq_true p1
      have hma0 := hma
      have hmb0 := hmb
      obtain ⟨ha1, ha2, ha3, ha4⟩ := hma0
      obtain ⟨hb1, hb2, hb3, hb4⟩ := hmb0
      refine run_cond_f rfl (congrArg Bool.not p1) ?_
      refine run_seq ?_
      refine run_region rfl ?_
      refine l_val (v := Value.pointer (some ⟨b3, 0, none⟩)) rfl (e_fieldAddr Try.underlying24 rfl rfl rfl rfl) ?_
      refine l_val (v := Value.int .i64 a.1) rfl (e_load_bx1 tp3_e rfl bx5 rfl) ?_
      refine l_val (v := Value.pointer (some ⟨b8, 0, none⟩)) rfl (e_fieldAddr Try.underlying24 rfl rfl rfl rfl) ?_
      refine l_val (v := Value.int .i64 b.1) rfl (e_load_bx1 tp3_e rfl bx10 rfl) ?_
      refine l_val (v := Value.int .i64 (a.1 + b.1)) rfl (e_add (m := a.1) (n := b.1) rfl rfl (by omega)) ?_
      refine l_val (v := Value.bool (decide (1024 < (a.1 + b.1)))) rfl (e_gtr (m := a.1 + b.1) (n := 1024) rfl rfl) ?_
      refine l_val (v := Value.bool (decide (1024 < (a.1 + b.1)))) rfl (e_move rfl) ?_
      by_cases q26 : 1024 < (a.1 + b.1)
      · skip
        refine l_skip (want_n rfl rfl rfl (decide_eq_true q26)) ?_
        refine l_skip (want_n rfl rfl rfl (decide_eq_true q26)) ?_
        refine l_skip (want_n rfl rfl rfl (decide_eq_true q26)) ?_
        refine l_skip (want_n rfl rfl rfl (decide_eq_true q26)) ?_
        refine l_skip (want_n rfl rfl rfl (decide_eq_true q26)) ?_
        refine l_skip (want_n rfl rfl rfl (decide_eq_true q26)) ?_
        refine l_skip (want_n rfl rfl rfl (decide_eq_true q26)) ?_
        refine l_skip (want_n rfl rfl rfl (decide_eq_true q26)) ?_
        refine l_val (v := Value.bool true) rfl (e_pick_t rfl (decide_eq_true q26) rfl) ?_
        refine l_val (v := Value.bool true) rfl (e_assign rfl) ?_
        refine l_nil ?_
        refine run_cond_t rfl rfl ?_
        refine run_seq ?_
        clear bx5
        clear bx10
        refine run_region rfl ?_
        refine l_val (v := Value.agg (List.toArray [Value.int .i64 0, Value.slice none 0 0])) rfl (e_build (vs := []) rfl (by kernel_rfl)) ?_
        refine l_op rfl ?_
        refine o_store_bx (cs' := [Value.int .i64 0, Value.slice none 0 0]) tp24_e rfl rfl bx15 rfl (Nat.le_of_ble_eq_true rfl) (AllOne.all (.cons rfl (.cons rfl .nil))) rfl ?_
        intro w20 ch21 bx22
        replace hbase := hbase.chg ch21 (is_ne rfl)
        replace r_a_v := r_a_v.chg ch21 (is_ne rfl)
        replace r_b_v := r_b_v.chg ch21 (is_ne rfl)
        clear bx15
        refine l_val (v := Value.int .i64 3) rfl (e_assign rfl) ?_
        refine l_nil ?_
        refine run_ret (vs := [Value.agg (List.toArray [Value.int .i64 0, Value.slice none 0 0]), Value.int .i64 3]) Try.func17 (.cell rfl (load_bxN (ds := [Value.int .i64 0, Value.slice none 0 0]) tp24_e bx22 rfl rfl) (.tmp rfl .nil)) ?_
        -- return 0
        have e0 : ((0, []) : (Int) × (List ((Int) × (Int)))) = ((joinR a b).1) := by
          first
            | (have hn : ¬ (MayP a ∧ MayP b) := fun h => p1 (decide_eq_true h.2)
               simp only [joinR, if_neg hn]; done)
            | (have hn : ¬ (MayP a ∧ MayP b) := fun h => q13 (decide_eq_true h.1)
               simp only [joinR, if_neg hn]; done)
            | (have hn : ¬ (a.1 + b.1 ≤ 1024 ∧ a.2.length + b.2.length ≤ 3072) := fun h => by omega
               simp only [joinR, if_pos (And.intro hma hmb), if_neg hn]; done)
            | (have hn : a.1 + b.1 ≤ 1024 ∧ a.2.length + b.2.length ≤ 3072 := ⟨by omega, by omega⟩
               simp only [joinR, if_pos (And.intro hma hmb), if_pos hn, hs]; done)
        have e1 : (3 : Int) = ((joinR a b).2) := by
          first
            | (have hn : ¬ (MayP a ∧ MayP b) := fun h => p1 (decide_eq_true h.2)
               simp only [joinR, if_neg hn]; done)
            | (have hn : ¬ (MayP a ∧ MayP b) := fun h => q13 (decide_eq_true h.1)
               simp only [joinR, if_neg hn]; done)
            | (have hn : ¬ (a.1 + b.1 ≤ 1024 ∧ a.2.length + b.2.length ≤ 3072) := fun h => by omega
               simp only [joinR, if_pos (And.intro hma hmb), if_neg hn]; done)
            | (have hn : a.1 + b.1 ≤ 1024 ∧ a.2.length + b.2.length ≤ 3072 := ⟨by omega, by omega⟩
               simp only [joinR, if_pos (And.intro hma hmb), if_pos hn, hs]; done)
        exact ⟨(fin w0 g14 (fun n => 0), (Value.slice none 0 0)), (congr2 (a := (0, [])) (b := 3) (fun (z0 : (Int) × (List ((Int) × (Int)))) (z1 : Int) => Ending.returned (Value.tuple (List.toArray [Value.agg (List.toArray [Value.int .i64 z0.1, Value.slice none 0 0]), Value.int .i64 z1]))) e0 e1), hbase.fresh _, ((congrArg (fun (z : (Int) × (List ((Int) × (Int)))) => z.2) e0) ▸ Ow.nil)⟩
      · skip
        refine l_val (v := Value.pointer (some ⟨b3, 1, none⟩)) (want_y rfl rfl rfl (decide_eq_false q26)) (e_fieldAddr Try.underlying24 rfl rfl rfl rfl) ?_
        refine l_val (v := a_v) (want_y rfl rfl rfl (decide_eq_false q26)) (e_load_bx1 tp22_e rfl bx5 rfl) ?_
        have len23 := (r_a_v).small
        refine l_val (v := Value.int .i64 (List.length a.2 : Int)) (want_y rfl rfl rfl (decide_eq_false q26)) (e_len Try.underlying22 rfl r_a_v) ?_
        refine l_val (v := Value.pointer (some ⟨b8, 1, none⟩)) (want_y rfl rfl rfl (decide_eq_false q26)) (e_fieldAddr Try.underlying24 rfl rfl rfl rfl) ?_
        refine l_val (v := b_v) (want_y rfl rfl rfl (decide_eq_false q26)) (e_load_bx1 tp22_e rfl bx10 rfl) ?_
        have len24 := (r_b_v).small
        refine l_val (v := Value.int .i64 (List.length b.2 : Int)) (want_y rfl rfl rfl (decide_eq_false q26)) (e_len Try.underlying22 rfl r_b_v) ?_
        refine l_val (v := Value.int .i64 ((List.length a.2 : Int) + (List.length b.2 : Int))) (want_y rfl rfl rfl (decide_eq_false q26)) (e_add (m := (List.length a.2 : Int)) (n := (List.length b.2 : Int)) rfl rfl (by omega)) ?_
        refine l_val (v := Value.bool (decide (3072 < ((List.length a.2 : Int) + (List.length b.2 : Int))))) (want_y rfl rfl rfl (decide_eq_false q26)) (e_gtr (m := (List.length a.2 : Int) + (List.length b.2 : Int)) (n := 3072) rfl rfl) ?_
        refine l_val (v := Value.bool (decide (3072 < ((List.length a.2 : Int) + (List.length b.2 : Int))))) rfl (e_pick_f rfl (decide_eq_false q26) rfl) ?_
        refine l_val (v := Value.bool (decide (3072 < ((List.length a.2 : Int) + (List.length b.2 : Int))))) rfl (e_assign rfl) ?_
        refine l_nil ?_
        by_cases p4 : 3072 < ((List.length a.2 : Int) + (List.length b.2 : Int))
        · skip
          refine run_cond_t rfl (decide_eq_true p4) ?_
          refine run_seq ?_
          clear bx5
          clear bx10
          refine run_region rfl ?_
          refine l_val (v := Value.agg (List.toArray [Value.int .i64 0, Value.slice none 0 0])) rfl (e_build (vs := []) rfl (by kernel_rfl)) ?_
          refine l_op rfl ?_
          refine o_store_bx (cs' := [Value.int .i64 0, Value.slice none 0 0]) tp24_e rfl rfl bx15 rfl (Nat.le_of_ble_eq_true rfl) (AllOne.all (.cons rfl (.cons rfl .nil))) rfl ?_
          intro w25 ch26 bx27
          replace hbase := hbase.chg ch26 (is_ne rfl)
          replace r_a_v := r_a_v.chg ch26 (is_ne rfl)
          replace r_b_v := r_b_v.chg ch26 (is_ne rfl)
          clear bx15
          refine l_val (v := Value.int .i64 3) rfl (e_assign rfl) ?_
          refine l_nil ?_
          refine run_ret (vs := [Value.agg (List.toArray [Value.int .i64 0, Value.slice none 0 0]), Value.int .i64 3]) Try.func17 (.cell rfl (load_bxN (ds := [Value.int .i64 0, Value.slice none 0 0]) tp24_e bx27 rfl rfl) (.tmp rfl .nil)) ?_
          -- return 1
          have e0 : ((0, []) : (Int) × (List ((Int) × (Int)))) = ((joinR a b).1) := by
            first
              | (have hn : ¬ (MayP a ∧ MayP b) := fun h => p1 (decide_eq_true h.2)
                 simp only [joinR, if_neg hn]; done)
              | (have hn : ¬ (MayP a ∧ MayP b) := fun h => q13 (decide_eq_true h.1)
                 simp only [joinR, if_neg hn]; done)
              | (have hn : ¬ (a.1 + b.1 ≤ 1024 ∧ a.2.length + b.2.length ≤ 3072) := fun h => by omega
                 simp only [joinR, if_pos (And.intro hma hmb), if_neg hn]; done)
              | (have hn : a.1 + b.1 ≤ 1024 ∧ a.2.length + b.2.length ≤ 3072 := ⟨by omega, by omega⟩
                 simp only [joinR, if_pos (And.intro hma hmb), if_pos hn, hs]; done)
          have e1 : (3 : Int) = ((joinR a b).2) := by
            first
              | (have hn : ¬ (MayP a ∧ MayP b) := fun h => p1 (decide_eq_true h.2)
                 simp only [joinR, if_neg hn]; done)
              | (have hn : ¬ (MayP a ∧ MayP b) := fun h => q13 (decide_eq_true h.1)
                 simp only [joinR, if_neg hn]; done)
              | (have hn : ¬ (a.1 + b.1 ≤ 1024 ∧ a.2.length + b.2.length ≤ 3072) := fun h => by omega
                 simp only [joinR, if_pos (And.intro hma hmb), if_neg hn]; done)
              | (have hn : a.1 + b.1 ≤ 1024 ∧ a.2.length + b.2.length ≤ 3072 := ⟨by omega, by omega⟩
                 simp only [joinR, if_pos (And.intro hma hmb), if_pos hn, hs]; done)
          exact ⟨(fin w0 g14 (fun n => 0), (Value.slice none 0 0)), (congr2 (a := (0, [])) (b := 3) (fun (z0 : (Int) × (List ((Int) × (Int)))) (z1 : Int) => Ending.returned (Value.tuple (List.toArray [Value.agg (List.toArray [Value.int .i64 z0.1, Value.slice none 0 0]), Value.int .i64 z1]))) e0 e1), hbase.fresh _, ((congrArg (fun (z : (Int) × (List ((Int) × (Int)))) => z.2) e0) ▸ Ow.nil)⟩
        · skip
          refine run_cond_f rfl (decide_eq_false p4) ?_
          refine run_skip ?_
          refine run_inBlock ?_
          refine run_seq ?_
          refine run_region rfl ?_
          refine l_val (v := Value.agg (List.toArray [Value.int .i64 a.1, a_v])) rfl (e_load_bxN (ds := [Value.int .i64 a.1, a_v]) tp24_e rfl bx5 rfl rfl) ?_
          refine l_op rfl ?_
          refine o_callx (e_call (vals := [Value.agg (List.toArray [Value.int .i64 a.1, a_v])]) Try.func37 bd37_e nm37_e rfl) (copied_ok w18 a a_v (r_a_v).ro (by exact hma)) ?_
          rintro ⟨d29, v31⟩ w28 ⟨fr30, o32⟩
          obtain ⟨g33, hg33⟩ : ∃ q, q = glue w18.heap.size g14 d29 (fun n => if n = 1 then 4 else 0) := ⟨_, rfl⟩
          have ch34 := chg_glue fr30.below g14 d29 (fun n => if n = 1 then 4 else 0)
          rw [← hg33] at ch34
          replace hbase := hbase.chg ch34 (not_no _)
          replace r_a_v := r_a_v.chg ch34 (not_no _)
          replace r_b_v := r_b_v.chg ch34 (not_no _)
          replace bx5 := bx5.chg ch34 (not_no _)
          replace bx10 := bx10.chg ch34 (not_no _)
          replace bx15 := bx15.chg ch34 (not_no _)
          replace o32 := o32.glue (γ := g14) (ren := (fun n => if n = 1 then 4 else 0)) (k := 4) fr30.col rfl rfl
          rw [← hg33] at o32
          clear hg33
          refine l_op rfl ?_
          refine o_alloc g33 (is 5) (5, 0) rfl tp24_e ?_
          intro g38 w35 b37 ch36 bx39
          replace hbase := hbase.chg ch36 (not_no _)
          replace r_a_v := r_a_v.chg ch36 (not_no _)
          replace r_b_v := r_b_v.chg ch36 (not_no _)
          replace bx5 := bx5.chg ch36 (not_no _)
          replace bx10 := bx10.chg ch36 (not_no _)
          replace bx15 := bx15.chg ch36 (not_no _)
          replace o32 := o32.chg ch36 (not_no _) (not_no _)
          replace bx39 : Bx g38 (is 5) w35 b37 [Value.int .i64 0, Value.slice none 0 0] := bx39
          refine l_op rfl ?_
          refine o_store_bx (cs' := [Value.int .i64 a.1, v31]) tp24_e rfl rfl bx39 rfl (Nat.le_of_ble_eq_true rfl) (AllOne.all (.cons rfl (.cons (sl_one o32.flat) .nil))) rfl ?_
          intro w40 ch41 bx42
          replace hbase := hbase.chg ch41 (is_ne rfl)
          replace r_a_v := r_a_v.chg ch41 (is_ne rfl)
          replace r_b_v := r_b_v.chg ch41 (is_ne rfl)
          replace bx5 := bx5.chg ch41 (is_ne rfl)
          replace bx10 := bx10.chg ch41 (is_ne rfl)
          replace bx15 := bx15.chg ch41 (is_ne rfl)
          replace o32 := o32.chg ch41 (is_ne rfl) (is_ne rfl)
          clear bx39
          refine l_nil ?_
          refine run_seq ?_
          refine run_region rfl ?_
          refine l_val (v := Value.pointer (some ⟨b37, 0, none⟩)) rfl (e_fieldAddr Try.underlying24 rfl rfl rfl rfl) ?_
          refine l_val (v := Value.int .i64 a.1) rfl (e_load_bx1 tp3_e rfl bx42 rfl) ?_
          refine l_val (v := Value.pointer (some ⟨b8, 0, none⟩)) rfl (e_fieldAddr Try.underlying24 rfl rfl rfl rfl) ?_
          refine l_val (v := Value.int .i64 b.1) rfl (e_load_bx1 tp3_e rfl bx10 rfl) ?_
          refine l_val (v := Value.int .i64 (a.1 + b.1)) rfl (e_add (m := a.1) (n := b.1) rfl rfl (by omega)) ?_
          refine l_val (v := Value.pointer (some ⟨b37, 0, none⟩)) rfl (e_fieldAddr Try.underlying24 rfl rfl rfl rfl) ?_
          refine l_op rfl ?_
          refine o_store_bx (cs' := [Value.int .i64 (a.1 + b.1), v31]) tp3_e rfl rfl bx42 rfl (Nat.le_of_ble_eq_true rfl) (AllOne.all (.cons rfl .nil)) rfl ?_
          intro w43 ch44 bx45
          replace hbase := hbase.chg ch44 (is_ne rfl)
          replace r_a_v := r_a_v.chg ch44 (is_ne rfl)
          replace r_b_v := r_b_v.chg ch44 (is_ne rfl)
          replace bx5 := bx5.chg ch44 (is_ne rfl)
          replace bx10 := bx10.chg ch44 (is_ne rfl)
          replace bx15 := bx15.chg ch44 (is_ne rfl)
          replace o32 := o32.chg ch44 (is_ne rfl) (is_ne rfl)
          clear bx42
          refine l_nil ?_
          refine run_seq ?_
          refine run_seq ?_
          refine run_region rfl ?_
          refine l_val (v := Value.pointer (some ⟨b8, 1, none⟩)) rfl (e_fieldAddr Try.underlying24 rfl rfl rfl rfl) ?_
          refine l_val (v := b_v) rfl (e_load_bx1 tp22_e rfl bx10 rfl) ?_
          refine l_val (v := Value.int .i64 (List.length b.2 : Int)) rfl (e_len Try.underlying22 rfl r_b_v) ?_
          refine l_val (v := Value.int .i64 0) rfl (e_move rfl) ?_
          refine l_nil ?_
          refine run_block ?_
          clear bx10
          refine run_loop (σ := Value × (List ((Int) × (Int))) × Nat × Cmap) (fun ⟨out_1_v, out_1, k, gq⟩ f w => Base w0 gq w ∧ f 2 = Value.pointer (some ⟨b3, 0, none⟩) ∧ f 4 = Value.pointer (some ⟨b13, 0, none⟩) ∧ f 6 = Value.pointer (some ⟨b37, 0, none⟩) ∧ f 46 = b_v ∧ f 47 = Value.int .i64 (List.length b.2 : Int) ∧ f 48 = Value.int .i64 (k : Int) ∧ Sl gq (is 0) w a_v a.2 ∧ Sl gq (is 0) w b_v b.2 ∧ Bx gq (is 1) w b3 [Value.int .i64 a.1, a_v] ∧ Bx gq (is 3) w b13 [Value.int .i64 0, Value.slice none 0 0] ∧ Bx gq (is 5) w b37 [Value.int .i64 (a.1 + b.1), out_1_v] ∧ Ow gq (is 4) (is 4) w out_1_v out_1 ∧ (k : Int) ≤ ((List.length b.2 : Int) : Int) ∧ (out_1 = a.2 ++ (List.take k b.2).map (shiftE a.1))) (fun ⟨out_1_v, out_1, k, gq⟩ => Int.toNat (((List.length b.2 : Int) : Int) - (k : Int))) (v31, a.2, 0, g38) ?_ ?_
          · exact ⟨hbase, rfl, rfl, rfl, rfl, rfl, rfl, r_a_v, r_b_v, bx5, bx15, bx45, o32, by omega, by simp⟩
          clear r_a_v
          clear r_b_v
          clear bx5
          clear bx15
          clear o32
          clear bx45
          clear hbase
          rintro ⟨out_1_v, out_1, k, g48⟩ f46 w47 ⟨hbase, zs2, zs4, zs6, zs46, zs47, zs48, r_a_v, r_b_v, bx5, bx15, bx45, o_out_1, hle_k, hinv⟩ back8
          have hlen : out_1.length = a.2.length + k := by rw [hinv]; simp; omega
          refine run_seq ?_
          refine run_region rfl ?_
          refine l_val (v := Value.bool (decide ((k : Int) < (List.length b.2 : Int)))) rfl (e_lss (m := (k : Int)) (n := (List.length b.2 : Int)) (by exact zs48) (by exact zs47)) ?_
          refine l_nil ?_
          refine run_seq ?_
          by_cases p8 : (k : Int) < (List.length b.2 : Int)
          · skip
            refine run_cond_t rfl (decide_eq_true p8) ?_
            obtain ⟨⟨he1, he2⟩, he3, he4⟩ := hb4 _ (gI_mem (xs := b.2) (i := (k : Int)) (by omega) (by omega))
            refine run_skip ?_
            refine run_seq ?_
            refine run_block ?_
            refine run_seq ?_
            refine run_region rfl ?_
            refine l_val (v := Value.pointer (some (eAddr b_v 2 (Int.toNat (k : Int))))) rfl (e_indexAddr (α := (Int) × (Int)) (xs := b.2) (v := b_v) (i := (k : Int)) Try.underlying22 rfl (by exact zs46) r_b_v (by exact zs48) (by omega) (by omega)) ?_
            refine l_val (v := Value.agg (List.toArray [Value.int .i64 ((gI b.2 (k : Int)).1), Value.int .i64 ((gI b.2 (k : Int)).2)])) rfl (e_load_elN (α := (Int) × (Int)) (xs := b.2) (v := b_v) (i := (k : Int)) tp60_e rfl r_b_v (by omega) (by omega) rfl) ?_
            refine l_op rfl ?_
            refine o_alloc g48 (is 6) (6, 0) rfl tp60_e ?_
            intro g52 w49 b51 ch50 bx53
            replace hbase := hbase.chg ch50 (not_no _)
            replace r_a_v := r_a_v.chg ch50 (not_no _)
            replace r_b_v := r_b_v.chg ch50 (not_no _)
            replace bx5 := bx5.chg ch50 (not_no _)
            replace bx15 := bx15.chg ch50 (not_no _)
            replace bx45 := bx45.chg ch50 (not_no _)
            replace o_out_1 := o_out_1.chg ch50 (not_no _) (not_no _)
            replace bx53 : Bx g52 (is 6) w49 b51 [Value.int .i64 0, Value.int .i64 0] := bx53
            refine l_op rfl ?_
            refine o_store_bx (cs' := [Value.int .i64 ((gI b.2 (k : Int)).1), Value.int .i64 ((gI b.2 (k : Int)).2)]) tp60_e rfl rfl bx53 rfl (Nat.le_of_ble_eq_true rfl) (AllOne.all (.cons rfl (.cons rfl .nil))) rfl ?_
            intro w54 ch55 bx56
            replace hbase := hbase.chg ch55 (is_ne rfl)
            replace r_a_v := r_a_v.chg ch55 (is_ne rfl)
            replace r_b_v := r_b_v.chg ch55 (is_ne rfl)
            replace bx5 := bx5.chg ch55 (is_ne rfl)
            replace bx15 := bx15.chg ch55 (is_ne rfl)
            replace bx45 := bx45.chg ch55 (is_ne rfl)
            replace o_out_1 := o_out_1.chg ch55 (is_ne rfl) (is_ne rfl)
            clear bx53
            refine l_nil ?_
            refine run_region rfl ?_
            refine l_val (v := Value.pointer (some ⟨b37, 1, none⟩)) rfl (e_fieldAddr Try.underlying24 rfl rfl (by exact zs6) rfl) ?_
            refine l_val (v := out_1_v) rfl (e_load_bx1 tp22_e rfl bx45 rfl) ?_
            refine l_val (v := Value.pointer (some ⟨b51, 0, none⟩)) rfl (e_indexAddr_arr Try.underlying60 rfl rfl rfl (by decide) (by decide) rfl) ?_
            refine l_val (v := Value.int .i64 ((gI b.2 (k : Int)).1)) rfl (e_load_bx1 tp3_e rfl bx56 rfl) ?_
            refine l_val (v := Value.pointer (some ⟨b3, 0, none⟩)) rfl (e_fieldAddr Try.underlying24 rfl rfl (by exact zs2) rfl) ?_
            refine l_val (v := Value.int .i64 a.1) rfl (e_load_bx1 tp3_e rfl bx5 rfl) ?_
            refine l_val (v := Value.int .i64 (((gI b.2 (k : Int)).1) + a.1)) rfl (e_add (m := (gI b.2 (k : Int)).1) (n := a.1) rfl rfl (by omega)) ?_
            refine l_val (v := Value.pointer (some ⟨b51, 1, none⟩)) rfl (e_indexAddr_arr Try.underlying60 rfl rfl rfl (by decide) (by decide) rfl) ?_
            refine l_val (v := Value.int .i64 ((gI b.2 (k : Int)).2)) rfl (e_load_bx1 tp3_e rfl bx56 rfl) ?_
            refine l_val (v := Value.pointer (some ⟨b3, 0, none⟩)) rfl (e_fieldAddr Try.underlying24 rfl rfl (by exact zs2) rfl) ?_
            refine l_val (v := Value.int .i64 a.1) rfl (e_load_bx1 tp3_e rfl bx5 rfl) ?_
            refine l_val (v := Value.int .i64 (((gI b.2 (k : Int)).2) + a.1)) rfl (e_add (m := (gI b.2 (k : Int)).2) (n := a.1) rfl rfl (by omega)) ?_
            refine l_val (v := Value.agg (List.toArray [Value.int .i64 (((gI b.2 (k : Int)).1) + a.1), Value.int .i64 (((gI b.2 (k : Int)).2) + a.1)])) rfl (e_build (vs := [(0, Value.int .i64 (((gI b.2 (k : Int)).1) + a.1)), (1, Value.int .i64 (((gI b.2 (k : Int)).2) + a.1))]) rfl (by kernel_rfl)) ?_
            refine l_op rfl ?_
            refine o_buildSlice (α := (Int) × (Int)) g52 (is 7) (is 7) (7, 0) rfl [(((gI b.2 (k : Int)).1) + a.1, ((gI b.2 (k : Int)).2) + a.1)] Try.underlying22 tp60_e (by decide) (by decide) (vs := [(0, Value.agg (List.toArray [Value.int .i64 (((gI b.2 (k : Int)).1) + a.1), Value.int .i64 (((gI b.2 (k : Int)).2) + a.1)]))]) rfl rfl (.cons rfl .nil) ?_
            intro g57 w58 v59 ch60 o61
            replace hbase := hbase.chg ch60 (not_no _)
            replace r_a_v := r_a_v.chg ch60 (not_no _)
            replace r_b_v := r_b_v.chg ch60 (not_no _)
            replace bx5 := bx5.chg ch60 (not_no _)
            replace bx15 := bx15.chg ch60 (not_no _)
            replace bx45 := bx45.chg ch60 (not_no _)
            replace o_out_1 := o_out_1.chg ch60 (not_no _) (not_no _)
            replace bx56 := bx56.chg ch60 (not_no _)
            refine l_op rfl ?_
            refine o_append (α := (Int) × (Int)) (xs := out_1) (ys := ([(((gI b.2 (k : Int)).1) + a.1, ((gI b.2 (k : Int)).2) + a.1)])) g57 (J := is 4) (S := is 4) (4, 0) rfl Try.underlying22 tp60_e (by decide) rfl rfl rfl o_out_1 o61.flat (by decide) (by first | omega | (simp; done) | (simp; omega)) ?_
            intro g62 w63 v64 ch65 o66
            replace hbase := hbase.chg ch65 (is_ne rfl)
            replace r_a_v := r_a_v.chg ch65 (is_ne rfl)
            replace r_b_v := r_b_v.chg ch65 (is_ne rfl)
            replace bx5 := bx5.chg ch65 (is_ne rfl)
            replace bx15 := bx15.chg ch65 (is_ne rfl)
            replace bx45 := bx45.chg ch65 (is_ne rfl)
            replace bx56 := bx56.chg ch65 (is_ne rfl)
            replace o61 := o61.chg ch65 (is_ne rfl) (is_ne rfl)
            clear o_out_1
            refine l_val (v := Value.pointer (some ⟨b37, 1, none⟩)) rfl (e_fieldAddr Try.underlying24 rfl rfl (by exact zs6) rfl) ?_
            refine l_op rfl ?_
            refine o_store_bx1 (cs' := [Value.int .i64 (a.1 + b.1), v64]) tp22_e rfl rfl bx45 (sl_cells1 o66.flat) (Nat.le_of_ble_eq_true rfl) (sl_one o66.flat) rfl ?_
            intro w67 ch68 bx69
            replace hbase := hbase.chg ch68 (is_ne rfl)
            replace r_a_v := r_a_v.chg ch68 (is_ne rfl)
            replace r_b_v := r_b_v.chg ch68 (is_ne rfl)
            replace bx5 := bx5.chg ch68 (is_ne rfl)
            replace bx15 := bx15.chg ch68 (is_ne rfl)
            replace bx56 := bx56.chg ch68 (is_ne rfl)
            replace o61 := o61.chg ch68 (is_ne rfl) (is_ne rfl)
            replace o66 := o66.chg ch68 (is_ne rfl) (is_ne rfl)
            clear bx45
            refine l_nil ?_
            refine run_inBlock ?_
            clear bx56
            clear o61
            refine run_region rfl ?_
            refine l_val (v := Value.int .i64 ((k : Int) + 1)) rfl (e_add (m := (k : Int)) (n := 1) (by exact zs48) rfl (by omega)) ?_
            refine l_val (v := Value.int .i64 ((k : Int) + 1)) rfl (e_move rfl) ?_
            refine l_nil ?_
            refine back8 (v64, (out_1 ++ [(((gI b.2 (k : Int)).1) + a.1, ((gI b.2 (k : Int)).2) + a.1)]), k + 1, g62) _ _ ⟨hbase, (by exact zs2), (by exact zs4), (by exact zs6), (by exact zs46), (by exact zs47), rfl, r_a_v, r_b_v, bx5, bx15, bx69, o66, by omega, ?_⟩ ?_
            · show (out_1 ++ [(((gI b.2 (k : Int)).1) + a.1, ((gI b.2 (k : Int)).2) + a.1)]) = a.2 ++ (List.take (k + 1) b.2).map (shiftE a.1)
              rw [hinv, take_succ_gI (by omega)]; simp [shiftE]
            · show Int.toNat (((List.length b.2 : Int) : Int) - ((k + 1) : Int)) < Int.toNat (((List.length b.2 : Int) : Int) - (k : Int))
              omega
          · skip
            have hs : out_1 = a.2 ++ b.2.map (shiftE a.1) := by rw [hinv, List.take_of_length_le (by omega)]
            refine run_cond_f rfl (decide_eq_false p8) ?_
            refine run_exit rfl ?_
            refine run_seq ?_
            clear bx5
            refine run_region rfl ?_
            refine l_val (v := Value.agg (List.toArray [Value.int .i64 (a.1 + b.1), out_1_v])) rfl (e_load_bxN (ds := [Value.int .i64 (a.1 + b.1), out_1_v]) tp24_e (by exact zs6) bx45 rfl rfl) ?_
            refine l_op rfl ?_
            refine o_store_bx (cs' := [Value.int .i64 (a.1 + b.1), out_1_v]) tp24_e (by exact zs4) rfl bx15 rfl (Nat.le_of_ble_eq_true rfl) (AllOne.all (.cons rfl (.cons (sl_one o_out_1.flat) .nil))) rfl ?_
            intro w70 ch71 bx72
            replace hbase := hbase.chg ch71 (is_ne rfl)
            replace r_a_v := r_a_v.chg ch71 (is_ne rfl)
            replace r_b_v := r_b_v.chg ch71 (is_ne rfl)
            replace bx45 := bx45.chg ch71 (is_ne rfl)
            replace o_out_1 := o_out_1.chg ch71 (is_ne rfl) (is_ne rfl)
            clear bx15
            refine l_val (v := Value.int .i64 0) rfl (e_assign rfl) ?_
            refine l_nil ?_
            refine run_ret (vs := [Value.agg (List.toArray [Value.int .i64 (a.1 + b.1), out_1_v]), Value.int .i64 0]) Try.func17 (.cell (by exact zs4) (load_bxN (ds := [Value.int .i64 (a.1 + b.1), out_1_v]) tp24_e bx72 rfl rfl) (.tmp rfl .nil)) ?_
            -- return 2
            have e0 : ((a.1 + b.1, out_1) : (Int) × (List ((Int) × (Int)))) = ((joinR a b).1) := by
              first
                | (have hn : ¬ (MayP a ∧ MayP b) := fun h => p1 (decide_eq_true h.2)
                   simp only [joinR, if_neg hn]; done)
                | (have hn : ¬ (MayP a ∧ MayP b) := fun h => q13 (decide_eq_true h.1)
                   simp only [joinR, if_neg hn]; done)
                | (have hn : ¬ (a.1 + b.1 ≤ 1024 ∧ a.2.length + b.2.length ≤ 3072) := fun h => by omega
                   simp only [joinR, if_pos (And.intro hma hmb), if_neg hn]; done)
                | (have hn : a.1 + b.1 ≤ 1024 ∧ a.2.length + b.2.length ≤ 3072 := ⟨by omega, by omega⟩
                   simp only [joinR, if_pos (And.intro hma hmb), if_pos hn, hs]; done)
            have e1 : (0 : Int) = ((joinR a b).2) := by
              first
                | (have hn : ¬ (MayP a ∧ MayP b) := fun h => p1 (decide_eq_true h.2)
                   simp only [joinR, if_neg hn]; done)
                | (have hn : ¬ (MayP a ∧ MayP b) := fun h => q13 (decide_eq_true h.1)
                   simp only [joinR, if_neg hn]; done)
                | (have hn : ¬ (a.1 + b.1 ≤ 1024 ∧ a.2.length + b.2.length ≤ 3072) := fun h => by omega
                   simp only [joinR, if_pos (And.intro hma hmb), if_neg hn]; done)
                | (have hn : a.1 + b.1 ≤ 1024 ∧ a.2.length + b.2.length ≤ 3072 := ⟨by omega, by omega⟩
                   simp only [joinR, if_pos (And.intro hma hmb), if_pos hn, hs]; done)
            exact ⟨(fin w0 g48 (fun n => if n = 4 then 1 else 0), out_1_v), (congr2 (a := (a.1 + b.1, out_1)) (b := 0) (fun (z0 : (Int) × (List ((Int) × (Int)))) (z1 : Int) => Ending.returned (Value.tuple (List.toArray [Value.agg (List.toArray [Value.int .i64 z0.1, out_1_v]), Value.int .i64 z1]))) e0 e1), hbase.fresh _, ((congrArg (fun (z : (Int) × (List ((Int) × (Int)))) => z.2) e0) ▸ (o_out_1.glue (γ := c0) (ren := (fun n => if n = 4 then 1 else 0)) (k := 1) hbase.col rfl rfl))⟩
    · skip
      refine run_cond_t rfl (congrArg Bool.not (Bool.eq_false_iff.2 p1)) ?_
      refine run_seq ?_
      clear bx5
      clear bx10
      refine run_region rfl ?_
      refine l_val (v := Value.agg (List.toArray [Value.int .i64 0, Value.slice none 0 0])) rfl (e_build (vs := []) rfl (by kernel_rfl)) ?_
      refine l_op rfl ?_
      refine o_store_bx (cs' := [Value.int .i64 0, Value.slice none 0 0]) tp24_e rfl rfl bx15 rfl (Nat.le_of_ble_eq_true rfl) (AllOne.all (.cons rfl (.cons rfl .nil))) rfl ?_
      intro w73 ch74 bx75
      replace hbase := hbase.chg ch74 (is_ne rfl)
      replace r_a_v := r_a_v.chg ch74 (is_ne rfl)
      replace r_b_v := r_b_v.chg ch74 (is_ne rfl)
      clear bx15
      refine l_val (v := Value.int .i64 1) rfl (e_assign rfl) ?_
      refine l_nil ?_
      refine run_ret (vs := [Value.agg (List.toArray [Value.int .i64 0, Value.slice none 0 0]), Value.int .i64 1]) Try.func17 (.cell rfl (load_bxN (ds := [Value.int .i64 0, Value.slice none 0 0]) tp24_e bx75 rfl rfl) (.tmp rfl .nil)) ?_
      -- return 3
      have e0 : ((0, []) : (Int) × (List ((Int) × (Int)))) = ((joinR a b).1) := by
        first
          | (have hn : ¬ (MayP a ∧ MayP b) := fun h => p1 (decide_eq_true h.2)
             simp only [joinR, if_neg hn]; done)
          | (have hn : ¬ (MayP a ∧ MayP b) := fun h => q13 (decide_eq_true h.1)
             simp only [joinR, if_neg hn]; done)
          | (have hn : ¬ (a.1 + b.1 ≤ 1024 ∧ a.2.length + b.2.length ≤ 3072) := fun h => by omega
             simp only [joinR, if_pos (And.intro hma hmb), if_neg hn]; done)
          | (have hn : a.1 + b.1 ≤ 1024 ∧ a.2.length + b.2.length ≤ 3072 := ⟨by omega, by omega⟩
             simp only [joinR, if_pos (And.intro hma hmb), if_pos hn, hs]; done)
      have e1 : (1 : Int) = ((joinR a b).2) := by
        first
          | (have hn : ¬ (MayP a ∧ MayP b) := fun h => p1 (decide_eq_true h.2)
             simp only [joinR, if_neg hn]; done)
          | (have hn : ¬ (MayP a ∧ MayP b) := fun h => q13 (decide_eq_true h.1)
             simp only [joinR, if_neg hn]; done)
          | (have hn : ¬ (a.1 + b.1 ≤ 1024 ∧ a.2.length + b.2.length ≤ 3072) := fun h => by omega
             simp only [joinR, if_pos (And.intro hma hmb), if_neg hn]; done)
          | (have hn : a.1 + b.1 ≤ 1024 ∧ a.2.length + b.2.length ≤ 3072 := ⟨by omega, by omega⟩
             simp only [joinR, if_pos (And.intro hma hmb), if_pos hn, hs]; done)
      exact ⟨(fin w0 g14 (fun n => 0), (Value.slice none 0 0)), (congr2 (a := (0, [])) (b := 1) (fun (z0 : (Int) × (List ((Int) × (Int)))) (z1 : Int) => Ending.returned (Value.tuple (List.toArray [Value.agg (List.toArray [Value.int .i64 z0.1, Value.slice none 0 0]), Value.int .i64 z1]))) e0 e1), hbase.fresh _, ((congrArg (fun (z : (Int) × (List ((Int) × (Int)))) => z.2) e0) ▸ Ow.nil)⟩
  · skip
    refine l_skip (want_n rfl rfl rfl (congrArg Bool.not (Bool.eq_false_iff.2 q13))) ?_
    refine l_skip (want_n rfl rfl rfl (congrArg Bool.not (Bool.eq_false_iff.2 q13))) ?_
    refine l_skip (want_n rfl rfl rfl (congrArg Bool.not (Bool.eq_false_iff.2 q13))) ?_
    refine l_val (v := Value.bool true) rfl (e_pick_t rfl (congrArg Bool.not (Bool.eq_false_iff.2 q13)) rfl) ?_
    refine l_val (v := Value.bool true) rfl (e_assign rfl) ?_
    refine l_nil ?_
    refine run_cond_t rfl rfl ?_
    refine run_seq ?_
    clear bx5
    clear bx10
    refine run_region rfl ?_
    refine l_val (v := Value.agg (List.toArray [Value.int .i64 0, Value.slice none 0 0])) rfl (e_build (vs := []) rfl (by kernel_rfl)) ?_
    refine l_op rfl ?_
    refine o_store_bx (cs' := [Value.int .i64 0, Value.slice none 0 0]) tp24_e rfl rfl bx15 rfl (Nat.le_of_ble_eq_true rfl) (AllOne.all (.cons rfl (.cons rfl .nil))) rfl ?_
    intro w76 ch77 bx78
    replace hbase := hbase.chg ch77 (is_ne rfl)
    replace r_a_v := r_a_v.chg ch77 (is_ne rfl)
    replace r_b_v := r_b_v.chg ch77 (is_ne rfl)
    clear bx15
    refine l_val (v := Value.int .i64 1) rfl (e_assign rfl) ?_
    refine l_nil ?_
    refine run_ret (vs := [Value.agg (List.toArray [Value.int .i64 0, Value.slice none 0 0]), Value.int .i64 1]) Try.func17 (.cell rfl (load_bxN (ds := [Value.int .i64 0, Value.slice none 0 0]) tp24_e bx78 rfl rfl) (.tmp rfl .nil)) ?_
    -- return 4
    have e0 : ((0, []) : (Int) × (List ((Int) × (Int)))) = ((joinR a b).1) := by
      first
        | (have hn : ¬ (MayP a ∧ MayP b) := fun h => p1 (decide_eq_true h.2)
           simp only [joinR, if_neg hn]; done)
        | (have hn : ¬ (MayP a ∧ MayP b) := fun h => q13 (decide_eq_true h.1)
           simp only [joinR, if_neg hn]; done)
        | (have hn : ¬ (a.1 + b.1 ≤ 1024 ∧ a.2.length + b.2.length ≤ 3072) := fun h => by omega
           simp only [joinR, if_pos (And.intro hma hmb), if_neg hn]; done)
        | (have hn : a.1 + b.1 ≤ 1024 ∧ a.2.length + b.2.length ≤ 3072 := ⟨by omega, by omega⟩
           simp only [joinR, if_pos (And.intro hma hmb), if_pos hn, hs]; done)
    have e1 : (1 : Int) = ((joinR a b).2) := by
      first
        | (have hn : ¬ (MayP a ∧ MayP b) := fun h => p1 (decide_eq_true h.2)
           simp only [joinR, if_neg hn]; done)
        | (have hn : ¬ (MayP a ∧ MayP b) := fun h => q13 (decide_eq_true h.1)
           simp only [joinR, if_neg hn]; done)
        | (have hn : ¬ (a.1 + b.1 ≤ 1024 ∧ a.2.length + b.2.length ≤ 3072) := fun h => by omega
           simp only [joinR, if_pos (And.intro hma hmb), if_neg hn]; done)
        | (have hn : a.1 + b.1 ≤ 1024 ∧ a.2.length + b.2.length ≤ 3072 := ⟨by omega, by omega⟩
           simp only [joinR, if_pos (And.intro hma hmb), if_pos hn, hs]; done)
    exact ⟨(fin w0 g14 (fun n => 0), (Value.slice none 0 0)), (congr2 (a := (0, [])) (b := 1) (fun (z0 : (Int) × (List ((Int) × (Int)))) (z1 : Int) => Ending.returned (Value.tuple (List.toArray [Value.agg (List.toArray [Value.int .i64 z0.1, Value.slice none 0 0]), Value.int .i64 z1]))) e0 e1), hbase.fresh _, ((congrArg (fun (z : (Int) × (List ((Int) × (Int)))) => z.2) e0) ▸ Ow.nil)⟩

theorem rCopy_ok (w0 : World) (g : (Int) × (List ((Int) × (Int)))) (g_v : Value) (hg_v : Ro w0 g_v g.2) (hlen : g.2.length ≤ 1000000) :
    Calls Try.prog 41 #[Value.agg (List.toArray [Value.int .i64 g.1, g_v])] w0 (fun ee w => ∃ xx : Cmap × Value, ee = .returned ((fun ⟨δ, rv0⟩ => Value.agg (List.toArray [Value.int .i64 g.1, rv0])) xx) ∧ (fun (⟨δ, rv0⟩ : Cmap × Value) (w : World) => Fresh w0 δ w ∧ Ow δ (is 1) (is 1) w rv0 g.2) xx w) := by
  refine calls_of_run Try.func41 rfl (Nat.le_of_ble_eq_true rfl) ?_
  have hbase := Base.start w0
  have r_g_v := hg_v.sl
  refine run_seq ?_
  refine run_region rfl ?_
  refine l_op rfl ?_
  refine o_box c0 (is 1) (1, 0) rfl rfl ?_
  intro g4 w1 b3 ch2 bx5
  replace hbase := hbase.chg ch2 (not_no _)
  replace r_g_v := r_g_v.chg ch2 (not_no _)
  replace bx5 : Bx g4 (is 1) w1 b3 [Value.int .i64 g.1, g_v] := bx5
  refine l_op rfl ?_
  refine o_alloc g4 (is 2) (2, 0) rfl tp24_e ?_
  intro g9 w6 b8 ch7 bx10
  replace hbase := hbase.chg ch7 (not_no _)
  replace r_g_v := r_g_v.chg ch7 (not_no _)
  replace bx5 := bx5.chg ch7 (not_no _)
  replace bx10 : Bx g9 (is 2) w6 b8 [Value.int .i64 0, Value.slice none 0 0] := bx10
  refine l_nil ?_
  refine run_seq ?_
  refine run_region_x g9 [0, 2, 3, 5] mixed_e ?_
  intro w12 ch11
  replace hbase := hbase.chg ch11 (not_no _)
  replace r_g_v := r_g_v.chg ch11 (not_no _)
  replace bx5 := bx5.chg ch11 (not_no _)
  replace bx10 := bx10.chg ch11 (not_no _)
  refine x_pure (v := Value.pointer (some ⟨b3, 0, none⟩)) 0 rfl (by kernel_rfl) (by kernel_rfl) rfl (fun w => e_fieldAddr Try.underlying24 rfl rfl rfl rfl) ?_
  refine x_pure (v := Value.pointer (some ⟨b3, 1, none⟩)) 2 rfl (by kernel_rfl) (by kernel_rfl) rfl (fun w => e_fieldAddr Try.underlying24 rfl rfl rfl rfl) ?_
  refine x_held (v := g_v) 3 [2, 0, 1] rfl (by kernel_rfl) (by kernel_rfl) rfl (fun w' hw' => e_load_bx1 tp22_e rfl (bx5.bel hw') rfl) ?_
  refine x_two 1 4 rfl rfl (by kernel_rfl) rfl rfl ?_ ?_
  · skip
    refine o_of_val (v := Value.int .i64 g.1) (e_load_bx1 tp3_e rfl bx5 rfl) ?_
    refine x_one 4 rfl (by kernel_rfl) rfl ?_
    refine o_append (α := (Int) × (Int)) (xs := ([])) (ys := g.2) g9 (J := is 3) (S := is 3) (3, 0) rfl Try.underlying22 tp60_e (by decide) rfl rfl rfl Ow.nil r_g_v (by decide) (by first | omega | (simp; done) | (simp; omega)) ?_
    intro g13 w14 v15 ch16 o17
    replace hbase := hbase.chg ch16 (is_ne rfl)
    replace r_g_v := r_g_v.chg ch16 (is_ne rfl)
    replace bx5 := bx5.chg ch16 (is_ne rfl)
    replace bx10 := bx10.chg ch16 (is_ne rfl)
    replace o17 : Ow g13 (is 3) (is 3) w14 v15 g.2 := o17
    refine x_pure (v := Value.agg (List.toArray [Value.int .i64 g.1, v15])) 5 rfl (by kernel_rfl) (by kernel_rfl) rfl (fun w => e_build (vs := [(0, Value.int .i64 g.1), (1, v15)]) rfl (by rw [Sl.form o17.flat]; kernel_rfl)) ?_
    refine x_one 6 rfl (by kernel_rfl) rfl ?_
    refine o_store_bx (cs' := [Value.int .i64 g.1, v15]) tp24_e rfl rfl bx10 rfl (Nat.le_of_ble_eq_true rfl) (AllOne.all (.cons rfl (.cons (sl_one o17.flat) .nil))) rfl ?_
    intro w18 ch19 bx20
    replace hbase := hbase.chg ch19 (is_ne rfl)
    replace r_g_v := r_g_v.chg ch19 (is_ne rfl)
    replace bx5 := bx5.chg ch19 (is_ne rfl)
    replace o17 := o17.chg ch19 (is_ne rfl) (is_ne rfl)
    clear bx10
    refine x_nil (by kernel_rfl) ?_
    refine run_ret (vs := [Value.agg (List.toArray [Value.int .i64 g.1, v15])]) Try.func41 (.cell rfl (load_bxN (ds := [Value.int .i64 g.1, v15]) tp24_e bx20 rfl rfl) .nil) ?_
    -- return 0
    have e0 : (g : (Int) × (List ((Int) × (Int)))) = (g) := by
      rfl
    exact ⟨(fin w0 g13 (fun n => if n = 3 then 1 else 0), v15), (congrArg (a₁ := g) (fun (z0 : (Int) × (List ((Int) × (Int)))) => Ending.returned (Value.agg (List.toArray [Value.int .i64 z0.1, v15]))) e0), hbase.fresh _, ((congrArg (fun (z : (Int) × (List ((Int) × (Int)))) => z.2) e0) ▸ (o17.glue (γ := c0) (ren := (fun n => if n = 3 then 1 else 0)) (k := 1) hbase.col rfl rfl))⟩
  · skip
    refine o_append (α := (Int) × (Int)) (xs := ([])) (ys := g.2) g9 (J := is 3) (S := is 3) (3, 0) rfl Try.underlying22 tp60_e (by decide) rfl rfl rfl Ow.nil r_g_v (by decide) (by first | omega | (simp; done) | (simp; omega)) ?_
    intro g21 w22 v23 ch24 o25
    replace hbase := hbase.chg ch24 (is_ne rfl)
    replace r_g_v := r_g_v.chg ch24 (is_ne rfl)
    replace bx5 := bx5.chg ch24 (is_ne rfl)
    replace bx10 := bx10.chg ch24 (is_ne rfl)
    replace o25 : Ow g21 (is 3) (is 3) w22 v23 g.2 := o25
    refine x_one 1 rfl (by kernel_rfl) rfl ?_
    refine o_of_val (v := Value.int .i64 g.1) (e_load_bx1 tp3_e rfl bx5 rfl) ?_
    refine x_pure (v := Value.agg (List.toArray [Value.int .i64 g.1, v23])) 5 rfl (by kernel_rfl) (by kernel_rfl) rfl (fun w => e_build (vs := [(0, Value.int .i64 g.1), (1, v23)]) rfl (by rw [Sl.form o25.flat]; kernel_rfl)) ?_
    refine x_one 6 rfl (by kernel_rfl) rfl ?_
    refine o_store_bx (cs' := [Value.int .i64 g.1, v23]) tp24_e rfl rfl bx10 rfl (Nat.le_of_ble_eq_true rfl) (AllOne.all (.cons rfl (.cons (sl_one o25.flat) .nil))) rfl ?_
    intro w26 ch27 bx28
    replace hbase := hbase.chg ch27 (is_ne rfl)
    replace r_g_v := r_g_v.chg ch27 (is_ne rfl)
    replace bx5 := bx5.chg ch27 (is_ne rfl)
    replace o25 := o25.chg ch27 (is_ne rfl) (is_ne rfl)
    clear bx10
    refine x_nil (by kernel_rfl) ?_
    refine run_ret (vs := [Value.agg (List.toArray [Value.int .i64 g.1, v23])]) Try.func41 (.cell rfl (load_bxN (ds := [Value.int .i64 g.1, v23]) tp24_e bx28 rfl rfl) .nil) ?_
    -- return 1
    have e0 : (g : (Int) × (List ((Int) × (Int)))) = (g) := by
      rfl
    exact ⟨(fin w0 g21 (fun n => if n = 3 then 1 else 0), v23), (congrArg (a₁ := g) (fun (z0 : (Int) × (List ((Int) × (Int)))) => Ending.returned (Value.agg (List.toArray [Value.int .i64 z0.1, v23]))) e0), hbase.fresh _, ((congrArg (fun (z : (Int) × (List ((Int) × (Int)))) => z.2) e0) ▸ (o25.glue (γ := c0) (ren := (fun n => if n = 3 then 1 else 0)) (k := 1) hbase.col rfl rfl))⟩

theorem rChosen_ok (w0 : World) (l : List Int) (l_v : Value) (hl_v : Ro w0 l_v l) (n : Int) :
    Calls Try.prog 40 #[l_v, Value.int .i64 n] w0 (fun ee w => ee = .returned (Value.int .i64 (chosenS l n)) ∧ RowKit.Below w0.heap.size w0 w) := by
  refine calls_of_run Try.func40 rfl (Nat.le_of_ble_eq_true rfl) ?_
  have hbase := Base.start w0
  have r_l_v := hl_v.sl
  refine run_seq ?_
  refine run_region rfl ?_
  refine l_val (v := Value.int .i64 0) rfl (e_assign rfl) ?_
  refine l_nil ?_
  refine run_seq ?_
  refine run_seq ?_
  refine run_region rfl ?_
  refine l_val (v := Value.int .i64 0) rfl (e_assign rfl) ?_
  refine l_nil ?_
  refine run_block ?_
  refine run_loop (σ := Nat × Cmap) (fun ⟨i, gq⟩ f w => Base w0 gq w ∧ f 0 = l_v ∧ f 1 = Value.int .i64 n ∧ f 5 = Value.int .i64 (i : Int) ∧ Sl gq (is 0) w l_v l ∧ (i : Int) ≤ ((List.length l : Int) : Int) ∧ (ChoInv l n i)) (fun ⟨i, gq⟩ => Int.toNat (((List.length l : Int) : Int) - (i : Int))) (0, c0) ?_ ?_
  · exact ⟨hbase, rfl, rfl, rfl, r_l_v, by omega, by exact ChoInv.start l n⟩
  clear r_l_v
  clear hbase
  rintro ⟨i, g3⟩ f1 w2 ⟨hbase, zs0, zs1, zs5, r_l_v, hle_i, hinv⟩ back2
  refine run_seq ?_
  refine run_seq ?_
  refine run_region rfl ?_
  refine l_val (v := Value.int .i64 (i : Int)) rfl (e_move (by exact zs5)) ?_
  refine l_val (v := l_v) rfl (e_move (by exact zs0)) ?_
  have len4 := (r_l_v).small
  refine l_val (v := Value.int .i64 (List.length l : Int)) rfl (e_len Try.underlying25 rfl r_l_v) ?_
  refine l_val (v := Value.bool (decide ((i : Int) < (List.length l : Int)))) rfl (e_lss (m := (i : Int)) (n := (List.length l : Int)) rfl rfl) ?_
  refine l_nil ?_
  by_cases p2 : (i : Int) < (List.length l : Int)
  · skip
    refine run_cond_t rfl (decide_eq_true p2) ?_
    refine run_skip ?_
    refine run_seq ?_
    refine run_block ?_
    refine run_seq ?_
    refine run_seq ?_
    refine run_region rfl ?_
    refine l_val (v := l_v) rfl (e_move (by exact zs0)) ?_
    refine l_val (v := Value.int .i64 (i : Int)) rfl (e_move (by exact zs5)) ?_
    refine l_val (v := Value.pointer (some (eAddr l_v 1 (Int.toNat (i : Int))))) rfl (e_indexAddr (α := Int) (xs := l) (v := l_v) (i := (i : Int)) Try.underlying25 rfl rfl r_l_v rfl (by omega) (by omega)) ?_
    refine l_val (v := Value.int .i64 (gI l (i : Int))) rfl (e_load_el1 (α := Int) (xs := l) (v := l_v) (i := (i : Int)) tp3_e rfl r_l_v (by omega) (by omega) (by decide) rfl) ?_
    refine l_val (v := Value.bool (decide ((gI l (i : Int)) < 0))) rfl (e_lss (m := (gI l (i : Int))) (n := 0) rfl rfl) ?_
    refine l_val (v := Value.bool (decide ((gI l (i : Int)) < 0))) rfl (e_move rfl) ?_
    by_cases q18 : (gI l (i : Int)) < 0
    · skip
      refine l_skip (want_n rfl rfl rfl (decide_eq_true q18)) ?_
      refine l_skip (want_n rfl rfl rfl (decide_eq_true q18)) ?_
      refine l_skip (want_n rfl rfl rfl (decide_eq_true q18)) ?_
      refine l_skip (want_n rfl rfl rfl (decide_eq_true q18)) ?_
      refine l_skip (want_n rfl rfl rfl (decide_eq_true q18)) ?_
      refine l_skip (want_n rfl rfl rfl (decide_eq_true q18)) ?_
      refine l_val (v := Value.bool true) rfl (e_pick_t rfl (decide_eq_true q18) rfl) ?_
      refine l_nil ?_
      refine run_cond_t rfl rfl ?_
      refine run_seq ?_
      refine run_region rfl ?_
      refine l_val (v := Value.int .i64 2) rfl (e_assign rfl) ?_
      refine l_nil ?_
      refine run_ret (vs := [Value.int .i64 2]) Try.func40 (.tmp rfl .nil) ?_
      -- return 0
      have e0 : (2 : Int) = (chosenS l n) := by
        first
          | exact hinv.bad (by assumption) (by omega)
          | exact hinv.twice (by assumption) (by omega) (by omega) (by rw [← p9]; exact mem_take_gI (by omega) (by omega))
          | exact hinv.done (by assumption)
      exact ⟨(congrArg (a₁ := 2) (fun (z0 : Int) => Ending.returned (Value.int .i64 z0)) e0), hbase.below⟩
    · skip
      refine l_val (v := l_v) (want_y rfl rfl rfl (decide_eq_false q18)) (e_move (by exact zs0)) ?_
      refine l_val (v := Value.int .i64 (i : Int)) (want_y rfl rfl rfl (decide_eq_false q18)) (e_move (by exact zs5)) ?_
      refine l_val (v := Value.pointer (some (eAddr l_v 1 (Int.toNat (i : Int))))) (want_y rfl rfl rfl (decide_eq_false q18)) (e_indexAddr (α := Int) (xs := l) (v := l_v) (i := (i : Int)) Try.underlying25 rfl rfl r_l_v rfl (by omega) (by omega)) ?_
      refine l_val (v := Value.int .i64 (gI l (i : Int))) (want_y rfl rfl rfl (decide_eq_false q18)) (e_load_el1 (α := Int) (xs := l) (v := l_v) (i := (i : Int)) tp3_e rfl r_l_v (by omega) (by omega) (by decide) rfl) ?_
      refine l_val (v := Value.int .i64 n) (want_y rfl rfl rfl (decide_eq_false q18)) (e_move (by exact zs1)) ?_
      refine l_val (v := Value.bool (decide (n ≤ (gI l (i : Int))))) (want_y rfl rfl rfl (decide_eq_false q18)) (e_geq (m := (gI l (i : Int))) (n := n) rfl rfl) ?_
      refine l_val (v := Value.bool (decide (n ≤ (gI l (i : Int))))) rfl (e_pick_f rfl (decide_eq_false q18) rfl) ?_
      refine l_nil ?_
      by_cases p5 : n ≤ (gI l (i : Int))
      · skip
        refine run_cond_t rfl (decide_eq_true p5) ?_
        refine run_seq ?_
        refine run_region rfl ?_
        refine l_val (v := Value.int .i64 2) rfl (e_assign rfl) ?_
        refine l_nil ?_
        refine run_ret (vs := [Value.int .i64 2]) Try.func40 (.tmp rfl .nil) ?_
        -- return 1
        have e0 : (2 : Int) = (chosenS l n) := by
          first
            | exact hinv.bad (by assumption) (by omega)
            | exact hinv.twice (by assumption) (by omega) (by omega) (by rw [← p9]; exact mem_take_gI (by omega) (by omega))
            | exact hinv.done (by assumption)
        exact ⟨(congrArg (a₁ := 2) (fun (z0 : Int) => Ending.returned (Value.int .i64 z0)) e0), hbase.below⟩
      · skip
        refine run_cond_f rfl (decide_eq_false p5) ?_
        refine run_skip ?_
        refine run_seq ?_
        refine run_region rfl ?_
        refine l_val (v := Value.int .i64 0) rfl (e_assign rfl) ?_
        refine l_nil ?_
        refine run_block ?_
        refine run_loop (σ := Nat × Cmap) (fun ⟨k, gq⟩ f w => Base w0 gq w ∧ f 0 = l_v ∧ f 1 = Value.int .i64 n ∧ f 5 = Value.int .i64 (i : Int) ∧ f 6 = Value.int .i64 (k : Int) ∧ Sl gq (is 0) w l_v l ∧ (k : Int) ≤ ((i : Int) : Int) ∧ (∀ q : Nat, q < k → ¬ gI l (q : Int) = gI l (i : Int))) (fun ⟨k, gq⟩ => Int.toNat (((i : Int) : Int) - (k : Int))) (0, g3) ?_ ?_
        · exact ⟨hbase, (by exact zs0), (by exact zs1), (by exact zs5), rfl, r_l_v, by omega, by intro q hq; omega⟩
        clear r_l_v
        clear hbase
        rintro ⟨k, g7⟩ f5 w6 ⟨hbase, zs0, zs1, zs5, zs6, r_l_v, hle_k, hin⟩ back7
        refine run_seq ?_
        refine run_seq ?_
        refine run_region rfl ?_
        refine l_val (v := Value.int .i64 (k : Int)) rfl (e_move (by exact zs6)) ?_
        refine l_val (v := Value.int .i64 (i : Int)) rfl (e_move (by exact zs5)) ?_
        refine l_val (v := Value.bool (decide ((k : Int) < (i : Int)))) rfl (e_lss (m := (k : Int)) (n := (i : Int)) rfl rfl) ?_
        refine l_nil ?_
        by_cases p7 : (k : Int) < (i : Int)
        · skip
          refine run_cond_t rfl (decide_eq_true p7) ?_
          refine run_skip ?_
          refine run_seq ?_
          refine run_block ?_
          refine run_seq ?_
          refine region_q g7 rfl mixed_e (by kernel_rfl) ?_
          intro w9 ch8
          replace hbase := hbase.chg ch8 (not_no _)
          replace r_l_v := r_l_v.chg ch8 (not_no _)
          refine q_val (v := l_v) rfl (fun w' hw' => e_move (by exact zs0)) ?_
          refine q_val (v := Value.int .i64 (k : Int)) rfl (fun w' hw' => e_move (by exact zs6)) ?_
          refine q_val (v := Value.pointer (some (eAddr l_v 1 (Int.toNat (k : Int))))) rfl (fun w' hw' => e_indexAddr (α := Int) (xs := l) (v := l_v) (i := (k : Int)) Try.underlying25 rfl rfl (r_l_v.bel hw') rfl (by omega) (by omega)) ?_
          refine q_val (v := Value.int .i64 (gI l (k : Int))) rfl (fun w' hw' => e_load_el1 (α := Int) (xs := l) (v := l_v) (i := (k : Int)) tp3_e rfl (r_l_v.bel hw') (by omega) (by omega) (by decide) rfl) ?_
          refine q_val (v := l_v) rfl (fun w' hw' => e_move (by exact zs0)) ?_
          refine q_val (v := Value.int .i64 (i : Int)) rfl (fun w' hw' => e_move (by exact zs5)) ?_
          refine q_val (v := Value.pointer (some (eAddr l_v 1 (Int.toNat (i : Int))))) rfl (fun w' hw' => e_indexAddr (α := Int) (xs := l) (v := l_v) (i := (i : Int)) Try.underlying25 rfl rfl (r_l_v.bel hw') rfl (by omega) (by omega)) ?_
          refine q_val (v := Value.int .i64 (gI l (i : Int))) rfl (fun w' hw' => e_load_el1 (α := Int) (xs := l) (v := l_v) (i := (i : Int)) tp3_e rfl (r_l_v.bel hw') (by omega) (by omega) (by decide) rfl) ?_
          refine q_val (v := Value.bool (decide ((gI l (k : Int)) = (gI l (i : Int))))) rfl (fun w' hw' => e_eql (m := (gI l (k : Int))) (n := (gI l (i : Int))) rfl rfl) ?_
          refine q_nil ?_
          intro w10 hc11
          replace hc11 := chg_below hc11 g7
          replace hbase := hbase.chg hc11 (not_no _)
          replace r_l_v := r_l_v.chg hc11 (not_no _)
          by_cases p9 : (gI l (k : Int)) = (gI l (i : Int))
          · skip
            refine run_cond_t rfl (decide_eq_true p9) ?_
            refine run_seq ?_
            refine run_region rfl ?_
            refine l_val (v := Value.int .i64 18) rfl (e_assign rfl) ?_
            refine l_nil ?_
            refine run_ret (vs := [Value.int .i64 18]) Try.func40 (.tmp rfl .nil) ?_
            -- return 2
            have e0 : (18 : Int) = (chosenS l n) := by
              first
                | exact hinv.bad (by assumption) (by omega)
                | exact hinv.twice (by assumption) (by omega) (by omega) (by rw [← p9]; exact mem_take_gI (by omega) (by omega))
                | exact hinv.done (by assumption)
            exact ⟨(congrArg (a₁ := 18) (fun (z0 : Int) => Ending.returned (Value.int .i64 z0)) e0), hbase.below⟩
          · skip
            refine run_cond_f rfl (decide_eq_false p9) ?_
            refine run_skip ?_
            refine run_inBlock ?_
            refine run_region rfl ?_
            refine l_val (v := Value.int .i64 (k : Int)) rfl (e_move (by exact zs6)) ?_
            refine l_val (v := Value.int .i64 ((k : Int) + 1)) rfl (e_add (m := (k : Int)) (n := 1) rfl rfl (by omega)) ?_
            refine l_val (v := Value.int .i64 ((k : Int) + 1)) rfl (e_assign rfl) ?_
            refine l_nil ?_
            refine back7 (k + 1, g7) _ _ ⟨hbase, (by exact zs0), (by exact zs1), (by exact zs5), rfl, r_l_v, by omega, ?_⟩ ?_
            · show ∀ q : Nat, q < (k + 1) → ¬ gI l (q : Int) = gI l (i : Int)
              intro q hq
              by_cases e : q = k
              · subst e; assumption
              · exact hin q (by omega)
            · show Int.toNat (((i : Int) : Int) - ((k + 1) : Int)) < Int.toNat (((i : Int) : Int) - (k : Int))
              omega
        · skip
          refine run_cond_f rfl (decide_eq_false p7) ?_
          refine run_exit rfl ?_
          refine run_inBlock ?_
          refine run_region rfl ?_
          refine l_val (v := Value.int .i64 (i : Int)) rfl (e_move (by exact zs5)) ?_
          refine l_val (v := Value.int .i64 ((i : Int) + 1)) rfl (e_add (m := (i : Int)) (n := 1) rfl rfl (by omega)) ?_
          refine l_val (v := Value.int .i64 ((i : Int) + 1)) rfl (e_assign rfl) ?_
          refine l_nil ?_
          refine back2 (i + 1, g7) _ _ ⟨hbase, (by exact zs0), (by exact zs1), rfl, r_l_v, by omega, ?_⟩ ?_
          · show ChoInv l n (i + 1)
            exact hinv.next (by assumption) (by omega) (by omega) (fun hm => by
              obtain ⟨q, hq, e⟩ := List.mem_take_iff_getElem.1 hm
              have := hin q (by omega)
              apply this
              rw [← e]
              simp [gI, show q < l.length by omega])
          · show Int.toNat (((List.length l : Int) : Int) - ((i + 1) : Int)) < Int.toNat (((List.length l : Int) : Int) - (i : Int))
            omega
  · skip
    refine run_cond_f rfl (decide_eq_false p2) ?_
    refine run_exit rfl ?_
    refine run_seq ?_
    refine run_region rfl ?_
    refine l_val (v := Value.int .i64 0) rfl (e_assign rfl) ?_
    refine l_nil ?_
    refine run_ret (vs := [Value.int .i64 0]) Try.func40 (.tmp rfl .nil) ?_
    -- return 3
    have e0 : (0 : Int) = (chosenS l n) := by
      first
        | exact hinv.bad (by assumption) (by omega)
        | exact hinv.twice (by assumption) (by omega) (by omega) (by rw [← p9]; exact mem_take_gI (by omega) (by omega))
        | exact hinv.done (by assumption)
    exact ⟨(congrArg (a₁ := 0) (fun (z0 : Int) => Ending.returned (Value.int .i64 z0)) e0), hbase.below⟩

theorem rMoved_ok (w0 : World) (g : (Int) × (List ((Int) × (Int)))) (g_v : Value) (hg_v : Ro w0 g_v g.2) (to : List Int) (to_v : Value) (hto_v : Ro w0 to_v to) (hmay : MayP g) :
    Calls Try.prog 21 #[Value.agg (List.toArray [Value.int .i64 g.1, g_v]), to_v] w0 (fun ee w => ∃ xx : Cmap × Value, ee = .returned ((fun ⟨δ, rv0⟩ => Value.tuple (List.toArray [Value.agg (List.toArray [Value.int .i64 (((movedR g to).1).1), rv0]), Value.int .i64 ((movedR g to).2)])) xx) ∧ (fun (⟨δ, rv0⟩ : Cmap × Value) (w : World) => Fresh w0 δ w ∧ Ow δ (is 1) (is 1) w rv0 (((movedR g to).1).2)) xx w) := by
  refine calls_of_run Try.func21 rfl (Nat.le_of_ble_eq_true rfl) ?_
  have hbase := Base.start w0
  have r_g_v := hg_v.sl
  have r_to_v := hto_v.sl
  have hmay0 := hmay
  obtain ⟨hm1, hm2, hm3, hm4⟩ := hmay0
  refine run_seq ?_
  refine run_region rfl ?_
  refine l_op rfl ?_
  refine o_box c0 (is 1) (1, 0) rfl rfl ?_
  intro g4 w1 b3 ch2 bx5
  replace hbase := hbase.chg ch2 (not_no _)
  replace r_g_v := r_g_v.chg ch2 (not_no _)
  replace r_to_v := r_to_v.chg ch2 (not_no _)
  replace bx5 : Bx g4 (is 1) w1 b3 [Value.int .i64 g.1, g_v] := bx5
  refine l_op rfl ?_
  refine o_alloc g4 (is 2) (2, 0) rfl tp24_e ?_
  intro g9 w6 b8 ch7 bx10
  replace hbase := hbase.chg ch7 (not_no _)
  replace r_g_v := r_g_v.chg ch7 (not_no _)
  replace r_to_v := r_to_v.chg ch7 (not_no _)
  replace bx5 := bx5.chg ch7 (not_no _)
  replace bx10 : Bx g9 (is 2) w6 b8 [Value.int .i64 0, Value.slice none 0 0] := bx10
  refine l_val (v := Value.int .i64 0) rfl (e_assign rfl) ?_
  refine l_nil ?_
  refine run_seq ?_
  refine run_seq ?_
  refine run_region rfl ?_
  refine l_val (v := to_v) rfl (e_move rfl) ?_
  have len11 := (r_to_v).small
  refine l_val (v := Value.int .i64 (List.length to : Int)) rfl (e_len Try.underlying25 rfl r_to_v) ?_
  refine l_val (v := Value.pointer (some ⟨b3, 0, none⟩)) rfl (e_fieldAddr Try.underlying24 rfl rfl rfl rfl) ?_
  refine l_val (v := Value.int .i64 g.1) rfl (e_load_bx1 tp3_e rfl bx5 rfl) ?_
  refine l_val (v := Value.bool (!(decide ((List.length to : Int) = g.1)))) rfl (e_neq (m := (List.length to : Int)) (n := g.1) rfl rfl) ?_
  refine l_nil ?_
  by_cases p1 : (List.length to : Int) = g.1
  · skip
    refine run_cond_f rfl (congrArg Bool.not (decide_eq_true p1)) ?_
    refine run_skip ?_
    refine run_seq ?_
    refine run_seq ?_
    refine run_region rfl ?_
    refine l_val (v := Value.int .i64 0) rfl (e_assign rfl) ?_
    refine l_nil ?_
    refine run_block ?_
    refine run_loop (σ := Nat × Cmap) (fun ⟨k, gq⟩ f w => Base w0 gq w ∧ f 1 = to_v ∧ f 2 = Value.pointer (some ⟨b3, 0, none⟩) ∧ f 4 = Value.pointer (some ⟨b8, 0, none⟩) ∧ f 6 = Value.int .i64 (k : Int) ∧ Sl gq (is 0) w g_v g.2 ∧ Sl gq (is 0) w to_v to ∧ Bx gq (is 1) w b3 [Value.int .i64 g.1, g_v] ∧ Bx gq (is 2) w b8 [Value.int .i64 0, Value.slice none 0 0] ∧ (k : Int) ≤ ((List.length to : Int) : Int) ∧ (∀ v ∈ List.take k to, 0 ≤ v ∧ v < g.1)) (fun ⟨k, gq⟩ => Int.toNat (((List.length to : Int) : Int) - (k : Int))) (0, g9) ?_ ?_
    · exact ⟨hbase, rfl, rfl, rfl, rfl, r_g_v, r_to_v, bx5, bx10, by omega, by simp⟩
    clear r_g_v
    clear r_to_v
    clear bx5
    clear bx10
    clear hbase
    rintro ⟨k, g14⟩ f12 w13 ⟨hbase, zs1, zs2, zs4, zs6, r_g_v, r_to_v, bx5, bx10, hle_k, hinv⟩ back4
    refine run_seq ?_
    refine run_seq ?_
    refine run_region rfl ?_
    refine l_val (v := Value.int .i64 (k : Int)) rfl (e_move (by exact zs6)) ?_
    refine l_val (v := to_v) rfl (e_move (by exact zs1)) ?_
    refine l_val (v := Value.int .i64 (List.length to : Int)) rfl (e_len Try.underlying25 rfl r_to_v) ?_
    refine l_val (v := Value.bool (decide ((k : Int) < (List.length to : Int)))) rfl (e_lss (m := (k : Int)) (n := (List.length to : Int)) rfl rfl) ?_
    refine l_nil ?_
    by_cases p4 : (k : Int) < (List.length to : Int)
    · skip
      refine run_cond_t rfl (decide_eq_true p4) ?_
      refine run_skip ?_
      refine run_seq ?_
      refine run_block ?_
      refine run_seq ?_
      refine region_q g14 rfl mixed_e (by kernel_rfl) ?_
      intro w16 ch15
      replace hbase := hbase.chg ch15 (not_no _)
      replace r_g_v := r_g_v.chg ch15 (not_no _)
      replace r_to_v := r_to_v.chg ch15 (not_no _)
      replace bx5 := bx5.chg ch15 (not_no _)
      replace bx10 := bx10.chg ch15 (not_no _)
      refine q_val (v := to_v) rfl (fun w' hw' => e_move (by exact zs1)) ?_
      refine q_val (v := Value.int .i64 (k : Int)) rfl (fun w' hw' => e_move (by exact zs6)) ?_
      refine q_val (v := Value.pointer (some (eAddr to_v 1 (Int.toNat (k : Int))))) rfl (fun w' hw' => e_indexAddr (α := Int) (xs := to) (v := to_v) (i := (k : Int)) Try.underlying25 rfl rfl (r_to_v.bel hw') rfl (by omega) (by omega)) ?_
      refine q_val (v := Value.int .i64 (gI to (k : Int))) rfl (fun w' hw' => e_load_el1 (α := Int) (xs := to) (v := to_v) (i := (k : Int)) tp3_e rfl (r_to_v.bel hw') (by omega) (by omega) (by decide) rfl) ?_
      refine q_val (v := Value.bool (decide ((gI to (k : Int)) < 0))) rfl (fun w' hw' => e_lss (m := (gI to (k : Int))) (n := 0) rfl rfl) ?_
      refine q_val (v := Value.bool (decide ((gI to (k : Int)) < 0))) rfl (fun w' hw' => e_move rfl) ?_
      by_cases q27 : (gI to (k : Int)) < 0
      · skip
        refine q_skip (want_n rfl rfl rfl (decide_eq_true q27)) ?_
        refine q_skip (want_n rfl rfl rfl (decide_eq_true q27)) ?_
        refine q_skip (want_n rfl rfl rfl (decide_eq_true q27)) ?_
        refine q_skip (want_n rfl rfl rfl (decide_eq_true q27)) ?_
        refine q_skip (want_n rfl rfl rfl (decide_eq_true q27)) ?_
        refine q_skip (want_n rfl rfl rfl (decide_eq_true q27)) ?_
        refine q_skip (want_n rfl rfl rfl (decide_eq_true q27)) ?_
        refine q_val (v := Value.bool true) rfl (fun w' hw' => e_pick_t rfl (decide_eq_true q27) rfl) ?_
        refine q_nil ?_
        intro w17 hc18
        replace hc18 := chg_below hc18 g14
        replace hbase := hbase.chg hc18 (not_no _)
        replace r_g_v := r_g_v.chg hc18 (not_no _)
        replace r_to_v := r_to_v.chg hc18 (not_no _)
        replace bx5 := bx5.chg hc18 (not_no _)
        replace bx10 := bx10.chg hc18 (not_no _)
        refine run_cond_t rfl rfl ?_
        refine run_seq ?_
        clear bx5
        refine run_region rfl ?_
        refine l_val (v := Value.agg (List.toArray [Value.int .i64 0, Value.slice none 0 0])) rfl (e_build (vs := []) rfl (by kernel_rfl)) ?_
        refine l_op rfl ?_
        refine o_store_bx (cs' := [Value.int .i64 0, Value.slice none 0 0]) tp24_e (by exact zs4) rfl bx10 rfl (Nat.le_of_ble_eq_true rfl) (AllOne.all (.cons rfl (.cons rfl .nil))) rfl ?_
        intro w19 ch20 bx21
        replace hbase := hbase.chg ch20 (is_ne rfl)
        replace r_g_v := r_g_v.chg ch20 (is_ne rfl)
        replace r_to_v := r_to_v.chg ch20 (is_ne rfl)
        clear bx10
        refine l_val (v := Value.int .i64 2) rfl (e_assign rfl) ?_
        refine l_nil ?_
        refine run_ret (vs := [Value.agg (List.toArray [Value.int .i64 0, Value.slice none 0 0]), Value.int .i64 2]) Try.func21 (.cell (by exact zs4) (load_bxN (ds := [Value.int .i64 0, Value.slice none 0 0]) tp24_e bx21 rfl rfl) (.tmp rfl .nil)) ?_
        -- return 0
        have e0 : ((0, []) : (Int) × (List ((Int) × (Int)))) = ((movedR g to).1) := by
          first
            | (have ha : ∀ v ∈ to, 0 ≤ v ∧ v < g.1 := by rw [List.take_of_length_le (by omega)] at hinv; exact hinv
               simp only [movedR, if_pos hmay]; rw [if_pos (by omega), if_pos ha, if_pos (by assumption)]
               simp only [renR]; rw [hi1, List.take_of_length_le (by omega), List.drop_eq_nil_of_le (by omega), List.append_nil]; done)
            | (have ha : ∀ v ∈ to, 0 ≤ v ∧ v < g.1 := by rw [List.take_of_length_le (by omega)] at hinv; exact hinv
               simp only [movedR, if_pos hmay]; rw [if_pos (by omega), if_pos ha, if_pos (by assumption)]; done)
            | (have ha : ∀ v ∈ to, 0 ≤ v ∧ v < g.1 := by rw [List.take_of_length_le (by omega)] at hinv; exact hinv
               simp only [movedR, if_pos hmay]; rw [if_pos (by omega), if_pos ha, if_neg (by assumption)]; done)
            | (have ha : ¬ ∀ v ∈ to, 0 ≤ v ∧ v < g.1 := fun h => by have := h _ (gI_mem (xs := to) (i := (k : Int)) (by omega) (by assumption)); omega
               simp only [movedR, if_pos hmay]; rw [if_pos (by omega), if_neg ha]; done)
            | (simp only [movedR, if_pos hmay]; rw [if_neg (by omega)]; done)
        have e1 : (2 : Int) = ((movedR g to).2) := by
          first
            | (have ha : ∀ v ∈ to, 0 ≤ v ∧ v < g.1 := by rw [List.take_of_length_le (by omega)] at hinv; exact hinv
               simp only [movedR, if_pos hmay]; rw [if_pos (by omega), if_pos ha, if_pos (by assumption)]
               simp only [renR]; rw [hi1, List.take_of_length_le (by omega), List.drop_eq_nil_of_le (by omega), List.append_nil]; done)
            | (have ha : ∀ v ∈ to, 0 ≤ v ∧ v < g.1 := by rw [List.take_of_length_le (by omega)] at hinv; exact hinv
               simp only [movedR, if_pos hmay]; rw [if_pos (by omega), if_pos ha, if_pos (by assumption)]; done)
            | (have ha : ∀ v ∈ to, 0 ≤ v ∧ v < g.1 := by rw [List.take_of_length_le (by omega)] at hinv; exact hinv
               simp only [movedR, if_pos hmay]; rw [if_pos (by omega), if_pos ha, if_neg (by assumption)]; done)
            | (have ha : ¬ ∀ v ∈ to, 0 ≤ v ∧ v < g.1 := fun h => by have := h _ (gI_mem (xs := to) (i := (k : Int)) (by omega) (by assumption)); omega
               simp only [movedR, if_pos hmay]; rw [if_pos (by omega), if_neg ha]; done)
            | (simp only [movedR, if_pos hmay]; rw [if_neg (by omega)]; done)
        exact ⟨(fin w0 g14 (fun n => 0), (Value.slice none 0 0)), (congr2 (a := (0, [])) (b := 2) (fun (z0 : (Int) × (List ((Int) × (Int)))) (z1 : Int) => Ending.returned (Value.tuple (List.toArray [Value.agg (List.toArray [Value.int .i64 z0.1, Value.slice none 0 0]), Value.int .i64 z1]))) e0 e1), hbase.fresh _, ((congrArg (fun (z : (Int) × (List ((Int) × (Int)))) => z.2) e0) ▸ Ow.nil)⟩
      · skip
        refine q_val (v := to_v) (want_y rfl rfl rfl (decide_eq_false q27)) (fun w' hw' => e_move (by exact zs1)) ?_
        refine q_val (v := Value.int .i64 (k : Int)) (want_y rfl rfl rfl (decide_eq_false q27)) (fun w' hw' => e_move (by exact zs6)) ?_
        refine q_val (v := Value.pointer (some (eAddr to_v 1 (Int.toNat (k : Int))))) (want_y rfl rfl rfl (decide_eq_false q27)) (fun w' hw' => e_indexAddr (α := Int) (xs := to) (v := to_v) (i := (k : Int)) Try.underlying25 rfl rfl (r_to_v.bel hw') rfl (by omega) (by omega)) ?_
        refine q_val (v := Value.int .i64 (gI to (k : Int))) (want_y rfl rfl rfl (decide_eq_false q27)) (fun w' hw' => e_load_el1 (α := Int) (xs := to) (v := to_v) (i := (k : Int)) tp3_e rfl (r_to_v.bel hw') (by omega) (by omega) (by decide) rfl) ?_
        refine q_val (v := Value.pointer (some ⟨b3, 0, none⟩)) (want_y rfl rfl rfl (decide_eq_false q27)) (fun w' hw' => e_fieldAddr Try.underlying24 rfl rfl (by exact zs2) rfl) ?_
        refine q_val (v := Value.int .i64 g.1) (want_y rfl rfl rfl (decide_eq_false q27)) (fun w' hw' => e_load_bx1 tp3_e rfl (bx5.bel hw') rfl) ?_
        refine q_val (v := Value.bool (decide (g.1 ≤ (gI to (k : Int))))) (want_y rfl rfl rfl (decide_eq_false q27)) (fun w' hw' => e_geq (m := (gI to (k : Int))) (n := g.1) rfl rfl) ?_
        refine q_val (v := Value.bool (decide (g.1 ≤ (gI to (k : Int))))) rfl (fun w' hw' => e_pick_f rfl (decide_eq_false q27) rfl) ?_
        refine q_nil ?_
        intro w22 hc23
        replace hc23 := chg_below hc23 g14
        replace hbase := hbase.chg hc23 (not_no _)
        replace r_g_v := r_g_v.chg hc23 (not_no _)
        replace r_to_v := r_to_v.chg hc23 (not_no _)
        replace bx5 := bx5.chg hc23 (not_no _)
        replace bx10 := bx10.chg hc23 (not_no _)
        by_cases p7 : g.1 ≤ (gI to (k : Int))
        · skip
          refine run_cond_t rfl (decide_eq_true p7) ?_
          refine run_seq ?_
          clear bx5
          refine run_region rfl ?_
          refine l_val (v := Value.agg (List.toArray [Value.int .i64 0, Value.slice none 0 0])) rfl (e_build (vs := []) rfl (by kernel_rfl)) ?_
          refine l_op rfl ?_
          refine o_store_bx (cs' := [Value.int .i64 0, Value.slice none 0 0]) tp24_e (by exact zs4) rfl bx10 rfl (Nat.le_of_ble_eq_true rfl) (AllOne.all (.cons rfl (.cons rfl .nil))) rfl ?_
          intro w24 ch25 bx26
          replace hbase := hbase.chg ch25 (is_ne rfl)
          replace r_g_v := r_g_v.chg ch25 (is_ne rfl)
          replace r_to_v := r_to_v.chg ch25 (is_ne rfl)
          clear bx10
          refine l_val (v := Value.int .i64 2) rfl (e_assign rfl) ?_
          refine l_nil ?_
          refine run_ret (vs := [Value.agg (List.toArray [Value.int .i64 0, Value.slice none 0 0]), Value.int .i64 2]) Try.func21 (.cell (by exact zs4) (load_bxN (ds := [Value.int .i64 0, Value.slice none 0 0]) tp24_e bx26 rfl rfl) (.tmp rfl .nil)) ?_
          -- return 1
          have e0 : ((0, []) : (Int) × (List ((Int) × (Int)))) = ((movedR g to).1) := by
            first
              | (have ha : ∀ v ∈ to, 0 ≤ v ∧ v < g.1 := by rw [List.take_of_length_le (by omega)] at hinv; exact hinv
                 simp only [movedR, if_pos hmay]; rw [if_pos (by omega), if_pos ha, if_pos (by assumption)]
                 simp only [renR]; rw [hi1, List.take_of_length_le (by omega), List.drop_eq_nil_of_le (by omega), List.append_nil]; done)
              | (have ha : ∀ v ∈ to, 0 ≤ v ∧ v < g.1 := by rw [List.take_of_length_le (by omega)] at hinv; exact hinv
                 simp only [movedR, if_pos hmay]; rw [if_pos (by omega), if_pos ha, if_pos (by assumption)]; done)
              | (have ha : ∀ v ∈ to, 0 ≤ v ∧ v < g.1 := by rw [List.take_of_length_le (by omega)] at hinv; exact hinv
                 simp only [movedR, if_pos hmay]; rw [if_pos (by omega), if_pos ha, if_neg (by assumption)]; done)
              | (have ha : ¬ ∀ v ∈ to, 0 ≤ v ∧ v < g.1 := fun h => by have := h _ (gI_mem (xs := to) (i := (k : Int)) (by omega) (by assumption)); omega
                 simp only [movedR, if_pos hmay]; rw [if_pos (by omega), if_neg ha]; done)
              | (simp only [movedR, if_pos hmay]; rw [if_neg (by omega)]; done)
          have e1 : (2 : Int) = ((movedR g to).2) := by
            first
              | (have ha : ∀ v ∈ to, 0 ≤ v ∧ v < g.1 := by rw [List.take_of_length_le (by omega)] at hinv; exact hinv
                 simp only [movedR, if_pos hmay]; rw [if_pos (by omega), if_pos ha, if_pos (by assumption)]
                 simp only [renR]; rw [hi1, List.take_of_length_le (by omega), List.drop_eq_nil_of_le (by omega), List.append_nil]; done)
              | (have ha : ∀ v ∈ to, 0 ≤ v ∧ v < g.1 := by rw [List.take_of_length_le (by omega)] at hinv; exact hinv
                 simp only [movedR, if_pos hmay]; rw [if_pos (by omega), if_pos ha, if_pos (by assumption)]; done)
              | (have ha : ∀ v ∈ to, 0 ≤ v ∧ v < g.1 := by rw [List.take_of_length_le (by omega)] at hinv; exact hinv
                 simp only [movedR, if_pos hmay]; rw [if_pos (by omega), if_pos ha, if_neg (by assumption)]; done)
              | (have ha : ¬ ∀ v ∈ to, 0 ≤ v ∧ v < g.1 := fun h => by have := h _ (gI_mem (xs := to) (i := (k : Int)) (by omega) (by assumption)); omega
                 simp only [movedR, if_pos hmay]; rw [if_pos (by omega), if_neg ha]; done)
              | (simp only [movedR, if_pos hmay]; rw [if_neg (by omega)]; done)
          exact ⟨(fin w0 g14 (fun n => 0), (Value.slice none 0 0)), (congr2 (a := (0, [])) (b := 2) (fun (z0 : (Int) × (List ((Int) × (Int)))) (z1 : Int) => Ending.returned (Value.tuple (List.toArray [Value.agg (List.toArray [Value.int .i64 z0.1, Value.slice none 0 0]), Value.int .i64 z1]))) e0 e1), hbase.fresh _, ((congrArg (fun (z : (Int) × (List ((Int) × (Int)))) => z.2) e0) ▸ Ow.nil)⟩
        · skip
          refine run_cond_f rfl (decide_eq_false p7) ?_
          refine run_skip ?_
          refine run_inBlock ?_
          refine run_region rfl ?_
          refine l_val (v := Value.int .i64 (k : Int)) rfl (e_move (by exact zs6)) ?_
          refine l_val (v := Value.int .i64 ((k : Int) + 1)) rfl (e_add (m := (k : Int)) (n := 1) rfl rfl (by omega)) ?_
          refine l_val (v := Value.int .i64 ((k : Int) + 1)) rfl (e_assign rfl) ?_
          refine l_nil ?_
          refine back4 (k + 1, g14) _ _ ⟨hbase, (by exact zs1), (by exact zs2), (by exact zs4), rfl, r_g_v, r_to_v, bx5, bx10, by omega, ?_⟩ ?_
          · show ∀ v ∈ List.take (k + 1) to, 0 ≤ v ∧ v < g.1
            rw [take_succ_gI (by assumption)]
            intro v hv
            rcases List.mem_append.1 hv with h | h
            · exact hinv v h
            · obtain rfl := List.mem_singleton.1 h
              omega
          · show Int.toNat (((List.length to : Int) : Int) - ((k + 1) : Int)) < Int.toNat (((List.length to : Int) : Int) - (k : Int))
            omega
    · skip
      refine run_cond_f rfl (decide_eq_false p4) ?_
      refine run_exit rfl ?_
      refine run_seq ?_
      refine run_region rfl ?_
      refine l_val (v := to_v) rfl (e_move (by exact zs1)) ?_
      refine l_val (v := Value.pointer (some ⟨b3, 0, none⟩)) rfl (e_fieldAddr Try.underlying24 rfl rfl (by exact zs2) rfl) ?_
      refine l_val (v := Value.int .i64 g.1) rfl (e_load_bx1 tp3_e rfl bx5 rfl) ?_
      refine l_op rfl ?_
      refine o_call (v := Value.int .i64 (chosenS to g.1)) (e_call (vals := [to_v, Value.int .i64 g.1]) Try.func40 bd40_e nm40_e rfl) (rChosen_ok w13 to to_v (r_to_v).ro g.1) ?_
      intro w27 hb28
      replace hb28 := chg_below hb28 g14
      replace hbase := hbase.chg hb28 (not_no _)
      replace r_g_v := r_g_v.chg hb28 (not_no _)
      replace r_to_v := r_to_v.chg hb28 (not_no _)
      replace bx5 := bx5.chg hb28 (not_no _)
      replace bx10 := bx10.chg hb28 (not_no _)
      refine l_val (v := Value.int .i64 (chosenS to g.1)) rfl (e_assign rfl) ?_
      refine l_nil ?_
      refine run_seq ?_
      refine run_seq ?_
      refine run_region rfl ?_
      refine l_val (v := Value.int .i64 (chosenS to g.1)) rfl (e_move rfl) ?_
      refine l_val (v := Value.bool (!(decide ((chosenS to g.1) = 0)))) rfl (e_neq (m := chosenS to g.1) (n := 0) rfl rfl) ?_
      refine l_nil ?_
      by_cases p9 : (chosenS to g.1) = 0
      · skip
        refine run_cond_f rfl (congrArg Bool.not (decide_eq_true p9)) ?_
        refine run_skip ?_
        refine run_seq ?_
        refine run_region rfl ?_
        refine l_val (v := Value.agg (List.toArray [Value.int .i64 g.1, g_v])) rfl (e_load_bxN (ds := [Value.int .i64 g.1, g_v]) tp24_e (by exact zs2) bx5 rfl rfl) ?_
        refine l_op rfl ?_
        refine o_callx (e_call (vals := [Value.agg (List.toArray [Value.int .i64 g.1, g_v])]) Try.func41 bd41_e nm41_e rfl) (rCopy_ok w27 g g_v (r_g_v).ro (by first | assumption | omega)) ?_
        rintro ⟨d30, v32⟩ w29 ⟨fr31, o33⟩
        obtain ⟨g34, hg34⟩ : ∃ q, q = glue w27.heap.size g14 d30 (fun n => if n = 1 then 3 else 0) := ⟨_, rfl⟩
        have ch35 := chg_glue fr31.below g14 d30 (fun n => if n = 1 then 3 else 0)
        rw [← hg34] at ch35
        replace hbase := hbase.chg ch35 (not_no _)
        replace r_g_v := r_g_v.chg ch35 (not_no _)
        replace r_to_v := r_to_v.chg ch35 (not_no _)
        replace bx5 := bx5.chg ch35 (not_no _)
        replace bx10 := bx10.chg ch35 (not_no _)
        replace o33 := o33.glue (γ := g14) (ren := (fun n => if n = 1 then 3 else 0)) (k := 3) fr31.col rfl rfl
        rw [← hg34] at o33
        clear hg34
        refine l_op rfl ?_
        refine o_alloc g34 (is 4) (4, 0) rfl tp24_e ?_
        intro g39 w36 b38 ch37 bx40
        replace hbase := hbase.chg ch37 (not_no _)
        replace r_g_v := r_g_v.chg ch37 (not_no _)
        replace r_to_v := r_to_v.chg ch37 (not_no _)
        replace bx5 := bx5.chg ch37 (not_no _)
        replace bx10 := bx10.chg ch37 (not_no _)
        replace o33 := o33.chg ch37 (not_no _) (not_no _)
        replace bx40 : Bx g39 (is 4) w36 b38 [Value.int .i64 0, Value.slice none 0 0] := bx40
        refine l_op rfl ?_
        refine o_store_bx (cs' := [Value.int .i64 g.1, v32]) tp24_e rfl rfl bx40 rfl (Nat.le_of_ble_eq_true rfl) (AllOne.all (.cons rfl (.cons (sl_one o33.flat) .nil))) rfl ?_
        intro w41 ch42 bx43
        replace hbase := hbase.chg ch42 (is_ne rfl)
        replace r_g_v := r_g_v.chg ch42 (is_ne rfl)
        replace r_to_v := r_to_v.chg ch42 (is_ne rfl)
        replace bx5 := bx5.chg ch42 (is_ne rfl)
        replace bx10 := bx10.chg ch42 (is_ne rfl)
        replace o33 := o33.chg ch42 (is_ne rfl) (is_ne rfl)
        clear bx40
        refine l_nil ?_
        refine run_seq ?_
        refine run_seq ?_
        refine run_region rfl ?_
        refine l_val (v := Value.int .i64 0) rfl (e_assign rfl) ?_
        refine l_nil ?_
        refine run_block ?_
        refine run_loop (σ := Nat × (List ((Int) × (Int))) × Cmap) (fun ⟨i, l_v32, gq⟩ f w => Base w0 gq w ∧ f 1 = to_v ∧ f 2 = Value.pointer (some ⟨b3, 0, none⟩) ∧ f 4 = Value.pointer (some ⟨b8, 0, none⟩) ∧ f 8 = Value.pointer (some ⟨b38, 0, none⟩) ∧ f 9 = Value.int .i64 (i : Int) ∧ Sl gq (is 0) w g_v g.2 ∧ Sl gq (is 0) w to_v to ∧ Bx gq (is 1) w b3 [Value.int .i64 g.1, g_v] ∧ Bx gq (is 2) w b8 [Value.int .i64 0, Value.slice none 0 0] ∧ Ow gq (is 3) (is 3) w v32 l_v32 ∧ Bx gq (is 4) w b38 [Value.int .i64 g.1, v32] ∧ (l_v32 = (List.take i g.2).map (renS to) ++ List.drop i g.2 ∧ i ≤ g.2.length)) (fun ⟨i, l_v32, gq⟩ => g.2.length - i) (0, g.2, g39) ?_ ?_
        · exact ⟨hbase, (by exact zs1), (by exact zs2), (by exact zs4), rfl, rfl, r_g_v, r_to_v, bx5, bx10, o33, bx43, by simp⟩
        clear r_g_v
        clear r_to_v
        clear bx5
        clear bx10
        clear o33
        clear bx43
        clear hbase
        rintro ⟨i, l_v32, g46⟩ f44 w45 ⟨hbase, zs1, zs2, zs4, zs8, zs9, r_g_v, r_to_v, bx5, bx10, o33, bx43, hinv1⟩ back13
        have hi1 := hinv1.1
        have hi2 := hinv1.2
        have hlen : l_v32.length = g.2.length := by rw [hi1]; exact ren_len (by omega)
        refine run_seq ?_
        refine run_seq ?_
        refine run_region rfl ?_
        refine l_val (v := Value.int .i64 (i : Int)) rfl (e_move (by exact zs9)) ?_
        refine l_val (v := Value.pointer (some ⟨b38, 1, none⟩)) rfl (e_fieldAddr Try.underlying24 rfl rfl (by exact zs8) rfl) ?_
        refine l_val (v := v32) rfl (e_load_bx1 tp22_e rfl bx43 rfl) ?_
        have len47 := (o33.flat).small
        refine l_val (v := Value.int .i64 (List.length l_v32 : Int)) rfl (e_len Try.underlying22 rfl o33.flat) ?_
        refine l_val (v := Value.bool (decide ((i : Int) < (List.length l_v32 : Int)))) rfl (e_lss (m := (i : Int)) (n := (List.length l_v32 : Int)) rfl rfl) ?_
        refine l_nil ?_
        by_cases p13 : (i : Int) < (List.length l_v32 : Int)
        · skip
          refine run_cond_t rfl (decide_eq_true p13) ?_
          obtain ⟨⟨he1, he2⟩, he3, he4⟩ := hm4 _ (gI_mem (xs := g.2) (i := (i : Int)) (by omega) (by omega))
          refine run_skip ?_
          refine run_seq ?_
          refine run_block ?_
          refine run_region_x g46 [0, 1, 2, 3, 4, 5, 6, 7, 8, 9, 10, 11, 12, 13, 14, 15, 16, 17, 18, 19, 20, 21, 22] mixed_e ?_
          intro w49 ch48
          replace hbase := hbase.chg ch48 (not_no _)
          replace r_g_v := r_g_v.chg ch48 (not_no _)
          replace r_to_v := r_to_v.chg ch48 (not_no _)
          replace bx5 := bx5.chg ch48 (not_no _)
          replace bx10 := bx10.chg ch48 (not_no _)
          replace o33 := o33.chg ch48 (not_no _) (not_no _)
          replace bx43 := bx43.chg ch48 (not_no _)
          refine x_pure (v := Value.pointer (some ⟨b38, 1, none⟩)) 0 rfl (by kernel_rfl) (by kernel_rfl) rfl (fun w => e_fieldAddr Try.underlying24 rfl rfl (by exact zs8) rfl) ?_
          refine x_val (v := v32) 1 [0, 2, 3, 4, 6, 12, 13, 15, 5, 14, 7, 16, 8, 17, 9, 18, 10, 19, 11, 20, 21] rfl (by kernel_rfl) (by kernel_rfl) rfl (e_load_bx1 tp22_e rfl bx43 rfl) ?_
          refine x_pure (v := Value.int .i64 (i : Int)) 2 rfl (by kernel_rfl) (by kernel_rfl) rfl (fun w => e_move (by exact zs9)) ?_
          refine x_pure (v := to_v) 3 rfl (by kernel_rfl) (by kernel_rfl) rfl (fun w => e_move (by exact zs1)) ?_
          refine x_pure (v := Value.pointer (some ⟨b3, 1, none⟩)) 4 rfl (by kernel_rfl) (by kernel_rfl) rfl (fun w => e_fieldAddr Try.underlying24 rfl rfl (by exact zs2) rfl) ?_
          refine x_val (v := g_v) 5 [4, 3, 2, 1, 0, 6, 12, 13, 15, 14, 16, 17, 18, 19, 20] rfl (by kernel_rfl) (by kernel_rfl) rfl (e_load_bx1 tp22_e rfl bx5 rfl) ?_
          refine x_pure (v := Value.int .i64 (i : Int)) 6 rfl (by kernel_rfl) (by kernel_rfl) rfl (fun w => e_move (by exact zs9)) ?_
          refine x_val (v := Value.pointer (some (eAddr g_v 2 (Int.toNat (i : Int))))) 7 [6, 5, 4, 3, 2, 1, 0, 12, 13, 15, 14, 16, 17, 18, 19, 20] rfl (by kernel_rfl) (by kernel_rfl) rfl (e_indexAddr (α := (Int) × (Int)) (xs := g.2) (v := g_v) (i := (i : Int)) Try.underlying22 rfl rfl r_g_v rfl (by omega) (by omega)) ?_
          refine x_val (v := Value.pointer (some ⟨(eAddr g_v 2 (Int.toNat (i : Int))).block, (eAddr g_v 2 (Int.toNat (i : Int))).off + 0, none⟩)) 8 [7, 6, 5, 4, 3, 2, 1, 0, 12, 13, 15, 14, 16, 17, 18, 19, 20] rfl (by kernel_rfl) (by kernel_rfl) rfl (e_indexAddr_el Try.underlying60 rfl rfl rfl (by decide) (by decide) rfl) ?_
          refine x_val (v := Value.int .i64 ((gI g.2 (i : Int)).1)) 9 [8, 7, 6, 5, 4, 3, 2, 1, 0, 12, 13, 15, 14, 16, 17, 18, 19, 20] rfl (by kernel_rfl) (by kernel_rfl) rfl (e_load_elF (α := (Int) × (Int)) (xs := g.2) (v := g_v) (i := (i : Int)) tp3_e rfl r_g_v (by omega) (by omega) (by decide) rfl) ?_
          refine x_val (v := Value.pointer (some (eAddr to_v 1 (Int.toNat ((gI g.2 (i : Int)).1))))) 10 [9, 8, 7, 6, 5, 4, 3, 2, 1, 0, 12, 13, 15, 14, 16, 17, 18, 19, 20] rfl (by kernel_rfl) (by kernel_rfl) rfl (e_indexAddr (α := Int) (xs := to) (v := to_v) (i := (gI g.2 (i : Int)).1) Try.underlying25 rfl rfl r_to_v rfl (by omega) (by omega)) ?_
          refine x_val (v := Value.int .i64 (gI to ((gI g.2 (i : Int)).1))) 11 [10, 9, 8, 7, 6, 5, 4, 3, 2, 1, 0, 12, 13, 15, 14, 16, 17, 18, 19, 20] rfl (by kernel_rfl) (by kernel_rfl) rfl (e_load_el1 (α := Int) (xs := to) (v := to_v) (i := (gI g.2 (i : Int)).1) tp3_e rfl r_to_v (by omega) (by omega) (by decide) rfl) ?_
          refine x_pure (v := to_v) 12 rfl (by kernel_rfl) (by kernel_rfl) rfl (fun w => e_move (by exact zs1)) ?_
          refine x_pure (v := Value.pointer (some ⟨b3, 1, none⟩)) 13 rfl (by kernel_rfl) (by kernel_rfl) rfl (fun w => e_fieldAddr Try.underlying24 rfl rfl (by exact zs2) rfl) ?_
          refine x_val (v := g_v) 14 [13, 12, 11, 10, 9, 8, 7, 6, 5, 4, 3, 2, 1, 0, 15] rfl (by kernel_rfl) (by kernel_rfl) rfl (e_load_bx1 tp22_e rfl bx5 rfl) ?_
          refine x_pure (v := Value.int .i64 (i : Int)) 15 rfl (by kernel_rfl) (by kernel_rfl) rfl (fun w => e_move (by exact zs9)) ?_
          refine x_val (v := Value.pointer (some (eAddr g_v 2 (Int.toNat (i : Int))))) 16 [15, 14, 13, 12, 11, 10, 9, 8, 7, 6, 5, 4, 3, 2, 1, 0] rfl (by kernel_rfl) (by kernel_rfl) rfl (e_indexAddr (α := (Int) × (Int)) (xs := g.2) (v := g_v) (i := (i : Int)) Try.underlying22 rfl rfl r_g_v rfl (by omega) (by omega)) ?_
          refine x_val (v := Value.pointer (some ⟨(eAddr g_v 2 (Int.toNat (i : Int))).block, (eAddr g_v 2 (Int.toNat (i : Int))).off + 1, none⟩)) 17 [16, 15, 14, 13, 12, 11, 10, 9, 8, 7, 6, 5, 4, 3, 2, 1, 0] rfl (by kernel_rfl) (by kernel_rfl) rfl (e_indexAddr_el Try.underlying60 rfl rfl rfl (by decide) (by decide) rfl) ?_
          refine x_val (v := Value.int .i64 ((gI g.2 (i : Int)).2)) 18 [17, 16, 15, 14, 13, 12, 11, 10, 9, 8, 7, 6, 5, 4, 3, 2, 1, 0] rfl (by kernel_rfl) (by kernel_rfl) rfl (e_load_elF (α := (Int) × (Int)) (xs := g.2) (v := g_v) (i := (i : Int)) tp3_e rfl r_g_v (by omega) (by omega) (by decide) rfl) ?_
          refine x_val (v := Value.pointer (some (eAddr to_v 1 (Int.toNat ((gI g.2 (i : Int)).2))))) 19 [18, 17, 16, 15, 14, 13, 12, 11, 10, 9, 8, 7, 6, 5, 4, 3, 2, 1, 0] rfl (by kernel_rfl) (by kernel_rfl) rfl (e_indexAddr (α := Int) (xs := to) (v := to_v) (i := (gI g.2 (i : Int)).2) Try.underlying25 rfl rfl r_to_v rfl (by omega) (by omega)) ?_
          refine x_val (v := Value.int .i64 (gI to ((gI g.2 (i : Int)).2))) 20 [19, 18, 17, 16, 15, 14, 13, 12, 11, 10, 9, 8, 7, 6, 5, 4, 3, 2, 1, 0] rfl (by kernel_rfl) (by kernel_rfl) rfl (e_load_el1 (α := Int) (xs := to) (v := to_v) (i := (gI g.2 (i : Int)).2) tp3_e rfl r_to_v (by omega) (by omega) (by decide) rfl) ?_
          refine x_pure (v := Value.agg (List.toArray [Value.int .i64 (gI to ((gI g.2 (i : Int)).1)), Value.int .i64 (gI to ((gI g.2 (i : Int)).2))])) 21 rfl (by kernel_rfl) (by kernel_rfl) rfl (fun w => e_build (vs := [(0, Value.int .i64 (gI to ((gI g.2 (i : Int)).1))), (1, Value.int .i64 (gI to ((gI g.2 (i : Int)).2)))]) rfl (by kernel_rfl)) ?_
          refine x_val (v := Value.pointer (some (eAddr v32 2 (Int.toNat (i : Int))))) 22 [21, 20, 19, 18, 17, 16, 15, 14, 13, 12, 11, 10, 9, 8, 7, 6, 5, 4, 3, 2, 1, 0] rfl (by kernel_rfl) (by kernel_rfl) rfl (e_indexAddr (α := (Int) × (Int)) (xs := l_v32) (v := v32) (i := (i : Int)) Try.underlying22 rfl rfl o33.flat rfl (by omega) (by omega)) ?_
          refine x_one 23 rfl (by kernel_rfl) rfl ?_
          refine o_store_el (i := (i : Int)) ((gI to ((gI g.2 (i : Int)).1)), (gI to ((gI g.2 (i : Int)).2))) tp60_e rfl rfl o33 (by omega) (by omega) rfl ?_
          intro w50 ch51 bx52
          replace hbase := hbase.chg ch51 (is_ne rfl)
          replace r_g_v := r_g_v.chg ch51 (is_ne rfl)
          replace r_to_v := r_to_v.chg ch51 (is_ne rfl)
          replace bx5 := bx5.chg ch51 (is_ne rfl)
          replace bx10 := bx10.chg ch51 (is_ne rfl)
          replace bx43 := bx43.chg ch51 (is_ne rfl)
          clear o33
          refine x_nil (by kernel_rfl) ?_
          refine run_inBlock ?_
          refine run_region rfl ?_
          refine l_val (v := Value.int .i64 (i : Int)) rfl (e_move (by exact zs9)) ?_
          refine l_val (v := Value.int .i64 ((i : Int) + 1)) rfl (e_add (m := (i : Int)) (n := 1) rfl rfl (by omega)) ?_
          refine l_val (v := Value.int .i64 ((i : Int) + 1)) rfl (e_assign rfl) ?_
          refine l_nil ?_
          refine back13 (i + 1, (List.set l_v32 (Int.toNat (i : Int)) ((gI to ((gI g.2 (i : Int)).1)), (gI to ((gI g.2 (i : Int)).2)))), g46) _ _ ⟨hbase, (by exact zs1), (by exact zs2), (by exact zs4), (by exact zs8), rfl, r_g_v, r_to_v, bx5, bx10, bx52, bx43, ?_⟩ ?_
          · show (List.set l_v32 (Int.toNat (i : Int)) ((gI to ((gI g.2 (i : Int)).1)), (gI to ((gI g.2 (i : Int)).2)))) = (List.take (i + 1) g.2).map (renS to) ++ List.drop (i + 1) g.2 ∧ (i + 1) ≤ g.2.length
            refine ⟨?_, by omega⟩
            rw [hi1]
            exact ren_next (by omega) rfl rfl
          · show g.2.length - (i + 1) < g.2.length - i
            omega
        · skip
          refine run_cond_f rfl (decide_eq_false p13) ?_
          refine run_exit rfl ?_
          refine run_seq ?_
          clear bx5
          refine run_region rfl ?_
          refine l_val (v := Value.agg (List.toArray [Value.int .i64 g.1, v32])) rfl (e_load_bxN (ds := [Value.int .i64 g.1, v32]) tp24_e (by exact zs8) bx43 rfl rfl) ?_
          refine l_op rfl ?_
          refine o_store_bx (cs' := [Value.int .i64 g.1, v32]) tp24_e (by exact zs4) rfl bx10 rfl (Nat.le_of_ble_eq_true rfl) (AllOne.all (.cons rfl (.cons (sl_one o33.flat) .nil))) rfl ?_
          intro w53 ch54 bx55
          replace hbase := hbase.chg ch54 (is_ne rfl)
          replace r_g_v := r_g_v.chg ch54 (is_ne rfl)
          replace r_to_v := r_to_v.chg ch54 (is_ne rfl)
          replace o33 := o33.chg ch54 (is_ne rfl) (is_ne rfl)
          replace bx43 := bx43.chg ch54 (is_ne rfl)
          clear bx10
          refine l_val (v := Value.int .i64 0) rfl (e_assign rfl) ?_
          refine l_nil ?_
          refine run_ret (vs := [Value.agg (List.toArray [Value.int .i64 g.1, v32]), Value.int .i64 0]) Try.func21 (.cell (by exact zs4) (load_bxN (ds := [Value.int .i64 g.1, v32]) tp24_e bx55 rfl rfl) (.tmp rfl .nil)) ?_
          -- return 2
          have e0 : ((g.1, l_v32) : (Int) × (List ((Int) × (Int)))) = ((movedR g to).1) := by
            first
              | (have ha : ∀ v ∈ to, 0 ≤ v ∧ v < g.1 := by rw [List.take_of_length_le (by omega)] at hinv; exact hinv
                 simp only [movedR, if_pos hmay]; rw [if_pos (by omega), if_pos ha, if_pos (by assumption)]
                 simp only [renR]; rw [hi1, List.take_of_length_le (by omega), List.drop_eq_nil_of_le (by omega), List.append_nil]; done)
              | (have ha : ∀ v ∈ to, 0 ≤ v ∧ v < g.1 := by rw [List.take_of_length_le (by omega)] at hinv; exact hinv
                 simp only [movedR, if_pos hmay]; rw [if_pos (by omega), if_pos ha, if_pos (by assumption)]; done)
              | (have ha : ∀ v ∈ to, 0 ≤ v ∧ v < g.1 := by rw [List.take_of_length_le (by omega)] at hinv; exact hinv
                 simp only [movedR, if_pos hmay]; rw [if_pos (by omega), if_pos ha, if_neg (by assumption)]; done)
              | (have ha : ¬ ∀ v ∈ to, 0 ≤ v ∧ v < g.1 := fun h => by have := h _ (gI_mem (xs := to) (i := (k : Int)) (by omega) (by assumption)); omega
                 simp only [movedR, if_pos hmay]; rw [if_pos (by omega), if_neg ha]; done)
              | (simp only [movedR, if_pos hmay]; rw [if_neg (by omega)]; done)
          have e1 : (0 : Int) = ((movedR g to).2) := by
            first
              | (have ha : ∀ v ∈ to, 0 ≤ v ∧ v < g.1 := by rw [List.take_of_length_le (by omega)] at hinv; exact hinv
                 simp only [movedR, if_pos hmay]; rw [if_pos (by omega), if_pos ha, if_pos (by assumption)]
                 simp only [renR]; rw [hi1, List.take_of_length_le (by omega), List.drop_eq_nil_of_le (by omega), List.append_nil]; done)
              | (have ha : ∀ v ∈ to, 0 ≤ v ∧ v < g.1 := by rw [List.take_of_length_le (by omega)] at hinv; exact hinv
                 simp only [movedR, if_pos hmay]; rw [if_pos (by omega), if_pos ha, if_pos (by assumption)]; done)
              | (have ha : ∀ v ∈ to, 0 ≤ v ∧ v < g.1 := by rw [List.take_of_length_le (by omega)] at hinv; exact hinv
                 simp only [movedR, if_pos hmay]; rw [if_pos (by omega), if_pos ha, if_neg (by assumption)]; done)
              | (have ha : ¬ ∀ v ∈ to, 0 ≤ v ∧ v < g.1 := fun h => by have := h _ (gI_mem (xs := to) (i := (k : Int)) (by omega) (by assumption)); omega
                 simp only [movedR, if_pos hmay]; rw [if_pos (by omega), if_neg ha]; done)
              | (simp only [movedR, if_pos hmay]; rw [if_neg (by omega)]; done)
          exact ⟨(fin w0 g46 (fun n => if n = 3 then 1 else 0), v32), (congr2 (a := (g.1, l_v32)) (b := 0) (fun (z0 : (Int) × (List ((Int) × (Int)))) (z1 : Int) => Ending.returned (Value.tuple (List.toArray [Value.agg (List.toArray [Value.int .i64 z0.1, v32]), Value.int .i64 z1]))) e0 e1), hbase.fresh _, ((congrArg (fun (z : (Int) × (List ((Int) × (Int)))) => z.2) e0) ▸ (o33.glue (γ := c0) (ren := (fun n => if n = 3 then 1 else 0)) (k := 1) hbase.col rfl rfl))⟩
      · skip
        refine run_cond_t rfl (congrArg Bool.not (decide_eq_false p9)) ?_
        refine run_seq ?_
        clear bx5
        refine run_region rfl ?_
        refine l_val (v := Value.agg (List.toArray [Value.int .i64 0, Value.slice none 0 0])) rfl (e_build (vs := []) rfl (by kernel_rfl)) ?_
        refine l_val (v := Value.int .i64 (chosenS to g.1)) rfl (e_move rfl) ?_
        refine l_op rfl ?_
        refine o_store_bx (cs' := [Value.int .i64 0, Value.slice none 0 0]) tp24_e (by exact zs4) rfl bx10 rfl (Nat.le_of_ble_eq_true rfl) (AllOne.all (.cons rfl (.cons rfl .nil))) rfl ?_
        intro w56 ch57 bx58
        replace hbase := hbase.chg ch57 (is_ne rfl)
        replace r_g_v := r_g_v.chg ch57 (is_ne rfl)
        replace r_to_v := r_to_v.chg ch57 (is_ne rfl)
        clear bx10
        refine l_val (v := Value.int .i64 (chosenS to g.1)) rfl (e_assign rfl) ?_
        refine l_nil ?_
        refine run_ret (vs := [Value.agg (List.toArray [Value.int .i64 0, Value.slice none 0 0]), Value.int .i64 (chosenS to g.1)]) Try.func21 (.cell (by exact zs4) (load_bxN (ds := [Value.int .i64 0, Value.slice none 0 0]) tp24_e bx58 rfl rfl) (.tmp rfl .nil)) ?_
        -- return 3
        have e0 : ((0, []) : (Int) × (List ((Int) × (Int)))) = ((movedR g to).1) := by
          first
            | (have ha : ∀ v ∈ to, 0 ≤ v ∧ v < g.1 := by rw [List.take_of_length_le (by omega)] at hinv; exact hinv
               simp only [movedR, if_pos hmay]; rw [if_pos (by omega), if_pos ha, if_pos (by assumption)]
               simp only [renR]; rw [hi1, List.take_of_length_le (by omega), List.drop_eq_nil_of_le (by omega), List.append_nil]; done)
            | (have ha : ∀ v ∈ to, 0 ≤ v ∧ v < g.1 := by rw [List.take_of_length_le (by omega)] at hinv; exact hinv
               simp only [movedR, if_pos hmay]; rw [if_pos (by omega), if_pos ha, if_pos (by assumption)]; done)
            | (have ha : ∀ v ∈ to, 0 ≤ v ∧ v < g.1 := by rw [List.take_of_length_le (by omega)] at hinv; exact hinv
               simp only [movedR, if_pos hmay]; rw [if_pos (by omega), if_pos ha, if_neg (by assumption)]; done)
            | (have ha : ¬ ∀ v ∈ to, 0 ≤ v ∧ v < g.1 := fun h => by have := h _ (gI_mem (xs := to) (i := (k : Int)) (by omega) (by assumption)); omega
               simp only [movedR, if_pos hmay]; rw [if_pos (by omega), if_neg ha]; done)
            | (simp only [movedR, if_pos hmay]; rw [if_neg (by omega)]; done)
        have e1 : (chosenS to g.1 : Int) = ((movedR g to).2) := by
          first
            | (have ha : ∀ v ∈ to, 0 ≤ v ∧ v < g.1 := by rw [List.take_of_length_le (by omega)] at hinv; exact hinv
               simp only [movedR, if_pos hmay]; rw [if_pos (by omega), if_pos ha, if_pos (by assumption)]
               simp only [renR]; rw [hi1, List.take_of_length_le (by omega), List.drop_eq_nil_of_le (by omega), List.append_nil]; done)
            | (have ha : ∀ v ∈ to, 0 ≤ v ∧ v < g.1 := by rw [List.take_of_length_le (by omega)] at hinv; exact hinv
               simp only [movedR, if_pos hmay]; rw [if_pos (by omega), if_pos ha, if_pos (by assumption)]; done)
            | (have ha : ∀ v ∈ to, 0 ≤ v ∧ v < g.1 := by rw [List.take_of_length_le (by omega)] at hinv; exact hinv
               simp only [movedR, if_pos hmay]; rw [if_pos (by omega), if_pos ha, if_neg (by assumption)]; done)
            | (have ha : ¬ ∀ v ∈ to, 0 ≤ v ∧ v < g.1 := fun h => by have := h _ (gI_mem (xs := to) (i := (k : Int)) (by omega) (by assumption)); omega
               simp only [movedR, if_pos hmay]; rw [if_pos (by omega), if_neg ha]; done)
            | (simp only [movedR, if_pos hmay]; rw [if_neg (by omega)]; done)
        exact ⟨(fin w0 g14 (fun n => 0), (Value.slice none 0 0)), (congr2 (a := (0, [])) (b := chosenS to g.1) (fun (z0 : (Int) × (List ((Int) × (Int)))) (z1 : Int) => Ending.returned (Value.tuple (List.toArray [Value.agg (List.toArray [Value.int .i64 z0.1, Value.slice none 0 0]), Value.int .i64 z1]))) e0 e1), hbase.fresh _, ((congrArg (fun (z : (Int) × (List ((Int) × (Int)))) => z.2) e0) ▸ Ow.nil)⟩
  · skip
    refine run_cond_t rfl (congrArg Bool.not (decide_eq_false p1)) ?_
    refine run_seq ?_
    clear bx5
    refine run_region rfl ?_
    refine l_val (v := Value.agg (List.toArray [Value.int .i64 0, Value.slice none 0 0])) rfl (e_build (vs := []) rfl (by kernel_rfl)) ?_
    refine l_op rfl ?_
    refine o_store_bx (cs' := [Value.int .i64 0, Value.slice none 0 0]) tp24_e rfl rfl bx10 rfl (Nat.le_of_ble_eq_true rfl) (AllOne.all (.cons rfl (.cons rfl .nil))) rfl ?_
    intro w59 ch60 bx61
    replace hbase := hbase.chg ch60 (is_ne rfl)
    replace r_g_v := r_g_v.chg ch60 (is_ne rfl)
    replace r_to_v := r_to_v.chg ch60 (is_ne rfl)
    clear bx10
    refine l_val (v := Value.int .i64 2) rfl (e_assign rfl) ?_
    refine l_nil ?_
    refine run_ret (vs := [Value.agg (List.toArray [Value.int .i64 0, Value.slice none 0 0]), Value.int .i64 2]) Try.func21 (.cell rfl (load_bxN (ds := [Value.int .i64 0, Value.slice none 0 0]) tp24_e bx61 rfl rfl) (.tmp rfl .nil)) ?_
    -- return 4
    have e0 : ((0, []) : (Int) × (List ((Int) × (Int)))) = ((movedR g to).1) := by
      first
        | (have ha : ∀ v ∈ to, 0 ≤ v ∧ v < g.1 := by rw [List.take_of_length_le (by omega)] at hinv; exact hinv
           simp only [movedR, if_pos hmay]; rw [if_pos (by omega), if_pos ha, if_pos (by assumption)]
           simp only [renR]; rw [hi1, List.take_of_length_le (by omega), List.drop_eq_nil_of_le (by omega), List.append_nil]; done)
        | (have ha : ∀ v ∈ to, 0 ≤ v ∧ v < g.1 := by rw [List.take_of_length_le (by omega)] at hinv; exact hinv
           simp only [movedR, if_pos hmay]; rw [if_pos (by omega), if_pos ha, if_pos (by assumption)]; done)
        | (have ha : ∀ v ∈ to, 0 ≤ v ∧ v < g.1 := by rw [List.take_of_length_le (by omega)] at hinv; exact hinv
           simp only [movedR, if_pos hmay]; rw [if_pos (by omega), if_pos ha, if_neg (by assumption)]; done)
        | (have ha : ¬ ∀ v ∈ to, 0 ≤ v ∧ v < g.1 := fun h => by have := h _ (gI_mem (xs := to) (i := (k : Int)) (by omega) (by assumption)); omega
           simp only [movedR, if_pos hmay]; rw [if_pos (by omega), if_neg ha]; done)
        | (simp only [movedR, if_pos hmay]; rw [if_neg (by omega)]; done)
    have e1 : (2 : Int) = ((movedR g to).2) := by
      first
        | (have ha : ∀ v ∈ to, 0 ≤ v ∧ v < g.1 := by rw [List.take_of_length_le (by omega)] at hinv; exact hinv
           simp only [movedR, if_pos hmay]; rw [if_pos (by omega), if_pos ha, if_pos (by assumption)]
           simp only [renR]; rw [hi1, List.take_of_length_le (by omega), List.drop_eq_nil_of_le (by omega), List.append_nil]; done)
        | (have ha : ∀ v ∈ to, 0 ≤ v ∧ v < g.1 := by rw [List.take_of_length_le (by omega)] at hinv; exact hinv
           simp only [movedR, if_pos hmay]; rw [if_pos (by omega), if_pos ha, if_pos (by assumption)]; done)
        | (have ha : ∀ v ∈ to, 0 ≤ v ∧ v < g.1 := by rw [List.take_of_length_le (by omega)] at hinv; exact hinv
           simp only [movedR, if_pos hmay]; rw [if_pos (by omega), if_pos ha, if_neg (by assumption)]; done)
        | (have ha : ¬ ∀ v ∈ to, 0 ≤ v ∧ v < g.1 := fun h => by have := h _ (gI_mem (xs := to) (i := (k : Int)) (by omega) (by assumption)); omega
           simp only [movedR, if_pos hmay]; rw [if_pos (by omega), if_neg ha]; done)
        | (simp only [movedR, if_pos hmay]; rw [if_neg (by omega)]; done)
    exact ⟨(fin w0 g9 (fun n => 0), (Value.slice none 0 0)), (congr2 (a := (0, [])) (b := 2) (fun (z0 : (Int) × (List ((Int) × (Int)))) (z1 : Int) => Ending.returned (Value.tuple (List.toArray [Value.agg (List.toArray [Value.int .i64 z0.1, Value.slice none 0 0]), Value.int .i64 z1]))) e0 e1), hbase.fresh _, ((congrArg (fun (z : (Int) × (List ((Int) × (Int)))) => z.2) e0) ▸ Ow.nil)⟩

theorem rJoin_ok (w0 : World) (a : (Int) × (List ((Int) × (Int)))) (a_v : Value) (ha_v : Ro w0 a_v a.2) (b : (Int) × (List ((Int) × (Int)))) (b_v : Value) (hb_v : Ro w0 b_v b.2) (ha : MayP a) (hb : MayP b) :
    Calls Try.prog 22 #[Value.agg (List.toArray [Value.int .i64 a.1, a_v]), Value.agg (List.toArray [Value.int .i64 b.1, b_v])] w0 (fun ee w => ∃ xx : Cmap × Value, ee = .returned ((fun ⟨δ, rv0⟩ => Value.tuple (List.toArray [Value.agg (List.toArray [Value.int .i64 (((joinR a b).1).1), rv0]), Value.int .i64 ((joinR a b).2)])) xx) ∧ (fun (⟨δ, rv0⟩ : Cmap × Value) (w : World) => Fresh w0 δ w ∧ Ow δ (is 1) (is 1) w rv0 (((joinR a b).1).2)) xx w) := by
  refine calls_of_run Try.func22 rfl (Nat.le_of_ble_eq_true rfl) ?_
  have hbase := Base.start w0
  have r_a_v := ha_v.sl
  have r_b_v := hb_v.sl
  have ha0 := ha
  have hb0 := hb
  obtain ⟨ha1, ha2, ha3, ha4⟩ := ha0
  obtain ⟨hb1, hb2, hb3, hb4⟩ := hb0
  refine run_seq ?_
  refine run_region rfl ?_
  refine l_op rfl ?_
  refine o_box c0 (is 1) (1, 0) rfl rfl ?_
  intro g4 w1 b3 ch2 bx5
  replace hbase := hbase.chg ch2 (not_no _)
  replace r_a_v := r_a_v.chg ch2 (not_no _)
  replace r_b_v := r_b_v.chg ch2 (not_no _)
  replace bx5 : Bx g4 (is 1) w1 b3 [Value.int .i64 a.1, a_v] := bx5
  refine l_op rfl ?_
  refine o_box g4 (is 2) (2, 0) rfl rfl ?_
  intro g9 w6 b8 ch7 bx10
  replace hbase := hbase.chg ch7 (not_no _)
  replace r_a_v := r_a_v.chg ch7 (not_no _)
  replace r_b_v := r_b_v.chg ch7 (not_no _)
  replace bx5 := bx5.chg ch7 (not_no _)
  replace bx10 : Bx g9 (is 2) w6 b8 [Value.int .i64 b.1, b_v] := bx10
  refine l_op rfl ?_
  refine o_alloc g9 (is 3) (3, 0) rfl tp24_e ?_
  intro g14 w11 b13 ch12 bx15
  replace hbase := hbase.chg ch12 (not_no _)
  replace r_a_v := r_a_v.chg ch12 (not_no _)
  replace r_b_v := r_b_v.chg ch12 (not_no _)
  replace bx5 := bx5.chg ch12 (not_no _)
  replace bx10 := bx10.chg ch12 (not_no _)
  replace bx15 : Bx g14 (is 3) w11 b13 [Value.int .i64 0, Value.slice none 0 0] := bx15
  refine l_val (v := Value.int .i64 0) rfl (e_assign rfl) ?_
  refine l_nil ?_
  refine run_seq ?_
  refine run_region rfl ?_
  refine l_val (v := Value.agg (List.toArray [Value.int .i64 a.1, a_v])) rfl (e_load_bxN (ds := [Value.int .i64 a.1, a_v]) tp24_e rfl bx5 rfl rfl) ?_
  refine l_op rfl ?_
  refine o_callx (e_call (vals := [Value.agg (List.toArray [Value.int .i64 a.1, a_v])]) Try.func41 bd41_e nm41_e rfl) (rCopy_ok w11 a a_v (r_a_v).ro (by first | assumption | omega)) ?_
  rintro ⟨d17, v19⟩ w16 ⟨fr18, o20⟩
  obtain ⟨g21, hg21⟩ : ∃ q, q = glue w11.heap.size g14 d17 (fun n => if n = 1 then 4 else 0) := ⟨_, rfl⟩
  have ch22 := chg_glue fr18.below g14 d17 (fun n => if n = 1 then 4 else 0)
  rw [← hg21] at ch22
  replace hbase := hbase.chg ch22 (not_no _)
  replace r_a_v := r_a_v.chg ch22 (not_no _)
  replace r_b_v := r_b_v.chg ch22 (not_no _)
  replace bx5 := bx5.chg ch22 (not_no _)
  replace bx10 := bx10.chg ch22 (not_no _)
  replace bx15 := bx15.chg ch22 (not_no _)
  replace o20 := o20.glue (γ := g14) (ren := (fun n => if n = 1 then 4 else 0)) (k := 4) fr18.col rfl rfl
  rw [← hg21] at o20
  clear hg21
  refine l_op rfl ?_
  refine o_alloc g21 (is 5) (5, 0) rfl tp24_e ?_
  intro g26 w23 b25 ch24 bx27
  replace hbase := hbase.chg ch24 (not_no _)
  replace r_a_v := r_a_v.chg ch24 (not_no _)
  replace r_b_v := r_b_v.chg ch24 (not_no _)
  replace bx5 := bx5.chg ch24 (not_no _)
  replace bx10 := bx10.chg ch24 (not_no _)
  replace bx15 := bx15.chg ch24 (not_no _)
  replace o20 := o20.chg ch24 (not_no _) (not_no _)
  replace bx27 : Bx g26 (is 5) w23 b25 [Value.int .i64 0, Value.slice none 0 0] := bx27
  refine l_op rfl ?_
  refine o_store_bx (cs' := [Value.int .i64 a.1, v19]) tp24_e rfl rfl bx27 rfl (Nat.le_of_ble_eq_true rfl) (AllOne.all (.cons rfl (.cons (sl_one o20.flat) .nil))) rfl ?_
  intro w28 ch29 bx30
  replace hbase := hbase.chg ch29 (is_ne rfl)
  replace r_a_v := r_a_v.chg ch29 (is_ne rfl)
  replace r_b_v := r_b_v.chg ch29 (is_ne rfl)
  replace bx5 := bx5.chg ch29 (is_ne rfl)
  replace bx10 := bx10.chg ch29 (is_ne rfl)
  replace bx15 := bx15.chg ch29 (is_ne rfl)
  replace o20 := o20.chg ch29 (is_ne rfl) (is_ne rfl)
  clear bx27
  refine l_nil ?_
  refine run_seq ?_
  refine run_region rfl ?_
  refine l_val (v := Value.pointer (some ⟨b3, 0, none⟩)) rfl (e_fieldAddr Try.underlying24 rfl rfl rfl rfl) ?_
  refine l_val (v := Value.int .i64 a.1) rfl (e_load_bx1 tp3_e rfl bx5 rfl) ?_
  refine l_val (v := Value.pointer (some ⟨b8, 0, none⟩)) rfl (e_fieldAddr Try.underlying24 rfl rfl rfl rfl) ?_
  refine l_val (v := Value.int .i64 b.1) rfl (e_load_bx1 tp3_e rfl bx10 rfl) ?_
  refine l_val (v := Value.int .i64 (a.1 + b.1)) rfl (e_add (m := a.1) (n := b.1) rfl rfl (by omega)) ?_
  refine l_val (v := Value.pointer (some ⟨b25, 0, none⟩)) rfl (e_fieldAddr Try.underlying24 rfl rfl rfl rfl) ?_
  refine l_op rfl ?_
  refine o_store_bx (cs' := [Value.int .i64 (a.1 + b.1), v19]) tp3_e rfl rfl bx30 rfl (Nat.le_of_ble_eq_true rfl) (AllOne.all (.cons rfl .nil)) rfl ?_
  intro w31 ch32 bx33
  replace hbase := hbase.chg ch32 (is_ne rfl)
  replace r_a_v := r_a_v.chg ch32 (is_ne rfl)
  replace r_b_v := r_b_v.chg ch32 (is_ne rfl)
  replace bx5 := bx5.chg ch32 (is_ne rfl)
  replace bx10 := bx10.chg ch32 (is_ne rfl)
  replace bx15 := bx15.chg ch32 (is_ne rfl)
  replace o20 := o20.chg ch32 (is_ne rfl) (is_ne rfl)
  clear bx30
  refine l_nil ?_
  refine run_seq ?_
  refine run_seq ?_
  refine run_region rfl ?_
  refine l_val (v := Value.int .i64 0) rfl (e_assign rfl) ?_
  refine l_nil ?_
  refine run_block ?_
  refine run_loop (σ := Value × (List ((Int) × (Int))) × Nat × Cmap) (fun ⟨s_1_v, s_1, k, gq⟩ f w => Base w0 gq w ∧ f 2 = Value.pointer (some ⟨b3, 0, none⟩) ∧ f 3 = Value.pointer (some ⟨b8, 0, none⟩) ∧ f 4 = Value.pointer (some ⟨b13, 0, none⟩) ∧ f 6 = Value.pointer (some ⟨b25, 0, none⟩) ∧ f 7 = Value.int .i64 (k : Int) ∧ Sl gq (is 0) w a_v a.2 ∧ Sl gq (is 0) w b_v b.2 ∧ Bx gq (is 1) w b3 [Value.int .i64 a.1, a_v] ∧ Bx gq (is 2) w b8 [Value.int .i64 b.1, b_v] ∧ Bx gq (is 3) w b13 [Value.int .i64 0, Value.slice none 0 0] ∧ Bx gq (is 5) w b25 [Value.int .i64 (a.1 + b.1), s_1_v] ∧ Ow gq (is 4) (is 4) w s_1_v s_1 ∧ (k : Int) ≤ ((List.length b.2 : Int) : Int) ∧ (s_1 = a.2 ++ (List.take k b.2).map (shiftE a.1))) (fun ⟨s_1_v, s_1, k, gq⟩ => Int.toNat (((List.length b.2 : Int) : Int) - (k : Int))) (v19, a.2, 0, g26) ?_ ?_
  · exact ⟨hbase, rfl, rfl, rfl, rfl, rfl, r_a_v, r_b_v, bx5, bx10, bx15, bx33, o20, by omega, by simp⟩
  clear r_a_v
  clear r_b_v
  clear bx5
  clear bx10
  clear bx15
  clear o20
  clear bx33
  clear hbase
  rintro ⟨s_1_v, s_1, k, g36⟩ f34 w35 ⟨hbase, zs2, zs3, zs4, zs6, zs7, r_a_v, r_b_v, bx5, bx10, bx15, bx33, o_s_1, hle_k, hinv⟩ back4
  have hlen : s_1.length = a.2.length + k := by rw [hinv]; simp; omega
  refine run_seq ?_
  refine run_seq ?_
  refine run_region rfl ?_
  refine l_val (v := Value.int .i64 (k : Int)) rfl (e_move (by exact zs7)) ?_
  refine l_val (v := Value.pointer (some ⟨b8, 1, none⟩)) rfl (e_fieldAddr Try.underlying24 rfl rfl (by exact zs3) rfl) ?_
  refine l_val (v := b_v) rfl (e_load_bx1 tp22_e rfl bx10 rfl) ?_
  have len37 := (r_b_v).small
  refine l_val (v := Value.int .i64 (List.length b.2 : Int)) rfl (e_len Try.underlying22 rfl r_b_v) ?_
  refine l_val (v := Value.bool (decide ((k : Int) < (List.length b.2 : Int)))) rfl (e_lss (m := (k : Int)) (n := (List.length b.2 : Int)) rfl rfl) ?_
  refine l_nil ?_
  by_cases p4 : (k : Int) < (List.length b.2 : Int)
  · skip
    refine run_cond_t rfl (decide_eq_true p4) ?_
    obtain ⟨⟨he1, he2⟩, he3, he4⟩ := hb4 _ (gI_mem (xs := b.2) (i := (k : Int)) (by omega) (by omega))
    refine run_skip ?_
    refine run_seq ?_
    refine run_block ?_
    refine run_region_x g36 [0, 1, 2, 3, 4, 5, 6, 7, 8, 9, 10, 11, 12, 13, 14, 15, 16, 17, 18, 19, 20, 23] mixed_e ?_
    intro w39 ch38
    replace hbase := hbase.chg ch38 (not_no _)
    replace r_a_v := r_a_v.chg ch38 (not_no _)
    replace r_b_v := r_b_v.chg ch38 (not_no _)
    replace bx5 := bx5.chg ch38 (not_no _)
    replace bx10 := bx10.chg ch38 (not_no _)
    replace bx15 := bx15.chg ch38 (not_no _)
    replace bx33 := bx33.chg ch38 (not_no _)
    replace o_s_1 := o_s_1.chg ch38 (not_no _) (not_no _)
    refine x_pure (v := Value.pointer (some ⟨b25, 1, none⟩)) 0 rfl (by kernel_rfl) (by kernel_rfl) rfl (fun w => e_fieldAddr Try.underlying24 rfl rfl (by exact zs6) rfl) ?_
    refine x_held (v := s_1_v) 1 [0, 2, 4, 8, 11, 13, 17, 3, 9, 12, 18, 5, 14, 6, 15, 7, 16, 10, 19, 20, 21] rfl (by kernel_rfl) (by kernel_rfl) rfl (fun w' hw' => e_load_bx1 tp22_e rfl (bx33.bel hw') rfl) ?_
    refine x_pure (v := Value.pointer (some ⟨b8, 1, none⟩)) 2 rfl (by kernel_rfl) (by kernel_rfl) rfl (fun w => e_fieldAddr Try.underlying24 rfl rfl (by exact zs3) rfl) ?_
    refine x_val (v := b_v) 3 [2, 1, 0, 4, 8, 11, 13, 17, 9, 12, 18, 14, 15, 16, 19] rfl (by kernel_rfl) (by kernel_rfl) rfl (e_load_bx1 tp22_e rfl bx10 rfl) ?_
    refine x_pure (v := Value.int .i64 (k : Int)) 4 rfl (by kernel_rfl) (by kernel_rfl) rfl (fun w => e_move (by exact zs7)) ?_
    refine x_val (v := Value.pointer (some (eAddr b_v 2 (Int.toNat (k : Int))))) 5 [4, 3, 2, 1, 0, 8, 11, 13, 17, 9, 12, 18, 14, 15, 16, 19] rfl (by kernel_rfl) (by kernel_rfl) rfl (e_indexAddr (α := (Int) × (Int)) (xs := b.2) (v := b_v) (i := (k : Int)) Try.underlying22 rfl rfl r_b_v rfl (by omega) (by omega)) ?_
    refine x_val (v := Value.pointer (some ⟨(eAddr b_v 2 (Int.toNat (k : Int))).block, (eAddr b_v 2 (Int.toNat (k : Int))).off + 0, none⟩)) 6 [5, 4, 3, 2, 1, 0, 8, 11, 13, 17, 9, 12, 18, 14, 15, 16, 19] rfl (by kernel_rfl) (by kernel_rfl) rfl (e_indexAddr_el Try.underlying60 rfl rfl rfl (by decide) (by decide) rfl) ?_
    refine x_val (v := Value.int .i64 ((gI b.2 (k : Int)).1)) 7 [6, 5, 4, 3, 2, 1, 0, 8, 11, 13, 17, 9, 12, 18, 14, 15, 16, 19] rfl (by kernel_rfl) (by kernel_rfl) rfl (e_load_elF (α := (Int) × (Int)) (xs := b.2) (v := b_v) (i := (k : Int)) tp3_e rfl r_b_v (by omega) (by omega) (by decide) rfl) ?_
    refine x_pure (v := Value.pointer (some ⟨b3, 0, none⟩)) 8 rfl (by kernel_rfl) (by kernel_rfl) rfl (fun w => e_fieldAddr Try.underlying24 rfl rfl (by exact zs2) rfl) ?_
    refine x_val (v := Value.int .i64 a.1) 9 [8, 7, 6, 5, 4, 3, 2, 1, 0, 11, 13, 17, 12, 18, 14, 15, 16, 19] rfl (by kernel_rfl) (by kernel_rfl) rfl (e_load_bx1 tp3_e rfl bx5 rfl) ?_
    refine x_pure (v := Value.int .i64 (((gI b.2 (k : Int)).1) + a.1)) 10 rfl (by kernel_rfl) (by kernel_rfl) rfl (fun w => e_add (m := (gI b.2 (k : Int)).1) (n := a.1) rfl rfl (by omega)) ?_
    refine x_pure (v := Value.pointer (some ⟨b8, 1, none⟩)) 11 rfl (by kernel_rfl) (by kernel_rfl) rfl (fun w => e_fieldAddr Try.underlying24 rfl rfl (by exact zs3) rfl) ?_
    refine x_val (v := b_v) 12 [11, 10, 9, 8, 7, 6, 5, 4, 3, 2, 1, 0, 13, 17, 18] rfl (by kernel_rfl) (by kernel_rfl) rfl (e_load_bx1 tp22_e rfl bx10 rfl) ?_
    refine x_pure (v := Value.int .i64 (k : Int)) 13 rfl (by kernel_rfl) (by kernel_rfl) rfl (fun w => e_move (by exact zs7)) ?_
    refine x_val (v := Value.pointer (some (eAddr b_v 2 (Int.toNat (k : Int))))) 14 [13, 12, 11, 10, 9, 8, 7, 6, 5, 4, 3, 2, 1, 0, 17, 18] rfl (by kernel_rfl) (by kernel_rfl) rfl (e_indexAddr (α := (Int) × (Int)) (xs := b.2) (v := b_v) (i := (k : Int)) Try.underlying22 rfl rfl r_b_v rfl (by omega) (by omega)) ?_
    refine x_val (v := Value.pointer (some ⟨(eAddr b_v 2 (Int.toNat (k : Int))).block, (eAddr b_v 2 (Int.toNat (k : Int))).off + 1, none⟩)) 15 [14, 13, 12, 11, 10, 9, 8, 7, 6, 5, 4, 3, 2, 1, 0, 17, 18] rfl (by kernel_rfl) (by kernel_rfl) rfl (e_indexAddr_el Try.underlying60 rfl rfl rfl (by decide) (by decide) rfl) ?_
    refine x_val (v := Value.int .i64 ((gI b.2 (k : Int)).2)) 16 [15, 14, 13, 12, 11, 10, 9, 8, 7, 6, 5, 4, 3, 2, 1, 0, 17, 18] rfl (by kernel_rfl) (by kernel_rfl) rfl (e_load_elF (α := (Int) × (Int)) (xs := b.2) (v := b_v) (i := (k : Int)) tp3_e rfl r_b_v (by omega) (by omega) (by decide) rfl) ?_
    refine x_pure (v := Value.pointer (some ⟨b3, 0, none⟩)) 17 rfl (by kernel_rfl) (by kernel_rfl) rfl (fun w => e_fieldAddr Try.underlying24 rfl rfl (by exact zs2) rfl) ?_
    refine x_val (v := Value.int .i64 a.1) 18 [17, 16, 15, 14, 13, 12, 11, 10, 9, 8, 7, 6, 5, 4, 3, 2, 1, 0] rfl (by kernel_rfl) (by kernel_rfl) rfl (e_load_bx1 tp3_e rfl bx5 rfl) ?_
    refine x_pure (v := Value.int .i64 (((gI b.2 (k : Int)).2) + a.1)) 19 rfl (by kernel_rfl) (by kernel_rfl) rfl (fun w => e_add (m := (gI b.2 (k : Int)).2) (n := a.1) rfl rfl (by omega)) ?_
    refine x_pure (v := Value.agg (List.toArray [Value.int .i64 (((gI b.2 (k : Int)).1) + a.1), Value.int .i64 (((gI b.2 (k : Int)).2) + a.1)])) 20 rfl (by kernel_rfl) (by kernel_rfl) rfl (fun w => e_build (vs := [(0, Value.int .i64 (((gI b.2 (k : Int)).1) + a.1)), (1, Value.int .i64 (((gI b.2 (k : Int)).2) + a.1))]) rfl (by kernel_rfl)) ?_
    refine x_one 21 rfl (by kernel_rfl) rfl ?_
    refine o_buildSlice (α := (Int) × (Int)) g36 (is 6) (is 6) (6, 0) rfl [(((gI b.2 (k : Int)).1) + a.1, ((gI b.2 (k : Int)).2) + a.1)] Try.underlying22 tp60_e (by decide) (by decide) (vs := [(0, Value.agg (List.toArray [Value.int .i64 (((gI b.2 (k : Int)).1) + a.1), Value.int .i64 (((gI b.2 (k : Int)).2) + a.1)]))]) rfl rfl (.cons rfl .nil) ?_
    intro g40 w41 v42 ch43 o44
    replace hbase := hbase.chg ch43 (not_no _)
    replace r_a_v := r_a_v.chg ch43 (not_no _)
    replace r_b_v := r_b_v.chg ch43 (not_no _)
    replace bx5 := bx5.chg ch43 (not_no _)
    replace bx10 := bx10.chg ch43 (not_no _)
    replace bx15 := bx15.chg ch43 (not_no _)
    replace bx33 := bx33.chg ch43 (not_no _)
    replace o_s_1 := o_s_1.chg ch43 (not_no _) (not_no _)
    refine x_one 22 rfl (by kernel_rfl) rfl ?_
    refine o_append (α := (Int) × (Int)) (xs := s_1) (ys := ([(((gI b.2 (k : Int)).1) + a.1, ((gI b.2 (k : Int)).2) + a.1)])) g40 (J := is 4) (S := is 4) (4, 0) rfl Try.underlying22 tp60_e (by decide) rfl rfl rfl o_s_1 o44.flat (by decide) (by first | omega | (simp; done) | (simp; omega)) ?_
    intro g45 w46 v47 ch48 o49
    replace hbase := hbase.chg ch48 (is_ne rfl)
    replace r_a_v := r_a_v.chg ch48 (is_ne rfl)
    replace r_b_v := r_b_v.chg ch48 (is_ne rfl)
    replace bx5 := bx5.chg ch48 (is_ne rfl)
    replace bx10 := bx10.chg ch48 (is_ne rfl)
    replace bx15 := bx15.chg ch48 (is_ne rfl)
    replace bx33 := bx33.chg ch48 (is_ne rfl)
    replace o44 := o44.chg ch48 (is_ne rfl) (is_ne rfl)
    clear o_s_1
    refine x_pure (v := Value.pointer (some ⟨b25, 1, none⟩)) 23 rfl (by kernel_rfl) (by kernel_rfl) rfl (fun w => e_fieldAddr Try.underlying24 rfl rfl (by exact zs6) rfl) ?_
    refine x_one 24 rfl (by kernel_rfl) rfl ?_
    refine o_store_bx1 (cs' := [Value.int .i64 (a.1 + b.1), v47]) tp22_e rfl rfl bx33 (sl_cells1 o49.flat) (Nat.le_of_ble_eq_true rfl) (sl_one o49.flat) rfl ?_
    intro w50 ch51 bx52
    replace hbase := hbase.chg ch51 (is_ne rfl)
    replace r_a_v := r_a_v.chg ch51 (is_ne rfl)
    replace r_b_v := r_b_v.chg ch51 (is_ne rfl)
    replace bx5 := bx5.chg ch51 (is_ne rfl)
    replace bx10 := bx10.chg ch51 (is_ne rfl)
    replace bx15 := bx15.chg ch51 (is_ne rfl)
    replace o44 := o44.chg ch51 (is_ne rfl) (is_ne rfl)
    replace o49 := o49.chg ch51 (is_ne rfl) (is_ne rfl)
    clear bx33
    refine x_nil (by kernel_rfl) ?_
    refine run_inBlock ?_
    clear o44
    refine run_region rfl ?_
    refine l_val (v := Value.int .i64 (k : Int)) rfl (e_move (by exact zs7)) ?_
    refine l_val (v := Value.int .i64 ((k : Int) + 1)) rfl (e_add (m := (k : Int)) (n := 1) rfl rfl (by omega)) ?_
    refine l_val (v := Value.int .i64 ((k : Int) + 1)) rfl (e_assign rfl) ?_
    refine l_nil ?_
    refine back4 (v47, (s_1 ++ [(((gI b.2 (k : Int)).1) + a.1, ((gI b.2 (k : Int)).2) + a.1)]), k + 1, g45) _ _ ⟨hbase, (by exact zs2), (by exact zs3), (by exact zs4), (by exact zs6), rfl, r_a_v, r_b_v, bx5, bx10, bx15, bx52, o49, by omega, ?_⟩ ?_
    · show (s_1 ++ [(((gI b.2 (k : Int)).1) + a.1, ((gI b.2 (k : Int)).2) + a.1)]) = a.2 ++ (List.take (k + 1) b.2).map (shiftE a.1)
      rw [hinv, take_succ_gI (by omega)]; simp [shiftE]
    · show Int.toNat (((List.length b.2 : Int) : Int) - ((k + 1) : Int)) < Int.toNat (((List.length b.2 : Int) : Int) - (k : Int))
      omega
  · skip
    have hs : s_1 = a.2 ++ b.2.map (shiftE a.1) := by rw [hinv, List.take_of_length_le (by omega)]
    have hj := join_may ha hb
    rw [← hs] at hj
    refine run_cond_f rfl (decide_eq_false p4) ?_
    refine run_exit rfl ?_
    refine run_seq ?_
    refine run_seq ?_
    clear bx5
    clear bx10
    refine run_region rfl ?_
    refine l_val (v := Value.agg (List.toArray [Value.int .i64 (a.1 + b.1), s_1_v])) rfl (e_load_bxN (ds := [Value.int .i64 (a.1 + b.1), s_1_v]) tp24_e (by exact zs6) bx33 rfl rfl) ?_
    refine l_op rfl ?_
    refine o_call (v := Value.bool (mayB (a.1 + b.1, s_1))) (e_call (vals := [Value.agg (List.toArray [Value.int .i64 (a.1 + b.1), s_1_v])]) Try.func9 bd9_e nm9_e rfl) (rMay_ok w35 (a.1 + b.1, s_1) s_1_v (o_s_1.flat).ro) ?_
    intro w53 hb54
    replace hb54 := chg_below hb54 g36
    replace hbase := hbase.chg hb54 (not_no _)
    replace r_a_v := r_a_v.chg hb54 (not_no _)
    replace r_b_v := r_b_v.chg hb54 (not_no _)
    replace bx15 := bx15.chg hb54 (not_no _)
    replace bx33 := bx33.chg hb54 (not_no _)
    replace o_s_1 := o_s_1.chg hb54 (not_no _) (not_no _)
    refine l_val (v := Value.bool (!(mayB (a.1 + b.1, s_1)))) rfl (e_not (b := (mayB (a.1 + b.1, s_1))) rfl) ?_
    refine l_nil ?_
    by_cases p7 : (mayB (a.1 + b.1, s_1)) = true
    · skip
      refine run_cond_f rfl (congrArg Bool.not p7) ?_
      refine run_skip ?_
      refine run_seq ?_
      refine run_region rfl ?_
      refine l_val (v := Value.agg (List.toArray [Value.int .i64 (a.1 + b.1), s_1_v])) rfl (e_load_bxN (ds := [Value.int .i64 (a.1 + b.1), s_1_v]) tp24_e (by exact zs6) bx33 rfl rfl) ?_
      refine l_op rfl ?_
      refine o_store_bx (cs' := [Value.int .i64 (a.1 + b.1), s_1_v]) tp24_e (by exact zs4) rfl bx15 rfl (Nat.le_of_ble_eq_true rfl) (AllOne.all (.cons rfl (.cons (sl_one o_s_1.flat) .nil))) rfl ?_
      intro w55 ch56 bx57
      replace hbase := hbase.chg ch56 (is_ne rfl)
      replace r_a_v := r_a_v.chg ch56 (is_ne rfl)
      replace r_b_v := r_b_v.chg ch56 (is_ne rfl)
      replace bx33 := bx33.chg ch56 (is_ne rfl)
      replace o_s_1 := o_s_1.chg ch56 (is_ne rfl) (is_ne rfl)
      clear bx15
      refine l_val (v := Value.int .i64 0) rfl (e_assign rfl) ?_
      refine l_nil ?_
      refine run_ret (vs := [Value.agg (List.toArray [Value.int .i64 (a.1 + b.1), s_1_v]), Value.int .i64 0]) Try.func22 (.cell (by exact zs4) (load_bxN (ds := [Value.int .i64 (a.1 + b.1), s_1_v]) tp24_e bx57 rfl rfl) (.tmp rfl .nil)) ?_
      -- return 0
      have e0 : ((a.1 + b.1, s_1) : (Int) × (List ((Int) × (Int)))) = ((joinR a b).1) := by
        first
          | (have hm2 := hj.1 (of_decide_eq_true p7)
             simp only [joinR, if_pos (And.intro ha hb), if_pos hm2, hs]; done)
          | (have hn : ¬ (a.1 + b.1 ≤ 1024 ∧ a.2.length + b.2.length ≤ 3072) := fun h => p7 (decide_eq_true (hj.2 h))
             simp only [joinR, if_pos (And.intro ha hb), if_neg hn]; done)
      have e1 : (0 : Int) = ((joinR a b).2) := by
        first
          | (have hm2 := hj.1 (of_decide_eq_true p7)
             simp only [joinR, if_pos (And.intro ha hb), if_pos hm2, hs]; done)
          | (have hn : ¬ (a.1 + b.1 ≤ 1024 ∧ a.2.length + b.2.length ≤ 3072) := fun h => p7 (decide_eq_true (hj.2 h))
             simp only [joinR, if_pos (And.intro ha hb), if_neg hn]; done)
      exact ⟨(fin w0 g36 (fun n => if n = 4 then 1 else 0), s_1_v), (congr2 (a := (a.1 + b.1, s_1)) (b := 0) (fun (z0 : (Int) × (List ((Int) × (Int)))) (z1 : Int) => Ending.returned (Value.tuple (List.toArray [Value.agg (List.toArray [Value.int .i64 z0.1, s_1_v]), Value.int .i64 z1]))) e0 e1), hbase.fresh _, ((congrArg (fun (z : (Int) × (List ((Int) × (Int)))) => z.2) e0) ▸ (o_s_1.glue (γ := c0) (ren := (fun n => if n = 4 then 1 else 0)) (k := 1) hbase.col rfl rfl))⟩
    · skip
      refine run_cond_t rfl (congrArg Bool.not (Bool.eq_false_iff.2 p7)) ?_
      refine run_seq ?_
      clear bx33
      clear o_s_1
      refine run_region rfl ?_
      refine l_val (v := Value.agg (List.toArray [Value.int .i64 0, Value.slice none 0 0])) rfl (e_build (vs := []) rfl (by kernel_rfl)) ?_
      refine l_op rfl ?_
      refine o_store_bx (cs' := [Value.int .i64 0, Value.slice none 0 0]) tp24_e (by exact zs4) rfl bx15 rfl (Nat.le_of_ble_eq_true rfl) (AllOne.all (.cons rfl (.cons rfl .nil))) rfl ?_
      intro w58 ch59 bx60
      replace hbase := hbase.chg ch59 (is_ne rfl)
      replace r_a_v := r_a_v.chg ch59 (is_ne rfl)
      replace r_b_v := r_b_v.chg ch59 (is_ne rfl)
      clear bx15
      refine l_val (v := Value.int .i64 3) rfl (e_assign rfl) ?_
      refine l_nil ?_
      refine run_ret (vs := [Value.agg (List.toArray [Value.int .i64 0, Value.slice none 0 0]), Value.int .i64 3]) Try.func22 (.cell (by exact zs4) (load_bxN (ds := [Value.int .i64 0, Value.slice none 0 0]) tp24_e bx60 rfl rfl) (.tmp rfl .nil)) ?_
      -- return 1
      have e0 : ((0, []) : (Int) × (List ((Int) × (Int)))) = ((joinR a b).1) := by
        first
          | (have hm2 := hj.1 (of_decide_eq_true p7)
             simp only [joinR, if_pos (And.intro ha hb), if_pos hm2, hs]; done)
          | (have hn : ¬ (a.1 + b.1 ≤ 1024 ∧ a.2.length + b.2.length ≤ 3072) := fun h => p7 (decide_eq_true (hj.2 h))
             simp only [joinR, if_pos (And.intro ha hb), if_neg hn]; done)
      have e1 : (3 : Int) = ((joinR a b).2) := by
        first
          | (have hm2 := hj.1 (of_decide_eq_true p7)
             simp only [joinR, if_pos (And.intro ha hb), if_pos hm2, hs]; done)
          | (have hn : ¬ (a.1 + b.1 ≤ 1024 ∧ a.2.length + b.2.length ≤ 3072) := fun h => p7 (decide_eq_true (hj.2 h))
             simp only [joinR, if_pos (And.intro ha hb), if_neg hn]; done)
      exact ⟨(fin w0 g36 (fun n => 0), (Value.slice none 0 0)), (congr2 (a := (0, [])) (b := 3) (fun (z0 : (Int) × (List ((Int) × (Int)))) (z1 : Int) => Ending.returned (Value.tuple (List.toArray [Value.agg (List.toArray [Value.int .i64 z0.1, Value.slice none 0 0]), Value.int .i64 z1]))) e0 e1), hbase.fresh _, ((congrArg (fun (z : (Int) × (List ((Int) × (Int)))) => z.2) e0) ▸ Ow.nil)⟩
end TL
