import Derived.Test.YtklfjhklnlpdgaaTlGenA
import Derived.Test.YtklfjhklnlpdgaaTlGenC
import Derived.Test.YtklfjhklnlpdgaaTlNet3
import Derived.Test.YtklfjhklnlpdgaaProg
import Derived.Test.YtklfjhklnlpdgaaTlNet2
import Derived.Test.YtklfjhklnlpdgaaTlMark
import Derived.Test.YtklfjhklnlpdgaaTlDraw
import Derived.Test.YtklfjhklnlpdgaaTlMap
set_option linter.all false
set_option maxRecDepth 20000
namespace TL
open Go Go.Proofs
theorem mixed_f : Try.prog.follows .mixedOrders = true := by kernel_rfl
theorem tp3_f : Tp Try.prog 3 false 1 8 (.int .i64 0) := Tp.of (by kernel_rfl)
theorem tp22_f : Tp Try.prog 22 false 1 24 (.slice none 0 0) := Tp.of (by kernel_rfl)
theorem tp24_f : Tp Try.prog 24 true 2 32 (.agg #[.int .i64 0, .slice none 0 0]) := Tp.of (by kernel_rfl)
theorem tp60_f : Tp Try.prog 60 true 2 16 (.agg #[.int .i64 0, .int .i64 0]) := Tp.of (by kernel_rfl)
theorem bd23_f : Try.f23.body.isNone = false := rfl
theorem nm23_f : (Try.f23.name == "runtime.NumGoroutine") = false := by decide +kernel
theorem bd37_f : Try.f37.body.isNone = false := rfl
theorem nm37_f : (Try.f37.name == "runtime.NumGoroutine") = false := by decide +kernel
theorem bd38_f : Try.f38.body.isNone = false := rfl
theorem nm38_f : (Try.f38.name == "runtime.NumGoroutine") = false := by decide +kernel
theorem bd39_f : Try.f39.body.isNone = false := rfl
theorem nm39_f : (Try.f39.name == "runtime.NumGoroutine") = false := by decide +kernel
theorem bd43_f : Try.f43.body.isNone = false := rfl
theorem nm43_f : (Try.f43.name == "runtime.NumGoroutine") = false := by decide +kernel

theorem Split_ok (w0 : World) (g : (Int) × (List ((Int) × (Int)))) (g_v : Value) (hg_v : Ro w0 g_v g.2) (e : Int) :
    Calls Try.prog 26 #[Value.agg (List.toArray [Value.int .i64 g.1, g_v]), Value.int .i64 e] w0 (fun ee w => ∃ xx : Cmap × Value, ee = .returned ((fun ⟨δ, rv0⟩ => Value.tuple (List.toArray [Value.agg (List.toArray [Value.int .i64 (((splitR g e).1).1), rv0]), Value.int .i64 ((splitR g e).2)])) xx) ∧ (fun (⟨δ, rv0⟩ : Cmap × Value) (w : World) => Fresh w0 δ w ∧ Ow δ (is 1) (is 1) w rv0 (((splitR g e).1).2)) xx w) := by
  refine calls_of_run Try.func26 rfl (Nat.le_of_ble_eq_true rfl) ?_
  have hbase := Base.start w0
  have r_g_v := hg_v.sl
  refine run_seq ?_
  refine run_region rfl ?_
  refine l_op rfl ?_
  refine o_box c0 (is 1) (1, 0) rfl rfl ?_
  intro g4 w1 b3 ch2 bx5
  replace hbase := hbase.chg ch2 (not_no _)
  replace r_g_v := r_g_v.chg ch2 (not_no _)
  replace bx5 : Bx g4 (is 1) w1 b3 [Value.int .i64 g.1, g_v] := bx5
  refine l_op rfl ?_
  refine o_alloc g4 (is 2) (2, 0) rfl tp24_f ?_
  intro g9 w6 b8 ch7 bx10
  replace hbase := hbase.chg ch7 (not_no _)
  replace r_g_v := r_g_v.chg ch7 (not_no _)
  replace bx5 := bx5.chg ch7 (not_no _)
  replace bx10 : Bx g9 (is 2) w6 b8 [Value.int .i64 0, Value.slice none 0 0] := bx10
  refine l_val (v := Value.int .i64 0) rfl (e_assign rfl) ?_
  refine l_nil ?_
  refine run_seq ?_
  refine run_block ?_
  refine run_seq ?_
  refine run_region rfl ?_
  refine l_val (v := Value.agg (List.toArray [Value.int .i64 g.1, g_v])) rfl (e_load_bxN (ds := [Value.int .i64 g.1, g_v]) tp24_f rfl bx5 rfl rfl) ?_
  refine l_op rfl ?_
  refine o_call (v := Value.bool (mayB g)) (e_call (vals := [Value.agg (List.toArray [Value.int .i64 g.1, g_v])]) Try.func23 bd23_f nm23_f rfl) (May_ok w6 g g_v (r_g_v).ro) ?_
  intro w11 hb12
  replace hb12 := chg_below hb12 g9
  replace hbase := hbase.chg hb12 (not_no _)
  replace r_g_v := r_g_v.chg hb12 (not_no _)
  replace bx5 := bx5.chg hb12 (not_no _)
  replace bx10 := bx10.chg hb12 (not_no _)
  refine l_val (v := Value.bool (!(mayB g))) rfl (e_not (b := (mayB g)) rfl) ?_
  refine l_val (v := Value.bool (!(mayB g))) rfl (e_assign rfl) ?_
  refine l_nil ?_
  by_cases p1 : (mayB g) = true
  · skip
    have hm := of_decide_eq_true p1
    have hm0 := hm
    obtain ⟨hm1, hm2, hm3, hm4⟩ := hm0
    refine run_cond_f rfl (congrArg Bool.not p1) ?_
    refine run_seq ?_
    refine run_region rfl ?_
    refine l_val (v := Value.int .i64 e) rfl (e_move rfl) ?_
    refine l_val (v := Value.bool (decide (e < 0))) rfl (e_lss (m := e) (n := 0) rfl rfl) ?_
    refine l_val (v := Value.bool (decide (e < 0))) rfl (e_move rfl) ?_
    by_cases q16 : e < 0
    · skip
      refine l_skip (want_n rfl rfl rfl (decide_eq_true q16)) ?_
      refine l_skip (want_n rfl rfl rfl (decide_eq_true q16)) ?_
      refine l_skip (want_n rfl rfl rfl (decide_eq_true q16)) ?_
      refine l_skip (want_n rfl rfl rfl (decide_eq_true q16)) ?_
      refine l_skip (want_n rfl rfl rfl (decide_eq_true q16)) ?_
      refine l_val (v := Value.bool true) rfl (e_pick_t rfl (decide_eq_true q16) rfl) ?_
      refine l_val (v := Value.bool true) rfl (e_assign rfl) ?_
      refine l_nil ?_
      refine run_cond_t rfl rfl ?_
      refine run_seq ?_
      clear bx5
      refine run_region rfl ?_
      refine l_val (v := Value.agg (List.toArray [Value.int .i64 0, Value.slice none 0 0])) rfl (e_build (vs := []) rfl (by kernel_rfl)) ?_
      refine l_op rfl ?_
      refine o_store_bx (cs' := [Value.int .i64 0, Value.slice none 0 0]) tp24_f rfl rfl bx10 rfl (Nat.le_of_ble_eq_true rfl) (AllOne.all (.cons rfl (.cons rfl .nil))) rfl ?_
      intro w13 ch14 bx15
      replace hbase := hbase.chg ch14 (is_ne rfl)
      replace r_g_v := r_g_v.chg ch14 (is_ne rfl)
      clear bx10
      refine l_val (v := Value.int .i64 2) rfl (e_assign rfl) ?_
      refine l_nil ?_
      refine run_ret (vs := [Value.agg (List.toArray [Value.int .i64 0, Value.slice none 0 0]), Value.int .i64 2]) Try.func26 (.cell rfl (load_bxN (ds := [Value.int .i64 0, Value.slice none 0 0]) tp24_f bx15 rfl rfl) (.tmp rfl .nil)) ?_
      -- return 0
      have e0 : ((0, []) : (Int) × (List ((Int) × (Int)))) = ((splitR g e).1) := by
        first
          | (have hn : ¬ MayP g := fun h => p1 (decide_eq_true h)
             simp only [splitR, if_neg hn]; done)
          | (have hn : ¬ (0 ≤ e ∧ e < (g.2.length : Int)) := fun h => by omega
             simp only [splitR, if_pos hm, if_neg hn]; done)
          | (have hn : ¬ (g.1 < 1024 ∧ g.2.length < 3072) := fun h => by omega
             have ha : 0 ≤ e ∧ e < (g.2.length : Int) := by omega
             simp only [splitR, if_pos hm, if_pos ha, if_neg hn]; done)
          | (have hn : g.1 < 1024 ∧ g.2.length < 3072 := by omega
             have ha : 0 ≤ e ∧ e < (g.2.length : Int) := by omega
             simp only [splitR, if_pos hm, if_pos ha, if_pos hn]; done)
      have e1 : (2 : Int) = ((splitR g e).2) := by
        first
          | (have hn : ¬ MayP g := fun h => p1 (decide_eq_true h)
             simp only [splitR, if_neg hn]; done)
          | (have hn : ¬ (0 ≤ e ∧ e < (g.2.length : Int)) := fun h => by omega
             simp only [splitR, if_pos hm, if_neg hn]; done)
          | (have hn : ¬ (g.1 < 1024 ∧ g.2.length < 3072) := fun h => by omega
             have ha : 0 ≤ e ∧ e < (g.2.length : Int) := by omega
             simp only [splitR, if_pos hm, if_pos ha, if_neg hn]; done)
          | (have hn : g.1 < 1024 ∧ g.2.length < 3072 := by omega
             have ha : 0 ≤ e ∧ e < (g.2.length : Int) := by omega
             simp only [splitR, if_pos hm, if_pos ha, if_pos hn]; done)
      exact ⟨(fin w0 g9 (fun n => 0), (Value.slice none 0 0)), (congr2 (a := (0, [])) (b := 2) (fun (z0 : (Int) × (List ((Int) × (Int)))) (z1 : Int) => Ending.returned (Value.tuple (List.toArray [Value.agg (List.toArray [Value.int .i64 z0.1, Value.slice none 0 0]), Value.int .i64 z1]))) e0 e1), hbase.fresh _, ((congrArg (fun (z : (Int) × (List ((Int) × (Int)))) => z.2) e0) ▸ Ow.nil)⟩
    · skip
      refine l_val (v := Value.int .i64 e) (want_y rfl rfl rfl (decide_eq_false q16)) (e_move rfl) ?_
      refine l_val (v := Value.pointer (some ⟨b3, 1, none⟩)) (want_y rfl rfl rfl (decide_eq_false q16)) (e_fieldAddr Try.underlying24 rfl rfl rfl rfl) ?_
      refine l_val (v := g_v) (want_y rfl rfl rfl (decide_eq_false q16)) (e_load_bx1 tp22_f rfl bx5 rfl) ?_
      have len16 := (r_g_v).small
      refine l_val (v := Value.int .i64 (List.length g.2 : Int)) (want_y rfl rfl rfl (decide_eq_false q16)) (e_len Try.underlying22 rfl r_g_v) ?_
      refine l_val (v := Value.bool (decide ((List.length g.2 : Int) ≤ e))) (want_y rfl rfl rfl (decide_eq_false q16)) (e_geq (m := e) (n := (List.length g.2 : Int)) rfl rfl) ?_
      refine l_val (v := Value.bool (decide ((List.length g.2 : Int) ≤ e))) rfl (e_pick_f rfl (decide_eq_false q16) rfl) ?_
      refine l_val (v := Value.bool (decide ((List.length g.2 : Int) ≤ e))) rfl (e_assign rfl) ?_
      refine l_nil ?_
      by_cases p4 : (List.length g.2 : Int) ≤ e
      · skip
        refine run_cond_t rfl (decide_eq_true p4) ?_
        refine run_seq ?_
        clear bx5
        refine run_region rfl ?_
        refine l_val (v := Value.agg (List.toArray [Value.int .i64 0, Value.slice none 0 0])) rfl (e_build (vs := []) rfl (by kernel_rfl)) ?_
        refine l_op rfl ?_
        refine o_store_bx (cs' := [Value.int .i64 0, Value.slice none 0 0]) tp24_f rfl rfl bx10 rfl (Nat.le_of_ble_eq_true rfl) (AllOne.all (.cons rfl (.cons rfl .nil))) rfl ?_
        intro w17 ch18 bx19
        replace hbase := hbase.chg ch18 (is_ne rfl)
        replace r_g_v := r_g_v.chg ch18 (is_ne rfl)
        clear bx10
        refine l_val (v := Value.int .i64 2) rfl (e_assign rfl) ?_
        refine l_nil ?_
        refine run_ret (vs := [Value.agg (List.toArray [Value.int .i64 0, Value.slice none 0 0]), Value.int .i64 2]) Try.func26 (.cell rfl (load_bxN (ds := [Value.int .i64 0, Value.slice none 0 0]) tp24_f bx19 rfl rfl) (.tmp rfl .nil)) ?_
        -- return 1
        have e0 : ((0, []) : (Int) × (List ((Int) × (Int)))) = ((splitR g e).1) := by
          first
            | (have hn : ¬ MayP g := fun h => p1 (decide_eq_true h)
               simp only [splitR, if_neg hn]; done)
            | (have hn : ¬ (0 ≤ e ∧ e < (g.2.length : Int)) := fun h => by omega
               simp only [splitR, if_pos hm, if_neg hn]; done)
            | (have hn : ¬ (g.1 < 1024 ∧ g.2.length < 3072) := fun h => by omega
               have ha : 0 ≤ e ∧ e < (g.2.length : Int) := by omega
               simp only [splitR, if_pos hm, if_pos ha, if_neg hn]; done)
            | (have hn : g.1 < 1024 ∧ g.2.length < 3072 := by omega
               have ha : 0 ≤ e ∧ e < (g.2.length : Int) := by omega
               simp only [splitR, if_pos hm, if_pos ha, if_pos hn]; done)
        have e1 : (2 : Int) = ((splitR g e).2) := by
          first
            | (have hn : ¬ MayP g := fun h => p1 (decide_eq_true h)
               simp only [splitR, if_neg hn]; done)
            | (have hn : ¬ (0 ≤ e ∧ e < (g.2.length : Int)) := fun h => by omega
               simp only [splitR, if_pos hm, if_neg hn]; done)
            | (have hn : ¬ (g.1 < 1024 ∧ g.2.length < 3072) := fun h => by omega
               have ha : 0 ≤ e ∧ e < (g.2.length : Int) := by omega
               simp only [splitR, if_pos hm, if_pos ha, if_neg hn]; done)
            | (have hn : g.1 < 1024 ∧ g.2.length < 3072 := by omega
               have ha : 0 ≤ e ∧ e < (g.2.length : Int) := by omega
               simp only [splitR, if_pos hm, if_pos ha, if_pos hn]; done)
        exact ⟨(fin w0 g9 (fun n => 0), (Value.slice none 0 0)), (congr2 (a := (0, [])) (b := 2) (fun (z0 : (Int) × (List ((Int) × (Int)))) (z1 : Int) => Ending.returned (Value.tuple (List.toArray [Value.agg (List.toArray [Value.int .i64 z0.1, Value.slice none 0 0]), Value.int .i64 z1]))) e0 e1), hbase.fresh _, ((congrArg (fun (z : (Int) × (List ((Int) × (Int)))) => z.2) e0) ▸ Ow.nil)⟩
      · skip
        refine run_cond_f rfl (decide_eq_false p4) ?_
        refine run_seq ?_
        refine run_region rfl ?_
        refine l_val (v := Value.pointer (some ⟨b3, 0, none⟩)) rfl (e_fieldAddr Try.underlying24 rfl rfl rfl rfl) ?_
        refine l_val (v := Value.int .i64 g.1) rfl (e_load_bx1 tp3_f rfl bx5 rfl) ?_
        refine l_val (v := Value.bool (decide (1024 ≤ g.1))) rfl (e_geq (m := g.1) (n := 1024) rfl rfl) ?_
        refine l_val (v := Value.bool (decide (1024 ≤ g.1))) rfl (e_move rfl) ?_
        by_cases q28 : 1024 ≤ g.1
        · skip
          refine l_skip (want_n rfl rfl rfl (decide_eq_true q28)) ?_
          refine l_skip (want_n rfl rfl rfl (decide_eq_true q28)) ?_
          refine l_skip (want_n rfl rfl rfl (decide_eq_true q28)) ?_
          refine l_skip (want_n rfl rfl rfl (decide_eq_true q28)) ?_
          refine l_val (v := Value.bool true) rfl (e_pick_t rfl (decide_eq_true q28) rfl) ?_
          refine l_val (v := Value.bool true) rfl (e_assign rfl) ?_
          refine l_nil ?_
          refine run_cond_t rfl rfl ?_
          refine run_seq ?_
          clear bx5
          refine run_region rfl ?_
          refine l_val (v := Value.agg (List.toArray [Value.int .i64 0, Value.slice none 0 0])) rfl (e_build (vs := []) rfl (by kernel_rfl)) ?_
          refine l_op rfl ?_
          refine o_store_bx (cs' := [Value.int .i64 0, Value.slice none 0 0]) tp24_f rfl rfl bx10 rfl (Nat.le_of_ble_eq_true rfl) (AllOne.all (.cons rfl (.cons rfl .nil))) rfl ?_
          intro w20 ch21 bx22
          replace hbase := hbase.chg ch21 (is_ne rfl)
          replace r_g_v := r_g_v.chg ch21 (is_ne rfl)
          clear bx10
          refine l_val (v := Value.int .i64 3) rfl (e_assign rfl) ?_
          refine l_nil ?_
          refine run_ret (vs := [Value.agg (List.toArray [Value.int .i64 0, Value.slice none 0 0]), Value.int .i64 3]) Try.func26 (.cell rfl (load_bxN (ds := [Value.int .i64 0, Value.slice none 0 0]) tp24_f bx22 rfl rfl) (.tmp rfl .nil)) ?_
          -- return 2
          have e0 : ((0, []) : (Int) × (List ((Int) × (Int)))) = ((splitR g e).1) := by
            first
              | (have hn : ¬ MayP g := fun h => p1 (decide_eq_true h)
                 simp only [splitR, if_neg hn]; done)
              | (have hn : ¬ (0 ≤ e ∧ e < (g.2.length : Int)) := fun h => by omega
                 simp only [splitR, if_pos hm, if_neg hn]; done)
              | (have hn : ¬ (g.1 < 1024 ∧ g.2.length < 3072) := fun h => by omega
                 have ha : 0 ≤ e ∧ e < (g.2.length : Int) := by omega
                 simp only [splitR, if_pos hm, if_pos ha, if_neg hn]; done)
              | (have hn : g.1 < 1024 ∧ g.2.length < 3072 := by omega
                 have ha : 0 ≤ e ∧ e < (g.2.length : Int) := by omega
                 simp only [splitR, if_pos hm, if_pos ha, if_pos hn]; done)
          have e1 : (3 : Int) = ((splitR g e).2) := by
            first
              | (have hn : ¬ MayP g := fun h => p1 (decide_eq_true h)
                 simp only [splitR, if_neg hn]; done)
              | (have hn : ¬ (0 ≤ e ∧ e < (g.2.length : Int)) := fun h => by omega
                 simp only [splitR, if_pos hm, if_neg hn]; done)
              | (have hn : ¬ (g.1 < 1024 ∧ g.2.length < 3072) := fun h => by omega
                 have ha : 0 ≤ e ∧ e < (g.2.length : Int) := by omega
                 simp only [splitR, if_pos hm, if_pos ha, if_neg hn]; done)
              | (have hn : g.1 < 1024 ∧ g.2.length < 3072 := by omega
                 have ha : 0 ≤ e ∧ e < (g.2.length : Int) := by omega
                 simp only [splitR, if_pos hm, if_pos ha, if_pos hn]; done)
          exact ⟨(fin w0 g9 (fun n => 0), (Value.slice none 0 0)), (congr2 (a := (0, [])) (b := 3) (fun (z0 : (Int) × (List ((Int) × (Int)))) (z1 : Int) => Ending.returned (Value.tuple (List.toArray [Value.agg (List.toArray [Value.int .i64 z0.1, Value.slice none 0 0]), Value.int .i64 z1]))) e0 e1), hbase.fresh _, ((congrArg (fun (z : (Int) × (List ((Int) × (Int)))) => z.2) e0) ▸ Ow.nil)⟩
        · skip
          refine l_val (v := Value.pointer (some ⟨b3, 1, none⟩)) (want_y rfl rfl rfl (decide_eq_false q28)) (e_fieldAddr Try.underlying24 rfl rfl rfl rfl) ?_
          refine l_val (v := g_v) (want_y rfl rfl rfl (decide_eq_false q28)) (e_load_bx1 tp22_f rfl bx5 rfl) ?_
          refine l_val (v := Value.int .i64 (List.length g.2 : Int)) (want_y rfl rfl rfl (decide_eq_false q28)) (e_len Try.underlying22 rfl r_g_v) ?_
          refine l_val (v := Value.bool (decide (3072 ≤ (List.length g.2 : Int)))) (want_y rfl rfl rfl (decide_eq_false q28)) (e_geq (m := (List.length g.2 : Int)) (n := 3072) rfl rfl) ?_
          refine l_val (v := Value.bool (decide (3072 ≤ (List.length g.2 : Int)))) rfl (e_pick_f rfl (decide_eq_false q28) rfl) ?_
          refine l_val (v := Value.bool (decide (3072 ≤ (List.length g.2 : Int)))) rfl (e_assign rfl) ?_
          refine l_nil ?_
          by_cases p6 : 3072 ≤ (List.length g.2 : Int)
          · skip
            refine run_cond_t rfl (decide_eq_true p6) ?_
            refine run_seq ?_
            clear bx5
            refine run_region rfl ?_
            refine l_val (v := Value.agg (List.toArray [Value.int .i64 0, Value.slice none 0 0])) rfl (e_build (vs := []) rfl (by kernel_rfl)) ?_
            refine l_op rfl ?_
            refine o_store_bx (cs' := [Value.int .i64 0, Value.slice none 0 0]) tp24_f rfl rfl bx10 rfl (Nat.le_of_ble_eq_true rfl) (AllOne.all (.cons rfl (.cons rfl .nil))) rfl ?_
            intro w23 ch24 bx25
            replace hbase := hbase.chg ch24 (is_ne rfl)
            replace r_g_v := r_g_v.chg ch24 (is_ne rfl)
            clear bx10
            refine l_val (v := Value.int .i64 3) rfl (e_assign rfl) ?_
            refine l_nil ?_
            refine run_ret (vs := [Value.agg (List.toArray [Value.int .i64 0, Value.slice none 0 0]), Value.int .i64 3]) Try.func26 (.cell rfl (load_bxN (ds := [Value.int .i64 0, Value.slice none 0 0]) tp24_f bx25 rfl rfl) (.tmp rfl .nil)) ?_
            -- return 3
            have e0 : ((0, []) : (Int) × (List ((Int) × (Int)))) = ((splitR g e).1) := by
              first
                | (have hn : ¬ MayP g := fun h => p1 (decide_eq_true h)
                   simp only [splitR, if_neg hn]; done)
                | (have hn : ¬ (0 ≤ e ∧ e < (g.2.length : Int)) := fun h => by omega
                   simp only [splitR, if_pos hm, if_neg hn]; done)
                | (have hn : ¬ (g.1 < 1024 ∧ g.2.length < 3072) := fun h => by omega
                   have ha : 0 ≤ e ∧ e < (g.2.length : Int) := by omega
                   simp only [splitR, if_pos hm, if_pos ha, if_neg hn]; done)
                | (have hn : g.1 < 1024 ∧ g.2.length < 3072 := by omega
                   have ha : 0 ≤ e ∧ e < (g.2.length : Int) := by omega
                   simp only [splitR, if_pos hm, if_pos ha, if_pos hn]; done)
            have e1 : (3 : Int) = ((splitR g e).2) := by
              first
                | (have hn : ¬ MayP g := fun h => p1 (decide_eq_true h)
                   simp only [splitR, if_neg hn]; done)
                | (have hn : ¬ (0 ≤ e ∧ e < (g.2.length : Int)) := fun h => by omega
                   simp only [splitR, if_pos hm, if_neg hn]; done)
                | (have hn : ¬ (g.1 < 1024 ∧ g.2.length < 3072) := fun h => by omega
                   have ha : 0 ≤ e ∧ e < (g.2.length : Int) := by omega
                   simp only [splitR, if_pos hm, if_pos ha, if_neg hn]; done)
                | (have hn : g.1 < 1024 ∧ g.2.length < 3072 := by omega
                   have ha : 0 ≤ e ∧ e < (g.2.length : Int) := by omega
                   simp only [splitR, if_pos hm, if_pos ha, if_pos hn]; done)
            exact ⟨(fin w0 g9 (fun n => 0), (Value.slice none 0 0)), (congr2 (a := (0, [])) (b := 3) (fun (z0 : (Int) × (List ((Int) × (Int)))) (z1 : Int) => Ending.returned (Value.tuple (List.toArray [Value.agg (List.toArray [Value.int .i64 z0.1, Value.slice none 0 0]), Value.int .i64 z1]))) e0 e1), hbase.fresh _, ((congrArg (fun (z : (Int) × (List ((Int) × (Int)))) => z.2) e0) ▸ Ow.nil)⟩
          · skip
            refine run_cond_f rfl (decide_eq_false p6) ?_
            refine run_skip ?_
            refine run_inBlock ?_
            refine run_seq ?_
            refine run_region rfl ?_
            refine l_val (v := Value.agg (List.toArray [Value.int .i64 g.1, g_v])) rfl (e_load_bxN (ds := [Value.int .i64 g.1, g_v]) tp24_f rfl bx5 rfl rfl) ?_
            refine l_op rfl ?_
            refine o_callx (e_call (vals := [Value.agg (List.toArray [Value.int .i64 g.1, g_v])]) Try.func37 bd37_f nm37_f rfl) (copied_ok w11 g g_v (r_g_v).ro (by exact hm)) ?_
            rintro ⟨d27, v29⟩ w26 ⟨fr28, o30⟩
            obtain ⟨g31, hg31⟩ : ∃ q, q = glue w11.heap.size g9 d27 (fun n => if n = 1 then 3 else 0) := ⟨_, rfl⟩
            have ch32 := chg_glue fr28.below g9 d27 (fun n => if n = 1 then 3 else 0)
            rw [← hg31] at ch32
            replace hbase := hbase.chg ch32 (not_no _)
            replace r_g_v := r_g_v.chg ch32 (not_no _)
            replace bx5 := bx5.chg ch32 (not_no _)
            replace bx10 := bx10.chg ch32 (not_no _)
            replace o30 := o30.glue (γ := g9) (ren := (fun n => if n = 1 then 3 else 0)) (k := 3) fr28.col rfl rfl
            rw [← hg31] at o30
            clear hg31
            refine l_op rfl ?_
            refine o_alloc g31 (is 4) (4, 0) rfl tp24_f ?_
            intro g36 w33 b35 ch34 bx37
            replace hbase := hbase.chg ch34 (not_no _)
            replace r_g_v := r_g_v.chg ch34 (not_no _)
            replace bx5 := bx5.chg ch34 (not_no _)
            replace bx10 := bx10.chg ch34 (not_no _)
            replace o30 := o30.chg ch34 (not_no _) (not_no _)
            replace bx37 : Bx g36 (is 4) w33 b35 [Value.int .i64 0, Value.slice none 0 0] := bx37
            refine l_op rfl ?_
            refine o_store_bx (cs' := [Value.int .i64 g.1, v29]) tp24_f rfl rfl bx37 rfl (Nat.le_of_ble_eq_true rfl) (AllOne.all (.cons rfl (.cons (sl_one o30.flat) .nil))) rfl ?_
            intro w38 ch39 bx40
            replace hbase := hbase.chg ch39 (is_ne rfl)
            replace r_g_v := r_g_v.chg ch39 (is_ne rfl)
            replace bx5 := bx5.chg ch39 (is_ne rfl)
            replace bx10 := bx10.chg ch39 (is_ne rfl)
            replace o30 := o30.chg ch39 (is_ne rfl) (is_ne rfl)
            clear bx37
            refine l_nil ?_
            refine run_seq ?_
            refine run_region rfl ?_
            refine l_val (v := Value.pointer (some ⟨b35, 1, none⟩)) rfl (e_fieldAddr Try.underlying24 rfl rfl rfl rfl) ?_
            refine l_val (v := v29) rfl (e_load_bx1 tp22_f rfl bx40 rfl) ?_
            refine l_val (v := Value.int .i64 e) rfl (e_move rfl) ?_
            refine l_val (v := Value.pointer (some (eAddr v29 2 (Int.toNat e)))) rfl (e_indexAddr (α := (Int) × (Int)) (xs := g.2) (v := v29) (i := e) Try.underlying22 rfl rfl o30.flat rfl (by omega) (by omega)) ?_
            refine l_val (v := Value.pointer (some ⟨(eAddr v29 2 (Int.toNat e)).block, (eAddr v29 2 (Int.toNat e)).off + 1, none⟩)) rfl (e_indexAddr_el Try.underlying60 rfl rfl rfl (by decide) (by decide) rfl) ?_
            refine l_val (v := Value.int .i64 ((gI g.2 e).2)) rfl (e_load_elF (α := (Int) × (Int)) (xs := g.2) (v := v29) (i := e) tp3_f rfl o30.flat (by omega) (by omega) (by decide) rfl) ?_
            refine l_val (v := Value.int .i64 ((gI g.2 e).2)) rfl (e_assign rfl) ?_
            refine l_nil ?_
            refine run_seq ?_
            refine run_region_x g36 [0, 1, 2, 3, 4, 5, 6] mixed_f ?_
            intro w42 ch41
            replace hbase := hbase.chg ch41 (not_no _)
            replace r_g_v := r_g_v.chg ch41 (not_no _)
            replace bx5 := bx5.chg ch41 (not_no _)
            replace bx10 := bx10.chg ch41 (not_no _)
            replace o30 := o30.chg ch41 (not_no _) (not_no _)
            replace bx40 := bx40.chg ch41 (not_no _)
            refine x_pure (v := Value.pointer (some ⟨b35, 1, none⟩)) 0 rfl (by kernel_rfl) (by kernel_rfl) rfl (fun w => e_fieldAddr Try.underlying24 rfl rfl rfl rfl) ?_
            refine x_val (v := v29) 1 [0, 2, 3, 4] rfl (by kernel_rfl) (by kernel_rfl) rfl (e_load_bx1 tp22_f rfl bx40 rfl) ?_
            refine x_pure (v := Value.int .i64 e) 2 rfl (by kernel_rfl) (by kernel_rfl) rfl (fun w => e_move rfl) ?_
            refine x_pure (v := Value.pointer (some ⟨b3, 0, none⟩)) 3 rfl (by kernel_rfl) (by kernel_rfl) rfl (fun w => e_fieldAddr Try.underlying24 rfl rfl rfl rfl) ?_
            refine x_val (v := Value.int .i64 g.1) 4 [3, 2, 1, 0, 5] rfl (by kernel_rfl) (by kernel_rfl) rfl (e_load_bx1 tp3_f rfl bx5 rfl) ?_
            refine x_val (v := Value.pointer (some (eAddr v29 2 (Int.toNat e)))) 5 [4, 3, 2, 1, 0] rfl (by kernel_rfl) (by kernel_rfl) rfl (e_indexAddr (α := (Int) × (Int)) (xs := g.2) (v := v29) (i := e) Try.underlying22 rfl rfl o30.flat rfl (by omega) (by omega)) ?_
            refine x_val (v := Value.pointer (some ⟨(eAddr v29 2 (Int.toNat e)).block, (eAddr v29 2 (Int.toNat e)).off + 1, none⟩)) 6 [5, 4, 3, 2, 1, 0] rfl (by kernel_rfl) (by kernel_rfl) rfl (e_indexAddr_el Try.underlying60 rfl rfl rfl (by decide) (by decide) rfl) ?_
            refine x_one 7 rfl (by kernel_rfl) rfl ?_
            refine o_store_elF (i := e) (q := 1) ((gI g.2 e).1, g.1) tp3_f rfl rfl o30 (by omega) (by omega) (by decide) rfl rfl rfl ?_
            intro w43 ch44 bx45
            replace hbase := hbase.chg ch44 (is_ne rfl)
            replace r_g_v := r_g_v.chg ch44 (is_ne rfl)
            replace bx5 := bx5.chg ch44 (is_ne rfl)
            replace bx10 := bx10.chg ch44 (is_ne rfl)
            replace bx40 := bx40.chg ch44 (is_ne rfl)
            clear o30
            refine x_nil (by kernel_rfl) ?_
            refine run_seq ?_
            refine run_region rfl ?_
            refine l_val (v := Value.pointer (some ⟨b35, 1, none⟩)) rfl (e_fieldAddr Try.underlying24 rfl rfl rfl rfl) ?_
            refine l_val (v := v29) rfl (e_load_bx1 tp22_f rfl bx40 rfl) ?_
            refine l_val (v := Value.pointer (some ⟨b3, 0, none⟩)) rfl (e_fieldAddr Try.underlying24 rfl rfl rfl rfl) ?_
            refine l_val (v := Value.int .i64 g.1) rfl (e_load_bx1 tp3_f rfl bx5 rfl) ?_
            refine l_val (v := Value.int .i64 ((gI g.2 e).2)) rfl (e_move rfl) ?_
            refine l_val (v := Value.agg (List.toArray [Value.int .i64 g.1, Value.int .i64 ((gI g.2 e).2)])) rfl (e_build (vs := [(0, Value.int .i64 g.1), (1, Value.int .i64 ((gI g.2 e).2))]) rfl (by kernel_rfl)) ?_
            refine l_op rfl ?_
            refine o_buildSlice (α := (Int) × (Int)) g36 (is 5) (is 5) (5, 0) rfl [(g.1, (gI g.2 e).2)] Try.underlying22 tp60_f (by decide) (by decide) (vs := [(0, Value.agg (List.toArray [Value.int .i64 g.1, Value.int .i64 ((gI g.2 e).2)]))]) rfl rfl (.cons rfl .nil) ?_
            intro g46 w47 v48 ch49 o50
            replace hbase := hbase.chg ch49 (not_no _)
            replace r_g_v := r_g_v.chg ch49 (not_no _)
            replace bx5 := bx5.chg ch49 (not_no _)
            replace bx10 := bx10.chg ch49 (not_no _)
            replace bx40 := bx40.chg ch49 (not_no _)
            replace bx45 := bx45.chg ch49 (not_no _) (not_no _)
            refine l_op rfl ?_
            refine o_append (α := (Int) × (Int)) (xs := (List.set g.2 (Int.toNat e) ((gI g.2 e).1, g.1))) (ys := ([(g.1, (gI g.2 e).2)])) g46 (J := is 3) (S := is 3) (3, 0) rfl Try.underlying22 tp60_f (by decide) rfl rfl rfl bx45 o50.flat (by decide) (by first | omega | (simp; done) | (simp; omega)) ?_
            intro g51 w52 v53 ch54 o55
            replace hbase := hbase.chg ch54 (is_ne rfl)
            replace r_g_v := r_g_v.chg ch54 (is_ne rfl)
            replace bx5 := bx5.chg ch54 (is_ne rfl)
            replace bx10 := bx10.chg ch54 (is_ne rfl)
            replace bx40 := bx40.chg ch54 (is_ne rfl)
            replace o50 := o50.chg ch54 (is_ne rfl) (is_ne rfl)
            clear bx45
            refine l_val (v := Value.pointer (some ⟨b35, 1, none⟩)) rfl (e_fieldAddr Try.underlying24 rfl rfl rfl rfl) ?_
            refine l_op rfl ?_
            refine o_store_bx1 (cs' := [Value.int .i64 g.1, v53]) tp22_f rfl rfl bx40 (sl_cells1 o55.flat) (Nat.le_of_ble_eq_true rfl) (sl_one o55.flat) rfl ?_
            intro w56 ch57 bx58
            replace hbase := hbase.chg ch57 (is_ne rfl)
            replace r_g_v := r_g_v.chg ch57 (is_ne rfl)
            replace bx5 := bx5.chg ch57 (is_ne rfl)
            replace bx10 := bx10.chg ch57 (is_ne rfl)
            replace o50 := o50.chg ch57 (is_ne rfl) (is_ne rfl)
            replace o55 := o55.chg ch57 (is_ne rfl) (is_ne rfl)
            clear bx40
            refine l_nil ?_
            refine run_seq ?_
            clear bx5
            clear o50
            refine run_region rfl ?_
            refine l_val (v := Value.pointer (some ⟨b35, 0, none⟩)) rfl (e_fieldAddr Try.underlying24 rfl rfl rfl rfl) ?_
            refine l_val (v := Value.int .i64 g.1) rfl (e_load_bx1 tp3_f rfl bx58 rfl) ?_
            refine l_val (v := Value.int .i64 (g.1 + 1)) rfl (e_add (m := g.1) (n := 1) rfl rfl (by omega)) ?_
            refine l_val (v := Value.pointer (some ⟨b35, 0, none⟩)) rfl (e_fieldAddr Try.underlying24 rfl rfl rfl rfl) ?_
            refine l_op rfl ?_
            refine o_store_bx (cs' := [Value.int .i64 (g.1 + 1), v53]) tp3_f rfl rfl bx58 rfl (Nat.le_of_ble_eq_true rfl) (AllOne.all (.cons rfl .nil)) rfl ?_
            intro w59 ch60 bx61
            replace hbase := hbase.chg ch60 (is_ne rfl)
            replace r_g_v := r_g_v.chg ch60 (is_ne rfl)
            replace bx10 := bx10.chg ch60 (is_ne rfl)
            replace o55 := o55.chg ch60 (is_ne rfl) (is_ne rfl)
            clear bx58
            refine l_nil ?_
            refine run_seq ?_
            refine run_region rfl ?_
            refine l_val (v := Value.agg (List.toArray [Value.int .i64 (g.1 + 1), v53])) rfl (e_load_bxN (ds := [Value.int .i64 (g.1 + 1), v53]) tp24_f rfl bx61 rfl rfl) ?_
            refine l_op rfl ?_
            refine o_store_bx (cs' := [Value.int .i64 (g.1 + 1), v53]) tp24_f rfl rfl bx10 rfl (Nat.le_of_ble_eq_true rfl) (AllOne.all (.cons rfl (.cons (sl_one o55.flat) .nil))) rfl ?_
            intro w62 ch63 bx64
            replace hbase := hbase.chg ch63 (is_ne rfl)
            replace r_g_v := r_g_v.chg ch63 (is_ne rfl)
            replace o55 := o55.chg ch63 (is_ne rfl) (is_ne rfl)
            replace bx61 := bx61.chg ch63 (is_ne rfl)
            clear bx10
            refine l_val (v := Value.int .i64 0) rfl (e_assign rfl) ?_
            refine l_nil ?_
            refine run_ret (vs := [Value.agg (List.toArray [Value.int .i64 (g.1 + 1), v53]), Value.int .i64 0]) Try.func26 (.cell rfl (load_bxN (ds := [Value.int .i64 (g.1 + 1), v53]) tp24_f bx64 rfl rfl) (.tmp rfl .nil)) ?_
            -- return 4
            have e0 : ((g.1 + 1, ((List.set g.2 (Int.toNat e) ((gI g.2 e).1, g.1)) ++ [(g.1, (gI g.2 e).2)])) : (Int) × (List ((Int) × (Int)))) = ((splitR g e).1) := by
              first
                | (have hn : ¬ MayP g := fun h => p1 (decide_eq_true h)
                   simp only [splitR, if_neg hn]; done)
                | (have hn : ¬ (0 ≤ e ∧ e < (g.2.length : Int)) := fun h => by omega
                   simp only [splitR, if_pos hm, if_neg hn]; done)
                | (have hn : ¬ (g.1 < 1024 ∧ g.2.length < 3072) := fun h => by omega
                   have ha : 0 ≤ e ∧ e < (g.2.length : Int) := by omega
                   simp only [splitR, if_pos hm, if_pos ha, if_neg hn]; done)
                | (have hn : g.1 < 1024 ∧ g.2.length < 3072 := by omega
                   have ha : 0 ≤ e ∧ e < (g.2.length : Int) := by omega
                   simp only [splitR, if_pos hm, if_pos ha, if_pos hn]; done)
            have e1 : (0 : Int) = ((splitR g e).2) := by
              first
                | (have hn : ¬ MayP g := fun h => p1 (decide_eq_true h)
                   simp only [splitR, if_neg hn]; done)
                | (have hn : ¬ (0 ≤ e ∧ e < (g.2.length : Int)) := fun h => by omega
                   simp only [splitR, if_pos hm, if_neg hn]; done)
                | (have hn : ¬ (g.1 < 1024 ∧ g.2.length < 3072) := fun h => by omega
                   have ha : 0 ≤ e ∧ e < (g.2.length : Int) := by omega
                   simp only [splitR, if_pos hm, if_pos ha, if_neg hn]; done)
                | (have hn : g.1 < 1024 ∧ g.2.length < 3072 := by omega
                   have ha : 0 ≤ e ∧ e < (g.2.length : Int) := by omega
                   simp only [splitR, if_pos hm, if_pos ha, if_pos hn]; done)
            exact ⟨(fin w0 g51 (fun n => if n = 3 then 1 else 0), v53), (congr2 (a := (g.1 + 1, ((List.set g.2 (Int.toNat e) ((gI g.2 e).1, g.1)) ++ [(g.1, (gI g.2 e).2)]))) (b := 0) (fun (z0 : (Int) × (List ((Int) × (Int)))) (z1 : Int) => Ending.returned (Value.tuple (List.toArray [Value.agg (List.toArray [Value.int .i64 z0.1, v53]), Value.int .i64 z1]))) e0 e1), hbase.fresh _, ((congrArg (fun (z : (Int) × (List ((Int) × (Int)))) => z.2) e0) ▸ (o55.glue (γ := c0) (ren := (fun n => if n = 3 then 1 else 0)) (k := 1) hbase.col rfl rfl))⟩
  · skip
    refine run_cond_t rfl (congrArg Bool.not (Bool.eq_false_iff.2 p1)) ?_
    refine run_seq ?_
    clear bx5
    refine run_region rfl ?_
    refine l_val (v := Value.agg (List.toArray [Value.int .i64 0, Value.slice none 0 0])) rfl (e_build (vs := []) rfl (by kernel_rfl)) ?_
    refine l_op rfl ?_
    refine o_store_bx (cs' := [Value.int .i64 0, Value.slice none 0 0]) tp24_f rfl rfl bx10 rfl (Nat.le_of_ble_eq_true rfl) (AllOne.all (.cons rfl (.cons rfl .nil))) rfl ?_
    intro w65 ch66 bx67
    replace hbase := hbase.chg ch66 (is_ne rfl)
    replace r_g_v := r_g_v.chg ch66 (is_ne rfl)
    clear bx10
    refine l_val (v := Value.int .i64 1) rfl (e_assign rfl) ?_
    refine l_nil ?_
    refine run_ret (vs := [Value.agg (List.toArray [Value.int .i64 0, Value.slice none 0 0]), Value.int .i64 1]) Try.func26 (.cell rfl (load_bxN (ds := [Value.int .i64 0, Value.slice none 0 0]) tp24_f bx67 rfl rfl) (.tmp rfl .nil)) ?_
    -- return 5
    have e0 : ((0, []) : (Int) × (List ((Int) × (Int)))) = ((splitR g e).1) := by
      first
        | (have hn : ¬ MayP g := fun h => p1 (decide_eq_true h)
           simp only [splitR, if_neg hn]; done)
        | (have hn : ¬ (0 ≤ e ∧ e < (g.2.length : Int)) := fun h => by omega
           simp only [splitR, if_pos hm, if_neg hn]; done)
        | (have hn : ¬ (g.1 < 1024 ∧ g.2.length < 3072) := fun h => by omega
           have ha : 0 ≤ e ∧ e < (g.2.length : Int) := by omega
           simp only [splitR, if_pos hm, if_pos ha, if_neg hn]; done)
        | (have hn : g.1 < 1024 ∧ g.2.length < 3072 := by omega
           have ha : 0 ≤ e ∧ e < (g.2.length : Int) := by omega
           simp only [splitR, if_pos hm, if_pos ha, if_pos hn]; done)
    have e1 : (1 : Int) = ((splitR g e).2) := by
      first
        | (have hn : ¬ MayP g := fun h => p1 (decide_eq_true h)
           simp only [splitR, if_neg hn]; done)
        | (have hn : ¬ (0 ≤ e ∧ e < (g.2.length : Int)) := fun h => by omega
           simp only [splitR, if_pos hm, if_neg hn]; done)
        | (have hn : ¬ (g.1 < 1024 ∧ g.2.length < 3072) := fun h => by omega
           have ha : 0 ≤ e ∧ e < (g.2.length : Int) := by omega
           simp only [splitR, if_pos hm, if_pos ha, if_neg hn]; done)
        | (have hn : g.1 < 1024 ∧ g.2.length < 3072 := by omega
           have ha : 0 ≤ e ∧ e < (g.2.length : Int) := by omega
           simp only [splitR, if_pos hm, if_pos ha, if_pos hn]; done)
    exact ⟨(fin w0 g9 (fun n => 0), (Value.slice none 0 0)), (congr2 (a := (0, [])) (b := 1) (fun (z0 : (Int) × (List ((Int) × (Int)))) (z1 : Int) => Ending.returned (Value.tuple (List.toArray [Value.agg (List.toArray [Value.int .i64 z0.1, Value.slice none 0 0]), Value.int .i64 z1]))) e0 e1), hbase.fresh _, ((congrArg (fun (z : (Int) × (List ((Int) × (Int)))) => z.2) e0) ▸ Ow.nil)⟩

theorem Merge_ok (w0 : World) (g : (Int) × (List ((Int) × (Int)))) (g_v : Value) (hg_v : Ro w0 g_v g.2) (u : Int) (v : Int) :
    Calls Try.prog 27 #[Value.agg (List.toArray [Value.int .i64 g.1, g_v]), Value.int .i64 u, Value.int .i64 v] w0 (fun ee w => ∃ xx : Cmap × Value × Value, ee = .returned ((fun ⟨δ, rv0, rv1⟩ => Value.tuple (List.toArray [Value.agg (List.toArray [Value.int .i64 (((mergeR g u v).1).1), rv0]), rv1, Value.int .i64 ((mergeR g u v).2.2)])) xx) ∧ (fun (⟨δ, rv0, rv1⟩ : Cmap × Value × Value) (w : World) => Fresh w0 δ w ∧ Ow δ (is 1) (is 1) w rv0 (((mergeR g u v).1).2) ∧ Ow δ (is 2) (is 2) w rv1 ((mergeR g u v).2.1)) xx w) := by
  refine calls_of_run Try.func27 rfl (Nat.le_of_ble_eq_true rfl) ?_
  have hbase := Base.start w0
  have r_g_v := hg_v.sl
  refine run_seq ?_
  refine run_region rfl ?_
  refine l_op rfl ?_
  refine o_box c0 (is 1) (1, 0) rfl rfl ?_
  intro g4 w1 b3 ch2 bx5
  replace hbase := hbase.chg ch2 (not_no _)
  replace r_g_v := r_g_v.chg ch2 (not_no _)
  replace bx5 : Bx g4 (is 1) w1 b3 [Value.int .i64 g.1, g_v] := bx5
  refine l_op rfl ?_
  refine o_alloc g4 (is 2) (2, 0) rfl tp24_f ?_
  intro g9 w6 b8 ch7 bx10
  replace hbase := hbase.chg ch7 (not_no _)
  replace r_g_v := r_g_v.chg ch7 (not_no _)
  replace bx5 := bx5.chg ch7 (not_no _)
  replace bx10 : Bx g9 (is 2) w6 b8 [Value.int .i64 0, Value.slice none 0 0] := bx10
  refine l_val (v := Value.slice none 0 0) rfl (e_assign rfl) ?_
  refine l_val (v := Value.int .i64 0) rfl (e_assign rfl) ?_
  refine l_nil ?_
  refine run_seq ?_
  refine run_block ?_
  refine run_seq ?_
  refine run_region rfl ?_
  refine l_val (v := Value.agg (List.toArray [Value.int .i64 g.1, g_v])) rfl (e_load_bxN (ds := [Value.int .i64 g.1, g_v]) tp24_f rfl bx5 rfl rfl) ?_
  refine l_op rfl ?_
  refine o_call (v := Value.bool (mayB g)) (e_call (vals := [Value.agg (List.toArray [Value.int .i64 g.1, g_v])]) Try.func23 bd23_f nm23_f rfl) (May_ok w6 g g_v (r_g_v).ro) ?_
  intro w11 hb12
  replace hb12 := chg_below hb12 g9
  replace hbase := hbase.chg hb12 (not_no _)
  replace r_g_v := r_g_v.chg hb12 (not_no _)
  replace bx5 := bx5.chg hb12 (not_no _)
  replace bx10 := bx10.chg hb12 (not_no _)
  refine l_val (v := Value.bool (!(mayB g))) rfl (e_not (b := (mayB g)) rfl) ?_
  refine l_val (v := Value.bool (!(mayB g))) rfl (e_assign rfl) ?_
  refine l_nil ?_
  by_cases p1 : (mayB g) = true
  · skip
    have hm := of_decide_eq_true p1
    have hm0 := hm
    obtain ⟨hm1, hm2, hm3, hm4⟩ := hm0
    refine run_cond_f rfl (congrArg Bool.not p1) ?_
    refine run_seq ?_
    refine run_region rfl ?_
    refine l_val (v := Value.agg (List.toArray [Value.int .i64 g.1, g_v])) rfl (e_load_bxN (ds := [Value.int .i64 g.1, g_v]) tp24_f rfl bx5 rfl rfl) ?_
    refine l_val (v := Value.int .i64 u) rfl (e_move rfl) ?_
    refine l_op rfl ?_
    refine o_call (v := Value.bool (decide (0 ≤ u ∧ u < g.1))) (e_call (vals := [Value.agg (List.toArray [Value.int .i64 g.1, g_v]), Value.int .i64 u]) Try.func38 bd38_f nm38_f rfl) (there_ok w11 g g_v (r_g_v).ro u) ?_
    intro w13 hb14
    replace hb14 := chg_below hb14 g9
    replace hbase := hbase.chg hb14 (not_no _)
    replace r_g_v := r_g_v.chg hb14 (not_no _)
    replace bx5 := bx5.chg hb14 (not_no _)
    replace bx10 := bx10.chg hb14 (not_no _)
    refine l_val (v := Value.bool (!(decide (0 ≤ u ∧ u < g.1)))) rfl (e_not (b := (decide (0 ≤ u ∧ u < g.1))) rfl) ?_
    refine l_val (v := Value.bool (!(decide (0 ≤ u ∧ u < g.1)))) rfl (e_move rfl) ?_
    by_cases q21 : (decide (0 ≤ u ∧ u < g.1)) = true
    · skip
      refine l_val (v := Value.agg (List.toArray [Value.int .i64 g.1, g_v])) (want_y rfl rfl rfl (congrArg Bool.not q21)) (e_load_bxN (ds := [Value.int .i64 g.1, g_v]) tp24_f rfl bx5 rfl rfl) ?_
      refine l_val (v := Value.int .i64 v) (want_y rfl rfl rfl (congrArg Bool.not q21)) (e_move rfl) ?_
      refine l_op (want_y rfl rfl rfl (congrArg Bool.not q21)) ?_
      refine o_call (v := Value.bool (decide (0 ≤ v ∧ v < g.1))) (e_call (vals := [Value.agg (List.toArray [Value.int .i64 g.1, g_v]), Value.int .i64 v]) Try.func38 bd38_f nm38_f rfl) (there_ok w13 g g_v (r_g_v).ro v) ?_
      intro w15 hb16
      replace hb16 := chg_below hb16 g9
      replace hbase := hbase.chg hb16 (not_no _)
      replace r_g_v := r_g_v.chg hb16 (not_no _)
      replace bx5 := bx5.chg hb16 (not_no _)
      replace bx10 := bx10.chg hb16 (not_no _)
      refine l_val (v := Value.bool (!(decide (0 ≤ v ∧ v < g.1)))) (want_y rfl rfl rfl (congrArg Bool.not q21)) (e_not (b := (decide (0 ≤ v ∧ v < g.1))) rfl) ?_
      refine l_val (v := Value.bool (!(decide (0 ≤ v ∧ v < g.1)))) rfl (e_pick_f rfl (congrArg Bool.not q21) rfl) ?_
      refine l_val (v := Value.bool (!(decide (0 ≤ v ∧ v < g.1)))) rfl (e_assign rfl) ?_
      refine l_nil ?_
      by_cases p3 : (decide (0 ≤ v ∧ v < g.1)) = true
      · skip
        refine run_cond_f rfl (congrArg Bool.not p3) ?_
        refine run_seq ?_
        refine run_region rfl ?_
        refine l_val (v := Value.int .i64 u) rfl (e_move rfl) ?_
        refine l_val (v := Value.int .i64 v) rfl (e_move rfl) ?_
        refine l_val (v := Value.bool (decide (u = v))) rfl (e_eql (m := u) (n := v) rfl rfl) ?_
        refine l_val (v := Value.bool (decide (u = v))) rfl (e_assign rfl) ?_
        refine l_nil ?_
        by_cases p5 : u = v
        · skip
          refine run_cond_t rfl (decide_eq_true p5) ?_
          refine run_seq ?_
          clear bx5
          refine run_region rfl ?_
          refine l_val (v := Value.agg (List.toArray [Value.int .i64 0, Value.slice none 0 0])) rfl (e_build (vs := []) rfl (by kernel_rfl)) ?_
          refine l_op rfl ?_
          refine o_store_bx (cs' := [Value.int .i64 0, Value.slice none 0 0]) tp24_f rfl rfl bx10 rfl (Nat.le_of_ble_eq_true rfl) (AllOne.all (.cons rfl (.cons rfl .nil))) rfl ?_
          intro w17 ch18 bx19
          replace hbase := hbase.chg ch18 (is_ne rfl)
          replace r_g_v := r_g_v.chg ch18 (is_ne rfl)
          clear bx10
          refine l_val (v := Value.slice none 0 0) rfl (e_assign rfl) ?_
          refine l_val (v := Value.int .i64 1) rfl (e_assign rfl) ?_
          refine l_nil ?_
          refine run_ret (vs := [Value.agg (List.toArray [Value.int .i64 0, Value.slice none 0 0]), Value.slice none 0 0, Value.int .i64 1]) Try.func27 (.cell rfl (load_bxN (ds := [Value.int .i64 0, Value.slice none 0 0]) tp24_f bx19 rfl rfl) (.tmp rfl (.tmp rfl .nil))) ?_
          -- return 0
          have e0 : ((0, []) : (Int) × (List ((Int) × (Int)))) = ((mergeR g u v).1) := by
            first
              | (have hn : ¬ MayP g := fun h => p1 (decide_eq_true h)
                 simp only [mergeR, if_neg hn]; done)
              | (have hn : ¬ ((0 ≤ u ∧ u < g.1) ∧ 0 ≤ v ∧ v < g.1) := fun h => q21 (decide_eq_true h.1)
                 simp only [mergeR, if_pos hm, if_neg hn]; done)
              | (have hn : ¬ ((0 ≤ u ∧ u < g.1) ∧ 0 ≤ v ∧ v < g.1) := fun h => p3 (decide_eq_true h.2)
                 simp only [mergeR, if_pos hm, if_neg hn]; done)
              | (have ha : (0 ≤ u ∧ u < g.1) ∧ 0 ≤ v ∧ v < g.1 := ⟨of_decide_eq_true q21, of_decide_eq_true p3⟩
                 simp only [mergeR, if_pos hm, if_pos ha, if_pos p5]; done)
              | (have ha : (0 ≤ u ∧ u < g.1) ∧ 0 ≤ v ∧ v < g.1 := ⟨of_decide_eq_true q21, of_decide_eq_true p3⟩
                 simp only [mergeR, if_pos hm, if_pos ha, if_neg p5, ← hdn]; done)
          have e1 : ([] : List Int) = ((mergeR g u v).2.1) := by
            first
              | (have hn : ¬ MayP g := fun h => p1 (decide_eq_true h)
                 simp only [mergeR, if_neg hn]; done)
              | (have hn : ¬ ((0 ≤ u ∧ u < g.1) ∧ 0 ≤ v ∧ v < g.1) := fun h => q21 (decide_eq_true h.1)
                 simp only [mergeR, if_pos hm, if_neg hn]; done)
              | (have hn : ¬ ((0 ≤ u ∧ u < g.1) ∧ 0 ≤ v ∧ v < g.1) := fun h => p3 (decide_eq_true h.2)
                 simp only [mergeR, if_pos hm, if_neg hn]; done)
              | (have ha : (0 ≤ u ∧ u < g.1) ∧ 0 ≤ v ∧ v < g.1 := ⟨of_decide_eq_true q21, of_decide_eq_true p3⟩
                 simp only [mergeR, if_pos hm, if_pos ha, if_pos p5]; done)
              | (have ha : (0 ≤ u ∧ u < g.1) ∧ 0 ≤ v ∧ v < g.1 := ⟨of_decide_eq_true q21, of_decide_eq_true p3⟩
                 simp only [mergeR, if_pos hm, if_pos ha, if_neg p5, ← hdn]; done)
          have e2 : (1 : Int) = ((mergeR g u v).2.2) := by
            first
              | (have hn : ¬ MayP g := fun h => p1 (decide_eq_true h)
                 simp only [mergeR, if_neg hn]; done)
              | (have hn : ¬ ((0 ≤ u ∧ u < g.1) ∧ 0 ≤ v ∧ v < g.1) := fun h => q21 (decide_eq_true h.1)
                 simp only [mergeR, if_pos hm, if_neg hn]; done)
              | (have hn : ¬ ((0 ≤ u ∧ u < g.1) ∧ 0 ≤ v ∧ v < g.1) := fun h => p3 (decide_eq_true h.2)
                 simp only [mergeR, if_pos hm, if_neg hn]; done)
              | (have ha : (0 ≤ u ∧ u < g.1) ∧ 0 ≤ v ∧ v < g.1 := ⟨of_decide_eq_true q21, of_decide_eq_true p3⟩
                 simp only [mergeR, if_pos hm, if_pos ha, if_pos p5]; done)
              | (have ha : (0 ≤ u ∧ u < g.1) ∧ 0 ≤ v ∧ v < g.1 := ⟨of_decide_eq_true q21, of_decide_eq_true p3⟩
                 simp only [mergeR, if_pos hm, if_pos ha, if_neg p5, ← hdn]; done)
          exact ⟨(fin w0 g9 (fun n => 0), (Value.slice none 0 0), (Value.slice none 0 0)), (congr3 (a := (0, [])) (b := []) (c := 1) (fun (z0 : (Int) × (List ((Int) × (Int)))) (z1 : List Int) (z2 : Int) => Ending.returned (Value.tuple (List.toArray [Value.agg (List.toArray [Value.int .i64 z0.1, Value.slice none 0 0]), Value.slice none 0 0, Value.int .i64 z2]))) e0 e1 e2), hbase.fresh _, ((congrArg (fun (z : (Int) × (List ((Int) × (Int)))) => z.2) e0) ▸ Ow.nil), (e1 ▸ Ow.nil)⟩
        · skip
          obtain ⟨hu1, hu2⟩ := of_decide_eq_true q21
          obtain ⟨hv1, hv2⟩ := of_decide_eq_true p3
          refine run_cond_f rfl (decide_eq_false p5) ?_
          refine run_skip ?_
          refine run_inBlock ?_
          refine run_seq ?_
          refine run_region rfl ?_
          refine l_val (v := Value.pointer (some ⟨b3, 0, none⟩)) rfl (e_fieldAddr Try.underlying24 rfl rfl rfl rfl) ?_
          refine l_val (v := Value.int .i64 g.1) rfl (e_load_bx1 tp3_f rfl bx5 rfl) ?_
          refine l_op rfl ?_
          refine o_make (α := Int) (l := g.1) (cp := g.1) g9 (is 3) (is 3) (3, 0) rfl (0 : Int) Try.underlying25 tp3_f rfl rfl rfl (by omega) (by omega) (by omega) (by omega) ?_
          intro g20 w21 v22 ch23 o24 _
          replace hbase := hbase.chg ch23 (not_no _)
          replace r_g_v := r_g_v.chg ch23 (not_no _)
          replace bx5 := bx5.chg ch23 (not_no _)
          replace bx10 := bx10.chg ch23 (not_no _)
          refine l_val (v := v22) rfl (e_assign rfl) ?_
          refine l_nil ?_
          refine run_seq ?_
          refine run_seq ?_
          refine run_region rfl ?_
          refine l_val (v := v22) rfl (e_move rfl) ?_
          have len25 := (o24.flat).small
          refine l_val (v := Value.int .i64 (List.length (List.replicate (Int.toNat g.1) (0 : Int)) : Int)) rfl (e_len Try.underlying25 rfl o24.flat) ?_
          refine l_val (v := Value.int .i64 0) rfl (e_move rfl) ?_
          refine l_nil ?_
          refine run_block ?_
          refine run_loop (σ := Nat × (List Int) × Cmap) (fun ⟨i, to, gq⟩ f w => Base w0 gq w ∧ f 1 = Value.int .i64 u ∧ f 2 = Value.int .i64 v ∧ f 3 = Value.pointer (some ⟨b3, 0, none⟩) ∧ f 6 = Value.pointer (some ⟨b8, 0, none⟩) ∧ f 9 = v22 ∧ f 37 = Value.int .i64 (List.length (List.replicate (Int.toNat g.1) (0 : Int)) : Int) ∧ f 38 = Value.int .i64 (i : Int) ∧ Sl gq (is 0) w g_v g.2 ∧ Bx gq (is 1) w b3 [Value.int .i64 g.1, g_v] ∧ Bx gq (is 2) w b8 [Value.int .i64 0, Value.slice none 0 0] ∧ Ow gq (is 3) (is 3) w v22 to ∧ (i : Int) ≤ ((List.length (List.replicate (Int.toNat g.1) (0 : Int)) : Int) : Int) ∧ (MrgInv to g.1 v i)) (fun ⟨i, to, gq⟩ => Int.toNat (((List.length (List.replicate (Int.toNat g.1) (0 : Int)) : Int) : Int) - (i : Int))) (0, (List.replicate (Int.toNat g.1) (0 : Int)), g20) ?_ ?_
          · exact ⟨hbase, rfl, rfl, rfl, rfl, rfl, rfl, rfl, r_g_v, bx5, bx10, o24, by omega, by exact MrgInv.start hm1⟩
          clear r_g_v
          clear bx5
          clear bx10
          clear o24
          clear hbase
          rintro ⟨i, to, g28⟩ f26 w27 ⟨hbase, zs1, zs2, zs3, zs6, zs9, zs37, zs38, r_g_v, bx5, bx10, o24, hle_i, hinv⟩ back9
          have htl := hinv.len
          refine run_seq ?_
          refine run_region rfl ?_
          refine l_val (v := Value.bool (decide ((i : Int) < (List.length (List.replicate (Int.toNat g.1) (0 : Int)) : Int)))) rfl (e_lss (m := (i : Int)) (n := (List.length (List.replicate (Int.toNat g.1) (0 : Int)) : Int)) (by exact zs38) (by exact zs37)) ?_
          refine l_nil ?_
          refine run_seq ?_
          by_cases p9 : (i : Int) < (List.length (List.replicate (Int.toNat g.1) (0 : Int)) : Int)
          · skip
            refine run_cond_t rfl (decide_eq_true p9) ?_
            have hig : (i : Int) < g.1 := by have h9 := p9; simp only [List.length_replicate] at h9; omega
            refine run_skip ?_
            refine run_seq ?_
            refine run_block ?_
            refine run_seq ?_
            refine run_region rfl ?_
            refine l_val (v := Value.int .i64 (i : Int)) rfl (e_move (by exact zs38)) ?_
            refine l_val (v := Value.int .i64 (i : Int)) rfl (e_assign rfl) ?_
            refine l_nil ?_
            refine run_seq ?_
            refine run_region rfl ?_
            refine l_val (v := v22) rfl (e_move (by exact zs9)) ?_
            refine l_val (v := Value.int .i64 (i : Int)) rfl (e_move rfl) ?_
            refine l_val (v := Value.int .i64 (i : Int)) rfl (e_move rfl) ?_
            refine l_val (v := Value.pointer (some (eAddr v22 1 (Int.toNat (i : Int))))) rfl (e_indexAddr (α := Int) (xs := to) (v := v22) (i := (i : Int)) Try.underlying25 rfl rfl o24.flat rfl (by omega) (by omega)) ?_
            refine l_op rfl ?_
            refine o_store_el (i := (i : Int)) (i : Int) tp3_f rfl rfl o24 (by omega) (by omega) rfl ?_
            intro w29 ch30 bx31
            replace hbase := hbase.chg ch30 (is_ne rfl)
            replace r_g_v := r_g_v.chg ch30 (is_ne rfl)
            replace bx5 := bx5.chg ch30 (is_ne rfl)
            replace bx10 := bx10.chg ch30 (is_ne rfl)
            clear o24
            refine l_nil ?_
            refine run_seq ?_
            refine run_region rfl ?_
            refine l_val (v := Value.int .i64 (i : Int)) rfl (e_move rfl) ?_
            refine l_val (v := Value.int .i64 v) rfl (e_move (by exact zs2)) ?_
            refine l_val (v := Value.bool (decide (v < (i : Int)))) rfl (e_gtr (m := (i : Int)) (n := v) rfl rfl) ?_
            refine l_nil ?_
            by_cases p12 : v < (i : Int)
            · skip
              refine run_cond_t rfl (decide_eq_true p12) ?_
              refine run_region rfl ?_
              refine l_val (v := v22) rfl (e_move (by exact zs9)) ?_
              refine l_val (v := Value.int .i64 (i : Int)) rfl (e_move rfl) ?_
              refine l_val (v := Value.int .i64 (i : Int)) rfl (e_move rfl) ?_
              refine l_val (v := Value.int .i64 ((i : Int) - 1)) rfl (e_sub (m := (i : Int)) (n := 1) rfl rfl (by omega)) ?_
              refine l_val (v := Value.pointer (some (eAddr v22 1 (Int.toNat (i : Int))))) rfl (e_indexAddr (α := Int) (xs := (List.set to (Int.toNat (i : Int)) (i : Int))) (v := v22) (i := (i : Int)) Try.underlying25 rfl rfl bx31.flat rfl (by omega) (by first | omega | (simp only [List.length_set, List.length_append, List.length_cons, List.length_nil, List.length_replicate, List.length_map, List.length_take, List.length_drop]; omega))) ?_
              refine l_op rfl ?_
              refine o_store_el (i := (i : Int)) ((i : Int) - 1) tp3_f rfl rfl bx31 (by omega) (by first | omega | (simp only [List.length_set, List.length_append, List.length_cons, List.length_nil, List.length_replicate, List.length_map, List.length_take, List.length_drop]; omega)) rfl ?_
              intro w32 ch33 bx34
              replace hbase := hbase.chg ch33 (is_ne rfl)
              replace r_g_v := r_g_v.chg ch33 (is_ne rfl)
              replace bx5 := bx5.chg ch33 (is_ne rfl)
              replace bx10 := bx10.chg ch33 (is_ne rfl)
              clear bx31
              refine l_nil ?_
              refine run_inBlock ?_
              refine run_region rfl ?_
              refine l_val (v := Value.int .i64 ((i : Int) + 1)) rfl (e_add (m := (i : Int)) (n := 1) (by exact zs38) rfl (by omega)) ?_
              refine l_val (v := Value.int .i64 ((i : Int) + 1)) rfl (e_move rfl) ?_
              refine l_nil ?_
              refine back9 (i + 1, (List.set (List.set to (Int.toNat (i : Int)) (i : Int)) (Int.toNat (i : Int)) ((i : Int) - 1)), g28) _ _ ⟨hbase, (by exact zs1), (by exact zs2), (by exact zs3), (by exact zs6), (by exact zs9), (by exact zs37), rfl, r_g_v, bx5, bx10, bx34, by omega, ?_⟩ ?_
              · show MrgInv (List.set (List.set to (Int.toNat (i : Int)) (i : Int)) (Int.toNat (i : Int)) ((i : Int) - 1)) g.1 v (i + 1)
                first
                  | exact hinv.yes (by have h9 := p9; simp only [List.length_replicate] at h9; omega) (by assumption)
                  | exact hinv.no (by have h9 := p9; simp only [List.length_replicate] at h9; omega) (by assumption)
              · show Int.toNat (((List.length (List.replicate (Int.toNat g.1) (0 : Int)) : Int) : Int) - ((i + 1) : Int)) < Int.toNat (((List.length (List.replicate (Int.toNat g.1) (0 : Int)) : Int) : Int) - (i : Int))
                omega
            · skip
              refine run_cond_f rfl (decide_eq_false p12) ?_
              refine run_skip ?_
              refine run_inBlock ?_
              refine run_region rfl ?_
              refine l_val (v := Value.int .i64 ((i : Int) + 1)) rfl (e_add (m := (i : Int)) (n := 1) (by exact zs38) rfl (by omega)) ?_
              refine l_val (v := Value.int .i64 ((i : Int) + 1)) rfl (e_move rfl) ?_
              refine l_nil ?_
              refine back9 (i + 1, (List.set to (Int.toNat (i : Int)) (i : Int)), g28) _ _ ⟨hbase, (by exact zs1), (by exact zs2), (by exact zs3), (by exact zs6), (by exact zs9), (by exact zs37), rfl, r_g_v, bx5, bx10, bx31, by omega, ?_⟩ ?_
              · show MrgInv (List.set to (Int.toNat (i : Int)) (i : Int)) g.1 v (i + 1)
                first
                  | exact hinv.yes (by have h9 := p9; simp only [List.length_replicate] at h9; omega) (by assumption)
                  | exact hinv.no (by have h9 := p9; simp only [List.length_replicate] at h9; omega) (by assumption)
              · show Int.toNat (((List.length (List.replicate (Int.toNat g.1) (0 : Int)) : Int) : Int) - ((i + 1) : Int)) < Int.toNat (((List.length (List.replicate (Int.toNat g.1) (0 : Int)) : Int) : Int) - (i : Int))
                omega
          · skip
            have hdn := hinv.done (u := u) (by have h9 := p9; have h8 := hle_i; simp only [List.length_replicate] at h9 h8; omega) ⟨hu1, hu2⟩ ⟨hv1, hv2⟩ p5
            have hil := hinv.len
            refine run_cond_f rfl (decide_eq_false p9) ?_
            refine run_exit rfl ?_
            refine run_seq ?_
            refine run_region rfl ?_
            refine l_val (v := v22) rfl (e_move (by exact zs9)) ?_
            refine l_val (v := Value.int .i64 v) rfl (e_move (by exact zs2)) ?_
            refine l_val (v := v22) rfl (e_move (by exact zs9)) ?_
            refine l_val (v := Value.int .i64 u) rfl (e_move (by exact zs1)) ?_
            refine l_val (v := Value.pointer (some (eAddr v22 1 (Int.toNat u)))) rfl (e_indexAddr (α := Int) (xs := to) (v := v22) (i := u) Try.underlying25 rfl rfl o24.flat rfl (by omega) (by omega)) ?_
            refine l_val (v := Value.int .i64 (gI to u)) rfl (e_load_el1 (α := Int) (xs := to) (v := v22) (i := u) tp3_f rfl o24.flat (by omega) (by omega) (by decide) rfl) ?_
            refine l_val (v := Value.pointer (some (eAddr v22 1 (Int.toNat v)))) rfl (e_indexAddr (α := Int) (xs := to) (v := v22) (i := v) Try.underlying25 rfl rfl o24.flat rfl (by omega) (by omega)) ?_
            refine l_op rfl ?_
            refine o_store_el (i := v) (gI to u) tp3_f rfl rfl o24 (by omega) (by omega) rfl ?_
            intro w35 ch36 bx37
            replace hbase := hbase.chg ch36 (is_ne rfl)
            replace r_g_v := r_g_v.chg ch36 (is_ne rfl)
            replace bx5 := bx5.chg ch36 (is_ne rfl)
            replace bx10 := bx10.chg ch36 (is_ne rfl)
            clear o24
            refine l_nil ?_
            refine run_seq ?_
            refine run_region rfl ?_
            refine l_val (v := Value.agg (List.toArray [Value.int .i64 g.1, g_v])) rfl (e_load_bxN (ds := [Value.int .i64 g.1, g_v]) tp24_f (by exact zs3) bx5 rfl rfl) ?_
            refine l_val (v := v22) rfl (e_move (by exact zs9)) ?_
            refine l_val (v := Value.pointer (some ⟨b3, 0, none⟩)) rfl (e_fieldAddr Try.underlying24 rfl rfl (by exact zs3) rfl) ?_
            refine l_val (v := Value.int .i64 g.1) rfl (e_load_bx1 tp3_f rfl bx5 rfl) ?_
            refine l_val (v := Value.int .i64 (g.1 - 1)) rfl (e_sub (m := g.1) (n := 1) rfl rfl (by omega)) ?_
            refine l_op rfl ?_
            refine o_callx (e_call (vals := [Value.agg (List.toArray [Value.int .i64 g.1, g_v]), v22, Value.int .i64 (g.1 - 1)]) Try.func39 bd39_f nm39_f rfl) (renamed_ok w35 g g_v (r_g_v).ro (List.set to (Int.toNat v) (gI to u)) v22 (bx37.flat).ro (g.1 - 1) (by first | exact hm | (simp; omega)) (by first | exact hm | (simp; omega))) ?_
            rintro ⟨d39, v41⟩ w38 ⟨fr40, o42⟩
            obtain ⟨g43, hg43⟩ : ∃ q, q = glue w35.heap.size g28 d39 (fun n => if n = 1 then 4 else 0) := ⟨_, rfl⟩
            have ch44 := chg_glue fr40.below g28 d39 (fun n => if n = 1 then 4 else 0)
            rw [← hg43] at ch44
            replace hbase := hbase.chg ch44 (not_no _)
            replace r_g_v := r_g_v.chg ch44 (not_no _)
            replace bx5 := bx5.chg ch44 (not_no _)
            replace bx10 := bx10.chg ch44 (not_no _)
            replace bx37 := bx37.chg ch44 (not_no _) (not_no _)
            replace o42 := o42.glue (γ := g28) (ren := (fun n => if n = 1 then 4 else 0)) (k := 4) fr40.col rfl rfl
            rw [← hg43] at o42
            clear hg43
            refine l_val (v := v22) rfl (e_move (by exact zs9)) ?_
            refine l_op rfl ?_
            refine o_store_bx (cs' := [Value.int .i64 ((renR g (List.set to (Int.toNat v) (gI to u)) (g.1 - 1)).1), v41]) tp24_f (by exact zs6) rfl bx10 rfl (Nat.le_of_ble_eq_true rfl) (AllOne.all (.cons rfl (.cons (sl_one o42.flat) .nil))) rfl ?_
            intro w45 ch46 bx47
            replace hbase := hbase.chg ch46 (is_ne rfl)
            replace r_g_v := r_g_v.chg ch46 (is_ne rfl)
            replace bx5 := bx5.chg ch46 (is_ne rfl)
            replace bx37 := bx37.chg ch46 (is_ne rfl) (is_ne rfl)
            replace o42 := o42.chg ch46 (is_ne rfl) (is_ne rfl)
            clear bx10
            refine l_val (v := v22) rfl (e_assign rfl) ?_
            refine l_val (v := Value.int .i64 0) rfl (e_assign rfl) ?_
            refine l_nil ?_
            refine run_ret (vs := [Value.agg (List.toArray [Value.int .i64 ((renR g (List.set to (Int.toNat v) (gI to u)) (g.1 - 1)).1), v41]), v22, Value.int .i64 0]) Try.func27 (.cell (by exact zs6) (load_bxN (ds := [Value.int .i64 ((renR g (List.set to (Int.toNat v) (gI to u)) (g.1 - 1)).1), v41]) tp24_f bx47 rfl rfl) (.tmp rfl (.tmp rfl .nil))) ?_
            -- return 1
            have e0 : ((renR g (List.set to (Int.toNat v) (gI to u)) (g.1 - 1)) : (Int) × (List ((Int) × (Int)))) = ((mergeR g u v).1) := by
              first
                | (have hn : ¬ MayP g := fun h => p1 (decide_eq_true h)
                   simp only [mergeR, if_neg hn]; done)
                | (have hn : ¬ ((0 ≤ u ∧ u < g.1) ∧ 0 ≤ v ∧ v < g.1) := fun h => q21 (decide_eq_true h.1)
                   simp only [mergeR, if_pos hm, if_neg hn]; done)
                | (have hn : ¬ ((0 ≤ u ∧ u < g.1) ∧ 0 ≤ v ∧ v < g.1) := fun h => p3 (decide_eq_true h.2)
                   simp only [mergeR, if_pos hm, if_neg hn]; done)
                | (have ha : (0 ≤ u ∧ u < g.1) ∧ 0 ≤ v ∧ v < g.1 := ⟨of_decide_eq_true q21, of_decide_eq_true p3⟩
                   simp only [mergeR, if_pos hm, if_pos ha, if_pos p5]; done)
                | (have ha : (0 ≤ u ∧ u < g.1) ∧ 0 ≤ v ∧ v < g.1 := ⟨of_decide_eq_true q21, of_decide_eq_true p3⟩
                   simp only [mergeR, if_pos hm, if_pos ha, if_neg p5, ← hdn]; done)
            have e1 : ((List.set to (Int.toNat v) (gI to u)) : List Int) = ((mergeR g u v).2.1) := by
              first
                | (have hn : ¬ MayP g := fun h => p1 (decide_eq_true h)
                   simp only [mergeR, if_neg hn]; done)
                | (have hn : ¬ ((0 ≤ u ∧ u < g.1) ∧ 0 ≤ v ∧ v < g.1) := fun h => q21 (decide_eq_true h.1)
                   simp only [mergeR, if_pos hm, if_neg hn]; done)
                | (have hn : ¬ ((0 ≤ u ∧ u < g.1) ∧ 0 ≤ v ∧ v < g.1) := fun h => p3 (decide_eq_true h.2)
                   simp only [mergeR, if_pos hm, if_neg hn]; done)
                | (have ha : (0 ≤ u ∧ u < g.1) ∧ 0 ≤ v ∧ v < g.1 := ⟨of_decide_eq_true q21, of_decide_eq_true p3⟩
                   simp only [mergeR, if_pos hm, if_pos ha, if_pos p5]; done)
                | (have ha : (0 ≤ u ∧ u < g.1) ∧ 0 ≤ v ∧ v < g.1 := ⟨of_decide_eq_true q21, of_decide_eq_true p3⟩
                   simp only [mergeR, if_pos hm, if_pos ha, if_neg p5, ← hdn]; done)
            have e2 : (0 : Int) = ((mergeR g u v).2.2) := by
              first
                | (have hn : ¬ MayP g := fun h => p1 (decide_eq_true h)
                   simp only [mergeR, if_neg hn]; done)
                | (have hn : ¬ ((0 ≤ u ∧ u < g.1) ∧ 0 ≤ v ∧ v < g.1) := fun h => q21 (decide_eq_true h.1)
                   simp only [mergeR, if_pos hm, if_neg hn]; done)
                | (have hn : ¬ ((0 ≤ u ∧ u < g.1) ∧ 0 ≤ v ∧ v < g.1) := fun h => p3 (decide_eq_true h.2)
                   simp only [mergeR, if_pos hm, if_neg hn]; done)
                | (have ha : (0 ≤ u ∧ u < g.1) ∧ 0 ≤ v ∧ v < g.1 := ⟨of_decide_eq_true q21, of_decide_eq_true p3⟩
                   simp only [mergeR, if_pos hm, if_pos ha, if_pos p5]; done)
                | (have ha : (0 ≤ u ∧ u < g.1) ∧ 0 ≤ v ∧ v < g.1 := ⟨of_decide_eq_true q21, of_decide_eq_true p3⟩
                   simp only [mergeR, if_pos hm, if_pos ha, if_neg p5, ← hdn]; done)
            exact ⟨(fin w0 g43 (fun n => if n = 4 then 1 else if n = 3 then 2 else 0), v41, v22), (congr3 (a := (renR g (List.set to (Int.toNat v) (gI to u)) (g.1 - 1))) (b := (List.set to (Int.toNat v) (gI to u))) (c := 0) (fun (z0 : (Int) × (List ((Int) × (Int)))) (z1 : List Int) (z2 : Int) => Ending.returned (Value.tuple (List.toArray [Value.agg (List.toArray [Value.int .i64 z0.1, v41]), v22, Value.int .i64 z2]))) e0 e1 e2), hbase.fresh _, ((congrArg (fun (z : (Int) × (List ((Int) × (Int)))) => z.2) e0) ▸ (o42.glue (γ := c0) (ren := (fun n => if n = 4 then 1 else if n = 3 then 2 else 0)) (k := 1) hbase.col rfl rfl)), (e1 ▸ (bx37.glue (γ := c0) (ren := (fun n => if n = 4 then 1 else if n = 3 then 2 else 0)) (k := 2) hbase.col rfl rfl))⟩
      · skip
        refine run_cond_t rfl (congrArg Bool.not (Bool.eq_false_iff.2 p3)) ?_
        refine run_seq ?_
        clear bx5
        refine run_region rfl ?_
        refine l_val (v := Value.agg (List.toArray [Value.int .i64 0, Value.slice none 0 0])) rfl (e_build (vs := []) rfl (by kernel_rfl)) ?_
        refine l_op rfl ?_
        refine o_store_bx (cs' := [Value.int .i64 0, Value.slice none 0 0]) tp24_f rfl rfl bx10 rfl (Nat.le_of_ble_eq_true rfl) (AllOne.all (.cons rfl (.cons rfl .nil))) rfl ?_
        intro w48 ch49 bx50
        replace hbase := hbase.chg ch49 (is_ne rfl)
        replace r_g_v := r_g_v.chg ch49 (is_ne rfl)
        clear bx10
        refine l_val (v := Value.slice none 0 0) rfl (e_assign rfl) ?_
        refine l_val (v := Value.int .i64 2) rfl (e_assign rfl) ?_
        refine l_nil ?_
        refine run_ret (vs := [Value.agg (List.toArray [Value.int .i64 0, Value.slice none 0 0]), Value.slice none 0 0, Value.int .i64 2]) Try.func27 (.cell rfl (load_bxN (ds := [Value.int .i64 0, Value.slice none 0 0]) tp24_f bx50 rfl rfl) (.tmp rfl (.tmp rfl .nil))) ?_
        -- return 2
        have e0 : ((0, []) : (Int) × (List ((Int) × (Int)))) = ((mergeR g u v).1) := by
          first
            | (have hn : ¬ MayP g := fun h => p1 (decide_eq_true h)
               simp only [mergeR, if_neg hn]; done)
            | (have hn : ¬ ((0 ≤ u ∧ u < g.1) ∧ 0 ≤ v ∧ v < g.1) := fun h => q21 (decide_eq_true h.1)
               simp only [mergeR, if_pos hm, if_neg hn]; done)
            | (have hn : ¬ ((0 ≤ u ∧ u < g.1) ∧ 0 ≤ v ∧ v < g.1) := fun h => p3 (decide_eq_true h.2)
               simp only [mergeR, if_pos hm, if_neg hn]; done)
            | (have ha : (0 ≤ u ∧ u < g.1) ∧ 0 ≤ v ∧ v < g.1 := ⟨of_decide_eq_true q21, of_decide_eq_true p3⟩
               simp only [mergeR, if_pos hm, if_pos ha, if_pos p5]; done)
            | (have ha : (0 ≤ u ∧ u < g.1) ∧ 0 ≤ v ∧ v < g.1 := ⟨of_decide_eq_true q21, of_decide_eq_true p3⟩
               simp only [mergeR, if_pos hm, if_pos ha, if_neg p5, ← hdn]; done)
        have e1 : ([] : List Int) = ((mergeR g u v).2.1) := by
          first
            | (have hn : ¬ MayP g := fun h => p1 (decide_eq_true h)
               simp only [mergeR, if_neg hn]; done)
            | (have hn : ¬ ((0 ≤ u ∧ u < g.1) ∧ 0 ≤ v ∧ v < g.1) := fun h => q21 (decide_eq_true h.1)
               simp only [mergeR, if_pos hm, if_neg hn]; done)
            | (have hn : ¬ ((0 ≤ u ∧ u < g.1) ∧ 0 ≤ v ∧ v < g.1) := fun h => p3 (decide_eq_true h.2)
               simp only [mergeR, if_pos hm, if_neg hn]; done)
            | (have ha : (0 ≤ u ∧ u < g.1) ∧ 0 ≤ v ∧ v < g.1 := ⟨of_decide_eq_true q21, of_decide_eq_true p3⟩
               simp only [mergeR, if_pos hm, if_pos ha, if_pos p5]; done)
            | (have ha : (0 ≤ u ∧ u < g.1) ∧ 0 ≤ v ∧ v < g.1 := ⟨of_decide_eq_true q21, of_decide_eq_true p3⟩
               simp only [mergeR, if_pos hm, if_pos ha, if_neg p5, ← hdn]; done)
        have e2 : (2 : Int) = ((mergeR g u v).2.2) := by
          first
            | (have hn : ¬ MayP g := fun h => p1 (decide_eq_true h)
               simp only [mergeR, if_neg hn]; done)
            | (have hn : ¬ ((0 ≤ u ∧ u < g.1) ∧ 0 ≤ v ∧ v < g.1) := fun h => q21 (decide_eq_true h.1)
               simp only [mergeR, if_pos hm, if_neg hn]; done)
            | (have hn : ¬ ((0 ≤ u ∧ u < g.1) ∧ 0 ≤ v ∧ v < g.1) := fun h => p3 (decide_eq_true h.2)
               simp only [mergeR, if_pos hm, if_neg hn]; done)
            | (have ha : (0 ≤ u ∧ u < g.1) ∧ 0 ≤ v ∧ v < g.1 := ⟨of_decide_eq_true q21, of_decide_eq_true p3⟩
               simp only [mergeR, if_pos hm, if_pos ha, if_pos p5]; done)
            | (have ha : (0 ≤ u ∧ u < g.1) ∧ 0 ≤ v ∧ v < g.1 := ⟨of_decide_eq_true q21, of_decide_eq_true p3⟩
               simp only [mergeR, if_pos hm, if_pos ha, if_neg p5, ← hdn]; done)
        exact ⟨(fin w0 g9 (fun n => 0), (Value.slice none 0 0), (Value.slice none 0 0)), (congr3 (a := (0, [])) (b := []) (c := 2) (fun (z0 : (Int) × (List ((Int) × (Int)))) (z1 : List Int) (z2 : Int) => Ending.returned (Value.tuple (List.toArray [Value.agg (List.toArray [Value.int .i64 z0.1, Value.slice none 0 0]), Value.slice none 0 0, Value.int .i64 z2]))) e0 e1 e2), hbase.fresh _, ((congrArg (fun (z : (Int) × (List ((Int) × (Int)))) => z.2) e0) ▸ Ow.nil), (e1 ▸ Ow.nil)⟩
    · skip
      refine l_skip (want_n rfl rfl rfl (congrArg Bool.not (Bool.eq_false_iff.2 q21))) ?_
      refine l_skip (want_n rfl rfl rfl (congrArg Bool.not (Bool.eq_false_iff.2 q21))) ?_
      refine l_skip (want_n rfl rfl rfl (congrArg Bool.not (Bool.eq_false_iff.2 q21))) ?_
      refine l_skip (want_n rfl rfl rfl (congrArg Bool.not (Bool.eq_false_iff.2 q21))) ?_
      refine l_val (v := Value.bool true) rfl (e_pick_t rfl (congrArg Bool.not (Bool.eq_false_iff.2 q21)) rfl) ?_
      refine l_val (v := Value.bool true) rfl (e_assign rfl) ?_
      refine l_nil ?_
      refine run_cond_t rfl rfl ?_
      refine run_seq ?_
      clear bx5
      refine run_region rfl ?_
      refine l_val (v := Value.agg (List.toArray [Value.int .i64 0, Value.slice none 0 0])) rfl (e_build (vs := []) rfl (by kernel_rfl)) ?_
      refine l_op rfl ?_
      refine o_store_bx (cs' := [Value.int .i64 0, Value.slice none 0 0]) tp24_f rfl rfl bx10 rfl (Nat.le_of_ble_eq_true rfl) (AllOne.all (.cons rfl (.cons rfl .nil))) rfl ?_
      intro w51 ch52 bx53
      replace hbase := hbase.chg ch52 (is_ne rfl)
      replace r_g_v := r_g_v.chg ch52 (is_ne rfl)
      clear bx10
      refine l_val (v := Value.slice none 0 0) rfl (e_assign rfl) ?_
      refine l_val (v := Value.int .i64 2) rfl (e_assign rfl) ?_
      refine l_nil ?_
      refine run_ret (vs := [Value.agg (List.toArray [Value.int .i64 0, Value.slice none 0 0]), Value.slice none 0 0, Value.int .i64 2]) Try.func27 (.cell rfl (load_bxN (ds := [Value.int .i64 0, Value.slice none 0 0]) tp24_f bx53 rfl rfl) (.tmp rfl (.tmp rfl .nil))) ?_
      -- return 3
      have e0 : ((0, []) : (Int) × (List ((Int) × (Int)))) = ((mergeR g u v).1) := by
        first
          | (have hn : ¬ MayP g := fun h => p1 (decide_eq_true h)
             simp only [mergeR, if_neg hn]; done)
          | (have hn : ¬ ((0 ≤ u ∧ u < g.1) ∧ 0 ≤ v ∧ v < g.1) := fun h => q21 (decide_eq_true h.1)
             simp only [mergeR, if_pos hm, if_neg hn]; done)
          | (have hn : ¬ ((0 ≤ u ∧ u < g.1) ∧ 0 ≤ v ∧ v < g.1) := fun h => p3 (decide_eq_true h.2)
             simp only [mergeR, if_pos hm, if_neg hn]; done)
          | (have ha : (0 ≤ u ∧ u < g.1) ∧ 0 ≤ v ∧ v < g.1 := ⟨of_decide_eq_true q21, of_decide_eq_true p3⟩
             simp only [mergeR, if_pos hm, if_pos ha, if_pos p5]; done)
          | (have ha : (0 ≤ u ∧ u < g.1) ∧ 0 ≤ v ∧ v < g.1 := ⟨of_decide_eq_true q21, of_decide_eq_true p3⟩
             simp only [mergeR, if_pos hm, if_pos ha, if_neg p5, ← hdn]; done)
      have e1 : ([] : List Int) = ((mergeR g u v).2.1) := by
        first
          | (have hn : ¬ MayP g := fun h => p1 (decide_eq_true h)
             simp only [mergeR, if_neg hn]; done)
          | (have hn : ¬ ((0 ≤ u ∧ u < g.1) ∧ 0 ≤ v ∧ v < g.1) := fun h => q21 (decide_eq_true h.1)
             simp only [mergeR, if_pos hm, if_neg hn]; done)
          | (have hn : ¬ ((0 ≤ u ∧ u < g.1) ∧ 0 ≤ v ∧ v < g.1) := fun h => p3 (decide_eq_true h.2)
             simp only [mergeR, if_pos hm, if_neg hn]; done)
          | (have ha : (0 ≤ u ∧ u < g.1) ∧ 0 ≤ v ∧ v < g.1 := ⟨of_decide_eq_true q21, of_decide_eq_true p3⟩
             simp only [mergeR, if_pos hm, if_pos ha, if_pos p5]; done)
          | (have ha : (0 ≤ u ∧ u < g.1) ∧ 0 ≤ v ∧ v < g.1 := ⟨of_decide_eq_true q21, of_decide_eq_true p3⟩
             simp only [mergeR, if_pos hm, if_pos ha, if_neg p5, ← hdn]; done)
      have e2 : (2 : Int) = ((mergeR g u v).2.2) := by
        first
          | (have hn : ¬ MayP g := fun h => p1 (decide_eq_true h)
             simp only [mergeR, if_neg hn]; done)
          | (have hn : ¬ ((0 ≤ u ∧ u < g.1) ∧ 0 ≤ v ∧ v < g.1) := fun h => q21 (decide_eq_true h.1)
             simp only [mergeR, if_pos hm, if_neg hn]; done)
          | (have hn : ¬ ((0 ≤ u ∧ u < g.1) ∧ 0 ≤ v ∧ v < g.1) := fun h => p3 (decide_eq_true h.2)
             simp only [mergeR, if_pos hm, if_neg hn]; done)
          | (have ha : (0 ≤ u ∧ u < g.1) ∧ 0 ≤ v ∧ v < g.1 := ⟨of_decide_eq_true q21, of_decide_eq_true p3⟩
             simp only [mergeR, if_pos hm, if_pos ha, if_pos p5]; done)
          | (have ha : (0 ≤ u ∧ u < g.1) ∧ 0 ≤ v ∧ v < g.1 := ⟨of_decide_eq_true q21, of_decide_eq_true p3⟩
             simp only [mergeR, if_pos hm, if_pos ha, if_neg p5, ← hdn]; done)
      exact ⟨(fin w0 g9 (fun n => 0), (Value.slice none 0 0), (Value.slice none 0 0)), (congr3 (a := (0, [])) (b := []) (c := 2) (fun (z0 : (Int) × (List ((Int) × (Int)))) (z1 : List Int) (z2 : Int) => Ending.returned (Value.tuple (List.toArray [Value.agg (List.toArray [Value.int .i64 z0.1, Value.slice none 0 0]), Value.slice none 0 0, Value.int .i64 z2]))) e0 e1 e2), hbase.fresh _, ((congrArg (fun (z : (Int) × (List ((Int) × (Int)))) => z.2) e0) ▸ Ow.nil), (e1 ▸ Ow.nil)⟩
  · skip
    refine run_cond_t rfl (congrArg Bool.not (Bool.eq_false_iff.2 p1)) ?_
    refine run_seq ?_
    clear bx5
    refine run_region rfl ?_
    refine l_val (v := Value.agg (List.toArray [Value.int .i64 0, Value.slice none 0 0])) rfl (e_build (vs := []) rfl (by kernel_rfl)) ?_
    refine l_op rfl ?_
    refine o_store_bx (cs' := [Value.int .i64 0, Value.slice none 0 0]) tp24_f rfl rfl bx10 rfl (Nat.le_of_ble_eq_true rfl) (AllOne.all (.cons rfl (.cons rfl .nil))) rfl ?_
    intro w54 ch55 bx56
    replace hbase := hbase.chg ch55 (is_ne rfl)
    replace r_g_v := r_g_v.chg ch55 (is_ne rfl)
    clear bx10
    refine l_val (v := Value.slice none 0 0) rfl (e_assign rfl) ?_
    refine l_val (v := Value.int .i64 1) rfl (e_assign rfl) ?_
    refine l_nil ?_
    refine run_ret (vs := [Value.agg (List.toArray [Value.int .i64 0, Value.slice none 0 0]), Value.slice none 0 0, Value.int .i64 1]) Try.func27 (.cell rfl (load_bxN (ds := [Value.int .i64 0, Value.slice none 0 0]) tp24_f bx56 rfl rfl) (.tmp rfl (.tmp rfl .nil))) ?_
    -- return 4
    have e0 : ((0, []) : (Int) × (List ((Int) × (Int)))) = ((mergeR g u v).1) := by
      first
        | (have hn : ¬ MayP g := fun h => p1 (decide_eq_true h)
           simp only [mergeR, if_neg hn]; done)
        | (have hn : ¬ ((0 ≤ u ∧ u < g.1) ∧ 0 ≤ v ∧ v < g.1) := fun h => q21 (decide_eq_true h.1)
           simp only [mergeR, if_pos hm, if_neg hn]; done)
        | (have hn : ¬ ((0 ≤ u ∧ u < g.1) ∧ 0 ≤ v ∧ v < g.1) := fun h => p3 (decide_eq_true h.2)
           simp only [mergeR, if_pos hm, if_neg hn]; done)
        | (have ha : (0 ≤ u ∧ u < g.1) ∧ 0 ≤ v ∧ v < g.1 := ⟨of_decide_eq_true q21, of_decide_eq_true p3⟩
           simp only [mergeR, if_pos hm, if_pos ha, if_pos p5]; done)
        | (have ha : (0 ≤ u ∧ u < g.1) ∧ 0 ≤ v ∧ v < g.1 := ⟨of_decide_eq_true q21, of_decide_eq_true p3⟩
           simp only [mergeR, if_pos hm, if_pos ha, if_neg p5, ← hdn]; done)
    have e1 : ([] : List Int) = ((mergeR g u v).2.1) := by
      first
        | (have hn : ¬ MayP g := fun h => p1 (decide_eq_true h)
           simp only [mergeR, if_neg hn]; done)
        | (have hn : ¬ ((0 ≤ u ∧ u < g.1) ∧ 0 ≤ v ∧ v < g.1) := fun h => q21 (decide_eq_true h.1)
           simp only [mergeR, if_pos hm, if_neg hn]; done)
        | (have hn : ¬ ((0 ≤ u ∧ u < g.1) ∧ 0 ≤ v ∧ v < g.1) := fun h => p3 (decide_eq_true h.2)
           simp only [mergeR, if_pos hm, if_neg hn]; done)
        | (have ha : (0 ≤ u ∧ u < g.1) ∧ 0 ≤ v ∧ v < g.1 := ⟨of_decide_eq_true q21, of_decide_eq_true p3⟩
           simp only [mergeR, if_pos hm, if_pos ha, if_pos p5]; done)
        | (have ha : (0 ≤ u ∧ u < g.1) ∧ 0 ≤ v ∧ v < g.1 := ⟨of_decide_eq_true q21, of_decide_eq_true p3⟩
           simp only [mergeR, if_pos hm, if_pos ha, if_neg p5, ← hdn]; done)
    have e2 : (1 : Int) = ((mergeR g u v).2.2) := by
      first
        | (have hn : ¬ MayP g := fun h => p1 (decide_eq_true h)
           simp only [mergeR, if_neg hn]; done)
        | (have hn : ¬ ((0 ≤ u ∧ u < g.1) ∧ 0 ≤ v ∧ v < g.1) := fun h => q21 (decide_eq_true h.1)
           simp only [mergeR, if_pos hm, if_neg hn]; done)
        | (have hn : ¬ ((0 ≤ u ∧ u < g.1) ∧ 0 ≤ v ∧ v < g.1) := fun h => p3 (decide_eq_true h.2)
           simp only [mergeR, if_pos hm, if_neg hn]; done)
        | (have ha : (0 ≤ u ∧ u < g.1) ∧ 0 ≤ v ∧ v < g.1 := ⟨of_decide_eq_true q21, of_decide_eq_true p3⟩
           simp only [mergeR, if_pos hm, if_pos ha, if_pos p5]; done)
        | (have ha : (0 ≤ u ∧ u < g.1) ∧ 0 ≤ v ∧ v < g.1 := ⟨of_decide_eq_true q21, of_decide_eq_true p3⟩
           simp only [mergeR, if_pos hm, if_pos ha, if_neg p5, ← hdn]; done)
    exact ⟨(fin w0 g9 (fun n => 0), (Value.slice none 0 0), (Value.slice none 0 0)), (congr3 (a := (0, [])) (b := []) (c := 1) (fun (z0 : (Int) × (List ((Int) × (Int)))) (z1 : List Int) (z2 : Int) => Ending.returned (Value.tuple (List.toArray [Value.agg (List.toArray [Value.int .i64 z0.1, Value.slice none 0 0]), Value.slice none 0 0, Value.int .i64 z2]))) e0 e1 e2), hbase.fresh _, ((congrArg (fun (z : (Int) × (List ((Int) × (Int)))) => z.2) e0) ▸ Ow.nil), (e1 ▸ Ow.nil)⟩

theorem Bare_ok (w0 : World) (g : (Int) × (List ((Int) × (Int)))) (g_v : Value) (hg_v : Ro w0 g_v g.2) :
    Calls Try.prog 28 #[Value.agg (List.toArray [Value.int .i64 g.1, g_v])] w0 (fun ee w => ∃ xx : Cmap × Value × Value, ee = .returned ((fun ⟨δ, rv0, rv1⟩ => Value.tuple (List.toArray [Value.agg (List.toArray [Value.int .i64 (((bareR g).1).1), rv0]), rv1, Value.int .i64 ((bareR g).2.2)])) xx) ∧ (fun (⟨δ, rv0, rv1⟩ : Cmap × Value × Value) (w : World) => Fresh w0 δ w ∧ Ow δ (is 1) (is 1) w rv0 (((bareR g).1).2) ∧ Ow δ (is 2) (is 2) w rv1 ((bareR g).2.1)) xx w) := by
  refine calls_of_run Try.func28 rfl (Nat.le_of_ble_eq_true rfl) ?_
  have hbase := Base.start w0
  have r_g_v := hg_v.sl
  refine run_seq ?_
  refine run_region rfl ?_
  refine l_op rfl ?_
  refine o_box c0 (is 1) (1, 0) rfl rfl ?_
  intro g4 w1 b3 ch2 bx5
  replace hbase := hbase.chg ch2 (not_no _)
  replace r_g_v := r_g_v.chg ch2 (not_no _)
  replace bx5 : Bx g4 (is 1) w1 b3 [Value.int .i64 g.1, g_v] := bx5
  refine l_op rfl ?_
  refine o_alloc g4 (is 2) (2, 0) rfl tp24_f ?_
  intro g9 w6 b8 ch7 bx10
  replace hbase := hbase.chg ch7 (not_no _)
  replace r_g_v := r_g_v.chg ch7 (not_no _)
  replace bx5 := bx5.chg ch7 (not_no _)
  replace bx10 : Bx g9 (is 2) w6 b8 [Value.int .i64 0, Value.slice none 0 0] := bx10
  refine l_val (v := Value.slice none 0 0) rfl (e_assign rfl) ?_
  refine l_val (v := Value.int .i64 0) rfl (e_assign rfl) ?_
  refine l_nil ?_
  refine run_seq ?_
  refine run_seq ?_
  refine run_region rfl ?_
  refine l_val (v := Value.agg (List.toArray [Value.int .i64 g.1, g_v])) rfl (e_load_bxN (ds := [Value.int .i64 g.1, g_v]) tp24_f rfl bx5 rfl rfl) ?_
  refine l_op rfl ?_
  refine o_call (v := Value.bool (mayB g)) (e_call (vals := [Value.agg (List.toArray [Value.int .i64 g.1, g_v])]) Try.func23 bd23_f nm23_f rfl) (May_ok w6 g g_v (r_g_v).ro) ?_
  intro w11 hb12
  replace hb12 := chg_below hb12 g9
  replace hbase := hbase.chg hb12 (not_no _)
  replace r_g_v := r_g_v.chg hb12 (not_no _)
  replace bx5 := bx5.chg hb12 (not_no _)
  replace bx10 := bx10.chg hb12 (not_no _)
  refine l_val (v := Value.bool (!(mayB g))) rfl (e_not (b := (mayB g)) rfl) ?_
  refine l_nil ?_
  by_cases p1 : (mayB g) = true
  · skip
    have hm := of_decide_eq_true p1
    have hm0 := hm
    obtain ⟨hm1, hm2, hm3, hm4⟩ := hm0
    refine run_cond_f rfl (congrArg Bool.not p1) ?_
    refine run_skip ?_
    refine run_seq ?_
    refine run_region rfl ?_
    refine l_val (v := Value.pointer (some ⟨b3, 0, none⟩)) rfl (e_fieldAddr Try.underlying24 rfl rfl rfl rfl) ?_
    refine l_val (v := Value.int .i64 g.1) rfl (e_load_bx1 tp3_f rfl bx5 rfl) ?_
    refine l_val (v := Value.agg (List.toArray [Value.int .i64 g.1, Value.slice none 0 0])) rfl (e_build (vs := [(0, Value.int .i64 g.1)]) rfl (by kernel_rfl)) ?_
    refine l_op rfl ?_
    refine o_alloc g9 (is 3) (3, 0) rfl tp24_f ?_
    intro g16 w13 b15 ch14 bx17
    replace hbase := hbase.chg ch14 (not_no _)
    replace r_g_v := r_g_v.chg ch14 (not_no _)
    replace bx5 := bx5.chg ch14 (not_no _)
    replace bx10 := bx10.chg ch14 (not_no _)
    replace bx17 : Bx g16 (is 3) w13 b15 [Value.int .i64 0, Value.slice none 0 0] := bx17
    refine l_op rfl ?_
    refine o_store_bx (cs' := [Value.int .i64 g.1, Value.slice none 0 0]) tp24_f rfl rfl bx17 rfl (Nat.le_of_ble_eq_true rfl) (AllOne.all (.cons rfl (.cons rfl .nil))) rfl ?_
    intro w18 ch19 bx20
    replace hbase := hbase.chg ch19 (is_ne rfl)
    replace r_g_v := r_g_v.chg ch19 (is_ne rfl)
    replace bx5 := bx5.chg ch19 (is_ne rfl)
    replace bx10 := bx10.chg ch19 (is_ne rfl)
    clear bx17
    refine l_nil ?_
    refine run_seq ?_
    refine run_region rfl ?_
    refine l_val (v := Value.slice none 0 0) rfl (e_assign rfl) ?_
    refine l_nil ?_
    refine run_seq ?_
    refine run_region rfl ?_
    refine l_op rfl ?_
    refine o_makeMap (K := (Int) × (Int)) g16 (is 4) (4, 0) rfl ?_
    intro g21 w22 v23 ch24 m25
    replace hbase := hbase.chg ch24 (not_no _)
    replace r_g_v := r_g_v.chg ch24 (not_no _)
    replace bx5 := bx5.chg ch24 (not_no _)
    replace bx10 := bx10.chg ch24 (not_no _)
    replace bx20 := bx20.chg ch24 (not_no _)
    refine l_val (v := v23) rfl (e_assign rfl) ?_
    refine l_nil ?_
    refine run_seq ?_
    refine run_seq ?_
    refine run_region rfl ?_
    refine l_val (v := Value.pointer (some ⟨b3, 1, none⟩)) rfl (e_fieldAddr Try.underlying24 rfl rfl rfl rfl) ?_
    refine l_val (v := g_v) rfl (e_load_bx1 tp22_f rfl bx5 rfl) ?_
    have len26 := (r_g_v).small
    refine l_val (v := Value.int .i64 (List.length g.2 : Int)) rfl (e_len Try.underlying22 rfl r_g_v) ?_
    refine l_val (v := Value.int .i64 0) rfl (e_move rfl) ?_
    refine l_nil ?_
    refine run_block ?_
    clear bx5
    refine run_loop (σ := Nat × Value × (List ((Int) × (Int))) × Value × (List Int) × (((Int) × (Int)) → Int) × Cmap) (fun ⟨k, out_1_v, out_1, left_v, left, seen, gq⟩ f w => Base w0 gq w ∧ f 2 = Value.pointer (some ⟨b8, 0, none⟩) ∧ f 5 = Value.pointer (some ⟨b15, 0, none⟩) ∧ f 6 = left_v ∧ f 7 = v23 ∧ f 20 = g_v ∧ f 21 = Value.int .i64 (List.length g.2 : Int) ∧ f 22 = Value.int .i64 (k : Int) ∧ Sl gq (is 0) w g_v g.2 ∧ Bx gq (is 2) w b8 [Value.int .i64 0, Value.slice none 0 0] ∧ Bx gq (is 3) w b15 [Value.int .i64 g.1, out_1_v] ∧ Mp gq (is 4) w v23 seen ∧ Ow gq (is 8) (is 8) w out_1_v out_1 ∧ Ow gq (is 10) (is 10) w left_v left ∧ (k : Int) ≤ ((List.length g.2 : Int) : Int) ∧ (BareInv left out_1 seen g k)) (fun ⟨k, out_1_v, out_1, left_v, left, seen, gq⟩ => Int.toNat (((List.length g.2 : Int) : Int) - (k : Int))) (0, Value.slice none 0 0, [], Value.slice none 0 0, [], (fun _ => 0), g21) ?_ ?_
    · exact ⟨hbase, rfl, rfl, rfl, rfl, rfl, rfl, rfl, r_g_v, bx10, bx20, m25, Ow.nil, Ow.nil, by omega, by exact BareInv.start g⟩
    clear r_g_v
    clear bx10
    clear bx20
    clear m25
    clear hbase
    rintro ⟨k, out_1_v, out_1, left_v, left, seen, g29⟩ f27 w28 ⟨hbase, zs2, zs5, zs6, zs7, zs20, zs21, zs22, r_g_v, bx10, bx20, m25, o_out_1, o_left, hle_k, hinv⟩ back7
    obtain ⟨hbl, hbo, hse⟩ := hinv.bd
    refine run_seq ?_
    refine run_region rfl ?_
    refine l_val (v := Value.bool (decide ((k : Int) < (List.length g.2 : Int)))) rfl (e_lss (m := (k : Int)) (n := (List.length g.2 : Int)) (by exact zs22) (by exact zs21)) ?_
    refine l_nil ?_
    refine run_seq ?_
    by_cases p7 : (k : Int) < (List.length g.2 : Int)
    · skip
      refine run_cond_t rfl (decide_eq_true p7) ?_
      have hse1 := hse (min (gI g.2 (k : Int)).1 (gI g.2 (k : Int)).2, max (gI g.2 (k : Int)).1 (gI g.2 (k : Int)).2)
      refine run_skip ?_
      refine run_seq ?_
      refine run_block ?_
      refine run_seq ?_
      refine run_region rfl ?_
      refine l_val (v := Value.int .i64 (k : Int)) rfl (e_move (by exact zs22)) ?_
      refine l_val (v := Value.pointer (some (eAddr g_v 2 (Int.toNat (k : Int))))) rfl (e_indexAddr (α := (Int) × (Int)) (xs := g.2) (v := g_v) (i := (k : Int)) Try.underlying22 rfl (by exact zs20) r_g_v (by exact zs22) (by omega) (by omega)) ?_
      refine l_val (v := Value.agg (List.toArray [Value.int .i64 ((gI g.2 (k : Int)).1), Value.int .i64 ((gI g.2 (k : Int)).2)])) rfl (e_load_elN (α := (Int) × (Int)) (xs := g.2) (v := g_v) (i := (k : Int)) tp60_f rfl r_g_v (by omega) (by omega) rfl) ?_
      refine l_op rfl ?_
      refine o_alloc g29 (is 5) (5, 0) rfl tp60_f ?_
      intro g33 w30 b32 ch31 bx34
      replace hbase := hbase.chg ch31 (not_no _)
      replace r_g_v := r_g_v.chg ch31 (not_no _)
      replace bx10 := bx10.chg ch31 (not_no _)
      replace bx20 := bx20.chg ch31 (not_no _)
      replace m25 := m25.chg ch31 (not_no _)
      replace o_out_1 := o_out_1.chg ch31 (not_no _) (not_no _)
      replace o_left := o_left.chg ch31 (not_no _) (not_no _)
      replace bx34 : Bx g33 (is 5) w30 b32 [Value.int .i64 0, Value.int .i64 0] := bx34
      refine l_val (v := Value.int .i64 (k : Int)) rfl (e_assign rfl) ?_
      refine l_op rfl ?_
      refine o_store_bx (cs' := [Value.int .i64 ((gI g.2 (k : Int)).1), Value.int .i64 ((gI g.2 (k : Int)).2)]) tp60_f rfl rfl bx34 rfl (Nat.le_of_ble_eq_true rfl) (AllOne.all (.cons rfl (.cons rfl .nil))) rfl ?_
      intro w35 ch36 bx37
      replace hbase := hbase.chg ch36 (is_ne rfl)
      replace r_g_v := r_g_v.chg ch36 (is_ne rfl)
      replace bx10 := bx10.chg ch36 (is_ne rfl)
      replace bx20 := bx20.chg ch36 (is_ne rfl)
      replace m25 := m25.chg ch36 (is_ne rfl)
      replace o_out_1 := o_out_1.chg ch36 (is_ne rfl) (is_ne rfl)
      replace o_left := o_left.chg ch36 (is_ne rfl) (is_ne rfl)
      clear bx34
      refine l_nil ?_
      refine run_seq ?_
      refine run_region rfl ?_
      refine l_val (v := Value.agg (List.toArray [Value.int .i64 ((gI g.2 (k : Int)).1), Value.int .i64 ((gI g.2 (k : Int)).2)])) rfl (e_load_bxN (ds := [Value.int .i64 ((gI g.2 (k : Int)).1), Value.int .i64 ((gI g.2 (k : Int)).2)]) tp60_f rfl bx37 rfl rfl) ?_
      refine l_op rfl ?_
      refine o_call (v := Value.agg (List.toArray [Value.int .i64 (min (gI g.2 (k : Int)).1 (gI g.2 (k : Int)).2), Value.int .i64 (max (gI g.2 (k : Int)).1 (gI g.2 (k : Int)).2)])) (e_call (vals := [Value.agg (List.toArray [Value.int .i64 ((gI g.2 (k : Int)).1), Value.int .i64 ((gI g.2 (k : Int)).2)])]) Try.func43 bd43_f nm43_f rfl) (level_ok w35 (gI g.2 (k : Int))) ?_
      intro w38 hb39
      replace hb39 := chg_below hb39 g33
      replace hbase := hbase.chg hb39 (not_no _)
      replace r_g_v := r_g_v.chg hb39 (not_no _)
      replace bx10 := bx10.chg hb39 (not_no _)
      replace bx20 := bx20.chg hb39 (not_no _)
      replace m25 := m25.chg hb39 (not_no _)
      replace o_out_1 := o_out_1.chg hb39 (not_no _) (not_no _)
      replace o_left := o_left.chg hb39 (not_no _) (not_no _)
      replace bx37 := bx37.chg hb39 (not_no _)
      refine l_op rfl ?_
      refine o_alloc g33 (is 6) (6, 0) rfl tp60_f ?_
      intro g43 w40 b42 ch41 bx44
      replace hbase := hbase.chg ch41 (not_no _)
      replace r_g_v := r_g_v.chg ch41 (not_no _)
      replace bx10 := bx10.chg ch41 (not_no _)
      replace bx20 := bx20.chg ch41 (not_no _)
      replace m25 := m25.chg ch41 (not_no _)
      replace o_out_1 := o_out_1.chg ch41 (not_no _) (not_no _)
      replace o_left := o_left.chg ch41 (not_no _) (not_no _)
      replace bx37 := bx37.chg ch41 (not_no _)
      replace bx44 : Bx g43 (is 6) w40 b42 [Value.int .i64 0, Value.int .i64 0] := bx44
      refine l_op rfl ?_
      refine o_store_bx (cs' := [Value.int .i64 (min (gI g.2 (k : Int)).1 (gI g.2 (k : Int)).2), Value.int .i64 (max (gI g.2 (k : Int)).1 (gI g.2 (k : Int)).2)]) tp60_f rfl rfl bx44 rfl (Nat.le_of_ble_eq_true rfl) (AllOne.all (.cons rfl (.cons rfl .nil))) rfl ?_
      intro w45 ch46 bx47
      replace hbase := hbase.chg ch46 (is_ne rfl)
      replace r_g_v := r_g_v.chg ch46 (is_ne rfl)
      replace bx10 := bx10.chg ch46 (is_ne rfl)
      replace bx20 := bx20.chg ch46 (is_ne rfl)
      replace m25 := m25.chg ch46 (is_ne rfl)
      replace o_out_1 := o_out_1.chg ch46 (is_ne rfl) (is_ne rfl)
      replace o_left := o_left.chg ch46 (is_ne rfl) (is_ne rfl)
      replace bx37 := bx37.chg ch46 (is_ne rfl)
      clear bx44
      refine l_nil ?_
      refine run_seq ?_
      refine run_seq ?_
      refine run_region rfl ?_
      refine l_val (v := Value.pointer (some ⟨b32, 0, none⟩)) rfl (e_indexAddr_arr Try.underlying60 rfl rfl rfl (by decide) (by decide) rfl) ?_
      refine l_val (v := Value.int .i64 ((gI g.2 (k : Int)).1)) rfl (e_load_bx1 tp3_f rfl bx37 rfl) ?_
      refine l_val (v := Value.pointer (some ⟨b32, 1, none⟩)) rfl (e_indexAddr_arr Try.underlying60 rfl rfl rfl (by decide) (by decide) rfl) ?_
      refine l_val (v := Value.int .i64 ((gI g.2 (k : Int)).2)) rfl (e_load_bx1 tp3_f rfl bx37 rfl) ?_
      refine l_val (v := Value.bool (!(decide (((gI g.2 (k : Int)).1) = ((gI g.2 (k : Int)).2))))) rfl (e_neq (m := (gI g.2 (k : Int)).1) (n := (gI g.2 (k : Int)).2) rfl rfl) ?_
      refine l_val (v := Value.bool (!(decide (((gI g.2 (k : Int)).1) = ((gI g.2 (k : Int)).2))))) rfl (e_move rfl) ?_
      by_cases q34 : ((gI g.2 (k : Int)).1) = ((gI g.2 (k : Int)).2)
      · skip
        refine l_skip (want_n rfl rfl rfl (congrArg Bool.not (decide_eq_true q34))) ?_
        refine l_skip (want_n rfl rfl rfl (congrArg Bool.not (decide_eq_true q34))) ?_
        refine l_skip (want_n rfl rfl rfl (congrArg Bool.not (decide_eq_true q34))) ?_
        refine l_skip (want_n rfl rfl rfl (congrArg Bool.not (decide_eq_true q34))) ?_
        refine l_val (v := Value.bool false) rfl (e_pick_f rfl (congrArg Bool.not (decide_eq_true q34)) rfl) ?_
        refine l_nil ?_
        refine run_cond_f rfl rfl ?_
        refine run_skip ?_
        clear bx37
        refine region_mid (σ := Cmap) (fun gq f w => Base w0 gq w ∧ f 2 = Value.pointer (some ⟨b8, 0, none⟩) ∧ f 5 = Value.pointer (some ⟨b15, 0, none⟩) ∧ f 6 = left_v ∧ f 7 = v23 ∧ f 20 = g_v ∧ f 21 = Value.int .i64 (List.length g.2 : Int) ∧ f 22 = Value.int .i64 (k : Int) ∧ Sl gq (is 0) w g_v g.2 ∧ Bx gq (is 2) w b8 [Value.int .i64 0, Value.slice none 0 0] ∧ Bx gq (is 3) w b15 [Value.int .i64 g.1, out_1_v] ∧ Ow gq (is 8) (is 8) w out_1_v out_1 ∧ Ow gq (is 10) (is 10) w left_v left ∧ Mp gq (is 4) w v23 (fun q => if q = (min (gI g.2 (k : Int)).1 (gI g.2 (k : Int)).2, max (gI g.2 (k : Int)).1 (gI g.2 (k : Int)).2) then ((seen (min (gI g.2 (k : Int)).1 (gI g.2 (k : Int)).2, max (gI g.2 (k : Int)).1 (gI g.2 (k : Int)).2)) + 1) else seen q)) g43 [0, 1, 3, 5] mixed_f ?_ ?_
        · intro mid
          intro w49 ch48
          replace hbase := hbase.chg ch48 (not_no _)
          replace r_g_v := r_g_v.chg ch48 (not_no _)
          replace bx10 := bx10.chg ch48 (not_no _)
          replace bx20 := bx20.chg ch48 (not_no _)
          replace m25 := m25.chg ch48 (not_no _)
          replace o_out_1 := o_out_1.chg ch48 (not_no _) (not_no _)
          replace o_left := o_left.chg ch48 (not_no _) (not_no _)
          replace bx47 := bx47.chg ch48 (not_no _)
          refine x_pure (v := v23) 0 rfl (by kernel_rfl) (by kernel_rfl) rfl (fun w => e_move (by exact zs7)) ?_
          refine x_val (v := Value.agg (List.toArray [Value.int .i64 (min (gI g.2 (k : Int)).1 (gI g.2 (k : Int)).2), Value.int .i64 (max (gI g.2 (k : Int)).1 (gI g.2 (k : Int)).2)])) 1 [0] rfl (by kernel_rfl) (by kernel_rfl) rfl (e_load_bxN (ds := [Value.int .i64 (min (gI g.2 (k : Int)).1 (gI g.2 (k : Int)).2), Value.int .i64 (max (gI g.2 (k : Int)).1 (gI g.2 (k : Int)).2)]) tp60_f rfl bx47 rfl rfl) ?_
          refine x_two 2 4 rfl rfl (by kernel_rfl) rfl rfl ?_ ?_
          · skip
            refine o_of_val (v := Value.int .i64 (seen (min (gI g.2 (k : Int)).1 (gI g.2 (k : Int)).2, max (gI g.2 (k : Int)).1 (gI g.2 (k : Int)).2))) (e_lookup (min (gI g.2 (k : Int)).1 (gI g.2 (k : Int)).2, max (gI g.2 (k : Int)).1 (gI g.2 (k : Int)).2) Try.underlying66 (keyOk_pair Try.underlying60 Try.underlying3 tp3_f) tp3_f rfl m25 rfl rfl) ?_
            refine x_pure (v := Value.int .i64 ((seen (min (gI g.2 (k : Int)).1 (gI g.2 (k : Int)).2, max (gI g.2 (k : Int)).1 (gI g.2 (k : Int)).2)) + 1)) 3 rfl (by kernel_rfl) (by kernel_rfl) rfl (fun w => e_add (m := seen (min (gI g.2 (k : Int)).1 (gI g.2 (k : Int)).2, max (gI g.2 (k : Int)).1 (gI g.2 (k : Int)).2)) (n := 1) rfl rfl (by omega)) ?_
            refine x_one 4 rfl (by kernel_rfl) rfl ?_
            refine o_mapEntry (min (gI g.2 (k : Int)).1 (gI g.2 (k : Int)).2, max (gI g.2 (k : Int)).1 (gI g.2 (k : Int)).2) Try.underlying66 (keyOk_pair Try.underlying60 Try.underlying3 tp3_f) tp3_f rfl m25 rfl rfl ?_
            intro w50 s53 ch51 m52
            replace hbase := hbase.chg ch51 (is_ne rfl)
            replace r_g_v := r_g_v.chg ch51 (is_ne rfl)
            replace bx10 := bx10.chg ch51 (is_ne rfl)
            replace bx20 := bx20.chg ch51 (is_ne rfl)
            replace o_out_1 := o_out_1.chg ch51 (is_ne rfl) (is_ne rfl)
            replace o_left := o_left.chg ch51 (is_ne rfl) (is_ne rfl)
            replace bx47 := bx47.chg ch51 (is_ne rfl)
            clear m25
            refine x_pure (v := Value.int .i64 s53) 5 rfl (by kernel_rfl) (by kernel_rfl) rfl (fun w => e_extract rfl rfl) ?_
            refine x_one 6 rfl (by kernel_rfl) rfl ?_
            refine o_entryStore rfl m52 rfl rfl ?_
            intro w54 ch55 m56
            replace hbase := hbase.chg ch55 (is_ne rfl)
            replace r_g_v := r_g_v.chg ch55 (is_ne rfl)
            replace bx10 := bx10.chg ch55 (is_ne rfl)
            replace bx20 := bx20.chg ch55 (is_ne rfl)
            replace o_out_1 := o_out_1.chg ch55 (is_ne rfl) (is_ne rfl)
            replace o_left := o_left.chg ch55 (is_ne rfl) (is_ne rfl)
            replace bx47 := bx47.chg ch55 (is_ne rfl)
            clear m52
            refine x_nil (by kernel_rfl) ?_
            exact mid (g43) _ _ ⟨hbase, (by exact zs2), (by exact zs5), (by exact zs6), (by exact zs7), (by exact zs20), (by exact zs21), (by exact zs22), r_g_v, bx10, bx20, o_out_1, o_left, m56⟩
          · skip
            refine o_mapEntry (min (gI g.2 (k : Int)).1 (gI g.2 (k : Int)).2, max (gI g.2 (k : Int)).1 (gI g.2 (k : Int)).2) Try.underlying66 (keyOk_pair Try.underlying60 Try.underlying3 tp3_f) tp3_f rfl m25 rfl rfl ?_
            intro w57 s60 ch58 m59
            replace hbase := hbase.chg ch58 (is_ne rfl)
            replace r_g_v := r_g_v.chg ch58 (is_ne rfl)
            replace bx10 := bx10.chg ch58 (is_ne rfl)
            replace bx20 := bx20.chg ch58 (is_ne rfl)
            replace o_out_1 := o_out_1.chg ch58 (is_ne rfl) (is_ne rfl)
            replace o_left := o_left.chg ch58 (is_ne rfl) (is_ne rfl)
            replace bx47 := bx47.chg ch58 (is_ne rfl)
            clear m25
            refine x_pure (v := Value.int .i64 s60) 5 rfl (by kernel_rfl) (by kernel_rfl) rfl (fun w => e_extract rfl rfl) ?_
            refine x_one 2 rfl (by kernel_rfl) rfl ?_
            refine o_of_val (v := Value.int .i64 (seen (min (gI g.2 (k : Int)).1 (gI g.2 (k : Int)).2, max (gI g.2 (k : Int)).1 (gI g.2 (k : Int)).2))) (e_lookup (min (gI g.2 (k : Int)).1 (gI g.2 (k : Int)).2, max (gI g.2 (k : Int)).1 (gI g.2 (k : Int)).2) Try.underlying66 (keyOk_pair Try.underlying60 Try.underlying3 tp3_f) tp3_f rfl m59.mp rfl rfl) ?_
            refine x_pure (v := Value.int .i64 ((seen (min (gI g.2 (k : Int)).1 (gI g.2 (k : Int)).2, max (gI g.2 (k : Int)).1 (gI g.2 (k : Int)).2)) + 1)) 3 rfl (by kernel_rfl) (by kernel_rfl) rfl (fun w => e_add (m := seen (min (gI g.2 (k : Int)).1 (gI g.2 (k : Int)).2, max (gI g.2 (k : Int)).1 (gI g.2 (k : Int)).2)) (n := 1) rfl rfl (by omega)) ?_
            refine x_one 6 rfl (by kernel_rfl) rfl ?_
            refine o_entryStore rfl m59 rfl rfl ?_
            intro w61 ch62 m63
            replace hbase := hbase.chg ch62 (is_ne rfl)
            replace r_g_v := r_g_v.chg ch62 (is_ne rfl)
            replace bx10 := bx10.chg ch62 (is_ne rfl)
            replace bx20 := bx20.chg ch62 (is_ne rfl)
            replace o_out_1 := o_out_1.chg ch62 (is_ne rfl) (is_ne rfl)
            replace o_left := o_left.chg ch62 (is_ne rfl) (is_ne rfl)
            replace bx47 := bx47.chg ch62 (is_ne rfl)
            clear m59
            refine x_nil (by kernel_rfl) ?_
            exact mid (g43) _ _ ⟨hbase, (by exact zs2), (by exact zs5), (by exact zs6), (by exact zs7), (by exact zs20), (by exact zs21), (by exact zs22), r_g_v, bx10, bx20, o_out_1, o_left, m63⟩
        clear r_g_v
        clear bx10
        clear bx20
        clear m25
        clear o_out_1
        clear o_left
        clear bx47
        clear hbase
        rintro g66 f64 w65 ⟨hbase, zs2, zs5, zs6, zs7, zs20, zs21, zs22, r_g_v, bx10, bx20, o_out_1, o_left, m54⟩
        refine run_inBlock ?_
        refine run_region rfl ?_
        refine l_val (v := Value.int .i64 ((k : Int) + 1)) rfl (e_add (m := (k : Int)) (n := 1) (by exact zs22) rfl (by omega)) ?_
        refine l_val (v := Value.int .i64 ((k : Int) + 1)) rfl (e_move rfl) ?_
        refine l_nil ?_
        refine back7 (k + 1, out_1_v, out_1, left_v, left, (fun q => if q = (min (gI g.2 (k : Int)).1 (gI g.2 (k : Int)).2, max (gI g.2 (k : Int)).1 (gI g.2 (k : Int)).2) then ((seen (min (gI g.2 (k : Int)).1 (gI g.2 (k : Int)).2, max (gI g.2 (k : Int)).1 (gI g.2 (k : Int)).2)) + 1) else seen q), g66) _ _ ⟨hbase, (by exact zs2), (by exact zs5), (by exact zs6), (by exact zs7), (by exact zs20), (by exact zs21), rfl, r_g_v, bx10, bx20, m54, o_out_1, o_left, by omega, ?_⟩ ?_
        · show BareInv left out_1 (fun q => if q = (min (gI g.2 (k : Int)).1 (gI g.2 (k : Int)).2, max (gI g.2 (k : Int)).1 (gI g.2 (k : Int)).2) then ((seen (min (gI g.2 (k : Int)).1 (gI g.2 (k : Int)).2, max (gI g.2 (k : Int)).1 (gI g.2 (k : Int)).2)) + 1) else seen q) g (k + 1)
          first
            | exact hinv.take (by assumption) q34 p14
            | exact hinv.skip (by assumption) (.inl q34)
            | exact hinv.skip (by assumption) (.inr p14)
        · show Int.toNat (((List.length g.2 : Int) : Int) - ((k + 1) : Int)) < Int.toNat (((List.length g.2 : Int) : Int) - (k : Int))
          omega
      · skip
        refine l_val (v := v23) (want_y rfl rfl rfl (congrArg Bool.not (decide_eq_false q34))) (e_move (by exact zs7)) ?_
        refine l_val (v := Value.agg (List.toArray [Value.int .i64 (min (gI g.2 (k : Int)).1 (gI g.2 (k : Int)).2), Value.int .i64 (max (gI g.2 (k : Int)).1 (gI g.2 (k : Int)).2)])) (want_y rfl rfl rfl (congrArg Bool.not (decide_eq_false q34))) (e_load_bxN (ds := [Value.int .i64 (min (gI g.2 (k : Int)).1 (gI g.2 (k : Int)).2), Value.int .i64 (max (gI g.2 (k : Int)).1 (gI g.2 (k : Int)).2)]) tp60_f rfl bx47 rfl rfl) ?_
        refine l_val (v := Value.int .i64 (seen (min (gI g.2 (k : Int)).1 (gI g.2 (k : Int)).2, max (gI g.2 (k : Int)).1 (gI g.2 (k : Int)).2))) (want_y rfl rfl rfl (congrArg Bool.not (decide_eq_false q34))) (e_lookup (min (gI g.2 (k : Int)).1 (gI g.2 (k : Int)).2, max (gI g.2 (k : Int)).1 (gI g.2 (k : Int)).2) Try.underlying66 (keyOk_pair Try.underlying60 Try.underlying3 tp3_f) tp3_f rfl m25 rfl rfl) ?_
        refine l_val (v := Value.bool (decide ((seen (min (gI g.2 (k : Int)).1 (gI g.2 (k : Int)).2, max (gI g.2 (k : Int)).1 (gI g.2 (k : Int)).2)) = 0))) (want_y rfl rfl rfl (congrArg Bool.not (decide_eq_false q34))) (e_eql (m := seen (min (gI g.2 (k : Int)).1 (gI g.2 (k : Int)).2, max (gI g.2 (k : Int)).1 (gI g.2 (k : Int)).2)) (n := 0) rfl rfl) ?_
        refine l_val (v := Value.bool (decide ((seen (min (gI g.2 (k : Int)).1 (gI g.2 (k : Int)).2, max (gI g.2 (k : Int)).1 (gI g.2 (k : Int)).2)) = 0))) rfl (e_pick_t rfl (congrArg Bool.not (decide_eq_false q34)) rfl) ?_
        refine l_nil ?_
        by_cases p14 : (seen (min (gI g.2 (k : Int)).1 (gI g.2 (k : Int)).2, max (gI g.2 (k : Int)).1 (gI g.2 (k : Int)).2)) = 0
        · skip
          refine run_cond_t rfl (decide_eq_true p14) ?_
          refine run_seq ?_
          refine run_region rfl ?_
          refine l_val (v := Value.pointer (some ⟨b15, 1, none⟩)) rfl (e_fieldAddr Try.underlying24 rfl rfl (by exact zs5) rfl) ?_
          refine l_val (v := out_1_v) rfl (e_load_bx1 tp22_f rfl bx20 rfl) ?_
          refine l_val (v := Value.agg (List.toArray [Value.int .i64 ((gI g.2 (k : Int)).1), Value.int .i64 ((gI g.2 (k : Int)).2)])) rfl (e_load_bxN (ds := [Value.int .i64 ((gI g.2 (k : Int)).1), Value.int .i64 ((gI g.2 (k : Int)).2)]) tp60_f rfl bx37 rfl rfl) ?_
          refine l_op rfl ?_
          refine o_buildSlice (α := (Int) × (Int)) g43 (is 7) (is 7) (7, 0) rfl [(gI g.2 (k : Int))] Try.underlying22 tp60_f (by decide) (by decide) (vs := [(0, Value.agg (List.toArray [Value.int .i64 ((gI g.2 (k : Int)).1), Value.int .i64 ((gI g.2 (k : Int)).2)]))]) rfl rfl (.cons rfl .nil) ?_
          intro g67 w68 v69 ch70 o71
          replace hbase := hbase.chg ch70 (not_no _)
          replace r_g_v := r_g_v.chg ch70 (not_no _)
          replace bx10 := bx10.chg ch70 (not_no _)
          replace bx20 := bx20.chg ch70 (not_no _)
          replace m25 := m25.chg ch70 (not_no _)
          replace o_out_1 := o_out_1.chg ch70 (not_no _) (not_no _)
          replace o_left := o_left.chg ch70 (not_no _) (not_no _)
          replace bx37 := bx37.chg ch70 (not_no _)
          replace bx47 := bx47.chg ch70 (not_no _)
          refine l_op rfl ?_
          refine o_append (α := (Int) × (Int)) (xs := out_1) (ys := ([(gI g.2 (k : Int))])) g67 (J := is 8) (S := is 8) (8, 0) rfl Try.underlying22 tp60_f (by decide) rfl rfl rfl o_out_1 o71.flat (by decide) (by first | omega | (simp; done) | (simp; omega)) ?_
          intro g72 w73 v74 ch75 o76
          replace hbase := hbase.chg ch75 (is_ne rfl)
          replace r_g_v := r_g_v.chg ch75 (is_ne rfl)
          replace bx10 := bx10.chg ch75 (is_ne rfl)
          replace bx20 := bx20.chg ch75 (is_ne rfl)
          replace m25 := m25.chg ch75 (is_ne rfl)
          replace o_left := o_left.chg ch75 (is_ne rfl) (is_ne rfl)
          replace bx37 := bx37.chg ch75 (is_ne rfl)
          replace bx47 := bx47.chg ch75 (is_ne rfl)
          replace o71 := o71.chg ch75 (is_ne rfl) (is_ne rfl)
          clear o_out_1
          refine l_val (v := Value.pointer (some ⟨b15, 1, none⟩)) rfl (e_fieldAddr Try.underlying24 rfl rfl (by exact zs5) rfl) ?_
          refine l_op rfl ?_
          refine o_store_bx1 (cs' := [Value.int .i64 g.1, v74]) tp22_f rfl rfl bx20 (sl_cells1 o76.flat) (Nat.le_of_ble_eq_true rfl) (sl_one o76.flat) rfl ?_
          intro w77 ch78 bx79
          replace hbase := hbase.chg ch78 (is_ne rfl)
          replace r_g_v := r_g_v.chg ch78 (is_ne rfl)
          replace bx10 := bx10.chg ch78 (is_ne rfl)
          replace m25 := m25.chg ch78 (is_ne rfl)
          replace o_left := o_left.chg ch78 (is_ne rfl) (is_ne rfl)
          replace bx37 := bx37.chg ch78 (is_ne rfl)
          replace bx47 := bx47.chg ch78 (is_ne rfl)
          replace o71 := o71.chg ch78 (is_ne rfl) (is_ne rfl)
          replace o76 := o76.chg ch78 (is_ne rfl) (is_ne rfl)
          clear bx20
          refine l_nil ?_
          clear bx37
          clear o71
          refine run_region rfl ?_
          refine l_val (v := left_v) rfl (e_move (by exact zs6)) ?_
          refine l_val (v := Value.int .i64 (k : Int)) rfl (e_move rfl) ?_
          refine l_op rfl ?_
          refine o_buildSlice (α := Int) g72 (is 9) (is 9) (9, 0) rfl [(k : Int)] Try.underlying25 tp3_f (by decide) (by decide) (vs := [(0, Value.int .i64 (k : Int))]) rfl rfl (.cons rfl .nil) ?_
          intro g80 w81 v82 ch83 o84
          replace hbase := hbase.chg ch83 (not_no _)
          replace r_g_v := r_g_v.chg ch83 (not_no _)
          replace bx10 := bx10.chg ch83 (not_no _)
          replace m25 := m25.chg ch83 (not_no _)
          replace o_left := o_left.chg ch83 (not_no _) (not_no _)
          replace bx47 := bx47.chg ch83 (not_no _)
          replace o76 := o76.chg ch83 (not_no _) (not_no _)
          replace bx79 := bx79.chg ch83 (not_no _)
          refine l_op rfl ?_
          refine o_append (α := Int) (xs := left) (ys := ([(k : Int)])) g80 (J := is 10) (S := is 10) (10, 0) rfl Try.underlying25 tp3_f (by decide) rfl rfl rfl o_left o84.flat (by decide) (by first | omega | (simp; done) | (simp; omega)) ?_
          intro g85 w86 v87 ch88 o89
          replace hbase := hbase.chg ch88 (is_ne rfl)
          replace r_g_v := r_g_v.chg ch88 (is_ne rfl)
          replace bx10 := bx10.chg ch88 (is_ne rfl)
          replace m25 := m25.chg ch88 (is_ne rfl)
          replace bx47 := bx47.chg ch88 (is_ne rfl)
          replace o76 := o76.chg ch88 (is_ne rfl) (is_ne rfl)
          replace bx79 := bx79.chg ch88 (is_ne rfl)
          replace o84 := o84.chg ch88 (is_ne rfl) (is_ne rfl)
          clear o_left
          refine l_val (v := v87) rfl (e_assign rfl) ?_
          refine l_nil ?_
          clear o84
          refine region_mid (σ := Cmap) (fun gq f w => Base w0 gq w ∧ f 2 = Value.pointer (some ⟨b8, 0, none⟩) ∧ f 5 = Value.pointer (some ⟨b15, 0, none⟩) ∧ f 6 = v87 ∧ f 7 = v23 ∧ f 20 = g_v ∧ f 21 = Value.int .i64 (List.length g.2 : Int) ∧ f 22 = Value.int .i64 (k : Int) ∧ Sl gq (is 0) w g_v g.2 ∧ Bx gq (is 2) w b8 [Value.int .i64 0, Value.slice none 0 0] ∧ Ow gq (is 8) (is 8) w v74 (out_1 ++ [(gI g.2 (k : Int))]) ∧ Bx gq (is 3) w b15 [Value.int .i64 g.1, v74] ∧ Ow gq (is 10) (is 10) w v87 (left ++ [(k : Int)]) ∧ Mp gq (is 4) w v23 (fun q => if q = (min (gI g.2 (k : Int)).1 (gI g.2 (k : Int)).2, max (gI g.2 (k : Int)).1 (gI g.2 (k : Int)).2) then ((seen (min (gI g.2 (k : Int)).1 (gI g.2 (k : Int)).2, max (gI g.2 (k : Int)).1 (gI g.2 (k : Int)).2)) + 1) else seen q)) g85 [0, 1, 3, 5] mixed_f ?_ ?_
          · intro mid
            intro w91 ch90
            replace hbase := hbase.chg ch90 (not_no _)
            replace r_g_v := r_g_v.chg ch90 (not_no _)
            replace bx10 := bx10.chg ch90 (not_no _)
            replace m25 := m25.chg ch90 (not_no _)
            replace bx47 := bx47.chg ch90 (not_no _)
            replace o76 := o76.chg ch90 (not_no _) (not_no _)
            replace bx79 := bx79.chg ch90 (not_no _)
            replace o89 := o89.chg ch90 (not_no _) (not_no _)
            refine x_pure (v := v23) 0 rfl (by kernel_rfl) (by kernel_rfl) rfl (fun w => e_move (by exact zs7)) ?_
            refine x_val (v := Value.agg (List.toArray [Value.int .i64 (min (gI g.2 (k : Int)).1 (gI g.2 (k : Int)).2), Value.int .i64 (max (gI g.2 (k : Int)).1 (gI g.2 (k : Int)).2)])) 1 [0] rfl (by kernel_rfl) (by kernel_rfl) rfl (e_load_bxN (ds := [Value.int .i64 (min (gI g.2 (k : Int)).1 (gI g.2 (k : Int)).2), Value.int .i64 (max (gI g.2 (k : Int)).1 (gI g.2 (k : Int)).2)]) tp60_f rfl bx47 rfl rfl) ?_
            refine x_two 2 4 rfl rfl (by kernel_rfl) rfl rfl ?_ ?_
            · skip
              refine o_of_val (v := Value.int .i64 (seen (min (gI g.2 (k : Int)).1 (gI g.2 (k : Int)).2, max (gI g.2 (k : Int)).1 (gI g.2 (k : Int)).2))) (e_lookup (min (gI g.2 (k : Int)).1 (gI g.2 (k : Int)).2, max (gI g.2 (k : Int)).1 (gI g.2 (k : Int)).2) Try.underlying66 (keyOk_pair Try.underlying60 Try.underlying3 tp3_f) tp3_f rfl m25 rfl rfl) ?_
              refine x_pure (v := Value.int .i64 ((seen (min (gI g.2 (k : Int)).1 (gI g.2 (k : Int)).2, max (gI g.2 (k : Int)).1 (gI g.2 (k : Int)).2)) + 1)) 3 rfl (by kernel_rfl) (by kernel_rfl) rfl (fun w => e_add (m := seen (min (gI g.2 (k : Int)).1 (gI g.2 (k : Int)).2, max (gI g.2 (k : Int)).1 (gI g.2 (k : Int)).2)) (n := 1) rfl rfl (by omega)) ?_
              refine x_one 4 rfl (by kernel_rfl) rfl ?_
              refine o_mapEntry (min (gI g.2 (k : Int)).1 (gI g.2 (k : Int)).2, max (gI g.2 (k : Int)).1 (gI g.2 (k : Int)).2) Try.underlying66 (keyOk_pair Try.underlying60 Try.underlying3 tp3_f) tp3_f rfl m25 rfl rfl ?_
              intro w92 s95 ch93 m94
              replace hbase := hbase.chg ch93 (is_ne rfl)
              replace r_g_v := r_g_v.chg ch93 (is_ne rfl)
              replace bx10 := bx10.chg ch93 (is_ne rfl)
              replace bx47 := bx47.chg ch93 (is_ne rfl)
              replace o76 := o76.chg ch93 (is_ne rfl) (is_ne rfl)
              replace bx79 := bx79.chg ch93 (is_ne rfl)
              replace o89 := o89.chg ch93 (is_ne rfl) (is_ne rfl)
              clear m25
              refine x_pure (v := Value.int .i64 s95) 5 rfl (by kernel_rfl) (by kernel_rfl) rfl (fun w => e_extract rfl rfl) ?_
              refine x_one 6 rfl (by kernel_rfl) rfl ?_
              refine o_entryStore rfl m94 rfl rfl ?_
              intro w96 ch97 m98
              replace hbase := hbase.chg ch97 (is_ne rfl)
              replace r_g_v := r_g_v.chg ch97 (is_ne rfl)
              replace bx10 := bx10.chg ch97 (is_ne rfl)
              replace bx47 := bx47.chg ch97 (is_ne rfl)
              replace o76 := o76.chg ch97 (is_ne rfl) (is_ne rfl)
              replace bx79 := bx79.chg ch97 (is_ne rfl)
              replace o89 := o89.chg ch97 (is_ne rfl) (is_ne rfl)
              clear m94
              refine x_nil (by kernel_rfl) ?_
              exact mid (g85) _ _ ⟨hbase, (by exact zs2), (by exact zs5), rfl, (by exact zs7), (by exact zs20), (by exact zs21), (by exact zs22), r_g_v, bx10, o76, bx79, o89, m98⟩
            · skip
              refine o_mapEntry (min (gI g.2 (k : Int)).1 (gI g.2 (k : Int)).2, max (gI g.2 (k : Int)).1 (gI g.2 (k : Int)).2) Try.underlying66 (keyOk_pair Try.underlying60 Try.underlying3 tp3_f) tp3_f rfl m25 rfl rfl ?_
              intro w99 s102 ch100 m101
              replace hbase := hbase.chg ch100 (is_ne rfl)
              replace r_g_v := r_g_v.chg ch100 (is_ne rfl)
              replace bx10 := bx10.chg ch100 (is_ne rfl)
              replace bx47 := bx47.chg ch100 (is_ne rfl)
              replace o76 := o76.chg ch100 (is_ne rfl) (is_ne rfl)
              replace bx79 := bx79.chg ch100 (is_ne rfl)
              replace o89 := o89.chg ch100 (is_ne rfl) (is_ne rfl)
              clear m25
              refine x_pure (v := Value.int .i64 s102) 5 rfl (by kernel_rfl) (by kernel_rfl) rfl (fun w => e_extract rfl rfl) ?_
              refine x_one 2 rfl (by kernel_rfl) rfl ?_
              refine o_of_val (v := Value.int .i64 (seen (min (gI g.2 (k : Int)).1 (gI g.2 (k : Int)).2, max (gI g.2 (k : Int)).1 (gI g.2 (k : Int)).2))) (e_lookup (min (gI g.2 (k : Int)).1 (gI g.2 (k : Int)).2, max (gI g.2 (k : Int)).1 (gI g.2 (k : Int)).2) Try.underlying66 (keyOk_pair Try.underlying60 Try.underlying3 tp3_f) tp3_f rfl m101.mp rfl rfl) ?_
              refine x_pure (v := Value.int .i64 ((seen (min (gI g.2 (k : Int)).1 (gI g.2 (k : Int)).2, max (gI g.2 (k : Int)).1 (gI g.2 (k : Int)).2)) + 1)) 3 rfl (by kernel_rfl) (by kernel_rfl) rfl (fun w => e_add (m := seen (min (gI g.2 (k : Int)).1 (gI g.2 (k : Int)).2, max (gI g.2 (k : Int)).1 (gI g.2 (k : Int)).2)) (n := 1) rfl rfl (by omega)) ?_
              refine x_one 6 rfl (by kernel_rfl) rfl ?_
              refine o_entryStore rfl m101 rfl rfl ?_
              intro w103 ch104 m105
              replace hbase := hbase.chg ch104 (is_ne rfl)
              replace r_g_v := r_g_v.chg ch104 (is_ne rfl)
              replace bx10 := bx10.chg ch104 (is_ne rfl)
              replace bx47 := bx47.chg ch104 (is_ne rfl)
              replace o76 := o76.chg ch104 (is_ne rfl) (is_ne rfl)
              replace bx79 := bx79.chg ch104 (is_ne rfl)
              replace o89 := o89.chg ch104 (is_ne rfl) (is_ne rfl)
              clear m101
              refine x_nil (by kernel_rfl) ?_
              exact mid (g85) _ _ ⟨hbase, (by exact zs2), (by exact zs5), rfl, (by exact zs7), (by exact zs20), (by exact zs21), (by exact zs22), r_g_v, bx10, o76, bx79, o89, m105⟩
          clear r_g_v
          clear bx10
          clear m25
          clear bx47
          clear o76
          clear bx79
          clear o89
          clear hbase
          rintro g108 f106 w107 ⟨hbase, zs2, zs5, zs6, zs7, zs20, zs21, zs22, r_g_v, bx10, o76, bx79, o89, m96⟩
          refine run_inBlock ?_
          refine run_region rfl ?_
          refine l_val (v := Value.int .i64 ((k : Int) + 1)) rfl (e_add (m := (k : Int)) (n := 1) (by exact zs22) rfl (by omega)) ?_
          refine l_val (v := Value.int .i64 ((k : Int) + 1)) rfl (e_move rfl) ?_
          refine l_nil ?_
          refine back7 (k + 1, v74, (out_1 ++ [(gI g.2 (k : Int))]), v87, (left ++ [(k : Int)]), (fun q => if q = (min (gI g.2 (k : Int)).1 (gI g.2 (k : Int)).2, max (gI g.2 (k : Int)).1 (gI g.2 (k : Int)).2) then ((seen (min (gI g.2 (k : Int)).1 (gI g.2 (k : Int)).2, max (gI g.2 (k : Int)).1 (gI g.2 (k : Int)).2)) + 1) else seen q), g108) _ _ ⟨hbase, (by exact zs2), (by exact zs5), (by exact zs6), (by exact zs7), (by exact zs20), (by exact zs21), rfl, r_g_v, bx10, bx79, m96, o76, o89, by omega, ?_⟩ ?_
          · show BareInv (left ++ [(k : Int)]) (out_1 ++ [(gI g.2 (k : Int))]) (fun q => if q = (min (gI g.2 (k : Int)).1 (gI g.2 (k : Int)).2, max (gI g.2 (k : Int)).1 (gI g.2 (k : Int)).2) then ((seen (min (gI g.2 (k : Int)).1 (gI g.2 (k : Int)).2, max (gI g.2 (k : Int)).1 (gI g.2 (k : Int)).2)) + 1) else seen q) g (k + 1)
            first
              | exact hinv.take (by assumption) q34 p14
              | exact hinv.skip (by assumption) (.inl q34)
              | exact hinv.skip (by assumption) (.inr p14)
          · show Int.toNat (((List.length g.2 : Int) : Int) - ((k + 1) : Int)) < Int.toNat (((List.length g.2 : Int) : Int) - (k : Int))
            omega
        · skip
          refine run_cond_f rfl (decide_eq_false p14) ?_
          refine run_skip ?_
          clear bx37
          refine region_mid (σ := Cmap) (fun gq f w => Base w0 gq w ∧ f 2 = Value.pointer (some ⟨b8, 0, none⟩) ∧ f 5 = Value.pointer (some ⟨b15, 0, none⟩) ∧ f 6 = left_v ∧ f 7 = v23 ∧ f 20 = g_v ∧ f 21 = Value.int .i64 (List.length g.2 : Int) ∧ f 22 = Value.int .i64 (k : Int) ∧ Sl gq (is 0) w g_v g.2 ∧ Bx gq (is 2) w b8 [Value.int .i64 0, Value.slice none 0 0] ∧ Bx gq (is 3) w b15 [Value.int .i64 g.1, out_1_v] ∧ Ow gq (is 8) (is 8) w out_1_v out_1 ∧ Ow gq (is 10) (is 10) w left_v left ∧ Mp gq (is 4) w v23 (fun q => if q = (min (gI g.2 (k : Int)).1 (gI g.2 (k : Int)).2, max (gI g.2 (k : Int)).1 (gI g.2 (k : Int)).2) then ((seen (min (gI g.2 (k : Int)).1 (gI g.2 (k : Int)).2, max (gI g.2 (k : Int)).1 (gI g.2 (k : Int)).2)) + 1) else seen q)) g43 [0, 1, 3, 5] mixed_f ?_ ?_
          · intro mid
            intro w110 ch109
            replace hbase := hbase.chg ch109 (not_no _)
            replace r_g_v := r_g_v.chg ch109 (not_no _)
            replace bx10 := bx10.chg ch109 (not_no _)
            replace bx20 := bx20.chg ch109 (not_no _)
            replace m25 := m25.chg ch109 (not_no _)
            replace o_out_1 := o_out_1.chg ch109 (not_no _) (not_no _)
            replace o_left := o_left.chg ch109 (not_no _) (not_no _)
            replace bx47 := bx47.chg ch109 (not_no _)
            refine x_pure (v := v23) 0 rfl (by kernel_rfl) (by kernel_rfl) rfl (fun w => e_move (by exact zs7)) ?_
            refine x_val (v := Value.agg (List.toArray [Value.int .i64 (min (gI g.2 (k : Int)).1 (gI g.2 (k : Int)).2), Value.int .i64 (max (gI g.2 (k : Int)).1 (gI g.2 (k : Int)).2)])) 1 [0] rfl (by kernel_rfl) (by kernel_rfl) rfl (e_load_bxN (ds := [Value.int .i64 (min (gI g.2 (k : Int)).1 (gI g.2 (k : Int)).2), Value.int .i64 (max (gI g.2 (k : Int)).1 (gI g.2 (k : Int)).2)]) tp60_f rfl bx47 rfl rfl) ?_
            refine x_two 2 4 rfl rfl (by kernel_rfl) rfl rfl ?_ ?_
            · skip
              refine o_of_val (v := Value.int .i64 (seen (min (gI g.2 (k : Int)).1 (gI g.2 (k : Int)).2, max (gI g.2 (k : Int)).1 (gI g.2 (k : Int)).2))) (e_lookup (min (gI g.2 (k : Int)).1 (gI g.2 (k : Int)).2, max (gI g.2 (k : Int)).1 (gI g.2 (k : Int)).2) Try.underlying66 (keyOk_pair Try.underlying60 Try.underlying3 tp3_f) tp3_f rfl m25 rfl rfl) ?_
              refine x_pure (v := Value.int .i64 ((seen (min (gI g.2 (k : Int)).1 (gI g.2 (k : Int)).2, max (gI g.2 (k : Int)).1 (gI g.2 (k : Int)).2)) + 1)) 3 rfl (by kernel_rfl) (by kernel_rfl) rfl (fun w => e_add (m := seen (min (gI g.2 (k : Int)).1 (gI g.2 (k : Int)).2, max (gI g.2 (k : Int)).1 (gI g.2 (k : Int)).2)) (n := 1) rfl rfl (by omega)) ?_
              refine x_one 4 rfl (by kernel_rfl) rfl ?_
              refine o_mapEntry (min (gI g.2 (k : Int)).1 (gI g.2 (k : Int)).2, max (gI g.2 (k : Int)).1 (gI g.2 (k : Int)).2) Try.underlying66 (keyOk_pair Try.underlying60 Try.underlying3 tp3_f) tp3_f rfl m25 rfl rfl ?_
              intro w111 s114 ch112 m113
              replace hbase := hbase.chg ch112 (is_ne rfl)
              replace r_g_v := r_g_v.chg ch112 (is_ne rfl)
              replace bx10 := bx10.chg ch112 (is_ne rfl)
              replace bx20 := bx20.chg ch112 (is_ne rfl)
              replace o_out_1 := o_out_1.chg ch112 (is_ne rfl) (is_ne rfl)
              replace o_left := o_left.chg ch112 (is_ne rfl) (is_ne rfl)
              replace bx47 := bx47.chg ch112 (is_ne rfl)
              clear m25
              refine x_pure (v := Value.int .i64 s114) 5 rfl (by kernel_rfl) (by kernel_rfl) rfl (fun w => e_extract rfl rfl) ?_
              refine x_one 6 rfl (by kernel_rfl) rfl ?_
              refine o_entryStore rfl m113 rfl rfl ?_
              intro w115 ch116 m117
              replace hbase := hbase.chg ch116 (is_ne rfl)
              replace r_g_v := r_g_v.chg ch116 (is_ne rfl)
              replace bx10 := bx10.chg ch116 (is_ne rfl)
              replace bx20 := bx20.chg ch116 (is_ne rfl)
              replace o_out_1 := o_out_1.chg ch116 (is_ne rfl) (is_ne rfl)
              replace o_left := o_left.chg ch116 (is_ne rfl) (is_ne rfl)
              replace bx47 := bx47.chg ch116 (is_ne rfl)
              clear m113
              refine x_nil (by kernel_rfl) ?_
              exact mid (g43) _ _ ⟨hbase, (by exact zs2), (by exact zs5), (by exact zs6), (by exact zs7), (by exact zs20), (by exact zs21), (by exact zs22), r_g_v, bx10, bx20, o_out_1, o_left, m117⟩
            · skip
              refine o_mapEntry (min (gI g.2 (k : Int)).1 (gI g.2 (k : Int)).2, max (gI g.2 (k : Int)).1 (gI g.2 (k : Int)).2) Try.underlying66 (keyOk_pair Try.underlying60 Try.underlying3 tp3_f) tp3_f rfl m25 rfl rfl ?_
              intro w118 s121 ch119 m120
              replace hbase := hbase.chg ch119 (is_ne rfl)
              replace r_g_v := r_g_v.chg ch119 (is_ne rfl)
              replace bx10 := bx10.chg ch119 (is_ne rfl)
              replace bx20 := bx20.chg ch119 (is_ne rfl)
              replace o_out_1 := o_out_1.chg ch119 (is_ne rfl) (is_ne rfl)
              replace o_left := o_left.chg ch119 (is_ne rfl) (is_ne rfl)
              replace bx47 := bx47.chg ch119 (is_ne rfl)
              clear m25
              refine x_pure (v := Value.int .i64 s121) 5 rfl (by kernel_rfl) (by kernel_rfl) rfl (fun w => e_extract rfl rfl) ?_
              refine x_one 2 rfl (by kernel_rfl) rfl ?_
              refine o_of_val (v := Value.int .i64 (seen (min (gI g.2 (k : Int)).1 (gI g.2 (k : Int)).2, max (gI g.2 (k : Int)).1 (gI g.2 (k : Int)).2))) (e_lookup (min (gI g.2 (k : Int)).1 (gI g.2 (k : Int)).2, max (gI g.2 (k : Int)).1 (gI g.2 (k : Int)).2) Try.underlying66 (keyOk_pair Try.underlying60 Try.underlying3 tp3_f) tp3_f rfl m120.mp rfl rfl) ?_
              refine x_pure (v := Value.int .i64 ((seen (min (gI g.2 (k : Int)).1 (gI g.2 (k : Int)).2, max (gI g.2 (k : Int)).1 (gI g.2 (k : Int)).2)) + 1)) 3 rfl (by kernel_rfl) (by kernel_rfl) rfl (fun w => e_add (m := seen (min (gI g.2 (k : Int)).1 (gI g.2 (k : Int)).2, max (gI g.2 (k : Int)).1 (gI g.2 (k : Int)).2)) (n := 1) rfl rfl (by omega)) ?_
              refine x_one 6 rfl (by kernel_rfl) rfl ?_
              refine o_entryStore rfl m120 rfl rfl ?_
              intro w122 ch123 m124
              replace hbase := hbase.chg ch123 (is_ne rfl)
              replace r_g_v := r_g_v.chg ch123 (is_ne rfl)
              replace bx10 := bx10.chg ch123 (is_ne rfl)
              replace bx20 := bx20.chg ch123 (is_ne rfl)
              replace o_out_1 := o_out_1.chg ch123 (is_ne rfl) (is_ne rfl)
              replace o_left := o_left.chg ch123 (is_ne rfl) (is_ne rfl)
              replace bx47 := bx47.chg ch123 (is_ne rfl)
              clear m120
              refine x_nil (by kernel_rfl) ?_
              exact mid (g43) _ _ ⟨hbase, (by exact zs2), (by exact zs5), (by exact zs6), (by exact zs7), (by exact zs20), (by exact zs21), (by exact zs22), r_g_v, bx10, bx20, o_out_1, o_left, m124⟩
          clear r_g_v
          clear bx10
          clear bx20
          clear m25
          clear o_out_1
          clear o_left
          clear bx47
          clear hbase
          rintro g127 f125 w126 ⟨hbase, zs2, zs5, zs6, zs7, zs20, zs21, zs22, r_g_v, bx10, bx20, o_out_1, o_left, m115⟩
          refine run_inBlock ?_
          refine run_region rfl ?_
          refine l_val (v := Value.int .i64 ((k : Int) + 1)) rfl (e_add (m := (k : Int)) (n := 1) (by exact zs22) rfl (by omega)) ?_
          refine l_val (v := Value.int .i64 ((k : Int) + 1)) rfl (e_move rfl) ?_
          refine l_nil ?_
          refine back7 (k + 1, out_1_v, out_1, left_v, left, (fun q => if q = (min (gI g.2 (k : Int)).1 (gI g.2 (k : Int)).2, max (gI g.2 (k : Int)).1 (gI g.2 (k : Int)).2) then ((seen (min (gI g.2 (k : Int)).1 (gI g.2 (k : Int)).2, max (gI g.2 (k : Int)).1 (gI g.2 (k : Int)).2)) + 1) else seen q), g127) _ _ ⟨hbase, (by exact zs2), (by exact zs5), (by exact zs6), (by exact zs7), (by exact zs20), (by exact zs21), rfl, r_g_v, bx10, bx20, m115, o_out_1, o_left, by omega, ?_⟩ ?_
          · show BareInv left out_1 (fun q => if q = (min (gI g.2 (k : Int)).1 (gI g.2 (k : Int)).2, max (gI g.2 (k : Int)).1 (gI g.2 (k : Int)).2) then ((seen (min (gI g.2 (k : Int)).1 (gI g.2 (k : Int)).2, max (gI g.2 (k : Int)).1 (gI g.2 (k : Int)).2)) + 1) else seen q) g (k + 1)
            first
              | exact hinv.take (by assumption) q34 p14
              | exact hinv.skip (by assumption) (.inl q34)
              | exact hinv.skip (by assumption) (.inr p14)
          · show Int.toNat (((List.length g.2 : Int) : Int) - ((k + 1) : Int)) < Int.toNat (((List.length g.2 : Int) : Int) - (k : Int))
            omega
    · skip
      refine run_cond_f rfl (decide_eq_false p7) ?_
      refine run_exit rfl ?_
      refine run_seq ?_
      clear m25
      refine run_region rfl ?_
      refine l_val (v := Value.agg (List.toArray [Value.int .i64 g.1, out_1_v])) rfl (e_load_bxN (ds := [Value.int .i64 g.1, out_1_v]) tp24_f (by exact zs5) bx20 rfl rfl) ?_
      refine l_val (v := left_v) rfl (e_move (by exact zs6)) ?_
      refine l_op rfl ?_
      refine o_store_bx (cs' := [Value.int .i64 g.1, out_1_v]) tp24_f (by exact zs2) rfl bx10 rfl (Nat.le_of_ble_eq_true rfl) (AllOne.all (.cons rfl (.cons (sl_one o_out_1.flat) .nil))) rfl ?_
      intro w128 ch129 bx130
      replace hbase := hbase.chg ch129 (is_ne rfl)
      replace r_g_v := r_g_v.chg ch129 (is_ne rfl)
      replace bx20 := bx20.chg ch129 (is_ne rfl)
      replace o_out_1 := o_out_1.chg ch129 (is_ne rfl) (is_ne rfl)
      replace o_left := o_left.chg ch129 (is_ne rfl) (is_ne rfl)
      clear bx10
      refine l_val (v := left_v) rfl (e_assign rfl) ?_
      refine l_val (v := Value.int .i64 0) rfl (e_assign rfl) ?_
      refine l_nil ?_
      refine run_ret (vs := [Value.agg (List.toArray [Value.int .i64 g.1, out_1_v]), left_v, Value.int .i64 0]) Try.func28 (.cell (by exact zs2) (load_bxN (ds := [Value.int .i64 g.1, out_1_v]) tp24_f bx130 rfl rfl) (.tmp rfl (.tmp rfl .nil))) ?_
      -- return 0
      have e0 : ((g.1, out_1) : (Int) × (List ((Int) × (Int)))) = ((bareR g).1) := by
        first
          | (have hn : ¬ MayP g := fun h => p1 (decide_eq_true h)
             simp only [bareR, if_neg hn]; done)
          | (have hk : k = g.2.length := by omega
             subst hk
             first
               | (simp only [bareR, if_pos hm, ← hinv.out]; done)
               | (simp only [bareR, if_pos hm, ← hinv.left]; done)
               | (simp only [bareR, if_pos hm]; done))
      have e1 : (left : List Int) = ((bareR g).2.1) := by
        first
          | (have hn : ¬ MayP g := fun h => p1 (decide_eq_true h)
             simp only [bareR, if_neg hn]; done)
          | (have hk : k = g.2.length := by omega
             subst hk
             first
               | (simp only [bareR, if_pos hm, ← hinv.out]; done)
               | (simp only [bareR, if_pos hm, ← hinv.left]; done)
               | (simp only [bareR, if_pos hm]; done))
      have e2 : (0 : Int) = ((bareR g).2.2) := by
        first
          | (have hn : ¬ MayP g := fun h => p1 (decide_eq_true h)
             simp only [bareR, if_neg hn]; done)
          | (have hk : k = g.2.length := by omega
             subst hk
             first
               | (simp only [bareR, if_pos hm, ← hinv.out]; done)
               | (simp only [bareR, if_pos hm, ← hinv.left]; done)
               | (simp only [bareR, if_pos hm]; done))
      exact ⟨(fin w0 g29 (fun n => if n = 8 then 1 else if n = 10 then 2 else 0), out_1_v, left_v), (congr3 (a := (g.1, out_1)) (b := left) (c := 0) (fun (z0 : (Int) × (List ((Int) × (Int)))) (z1 : List Int) (z2 : Int) => Ending.returned (Value.tuple (List.toArray [Value.agg (List.toArray [Value.int .i64 z0.1, out_1_v]), left_v, Value.int .i64 z2]))) e0 e1 e2), hbase.fresh _, ((congrArg (fun (z : (Int) × (List ((Int) × (Int)))) => z.2) e0) ▸ (o_out_1.glue (γ := c0) (ren := (fun n => if n = 8 then 1 else if n = 10 then 2 else 0)) (k := 1) hbase.col rfl rfl)), (e1 ▸ (o_left.glue (γ := c0) (ren := (fun n => if n = 8 then 1 else if n = 10 then 2 else 0)) (k := 2) hbase.col rfl rfl))⟩
  · skip
    refine run_cond_t rfl (congrArg Bool.not (Bool.eq_false_iff.2 p1)) ?_
    refine run_seq ?_
    clear bx5
    refine run_region rfl ?_
    refine l_val (v := Value.agg (List.toArray [Value.int .i64 0, Value.slice none 0 0])) rfl (e_build (vs := []) rfl (by kernel_rfl)) ?_
    refine l_op rfl ?_
    refine o_store_bx (cs' := [Value.int .i64 0, Value.slice none 0 0]) tp24_f rfl rfl bx10 rfl (Nat.le_of_ble_eq_true rfl) (AllOne.all (.cons rfl (.cons rfl .nil))) rfl ?_
    intro w131 ch132 bx133
    replace hbase := hbase.chg ch132 (is_ne rfl)
    replace r_g_v := r_g_v.chg ch132 (is_ne rfl)
    clear bx10
    refine l_val (v := Value.slice none 0 0) rfl (e_assign rfl) ?_
    refine l_val (v := Value.int .i64 1) rfl (e_assign rfl) ?_
    refine l_nil ?_
    refine run_ret (vs := [Value.agg (List.toArray [Value.int .i64 0, Value.slice none 0 0]), Value.slice none 0 0, Value.int .i64 1]) Try.func28 (.cell rfl (load_bxN (ds := [Value.int .i64 0, Value.slice none 0 0]) tp24_f bx133 rfl rfl) (.tmp rfl (.tmp rfl .nil))) ?_
    -- return 1
    have e0 : ((0, []) : (Int) × (List ((Int) × (Int)))) = ((bareR g).1) := by
      first
        | (have hn : ¬ MayP g := fun h => p1 (decide_eq_true h)
           simp only [bareR, if_neg hn]; done)
        | (have hk : k = g.2.length := by omega
           subst hk
           first
             | (simp only [bareR, if_pos hm, ← hinv.out]; done)
             | (simp only [bareR, if_pos hm, ← hinv.left]; done)
             | (simp only [bareR, if_pos hm]; done))
    have e1 : ([] : List Int) = ((bareR g).2.1) := by
      first
        | (have hn : ¬ MayP g := fun h => p1 (decide_eq_true h)
           simp only [bareR, if_neg hn]; done)
        | (have hk : k = g.2.length := by omega
           subst hk
           first
             | (simp only [bareR, if_pos hm, ← hinv.out]; done)
             | (simp only [bareR, if_pos hm, ← hinv.left]; done)
             | (simp only [bareR, if_pos hm]; done))
    have e2 : (1 : Int) = ((bareR g).2.2) := by
      first
        | (have hn : ¬ MayP g := fun h => p1 (decide_eq_true h)
           simp only [bareR, if_neg hn]; done)
        | (have hk : k = g.2.length := by omega
           subst hk
           first
             | (simp only [bareR, if_pos hm, ← hinv.out]; done)
             | (simp only [bareR, if_pos hm, ← hinv.left]; done)
             | (simp only [bareR, if_pos hm]; done))
    exact ⟨(fin w0 g9 (fun n => 0), (Value.slice none 0 0), (Value.slice none 0 0)), (congr3 (a := (0, [])) (b := []) (c := 1) (fun (z0 : (Int) × (List ((Int) × (Int)))) (z1 : List Int) (z2 : Int) => Ending.returned (Value.tuple (List.toArray [Value.agg (List.toArray [Value.int .i64 z0.1, Value.slice none 0 0]), Value.slice none 0 0, Value.int .i64 z2]))) e0 e1 e2), hbase.fresh _, ((congrArg (fun (z : (Int) × (List ((Int) × (Int)))) => z.2) e0) ▸ Ow.nil), (e1 ▸ Ow.nil)⟩
end TL
