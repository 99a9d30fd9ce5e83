import Derived.Test.YtilohhkbelkmdaaTlGenA
import Derived.Test.YtilohhkbelkmdaaTlGenC
import Derived.Test.YtilohhkbelkmdaaTlP3
import Derived.Test.YtilohhkbelkmdaaProg
set_option linter.all false
set_option maxRecDepth 20000
namespace TL
open Go Go.Proofs
theorem mixed_f : Try.prog.follows .mixedOrders = true := by kernel_rfl
theorem tp3_f : Tp Try.prog 3 false 1 8 (.int .i64 0) := Tp.of (by kernel_rfl)
theorem tp22_f : Tp Try.prog 22 false 1 24 (.slice none 0 0) := Tp.of (by kernel_rfl)
theorem tp24_f : Tp Try.prog 24 true 2 32 (.agg #[.int .i64 0, .slice none 0 0]) := Tp.of (by kernel_rfl)
theorem tp60_f : Tp Try.prog 60 true 2 16 (.agg #[.int .i64 0, .int .i64 0]) := Tp.of (by kernel_rfl)
theorem bd53_f : Try.f53.body.isNone = false := rfl
theorem nm53_f : (Try.f53.name == "runtime.NumGoroutine") = false := by decide +kernel
theorem bd95_f : Try.f95.body.isNone = false := rfl
theorem nm95_f : (Try.f95.name == "runtime.NumGoroutine") = false := by decide +kernel
theorem Split_ok (w0 : World) (g : (Int) × (List ((Int) × (Int)))) (g_v : Value) (hg_v : Ro w0 g_v g.2) (e : Int) :
    Calls Try.prog 69 #[Value.agg (List.toArray [Value.int .i64 g.1, g_v]), Value.int .i64 e] w0 (fun ee w => ∃ xx : Cmap × Value, ee = .returned ((fun ⟨δ, rv0⟩ => Value.tuple (List.toArray [Value.agg (List.toArray [Value.int .i64 (((splitR g e).1).1), rv0]), Value.int .i64 ((splitR g e).2)])) xx) ∧ (fun (⟨δ, rv0⟩ : Cmap × Value) (w : World) => Fresh w0 δ w ∧ Ow δ (is 1) (is 1) w rv0 (((splitR g e).1).2)) xx w) := by
 refine calls_of_run Try.func69 rfl (Nat.le_of_ble_eq_true rfl) ?_
 have hbase := Base.start w0
 have r_g_v := hg_v.sl
 refine run_seq (run_region rfl (l_op rfl ?_))
 refine o_box c0 (is 1) (1, 0) rfl rfl ?_
 intro g4 w1 b3 ch2 bx5
 replace bx5 : Bx g4 (is 1) w1 b3 [Value.int .i64 g.1, g_v] := bx5
 refine l_op rfl ?_
 refine o_alloc g4 (is 2) (2, 0) rfl tp24_f ?_
 intro g9 w6 b8 ch7 bx10
 replace bx10 : Bx g9 (is 2) w6 b8 [Value.int .i64 0, Value.slice none 0 0] := bx10
 refine l_val (v := Value.int .i64 0) rfl (e_assign rfl) ?_
 refine l_nil (run_seq ?_)
 refine run_block ?_
 refine run_seq (run_region rfl ?_)
 replace bx5 := bx5.chg ch7 (not_no _)
 refine l_val (v := Value.agg (List.toArray [Value.int .i64 g.1, g_v])) rfl (e_load_bxN (ds := [Value.int .i64 g.1, g_v]) tp24_f rfl bx5 rfl rfl) ?_
 replace r_g_v := (r_g_v.chg ch2 (not_no _)).chg ch7 (not_no _)
 refine l_op rfl ?_
 refine o_call (v := Value.bool (mayB g)) (e_call (vals := [Value.agg (List.toArray [Value.int .i64 g.1, g_v])]) Try.func53 bd53_f nm53_f rfl) (May_ok w6 g g_v (r_g_v).ro) ?_
 intro w11 hb12
 replace hb12 := chg_below hb12 g9
 refine l_val (v := Value.bool (!(mayB g))) rfl (e_not (b := (mayB g)) rfl) ?_
 refine l_val (v := Value.bool (!(mayB g))) rfl (e_assign rfl) ?_
 refine l_nil ?_
 by_cases p1 : (mayB g) = true
 ·
  have hm := of_decide_eq_true p1
  have hm0 := hm
  obtain ⟨hm1, hm2, hm3, hm4⟩ := hm0
  refine run_cond_f rfl (congrArg Bool.not p1) ?_
  refine run_seq (run_region rfl ?_)
  refine l_val (v := Value.int .i64 e) rfl (e_move rfl) ?_
  refine l_val (v := Value.bool (decide (e < 0))) rfl (e_lss (m := e) (n := 0) rfl rfl) ?_
  refine l_val (v := Value.bool (decide (e < 0))) rfl (e_move rfl) ?_
  by_cases q16 : e < 0
  ·
   refine l_skip (want_n rfl rfl rfl (decide_eq_true q16)) ?_
   refine l_skip (want_n rfl rfl rfl (decide_eq_true q16)) ?_
   refine l_skip (want_n rfl rfl rfl (decide_eq_true q16)) ?_
   refine l_skip (want_n rfl rfl rfl (decide_eq_true q16)) ?_
   refine l_skip (want_n rfl rfl rfl (decide_eq_true q16)) ?_
   refine l_val (v := Value.bool true) rfl (e_pick_t rfl (decide_eq_true q16) rfl) ?_
   refine l_val (v := Value.bool true) rfl (e_assign rfl) ?_
   refine l_nil ?_
   refine run_cond_t rfl rfl ?_
   refine run_seq ?_
   clear bx5
   refine run_region rfl ?_
   refine l_val (v := Value.agg (List.toArray [Value.int .i64 0, Value.slice none 0 0])) rfl (e_build (vs := []) rfl (by kernel_rfl)) ?_
   refine l_op rfl ?_
   replace bx10 := bx10.chg hb12 (not_no _)
   refine o_store_bx (cs' := [Value.int .i64 0, Value.slice none 0 0]) tp24_f rfl rfl bx10 rfl (Nat.le_of_ble_eq_true rfl) (AllOne.all (.cons rfl (.cons rfl .nil))) rfl ?_
   intro w13 ch14 bx15
   clear bx10
   refine l_val (v := Value.int .i64 2) rfl (e_assign rfl) ?_
   refine l_nil ?_
   refine run_ret (vs := [Value.agg (List.toArray [Value.int .i64 0, Value.slice none 0 0]), Value.int .i64 2]) Try.func69 (.cell rfl (load_bxN (ds := [Value.int .i64 0, Value.slice none 0 0]) tp24_f bx15 rfl rfl) (.tmp rfl .nil)) ?_
   -- return 0
   have C16 : Chg (inl [2]) _ _ _ _ := (ch2.n).seq ((ch7.n).seq ((hb12.n).seq (ch14.l rfl)))
   replace hbase := hbase.chg C16 (is_nl rfl)
   have e0 : ((0, []) : (Int) × (List ((Int) × (Int)))) = ((splitR g e).1) := by
     first
       | (have hn : ¬ MayP g := fun h => p1 (decide_eq_true h)
          simp only [splitR, if_neg hn]; done)
       | (have hn : ¬ (0 ≤ e ∧ e < (g.2.length : Int)) := fun h => by omega
          simp only [splitR, if_pos hm, if_neg hn]; done)
       | (have hn : ¬ (g.1 < 1024 ∧ g.2.length < 3072) := fun h => by omega
          have ha : 0 ≤ e ∧ e < (g.2.length : Int) := by omega
          simp only [splitR, if_pos hm, if_pos ha, if_neg hn]; done)
       | (have hn : g.1 < 1024 ∧ g.2.length < 3072 := by omega
          have ha : 0 ≤ e ∧ e < (g.2.length : Int) := by omega
          simp only [splitR, if_pos hm, if_pos ha, if_pos hn]; done)
   have e1 : (2 : Int) = ((splitR g e).2) := by
     first
       | (have hn : ¬ MayP g := fun h => p1 (decide_eq_true h)
          simp only [splitR, if_neg hn]; done)
       | (have hn : ¬ (0 ≤ e ∧ e < (g.2.length : Int)) := fun h => by omega
          simp only [splitR, if_pos hm, if_neg hn]; done)
       | (have hn : ¬ (g.1 < 1024 ∧ g.2.length < 3072) := fun h => by omega
          have ha : 0 ≤ e ∧ e < (g.2.length : Int) := by omega
          simp only [splitR, if_pos hm, if_pos ha, if_neg hn]; done)
       | (have hn : g.1 < 1024 ∧ g.2.length < 3072 := by omega
          have ha : 0 ≤ e ∧ e < (g.2.length : Int) := by omega
          simp only [splitR, if_pos hm, if_pos ha, if_pos hn]; done)
   exact ⟨(fin w0 g9 (fun n => 0), (Value.slice none 0 0)), (congr2 (a := (0, [])) (b := 2) (fun (z0 : (Int) × (List ((Int) × (Int)))) (z1 : Int) => Ending.returned (Value.tuple (List.toArray [Value.agg (List.toArray [Value.int .i64 z0.1, Value.slice none 0 0]), Value.int .i64 z1]))) e0 e1), hbase.fresh _, ((congrArg (fun (z : (Int) × (List ((Int) × (Int)))) => z.2) e0) ▸ Ow.nil)⟩
  refine l_val (v := Value.int .i64 e) (want_y rfl rfl rfl (decide_eq_false q16)) (e_move rfl) ?_
  refine l_val (v := Value.pointer (some ⟨b3, 1, none⟩)) (want_y rfl rfl rfl (decide_eq_false q16)) (e_fieldAddr Try.underlying24 rfl rfl rfl rfl) ?_
  replace bx5 := bx5.chg hb12 (not_no _)
  refine l_val (v := g_v) (want_y rfl rfl rfl (decide_eq_false q16)) (e_load_bx1 tp22_f rfl bx5 rfl) ?_
  replace r_g_v := r_g_v.chg hb12 (not_no _)
  have len17 := (r_g_v).small
  refine l_val (v := Value.int .i64 (List.length g.2 : Int)) (want_y rfl rfl rfl (decide_eq_false q16)) (e_len Try.underlying22 rfl r_g_v) ?_
  refine l_val (v := Value.bool (decide ((List.length g.2 : Int) ≤ e))) (want_y rfl rfl rfl (decide_eq_false q16)) (e_geq (m := e) (n := (List.length g.2 : Int)) rfl rfl) ?_
  refine l_val (v := Value.bool (decide ((List.length g.2 : Int) ≤ e))) rfl (e_pick_f rfl (decide_eq_false q16) rfl) ?_
  refine l_val (v := Value.bool (decide ((List.length g.2 : Int) ≤ e))) rfl (e_assign rfl) ?_
  refine l_nil ?_
  by_cases p3 : (List.length g.2 : Int) ≤ e
  ·
   refine run_cond_t rfl (decide_eq_true p3) ?_
   refine run_seq ?_
   clear bx5
   refine run_region rfl ?_
   refine l_val (v := Value.agg (List.toArray [Value.int .i64 0, Value.slice none 0 0])) rfl (e_build (vs := []) rfl (by kernel_rfl)) ?_
   refine l_op rfl ?_
   replace bx10 := bx10.chg hb12 (not_no _)
   refine o_store_bx (cs' := [Value.int .i64 0, Value.slice none 0 0]) tp24_f rfl rfl bx10 rfl (Nat.le_of_ble_eq_true rfl) (AllOne.all (.cons rfl (.cons rfl .nil))) rfl ?_
   intro w18 ch19 bx20
   clear bx10
   refine l_val (v := Value.int .i64 2) rfl (e_assign rfl) ?_
   refine l_nil ?_
   refine run_ret (vs := [Value.agg (List.toArray [Value.int .i64 0, Value.slice none 0 0]), Value.int .i64 2]) Try.func69 (.cell rfl (load_bxN (ds := [Value.int .i64 0, Value.slice none 0 0]) tp24_f bx20 rfl rfl) (.tmp rfl .nil)) ?_
   -- return 1
   have C21 : Chg (inl [2]) _ _ _ _ := (ch2.n).seq ((ch7.n).seq ((hb12.n).seq (ch19.l rfl)))
   replace hbase := hbase.chg C21 (is_nl rfl)
   have e0 : ((0, []) : (Int) × (List ((Int) × (Int)))) = ((splitR g e).1) := by
     first
       | (have hn : ¬ MayP g := fun h => p1 (decide_eq_true h)
          simp only [splitR, if_neg hn]; done)
       | (have hn : ¬ (0 ≤ e ∧ e < (g.2.length : Int)) := fun h => by omega
          simp only [splitR, if_pos hm, if_neg hn]; done)
       | (have hn : ¬ (g.1 < 1024 ∧ g.2.length < 3072) := fun h => by omega
          have ha : 0 ≤ e ∧ e < (g.2.length : Int) := by omega
          simp only [splitR, if_pos hm, if_pos ha, if_neg hn]; done)
       | (have hn : g.1 < 1024 ∧ g.2.length < 3072 := by omega
          have ha : 0 ≤ e ∧ e < (g.2.length : Int) := by omega
          simp only [splitR, if_pos hm, if_pos ha, if_pos hn]; done)
   have e1 : (2 : Int) = ((splitR g e).2) := by
     first
       | (have hn : ¬ MayP g := fun h => p1 (decide_eq_true h)
          simp only [splitR, if_neg hn]; done)
       | (have hn : ¬ (0 ≤ e ∧ e < (g.2.length : Int)) := fun h => by omega
          simp only [splitR, if_pos hm, if_neg hn]; done)
       | (have hn : ¬ (g.1 < 1024 ∧ g.2.length < 3072) := fun h => by omega
          have ha : 0 ≤ e ∧ e < (g.2.length : Int) := by omega
          simp only [splitR, if_pos hm, if_pos ha, if_neg hn]; done)
       | (have hn : g.1 < 1024 ∧ g.2.length < 3072 := by omega
          have ha : 0 ≤ e ∧ e < (g.2.length : Int) := by omega
          simp only [splitR, if_pos hm, if_pos ha, if_pos hn]; done)
   exact ⟨(fin w0 g9 (fun n => 0), (Value.slice none 0 0)), (congr2 (a := (0, [])) (b := 2) (fun (z0 : (Int) × (List ((Int) × (Int)))) (z1 : Int) => Ending.returned (Value.tuple (List.toArray [Value.agg (List.toArray [Value.int .i64 z0.1, Value.slice none 0 0]), Value.int .i64 z1]))) e0 e1), hbase.fresh _, ((congrArg (fun (z : (Int) × (List ((Int) × (Int)))) => z.2) e0) ▸ Ow.nil)⟩
  refine run_cond_f rfl (decide_eq_false p3) ?_
  refine run_seq (run_region rfl ?_)
  refine l_val (v := Value.pointer (some ⟨b3, 0, none⟩)) rfl (e_fieldAddr Try.underlying24 rfl rfl rfl rfl) ?_
  refine l_val (v := Value.int .i64 g.1) rfl (e_load_bx1 tp3_f rfl bx5 rfl) ?_
  refine l_val (v := Value.bool (decide (1024 ≤ g.1))) rfl (e_geq (m := g.1) (n := 1024) rfl rfl) ?_
  refine l_val (v := Value.bool (decide (1024 ≤ g.1))) rfl (e_move rfl) ?_
  by_cases q28 : 1024 ≤ g.1
  ·
   refine l_skip (want_n rfl rfl rfl (decide_eq_true q28)) ?_
   refine l_skip (want_n rfl rfl rfl (decide_eq_true q28)) ?_
   refine l_skip (want_n rfl rfl rfl (decide_eq_true q28)) ?_
   refine l_skip (want_n rfl rfl rfl (decide_eq_true q28)) ?_
   refine l_val (v := Value.bool true) rfl (e_pick_t rfl (decide_eq_true q28) rfl) ?_
   refine l_val (v := Value.bool true) rfl (e_assign rfl) ?_
   refine l_nil ?_
   refine run_cond_t rfl rfl ?_
   refine run_seq ?_
   clear bx5
   refine run_region rfl ?_
   refine l_val (v := Value.agg (List.toArray [Value.int .i64 0, Value.slice none 0 0])) rfl (e_build (vs := []) rfl (by kernel_rfl)) ?_
   refine l_op rfl ?_
   replace bx10 := bx10.chg hb12 (not_no _)
   refine o_store_bx (cs' := [Value.int .i64 0, Value.slice none 0 0]) tp24_f rfl rfl bx10 rfl (Nat.le_of_ble_eq_true rfl) (AllOne.all (.cons rfl (.cons rfl .nil))) rfl ?_
   intro w22 ch23 bx24
   clear bx10
   refine l_val (v := Value.int .i64 3) rfl (e_assign rfl) ?_
   refine l_nil ?_
   refine run_ret (vs := [Value.agg (List.toArray [Value.int .i64 0, Value.slice none 0 0]), Value.int .i64 3]) Try.func69 (.cell rfl (load_bxN (ds := [Value.int .i64 0, Value.slice none 0 0]) tp24_f bx24 rfl rfl) (.tmp rfl .nil)) ?_
   -- return 2
   have C25 : Chg (inl [2]) _ _ _ _ := (ch2.n).seq ((ch7.n).seq ((hb12.n).seq (ch23.l rfl)))
   replace hbase := hbase.chg C25 (is_nl rfl)
   have e0 : ((0, []) : (Int) × (List ((Int) × (Int)))) = ((splitR g e).1) := by
     first
       | (have hn : ¬ MayP g := fun h => p1 (decide_eq_true h)
          simp only [splitR, if_neg hn]; done)
       | (have hn : ¬ (0 ≤ e ∧ e < (g.2.length : Int)) := fun h => by omega
          simp only [splitR, if_pos hm, if_neg hn]; done)
       | (have hn : ¬ (g.1 < 1024 ∧ g.2.length < 3072) := fun h => by omega
          have ha : 0 ≤ e ∧ e < (g.2.length : Int) := by omega
          simp only [splitR, if_pos hm, if_pos ha, if_neg hn]; done)
       | (have hn : g.1 < 1024 ∧ g.2.length < 3072 := by omega
          have ha : 0 ≤ e ∧ e < (g.2.length : Int) := by omega
          simp only [splitR, if_pos hm, if_pos ha, if_pos hn]; done)
   have e1 : (3 : Int) = ((splitR g e).2) := by
     first
       | (have hn : ¬ MayP g := fun h => p1 (decide_eq_true h)
          simp only [splitR, if_neg hn]; done)
       | (have hn : ¬ (0 ≤ e ∧ e < (g.2.length : Int)) := fun h => by omega
          simp only [splitR, if_pos hm, if_neg hn]; done)
       | (have hn : ¬ (g.1 < 1024 ∧ g.2.length < 3072) := fun h => by omega
          have ha : 0 ≤ e ∧ e < (g.2.length : Int) := by omega
          simp only [splitR, if_pos hm, if_pos ha, if_neg hn]; done)
       | (have hn : g.1 < 1024 ∧ g.2.length < 3072 := by omega
          have ha : 0 ≤ e ∧ e < (g.2.length : Int) := by omega
          simp only [splitR, if_pos hm, if_pos ha, if_pos hn]; done)
   exact ⟨(fin w0 g9 (fun n => 0), (Value.slice none 0 0)), (congr2 (a := (0, [])) (b := 3) (fun (z0 : (Int) × (List ((Int) × (Int)))) (z1 : Int) => Ending.returned (Value.tuple (List.toArray [Value.agg (List.toArray [Value.int .i64 z0.1, Value.slice none 0 0]), Value.int .i64 z1]))) e0 e1), hbase.fresh _, ((congrArg (fun (z : (Int) × (List ((Int) × (Int)))) => z.2) e0) ▸ Ow.nil)⟩
  refine l_val (v := Value.pointer (some ⟨b3, 1, none⟩)) (want_y rfl rfl rfl (decide_eq_false q28)) (e_fieldAddr Try.underlying24 rfl rfl rfl rfl) ?_
  refine l_val (v := g_v) (want_y rfl rfl rfl (decide_eq_false q28)) (e_load_bx1 tp22_f rfl bx5 rfl) ?_
  refine l_val (v := Value.int .i64 (List.length g.2 : Int)) (want_y rfl rfl rfl (decide_eq_false q28)) (e_len Try.underlying22 rfl r_g_v) ?_
  refine l_val (v := Value.bool (decide (3072 ≤ (List.length g.2 : Int)))) (want_y rfl rfl rfl (decide_eq_false q28)) (e_geq (m := (List.length g.2 : Int)) (n := 3072) rfl rfl) ?_
  refine l_val (v := Value.bool (decide (3072 ≤ (List.length g.2 : Int)))) rfl (e_pick_f rfl (decide_eq_false q28) rfl) ?_
  refine l_val (v := Value.bool (decide (3072 ≤ (List.length g.2 : Int)))) rfl (e_assign rfl) ?_
  refine l_nil ?_
  by_cases p5 : 3072 ≤ (List.length g.2 : Int)
  ·
   refine run_cond_t rfl (decide_eq_true p5) ?_
   refine run_seq ?_
   clear bx5
   refine run_region rfl ?_
   refine l_val (v := Value.agg (List.toArray [Value.int .i64 0, Value.slice none 0 0])) rfl (e_build (vs := []) rfl (by kernel_rfl)) ?_
   refine l_op rfl ?_
   replace bx10 := bx10.chg hb12 (not_no _)
   refine o_store_bx (cs' := [Value.int .i64 0, Value.slice none 0 0]) tp24_f rfl rfl bx10 rfl (Nat.le_of_ble_eq_true rfl) (AllOne.all (.cons rfl (.cons rfl .nil))) rfl ?_
   intro w26 ch27 bx28
   clear bx10
   refine l_val (v := Value.int .i64 3) rfl (e_assign rfl) ?_
   refine l_nil ?_
   refine run_ret (vs := [Value.agg (List.toArray [Value.int .i64 0, Value.slice none 0 0]), Value.int .i64 3]) Try.func69 (.cell rfl (load_bxN (ds := [Value.int .i64 0, Value.slice none 0 0]) tp24_f bx28 rfl rfl) (.tmp rfl .nil)) ?_
   -- return 3
   have C29 : Chg (inl [2]) _ _ _ _ := (ch2.n).seq ((ch7.n).seq ((hb12.n).seq (ch27.l rfl)))
   replace hbase := hbase.chg C29 (is_nl rfl)
   have e0 : ((0, []) : (Int) × (List ((Int) × (Int)))) = ((splitR g e).1) := by
     first
       | (have hn : ¬ MayP g := fun h => p1 (decide_eq_true h)
          simp only [splitR, if_neg hn]; done)
       | (have hn : ¬ (0 ≤ e ∧ e < (g.2.length : Int)) := fun h => by omega
          simp only [splitR, if_pos hm, if_neg hn]; done)
       | (have hn : ¬ (g.1 < 1024 ∧ g.2.length < 3072) := fun h => by omega
          have ha : 0 ≤ e ∧ e < (g.2.length : Int) := by omega
          simp only [splitR, if_pos hm, if_pos ha, if_neg hn]; done)
       | (have hn : g.1 < 1024 ∧ g.2.length < 3072 := by omega
          have ha : 0 ≤ e ∧ e < (g.2.length : Int) := by omega
          simp only [splitR, if_pos hm, if_pos ha, if_pos hn]; done)
   have e1 : (3 : Int) = ((splitR g e).2) := by
     first
       | (have hn : ¬ MayP g := fun h => p1 (decide_eq_true h)
          simp only [splitR, if_neg hn]; done)
       | (have hn : ¬ (0 ≤ e ∧ e < (g.2.length : Int)) := fun h => by omega
          simp only [splitR, if_pos hm, if_neg hn]; done)
       | (have hn : ¬ (g.1 < 1024 ∧ g.2.length < 3072) := fun h => by omega
          have ha : 0 ≤ e ∧ e < (g.2.length : Int) := by omega
          simp only [splitR, if_pos hm, if_pos ha, if_neg hn]; done)
       | (have hn : g.1 < 1024 ∧ g.2.length < 3072 := by omega
          have ha : 0 ≤ e ∧ e < (g.2.length : Int) := by omega
          simp only [splitR, if_pos hm, if_pos ha, if_pos hn]; done)
   exact ⟨(fin w0 g9 (fun n => 0), (Value.slice none 0 0)), (congr2 (a := (0, [])) (b := 3) (fun (z0 : (Int) × (List ((Int) × (Int)))) (z1 : Int) => Ending.returned (Value.tuple (List.toArray [Value.agg (List.toArray [Value.int .i64 z0.1, Value.slice none 0 0]), Value.int .i64 z1]))) e0 e1), hbase.fresh _, ((congrArg (fun (z : (Int) × (List ((Int) × (Int)))) => z.2) e0) ▸ Ow.nil)⟩
  refine run_cond_f rfl (decide_eq_false p5) ?_
  refine run_skip ?_
  refine run_inBlock ?_
  refine run_seq (run_region rfl ?_)
  refine l_val (v := Value.agg (List.toArray [Value.int .i64 g.1, g_v])) rfl (e_load_bxN (ds := [Value.int .i64 g.1, g_v]) tp24_f rfl bx5 rfl rfl) ?_
  refine l_op rfl ?_
  refine o_callx (e_call (vals := [Value.agg (List.toArray [Value.int .i64 g.1, g_v])]) Try.func95 bd95_f nm95_f rfl) (copied_ok w11 g g_v (r_g_v).ro (by exact hm)) ?_
  rintro ⟨d31, v33⟩ w30 ⟨fr32, o34⟩
  obtain ⟨g35, hg35⟩ : ∃ q, q = glue w11.heap.size g9 d31 (fun n => if n = 1 then 3 else 0) := ⟨_, rfl⟩
  have ch36 := chg_glue fr32.below g9 d31 (fun n => if n = 1 then 3 else 0)
  rw [← hg35] at ch36
  replace o34 := o34.glue (γ := g9) (ren := (fun n => if n = 1 then 3 else 0)) (k := 3) fr32.col rfl rfl
  rw [← hg35] at o34
  clear hg35
  refine l_op rfl ?_
  refine o_alloc g35 (is 4) (4, 0) rfl tp24_f ?_
  intro g40 w37 b39 ch38 bx41
  replace bx41 : Bx g40 (is 4) w37 b39 [Value.int .i64 0, Value.slice none 0 0] := bx41
  refine l_op rfl ?_
  replace o34 := o34.chg ch38 (not_no _) (not_no _)
  refine o_store_bx (cs' := [Value.int .i64 g.1, v33]) tp24_f rfl rfl bx41 rfl (Nat.le_of_ble_eq_true rfl) (AllOne.all (.cons rfl (.cons (sl_one o34.flat) .nil))) rfl ?_
  intro w42 ch43 bx44
  clear bx41
  refine l_nil (run_seq (run_region rfl ?_))
  refine l_val (v := Value.pointer (some ⟨b39, 1, none⟩)) rfl (e_fieldAddr Try.underlying24 rfl rfl rfl rfl) ?_
  refine l_val (v := v33) rfl (e_load_bx1 tp22_f rfl bx44 rfl) ?_
  refine l_val (v := Value.int .i64 e) rfl (e_move rfl) ?_
  replace o34 := o34.chg ch43 (is_ne rfl) (is_ne rfl)
  refine l_val (v := Value.pointer (some (eAddr v33 2 (Int.toNat e)))) rfl (e_indexAddr (α := (Int) × (Int)) (xs := g.2) (v := v33) (i := e) Try.underlying22 rfl rfl o34.flat rfl (by omega) (by omega)) ?_
  refine l_val (v := Value.pointer (some ⟨(eAddr v33 2 (Int.toNat e)).block, (eAddr v33 2 (Int.toNat e)).off + 1, none⟩)) rfl (e_indexAddr_el Try.underlying60 rfl rfl rfl (by decide) (by decide) rfl) ?_
  refine l_val (v := Value.int .i64 ((gI g.2 e).2)) rfl (e_load_elF (α := (Int) × (Int)) (xs := g.2) (v := v33) (i := e) tp3_f rfl o34.flat (by omega) (by omega) (by decide) rfl) ?_
  refine l_val (v := Value.int .i64 ((gI g.2 e).2)) rfl (e_assign rfl) ?_
  refine l_nil (run_seq ?_)
  refine run_region_x g40 [0, 1, 2, 3, 4, 5, 6] mixed_f ?_
  intro w46 ch45
  refine x_pure (v := Value.pointer (some ⟨b39, 1, none⟩)) 0 rfl (by kernel_rfl) (by kernel_rfl) rfl (fun w => e_fieldAddr Try.underlying24 rfl rfl rfl rfl) ?_
  replace bx44 := bx44.chg ch45 (not_no _)
  refine x_val (v := v33) 1 [0, 2, 3, 4] rfl (by kernel_rfl) (by kernel_rfl) rfl (e_load_bx1 tp22_f rfl bx44 rfl) ?_
  refine x_pure (v := Value.int .i64 e) 2 rfl (by kernel_rfl) (by kernel_rfl) rfl (fun w => e_move rfl) ?_
  refine x_pure (v := Value.pointer (some ⟨b3, 0, none⟩)) 3 rfl (by kernel_rfl) (by kernel_rfl) rfl (fun w => e_fieldAddr Try.underlying24 rfl rfl rfl rfl) ?_
  have C47 : Chg (inl [4]) _ _ _ _ := (ch36.n).seq ((ch38.n).seq ((ch43.l rfl).seq (ch45.n)))
  replace bx5 := bx5.chg C47 (is_nl rfl)
  refine x_val (v := Value.int .i64 g.1) 4 [3, 2, 1, 0, 5] rfl (by kernel_rfl) (by kernel_rfl) rfl (e_load_bx1 tp3_f rfl bx5 rfl) ?_
  replace o34 := o34.chg ch45 (not_no _) (not_no _)
  refine x_val (v := Value.pointer (some (eAddr v33 2 (Int.toNat e)))) 5 [4, 3, 2, 1, 0] rfl (by kernel_rfl) (by kernel_rfl) rfl (e_indexAddr (α := (Int) × (Int)) (xs := g.2) (v := v33) (i := e) Try.underlying22 rfl rfl o34.flat rfl (by omega) (by omega)) ?_
  refine x_val (v := Value.pointer (some ⟨(eAddr v33 2 (Int.toNat e)).block, (eAddr v33 2 (Int.toNat e)).off + 1, none⟩)) 6 [5, 4, 3, 2, 1, 0] rfl (by kernel_rfl) (by kernel_rfl) rfl (e_indexAddr_el Try.underlying60 rfl rfl rfl (by decide) (by decide) rfl) ?_
  refine x_one 7 rfl (by kernel_rfl) rfl ?_
  refine o_store_elF (i := e) (q := 1) ((gI g.2 e).1, g.1) tp3_f rfl rfl o34 (by omega) (by omega) (by decide) rfl rfl rfl ?_
  intro w48 ch49 bx50
  clear o34
  refine x_nil (by kernel_rfl) ?_
  refine run_seq (run_region rfl ?_)
  refine l_val (v := Value.pointer (some ⟨b39, 1, none⟩)) rfl (e_fieldAddr Try.underlying24 rfl rfl rfl rfl) ?_
  replace bx44 := bx44.chg ch49 (is_ne rfl)
  refine l_val (v := v33) rfl (e_load_bx1 tp22_f rfl bx44 rfl) ?_
  refine l_val (v := Value.pointer (some ⟨b3, 0, none⟩)) rfl (e_fieldAddr Try.underlying24 rfl rfl rfl rfl) ?_
  replace bx5 := bx5.chg ch49 (is_ne rfl)
  refine l_val (v := Value.int .i64 g.1) rfl (e_load_bx1 tp3_f rfl bx5 rfl) ?_
  refine l_val (v := Value.int .i64 ((gI g.2 e).2)) rfl (e_move rfl) ?_
  refine l_val (v := Value.agg (List.toArray [Value.int .i64 g.1, Value.int .i64 ((gI g.2 e).2)])) rfl (e_build (vs := [(0, Value.int .i64 g.1), (1, Value.int .i64 ((gI g.2 e).2))]) rfl (by kernel_rfl)) ?_
  refine l_op rfl ?_
  refine o_buildSlice (α := (Int) × (Int)) g40 (is 5) (is 5) (5, 0) rfl [(g.1, (gI g.2 e).2)] Try.underlying22 tp60_f (by decide) (by decide) (vs := [(0, Value.agg (List.toArray [Value.int .i64 g.1, Value.int .i64 ((gI g.2 e).2)]))]) rfl rfl (.cons rfl .nil) ?_
  intro g51 w52 v53 ch54 o55
  refine l_op rfl ?_
  replace bx50 := bx50.chg ch54 (not_no _) (not_no _)
  refine o_append (α := (Int) × (Int)) (xs := (List.set g.2 (Int.toNat e) ((gI g.2 e).1, g.1))) (ys := ([(g.1, (gI g.2 e).2)])) g51 (J := is 3) (S := is 3) (3, 0) rfl Try.underlying22 tp60_f (by decide) rfl rfl rfl bx50 o55.flat (by decide) (by first | omega | (simp; done) | (simp; omega)) ?_
  intro g56 w57 v58 ch59 o60
  clear bx50
  refine l_val (v := Value.pointer (some ⟨b39, 1, none⟩)) rfl (e_fieldAddr Try.underlying24 rfl rfl rfl rfl) ?_
  refine l_op rfl ?_
  replace bx44 := (bx44.chg ch54 (not_no _)).chg ch59 (is_ne rfl)
  refine o_store_bx1 (cs' := [Value.int .i64 g.1, v58]) tp22_f rfl rfl bx44 (sl_cells1 o60.flat) (Nat.le_of_ble_eq_true rfl) (sl_one o60.flat) rfl ?_
  intro w61 ch62 bx63
  clear bx44
  refine l_nil (run_seq ?_)
  clear bx5
  clear o55
  refine run_region rfl ?_
  refine l_val (v := Value.pointer (some ⟨b39, 0, none⟩)) rfl (e_fieldAddr Try.underlying24 rfl rfl rfl rfl) ?_
  refine l_val (v := Value.int .i64 g.1) rfl (e_load_bx1 tp3_f rfl bx63 rfl) ?_
  refine l_val (v := Value.int .i64 (g.1 + 1)) rfl (e_add (m := g.1) (n := 1) rfl rfl (by omega)) ?_
  refine l_val (v := Value.pointer (some ⟨b39, 0, none⟩)) rfl (e_fieldAddr Try.underlying24 rfl rfl rfl rfl) ?_
  refine l_op rfl ?_
  refine o_store_bx (cs' := [Value.int .i64 (g.1 + 1), v58]) tp3_f rfl rfl bx63 rfl (Nat.le_of_ble_eq_true rfl) (AllOne.all (.cons rfl .nil)) rfl ?_
  intro w64 ch65 bx66
  clear bx63
  refine l_nil (run_seq (run_region rfl ?_))
  refine l_val (v := Value.agg (List.toArray [Value.int .i64 (g.1 + 1), v58])) rfl (e_load_bxN (ds := [Value.int .i64 (g.1 + 1), v58]) tp24_f rfl bx66 rfl rfl) ?_
  refine l_op rfl ?_
  have C70 : Chg (inl [3, 4]) _ _ _ _ := (hb12.n).seq ((ch36.n).seq ((ch38.n).seq ((ch43.l rfl).seq ((ch45.n).seq ((ch49.l rfl).seq ((ch54.n).seq ((ch59.l rfl).seq ((ch62.l rfl).seq (ch65.l rfl)))))))))
  replace bx10 := bx10.chg C70 (is_nl rfl)
  replace o60 := (o60.chg ch62 (is_ne rfl) (is_ne rfl)).chg ch65 (is_ne rfl) (is_ne rfl)
  refine o_store_bx (cs' := [Value.int .i64 (g.1 + 1), v58]) tp24_f rfl rfl bx10 rfl (Nat.le_of_ble_eq_true rfl) (AllOne.all (.cons rfl (.cons (sl_one o60.flat) .nil))) rfl ?_
  intro w67 ch68 bx69
  clear bx10
  refine l_val (v := Value.int .i64 0) rfl (e_assign rfl) ?_
  refine l_nil ?_
  refine run_ret (vs := [Value.agg (List.toArray [Value.int .i64 (g.1 + 1), v58]), Value.int .i64 0]) Try.func69 (.cell rfl (load_bxN (ds := [Value.int .i64 (g.1 + 1), v58]) tp24_f bx69 rfl rfl) (.tmp rfl .nil)) ?_
  -- return 4
  have C71 : Chg (inl [2, 3, 4]) _ _ _ _ := (ch2.n).seq ((ch7.n).seq ((hb12.n).seq ((ch36.n).seq ((ch38.n).seq ((ch43.l rfl).seq ((ch45.n).seq ((ch49.l rfl).seq ((ch54.n).seq ((ch59.l rfl).seq ((ch62.l rfl).seq ((ch65.l rfl).seq (ch68.l rfl))))))))))))
  replace hbase := hbase.chg C71 (is_nl rfl)
  replace o60 := o60.chg ch68 (is_ne rfl) (is_ne rfl)
  have e0 : ((g.1 + 1, ((List.set g.2 (Int.toNat e) ((gI g.2 e).1, g.1)) ++ [(g.1, (gI g.2 e).2)])) : (Int) × (List ((Int) × (Int)))) = ((splitR g e).1) := by
    first
      | (have hn : ¬ MayP g := fun h => p1 (decide_eq_true h)
         simp only [splitR, if_neg hn]; done)
      | (have hn : ¬ (0 ≤ e ∧ e < (g.2.length : Int)) := fun h => by omega
         simp only [splitR, if_pos hm, if_neg hn]; done)
      | (have hn : ¬ (g.1 < 1024 ∧ g.2.length < 3072) := fun h => by omega
         have ha : 0 ≤ e ∧ e < (g.2.length : Int) := by omega
         simp only [splitR, if_pos hm, if_pos ha, if_neg hn]; done)
      | (have hn : g.1 < 1024 ∧ g.2.length < 3072 := by omega
         have ha : 0 ≤ e ∧ e < (g.2.length : Int) := by omega
         simp only [splitR, if_pos hm, if_pos ha, if_pos hn]; done)
  have e1 : (0 : Int) = ((splitR g e).2) := by
    first
      | (have hn : ¬ MayP g := fun h => p1 (decide_eq_true h)
         simp only [splitR, if_neg hn]; done)
      | (have hn : ¬ (0 ≤ e ∧ e < (g.2.length : Int)) := fun h => by omega
         simp only [splitR, if_pos hm, if_neg hn]; done)
      | (have hn : ¬ (g.1 < 1024 ∧ g.2.length < 3072) := fun h => by omega
         have ha : 0 ≤ e ∧ e < (g.2.length : Int) := by omega
         simp only [splitR, if_pos hm, if_pos ha, if_neg hn]; done)
      | (have hn : g.1 < 1024 ∧ g.2.length < 3072 := by omega
         have ha : 0 ≤ e ∧ e < (g.2.length : Int) := by omega
         simp only [splitR, if_pos hm, if_pos ha, if_pos hn]; done)
  exact ⟨(fin w0 g56 (fun n => if n = 3 then 1 else 0), v58), (congr2 (a := (g.1 + 1, ((List.set g.2 (Int.toNat e) ((gI g.2 e).1, g.1)) ++ [(g.1, (gI g.2 e).2)]))) (b := 0) (fun (z0 : (Int) × (List ((Int) × (Int)))) (z1 : Int) => Ending.returned (Value.tuple (List.toArray [Value.agg (List.toArray [Value.int .i64 z0.1, v58]), Value.int .i64 z1]))) e0 e1), hbase.fresh _, ((congrArg (fun (z : (Int) × (List ((Int) × (Int)))) => z.2) e0) ▸ (o60.glue (γ := c0) (ren := (fun n => if n = 3 then 1 else 0)) (k := 1) hbase.col rfl rfl))⟩
 refine run_cond_t rfl (congrArg Bool.not (Bool.eq_false_iff.2 p1)) ?_
 refine run_seq ?_
 clear bx5
 refine run_region rfl ?_
 refine l_val (v := Value.agg (List.toArray [Value.int .i64 0, Value.slice none 0 0])) rfl (e_build (vs := []) rfl (by kernel_rfl)) ?_
 refine l_op rfl ?_
 replace bx10 := bx10.chg hb12 (not_no _)
 refine o_store_bx (cs' := [Value.int .i64 0, Value.slice none 0 0]) tp24_f rfl rfl bx10 rfl (Nat.le_of_ble_eq_true rfl) (AllOne.all (.cons rfl (.cons rfl .nil))) rfl ?_
 intro w72 ch73 bx74
 clear bx10
 refine l_val (v := Value.int .i64 1) rfl (e_assign rfl) ?_
 refine l_nil ?_
 refine run_ret (vs := [Value.agg (List.toArray [Value.int .i64 0, Value.slice none 0 0]), Value.int .i64 1]) Try.func69 (.cell rfl (load_bxN (ds := [Value.int .i64 0, Value.slice none 0 0]) tp24_f bx74 rfl rfl) (.tmp rfl .nil)) ?_
 -- return 5
 have C75 : Chg (inl [2]) _ _ _ _ := (ch2.n).seq ((ch7.n).seq ((hb12.n).seq (ch73.l rfl)))
 replace hbase := hbase.chg C75 (is_nl rfl)
 have e0 : ((0, []) : (Int) × (List ((Int) × (Int)))) = ((splitR g e).1) := by
   first
     | (have hn : ¬ MayP g := fun h => p1 (decide_eq_true h)
        simp only [splitR, if_neg hn]; done)
     | (have hn : ¬ (0 ≤ e ∧ e < (g.2.length : Int)) := fun h => by omega
        simp only [splitR, if_pos hm, if_neg hn]; done)
     | (have hn : ¬ (g.1 < 1024 ∧ g.2.length < 3072) := fun h => by omega
        have ha : 0 ≤ e ∧ e < (g.2.length : Int) := by omega
        simp only [splitR, if_pos hm, if_pos ha, if_neg hn]; done)
     | (have hn : g.1 < 1024 ∧ g.2.length < 3072 := by omega
        have ha : 0 ≤ e ∧ e < (g.2.length : Int) := by omega
        simp only [splitR, if_pos hm, if_pos ha, if_pos hn]; done)
 have e1 : (1 : Int) = ((splitR g e).2) := by
   first
     | (have hn : ¬ MayP g := fun h => p1 (decide_eq_true h)
        simp only [splitR, if_neg hn]; done)
     | (have hn : ¬ (0 ≤ e ∧ e < (g.2.length : Int)) := fun h => by omega
        simp only [splitR, if_pos hm, if_neg hn]; done)
     | (have hn : ¬ (g.1 < 1024 ∧ g.2.length < 3072) := fun h => by omega
        have ha : 0 ≤ e ∧ e < (g.2.length : Int) := by omega
        simp only [splitR, if_pos hm, if_pos ha, if_neg hn]; done)
     | (have hn : g.1 < 1024 ∧ g.2.length < 3072 := by omega
        have ha : 0 ≤ e ∧ e < (g.2.length : Int) := by omega
        simp only [splitR, if_pos hm, if_pos ha, if_pos hn]; done)
 exact ⟨(fin w0 g9 (fun n => 0), (Value.slice none 0 0)), (congr2 (a := (0, [])) (b := 1) (fun (z0 : (Int) × (List ((Int) × (Int)))) (z1 : Int) => Ending.returned (Value.tuple (List.toArray [Value.agg (List.toArray [Value.int .i64 z0.1, Value.slice none 0 0]), Value.int .i64 z1]))) e0 e1), hbase.fresh _, ((congrArg (fun (z : (Int) × (List ((Int) × (Int)))) => z.2) e0) ▸ Ow.nil)⟩
end TL
