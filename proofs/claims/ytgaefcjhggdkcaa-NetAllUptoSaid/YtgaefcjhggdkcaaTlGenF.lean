import Derived.Test.YtgaefcjhggdkcaaTlGenA
import Derived.Test.YtgaefcjhggdkcaaTlGenC
import Derived.Test.YtgaefcjhggdkcaaTlNet3
import Derived.Test.YtgaefcjhggdkcaaProg
import Derived.Test.YtgaefcjhggdkcaaTlNet2
import Derived.Test.YtgaefcjhggdkcaaTlEq
import Derived.Test.YtgaefcjhggdkcaaTlHold
import Derived.Test.YtgaefcjhggdkcaaTlDraw
import Derived.Test.YtgaefcjhggdkcaaTlMap
set_option linter.all false
set_option maxRecDepth 20000
namespace TL
open Go Go.Proofs
theorem mixed_f : Try.prog.follows .mixedOrders = true := by kernel_rfl
theorem tp3_f : Tp Try.prog 3 false 1 8 (.int .i64 0) := Tp.of (by kernel_rfl)
theorem tp22_f : Tp Try.prog 22 false 1 24 (.slice none 0 0) := Tp.of (by kernel_rfl)
theorem tp24_f : Tp Try.prog 24 true 2 32 (.agg #[.int .i64 0, .slice none 0 0]) := Tp.of (by kernel_rfl)
theorem tp71_f : Tp Try.prog 71 true 2 16 (.agg #[.int .i64 0, .int .i64 0]) := Tp.of (by kernel_rfl)
theorem bd25_f : Try.f25.body.isNone = false := rfl
theorem nm25_f : (Try.f25.name == "runtime.NumGoroutine") = false := by decide +kernel
theorem bd93_f : Try.f93.body.isNone = false := rfl
theorem nm93_f : (Try.f93.name == "runtime.NumGoroutine") = false := by decide +kernel
theorem bd94_f : Try.f94.body.isNone = false := rfl
theorem nm94_f : (Try.f94.name == "runtime.NumGoroutine") = false := by decide +kernel
theorem bd99_f : Try.f99.body.isNone = false := rfl
theorem nm99_f : (Try.f99.name == "runtime.NumGoroutine") = false := by decide +kernel
theorem bd103_f : Try.f103.body.isNone = false := rfl
theorem nm103_f : (Try.f103.name == "runtime.NumGoroutine") = false := by decide +kernel

theorem Split_ok (w0 : World) (g : (Int) × (List ((Int) × (Int)))) (g_v : Value) (hg_v : Ro w0 g_v g.2) (e : Int) :
    Calls Try.prog 56 #[Value.agg (List.toArray [Value.int .i64 g.1, g_v]), Value.int .i64 e] w0 (fun ee w => ∃ xx : Cmap × Value, ee = .returned ((fun ⟨δ, rv0⟩ => Value.tuple (List.toArray [Value.agg (List.toArray [Value.int .i64 (((splitR g e).1).1), rv0]), Value.int .i64 ((splitR g e).2)])) xx) ∧ (fun (⟨δ, rv0⟩ : Cmap × Value) (w : World) => Fresh w0 δ w ∧ Ow δ (is 1) (is 1) w rv0 (((splitR g e).1).2)) xx w) := by
 refine calls_of_run Try.func56 rfl (Nat.le_of_ble_eq_true rfl) ?_
 have hbase := Base.start w0
 have r_g_v := hg_v.sl
 refine run_seq ?_
 refine run_region rfl ?_
 refine l_op rfl ?_
 refine o_box c0 (is 1) (1, 0) rfl rfl ?_
 intro g4 w1 b3 ch2 bx5
 replace bx5 : Bx g4 (is 1) w1 b3 [Value.int .i64 g.1, g_v] := bx5
 refine l_op rfl ?_
 refine o_alloc g4 (is 2) (2, 0) rfl tp24_f ?_
 intro g9 w6 b8 ch7 bx10
 replace bx10 : Bx g9 (is 2) w6 b8 [Value.int .i64 0, Value.slice none 0 0] := bx10
 refine l_val (v := Value.int .i64 0) rfl (e_assign rfl) ?_
 refine l_nil ?_
 refine run_seq ?_
 refine run_block ?_
 refine run_seq ?_
 refine run_region rfl ?_
 replace bx5 := bx5.chg ch7 (not_no _)
 refine l_val (v := Value.agg (List.toArray [Value.int .i64 g.1, g_v])) rfl (e_load_bxN (ds := [Value.int .i64 g.1, g_v]) tp24_f rfl bx5 rfl rfl) ?_
 replace r_g_v := (r_g_v.chg ch2 (not_no _)).chg ch7 (not_no _)
 refine l_op rfl ?_
 refine o_call (v := Value.bool (mayB g)) (e_call (vals := [Value.agg (List.toArray [Value.int .i64 g.1, g_v])]) Try.func25 bd25_f nm25_f rfl) (May_ok w6 g g_v (r_g_v).ro) ?_
 intro w11 hb12
 replace hb12 := chg_below hb12 g9
 refine l_val (v := Value.bool (!(mayB g))) rfl (e_not (b := (mayB g)) rfl) ?_
 refine l_val (v := Value.bool (!(mayB g))) rfl (e_assign rfl) ?_
 refine l_nil ?_
 by_cases p1 : (mayB g) = true
 ·
  have hm := of_decide_eq_true p1
  have hm0 := hm
  obtain ⟨hm1, hm2, hm3, hm4⟩ := hm0
  refine run_cond_f rfl (congrArg Bool.not p1) ?_
  refine run_seq ?_
  refine run_region rfl ?_
  refine l_val (v := Value.int .i64 e) rfl (e_move rfl) ?_
  refine l_val (v := Value.bool (decide (e < 0))) rfl (e_lss (m := e) (n := 0) rfl rfl) ?_
  refine l_val (v := Value.bool (decide (e < 0))) rfl (e_move rfl) ?_
  by_cases q16 : e < 0
  ·
   refine l_skip (want_n rfl rfl rfl (decide_eq_true q16)) ?_
   refine l_skip (want_n rfl rfl rfl (decide_eq_true q16)) ?_
   refine l_skip (want_n rfl rfl rfl (decide_eq_true q16)) ?_
   refine l_skip (want_n rfl rfl rfl (decide_eq_true q16)) ?_
   refine l_skip (want_n rfl rfl rfl (decide_eq_true q16)) ?_
   refine l_val (v := Value.bool true) rfl (e_pick_t rfl (decide_eq_true q16) rfl) ?_
   refine l_val (v := Value.bool true) rfl (e_assign rfl) ?_
   refine l_nil ?_
   refine run_cond_t rfl rfl ?_
   refine run_seq ?_
   clear bx5
   refine run_region rfl ?_
   refine l_val (v := Value.agg (List.toArray [Value.int .i64 0, Value.slice none 0 0])) rfl (e_build (vs := []) rfl (by kernel_rfl)) ?_
   refine l_op rfl ?_
   replace bx10 := bx10.chg hb12 (not_no _)
   refine o_store_bx (cs' := [Value.int .i64 0, Value.slice none 0 0]) tp24_f rfl rfl bx10 rfl (Nat.le_of_ble_eq_true rfl) (AllOne.all (.cons rfl (.cons rfl .nil))) rfl ?_
   intro w13 ch14 bx15
   clear bx10
   refine l_val (v := Value.int .i64 2) rfl (e_assign rfl) ?_
   refine l_nil ?_
   refine run_ret (vs := [Value.agg (List.toArray [Value.int .i64 0, Value.slice none 0 0]), Value.int .i64 2]) Try.func56 (.cell rfl (load_bxN (ds := [Value.int .i64 0, Value.slice none 0 0]) tp24_f bx15 rfl rfl) (.tmp rfl .nil)) ?_
   -- return 0
   have C16 : Chg (inl [2]) _ _ _ _ := (ch2.n).seq ((ch7.n).seq ((hb12.n).seq (ch14.l rfl)))
   replace hbase := hbase.chg C16 (is_nl rfl)
   have e0 : ((0, []) : (Int) × (List ((Int) × (Int)))) = ((splitR g e).1) := by
     first
       | (have hn : ¬ MayP g := fun h => p1 (decide_eq_true h)
          simp only [splitR, if_neg hn]; done)
       | (have hn : ¬ (0 ≤ e ∧ e < (g.2.length : Int)) := fun h => by omega
          simp only [splitR, if_pos hm, if_neg hn]; done)
       | (have hn : ¬ (g.1 < 1024 ∧ g.2.length < 3072) := fun h => by omega
          have ha : 0 ≤ e ∧ e < (g.2.length : Int) := by omega
          simp only [splitR, if_pos hm, if_pos ha, if_neg hn]; done)
       | (have hn : g.1 < 1024 ∧ g.2.length < 3072 := by omega
          have ha : 0 ≤ e ∧ e < (g.2.length : Int) := by omega
          simp only [splitR, if_pos hm, if_pos ha, if_pos hn]; done)
   have e1 : (2 : Int) = ((splitR g e).2) := by
     first
       | (have hn : ¬ MayP g := fun h => p1 (decide_eq_true h)
          simp only [splitR, if_neg hn]; done)
       | (have hn : ¬ (0 ≤ e ∧ e < (g.2.length : Int)) := fun h => by omega
          simp only [splitR, if_pos hm, if_neg hn]; done)
       | (have hn : ¬ (g.1 < 1024 ∧ g.2.length < 3072) := fun h => by omega
          have ha : 0 ≤ e ∧ e < (g.2.length : Int) := by omega
          simp only [splitR, if_pos hm, if_pos ha, if_neg hn]; done)
       | (have hn : g.1 < 1024 ∧ g.2.length < 3072 := by omega
          have ha : 0 ≤ e ∧ e < (g.2.length : Int) := by omega
          simp only [splitR, if_pos hm, if_pos ha, if_pos hn]; done)
   exact ⟨(fin w0 g9 (fun n => 0), (Value.slice none 0 0)), (congr2 (a := (0, [])) (b := 2) (fun (z0 : (Int) × (List ((Int) × (Int)))) (z1 : Int) => Ending.returned (Value.tuple (List.toArray [Value.agg (List.toArray [Value.int .i64 z0.1, Value.slice none 0 0]), Value.int .i64 z1]))) e0 e1), hbase.fresh _, ((congrArg (fun (z : (Int) × (List ((Int) × (Int)))) => z.2) e0) ▸ Ow.nil)⟩
  refine l_val (v := Value.int .i64 e) (want_y rfl rfl rfl (decide_eq_false q16)) (e_move rfl) ?_
  refine l_val (v := Value.pointer (some ⟨b3, 1, none⟩)) (want_y rfl rfl rfl (decide_eq_false q16)) (e_fieldAddr Try.underlying24 rfl rfl rfl rfl) ?_
  replace bx5 := bx5.chg hb12 (not_no _)
  refine l_val (v := g_v) (want_y rfl rfl rfl (decide_eq_false q16)) (e_load_bx1 tp22_f rfl bx5 rfl) ?_
  replace r_g_v := r_g_v.chg hb12 (not_no _)
  have len17 := (r_g_v).small
  refine l_val (v := Value.int .i64 (List.length g.2 : Int)) (want_y rfl rfl rfl (decide_eq_false q16)) (e_len Try.underlying22 rfl r_g_v) ?_
  refine l_val (v := Value.bool (decide ((List.length g.2 : Int) ≤ e))) (want_y rfl rfl rfl (decide_eq_false q16)) (e_geq (m := e) (n := (List.length g.2 : Int)) rfl rfl) ?_
  refine l_val (v := Value.bool (decide ((List.length g.2 : Int) ≤ e))) rfl (e_pick_f rfl (decide_eq_false q16) rfl) ?_
  refine l_val (v := Value.bool (decide ((List.length g.2 : Int) ≤ e))) rfl (e_assign rfl) ?_
  refine l_nil ?_
  by_cases p3 : (List.length g.2 : Int) ≤ e
  ·
   refine run_cond_t rfl (decide_eq_true p3) ?_
   refine run_seq ?_
   clear bx5
   refine run_region rfl ?_
   refine l_val (v := Value.agg (List.toArray [Value.int .i64 0, Value.slice none 0 0])) rfl (e_build (vs := []) rfl (by kernel_rfl)) ?_
   refine l_op rfl ?_
   replace bx10 := bx10.chg hb12 (not_no _)
   refine o_store_bx (cs' := [Value.int .i64 0, Value.slice none 0 0]) tp24_f rfl rfl bx10 rfl (Nat.le_of_ble_eq_true rfl) (AllOne.all (.cons rfl (.cons rfl .nil))) rfl ?_
   intro w18 ch19 bx20
   clear bx10
   refine l_val (v := Value.int .i64 2) rfl (e_assign rfl) ?_
   refine l_nil ?_
   refine run_ret (vs := [Value.agg (List.toArray [Value.int .i64 0, Value.slice none 0 0]), Value.int .i64 2]) Try.func56 (.cell rfl (load_bxN (ds := [Value.int .i64 0, Value.slice none 0 0]) tp24_f bx20 rfl rfl) (.tmp rfl .nil)) ?_
   -- return 1
   have C21 : Chg (inl [2]) _ _ _ _ := (ch2.n).seq ((ch7.n).seq ((hb12.n).seq (ch19.l rfl)))
   replace hbase := hbase.chg C21 (is_nl rfl)
   have e0 : ((0, []) : (Int) × (List ((Int) × (Int)))) = ((splitR g e).1) := by
     first
       | (have hn : ¬ MayP g := fun h => p1 (decide_eq_true h)
          simp only [splitR, if_neg hn]; done)
       | (have hn : ¬ (0 ≤ e ∧ e < (g.2.length : Int)) := fun h => by omega
          simp only [splitR, if_pos hm, if_neg hn]; done)
       | (have hn : ¬ (g.1 < 1024 ∧ g.2.length < 3072) := fun h => by omega
          have ha : 0 ≤ e ∧ e < (g.2.length : Int) := by omega
          simp only [splitR, if_pos hm, if_pos ha, if_neg hn]; done)
       | (have hn : g.1 < 1024 ∧ g.2.length < 3072 := by omega
          have ha : 0 ≤ e ∧ e < (g.2.length : Int) := by omega
          simp only [splitR, if_pos hm, if_pos ha, if_pos hn]; done)
   have e1 : (2 : Int) = ((splitR g e).2) := by
     first
       | (have hn : ¬ MayP g := fun h => p1 (decide_eq_true h)
          simp only [splitR, if_neg hn]; done)
       | (have hn : ¬ (0 ≤ e ∧ e < (g.2.length : Int)) := fun h => by omega
          simp only [splitR, if_pos hm, if_neg hn]; done)
       | (have hn : ¬ (g.1 < 1024 ∧ g.2.length < 3072) := fun h => by omega
          have ha : 0 ≤ e ∧ e < (g.2.length : Int) := by omega
          simp only [splitR, if_pos hm, if_pos ha, if_neg hn]; done)
       | (have hn : g.1 < 1024 ∧ g.2.length < 3072 := by omega
          have ha : 0 ≤ e ∧ e < (g.2.length : Int) := by omega
          simp only [splitR, if_pos hm, if_pos ha, if_pos hn]; done)
   exact ⟨(fin w0 g9 (fun n => 0), (Value.slice none 0 0)), (congr2 (a := (0, [])) (b := 2) (fun (z0 : (Int) × (List ((Int) × (Int)))) (z1 : Int) => Ending.returned (Value.tuple (List.toArray [Value.agg (List.toArray [Value.int .i64 z0.1, Value.slice none 0 0]), Value.int .i64 z1]))) e0 e1), hbase.fresh _, ((congrArg (fun (z : (Int) × (List ((Int) × (Int)))) => z.2) e0) ▸ Ow.nil)⟩
  refine run_cond_f rfl (decide_eq_false p3) ?_
  refine run_seq ?_
  refine run_region rfl ?_
  refine l_val (v := Value.pointer (some ⟨b3, 0, none⟩)) rfl (e_fieldAddr Try.underlying24 rfl rfl rfl rfl) ?_
  refine l_val (v := Value.int .i64 g.1) rfl (e_load_bx1 tp3_f rfl bx5 rfl) ?_
  refine l_val (v := Value.bool (decide (1024 ≤ g.1))) rfl (e_geq (m := g.1) (n := 1024) rfl rfl) ?_
  refine l_val (v := Value.bool (decide (1024 ≤ g.1))) rfl (e_move rfl) ?_
  by_cases q28 : 1024 ≤ g.1
  ·
   refine l_skip (want_n rfl rfl rfl (decide_eq_true q28)) ?_
   refine l_skip (want_n rfl rfl rfl (decide_eq_true q28)) ?_
   refine l_skip (want_n rfl rfl rfl (decide_eq_true q28)) ?_
   refine l_skip (want_n rfl rfl rfl (decide_eq_true q28)) ?_
   refine l_val (v := Value.bool true) rfl (e_pick_t rfl (decide_eq_true q28) rfl) ?_
   refine l_val (v := Value.bool true) rfl (e_assign rfl) ?_
   refine l_nil ?_
   refine run_cond_t rfl rfl ?_
   refine run_seq ?_
   clear bx5
   refine run_region rfl ?_
   refine l_val (v := Value.agg (List.toArray [Value.int .i64 0, Value.slice none 0 0])) rfl (e_build (vs := []) rfl (by kernel_rfl)) ?_
   refine l_op rfl ?_
   replace bx10 := bx10.chg hb12 (not_no _)
   refine o_store_bx (cs' := [Value.int .i64 0, Value.slice none 0 0]) tp24_f rfl rfl bx10 rfl (Nat.le_of_ble_eq_true rfl) (AllOne.all (.cons rfl (.cons rfl .nil))) rfl ?_
   intro w22 ch23 bx24
   clear bx10
   refine l_val (v := Value.int .i64 3) rfl (e_assign rfl) ?_
   refine l_nil ?_
   refine run_ret (vs := [Value.agg (List.toArray [Value.int .i64 0, Value.slice none 0 0]), Value.int .i64 3]) Try.func56 (.cell rfl (load_bxN (ds := [Value.int .i64 0, Value.slice none 0 0]) tp24_f bx24 rfl rfl) (.tmp rfl .nil)) ?_
   -- return 2
   have C25 : Chg (inl [2]) _ _ _ _ := (ch2.n).seq ((ch7.n).seq ((hb12.n).seq (ch23.l rfl)))
   replace hbase := hbase.chg C25 (is_nl rfl)
   have e0 : ((0, []) : (Int) × (List ((Int) × (Int)))) = ((splitR g e).1) := by
     first
       | (have hn : ¬ MayP g := fun h => p1 (decide_eq_true h)
          simp only [splitR, if_neg hn]; done)
       | (have hn : ¬ (0 ≤ e ∧ e < (g.2.length : Int)) := fun h => by omega
          simp only [splitR, if_pos hm, if_neg hn]; done)
       | (have hn : ¬ (g.1 < 1024 ∧ g.2.length < 3072) := fun h => by omega
          have ha : 0 ≤ e ∧ e < (g.2.length : Int) := by omega
          simp only [splitR, if_pos hm, if_pos ha, if_neg hn]; done)
       | (have hn : g.1 < 1024 ∧ g.2.length < 3072 := by omega
          have ha : 0 ≤ e ∧ e < (g.2.length : Int) := by omega
          simp only [splitR, if_pos hm, if_pos ha, if_pos hn]; done)
   have e1 : (3 : Int) = ((splitR g e).2) := by
     first
       | (have hn : ¬ MayP g := fun h => p1 (decide_eq_true h)
          simp only [splitR, if_neg hn]; done)
       | (have hn : ¬ (0 ≤ e ∧ e < (g.2.length : Int)) := fun h => by omega
          simp only [splitR, if_pos hm, if_neg hn]; done)
       | (have hn : ¬ (g.1 < 1024 ∧ g.2.length < 3072) := fun h => by omega
          have ha : 0 ≤ e ∧ e < (g.2.length : Int) := by omega
          simp only [splitR, if_pos hm, if_pos ha, if_neg hn]; done)
       | (have hn : g.1 < 1024 ∧ g.2.length < 3072 := by omega
          have ha : 0 ≤ e ∧ e < (g.2.length : Int) := by omega
          simp only [splitR, if_pos hm, if_pos ha, if_pos hn]; done)
   exact ⟨(fin w0 g9 (fun n => 0), (Value.slice none 0 0)), (congr2 (a := (0, [])) (b := 3) (fun (z0 : (Int) × (List ((Int) × (Int)))) (z1 : Int) => Ending.returned (Value.tuple (List.toArray [Value.agg (List.toArray [Value.int .i64 z0.1, Value.slice none 0 0]), Value.int .i64 z1]))) e0 e1), hbase.fresh _, ((congrArg (fun (z : (Int) × (List ((Int) × (Int)))) => z.2) e0) ▸ Ow.nil)⟩
  refine l_val (v := Value.pointer (some ⟨b3, 1, none⟩)) (want_y rfl rfl rfl (decide_eq_false q28)) (e_fieldAddr Try.underlying24 rfl rfl rfl rfl) ?_
  refine l_val (v := g_v) (want_y rfl rfl rfl (decide_eq_false q28)) (e_load_bx1 tp22_f rfl bx5 rfl) ?_
  refine l_val (v := Value.int .i64 (List.length g.2 : Int)) (want_y rfl rfl rfl (decide_eq_false q28)) (e_len Try.underlying22 rfl r_g_v) ?_
  refine l_val (v := Value.bool (decide (3072 ≤ (List.length g.2 : Int)))) (want_y rfl rfl rfl (decide_eq_false q28)) (e_geq (m := (List.length g.2 : Int)) (n := 3072) rfl rfl) ?_
  refine l_val (v := Value.bool (decide (3072 ≤ (List.length g.2 : Int)))) rfl (e_pick_f rfl (decide_eq_false q28) rfl) ?_
  refine l_val (v := Value.bool (decide (3072 ≤ (List.length g.2 : Int)))) rfl (e_assign rfl) ?_
  refine l_nil ?_
  by_cases p5 : 3072 ≤ (List.length g.2 : Int)
  ·
   refine run_cond_t rfl (decide_eq_true p5) ?_
   refine run_seq ?_
   clear bx5
   refine run_region rfl ?_
   refine l_val (v := Value.agg (List.toArray [Value.int .i64 0, Value.slice none 0 0])) rfl (e_build (vs := []) rfl (by kernel_rfl)) ?_
   refine l_op rfl ?_
   replace bx10 := bx10.chg hb12 (not_no _)
   refine o_store_bx (cs' := [Value.int .i64 0, Value.slice none 0 0]) tp24_f rfl rfl bx10 rfl (Nat.le_of_ble_eq_true rfl) (AllOne.all (.cons rfl (.cons rfl .nil))) rfl ?_
   intro w26 ch27 bx28
   clear bx10
   refine l_val (v := Value.int .i64 3) rfl (e_assign rfl) ?_
   refine l_nil ?_
   refine run_ret (vs := [Value.agg (List.toArray [Value.int .i64 0, Value.slice none 0 0]), Value.int .i64 3]) Try.func56 (.cell rfl (load_bxN (ds := [Value.int .i64 0, Value.slice none 0 0]) tp24_f bx28 rfl rfl) (.tmp rfl .nil)) ?_
   -- return 3
   have C29 : Chg (inl [2]) _ _ _ _ := (ch2.n).seq ((ch7.n).seq ((hb12.n).seq (ch27.l rfl)))
   replace hbase := hbase.chg C29 (is_nl rfl)
   have e0 : ((0, []) : (Int) × (List ((Int) × (Int)))) = ((splitR g e).1) := by
     first
       | (have hn : ¬ MayP g := fun h => p1 (decide_eq_true h)
          simp only [splitR, if_neg hn]; done)
       | (have hn : ¬ (0 ≤ e ∧ e < (g.2.length : Int)) := fun h => by omega
          simp only [splitR, if_pos hm, if_neg hn]; done)
       | (have hn : ¬ (g.1 < 1024 ∧ g.2.length < 3072) := fun h => by omega
          have ha : 0 ≤ e ∧ e < (g.2.length : Int) := by omega
          simp only [splitR, if_pos hm, if_pos ha, if_neg hn]; done)
       | (have hn : g.1 < 1024 ∧ g.2.length < 3072 := by omega
          have ha : 0 ≤ e ∧ e < (g.2.length : Int) := by omega
          simp only [splitR, if_pos hm, if_pos ha, if_pos hn]; done)
   have e1 : (3 : Int) = ((splitR g e).2) := by
     first
       | (have hn : ¬ MayP g := fun h => p1 (decide_eq_true h)
          simp only [splitR, if_neg hn]; done)
       | (have hn : ¬ (0 ≤ e ∧ e < (g.2.length : Int)) := fun h => by omega
          simp only [splitR, if_pos hm, if_neg hn]; done)
       | (have hn : ¬ (g.1 < 1024 ∧ g.2.length < 3072) := fun h => by omega
          have ha : 0 ≤ e ∧ e < (g.2.length : Int) := by omega
          simp only [splitR, if_pos hm, if_pos ha, if_neg hn]; done)
       | (have hn : g.1 < 1024 ∧ g.2.length < 3072 := by omega
          have ha : 0 ≤ e ∧ e < (g.2.length : Int) := by omega
          simp only [splitR, if_pos hm, if_pos ha, if_pos hn]; done)
   exact ⟨(fin w0 g9 (fun n => 0), (Value.slice none 0 0)), (congr2 (a := (0, [])) (b := 3) (fun (z0 : (Int) × (List ((Int) × (Int)))) (z1 : Int) => Ending.returned (Value.tuple (List.toArray [Value.agg (List.toArray [Value.int .i64 z0.1, Value.slice none 0 0]), Value.int .i64 z1]))) e0 e1), hbase.fresh _, ((congrArg (fun (z : (Int) × (List ((Int) × (Int)))) => z.2) e0) ▸ Ow.nil)⟩
  refine run_cond_f rfl (decide_eq_false p5) ?_
  refine run_skip ?_
  refine run_inBlock ?_
  refine run_seq ?_
  refine run_region rfl ?_
  refine l_val (v := Value.agg (List.toArray [Value.int .i64 g.1, g_v])) rfl (e_load_bxN (ds := [Value.int .i64 g.1, g_v]) tp24_f rfl bx5 rfl rfl) ?_
  refine l_op rfl ?_
  refine o_callx (e_call (vals := [Value.agg (List.toArray [Value.int .i64 g.1, g_v])]) Try.func99 bd99_f nm99_f rfl) (copied_ok w11 g g_v (r_g_v).ro (by exact hm)) ?_
  rintro ⟨d31, v33⟩ w30 ⟨fr32, o34⟩
  obtain ⟨g35, hg35⟩ : ∃ q, q = glue w11.heap.size g9 d31 (fun n => if n = 1 then 3 else 0) := ⟨_, rfl⟩
  have ch36 := chg_glue fr32.below g9 d31 (fun n => if n = 1 then 3 else 0)
  rw [← hg35] at ch36
  replace o34 := o34.glue (γ := g9) (ren := (fun n => if n = 1 then 3 else 0)) (k := 3) fr32.col rfl rfl
  rw [← hg35] at o34
  clear hg35
  refine l_op rfl ?_
  refine o_alloc g35 (is 4) (4, 0) rfl tp24_f ?_
  intro g40 w37 b39 ch38 bx41
  replace bx41 : Bx g40 (is 4) w37 b39 [Value.int .i64 0, Value.slice none 0 0] := bx41
  refine l_op rfl ?_
  replace o34 := o34.chg ch38 (not_no _) (not_no _)
  refine o_store_bx (cs' := [Value.int .i64 g.1, v33]) tp24_f rfl rfl bx41 rfl (Nat.le_of_ble_eq_true rfl) (AllOne.all (.cons rfl (.cons (sl_one o34.flat) .nil))) rfl ?_
  intro w42 ch43 bx44
  clear bx41
  refine l_nil ?_
  refine run_seq ?_
  refine run_region rfl ?_
  refine l_val (v := Value.pointer (some ⟨b39, 1, none⟩)) rfl (e_fieldAddr Try.underlying24 rfl rfl rfl rfl) ?_
  refine l_val (v := v33) rfl (e_load_bx1 tp22_f rfl bx44 rfl) ?_
  refine l_val (v := Value.int .i64 e) rfl (e_move rfl) ?_
  replace o34 := o34.chg ch43 (is_ne rfl) (is_ne rfl)
  refine l_val (v := Value.pointer (some (eAddr v33 2 (Int.toNat e)))) rfl (e_indexAddr (α := (Int) × (Int)) (xs := g.2) (v := v33) (i := e) Try.underlying22 rfl rfl o34.flat rfl (by omega) (by omega)) ?_
  refine l_val (v := Value.pointer (some ⟨(eAddr v33 2 (Int.toNat e)).block, (eAddr v33 2 (Int.toNat e)).off + 1, none⟩)) rfl (e_indexAddr_el Try.underlying71 rfl rfl rfl (by decide) (by decide) rfl) ?_
  refine l_val (v := Value.int .i64 ((gI g.2 e).2)) rfl (e_load_elF (α := (Int) × (Int)) (xs := g.2) (v := v33) (i := e) tp3_f rfl o34.flat (by omega) (by omega) (by decide) rfl) ?_
  refine l_val (v := Value.int .i64 ((gI g.2 e).2)) rfl (e_assign rfl) ?_
  refine l_nil ?_
  refine run_seq ?_
  refine run_region_x g40 [0, 1, 2, 3, 4, 5, 6] mixed_f ?_
  intro w46 ch45
  refine x_pure (v := Value.pointer (some ⟨b39, 1, none⟩)) 0 rfl (by kernel_rfl) (by kernel_rfl) rfl (fun w => e_fieldAddr Try.underlying24 rfl rfl rfl rfl) ?_
  replace bx44 := bx44.chg ch45 (not_no _)
  refine x_val (v := v33) 1 [0, 2, 3, 4] rfl (by kernel_rfl) (by kernel_rfl) rfl (e_load_bx1 tp22_f rfl bx44 rfl) ?_
  refine x_pure (v := Value.int .i64 e) 2 rfl (by kernel_rfl) (by kernel_rfl) rfl (fun w => e_move rfl) ?_
  refine x_pure (v := Value.pointer (some ⟨b3, 0, none⟩)) 3 rfl (by kernel_rfl) (by kernel_rfl) rfl (fun w => e_fieldAddr Try.underlying24 rfl rfl rfl rfl) ?_
  have C47 : Chg (inl [4]) _ _ _ _ := (ch36.n).seq ((ch38.n).seq ((ch43.l rfl).seq (ch45.n)))
  replace bx5 := bx5.chg C47 (is_nl rfl)
  refine x_val (v := Value.int .i64 g.1) 4 [3, 2, 1, 0, 5] rfl (by kernel_rfl) (by kernel_rfl) rfl (e_load_bx1 tp3_f rfl bx5 rfl) ?_
  replace o34 := o34.chg ch45 (not_no _) (not_no _)
  refine x_val (v := Value.pointer (some (eAddr v33 2 (Int.toNat e)))) 5 [4, 3, 2, 1, 0] rfl (by kernel_rfl) (by kernel_rfl) rfl (e_indexAddr (α := (Int) × (Int)) (xs := g.2) (v := v33) (i := e) Try.underlying22 rfl rfl o34.flat rfl (by omega) (by omega)) ?_
  refine x_val (v := Value.pointer (some ⟨(eAddr v33 2 (Int.toNat e)).block, (eAddr v33 2 (Int.toNat e)).off + 1, none⟩)) 6 [5, 4, 3, 2, 1, 0] rfl (by kernel_rfl) (by kernel_rfl) rfl (e_indexAddr_el Try.underlying71 rfl rfl rfl (by decide) (by decide) rfl) ?_
  refine x_one 7 rfl (by kernel_rfl) rfl ?_
  refine o_store_elF (i := e) (q := 1) ((gI g.2 e).1, g.1) tp3_f rfl rfl o34 (by omega) (by omega) (by decide) rfl rfl rfl ?_
  intro w48 ch49 bx50
  clear o34
  refine x_nil (by kernel_rfl) ?_
  refine run_seq ?_
  refine run_region rfl ?_
  refine l_val (v := Value.pointer (some ⟨b39, 1, none⟩)) rfl (e_fieldAddr Try.underlying24 rfl rfl rfl rfl) ?_
  replace bx44 := bx44.chg ch49 (is_ne rfl)
  refine l_val (v := v33) rfl (e_load_bx1 tp22_f rfl bx44 rfl) ?_
  refine l_val (v := Value.pointer (some ⟨b3, 0, none⟩)) rfl (e_fieldAddr Try.underlying24 rfl rfl rfl rfl) ?_
  replace bx5 := bx5.chg ch49 (is_ne rfl)
  refine l_val (v := Value.int .i64 g.1) rfl (e_load_bx1 tp3_f rfl bx5 rfl) ?_
  refine l_val (v := Value.int .i64 ((gI g.2 e).2)) rfl (e_move rfl) ?_
  refine l_val (v := Value.agg (List.toArray [Value.int .i64 g.1, Value.int .i64 ((gI g.2 e).2)])) rfl (e_build (vs := [(0, Value.int .i64 g.1), (1, Value.int .i64 ((gI g.2 e).2))]) rfl (by kernel_rfl)) ?_
  refine l_op rfl ?_
  refine o_buildSlice (α := (Int) × (Int)) g40 (is 5) (is 5) (5, 0) rfl [(g.1, (gI g.2 e).2)] Try.underlying22 tp71_f (by decide) (by decide) (vs := [(0, Value.agg (List.toArray [Value.int .i64 g.1, Value.int .i64 ((gI g.2 e).2)]))]) rfl rfl (.cons rfl .nil) ?_
  intro g51 w52 v53 ch54 o55
  refine l_op rfl ?_
  replace bx50 := bx50.chg ch54 (not_no _) (not_no _)
  refine o_append (α := (Int) × (Int)) (xs := (List.set g.2 (Int.toNat e) ((gI g.2 e).1, g.1))) (ys := ([(g.1, (gI g.2 e).2)])) g51 (J := is 3) (S := is 3) (3, 0) rfl Try.underlying22 tp71_f (by decide) rfl rfl rfl bx50 o55.flat (by decide) (by first | omega | (simp; done) | (simp; omega)) ?_
  intro g56 w57 v58 ch59 o60
  clear bx50
  refine l_val (v := Value.pointer (some ⟨b39, 1, none⟩)) rfl (e_fieldAddr Try.underlying24 rfl rfl rfl rfl) ?_
  refine l_op rfl ?_
  replace bx44 := (bx44.chg ch54 (not_no _)).chg ch59 (is_ne rfl)
  refine o_store_bx1 (cs' := [Value.int .i64 g.1, v58]) tp22_f rfl rfl bx44 (sl_cells1 o60.flat) (Nat.le_of_ble_eq_true rfl) (sl_one o60.flat) rfl ?_
  intro w61 ch62 bx63
  clear bx44
  refine l_nil ?_
  refine run_seq ?_
  clear bx5
  clear o55
  refine run_region rfl ?_
  refine l_val (v := Value.pointer (some ⟨b39, 0, none⟩)) rfl (e_fieldAddr Try.underlying24 rfl rfl rfl rfl) ?_
  refine l_val (v := Value.int .i64 g.1) rfl (e_load_bx1 tp3_f rfl bx63 rfl) ?_
  refine l_val (v := Value.int .i64 (g.1 + 1)) rfl (e_add (m := g.1) (n := 1) rfl rfl (by omega)) ?_
  refine l_val (v := Value.pointer (some ⟨b39, 0, none⟩)) rfl (e_fieldAddr Try.underlying24 rfl rfl rfl rfl) ?_
  refine l_op rfl ?_
  refine o_store_bx (cs' := [Value.int .i64 (g.1 + 1), v58]) tp3_f rfl rfl bx63 rfl (Nat.le_of_ble_eq_true rfl) (AllOne.all (.cons rfl .nil)) rfl ?_
  intro w64 ch65 bx66
  clear bx63
  refine l_nil ?_
  refine run_seq ?_
  refine run_region rfl ?_
  refine l_val (v := Value.agg (List.toArray [Value.int .i64 (g.1 + 1), v58])) rfl (e_load_bxN (ds := [Value.int .i64 (g.1 + 1), v58]) tp24_f rfl bx66 rfl rfl) ?_
  refine l_op rfl ?_
  have C70 : Chg (inl [3, 4]) _ _ _ _ := (hb12.n).seq ((ch36.n).seq ((ch38.n).seq ((ch43.l rfl).seq ((ch45.n).seq ((ch49.l rfl).seq ((ch54.n).seq ((ch59.l rfl).seq ((ch62.l rfl).seq (ch65.l rfl)))))))))
  replace bx10 := bx10.chg C70 (is_nl rfl)
  replace o60 := (o60.chg ch62 (is_ne rfl) (is_ne rfl)).chg ch65 (is_ne rfl) (is_ne rfl)
  refine o_store_bx (cs' := [Value.int .i64 (g.1 + 1), v58]) tp24_f rfl rfl bx10 rfl (Nat.le_of_ble_eq_true rfl) (AllOne.all (.cons rfl (.cons (sl_one o60.flat) .nil))) rfl ?_
  intro w67 ch68 bx69
  clear bx10
  refine l_val (v := Value.int .i64 0) rfl (e_assign rfl) ?_
  refine l_nil ?_
  refine run_ret (vs := [Value.agg (List.toArray [Value.int .i64 (g.1 + 1), v58]), Value.int .i64 0]) Try.func56 (.cell rfl (load_bxN (ds := [Value.int .i64 (g.1 + 1), v58]) tp24_f bx69 rfl rfl) (.tmp rfl .nil)) ?_
  -- return 4
  have C71 : Chg (inl [2, 3, 4]) _ _ _ _ := (ch2.n).seq ((ch7.n).seq ((hb12.n).seq ((ch36.n).seq ((ch38.n).seq ((ch43.l rfl).seq ((ch45.n).seq ((ch49.l rfl).seq ((ch54.n).seq ((ch59.l rfl).seq ((ch62.l rfl).seq ((ch65.l rfl).seq (ch68.l rfl))))))))))))
  replace hbase := hbase.chg C71 (is_nl rfl)
  replace o60 := o60.chg ch68 (is_ne rfl) (is_ne rfl)
  have e0 : ((g.1 + 1, ((List.set g.2 (Int.toNat e) ((gI g.2 e).1, g.1)) ++ [(g.1, (gI g.2 e).2)])) : (Int) × (List ((Int) × (Int)))) = ((splitR g e).1) := by
    first
      | (have hn : ¬ MayP g := fun h => p1 (decide_eq_true h)
         simp only [splitR, if_neg hn]; done)
      | (have hn : ¬ (0 ≤ e ∧ e < (g.2.length : Int)) := fun h => by omega
         simp only [splitR, if_pos hm, if_neg hn]; done)
      | (have hn : ¬ (g.1 < 1024 ∧ g.2.length < 3072) := fun h => by omega
         have ha : 0 ≤ e ∧ e < (g.2.length : Int) := by omega
         simp only [splitR, if_pos hm, if_pos ha, if_neg hn]; done)
      | (have hn : g.1 < 1024 ∧ g.2.length < 3072 := by omega
         have ha : 0 ≤ e ∧ e < (g.2.length : Int) := by omega
         simp only [splitR, if_pos hm, if_pos ha, if_pos hn]; done)
  have e1 : (0 : Int) = ((splitR g e).2) := by
    first
      | (have hn : ¬ MayP g := fun h => p1 (decide_eq_true h)
         simp only [splitR, if_neg hn]; done)
      | (have hn : ¬ (0 ≤ e ∧ e < (g.2.length : Int)) := fun h => by omega
         simp only [splitR, if_pos hm, if_neg hn]; done)
      | (have hn : ¬ (g.1 < 1024 ∧ g.2.length < 3072) := fun h => by omega
         have ha : 0 ≤ e ∧ e < (g.2.length : Int) := by omega
         simp only [splitR, if_pos hm, if_pos ha, if_neg hn]; done)
      | (have hn : g.1 < 1024 ∧ g.2.length < 3072 := by omega
         have ha : 0 ≤ e ∧ e < (g.2.length : Int) := by omega
         simp only [splitR, if_pos hm, if_pos ha, if_pos hn]; done)
  exact ⟨(fin w0 g56 (fun n => if n = 3 then 1 else 0), v58), (congr2 (a := (g.1 + 1, ((List.set g.2 (Int.toNat e) ((gI g.2 e).1, g.1)) ++ [(g.1, (gI g.2 e).2)]))) (b := 0) (fun (z0 : (Int) × (List ((Int) × (Int)))) (z1 : Int) => Ending.returned (Value.tuple (List.toArray [Value.agg (List.toArray [Value.int .i64 z0.1, v58]), Value.int .i64 z1]))) e0 e1), hbase.fresh _, ((congrArg (fun (z : (Int) × (List ((Int) × (Int)))) => z.2) e0) ▸ (o60.glue (γ := c0) (ren := (fun n => if n = 3 then 1 else 0)) (k := 1) hbase.col rfl rfl))⟩
 refine run_cond_t rfl (congrArg Bool.not (Bool.eq_false_iff.2 p1)) ?_
 refine run_seq ?_
 clear bx5
 refine run_region rfl ?_
 refine l_val (v := Value.agg (List.toArray [Value.int .i64 0, Value.slice none 0 0])) rfl (e_build (vs := []) rfl (by kernel_rfl)) ?_
 refine l_op rfl ?_
 replace bx10 := bx10.chg hb12 (not_no _)
 refine o_store_bx (cs' := [Value.int .i64 0, Value.slice none 0 0]) tp24_f rfl rfl bx10 rfl (Nat.le_of_ble_eq_true rfl) (AllOne.all (.cons rfl (.cons rfl .nil))) rfl ?_
 intro w72 ch73 bx74
 clear bx10
 refine l_val (v := Value.int .i64 1) rfl (e_assign rfl) ?_
 refine l_nil ?_
 refine run_ret (vs := [Value.agg (List.toArray [Value.int .i64 0, Value.slice none 0 0]), Value.int .i64 1]) Try.func56 (.cell rfl (load_bxN (ds := [Value.int .i64 0, Value.slice none 0 0]) tp24_f bx74 rfl rfl) (.tmp rfl .nil)) ?_
 -- return 5
 have C75 : Chg (inl [2]) _ _ _ _ := (ch2.n).seq ((ch7.n).seq ((hb12.n).seq (ch73.l rfl)))
 replace hbase := hbase.chg C75 (is_nl rfl)
 have e0 : ((0, []) : (Int) × (List ((Int) × (Int)))) = ((splitR g e).1) := by
   first
     | (have hn : ¬ MayP g := fun h => p1 (decide_eq_true h)
        simp only [splitR, if_neg hn]; done)
     | (have hn : ¬ (0 ≤ e ∧ e < (g.2.length : Int)) := fun h => by omega
        simp only [splitR, if_pos hm, if_neg hn]; done)
     | (have hn : ¬ (g.1 < 1024 ∧ g.2.length < 3072) := fun h => by omega
        have ha : 0 ≤ e ∧ e < (g.2.length : Int) := by omega
        simp only [splitR, if_pos hm, if_pos ha, if_neg hn]; done)
     | (have hn : g.1 < 1024 ∧ g.2.length < 3072 := by omega
        have ha : 0 ≤ e ∧ e < (g.2.length : Int) := by omega
        simp only [splitR, if_pos hm, if_pos ha, if_pos hn]; done)
 have e1 : (1 : Int) = ((splitR g e).2) := by
   first
     | (have hn : ¬ MayP g := fun h => p1 (decide_eq_true h)
        simp only [splitR, if_neg hn]; done)
     | (have hn : ¬ (0 ≤ e ∧ e < (g.2.length : Int)) := fun h => by omega
        simp only [splitR, if_pos hm, if_neg hn]; done)
     | (have hn : ¬ (g.1 < 1024 ∧ g.2.length < 3072) := fun h => by omega
        have ha : 0 ≤ e ∧ e < (g.2.length : Int) := by omega
        simp only [splitR, if_pos hm, if_pos ha, if_neg hn]; done)
     | (have hn : g.1 < 1024 ∧ g.2.length < 3072 := by omega
        have ha : 0 ≤ e ∧ e < (g.2.length : Int) := by omega
        simp only [splitR, if_pos hm, if_pos ha, if_pos hn]; done)
 exact ⟨(fin w0 g9 (fun n => 0), (Value.slice none 0 0)), (congr2 (a := (0, [])) (b := 1) (fun (z0 : (Int) × (List ((Int) × (Int)))) (z1 : Int) => Ending.returned (Value.tuple (List.toArray [Value.agg (List.toArray [Value.int .i64 z0.1, Value.slice none 0 0]), Value.int .i64 z1]))) e0 e1), hbase.fresh _, ((congrArg (fun (z : (Int) × (List ((Int) × (Int)))) => z.2) e0) ▸ Ow.nil)⟩

theorem Merge_ok (w0 : World) (g : (Int) × (List ((Int) × (Int)))) (g_v : Value) (hg_v : Ro w0 g_v g.2) (u : Int) (v : Int) :
    Calls Try.prog 68 #[Value.agg (List.toArray [Value.int .i64 g.1, g_v]), Value.int .i64 u, Value.int .i64 v] w0 (fun ee w => ∃ xx : Cmap × Value × Value, ee = .returned ((fun ⟨δ, rv0, rv1⟩ => Value.tuple (List.toArray [Value.agg (List.toArray [Value.int .i64 (((mergeR g u v).1).1), rv0]), rv1, Value.int .i64 ((mergeR g u v).2.2)])) xx) ∧ (fun (⟨δ, rv0, rv1⟩ : Cmap × Value × Value) (w : World) => Fresh w0 δ w ∧ Ow δ (is 1) (is 1) w rv0 (((mergeR g u v).1).2) ∧ Ow δ (is 2) (is 2) w rv1 ((mergeR g u v).2.1)) xx w) := by
 refine calls_of_run Try.func68 rfl (Nat.le_of_ble_eq_true rfl) ?_
 have hbase := Base.start w0
 have r_g_v := hg_v.sl
 refine run_seq ?_
 refine run_region rfl ?_
 refine l_op rfl ?_
 refine o_box c0 (is 1) (1, 0) rfl rfl ?_
 intro g4 w1 b3 ch2 bx5
 replace bx5 : Bx g4 (is 1) w1 b3 [Value.int .i64 g.1, g_v] := bx5
 refine l_op rfl ?_
 refine o_alloc g4 (is 2) (2, 0) rfl tp24_f ?_
 intro g9 w6 b8 ch7 bx10
 replace bx10 : Bx g9 (is 2) w6 b8 [Value.int .i64 0, Value.slice none 0 0] := bx10
 refine l_val (v := Value.slice none 0 0) rfl (e_assign rfl) ?_
 refine l_val (v := Value.int .i64 0) rfl (e_assign rfl) ?_
 refine l_nil ?_
 refine run_seq ?_
 refine run_block ?_
 refine run_seq ?_
 refine run_region rfl ?_
 replace bx5 := bx5.chg ch7 (not_no _)
 refine l_val (v := Value.agg (List.toArray [Value.int .i64 g.1, g_v])) rfl (e_load_bxN (ds := [Value.int .i64 g.1, g_v]) tp24_f rfl bx5 rfl rfl) ?_
 replace r_g_v := (r_g_v.chg ch2 (not_no _)).chg ch7 (not_no _)
 refine l_op rfl ?_
 refine o_call (v := Value.bool (mayB g)) (e_call (vals := [Value.agg (List.toArray [Value.int .i64 g.1, g_v])]) Try.func25 bd25_f nm25_f rfl) (May_ok w6 g g_v (r_g_v).ro) ?_
 intro w11 hb12
 replace hb12 := chg_below hb12 g9
 refine l_val (v := Value.bool (!(mayB g))) rfl (e_not (b := (mayB g)) rfl) ?_
 refine l_val (v := Value.bool (!(mayB g))) rfl (e_assign rfl) ?_
 refine l_nil ?_
 by_cases p1 : (mayB g) = true
 ·
  have hm := of_decide_eq_true p1
  have hm0 := hm
  obtain ⟨hm1, hm2, hm3, hm4⟩ := hm0
  refine run_cond_f rfl (congrArg Bool.not p1) ?_
  refine run_seq ?_
  refine run_region rfl ?_
  replace bx5 := bx5.chg hb12 (not_no _)
  refine l_val (v := Value.agg (List.toArray [Value.int .i64 g.1, g_v])) rfl (e_load_bxN (ds := [Value.int .i64 g.1, g_v]) tp24_f rfl bx5 rfl rfl) ?_
  refine l_val (v := Value.int .i64 u) rfl (e_move rfl) ?_
  replace r_g_v := r_g_v.chg hb12 (not_no _)
  refine l_op rfl ?_
  refine o_call (v := Value.bool (decide (0 ≤ u ∧ u < g.1))) (e_call (vals := [Value.agg (List.toArray [Value.int .i64 g.1, g_v]), Value.int .i64 u]) Try.func93 bd93_f nm93_f rfl) (there_ok w11 g g_v (r_g_v).ro u) ?_
  intro w13 hb14
  replace hb14 := chg_below hb14 g9
  refine l_val (v := Value.bool (!(decide (0 ≤ u ∧ u < g.1)))) rfl (e_not (b := (decide (0 ≤ u ∧ u < g.1))) rfl) ?_
  refine l_val (v := Value.bool (!(decide (0 ≤ u ∧ u < g.1)))) rfl (e_move rfl) ?_
  by_cases q21 : (decide (0 ≤ u ∧ u < g.1)) = true
  ·
   replace bx5 := bx5.chg hb14 (not_no _)
   refine l_val (v := Value.agg (List.toArray [Value.int .i64 g.1, g_v])) (want_y rfl rfl rfl (congrArg Bool.not q21)) (e_load_bxN (ds := [Value.int .i64 g.1, g_v]) tp24_f rfl bx5 rfl rfl) ?_
   refine l_val (v := Value.int .i64 v) (want_y rfl rfl rfl (congrArg Bool.not q21)) (e_move rfl) ?_
   replace r_g_v := r_g_v.chg hb14 (not_no _)
   refine l_op (want_y rfl rfl rfl (congrArg Bool.not q21)) ?_
   refine o_call (v := Value.bool (decide (0 ≤ v ∧ v < g.1))) (e_call (vals := [Value.agg (List.toArray [Value.int .i64 g.1, g_v]), Value.int .i64 v]) Try.func93 bd93_f nm93_f rfl) (there_ok w13 g g_v (r_g_v).ro v) ?_
   intro w15 hb16
   replace hb16 := chg_below hb16 g9
   refine l_val (v := Value.bool (!(decide (0 ≤ v ∧ v < g.1)))) (want_y rfl rfl rfl (congrArg Bool.not q21)) (e_not (b := (decide (0 ≤ v ∧ v < g.1))) rfl) ?_
   refine l_val (v := Value.bool (!(decide (0 ≤ v ∧ v < g.1)))) rfl (e_pick_f rfl (congrArg Bool.not q21) rfl) ?_
   refine l_val (v := Value.bool (!(decide (0 ≤ v ∧ v < g.1)))) rfl (e_assign rfl) ?_
   refine l_nil ?_
   by_cases p3 : (decide (0 ≤ v ∧ v < g.1)) = true
   ·
    refine run_cond_f rfl (congrArg Bool.not p3) ?_
    refine run_seq ?_
    refine run_region rfl ?_
    refine l_val (v := Value.int .i64 u) rfl (e_move rfl) ?_
    refine l_val (v := Value.int .i64 v) rfl (e_move rfl) ?_
    refine l_val (v := Value.bool (decide (u = v))) rfl (e_eql (m := u) (n := v) rfl rfl) ?_
    refine l_val (v := Value.bool (decide (u = v))) rfl (e_assign rfl) ?_
    refine l_nil ?_
    by_cases p5 : u = v
    ·
     refine run_cond_t rfl (decide_eq_true p5) ?_
     refine run_seq ?_
     clear bx5
     refine run_region rfl ?_
     refine l_val (v := Value.agg (List.toArray [Value.int .i64 0, Value.slice none 0 0])) rfl (e_build (vs := []) rfl (by kernel_rfl)) ?_
     refine l_op rfl ?_
     have C20 : Chg (inl []) _ _ _ _ := (hb12.n).seq ((hb14.n).seq (hb16.n))
     replace bx10 := bx10.chg C20 (is_nl rfl)
     refine o_store_bx (cs' := [Value.int .i64 0, Value.slice none 0 0]) tp24_f rfl rfl bx10 rfl (Nat.le_of_ble_eq_true rfl) (AllOne.all (.cons rfl (.cons rfl .nil))) rfl ?_
     intro w17 ch18 bx19
     clear bx10
     refine l_val (v := Value.slice none 0 0) rfl (e_assign rfl) ?_
     refine l_val (v := Value.int .i64 1) rfl (e_assign rfl) ?_
     refine l_nil ?_
     refine run_ret (vs := [Value.agg (List.toArray [Value.int .i64 0, Value.slice none 0 0]), Value.slice none 0 0, Value.int .i64 1]) Try.func68 (.cell rfl (load_bxN (ds := [Value.int .i64 0, Value.slice none 0 0]) tp24_f bx19 rfl rfl) (.tmp rfl (.tmp rfl .nil))) ?_
     -- return 0
     have C21 : Chg (inl [2]) _ _ _ _ := (ch2.n).seq ((ch7.n).seq ((hb12.n).seq ((hb14.n).seq ((hb16.n).seq (ch18.l rfl)))))
     replace hbase := hbase.chg C21 (is_nl rfl)
     have e0 : ((0, []) : (Int) × (List ((Int) × (Int)))) = ((mergeR g u v).1) := by
       first
         | (have hn : ¬ MayP g := fun h => p1 (decide_eq_true h)
            simp only [mergeR, if_neg hn]; done)
         | (have hn : ¬ ((0 ≤ u ∧ u < g.1) ∧ 0 ≤ v ∧ v < g.1) := fun h => q21 (decide_eq_true h.1)
            simp only [mergeR, if_pos hm, if_neg hn]; done)
         | (have hn : ¬ ((0 ≤ u ∧ u < g.1) ∧ 0 ≤ v ∧ v < g.1) := fun h => p3 (decide_eq_true h.2)
            simp only [mergeR, if_pos hm, if_neg hn]; done)
         | (have ha : (0 ≤ u ∧ u < g.1) ∧ 0 ≤ v ∧ v < g.1 := ⟨of_decide_eq_true q21, of_decide_eq_true p3⟩
            simp only [mergeR, if_pos hm, if_pos ha, if_pos p5]; done)
         | (have ha : (0 ≤ u ∧ u < g.1) ∧ 0 ≤ v ∧ v < g.1 := ⟨of_decide_eq_true q21, of_decide_eq_true p3⟩
            simp only [mergeR, if_pos hm, if_pos ha, if_neg p5, ← hdn]; done)
     have e1 : ([] : List Int) = ((mergeR g u v).2.1) := by
       first
         | (have hn : ¬ MayP g := fun h => p1 (decide_eq_true h)
            simp only [mergeR, if_neg hn]; done)
         | (have hn : ¬ ((0 ≤ u ∧ u < g.1) ∧ 0 ≤ v ∧ v < g.1) := fun h => q21 (decide_eq_true h.1)
            simp only [mergeR, if_pos hm, if_neg hn]; done)
         | (have hn : ¬ ((0 ≤ u ∧ u < g.1) ∧ 0 ≤ v ∧ v < g.1) := fun h => p3 (decide_eq_true h.2)
            simp only [mergeR, if_pos hm, if_neg hn]; done)
         | (have ha : (0 ≤ u ∧ u < g.1) ∧ 0 ≤ v ∧ v < g.1 := ⟨of_decide_eq_true q21, of_decide_eq_true p3⟩
            simp only [mergeR, if_pos hm, if_pos ha, if_pos p5]; done)
         | (have ha : (0 ≤ u ∧ u < g.1) ∧ 0 ≤ v ∧ v < g.1 := ⟨of_decide_eq_true q21, of_decide_eq_true p3⟩
            simp only [mergeR, if_pos hm, if_pos ha, if_neg p5, ← hdn]; done)
     have e2 : (1 : Int) = ((mergeR g u v).2.2) := by
       first
         | (have hn : ¬ MayP g := fun h => p1 (decide_eq_true h)
            simp only [mergeR, if_neg hn]; done)
         | (have hn : ¬ ((0 ≤ u ∧ u < g.1) ∧ 0 ≤ v ∧ v < g.1) := fun h => q21 (decide_eq_true h.1)
            simp only [mergeR, if_pos hm, if_neg hn]; done)
         | (have hn : ¬ ((0 ≤ u ∧ u < g.1) ∧ 0 ≤ v ∧ v < g.1) := fun h => p3 (decide_eq_true h.2)
            simp only [mergeR, if_pos hm, if_neg hn]; done)
         | (have ha : (0 ≤ u ∧ u < g.1) ∧ 0 ≤ v ∧ v < g.1 := ⟨of_decide_eq_true q21, of_decide_eq_true p3⟩
            simp only [mergeR, if_pos hm, if_pos ha, if_pos p5]; done)
         | (have ha : (0 ≤ u ∧ u < g.1) ∧ 0 ≤ v ∧ v < g.1 := ⟨of_decide_eq_true q21, of_decide_eq_true p3⟩
            simp only [mergeR, if_pos hm, if_pos ha, if_neg p5, ← hdn]; done)
     exact ⟨(fin w0 g9 (fun n => 0), (Value.slice none 0 0), (Value.slice none 0 0)), (congr3 (a := (0, [])) (b := []) (c := 1) (fun (z0 : (Int) × (List ((Int) × (Int)))) (z1 : List Int) (z2 : Int) => Ending.returned (Value.tuple (List.toArray [Value.agg (List.toArray [Value.int .i64 z0.1, Value.slice none 0 0]), Value.slice none 0 0, Value.int .i64 z2]))) e0 e1 e2), hbase.fresh _, ((congrArg (fun (z : (Int) × (List ((Int) × (Int)))) => z.2) e0) ▸ Ow.nil), (e1 ▸ Ow.nil)⟩
    obtain ⟨hu1, hu2⟩ := of_decide_eq_true q21
    obtain ⟨hv1, hv2⟩ := of_decide_eq_true p3
    refine run_cond_f rfl (decide_eq_false p5) ?_
    refine run_skip ?_
    refine run_inBlock ?_
    refine run_seq ?_
    refine run_region rfl ?_
    refine l_val (v := Value.pointer (some ⟨b3, 0, none⟩)) rfl (e_fieldAddr Try.underlying24 rfl rfl rfl rfl) ?_
    replace bx5 := bx5.chg hb16 (not_no _)
    refine l_val (v := Value.int .i64 g.1) rfl (e_load_bx1 tp3_f rfl bx5 rfl) ?_
    refine l_op rfl ?_
    refine o_make (α := Int) (l := g.1) (cp := g.1) g9 (is 3) (is 3) (3, 0) rfl (0 : Int) Try.underlying35 tp3_f rfl rfl rfl (by omega) (by omega) (by omega) (by omega) ?_
    intro g22 w23 v24 ch25 o26 _
    refine l_val (v := v24) rfl (e_assign rfl) ?_
    refine l_nil ?_
    refine run_seq ?_
    refine run_seq ?_
    refine run_region rfl ?_
    refine l_val (v := v24) rfl (e_move rfl) ?_
    have len27 := (o26.flat).small
    refine l_val (v := Value.int .i64 (List.length (List.replicate (Int.toNat g.1) (0 : Int)) : Int)) rfl (e_len Try.underlying35 rfl o26.flat) ?_
    refine l_val (v := Value.int .i64 0) rfl (e_move rfl) ?_
    refine l_nil ?_
    refine run_block ?_
    refine run_loop (σ := Nat × (List Int) × Cmap) (fun ⟨i, to, gq⟩ f w => Base w0 gq w ∧ f 1 = Value.int .i64 u ∧ f 2 = Value.int .i64 v ∧ f 3 = Value.pointer (some ⟨b3, 0, none⟩) ∧ f 6 = Value.pointer (some ⟨b8, 0, none⟩) ∧ f 9 = v24 ∧ f 37 = Value.int .i64 (List.length (List.replicate (Int.toNat g.1) (0 : Int)) : Int) ∧ f 38 = Value.int .i64 (i : Int) ∧ Sl gq (is 0) w g_v g.2 ∧ Bx gq (is 1) w b3 [Value.int .i64 g.1, g_v] ∧ Bx gq (is 2) w b8 [Value.int .i64 0, Value.slice none 0 0] ∧ Ow gq (is 3) (is 3) w v24 to ∧ (i : Int) ≤ ((List.length (List.replicate (Int.toNat g.1) (0 : Int)) : Int) : Int) ∧ (MrgInv to g.1 v i)) (fun ⟨i, to, gq⟩ => Int.toNat (((List.length (List.replicate (Int.toNat g.1) (0 : Int)) : Int) : Int) - (i : Int))) (0, (List.replicate (Int.toNat g.1) (0 : Int)), g22) ?_ ?_
    have C28 : Chg (inl []) _ _ _ _ := (ch2.n).seq ((ch7.n).seq ((hb12.n).seq ((hb14.n).seq ((hb16.n).seq (ch25.n)))))
    replace hbase := hbase.chg C28 (is_nl rfl)
    replace r_g_v := (r_g_v.chg hb16 (not_no _)).chg ch25 (not_no _)
    replace bx5 := bx5.chg ch25 (not_no _)
    have C29 : Chg (inl []) _ _ _ _ := (hb12.n).seq ((hb14.n).seq ((hb16.n).seq (ch25.n)))
    replace bx10 := bx10.chg C29 (is_nl rfl)
    · exact ⟨hbase, rfl, rfl, rfl, rfl, rfl, rfl, rfl, r_g_v, bx5, bx10, o26, by omega, by exact MrgInv.start hm1⟩
    clear r_g_v
    clear bx5
    clear bx10
    clear o26
    clear hbase
    rintro ⟨i, to, g32⟩ f30 w31 ⟨hbase, zs1, zs2, zs3, zs6, zs9, zs37, zs38, r_g_v, bx5, bx10, o26, hle_i, hinv⟩ back9
    have htl := hinv.len
    refine run_seq ?_
    refine run_region rfl ?_
    refine l_val (v := Value.bool (decide ((i : Int) < (List.length (List.replicate (Int.toNat g.1) (0 : Int)) : Int)))) rfl (e_lss (m := (i : Int)) (n := (List.length (List.replicate (Int.toNat g.1) (0 : Int)) : Int)) (by exact zs38) (by exact zs37)) ?_
    refine l_nil ?_
    refine run_seq ?_
    by_cases p9 : (i : Int) < (List.length (List.replicate (Int.toNat g.1) (0 : Int)) : Int)
    ·
     refine run_cond_t rfl (decide_eq_true p9) ?_
     have hig : (i : Int) < g.1 := by have h9 := p9; simp only [List.length_replicate] at h9; omega
     refine run_skip ?_
     refine run_seq ?_
     refine run_block ?_
     refine run_seq ?_
     refine run_region rfl ?_
     refine l_val (v := Value.int .i64 (i : Int)) rfl (e_move (by exact zs38)) ?_
     refine l_val (v := Value.int .i64 (i : Int)) rfl (e_assign rfl) ?_
     refine l_nil ?_
     refine run_seq ?_
     refine run_region rfl ?_
     refine l_val (v := v24) rfl (e_move (by exact zs9)) ?_
     refine l_val (v := Value.int .i64 (i : Int)) rfl (e_move rfl) ?_
     refine l_val (v := Value.int .i64 (i : Int)) rfl (e_move rfl) ?_
     refine l_val (v := Value.pointer (some (eAddr v24 1 (Int.toNat (i : Int))))) rfl (e_indexAddr (α := Int) (xs := to) (v := v24) (i := (i : Int)) Try.underlying35 rfl rfl o26.flat rfl (by omega) (by omega)) ?_
     refine l_op rfl ?_
     refine o_store_el (i := (i : Int)) (i : Int) tp3_f rfl rfl o26 (by omega) (by omega) rfl ?_
     intro w33 ch34 bx35
     clear o26
     refine l_nil ?_
     refine run_seq ?_
     refine run_region rfl ?_
     refine l_val (v := Value.int .i64 (i : Int)) rfl (e_move rfl) ?_
     refine l_val (v := Value.int .i64 v) rfl (e_move (by exact zs2)) ?_
     refine l_val (v := Value.bool (decide (v < (i : Int)))) rfl (e_gtr (m := (i : Int)) (n := v) rfl rfl) ?_
     refine l_nil ?_
     by_cases p12 : v < (i : Int)
     ·
      refine run_cond_t rfl (decide_eq_true p12) ?_
      refine run_region rfl ?_
      refine l_val (v := v24) rfl (e_move (by exact zs9)) ?_
      refine l_val (v := Value.int .i64 (i : Int)) rfl (e_move rfl) ?_
      refine l_val (v := Value.int .i64 (i : Int)) rfl (e_move rfl) ?_
      refine l_val (v := Value.int .i64 ((i : Int) - 1)) rfl (e_sub (m := (i : Int)) (n := 1) rfl rfl (by omega)) ?_
      refine l_val (v := Value.pointer (some (eAddr v24 1 (Int.toNat (i : Int))))) rfl (e_indexAddr (α := Int) (xs := (List.set to (Int.toNat (i : Int)) (i : Int))) (v := v24) (i := (i : Int)) Try.underlying35 rfl rfl bx35.flat rfl (by omega) (by first | omega | (simp only [List.length_set, List.length_append, List.length_cons, List.length_nil, List.length_replicate, List.length_map, List.length_take, List.length_drop]; omega) | (simp; done) | (simp; omega))) ?_
      refine l_op rfl ?_
      refine o_store_el (i := (i : Int)) ((i : Int) - 1) tp3_f rfl rfl bx35 (by omega) (by first | omega | (simp only [List.length_set, List.length_append, List.length_cons, List.length_nil, List.length_replicate, List.length_map, List.length_take, List.length_drop]; omega) | (simp; done) | (simp; omega)) rfl ?_
      intro w36 ch37 bx38
      clear bx35
      refine l_nil ?_
      refine run_inBlock ?_
      refine run_region rfl ?_
      refine l_val (v := Value.int .i64 ((i : Int) + 1)) rfl (e_add (m := (i : Int)) (n := 1) (by exact zs38) rfl (by omega)) ?_
      refine l_val (v := Value.int .i64 ((i : Int) + 1)) rfl (e_move rfl) ?_
      refine l_nil ?_
      replace hbase := hbase.chg ch34 (is_ne rfl)
      replace hbase := hbase.chg ch37 (is_ne rfl)
      replace r_g_v := (r_g_v.chg ch34 (is_ne rfl)).chg ch37 (is_ne rfl)
      replace bx5 := (bx5.chg ch34 (is_ne rfl)).chg ch37 (is_ne rfl)
      replace bx10 := (bx10.chg ch34 (is_ne rfl)).chg ch37 (is_ne rfl)
      refine back9 (i + 1, (List.set (List.set to (Int.toNat (i : Int)) (i : Int)) (Int.toNat (i : Int)) ((i : Int) - 1)), g32) _ _ ⟨hbase, (by exact zs1), (by exact zs2), (by exact zs3), (by exact zs6), (by exact zs9), (by exact zs37), rfl, r_g_v, bx5, bx10, bx38, by omega, ?_⟩ ?_
      · show MrgInv (List.set (List.set to (Int.toNat (i : Int)) (i : Int)) (Int.toNat (i : Int)) ((i : Int) - 1)) g.1 v (i + 1)
        first
          | exact hinv.yes (by have h9 := p9; simp only [List.length_replicate] at h9; omega) (by assumption)
          | exact hinv.no (by have h9 := p9; simp only [List.length_replicate] at h9; omega) (by assumption)
      · show Int.toNat (((List.length (List.replicate (Int.toNat g.1) (0 : Int)) : Int) : Int) - ((i + 1) : Int)) < Int.toNat (((List.length (List.replicate (Int.toNat g.1) (0 : Int)) : Int) : Int) - (i : Int))
        omega
     refine run_cond_f rfl (decide_eq_false p12) ?_
     refine run_skip ?_
     refine run_inBlock ?_
     refine run_region rfl ?_
     refine l_val (v := Value.int .i64 ((i : Int) + 1)) rfl (e_add (m := (i : Int)) (n := 1) (by exact zs38) rfl (by omega)) ?_
     refine l_val (v := Value.int .i64 ((i : Int) + 1)) rfl (e_move rfl) ?_
     refine l_nil ?_
     replace hbase := hbase.chg ch34 (is_ne rfl)
     replace r_g_v := r_g_v.chg ch34 (is_ne rfl)
     replace bx5 := bx5.chg ch34 (is_ne rfl)
     replace bx10 := bx10.chg ch34 (is_ne rfl)
     refine back9 (i + 1, (List.set to (Int.toNat (i : Int)) (i : Int)), g32) _ _ ⟨hbase, (by exact zs1), (by exact zs2), (by exact zs3), (by exact zs6), (by exact zs9), (by exact zs37), rfl, r_g_v, bx5, bx10, bx35, by omega, ?_⟩ ?_
     · show MrgInv (List.set to (Int.toNat (i : Int)) (i : Int)) g.1 v (i + 1)
       first
         | exact hinv.yes (by have h9 := p9; simp only [List.length_replicate] at h9; omega) (by assumption)
         | exact hinv.no (by have h9 := p9; simp only [List.length_replicate] at h9; omega) (by assumption)
     · show Int.toNat (((List.length (List.replicate (Int.toNat g.1) (0 : Int)) : Int) : Int) - ((i + 1) : Int)) < Int.toNat (((List.length (List.replicate (Int.toNat g.1) (0 : Int)) : Int) : Int) - (i : Int))
       omega
    have hdn := hinv.done (u := u) (by have h9 := p9; have h8 := hle_i; simp only [List.length_replicate] at h9 h8; omega) ⟨hu1, hu2⟩ ⟨hv1, hv2⟩ p5
    have hil := hinv.len
    refine run_cond_f rfl (decide_eq_false p9) ?_
    refine run_exit rfl ?_
    refine run_seq ?_
    refine run_region rfl ?_
    refine l_val (v := v24) rfl (e_move (by exact zs9)) ?_
    refine l_val (v := Value.int .i64 v) rfl (e_move (by exact zs2)) ?_
    refine l_val (v := v24) rfl (e_move (by exact zs9)) ?_
    refine l_val (v := Value.int .i64 u) rfl (e_move (by exact zs1)) ?_
    refine l_val (v := Value.pointer (some (eAddr v24 1 (Int.toNat u)))) rfl (e_indexAddr (α := Int) (xs := to) (v := v24) (i := u) Try.underlying35 rfl rfl o26.flat rfl (by omega) (by omega)) ?_
    refine l_val (v := Value.int .i64 (gI to u)) rfl (e_load_el1 (α := Int) (xs := to) (v := v24) (i := u) tp3_f rfl o26.flat (by omega) (by omega) (by decide) rfl) ?_
    refine l_val (v := Value.pointer (some (eAddr v24 1 (Int.toNat v)))) rfl (e_indexAddr (α := Int) (xs := to) (v := v24) (i := v) Try.underlying35 rfl rfl o26.flat rfl (by omega) (by omega)) ?_
    refine l_op rfl ?_
    refine o_store_el (i := v) (gI to u) tp3_f rfl rfl o26 (by omega) (by omega) rfl ?_
    intro w39 ch40 bx41
    clear o26
    refine l_nil ?_
    refine run_seq ?_
    refine run_region rfl ?_
    replace bx5 := bx5.chg ch40 (is_ne rfl)
    refine l_val (v := Value.agg (List.toArray [Value.int .i64 g.1, g_v])) rfl (e_load_bxN (ds := [Value.int .i64 g.1, g_v]) tp24_f (by exact zs3) bx5 rfl rfl) ?_
    refine l_val (v := v24) rfl (e_move (by exact zs9)) ?_
    refine l_val (v := Value.pointer (some ⟨b3, 0, none⟩)) rfl (e_fieldAddr Try.underlying24 rfl rfl (by exact zs3) rfl) ?_
    refine l_val (v := Value.int .i64 g.1) rfl (e_load_bx1 tp3_f rfl bx5 rfl) ?_
    refine l_val (v := Value.int .i64 (g.1 - 1)) rfl (e_sub (m := g.1) (n := 1) rfl rfl (by omega)) ?_
    replace r_g_v := r_g_v.chg ch40 (is_ne rfl)
    refine l_op rfl ?_
    refine o_callx (e_call (vals := [Value.agg (List.toArray [Value.int .i64 g.1, g_v]), v24, Value.int .i64 (g.1 - 1)]) Try.func103 bd103_f nm103_f rfl) (renamed_ok w39 g g_v (r_g_v).ro (List.set to (Int.toNat v) (gI to u)) v24 (bx41.flat).ro (g.1 - 1) (by first | exact hm | (simp; omega)) (by first | exact hm | (simp; omega))) ?_
    rintro ⟨d43, v45⟩ w42 ⟨fr44, o46⟩
    obtain ⟨g47, hg47⟩ : ∃ q, q = glue w39.heap.size g32 d43 (fun n => if n = 1 then 4 else 0) := ⟨_, rfl⟩
    have ch48 := chg_glue fr44.below g32 d43 (fun n => if n = 1 then 4 else 0)
    rw [← hg47] at ch48
    replace o46 := o46.glue (γ := g32) (ren := (fun n => if n = 1 then 4 else 0)) (k := 4) fr44.col rfl rfl
    rw [← hg47] at o46
    clear hg47
    refine l_val (v := v24) rfl (e_move (by exact zs9)) ?_
    refine l_op rfl ?_
    replace bx10 := (bx10.chg ch40 (is_ne rfl)).chg ch48 (not_no _)
    refine o_store_bx (cs' := [Value.int .i64 ((renR g (List.set to (Int.toNat v) (gI to u)) (g.1 - 1)).1), v45]) tp24_f (by exact zs6) rfl bx10 rfl (Nat.le_of_ble_eq_true rfl) (AllOne.all (.cons rfl (.cons (sl_one o46.flat) .nil))) rfl ?_
    intro w49 ch50 bx51
    clear bx10
    refine l_val (v := v24) rfl (e_assign rfl) ?_
    refine l_val (v := Value.int .i64 0) rfl (e_assign rfl) ?_
    refine l_nil ?_
    refine run_ret (vs := [Value.agg (List.toArray [Value.int .i64 ((renR g (List.set to (Int.toNat v) (gI to u)) (g.1 - 1)).1), v45]), v24, Value.int .i64 0]) Try.func68 (.cell (by exact zs6) (load_bxN (ds := [Value.int .i64 ((renR g (List.set to (Int.toNat v) (gI to u)) (g.1 - 1)).1), v45]) tp24_f bx51 rfl rfl) (.tmp rfl (.tmp rfl .nil))) ?_
    -- return 1
    have C52 : Chg (inl [2, 3]) _ _ _ _ := (ch40.l rfl).seq ((ch48.n).seq (ch50.l rfl))
    replace hbase := hbase.chg C52 (is_nl rfl)
    replace o46 := o46.chg ch50 (is_ne rfl) (is_ne rfl)
    replace bx41 := (bx41.chg ch48 (not_no _) (not_no _)).chg ch50 (is_ne rfl) (is_ne rfl)
    have e0 : ((renR g (List.set to (Int.toNat v) (gI to u)) (g.1 - 1)) : (Int) × (List ((Int) × (Int)))) = ((mergeR g u v).1) := by
      first
        | (have hn : ¬ MayP g := fun h => p1 (decide_eq_true h)
           simp only [mergeR, if_neg hn]; done)
        | (have hn : ¬ ((0 ≤ u ∧ u < g.1) ∧ 0 ≤ v ∧ v < g.1) := fun h => q21 (decide_eq_true h.1)
           simp only [mergeR, if_pos hm, if_neg hn]; done)
        | (have hn : ¬ ((0 ≤ u ∧ u < g.1) ∧ 0 ≤ v ∧ v < g.1) := fun h => p3 (decide_eq_true h.2)
           simp only [mergeR, if_pos hm, if_neg hn]; done)
        | (have ha : (0 ≤ u ∧ u < g.1) ∧ 0 ≤ v ∧ v < g.1 := ⟨of_decide_eq_true q21, of_decide_eq_true p3⟩
           simp only [mergeR, if_pos hm, if_pos ha, if_pos p5]; done)
        | (have ha : (0 ≤ u ∧ u < g.1) ∧ 0 ≤ v ∧ v < g.1 := ⟨of_decide_eq_true q21, of_decide_eq_true p3⟩
           simp only [mergeR, if_pos hm, if_pos ha, if_neg p5, ← hdn]; done)
    have e1 : ((List.set to (Int.toNat v) (gI to u)) : List Int) = ((mergeR g u v).2.1) := by
      first
        | (have hn : ¬ MayP g := fun h => p1 (decide_eq_true h)
           simp only [mergeR, if_neg hn]; done)
        | (have hn : ¬ ((0 ≤ u ∧ u < g.1) ∧ 0 ≤ v ∧ v < g.1) := fun h => q21 (decide_eq_true h.1)
           simp only [mergeR, if_pos hm, if_neg hn]; done)
        | (have hn : ¬ ((0 ≤ u ∧ u < g.1) ∧ 0 ≤ v ∧ v < g.1) := fun h => p3 (decide_eq_true h.2)
           simp only [mergeR, if_pos hm, if_neg hn]; done)
        | (have ha : (0 ≤ u ∧ u < g.1) ∧ 0 ≤ v ∧ v < g.1 := ⟨of_decide_eq_true q21, of_decide_eq_true p3⟩
           simp only [mergeR, if_pos hm, if_pos ha, if_pos p5]; done)
        | (have ha : (0 ≤ u ∧ u < g.1) ∧ 0 ≤ v ∧ v < g.1 := ⟨of_decide_eq_true q21, of_decide_eq_true p3⟩
           simp only [mergeR, if_pos hm, if_pos ha, if_neg p5, ← hdn]; done)
    have e2 : (0 : Int) = ((mergeR g u v).2.2) := by
      first
        | (have hn : ¬ MayP g := fun h => p1 (decide_eq_true h)
           simp only [mergeR, if_neg hn]; done)
        | (have hn : ¬ ((0 ≤ u ∧ u < g.1) ∧ 0 ≤ v ∧ v < g.1) := fun h => q21 (decide_eq_true h.1)
           simp only [mergeR, if_pos hm, if_neg hn]; done)
        | (have hn : ¬ ((0 ≤ u ∧ u < g.1) ∧ 0 ≤ v ∧ v < g.1) := fun h => p3 (decide_eq_true h.2)
           simp only [mergeR, if_pos hm, if_neg hn]; done)
        | (have ha : (0 ≤ u ∧ u < g.1) ∧ 0 ≤ v ∧ v < g.1 := ⟨of_decide_eq_true q21, of_decide_eq_true p3⟩
           simp only [mergeR, if_pos hm, if_pos ha, if_pos p5]; done)
        | (have ha : (0 ≤ u ∧ u < g.1) ∧ 0 ≤ v ∧ v < g.1 := ⟨of_decide_eq_true q21, of_decide_eq_true p3⟩
           simp only [mergeR, if_pos hm, if_pos ha, if_neg p5, ← hdn]; done)
    exact ⟨(fin w0 g47 (fun n => if n = 4 then 1 else if n = 3 then 2 else 0), v45, v24), (congr3 (a := (renR g (List.set to (Int.toNat v) (gI to u)) (g.1 - 1))) (b := (List.set to (Int.toNat v) (gI to u))) (c := 0) (fun (z0 : (Int) × (List ((Int) × (Int)))) (z1 : List Int) (z2 : Int) => Ending.returned (Value.tuple (List.toArray [Value.agg (List.toArray [Value.int .i64 z0.1, v45]), v24, Value.int .i64 z2]))) e0 e1 e2), hbase.fresh _, ((congrArg (fun (z : (Int) × (List ((Int) × (Int)))) => z.2) e0) ▸ (o46.glue (γ := c0) (ren := (fun n => if n = 4 then 1 else if n = 3 then 2 else 0)) (k := 1) hbase.col rfl rfl)), (e1 ▸ (bx41.glue (γ := c0) (ren := (fun n => if n = 4 then 1 else if n = 3 then 2 else 0)) (k := 2) hbase.col rfl rfl))⟩
   refine run_cond_t rfl (congrArg Bool.not (Bool.eq_false_iff.2 p3)) ?_
   refine run_seq ?_
   clear bx5
   refine run_region rfl ?_
   refine l_val (v := Value.agg (List.toArray [Value.int .i64 0, Value.slice none 0 0])) rfl (e_build (vs := []) rfl (by kernel_rfl)) ?_
   refine l_op rfl ?_
   have C56 : Chg (inl []) _ _ _ _ := (hb12.n).seq ((hb14.n).seq (hb16.n))
   replace bx10 := bx10.chg C56 (is_nl rfl)
   refine o_store_bx (cs' := [Value.int .i64 0, Value.slice none 0 0]) tp24_f rfl rfl bx10 rfl (Nat.le_of_ble_eq_true rfl) (AllOne.all (.cons rfl (.cons rfl .nil))) rfl ?_
   intro w53 ch54 bx55
   clear bx10
   refine l_val (v := Value.slice none 0 0) rfl (e_assign rfl) ?_
   refine l_val (v := Value.int .i64 2) rfl (e_assign rfl) ?_
   refine l_nil ?_
   refine run_ret (vs := [Value.agg (List.toArray [Value.int .i64 0, Value.slice none 0 0]), Value.slice none 0 0, Value.int .i64 2]) Try.func68 (.cell rfl (load_bxN (ds := [Value.int .i64 0, Value.slice none 0 0]) tp24_f bx55 rfl rfl) (.tmp rfl (.tmp rfl .nil))) ?_
   -- return 2
   have C57 : Chg (inl [2]) _ _ _ _ := (ch2.n).seq ((ch7.n).seq ((hb12.n).seq ((hb14.n).seq ((hb16.n).seq (ch54.l rfl)))))
   replace hbase := hbase.chg C57 (is_nl rfl)
   have e0 : ((0, []) : (Int) × (List ((Int) × (Int)))) = ((mergeR g u v).1) := by
     first
       | (have hn : ¬ MayP g := fun h => p1 (decide_eq_true h)
          simp only [mergeR, if_neg hn]; done)
       | (have hn : ¬ ((0 ≤ u ∧ u < g.1) ∧ 0 ≤ v ∧ v < g.1) := fun h => q21 (decide_eq_true h.1)
          simp only [mergeR, if_pos hm, if_neg hn]; done)
       | (have hn : ¬ ((0 ≤ u ∧ u < g.1) ∧ 0 ≤ v ∧ v < g.1) := fun h => p3 (decide_eq_true h.2)
          simp only [mergeR, if_pos hm, if_neg hn]; done)
       | (have ha : (0 ≤ u ∧ u < g.1) ∧ 0 ≤ v ∧ v < g.1 := ⟨of_decide_eq_true q21, of_decide_eq_true p3⟩
          simp only [mergeR, if_pos hm, if_pos ha, if_pos p5]; done)
       | (have ha : (0 ≤ u ∧ u < g.1) ∧ 0 ≤ v ∧ v < g.1 := ⟨of_decide_eq_true q21, of_decide_eq_true p3⟩
          simp only [mergeR, if_pos hm, if_pos ha, if_neg p5, ← hdn]; done)
   have e1 : ([] : List Int) = ((mergeR g u v).2.1) := by
     first
       | (have hn : ¬ MayP g := fun h => p1 (decide_eq_true h)
          simp only [mergeR, if_neg hn]; done)
       | (have hn : ¬ ((0 ≤ u ∧ u < g.1) ∧ 0 ≤ v ∧ v < g.1) := fun h => q21 (decide_eq_true h.1)
          simp only [mergeR, if_pos hm, if_neg hn]; done)
       | (have hn : ¬ ((0 ≤ u ∧ u < g.1) ∧ 0 ≤ v ∧ v < g.1) := fun h => p3 (decide_eq_true h.2)
          simp only [mergeR, if_pos hm, if_neg hn]; done)
       | (have ha : (0 ≤ u ∧ u < g.1) ∧ 0 ≤ v ∧ v < g.1 := ⟨of_decide_eq_true q21, of_decide_eq_true p3⟩
          simp only [mergeR, if_pos hm, if_pos ha, if_pos p5]; done)
       | (have ha : (0 ≤ u ∧ u < g.1) ∧ 0 ≤ v ∧ v < g.1 := ⟨of_decide_eq_true q21, of_decide_eq_true p3⟩
          simp only [mergeR, if_pos hm, if_pos ha, if_neg p5, ← hdn]; done)
   have e2 : (2 : Int) = ((mergeR g u v).2.2) := by
     first
       | (have hn : ¬ MayP g := fun h => p1 (decide_eq_true h)
          simp only [mergeR, if_neg hn]; done)
       | (have hn : ¬ ((0 ≤ u ∧ u < g.1) ∧ 0 ≤ v ∧ v < g.1) := fun h => q21 (decide_eq_true h.1)
          simp only [mergeR, if_pos hm, if_neg hn]; done)
       | (have hn : ¬ ((0 ≤ u ∧ u < g.1) ∧ 0 ≤ v ∧ v < g.1) := fun h => p3 (decide_eq_true h.2)
          simp only [mergeR, if_pos hm, if_neg hn]; done)
       | (have ha : (0 ≤ u ∧ u < g.1) ∧ 0 ≤ v ∧ v < g.1 := ⟨of_decide_eq_true q21, of_decide_eq_true p3⟩
          simp only [mergeR, if_pos hm, if_pos ha, if_pos p5]; done)
       | (have ha : (0 ≤ u ∧ u < g.1) ∧ 0 ≤ v ∧ v < g.1 := ⟨of_decide_eq_true q21, of_decide_eq_true p3⟩
          simp only [mergeR, if_pos hm, if_pos ha, if_neg p5, ← hdn]; done)
   exact ⟨(fin w0 g9 (fun n => 0), (Value.slice none 0 0), (Value.slice none 0 0)), (congr3 (a := (0, [])) (b := []) (c := 2) (fun (z0 : (Int) × (List ((Int) × (Int)))) (z1 : List Int) (z2 : Int) => Ending.returned (Value.tuple (List.toArray [Value.agg (List.toArray [Value.int .i64 z0.1, Value.slice none 0 0]), Value.slice none 0 0, Value.int .i64 z2]))) e0 e1 e2), hbase.fresh _, ((congrArg (fun (z : (Int) × (List ((Int) × (Int)))) => z.2) e0) ▸ Ow.nil), (e1 ▸ Ow.nil)⟩
  refine l_skip (want_n rfl rfl rfl (congrArg Bool.not (Bool.eq_false_iff.2 q21))) ?_
  refine l_skip (want_n rfl rfl rfl (congrArg Bool.not (Bool.eq_false_iff.2 q21))) ?_
  refine l_skip (want_n rfl rfl rfl (congrArg Bool.not (Bool.eq_false_iff.2 q21))) ?_
  refine l_skip (want_n rfl rfl rfl (congrArg Bool.not (Bool.eq_false_iff.2 q21))) ?_
  refine l_val (v := Value.bool true) rfl (e_pick_t rfl (congrArg Bool.not (Bool.eq_false_iff.2 q21)) rfl) ?_
  refine l_val (v := Value.bool true) rfl (e_assign rfl) ?_
  refine l_nil ?_
  refine run_cond_t rfl rfl ?_
  refine run_seq ?_
  clear bx5
  refine run_region rfl ?_
  refine l_val (v := Value.agg (List.toArray [Value.int .i64 0, Value.slice none 0 0])) rfl (e_build (vs := []) rfl (by kernel_rfl)) ?_
  refine l_op rfl ?_
  replace bx10 := (bx10.chg hb12 (not_no _)).chg hb14 (not_no _)
  refine o_store_bx (cs' := [Value.int .i64 0, Value.slice none 0 0]) tp24_f rfl rfl bx10 rfl (Nat.le_of_ble_eq_true rfl) (AllOne.all (.cons rfl (.cons rfl .nil))) rfl ?_
  intro w58 ch59 bx60
  clear bx10
  refine l_val (v := Value.slice none 0 0) rfl (e_assign rfl) ?_
  refine l_val (v := Value.int .i64 2) rfl (e_assign rfl) ?_
  refine l_nil ?_
  refine run_ret (vs := [Value.agg (List.toArray [Value.int .i64 0, Value.slice none 0 0]), Value.slice none 0 0, Value.int .i64 2]) Try.func68 (.cell rfl (load_bxN (ds := [Value.int .i64 0, Value.slice none 0 0]) tp24_f bx60 rfl rfl) (.tmp rfl (.tmp rfl .nil))) ?_
  -- return 3
  have C61 : Chg (inl [2]) _ _ _ _ := (ch2.n).seq ((ch7.n).seq ((hb12.n).seq ((hb14.n).seq (ch59.l rfl))))
  replace hbase := hbase.chg C61 (is_nl rfl)
  have e0 : ((0, []) : (Int) × (List ((Int) × (Int)))) = ((mergeR g u v).1) := by
    first
      | (have hn : ¬ MayP g := fun h => p1 (decide_eq_true h)
         simp only [mergeR, if_neg hn]; done)
      | (have hn : ¬ ((0 ≤ u ∧ u < g.1) ∧ 0 ≤ v ∧ v < g.1) := fun h => q21 (decide_eq_true h.1)
         simp only [mergeR, if_pos hm, if_neg hn]; done)
      | (have hn : ¬ ((0 ≤ u ∧ u < g.1) ∧ 0 ≤ v ∧ v < g.1) := fun h => p3 (decide_eq_true h.2)
         simp only [mergeR, if_pos hm, if_neg hn]; done)
      | (have ha : (0 ≤ u ∧ u < g.1) ∧ 0 ≤ v ∧ v < g.1 := ⟨of_decide_eq_true q21, of_decide_eq_true p3⟩
         simp only [mergeR, if_pos hm, if_pos ha, if_pos p5]; done)
      | (have ha : (0 ≤ u ∧ u < g.1) ∧ 0 ≤ v ∧ v < g.1 := ⟨of_decide_eq_true q21, of_decide_eq_true p3⟩
         simp only [mergeR, if_pos hm, if_pos ha, if_neg p5, ← hdn]; done)
  have e1 : ([] : List Int) = ((mergeR g u v).2.1) := by
    first
      | (have hn : ¬ MayP g := fun h => p1 (decide_eq_true h)
         simp only [mergeR, if_neg hn]; done)
      | (have hn : ¬ ((0 ≤ u ∧ u < g.1) ∧ 0 ≤ v ∧ v < g.1) := fun h => q21 (decide_eq_true h.1)
         simp only [mergeR, if_pos hm, if_neg hn]; done)
      | (have hn : ¬ ((0 ≤ u ∧ u < g.1) ∧ 0 ≤ v ∧ v < g.1) := fun h => p3 (decide_eq_true h.2)
         simp only [mergeR, if_pos hm, if_neg hn]; done)
      | (have ha : (0 ≤ u ∧ u < g.1) ∧ 0 ≤ v ∧ v < g.1 := ⟨of_decide_eq_true q21, of_decide_eq_true p3⟩
         simp only [mergeR, if_pos hm, if_pos ha, if_pos p5]; done)
      | (have ha : (0 ≤ u ∧ u < g.1) ∧ 0 ≤ v ∧ v < g.1 := ⟨of_decide_eq_true q21, of_decide_eq_true p3⟩
         simp only [mergeR, if_pos hm, if_pos ha, if_neg p5, ← hdn]; done)
  have e2 : (2 : Int) = ((mergeR g u v).2.2) := by
    first
      | (have hn : ¬ MayP g := fun h => p1 (decide_eq_true h)
         simp only [mergeR, if_neg hn]; done)
      | (have hn : ¬ ((0 ≤ u ∧ u < g.1) ∧ 0 ≤ v ∧ v < g.1) := fun h => q21 (decide_eq_true h.1)
         simp only [mergeR, if_pos hm, if_neg hn]; done)
      | (have hn : ¬ ((0 ≤ u ∧ u < g.1) ∧ 0 ≤ v ∧ v < g.1) := fun h => p3 (decide_eq_true h.2)
         simp only [mergeR, if_pos hm, if_neg hn]; done)
      | (have ha : (0 ≤ u ∧ u < g.1) ∧ 0 ≤ v ∧ v < g.1 := ⟨of_decide_eq_true q21, of_decide_eq_true p3⟩
         simp only [mergeR, if_pos hm, if_pos ha, if_pos p5]; done)
      | (have ha : (0 ≤ u ∧ u < g.1) ∧ 0 ≤ v ∧ v < g.1 := ⟨of_decide_eq_true q21, of_decide_eq_true p3⟩
         simp only [mergeR, if_pos hm, if_pos ha, if_neg p5, ← hdn]; done)
  exact ⟨(fin w0 g9 (fun n => 0), (Value.slice none 0 0), (Value.slice none 0 0)), (congr3 (a := (0, [])) (b := []) (c := 2) (fun (z0 : (Int) × (List ((Int) × (Int)))) (z1 : List Int) (z2 : Int) => Ending.returned (Value.tuple (List.toArray [Value.agg (List.toArray [Value.int .i64 z0.1, Value.slice none 0 0]), Value.slice none 0 0, Value.int .i64 z2]))) e0 e1 e2), hbase.fresh _, ((congrArg (fun (z : (Int) × (List ((Int) × (Int)))) => z.2) e0) ▸ Ow.nil), (e1 ▸ Ow.nil)⟩
 refine run_cond_t rfl (congrArg Bool.not (Bool.eq_false_iff.2 p1)) ?_
 refine run_seq ?_
 clear bx5
 refine run_region rfl ?_
 refine l_val (v := Value.agg (List.toArray [Value.int .i64 0, Value.slice none 0 0])) rfl (e_build (vs := []) rfl (by kernel_rfl)) ?_
 refine l_op rfl ?_
 replace bx10 := bx10.chg hb12 (not_no _)
 refine o_store_bx (cs' := [Value.int .i64 0, Value.slice none 0 0]) tp24_f rfl rfl bx10 rfl (Nat.le_of_ble_eq_true rfl) (AllOne.all (.cons rfl (.cons rfl .nil))) rfl ?_
 intro w62 ch63 bx64
 clear bx10
 refine l_val (v := Value.slice none 0 0) rfl (e_assign rfl) ?_
 refine l_val (v := Value.int .i64 1) rfl (e_assign rfl) ?_
 refine l_nil ?_
 refine run_ret (vs := [Value.agg (List.toArray [Value.int .i64 0, Value.slice none 0 0]), Value.slice none 0 0, Value.int .i64 1]) Try.func68 (.cell rfl (load_bxN (ds := [Value.int .i64 0, Value.slice none 0 0]) tp24_f bx64 rfl rfl) (.tmp rfl (.tmp rfl .nil))) ?_
 -- return 4
 have C65 : Chg (inl [2]) _ _ _ _ := (ch2.n).seq ((ch7.n).seq ((hb12.n).seq (ch63.l rfl)))
 replace hbase := hbase.chg C65 (is_nl rfl)
 have e0 : ((0, []) : (Int) × (List ((Int) × (Int)))) = ((mergeR g u v).1) := by
   first
     | (have hn : ¬ MayP g := fun h => p1 (decide_eq_true h)
        simp only [mergeR, if_neg hn]; done)
     | (have hn : ¬ ((0 ≤ u ∧ u < g.1) ∧ 0 ≤ v ∧ v < g.1) := fun h => q21 (decide_eq_true h.1)
        simp only [mergeR, if_pos hm, if_neg hn]; done)
     | (have hn : ¬ ((0 ≤ u ∧ u < g.1) ∧ 0 ≤ v ∧ v < g.1) := fun h => p3 (decide_eq_true h.2)
        simp only [mergeR, if_pos hm, if_neg hn]; done)
     | (have ha : (0 ≤ u ∧ u < g.1) ∧ 0 ≤ v ∧ v < g.1 := ⟨of_decide_eq_true q21, of_decide_eq_true p3⟩
        simp only [mergeR, if_pos hm, if_pos ha, if_pos p5]; done)
     | (have ha : (0 ≤ u ∧ u < g.1) ∧ 0 ≤ v ∧ v < g.1 := ⟨of_decide_eq_true q21, of_decide_eq_true p3⟩
        simp only [mergeR, if_pos hm, if_pos ha, if_neg p5, ← hdn]; done)
 have e1 : ([] : List Int) = ((mergeR g u v).2.1) := by
   first
     | (have hn : ¬ MayP g := fun h => p1 (decide_eq_true h)
        simp only [mergeR, if_neg hn]; done)
     | (have hn : ¬ ((0 ≤ u ∧ u < g.1) ∧ 0 ≤ v ∧ v < g.1) := fun h => q21 (decide_eq_true h.1)
        simp only [mergeR, if_pos hm, if_neg hn]; done)
     | (have hn : ¬ ((0 ≤ u ∧ u < g.1) ∧ 0 ≤ v ∧ v < g.1) := fun h => p3 (decide_eq_true h.2)
        simp only [mergeR, if_pos hm, if_neg hn]; done)
     | (have ha : (0 ≤ u ∧ u < g.1) ∧ 0 ≤ v ∧ v < g.1 := ⟨of_decide_eq_true q21, of_decide_eq_true p3⟩
        simp only [mergeR, if_pos hm, if_pos ha, if_pos p5]; done)
     | (have ha : (0 ≤ u ∧ u < g.1) ∧ 0 ≤ v ∧ v < g.1 := ⟨of_decide_eq_true q21, of_decide_eq_true p3⟩
        simp only [mergeR, if_pos hm, if_pos ha, if_neg p5, ← hdn]; done)
 have e2 : (1 : Int) = ((mergeR g u v).2.2) := by
   first
     | (have hn : ¬ MayP g := fun h => p1 (decide_eq_true h)
        simp only [mergeR, if_neg hn]; done)
     | (have hn : ¬ ((0 ≤ u ∧ u < g.1) ∧ 0 ≤ v ∧ v < g.1) := fun h => q21 (decide_eq_true h.1)
        simp only [mergeR, if_pos hm, if_neg hn]; done)
     | (have hn : ¬ ((0 ≤ u ∧ u < g.1) ∧ 0 ≤ v ∧ v < g.1) := fun h => p3 (decide_eq_true h.2)
        simp only [mergeR, if_pos hm, if_neg hn]; done)
     | (have ha : (0 ≤ u ∧ u < g.1) ∧ 0 ≤ v ∧ v < g.1 := ⟨of_decide_eq_true q21, of_decide_eq_true p3⟩
        simp only [mergeR, if_pos hm, if_pos ha, if_pos p5]; done)
     | (have ha : (0 ≤ u ∧ u < g.1) ∧ 0 ≤ v ∧ v < g.1 := ⟨of_decide_eq_true q21, of_decide_eq_true p3⟩
        simp only [mergeR, if_pos hm, if_pos ha, if_neg p5, ← hdn]; done)
 exact ⟨(fin w0 g9 (fun n => 0), (Value.slice none 0 0), (Value.slice none 0 0)), (congr3 (a := (0, [])) (b := []) (c := 1) (fun (z0 : (Int) × (List ((Int) × (Int)))) (z1 : List Int) (z2 : Int) => Ending.returned (Value.tuple (List.toArray [Value.agg (List.toArray [Value.int .i64 z0.1, Value.slice none 0 0]), Value.slice none 0 0, Value.int .i64 z2]))) e0 e1 e2), hbase.fresh _, ((congrArg (fun (z : (Int) × (List ((Int) × (Int)))) => z.2) e0) ▸ Ow.nil), (e1 ▸ Ow.nil)⟩

theorem Bare_ok (w0 : World) (g : (Int) × (List ((Int) × (Int)))) (g_v : Value) (hg_v : Ro w0 g_v g.2) :
    Calls Try.prog 57 #[Value.agg (List.toArray [Value.int .i64 g.1, g_v])] w0 (fun ee w => ∃ xx : Cmap × Value × Value, ee = .returned ((fun ⟨δ, rv0, rv1⟩ => Value.tuple (List.toArray [Value.agg (List.toArray [Value.int .i64 (((bareR g).1).1), rv0]), rv1, Value.int .i64 ((bareR g).2.2)])) xx) ∧ (fun (⟨δ, rv0, rv1⟩ : Cmap × Value × Value) (w : World) => Fresh w0 δ w ∧ Ow δ (is 1) (is 1) w rv0 (((bareR g).1).2) ∧ Ow δ (is 2) (is 2) w rv1 ((bareR g).2.1)) xx w) := by
 refine calls_of_run Try.func57 rfl (Nat.le_of_ble_eq_true rfl) ?_
 have hbase := Base.start w0
 have r_g_v := hg_v.sl
 refine run_seq ?_
 refine run_region rfl ?_
 refine l_op rfl ?_
 refine o_box c0 (is 1) (1, 0) rfl rfl ?_
 intro g4 w1 b3 ch2 bx5
 replace bx5 : Bx g4 (is 1) w1 b3 [Value.int .i64 g.1, g_v] := bx5
 refine l_op rfl ?_
 refine o_alloc g4 (is 2) (2, 0) rfl tp24_f ?_
 intro g9 w6 b8 ch7 bx10
 replace bx10 : Bx g9 (is 2) w6 b8 [Value.int .i64 0, Value.slice none 0 0] := bx10
 refine l_val (v := Value.slice none 0 0) rfl (e_assign rfl) ?_
 refine l_val (v := Value.int .i64 0) rfl (e_assign rfl) ?_
 refine l_nil ?_
 refine run_seq ?_
 refine run_seq ?_
 refine run_region rfl ?_
 replace bx5 := bx5.chg ch7 (not_no _)
 refine l_val (v := Value.agg (List.toArray [Value.int .i64 g.1, g_v])) rfl (e_load_bxN (ds := [Value.int .i64 g.1, g_v]) tp24_f rfl bx5 rfl rfl) ?_
 replace r_g_v := (r_g_v.chg ch2 (not_no _)).chg ch7 (not_no _)
 refine l_op rfl ?_
 refine o_call (v := Value.bool (mayB g)) (e_call (vals := [Value.agg (List.toArray [Value.int .i64 g.1, g_v])]) Try.func25 bd25_f nm25_f rfl) (May_ok w6 g g_v (r_g_v).ro) ?_
 intro w11 hb12
 replace hb12 := chg_below hb12 g9
 refine l_val (v := Value.bool (!(mayB g))) rfl (e_not (b := (mayB g)) rfl) ?_
 refine l_nil ?_
 by_cases p1 : (mayB g) = true
 ·
  have hm := of_decide_eq_true p1
  have hm0 := hm
  obtain ⟨hm1, hm2, hm3, hm4⟩ := hm0
  refine run_cond_f rfl (congrArg Bool.not p1) ?_
  refine run_skip ?_
  refine run_seq ?_
  refine run_region rfl ?_
  refine l_val (v := Value.pointer (some ⟨b3, 0, none⟩)) rfl (e_fieldAddr Try.underlying24 rfl rfl rfl rfl) ?_
  replace bx5 := bx5.chg hb12 (not_no _)
  refine l_val (v := Value.int .i64 g.1) rfl (e_load_bx1 tp3_f rfl bx5 rfl) ?_
  refine l_val (v := Value.agg (List.toArray [Value.int .i64 g.1, Value.slice none 0 0])) rfl (e_build (vs := [(0, Value.int .i64 g.1)]) rfl (by kernel_rfl)) ?_
  refine l_op rfl ?_
  refine o_alloc g9 (is 3) (3, 0) rfl tp24_f ?_
  intro g16 w13 b15 ch14 bx17
  replace bx17 : Bx g16 (is 3) w13 b15 [Value.int .i64 0, Value.slice none 0 0] := bx17
  refine l_op rfl ?_
  refine o_store_bx (cs' := [Value.int .i64 g.1, Value.slice none 0 0]) tp24_f rfl rfl bx17 rfl (Nat.le_of_ble_eq_true rfl) (AllOne.all (.cons rfl (.cons rfl .nil))) rfl ?_
  intro w18 ch19 bx20
  clear bx17
  refine l_nil ?_
  refine run_seq ?_
  refine run_region rfl ?_
  refine l_val (v := Value.slice none 0 0) rfl (e_assign rfl) ?_
  refine l_nil ?_
  refine run_seq ?_
  refine run_region rfl ?_
  refine l_op rfl ?_
  refine o_makeMap (K := (Int) × (Int)) g16 (is 4) (4, 0) rfl ?_
  intro g21 w22 v23 ch24 m25
  refine l_val (v := v23) rfl (e_assign rfl) ?_
  refine l_nil ?_
  refine run_seq ?_
  refine run_seq ?_
  refine run_region rfl ?_
  refine l_val (v := Value.pointer (some ⟨b3, 1, none⟩)) rfl (e_fieldAddr Try.underlying24 rfl rfl rfl rfl) ?_
  have C26 : Chg (inl [3]) _ _ _ _ := (ch14.n).seq ((ch19.l rfl).seq (ch24.n))
  replace bx5 := bx5.chg C26 (is_nl rfl)
  refine l_val (v := g_v) rfl (e_load_bx1 tp22_f rfl bx5 rfl) ?_
  have C27 : Chg (inl [3]) _ _ _ _ := (hb12.n).seq ((ch14.n).seq ((ch19.l rfl).seq (ch24.n)))
  replace r_g_v := r_g_v.chg C27 (is_nl rfl)
  have len28 := (r_g_v).small
  refine l_val (v := Value.int .i64 (List.length g.2 : Int)) rfl (e_len Try.underlying22 rfl r_g_v) ?_
  refine l_val (v := Value.int .i64 0) rfl (e_move rfl) ?_
  refine l_nil ?_
  refine run_block ?_
  clear bx5
  refine run_loop (σ := Nat × Value × (List ((Int) × (Int))) × Value × (List Int) × (((Int) × (Int)) → Int) × Cmap) (fun ⟨k, out_1_v, out_1, left_v, left, seen, gq⟩ f w => Base w0 gq w ∧ f 2 = Value.pointer (some ⟨b8, 0, none⟩) ∧ f 5 = Value.pointer (some ⟨b15, 0, none⟩) ∧ f 6 = left_v ∧ f 7 = v23 ∧ f 20 = g_v ∧ f 21 = Value.int .i64 (List.length g.2 : Int) ∧ f 22 = Value.int .i64 (k : Int) ∧ Sl gq (is 0) w g_v g.2 ∧ Bx gq (is 2) w b8 [Value.int .i64 0, Value.slice none 0 0] ∧ Bx gq (is 3) w b15 [Value.int .i64 g.1, out_1_v] ∧ Mp gq (is 4) w v23 seen ∧ Ow gq (is 8) (is 8) w out_1_v out_1 ∧ Ow gq (is 10) (is 10) w left_v left ∧ (k : Int) ≤ ((List.length g.2 : Int) : Int) ∧ (BareInv left out_1 seen g k)) (fun ⟨k, out_1_v, out_1, left_v, left, seen, gq⟩ => Int.toNat (((List.length g.2 : Int) : Int) - (k : Int))) (0, Value.slice none 0 0, [], Value.slice none 0 0, [], (fun _ => 0), g21) ?_ ?_
  have C29 : Chg (inl [3]) _ _ _ _ := (ch2.n).seq ((ch7.n).seq ((hb12.n).seq ((ch14.n).seq ((ch19.l rfl).seq (ch24.n)))))
  replace hbase := hbase.chg C29 (is_nl rfl)
  replace bx10 := bx10.chg C27 (is_nl rfl)
  replace bx20 := bx20.chg ch24 (not_no _)
  · exact ⟨hbase, rfl, rfl, rfl, rfl, rfl, rfl, rfl, r_g_v, bx10, bx20, m25, Ow.nil, Ow.nil, by omega, by exact BareInv.start g⟩
  clear r_g_v
  clear bx10
  clear bx20
  clear m25
  clear hbase
  rintro ⟨k, out_1_v, out_1, left_v, left, seen, g32⟩ f30 w31 ⟨hbase, zs2, zs5, zs6, zs7, zs20, zs21, zs22, r_g_v, bx10, bx20, m25, o_out_1, o_left, hle_k, hinv⟩ back7
  obtain ⟨hbl, hbo, hse⟩ := hinv.bd
  refine run_seq ?_
  refine run_region rfl ?_
  refine l_val (v := Value.bool (decide ((k : Int) < (List.length g.2 : Int)))) rfl (e_lss (m := (k : Int)) (n := (List.length g.2 : Int)) (by exact zs22) (by exact zs21)) ?_
  refine l_nil ?_
  refine run_seq ?_
  by_cases p7 : (k : Int) < (List.length g.2 : Int)
  ·
   refine run_cond_t rfl (decide_eq_true p7) ?_
   have hse1 := hse (min (gI g.2 (k : Int)).1 (gI g.2 (k : Int)).2, max (gI g.2 (k : Int)).1 (gI g.2 (k : Int)).2)
   refine run_skip ?_
   refine run_seq ?_
   refine run_block ?_
   refine run_seq ?_
   refine run_region rfl ?_
   refine l_val (v := Value.int .i64 (k : Int)) rfl (e_move (by exact zs22)) ?_
   refine l_val (v := Value.pointer (some (eAddr g_v 2 (Int.toNat (k : Int))))) rfl (e_indexAddr (α := (Int) × (Int)) (xs := g.2) (v := g_v) (i := (k : Int)) Try.underlying22 rfl (by exact zs20) r_g_v (by exact zs22) (by omega) (by omega)) ?_
   refine l_val (v := Value.agg (List.toArray [Value.int .i64 ((gI g.2 (k : Int)).1), Value.int .i64 ((gI g.2 (k : Int)).2)])) rfl (e_load_elN (α := (Int) × (Int)) (xs := g.2) (v := g_v) (i := (k : Int)) tp71_f rfl r_g_v (by omega) (by omega) rfl) ?_
   refine l_op rfl ?_
   refine o_alloc g32 (is 5) (5, 0) rfl tp71_f ?_
   intro g36 w33 b35 ch34 bx37
   replace bx37 : Bx g36 (is 5) w33 b35 [Value.int .i64 0, Value.int .i64 0] := bx37
   refine l_val (v := Value.int .i64 (k : Int)) rfl (e_assign rfl) ?_
   refine l_op rfl ?_
   refine o_store_bx (cs' := [Value.int .i64 ((gI g.2 (k : Int)).1), Value.int .i64 ((gI g.2 (k : Int)).2)]) tp71_f rfl rfl bx37 rfl (Nat.le_of_ble_eq_true rfl) (AllOne.all (.cons rfl (.cons rfl .nil))) rfl ?_
   intro w38 ch39 bx40
   clear bx37
   refine l_nil ?_
   refine run_seq ?_
   refine run_region rfl ?_
   refine l_val (v := Value.agg (List.toArray [Value.int .i64 ((gI g.2 (k : Int)).1), Value.int .i64 ((gI g.2 (k : Int)).2)])) rfl (e_load_bxN (ds := [Value.int .i64 ((gI g.2 (k : Int)).1), Value.int .i64 ((gI g.2 (k : Int)).2)]) tp71_f rfl bx40 rfl rfl) ?_
   refine l_op rfl ?_
   refine o_call (v := Value.agg (List.toArray [Value.int .i64 (min (gI g.2 (k : Int)).1 (gI g.2 (k : Int)).2), Value.int .i64 (max (gI g.2 (k : Int)).1 (gI g.2 (k : Int)).2)])) (e_call (vals := [Value.agg (List.toArray [Value.int .i64 ((gI g.2 (k : Int)).1), Value.int .i64 ((gI g.2 (k : Int)).2)])]) Try.func94 bd94_f nm94_f rfl) (level_ok w38 (gI g.2 (k : Int))) ?_
   intro w41 hb42
   replace hb42 := chg_below hb42 g36
   refine l_op rfl ?_
   refine o_alloc g36 (is 6) (6, 0) rfl tp71_f ?_
   intro g46 w43 b45 ch44 bx47
   replace bx47 : Bx g46 (is 6) w43 b45 [Value.int .i64 0, Value.int .i64 0] := bx47
   refine l_op rfl ?_
   refine o_store_bx (cs' := [Value.int .i64 (min (gI g.2 (k : Int)).1 (gI g.2 (k : Int)).2), Value.int .i64 (max (gI g.2 (k : Int)).1 (gI g.2 (k : Int)).2)]) tp71_f rfl rfl bx47 rfl (Nat.le_of_ble_eq_true rfl) (AllOne.all (.cons rfl (.cons rfl .nil))) rfl ?_
   intro w48 ch49 bx50
   clear bx47
   refine l_nil ?_
   refine run_seq ?_
   refine run_seq ?_
   refine run_region rfl ?_
   refine l_val (v := Value.pointer (some ⟨b35, 0, none⟩)) rfl (e_indexAddr_arr Try.underlying71 rfl rfl rfl (by decide) (by decide) rfl) ?_
   have C51 : Chg (inl [6]) _ _ _ _ := (hb42.n).seq ((ch44.n).seq (ch49.l rfl))
   replace bx40 := bx40.chg C51 (is_nl rfl)
   refine l_val (v := Value.int .i64 ((gI g.2 (k : Int)).1)) rfl (e_load_bx1 tp3_f rfl bx40 rfl) ?_
   refine l_val (v := Value.pointer (some ⟨b35, 1, none⟩)) rfl (e_indexAddr_arr Try.underlying71 rfl rfl rfl (by decide) (by decide) rfl) ?_
   refine l_val (v := Value.int .i64 ((gI g.2 (k : Int)).2)) rfl (e_load_bx1 tp3_f rfl bx40 rfl) ?_
   refine l_val (v := Value.bool (!(decide (((gI g.2 (k : Int)).1) = ((gI g.2 (k : Int)).2))))) rfl (e_neq (m := (gI g.2 (k : Int)).1) (n := (gI g.2 (k : Int)).2) rfl rfl) ?_
   refine l_val (v := Value.bool (!(decide (((gI g.2 (k : Int)).1) = ((gI g.2 (k : Int)).2))))) rfl (e_move rfl) ?_
   by_cases q34 : ((gI g.2 (k : Int)).1) = ((gI g.2 (k : Int)).2)
   ·
    refine l_skip (want_n rfl rfl rfl (congrArg Bool.not (decide_eq_true q34))) ?_
    refine l_skip (want_n rfl rfl rfl (congrArg Bool.not (decide_eq_true q34))) ?_
    refine l_skip (want_n rfl rfl rfl (congrArg Bool.not (decide_eq_true q34))) ?_
    refine l_skip (want_n rfl rfl rfl (congrArg Bool.not (decide_eq_true q34))) ?_
    refine l_val (v := Value.bool false) rfl (e_pick_f rfl (congrArg Bool.not (decide_eq_true q34)) rfl) ?_
    refine l_nil ?_
    refine run_cond_f rfl rfl ?_
    refine run_skip ?_
    clear bx40
    refine region_mid (σ := Cmap) (fun gq f w => Base w0 gq w ∧ f 2 = Value.pointer (some ⟨b8, 0, none⟩) ∧ f 5 = Value.pointer (some ⟨b15, 0, none⟩) ∧ f 6 = left_v ∧ f 7 = v23 ∧ f 20 = g_v ∧ f 21 = Value.int .i64 (List.length g.2 : Int) ∧ f 22 = Value.int .i64 (k : Int) ∧ Sl gq (is 0) w g_v g.2 ∧ Bx gq (is 2) w b8 [Value.int .i64 0, Value.slice none 0 0] ∧ Bx gq (is 3) w b15 [Value.int .i64 g.1, out_1_v] ∧ Ow gq (is 8) (is 8) w out_1_v out_1 ∧ Ow gq (is 10) (is 10) w left_v left ∧ Mp gq (is 4) w v23 (fun q => if q = (min (gI g.2 (k : Int)).1 (gI g.2 (k : Int)).2, max (gI g.2 (k : Int)).1 (gI g.2 (k : Int)).2) then ((seen (min (gI g.2 (k : Int)).1 (gI g.2 (k : Int)).2, max (gI g.2 (k : Int)).1 (gI g.2 (k : Int)).2)) + 1) else seen q)) g46 [0, 1, 3, 5] mixed_f ?_ ?_
    ·
     intro mid
     intro w53 ch52
     refine x_pure (v := v23) 0 rfl (by kernel_rfl) (by kernel_rfl) rfl (fun w => e_move (by exact zs7)) ?_
     replace bx50 := bx50.chg ch52 (not_no _)
     refine x_val (v := Value.agg (List.toArray [Value.int .i64 (min (gI g.2 (k : Int)).1 (gI g.2 (k : Int)).2), Value.int .i64 (max (gI g.2 (k : Int)).1 (gI g.2 (k : Int)).2)])) 1 [0] rfl (by kernel_rfl) (by kernel_rfl) rfl (e_load_bxN (ds := [Value.int .i64 (min (gI g.2 (k : Int)).1 (gI g.2 (k : Int)).2), Value.int .i64 (max (gI g.2 (k : Int)).1 (gI g.2 (k : Int)).2)]) tp71_f rfl bx50 rfl rfl) ?_
     refine x_two 2 4 rfl rfl (by kernel_rfl) rfl rfl ?_ ?_
     ·
      have C54 : Chg (inl [5, 6]) _ _ _ _ := (ch34.n).seq ((ch39.l rfl).seq ((hb42.n).seq ((ch44.n).seq ((ch49.l rfl).seq (ch52.n)))))
      replace m25 := m25.chg C54 (is_nl rfl)
      refine o_of_val (v := Value.int .i64 (seen (min (gI g.2 (k : Int)).1 (gI g.2 (k : Int)).2, max (gI g.2 (k : Int)).1 (gI g.2 (k : Int)).2))) (e_lookup (min (gI g.2 (k : Int)).1 (gI g.2 (k : Int)).2, max (gI g.2 (k : Int)).1 (gI g.2 (k : Int)).2) Try.underlying111 (keyOk_pair Try.underlying71 Try.underlying3 tp3_f) tp3_f rfl m25 rfl rfl) ?_
      refine x_pure (v := Value.int .i64 ((seen (min (gI g.2 (k : Int)).1 (gI g.2 (k : Int)).2, max (gI g.2 (k : Int)).1 (gI g.2 (k : Int)).2)) + 1)) 3 rfl (by kernel_rfl) (by kernel_rfl) rfl (fun w => e_add (m := seen (min (gI g.2 (k : Int)).1 (gI g.2 (k : Int)).2, max (gI g.2 (k : Int)).1 (gI g.2 (k : Int)).2)) (n := 1) rfl rfl (by omega)) ?_
      refine x_one 4 rfl (by kernel_rfl) rfl ?_
      refine o_mapEntry (min (gI g.2 (k : Int)).1 (gI g.2 (k : Int)).2, max (gI g.2 (k : Int)).1 (gI g.2 (k : Int)).2) Try.underlying111 (keyOk_pair Try.underlying71 Try.underlying3 tp3_f) tp3_f rfl m25 rfl rfl ?_
      intro w55 s58 ch56 m57
      clear m25
      refine x_pure (v := Value.int .i64 s58) 5 rfl (by kernel_rfl) (by kernel_rfl) rfl (fun w => e_extract rfl rfl) ?_
      refine x_one 6 rfl (by kernel_rfl) rfl ?_
      refine o_entryStore rfl m57 rfl rfl ?_
      intro w59 ch60 m61
      clear m57
      refine x_nil (by kernel_rfl) ?_
      have C62 : Chg (inl [4, 5, 6]) _ _ _ _ := (ch34.n).seq ((ch39.l rfl).seq ((hb42.n).seq ((ch44.n).seq ((ch49.l rfl).seq ((ch52.n).seq ((ch56.l rfl).seq (ch60.l rfl)))))))
      replace hbase := hbase.chg C62 (is_nl rfl)
      replace r_g_v := r_g_v.chg C62 (is_nl rfl)
      replace bx10 := bx10.chg C62 (is_nl rfl)
      replace bx20 := bx20.chg C62 (is_nl rfl)
      replace o_out_1 := o_out_1.chg C62 (is_nl rfl) (is_nl rfl)
      replace o_left := o_left.chg C62 (is_nl rfl) (is_nl rfl)
      exact mid (g46) _ _ ⟨hbase, (by exact zs2), (by exact zs5), (by exact zs6), (by exact zs7), (by exact zs20), (by exact zs21), (by exact zs22), r_g_v, bx10, bx20, o_out_1, o_left, m61⟩
     ·
      have C67 : Chg (inl [5, 6]) _ _ _ _ := (ch34.n).seq ((ch39.l rfl).seq ((hb42.n).seq ((ch44.n).seq ((ch49.l rfl).seq (ch52.n)))))
      replace m25 := m25.chg C67 (is_nl rfl)
      refine o_mapEntry (min (gI g.2 (k : Int)).1 (gI g.2 (k : Int)).2, max (gI g.2 (k : Int)).1 (gI g.2 (k : Int)).2) Try.underlying111 (keyOk_pair Try.underlying71 Try.underlying3 tp3_f) tp3_f rfl m25 rfl rfl ?_
      intro w63 s66 ch64 m65
      clear m25
      refine x_pure (v := Value.int .i64 s66) 5 rfl (by kernel_rfl) (by kernel_rfl) rfl (fun w => e_extract rfl rfl) ?_
      refine x_one 2 rfl (by kernel_rfl) rfl ?_
      refine o_of_val (v := Value.int .i64 (seen (min (gI g.2 (k : Int)).1 (gI g.2 (k : Int)).2, max (gI g.2 (k : Int)).1 (gI g.2 (k : Int)).2))) (e_lookup (min (gI g.2 (k : Int)).1 (gI g.2 (k : Int)).2, max (gI g.2 (k : Int)).1 (gI g.2 (k : Int)).2) Try.underlying111 (keyOk_pair Try.underlying71 Try.underlying3 tp3_f) tp3_f rfl m65.mp rfl rfl) ?_
      refine x_pure (v := Value.int .i64 ((seen (min (gI g.2 (k : Int)).1 (gI g.2 (k : Int)).2, max (gI g.2 (k : Int)).1 (gI g.2 (k : Int)).2)) + 1)) 3 rfl (by kernel_rfl) (by kernel_rfl) rfl (fun w => e_add (m := seen (min (gI g.2 (k : Int)).1 (gI g.2 (k : Int)).2, max (gI g.2 (k : Int)).1 (gI g.2 (k : Int)).2)) (n := 1) rfl rfl (by omega)) ?_
      refine x_one 6 rfl (by kernel_rfl) rfl ?_
      refine o_entryStore rfl m65 rfl rfl ?_
      intro w68 ch69 m70
      clear m65
      refine x_nil (by kernel_rfl) ?_
      have C71 : Chg (inl [4, 5, 6]) _ _ _ _ := (ch34.n).seq ((ch39.l rfl).seq ((hb42.n).seq ((ch44.n).seq ((ch49.l rfl).seq ((ch52.n).seq ((ch64.l rfl).seq (ch69.l rfl)))))))
      replace hbase := hbase.chg C71 (is_nl rfl)
      replace r_g_v := r_g_v.chg C71 (is_nl rfl)
      replace bx10 := bx10.chg C71 (is_nl rfl)
      replace bx20 := bx20.chg C71 (is_nl rfl)
      replace o_out_1 := o_out_1.chg C71 (is_nl rfl) (is_nl rfl)
      replace o_left := o_left.chg C71 (is_nl rfl) (is_nl rfl)
      exact mid (g46) _ _ ⟨hbase, (by exact zs2), (by exact zs5), (by exact zs6), (by exact zs7), (by exact zs20), (by exact zs21), (by exact zs22), r_g_v, bx10, bx20, o_out_1, o_left, m70⟩
    clear r_g_v
    clear bx10
    clear bx20
    clear m25
    clear o_out_1
    clear o_left
    clear bx50
    clear hbase
    rintro g74 f72 w73 ⟨hbase, zs2, zs5, zs6, zs7, zs20, zs21, zs22, r_g_v, bx10, bx20, o_out_1, o_left, m59⟩
    refine run_inBlock ?_
    refine run_region rfl ?_
    refine l_val (v := Value.int .i64 ((k : Int) + 1)) rfl (e_add (m := (k : Int)) (n := 1) (by exact zs22) rfl (by omega)) ?_
    refine l_val (v := Value.int .i64 ((k : Int) + 1)) rfl (e_move rfl) ?_
    refine l_nil ?_
    refine back7 (k + 1, out_1_v, out_1, left_v, left, (fun q => if q = (min (gI g.2 (k : Int)).1 (gI g.2 (k : Int)).2, max (gI g.2 (k : Int)).1 (gI g.2 (k : Int)).2) then ((seen (min (gI g.2 (k : Int)).1 (gI g.2 (k : Int)).2, max (gI g.2 (k : Int)).1 (gI g.2 (k : Int)).2)) + 1) else seen q), g74) _ _ ⟨hbase, (by exact zs2), (by exact zs5), (by exact zs6), (by exact zs7), (by exact zs20), (by exact zs21), rfl, r_g_v, bx10, bx20, m59, o_out_1, o_left, by omega, ?_⟩ ?_
    · show BareInv left out_1 (fun q => if q = (min (gI g.2 (k : Int)).1 (gI g.2 (k : Int)).2, max (gI g.2 (k : Int)).1 (gI g.2 (k : Int)).2) then ((seen (min (gI g.2 (k : Int)).1 (gI g.2 (k : Int)).2, max (gI g.2 (k : Int)).1 (gI g.2 (k : Int)).2)) + 1) else seen q) g (k + 1)
      first
        | exact hinv.take (by assumption) q34 p10
        | exact hinv.skip (by assumption) (.inl q34)
        | exact hinv.skip (by assumption) (.inr p10)
    · show Int.toNat (((List.length g.2 : Int) : Int) - ((k + 1) : Int)) < Int.toNat (((List.length g.2 : Int) : Int) - (k : Int))
      omega
   refine l_val (v := v23) (want_y rfl rfl rfl (congrArg Bool.not (decide_eq_false q34))) (e_move (by exact zs7)) ?_
   refine l_val (v := Value.agg (List.toArray [Value.int .i64 (min (gI g.2 (k : Int)).1 (gI g.2 (k : Int)).2), Value.int .i64 (max (gI g.2 (k : Int)).1 (gI g.2 (k : Int)).2)])) (want_y rfl rfl rfl (congrArg Bool.not (decide_eq_false q34))) (e_load_bxN (ds := [Value.int .i64 (min (gI g.2 (k : Int)).1 (gI g.2 (k : Int)).2), Value.int .i64 (max (gI g.2 (k : Int)).1 (gI g.2 (k : Int)).2)]) tp71_f rfl bx50 rfl rfl) ?_
   have C75 : Chg (inl [5, 6]) _ _ _ _ := (ch34.n).seq ((ch39.l rfl).seq ((hb42.n).seq ((ch44.n).seq (ch49.l rfl))))
   replace m25 := m25.chg C75 (is_nl rfl)
   refine l_val (v := Value.int .i64 (seen (min (gI g.2 (k : Int)).1 (gI g.2 (k : Int)).2, max (gI g.2 (k : Int)).1 (gI g.2 (k : Int)).2))) (want_y rfl rfl rfl (congrArg Bool.not (decide_eq_false q34))) (e_lookup (min (gI g.2 (k : Int)).1 (gI g.2 (k : Int)).2, max (gI g.2 (k : Int)).1 (gI g.2 (k : Int)).2) Try.underlying111 (keyOk_pair Try.underlying71 Try.underlying3 tp3_f) tp3_f rfl m25 rfl rfl) ?_
   refine l_val (v := Value.bool (decide ((seen (min (gI g.2 (k : Int)).1 (gI g.2 (k : Int)).2, max (gI g.2 (k : Int)).1 (gI g.2 (k : Int)).2)) = 0))) (want_y rfl rfl rfl (congrArg Bool.not (decide_eq_false q34))) (e_eql (m := seen (min (gI g.2 (k : Int)).1 (gI g.2 (k : Int)).2, max (gI g.2 (k : Int)).1 (gI g.2 (k : Int)).2)) (n := 0) rfl rfl) ?_
   refine l_val (v := Value.bool (decide ((seen (min (gI g.2 (k : Int)).1 (gI g.2 (k : Int)).2, max (gI g.2 (k : Int)).1 (gI g.2 (k : Int)).2)) = 0))) rfl (e_pick_t rfl (congrArg Bool.not (decide_eq_false q34)) rfl) ?_
   refine l_nil ?_
   by_cases p10 : (seen (min (gI g.2 (k : Int)).1 (gI g.2 (k : Int)).2, max (gI g.2 (k : Int)).1 (gI g.2 (k : Int)).2)) = 0
   ·
    refine run_cond_t rfl (decide_eq_true p10) ?_
    refine run_seq ?_
    refine run_region rfl ?_
    refine l_val (v := Value.pointer (some ⟨b15, 1, none⟩)) rfl (e_fieldAddr Try.underlying24 rfl rfl (by exact zs5) rfl) ?_
    replace bx20 := bx20.chg C75 (is_nl rfl)
    refine l_val (v := out_1_v) rfl (e_load_bx1 tp22_f rfl bx20 rfl) ?_
    refine l_val (v := Value.agg (List.toArray [Value.int .i64 ((gI g.2 (k : Int)).1), Value.int .i64 ((gI g.2 (k : Int)).2)])) rfl (e_load_bxN (ds := [Value.int .i64 ((gI g.2 (k : Int)).1), Value.int .i64 ((gI g.2 (k : Int)).2)]) tp71_f rfl bx40 rfl rfl) ?_
    refine l_op rfl ?_
    refine o_buildSlice (α := (Int) × (Int)) g46 (is 7) (is 7) (7, 0) rfl [(gI g.2 (k : Int))] Try.underlying22 tp71_f (by decide) (by decide) (vs := [(0, Value.agg (List.toArray [Value.int .i64 ((gI g.2 (k : Int)).1), Value.int .i64 ((gI g.2 (k : Int)).2)]))]) rfl rfl (.cons rfl .nil) ?_
    intro g76 w77 v78 ch79 o80
    refine l_op rfl ?_
    have C81 : Chg (inl [5, 6]) _ _ _ _ := (ch34.n).seq ((ch39.l rfl).seq ((hb42.n).seq ((ch44.n).seq ((ch49.l rfl).seq (ch79.n)))))
    replace o_out_1 := o_out_1.chg C81 (is_nl rfl) (is_nl rfl)
    refine o_append (α := (Int) × (Int)) (xs := out_1) (ys := ([(gI g.2 (k : Int))])) g76 (J := is 8) (S := is 8) (8, 0) rfl Try.underlying22 tp71_f (by decide) rfl rfl rfl o_out_1 o80.flat (by decide) (by first | omega | (simp; done) | (simp; omega)) ?_
    intro g82 w83 v84 ch85 o86
    clear o_out_1
    refine l_val (v := Value.pointer (some ⟨b15, 1, none⟩)) rfl (e_fieldAddr Try.underlying24 rfl rfl (by exact zs5) rfl) ?_
    refine l_op rfl ?_
    replace bx20 := (bx20.chg ch79 (not_no _)).chg ch85 (is_ne rfl)
    refine o_store_bx1 (cs' := [Value.int .i64 g.1, v84]) tp22_f rfl rfl bx20 (sl_cells1 o86.flat) (Nat.le_of_ble_eq_true rfl) (sl_one o86.flat) rfl ?_
    intro w87 ch88 bx89
    clear bx20
    refine l_nil ?_
    clear bx40
    clear o80
    refine run_region rfl ?_
    refine l_val (v := left_v) rfl (e_move (by exact zs6)) ?_
    refine l_val (v := Value.int .i64 (k : Int)) rfl (e_move rfl) ?_
    refine l_op rfl ?_
    refine o_buildSlice (α := Int) g82 (is 9) (is 9) (9, 0) rfl [(k : Int)] Try.underlying35 tp3_f (by decide) (by decide) (vs := [(0, Value.int .i64 (k : Int))]) rfl rfl (.cons rfl .nil) ?_
    intro g90 w91 v92 ch93 o94
    refine l_op rfl ?_
    have C95 : Chg (inl [3, 5, 6, 8]) _ _ _ _ := (ch34.n).seq ((ch39.l rfl).seq ((hb42.n).seq ((ch44.n).seq ((ch49.l rfl).seq ((ch79.n).seq ((ch85.l rfl).seq ((ch88.l rfl).seq (ch93.n))))))))
    replace o_left := o_left.chg C95 (is_nl rfl) (is_nl rfl)
    refine o_append (α := Int) (xs := left) (ys := ([(k : Int)])) g90 (J := is 10) (S := is 10) (10, 0) rfl Try.underlying35 tp3_f (by decide) rfl rfl rfl o_left o94.flat (by decide) (by first | omega | (simp; done) | (simp; omega)) ?_
    intro g96 w97 v98 ch99 o100
    clear o_left
    refine l_val (v := v98) rfl (e_assign rfl) ?_
    refine l_nil ?_
    clear o94
    refine region_mid (σ := Cmap) (fun gq f w => Base w0 gq w ∧ f 2 = Value.pointer (some ⟨b8, 0, none⟩) ∧ f 5 = Value.pointer (some ⟨b15, 0, none⟩) ∧ f 6 = v98 ∧ f 7 = v23 ∧ f 20 = g_v ∧ f 21 = Value.int .i64 (List.length g.2 : Int) ∧ f 22 = Value.int .i64 (k : Int) ∧ Sl gq (is 0) w g_v g.2 ∧ Bx gq (is 2) w b8 [Value.int .i64 0, Value.slice none 0 0] ∧ Ow gq (is 8) (is 8) w v84 (out_1 ++ [(gI g.2 (k : Int))]) ∧ Bx gq (is 3) w b15 [Value.int .i64 g.1, v84] ∧ Ow gq (is 10) (is 10) w v98 (left ++ [(k : Int)]) ∧ Mp gq (is 4) w v23 (fun q => if q = (min (gI g.2 (k : Int)).1 (gI g.2 (k : Int)).2, max (gI g.2 (k : Int)).1 (gI g.2 (k : Int)).2) then ((seen (min (gI g.2 (k : Int)).1 (gI g.2 (k : Int)).2, max (gI g.2 (k : Int)).1 (gI g.2 (k : Int)).2)) + 1) else seen q)) g96 [0, 1, 3, 5] mixed_f ?_ ?_
    ·
     intro mid
     intro w102 ch101
     refine x_pure (v := v23) 0 rfl (by kernel_rfl) (by kernel_rfl) rfl (fun w => e_move (by exact zs7)) ?_
     have C103 : Chg (inl [3, 8, 10]) _ _ _ _ := (ch79.n).seq ((ch85.l rfl).seq ((ch88.l rfl).seq ((ch93.n).seq ((ch99.l rfl).seq (ch101.n)))))
     replace bx50 := bx50.chg C103 (is_nl rfl)
     refine x_val (v := Value.agg (List.toArray [Value.int .i64 (min (gI g.2 (k : Int)).1 (gI g.2 (k : Int)).2), Value.int .i64 (max (gI g.2 (k : Int)).1 (gI g.2 (k : Int)).2)])) 1 [0] rfl (by kernel_rfl) (by kernel_rfl) rfl (e_load_bxN (ds := [Value.int .i64 (min (gI g.2 (k : Int)).1 (gI g.2 (k : Int)).2), Value.int .i64 (max (gI g.2 (k : Int)).1 (gI g.2 (k : Int)).2)]) tp71_f rfl bx50 rfl rfl) ?_
     refine x_two 2 4 rfl rfl (by kernel_rfl) rfl rfl ?_ ?_
     ·
      replace m25 := m25.chg C103 (is_nl rfl)
      refine o_of_val (v := Value.int .i64 (seen (min (gI g.2 (k : Int)).1 (gI g.2 (k : Int)).2, max (gI g.2 (k : Int)).1 (gI g.2 (k : Int)).2))) (e_lookup (min (gI g.2 (k : Int)).1 (gI g.2 (k : Int)).2, max (gI g.2 (k : Int)).1 (gI g.2 (k : Int)).2) Try.underlying111 (keyOk_pair Try.underlying71 Try.underlying3 tp3_f) tp3_f rfl m25 rfl rfl) ?_
      refine x_pure (v := Value.int .i64 ((seen (min (gI g.2 (k : Int)).1 (gI g.2 (k : Int)).2, max (gI g.2 (k : Int)).1 (gI g.2 (k : Int)).2)) + 1)) 3 rfl (by kernel_rfl) (by kernel_rfl) rfl (fun w => e_add (m := seen (min (gI g.2 (k : Int)).1 (gI g.2 (k : Int)).2, max (gI g.2 (k : Int)).1 (gI g.2 (k : Int)).2)) (n := 1) rfl rfl (by omega)) ?_
      refine x_one 4 rfl (by kernel_rfl) rfl ?_
      refine o_mapEntry (min (gI g.2 (k : Int)).1 (gI g.2 (k : Int)).2, max (gI g.2 (k : Int)).1 (gI g.2 (k : Int)).2) Try.underlying111 (keyOk_pair Try.underlying71 Try.underlying3 tp3_f) tp3_f rfl m25 rfl rfl ?_
      intro w104 s107 ch105 m106
      clear m25
      refine x_pure (v := Value.int .i64 s107) 5 rfl (by kernel_rfl) (by kernel_rfl) rfl (fun w => e_extract rfl rfl) ?_
      refine x_one 6 rfl (by kernel_rfl) rfl ?_
      refine o_entryStore rfl m106 rfl rfl ?_
      intro w108 ch109 m110
      clear m106
      refine x_nil (by kernel_rfl) ?_
      have C111 : Chg (inl [3, 4, 5, 6, 8, 10]) _ _ _ _ := (ch34.n).seq ((ch39.l rfl).seq ((hb42.n).seq ((ch44.n).seq ((ch49.l rfl).seq ((ch79.n).seq ((ch85.l rfl).seq ((ch88.l rfl).seq ((ch93.n).seq ((ch99.l rfl).seq ((ch101.n).seq ((ch105.l rfl).seq (ch109.l rfl))))))))))))
      replace hbase := hbase.chg C111 (is_nl rfl)
      replace r_g_v := r_g_v.chg C111 (is_nl rfl)
      replace bx10 := bx10.chg C111 (is_nl rfl)
      have C112 : Chg (inl [3, 4, 10]) _ _ _ _ := (ch88.l rfl).seq ((ch93.n).seq ((ch99.l rfl).seq ((ch101.n).seq ((ch105.l rfl).seq (ch109.l rfl)))))
      replace o86 := o86.chg C112 (is_nl rfl) (is_nl rfl)
      have C113 : Chg (inl [4, 10]) _ _ _ _ := (ch93.n).seq ((ch99.l rfl).seq ((ch101.n).seq ((ch105.l rfl).seq (ch109.l rfl))))
      replace bx89 := bx89.chg C113 (is_nl rfl)
      have C114 : Chg (inl [4]) _ _ _ _ := (ch101.n).seq ((ch105.l rfl).seq (ch109.l rfl))
      replace o100 := o100.chg C114 (is_nl rfl) (is_nl rfl)
      exact mid (g96) _ _ ⟨hbase, (by exact zs2), (by exact zs5), rfl, (by exact zs7), (by exact zs20), (by exact zs21), (by exact zs22), r_g_v, bx10, o86, bx89, o100, m110⟩
     ·
      replace m25 := m25.chg C103 (is_nl rfl)
      refine o_mapEntry (min (gI g.2 (k : Int)).1 (gI g.2 (k : Int)).2, max (gI g.2 (k : Int)).1 (gI g.2 (k : Int)).2) Try.underlying111 (keyOk_pair Try.underlying71 Try.underlying3 tp3_f) tp3_f rfl m25 rfl rfl ?_
      intro w115 s118 ch116 m117
      clear m25
      refine x_pure (v := Value.int .i64 s118) 5 rfl (by kernel_rfl) (by kernel_rfl) rfl (fun w => e_extract rfl rfl) ?_
      refine x_one 2 rfl (by kernel_rfl) rfl ?_
      refine o_of_val (v := Value.int .i64 (seen (min (gI g.2 (k : Int)).1 (gI g.2 (k : Int)).2, max (gI g.2 (k : Int)).1 (gI g.2 (k : Int)).2))) (e_lookup (min (gI g.2 (k : Int)).1 (gI g.2 (k : Int)).2, max (gI g.2 (k : Int)).1 (gI g.2 (k : Int)).2) Try.underlying111 (keyOk_pair Try.underlying71 Try.underlying3 tp3_f) tp3_f rfl m117.mp rfl rfl) ?_
      refine x_pure (v := Value.int .i64 ((seen (min (gI g.2 (k : Int)).1 (gI g.2 (k : Int)).2, max (gI g.2 (k : Int)).1 (gI g.2 (k : Int)).2)) + 1)) 3 rfl (by kernel_rfl) (by kernel_rfl) rfl (fun w => e_add (m := seen (min (gI g.2 (k : Int)).1 (gI g.2 (k : Int)).2, max (gI g.2 (k : Int)).1 (gI g.2 (k : Int)).2)) (n := 1) rfl rfl (by omega)) ?_
      refine x_one 6 rfl (by kernel_rfl) rfl ?_
      refine o_entryStore rfl m117 rfl rfl ?_
      intro w119 ch120 m121
      clear m117
      refine x_nil (by kernel_rfl) ?_
      have C122 : Chg (inl [3, 4, 5, 6, 8, 10]) _ _ _ _ := (ch34.n).seq ((ch39.l rfl).seq ((hb42.n).seq ((ch44.n).seq ((ch49.l rfl).seq ((ch79.n).seq ((ch85.l rfl).seq ((ch88.l rfl).seq ((ch93.n).seq ((ch99.l rfl).seq ((ch101.n).seq ((ch116.l rfl).seq (ch120.l rfl))))))))))))
      replace hbase := hbase.chg C122 (is_nl rfl)
      replace r_g_v := r_g_v.chg C122 (is_nl rfl)
      replace bx10 := bx10.chg C122 (is_nl rfl)
      have C123 : Chg (inl [3, 4, 10]) _ _ _ _ := (ch88.l rfl).seq ((ch93.n).seq ((ch99.l rfl).seq ((ch101.n).seq ((ch116.l rfl).seq (ch120.l rfl)))))
      replace o86 := o86.chg C123 (is_nl rfl) (is_nl rfl)
      have C124 : Chg (inl [4, 10]) _ _ _ _ := (ch93.n).seq ((ch99.l rfl).seq ((ch101.n).seq ((ch116.l rfl).seq (ch120.l rfl))))
      replace bx89 := bx89.chg C124 (is_nl rfl)
      have C125 : Chg (inl [4]) _ _ _ _ := (ch101.n).seq ((ch116.l rfl).seq (ch120.l rfl))
      replace o100 := o100.chg C125 (is_nl rfl) (is_nl rfl)
      exact mid (g96) _ _ ⟨hbase, (by exact zs2), (by exact zs5), rfl, (by exact zs7), (by exact zs20), (by exact zs21), (by exact zs22), r_g_v, bx10, o86, bx89, o100, m121⟩
    clear r_g_v
    clear bx10
    clear m25
    clear bx50
    clear o86
    clear bx89
    clear o100
    clear hbase
    rintro g128 f126 w127 ⟨hbase, zs2, zs5, zs6, zs7, zs20, zs21, zs22, r_g_v, bx10, o86, bx89, o100, m108⟩
    refine run_inBlock ?_
    refine run_region rfl ?_
    refine l_val (v := Value.int .i64 ((k : Int) + 1)) rfl (e_add (m := (k : Int)) (n := 1) (by exact zs22) rfl (by omega)) ?_
    refine l_val (v := Value.int .i64 ((k : Int) + 1)) rfl (e_move rfl) ?_
    refine l_nil ?_
    refine back7 (k + 1, v84, (out_1 ++ [(gI g.2 (k : Int))]), v98, (left ++ [(k : Int)]), (fun q => if q = (min (gI g.2 (k : Int)).1 (gI g.2 (k : Int)).2, max (gI g.2 (k : Int)).1 (gI g.2 (k : Int)).2) then ((seen (min (gI g.2 (k : Int)).1 (gI g.2 (k : Int)).2, max (gI g.2 (k : Int)).1 (gI g.2 (k : Int)).2)) + 1) else seen q), g128) _ _ ⟨hbase, (by exact zs2), (by exact zs5), (by exact zs6), (by exact zs7), (by exact zs20), (by exact zs21), rfl, r_g_v, bx10, bx89, m108, o86, o100, by omega, ?_⟩ ?_
    · show BareInv (left ++ [(k : Int)]) (out_1 ++ [(gI g.2 (k : Int))]) (fun q => if q = (min (gI g.2 (k : Int)).1 (gI g.2 (k : Int)).2, max (gI g.2 (k : Int)).1 (gI g.2 (k : Int)).2) then ((seen (min (gI g.2 (k : Int)).1 (gI g.2 (k : Int)).2, max (gI g.2 (k : Int)).1 (gI g.2 (k : Int)).2)) + 1) else seen q) g (k + 1)
      first
        | exact hinv.take (by assumption) q34 p10
        | exact hinv.skip (by assumption) (.inl q34)
        | exact hinv.skip (by assumption) (.inr p10)
    · show Int.toNat (((List.length g.2 : Int) : Int) - ((k + 1) : Int)) < Int.toNat (((List.length g.2 : Int) : Int) - (k : Int))
      omega
   refine run_cond_f rfl (decide_eq_false p10) ?_
   refine run_skip ?_
   clear bx40
   refine region_mid (σ := Cmap) (fun gq f w => Base w0 gq w ∧ f 2 = Value.pointer (some ⟨b8, 0, none⟩) ∧ f 5 = Value.pointer (some ⟨b15, 0, none⟩) ∧ f 6 = left_v ∧ f 7 = v23 ∧ f 20 = g_v ∧ f 21 = Value.int .i64 (List.length g.2 : Int) ∧ f 22 = Value.int .i64 (k : Int) ∧ Sl gq (is 0) w g_v g.2 ∧ Bx gq (is 2) w b8 [Value.int .i64 0, Value.slice none 0 0] ∧ Bx gq (is 3) w b15 [Value.int .i64 g.1, out_1_v] ∧ Ow gq (is 8) (is 8) w out_1_v out_1 ∧ Ow gq (is 10) (is 10) w left_v left ∧ Mp gq (is 4) w v23 (fun q => if q = (min (gI g.2 (k : Int)).1 (gI g.2 (k : Int)).2, max (gI g.2 (k : Int)).1 (gI g.2 (k : Int)).2) then ((seen (min (gI g.2 (k : Int)).1 (gI g.2 (k : Int)).2, max (gI g.2 (k : Int)).1 (gI g.2 (k : Int)).2)) + 1) else seen q)) g46 [0, 1, 3, 5] mixed_f ?_ ?_
   ·
    intro mid
    intro w130 ch129
    refine x_pure (v := v23) 0 rfl (by kernel_rfl) (by kernel_rfl) rfl (fun w => e_move (by exact zs7)) ?_
    replace bx50 := bx50.chg ch129 (not_no _)
    refine x_val (v := Value.agg (List.toArray [Value.int .i64 (min (gI g.2 (k : Int)).1 (gI g.2 (k : Int)).2), Value.int .i64 (max (gI g.2 (k : Int)).1 (gI g.2 (k : Int)).2)])) 1 [0] rfl (by kernel_rfl) (by kernel_rfl) rfl (e_load_bxN (ds := [Value.int .i64 (min (gI g.2 (k : Int)).1 (gI g.2 (k : Int)).2), Value.int .i64 (max (gI g.2 (k : Int)).1 (gI g.2 (k : Int)).2)]) tp71_f rfl bx50 rfl rfl) ?_
    refine x_two 2 4 rfl rfl (by kernel_rfl) rfl rfl ?_ ?_
    ·
     replace m25 := m25.chg ch129 (not_no _)
     refine o_of_val (v := Value.int .i64 (seen (min (gI g.2 (k : Int)).1 (gI g.2 (k : Int)).2, max (gI g.2 (k : Int)).1 (gI g.2 (k : Int)).2))) (e_lookup (min (gI g.2 (k : Int)).1 (gI g.2 (k : Int)).2, max (gI g.2 (k : Int)).1 (gI g.2 (k : Int)).2) Try.underlying111 (keyOk_pair Try.underlying71 Try.underlying3 tp3_f) tp3_f rfl m25 rfl rfl) ?_
     refine x_pure (v := Value.int .i64 ((seen (min (gI g.2 (k : Int)).1 (gI g.2 (k : Int)).2, max (gI g.2 (k : Int)).1 (gI g.2 (k : Int)).2)) + 1)) 3 rfl (by kernel_rfl) (by kernel_rfl) rfl (fun w => e_add (m := seen (min (gI g.2 (k : Int)).1 (gI g.2 (k : Int)).2, max (gI g.2 (k : Int)).1 (gI g.2 (k : Int)).2)) (n := 1) rfl rfl (by omega)) ?_
     refine x_one 4 rfl (by kernel_rfl) rfl ?_
     refine o_mapEntry (min (gI g.2 (k : Int)).1 (gI g.2 (k : Int)).2, max (gI g.2 (k : Int)).1 (gI g.2 (k : Int)).2) Try.underlying111 (keyOk_pair Try.underlying71 Try.underlying3 tp3_f) tp3_f rfl m25 rfl rfl ?_
     intro w131 s134 ch132 m133
     clear m25
     refine x_pure (v := Value.int .i64 s134) 5 rfl (by kernel_rfl) (by kernel_rfl) rfl (fun w => e_extract rfl rfl) ?_
     refine x_one 6 rfl (by kernel_rfl) rfl ?_
     refine o_entryStore rfl m133 rfl rfl ?_
     intro w135 ch136 m137
     clear m133
     refine x_nil (by kernel_rfl) ?_
     have C138 : Chg (inl [4, 5, 6]) _ _ _ _ := (ch34.n).seq ((ch39.l rfl).seq ((hb42.n).seq ((ch44.n).seq ((ch49.l rfl).seq ((ch129.n).seq ((ch132.l rfl).seq (ch136.l rfl)))))))
     replace hbase := hbase.chg C138 (is_nl rfl)
     replace r_g_v := r_g_v.chg C138 (is_nl rfl)
     replace bx10 := bx10.chg C138 (is_nl rfl)
     replace bx20 := bx20.chg C138 (is_nl rfl)
     replace o_out_1 := o_out_1.chg C138 (is_nl rfl) (is_nl rfl)
     replace o_left := o_left.chg C138 (is_nl rfl) (is_nl rfl)
     exact mid (g46) _ _ ⟨hbase, (by exact zs2), (by exact zs5), (by exact zs6), (by exact zs7), (by exact zs20), (by exact zs21), (by exact zs22), r_g_v, bx10, bx20, o_out_1, o_left, m137⟩
    ·
     replace m25 := m25.chg ch129 (not_no _)
     refine o_mapEntry (min (gI g.2 (k : Int)).1 (gI g.2 (k : Int)).2, max (gI g.2 (k : Int)).1 (gI g.2 (k : Int)).2) Try.underlying111 (keyOk_pair Try.underlying71 Try.underlying3 tp3_f) tp3_f rfl m25 rfl rfl ?_
     intro w139 s142 ch140 m141
     clear m25
     refine x_pure (v := Value.int .i64 s142) 5 rfl (by kernel_rfl) (by kernel_rfl) rfl (fun w => e_extract rfl rfl) ?_
     refine x_one 2 rfl (by kernel_rfl) rfl ?_
     refine o_of_val (v := Value.int .i64 (seen (min (gI g.2 (k : Int)).1 (gI g.2 (k : Int)).2, max (gI g.2 (k : Int)).1 (gI g.2 (k : Int)).2))) (e_lookup (min (gI g.2 (k : Int)).1 (gI g.2 (k : Int)).2, max (gI g.2 (k : Int)).1 (gI g.2 (k : Int)).2) Try.underlying111 (keyOk_pair Try.underlying71 Try.underlying3 tp3_f) tp3_f rfl m141.mp rfl rfl) ?_
     refine x_pure (v := Value.int .i64 ((seen (min (gI g.2 (k : Int)).1 (gI g.2 (k : Int)).2, max (gI g.2 (k : Int)).1 (gI g.2 (k : Int)).2)) + 1)) 3 rfl (by kernel_rfl) (by kernel_rfl) rfl (fun w => e_add (m := seen (min (gI g.2 (k : Int)).1 (gI g.2 (k : Int)).2, max (gI g.2 (k : Int)).1 (gI g.2 (k : Int)).2)) (n := 1) rfl rfl (by omega)) ?_
     refine x_one 6 rfl (by kernel_rfl) rfl ?_
     refine o_entryStore rfl m141 rfl rfl ?_
     intro w143 ch144 m145
     clear m141
     refine x_nil (by kernel_rfl) ?_
     have C146 : Chg (inl [4, 5, 6]) _ _ _ _ := (ch34.n).seq ((ch39.l rfl).seq ((hb42.n).seq ((ch44.n).seq ((ch49.l rfl).seq ((ch129.n).seq ((ch140.l rfl).seq (ch144.l rfl)))))))
     replace hbase := hbase.chg C146 (is_nl rfl)
     replace r_g_v := r_g_v.chg C146 (is_nl rfl)
     replace bx10 := bx10.chg C146 (is_nl rfl)
     replace bx20 := bx20.chg C146 (is_nl rfl)
     replace o_out_1 := o_out_1.chg C146 (is_nl rfl) (is_nl rfl)
     replace o_left := o_left.chg C146 (is_nl rfl) (is_nl rfl)
     exact mid (g46) _ _ ⟨hbase, (by exact zs2), (by exact zs5), (by exact zs6), (by exact zs7), (by exact zs20), (by exact zs21), (by exact zs22), r_g_v, bx10, bx20, o_out_1, o_left, m145⟩
   clear r_g_v
   clear bx10
   clear bx20
   clear m25
   clear o_out_1
   clear o_left
   clear bx50
   clear hbase
   rintro g149 f147 w148 ⟨hbase, zs2, zs5, zs6, zs7, zs20, zs21, zs22, r_g_v, bx10, bx20, o_out_1, o_left, m135⟩
   refine run_inBlock ?_
   refine run_region rfl ?_
   refine l_val (v := Value.int .i64 ((k : Int) + 1)) rfl (e_add (m := (k : Int)) (n := 1) (by exact zs22) rfl (by omega)) ?_
   refine l_val (v := Value.int .i64 ((k : Int) + 1)) rfl (e_move rfl) ?_
   refine l_nil ?_
   refine back7 (k + 1, out_1_v, out_1, left_v, left, (fun q => if q = (min (gI g.2 (k : Int)).1 (gI g.2 (k : Int)).2, max (gI g.2 (k : Int)).1 (gI g.2 (k : Int)).2) then ((seen (min (gI g.2 (k : Int)).1 (gI g.2 (k : Int)).2, max (gI g.2 (k : Int)).1 (gI g.2 (k : Int)).2)) + 1) else seen q), g149) _ _ ⟨hbase, (by exact zs2), (by exact zs5), (by exact zs6), (by exact zs7), (by exact zs20), (by exact zs21), rfl, r_g_v, bx10, bx20, m135, o_out_1, o_left, by omega, ?_⟩ ?_
   · show BareInv left out_1 (fun q => if q = (min (gI g.2 (k : Int)).1 (gI g.2 (k : Int)).2, max (gI g.2 (k : Int)).1 (gI g.2 (k : Int)).2) then ((seen (min (gI g.2 (k : Int)).1 (gI g.2 (k : Int)).2, max (gI g.2 (k : Int)).1 (gI g.2 (k : Int)).2)) + 1) else seen q) g (k + 1)
     first
       | exact hinv.take (by assumption) q34 p10
       | exact hinv.skip (by assumption) (.inl q34)
       | exact hinv.skip (by assumption) (.inr p10)
   · show Int.toNat (((List.length g.2 : Int) : Int) - ((k + 1) : Int)) < Int.toNat (((List.length g.2 : Int) : Int) - (k : Int))
     omega
  refine run_cond_f rfl (decide_eq_false p7) ?_
  refine run_exit rfl ?_
  refine run_seq ?_
  clear m25
  refine run_region rfl ?_
  refine l_val (v := Value.agg (List.toArray [Value.int .i64 g.1, out_1_v])) rfl (e_load_bxN (ds := [Value.int .i64 g.1, out_1_v]) tp24_f (by exact zs5) bx20 rfl rfl) ?_
  refine l_val (v := left_v) rfl (e_move (by exact zs6)) ?_
  refine l_op rfl ?_
  refine o_store_bx (cs' := [Value.int .i64 g.1, out_1_v]) tp24_f (by exact zs2) rfl bx10 rfl (Nat.le_of_ble_eq_true rfl) (AllOne.all (.cons rfl (.cons (sl_one o_out_1.flat) .nil))) rfl ?_
  intro w150 ch151 bx152
  clear bx10
  refine l_val (v := left_v) rfl (e_assign rfl) ?_
  refine l_val (v := Value.int .i64 0) rfl (e_assign rfl) ?_
  refine l_nil ?_
  refine run_ret (vs := [Value.agg (List.toArray [Value.int .i64 g.1, out_1_v]), left_v, Value.int .i64 0]) Try.func57 (.cell (by exact zs2) (load_bxN (ds := [Value.int .i64 g.1, out_1_v]) tp24_f bx152 rfl rfl) (.tmp rfl (.tmp rfl .nil))) ?_
  -- return 0
  replace hbase := hbase.chg ch151 (is_ne rfl)
  replace o_out_1 := o_out_1.chg ch151 (is_ne rfl) (is_ne rfl)
  replace o_left := o_left.chg ch151 (is_ne rfl) (is_ne rfl)
  have e0 : ((g.1, out_1) : (Int) × (List ((Int) × (Int)))) = ((bareR g).1) := by
    first
      | (have hn : ¬ MayP g := fun h => p1 (decide_eq_true h)
         simp only [bareR, if_neg hn]; done)
      | (have hk : k = g.2.length := by omega
         subst hk
         first
           | (simp only [bareR, if_pos hm, ← hinv.out]; done)
           | (simp only [bareR, if_pos hm, ← hinv.left]; done)
           | (simp only [bareR, if_pos hm]; done))
  have e1 : (left : List Int) = ((bareR g).2.1) := by
    first
      | (have hn : ¬ MayP g := fun h => p1 (decide_eq_true h)
         simp only [bareR, if_neg hn]; done)
      | (have hk : k = g.2.length := by omega
         subst hk
         first
           | (simp only [bareR, if_pos hm, ← hinv.out]; done)
           | (simp only [bareR, if_pos hm, ← hinv.left]; done)
           | (simp only [bareR, if_pos hm]; done))
  have e2 : (0 : Int) = ((bareR g).2.2) := by
    first
      | (have hn : ¬ MayP g := fun h => p1 (decide_eq_true h)
         simp only [bareR, if_neg hn]; done)
      | (have hk : k = g.2.length := by omega
         subst hk
         first
           | (simp only [bareR, if_pos hm, ← hinv.out]; done)
           | (simp only [bareR, if_pos hm, ← hinv.left]; done)
           | (simp only [bareR, if_pos hm]; done))
  exact ⟨(fin w0 g32 (fun n => if n = 8 then 1 else if n = 10 then 2 else 0), out_1_v, left_v), (congr3 (a := (g.1, out_1)) (b := left) (c := 0) (fun (z0 : (Int) × (List ((Int) × (Int)))) (z1 : List Int) (z2 : Int) => Ending.returned (Value.tuple (List.toArray [Value.agg (List.toArray [Value.int .i64 z0.1, out_1_v]), left_v, Value.int .i64 z2]))) e0 e1 e2), hbase.fresh _, ((congrArg (fun (z : (Int) × (List ((Int) × (Int)))) => z.2) e0) ▸ (o_out_1.glue (γ := c0) (ren := (fun n => if n = 8 then 1 else if n = 10 then 2 else 0)) (k := 1) hbase.col rfl rfl)), (e1 ▸ (o_left.glue (γ := c0) (ren := (fun n => if n = 8 then 1 else if n = 10 then 2 else 0)) (k := 2) hbase.col rfl rfl))⟩
 refine run_cond_t rfl (congrArg Bool.not (Bool.eq_false_iff.2 p1)) ?_
 refine run_seq ?_
 clear bx5
 refine run_region rfl ?_
 refine l_val (v := Value.agg (List.toArray [Value.int .i64 0, Value.slice none 0 0])) rfl (e_build (vs := []) rfl (by kernel_rfl)) ?_
 refine l_op rfl ?_
 replace bx10 := bx10.chg hb12 (not_no _)
 refine o_store_bx (cs' := [Value.int .i64 0, Value.slice none 0 0]) tp24_f rfl rfl bx10 rfl (Nat.le_of_ble_eq_true rfl) (AllOne.all (.cons rfl (.cons rfl .nil))) rfl ?_
 intro w153 ch154 bx155
 clear bx10
 refine l_val (v := Value.slice none 0 0) rfl (e_assign rfl) ?_
 refine l_val (v := Value.int .i64 1) rfl (e_assign rfl) ?_
 refine l_nil ?_
 refine run_ret (vs := [Value.agg (List.toArray [Value.int .i64 0, Value.slice none 0 0]), Value.slice none 0 0, Value.int .i64 1]) Try.func57 (.cell rfl (load_bxN (ds := [Value.int .i64 0, Value.slice none 0 0]) tp24_f bx155 rfl rfl) (.tmp rfl (.tmp rfl .nil))) ?_
 -- return 1
 have C156 : Chg (inl [2]) _ _ _ _ := (ch2.n).seq ((ch7.n).seq ((hb12.n).seq (ch154.l rfl)))
 replace hbase := hbase.chg C156 (is_nl rfl)
 have e0 : ((0, []) : (Int) × (List ((Int) × (Int)))) = ((bareR g).1) := by
   first
     | (have hn : ¬ MayP g := fun h => p1 (decide_eq_true h)
        simp only [bareR, if_neg hn]; done)
     | (have hk : k = g.2.length := by omega
        subst hk
        first
          | (simp only [bareR, if_pos hm, ← hinv.out]; done)
          | (simp only [bareR, if_pos hm, ← hinv.left]; done)
          | (simp only [bareR, if_pos hm]; done))
 have e1 : ([] : List Int) = ((bareR g).2.1) := by
   first
     | (have hn : ¬ MayP g := fun h => p1 (decide_eq_true h)
        simp only [bareR, if_neg hn]; done)
     | (have hk : k = g.2.length := by omega
        subst hk
        first
          | (simp only [bareR, if_pos hm, ← hinv.out]; done)
          | (simp only [bareR, if_pos hm, ← hinv.left]; done)
          | (simp only [bareR, if_pos hm]; done))
 have e2 : (1 : Int) = ((bareR g).2.2) := by
   first
     | (have hn : ¬ MayP g := fun h => p1 (decide_eq_true h)
        simp only [bareR, if_neg hn]; done)
     | (have hk : k = g.2.length := by omega
        subst hk
        first
          | (simp only [bareR, if_pos hm, ← hinv.out]; done)
          | (simp only [bareR, if_pos hm, ← hinv.left]; done)
          | (simp only [bareR, if_pos hm]; done))
 exact ⟨(fin w0 g9 (fun n => 0), (Value.slice none 0 0), (Value.slice none 0 0)), (congr3 (a := (0, [])) (b := []) (c := 1) (fun (z0 : (Int) × (List ((Int) × (Int)))) (z1 : List Int) (z2 : Int) => Ending.returned (Value.tuple (List.toArray [Value.agg (List.toArray [Value.int .i64 z0.1, Value.slice none 0 0]), Value.slice none 0 0, Value.int .i64 z2]))) e0 e1 e2), hbase.fresh _, ((congrArg (fun (z : (Int) × (List ((Int) × (Int)))) => z.2) e0) ▸ Ow.nil), (e1 ▸ Ow.nil)⟩
end TL
