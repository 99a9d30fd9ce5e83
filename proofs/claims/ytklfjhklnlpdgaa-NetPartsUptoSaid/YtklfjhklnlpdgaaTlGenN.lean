import Derived.Test.YtklfjhklnlpdgaaTlGenA
import Derived.Test.YtklfjhklnlpdgaaTlGenB
import Derived.Test.YtklfjhklnlpdgaaTlNetLaws
import Derived.Test.YtklfjhklnlpdgaaProg
import Derived.Test.YtklfjhklnlpdgaaTlNet2
import Derived.Test.YtklfjhklnlpdgaaTlDraw
import Derived.Test.YtklfjhklnlpdgaaTlMap
set_option linter.all false
set_option maxRecDepth 20000
namespace TL
open Go Go.Proofs
theorem mixed_n : Try.prog.follows .mixedOrders = true := by kernel_rfl
theorem tp3_n : Tp Try.prog 3 false 1 8 (.int .i64 0) := Tp.of (by kernel_rfl)
theorem tp22_n : Tp Try.prog 22 false 1 24 (.slice none 0 0) := Tp.of (by kernel_rfl)
theorem tp24_n : Tp Try.prog 24 true 2 32 (.agg #[.int .i64 0, .slice none 0 0]) := Tp.of (by kernel_rfl)
theorem bd8_n : Try.f8.body.isNone = false := rfl
theorem nm8_n : (Try.f8.name == "runtime.NumGoroutine") = false := by decide +kernel
theorem bd9_n : Try.f9.body.isNone = false := rfl
theorem nm9_n : (Try.f9.name == "runtime.NumGoroutine") = false := by decide +kernel
theorem bd10_n : Try.f10.body.isNone = false := rfl
theorem nm10_n : (Try.f10.name == "runtime.NumGoroutine") = false := by decide +kernel
theorem bd11_n : Try.f11.body.isNone = false := rfl
theorem nm11_n : (Try.f11.name == "runtime.NumGoroutine") = false := by decide +kernel
theorem bd12_n : Try.f12.body.isNone = false := rfl
theorem nm12_n : (Try.f12.name == "runtime.NumGoroutine") = false := by decide +kernel
theorem bd13_n : Try.f13.body.isNone = false := rfl
theorem nm13_n : (Try.f13.name == "runtime.NumGoroutine") = false := by decide +kernel

theorem NetParts_ok (w0 : World) (g : (Int) × (List ((Int) × (Int)))) (g_v : Value) (hg_v : Ro w0 g_v g.2) (nodes : List Int) (nodes_v : Value) (hnodes_v : Ro w0 nodes_v nodes) (more : List Int) (more_v : Value) (hmore_v : Ro w0 more_v more) (keep : List Int) (keep_v : Value) (hkeep_v : Ro w0 keep_v keep) (less : List Int) (less_v : Value) (hless_v : Ro w0 less_v less) :
    Calls Try.prog 3 #[Value.agg (List.toArray [Value.int .i64 g.1, g_v]), nodes_v, more_v, keep_v, less_v] w0 (fun ee w => ee = .returned (Value.bool true) ∧ RowKit.Below w0.heap.size w0 w) := by
  refine calls_of_run Try.func3 rfl (Nat.le_of_ble_eq_true rfl) ?_
  have hbase := Base.start w0
  have r_g_v := hg_v.sl
  have r_nodes_v := hnodes_v.sl
  have r_more_v := hmore_v.sl
  have r_keep_v := hkeep_v.sl
  have r_less_v := hless_v.sl
  refine run_seq ?_
  refine run_region rfl ?_
  refine l_op rfl ?_
  refine o_box c0 (is 1) (1, 0) rfl rfl ?_
  intro g4 w1 b3 ch2 bx5
  replace hbase := hbase.chg ch2 (not_no _)
  replace r_g_v := r_g_v.chg ch2 (not_no _)
  replace r_nodes_v := r_nodes_v.chg ch2 (not_no _)
  replace r_more_v := r_more_v.chg ch2 (not_no _)
  replace r_keep_v := r_keep_v.chg ch2 (not_no _)
  replace r_less_v := r_less_v.chg ch2 (not_no _)
  replace bx5 : Bx g4 (is 1) w1 b3 [Value.int .i64 g.1, g_v] := bx5
  refine l_val (v := Value.bool false) rfl (e_assign rfl) ?_
  refine l_nil ?_
  refine run_seq ?_
  refine run_seq ?_
  refine run_region rfl ?_
  refine l_op rfl ?_
  refine o_call (v := Value.bool true) (e_call (vals := []) Try.func8 bd8_n nm8_n rfl) (begun_ok w1 ) ?_
  intro w6 hb7
  replace hb7 := chg_below hb7 g4
  replace hbase := hbase.chg hb7 (not_no _)
  replace r_g_v := r_g_v.chg hb7 (not_no _)
  replace r_nodes_v := r_nodes_v.chg hb7 (not_no _)
  replace r_more_v := r_more_v.chg hb7 (not_no _)
  replace r_keep_v := r_keep_v.chg hb7 (not_no _)
  replace r_less_v := r_less_v.chg hb7 (not_no _)
  replace bx5 := bx5.chg hb7 (not_no _)
  refine l_val (v := Value.bool false) rfl (e_not (b := true) rfl) ?_
  refine l_nil ?_
  refine run_cond_f rfl rfl ?_
  refine run_skip ?_
  refine run_seq ?_
  refine run_seq ?_
  refine run_region rfl ?_
  refine l_val (v := Value.agg (List.toArray [Value.int .i64 g.1, g_v])) rfl (e_load_bxN (ds := [Value.int .i64 g.1, g_v]) tp24_n rfl bx5 rfl rfl) ?_
  refine l_op rfl ?_
  refine o_call (v := Value.bool (mayB g)) (e_call (vals := [Value.agg (List.toArray [Value.int .i64 g.1, g_v])]) Try.func9 bd9_n nm9_n rfl) (rMay_ok w6 g g_v (r_g_v).ro) ?_
  intro w8 hb9
  replace hb9 := chg_below hb9 g4
  replace hbase := hbase.chg hb9 (not_no _)
  replace r_g_v := r_g_v.chg hb9 (not_no _)
  replace r_nodes_v := r_nodes_v.chg hb9 (not_no _)
  replace r_more_v := r_more_v.chg hb9 (not_no _)
  replace r_keep_v := r_keep_v.chg hb9 (not_no _)
  replace r_less_v := r_less_v.chg hb9 (not_no _)
  replace bx5 := bx5.chg hb9 (not_no _)
  refine l_val (v := Value.bool (!(mayB g))) rfl (e_not (b := (mayB g)) rfl) ?_
  refine l_val (v := Value.bool (!(mayB g))) rfl (e_move rfl) ?_
  by_cases q36 : (mayB g) = true
  · skip
    refine l_val (v := Value.pointer (some ⟨b3, 0, none⟩)) (want_y rfl rfl rfl (congrArg Bool.not q36)) (e_fieldAddr Try.underlying24 rfl rfl rfl rfl) ?_
    refine l_val (v := Value.int .i64 g.1) (want_y rfl rfl rfl (congrArg Bool.not q36)) (e_load_bx1 tp3_n rfl bx5 rfl) ?_
    refine l_val (v := Value.bool (decide (200 < g.1))) (want_y rfl rfl rfl (congrArg Bool.not q36)) (e_gtr (m := g.1) (n := 200) rfl rfl) ?_
    refine l_val (v := Value.bool (decide (200 < g.1))) rfl (e_pick_f rfl (congrArg Bool.not q36) rfl) ?_
    refine l_val (v := Value.bool (decide (200 < g.1))) rfl (e_move rfl) ?_
    by_cases q41 : 200 < g.1
    · skip
      refine l_skip (want_n rfl rfl rfl (decide_eq_true q41)) ?_
      refine l_skip (want_n rfl rfl rfl (decide_eq_true q41)) ?_
      refine l_skip (want_n rfl rfl rfl (decide_eq_true q41)) ?_
      refine l_skip (want_n rfl rfl rfl (decide_eq_true q41)) ?_
      refine l_val (v := Value.bool true) rfl (e_pick_t rfl (decide_eq_true q41) rfl) ?_
      refine l_nil ?_
      refine run_cond_t rfl rfl ?_
      refine run_seq ?_
      clear bx5
      refine run_region rfl ?_
      refine l_val (v := Value.bool true) rfl (e_assign rfl) ?_
      refine l_nil ?_
      refine run_ret (vs := [Value.bool true]) Try.func3 (.tmp rfl .nil) ?_
      -- return 0
      have e0 : (true : Bool) = (true) := by
        first
          | rfl
          | exact decide_eq_true (subR_bad p25)
          | exact decide_eq_true (subR_bad p22)
          | (rw [hsc]; exact decide_eq_true rfl)
      exact ⟨(congrArg (fun (z0 : Bool) => Ending.returned (Value.bool z0)) e0), hbase.below⟩
    · skip
      refine l_val (v := Value.pointer (some ⟨b3, 1, none⟩)) (want_y rfl rfl rfl (decide_eq_false q41)) (e_fieldAddr Try.underlying24 rfl rfl rfl rfl) ?_
      refine l_val (v := g_v) (want_y rfl rfl rfl (decide_eq_false q41)) (e_load_bx1 tp22_n rfl bx5 rfl) ?_
      have len10 := (r_g_v).small
      refine l_val (v := Value.int .i64 (List.length g.2 : Int)) (want_y rfl rfl rfl (decide_eq_false q41)) (e_len Try.underlying22 rfl r_g_v) ?_
      refine l_val (v := Value.bool (decide (200 < (List.length g.2 : Int)))) (want_y rfl rfl rfl (decide_eq_false q41)) (e_gtr (m := (List.length g.2 : Int)) (n := 200) rfl rfl) ?_
      refine l_val (v := Value.bool (decide (200 < (List.length g.2 : Int)))) rfl (e_pick_f rfl (decide_eq_false q41) rfl) ?_
      refine l_nil ?_
      by_cases p4 : 200 < (List.length g.2 : Int)
      · skip
        refine run_cond_t rfl (decide_eq_true p4) ?_
        refine run_seq ?_
        clear bx5
        refine run_region rfl ?_
        refine l_val (v := Value.bool true) rfl (e_assign rfl) ?_
        refine l_nil ?_
        refine run_ret (vs := [Value.bool true]) Try.func3 (.tmp rfl .nil) ?_
        -- return 1
        have e0 : (true : Bool) = (true) := by
          first
            | rfl
            | exact decide_eq_true (subR_bad p25)
            | exact decide_eq_true (subR_bad p22)
            | (rw [hsc]; exact decide_eq_true rfl)
        exact ⟨(congrArg (fun (z0 : Bool) => Ending.returned (Value.bool z0)) e0), hbase.below⟩
      · skip
        refine run_cond_f rfl (decide_eq_false p4) ?_
        refine run_skip ?_
        refine run_seq ?_
        refine run_region rfl ?_
        refine l_val (v := Value.agg (List.toArray [Value.int .i64 g.1, g_v])) rfl (e_load_bxN (ds := [Value.int .i64 g.1, g_v]) tp24_n rfl bx5 rfl rfl) ?_
        refine l_val (v := nodes_v) rfl (e_move rfl) ?_
        refine l_op rfl ?_
        refine o_callx (e_call (vals := [Value.agg (List.toArray [Value.int .i64 g.1, g_v]), nodes_v]) Try.func10 bd10_n nm10_n rfl) (Part_ok w8 g g_v (r_g_v).ro nodes nodes_v (r_nodes_v).ro) ?_
        rintro ⟨d12, v14, v16⟩ w11 ⟨fr13, o15, o17⟩
        obtain ⟨g18, hg18⟩ : ∃ q, q = glue w8.heap.size g4 d12 (fun n => if n = 1 then 2 else if n = 2 then 3 else 0) := ⟨_, rfl⟩
        have ch19 := chg_glue fr13.below g4 d12 (fun n => if n = 1 then 2 else if n = 2 then 3 else 0)
        rw [← hg18] at ch19
        replace hbase := hbase.chg ch19 (not_no _)
        replace r_g_v := r_g_v.chg ch19 (not_no _)
        replace r_nodes_v := r_nodes_v.chg ch19 (not_no _)
        replace r_more_v := r_more_v.chg ch19 (not_no _)
        replace r_keep_v := r_keep_v.chg ch19 (not_no _)
        replace r_less_v := r_less_v.chg ch19 (not_no _)
        replace bx5 := bx5.chg ch19 (not_no _)
        replace o15 := o15.glue (γ := g4) (ren := (fun n => if n = 1 then 2 else if n = 2 then 3 else 0)) (k := 2) fr13.col rfl rfl
        rw [← hg18] at o15
        replace o17 := o17.glue (γ := g4) (ren := (fun n => if n = 1 then 2 else if n = 2 then 3 else 0)) (k := 3) fr13.col rfl rfl
        rw [← hg18] at o17
        clear hg18
        refine l_val (v := Value.tuple (List.toArray [Value.agg (List.toArray [Value.int .i64 (((partR g nodes).1).1), v14]), v16, Value.int .i64 ((partR g nodes).2.2)])) rfl (e_move rfl) ?_
        refine l_val (v := Value.agg (List.toArray [Value.int .i64 (((partR g nodes).1).1), v14])) rfl (e_extract rfl rfl) ?_
        refine l_val (v := v16) rfl (e_extract rfl rfl) ?_
        refine l_val (v := Value.int .i64 ((partR g nodes).2.2)) rfl (e_extract rfl rfl) ?_
        refine l_op rfl ?_
        refine o_alloc g18 (is 4) (4, 0) rfl tp24_n ?_
        intro g23 w20 b22 ch21 bx24
        replace hbase := hbase.chg ch21 (not_no _)
        replace r_g_v := r_g_v.chg ch21 (not_no _)
        replace r_nodes_v := r_nodes_v.chg ch21 (not_no _)
        replace r_more_v := r_more_v.chg ch21 (not_no _)
        replace r_keep_v := r_keep_v.chg ch21 (not_no _)
        replace r_less_v := r_less_v.chg ch21 (not_no _)
        replace bx5 := bx5.chg ch21 (not_no _)
        replace o15 := o15.chg ch21 (not_no _) (not_no _)
        replace o17 := o17.chg ch21 (not_no _) (not_no _)
        replace bx24 : Bx g23 (is 4) w20 b22 [Value.int .i64 0, Value.slice none 0 0] := bx24
        refine l_op rfl ?_
        refine o_store_bx (cs' := [Value.int .i64 (((partR g nodes).1).1), v14]) tp24_n rfl rfl bx24 rfl (Nat.le_of_ble_eq_true rfl) (AllOne.all (.cons rfl (.cons (sl_one o15.flat) .nil))) rfl ?_
        intro w25 ch26 bx27
        replace hbase := hbase.chg ch26 (is_ne rfl)
        replace r_g_v := r_g_v.chg ch26 (is_ne rfl)
        replace r_nodes_v := r_nodes_v.chg ch26 (is_ne rfl)
        replace r_more_v := r_more_v.chg ch26 (is_ne rfl)
        replace r_keep_v := r_keep_v.chg ch26 (is_ne rfl)
        replace r_less_v := r_less_v.chg ch26 (is_ne rfl)
        replace bx5 := bx5.chg ch26 (is_ne rfl)
        replace o15 := o15.chg ch26 (is_ne rfl) (is_ne rfl)
        replace o17 := o17.chg ch26 (is_ne rfl) (is_ne rfl)
        clear bx24
        refine l_val (v := v16) rfl (e_assign rfl) ?_
        refine l_val (v := Value.int .i64 ((partR g nodes).2.2)) rfl (e_assign rfl) ?_
        refine l_nil ?_
        refine run_seq ?_
        refine run_seq ?_
        refine run_region rfl ?_
        refine l_val (v := Value.int .i64 ((partR g nodes).2.2)) rfl (e_move rfl) ?_
        refine l_val (v := Value.bool (decide (((partR g nodes).2.2) = 0))) rfl (e_eql (m := (partR g nodes).2.2) (n := 0) rfl rfl) ?_
        refine l_nil ?_
        by_cases p6 : ((partR g nodes).2.2) = 0
        · skip
          refine run_cond_t rfl (decide_eq_true p6) ?_
          refine run_seq ?_
          refine run_region rfl ?_
          refine l_val (v := Value.agg (List.toArray [Value.int .i64 (((partR g nodes).1).1), v14])) rfl (e_load_bxN (ds := [Value.int .i64 (((partR g nodes).1).1), v14]) tp24_n rfl bx27 rfl rfl) ?_
          refine l_val (v := more_v) rfl (e_move rfl) ?_
          refine l_op rfl ?_
          refine o_callx (e_call (vals := [Value.agg (List.toArray [Value.int .i64 (((partR g nodes).1).1), v14]), more_v]) Try.func10 bd10_n nm10_n rfl) (Part_ok w25 ((partR g nodes).1) v14 (o15.flat).ro more more_v (r_more_v).ro) ?_
          rintro ⟨d29, v31, v33⟩ w28 ⟨fr30, o32, o34⟩
          obtain ⟨g35, hg35⟩ : ∃ q, q = glue w25.heap.size g23 d29 (fun n => if n = 1 then 5 else if n = 2 then 6 else 0) := ⟨_, rfl⟩
          have ch36 := chg_glue fr30.below g23 d29 (fun n => if n = 1 then 5 else if n = 2 then 6 else 0)
          rw [← hg35] at ch36
          replace hbase := hbase.chg ch36 (not_no _)
          replace r_g_v := r_g_v.chg ch36 (not_no _)
          replace r_nodes_v := r_nodes_v.chg ch36 (not_no _)
          replace r_more_v := r_more_v.chg ch36 (not_no _)
          replace r_keep_v := r_keep_v.chg ch36 (not_no _)
          replace r_less_v := r_less_v.chg ch36 (not_no _)
          replace bx5 := bx5.chg ch36 (not_no _)
          replace o15 := o15.chg ch36 (not_no _) (not_no _)
          replace o17 := o17.chg ch36 (not_no _) (not_no _)
          replace bx27 := bx27.chg ch36 (not_no _)
          replace o32 := o32.glue (γ := g23) (ren := (fun n => if n = 1 then 5 else if n = 2 then 6 else 0)) (k := 5) fr30.col rfl rfl
          rw [← hg35] at o32
          replace o34 := o34.glue (γ := g23) (ren := (fun n => if n = 1 then 5 else if n = 2 then 6 else 0)) (k := 6) fr30.col rfl rfl
          rw [← hg35] at o34
          clear hg35
          refine l_val (v := Value.tuple (List.toArray [Value.agg (List.toArray [Value.int .i64 (((partR ((partR g nodes).1) more).1).1), v31]), v33, Value.int .i64 ((partR ((partR g nodes).1) more).2.2)])) rfl (e_move rfl) ?_
          refine l_val (v := Value.agg (List.toArray [Value.int .i64 (((partR ((partR g nodes).1) more).1).1), v31])) rfl (e_extract rfl rfl) ?_
          refine l_val (v := v33) rfl (e_extract rfl rfl) ?_
          refine l_val (v := Value.int .i64 ((partR ((partR g nodes).1) more).2.2)) rfl (e_extract rfl rfl) ?_
          refine l_op rfl ?_
          refine o_alloc g35 (is 7) (7, 0) rfl tp24_n ?_
          intro g40 w37 b39 ch38 bx41
          replace hbase := hbase.chg ch38 (not_no _)
          replace r_g_v := r_g_v.chg ch38 (not_no _)
          replace r_nodes_v := r_nodes_v.chg ch38 (not_no _)
          replace r_more_v := r_more_v.chg ch38 (not_no _)
          replace r_keep_v := r_keep_v.chg ch38 (not_no _)
          replace r_less_v := r_less_v.chg ch38 (not_no _)
          replace bx5 := bx5.chg ch38 (not_no _)
          replace o15 := o15.chg ch38 (not_no _) (not_no _)
          replace o17 := o17.chg ch38 (not_no _) (not_no _)
          replace bx27 := bx27.chg ch38 (not_no _)
          replace o32 := o32.chg ch38 (not_no _) (not_no _)
          replace o34 := o34.chg ch38 (not_no _) (not_no _)
          replace bx41 : Bx g40 (is 7) w37 b39 [Value.int .i64 0, Value.slice none 0 0] := bx41
          refine l_op rfl ?_
          refine o_store_bx (cs' := [Value.int .i64 (((partR ((partR g nodes).1) more).1).1), v31]) tp24_n rfl rfl bx41 rfl (Nat.le_of_ble_eq_true rfl) (AllOne.all (.cons rfl (.cons (sl_one o32.flat) .nil))) rfl ?_
          intro w42 ch43 bx44
          replace hbase := hbase.chg ch43 (is_ne rfl)
          replace r_g_v := r_g_v.chg ch43 (is_ne rfl)
          replace r_nodes_v := r_nodes_v.chg ch43 (is_ne rfl)
          replace r_more_v := r_more_v.chg ch43 (is_ne rfl)
          replace r_keep_v := r_keep_v.chg ch43 (is_ne rfl)
          replace r_less_v := r_less_v.chg ch43 (is_ne rfl)
          replace bx5 := bx5.chg ch43 (is_ne rfl)
          replace o15 := o15.chg ch43 (is_ne rfl) (is_ne rfl)
          replace o17 := o17.chg ch43 (is_ne rfl) (is_ne rfl)
          replace bx27 := bx27.chg ch43 (is_ne rfl)
          replace o32 := o32.chg ch43 (is_ne rfl) (is_ne rfl)
          replace o34 := o34.chg ch43 (is_ne rfl) (is_ne rfl)
          clear bx41
          refine l_val (v := v33) rfl (e_assign rfl) ?_
          refine l_val (v := Value.int .i64 ((partR ((partR g nodes).1) more).2.2)) rfl (e_assign rfl) ?_
          refine l_nil ?_
          refine run_seq ?_
          clear o15
          clear bx27
          refine run_region rfl ?_
          refine l_val (v := Value.int .i64 ((partR ((partR g nodes).1) more).2.2)) rfl (e_move rfl) ?_
          refine l_val (v := Value.bool (decide (((partR ((partR g nodes).1) more).2.2) = 0))) rfl (e_eql (m := (partR ((partR g nodes).1) more).2.2) (n := 0) rfl rfl) ?_
          refine l_nil ?_
          by_cases p8 : ((partR ((partR g nodes).1) more).2.2) = 0
          · skip
            obtain ⟨hpp1, hpp2, hpp3⟩ := partpart p6 p8
            refine run_cond_t rfl (decide_eq_true p8) ?_
            refine run_seq ?_
            refine run_region rfl ?_
            refine l_val (v := Value.slice none 0 0) rfl (e_assign rfl) ?_
            refine l_val (v := Value.slice none 0 0) rfl (e_assign rfl) ?_
            refine l_nil ?_
            refine run_seq ?_
            refine run_seq ?_
            refine run_region rfl ?_
            refine l_val (v := Value.int .i64 0) rfl (e_assign rfl) ?_
            refine l_nil ?_
            refine run_block ?_
            refine run_loop (σ := Value × (List Int) × Nat × Cmap) (fun ⟨both_v, both, i, gq⟩ f w => Base w0 gq w ∧ f 1 = nodes_v ∧ f 2 = more_v ∧ f 3 = keep_v ∧ f 4 = less_v ∧ f 5 = Value.pointer (some ⟨b3, 0, none⟩) ∧ f 12 = v16 ∧ f 14 = Value.pointer (some ⟨b39, 0, none⟩) ∧ f 15 = v33 ∧ f 17 = both_v ∧ f 18 = Value.slice none 0 0 ∧ f 19 = Value.int .i64 (i : Int) ∧ Sl gq (is 0) w g_v g.2 ∧ Sl gq (is 0) w nodes_v nodes ∧ Sl gq (is 0) w more_v more ∧ Sl gq (is 0) w keep_v keep ∧ Sl gq (is 0) w less_v less ∧ Bx gq (is 1) w b3 [Value.int .i64 g.1, g_v] ∧ Ow gq (is 3) (is 3) w v16 ((partR g nodes).2.1) ∧ Ow gq (is 5) (is 5) w v31 (((partR ((partR g nodes).1) more).1).2) ∧ Ow gq (is 6) (is 6) w v33 ((partR ((partR g nodes).1) more).2.1) ∧ Bx gq (is 7) w b39 [Value.int .i64 (((partR ((partR g nodes).1) more).1).1), v31] ∧ Ow gq (is 9) (is 9) w both_v both ∧ (i : Int) ≤ ((List.length more : Int) : Int) ∧ (both = (List.take i more).map (gI (nodes)))) (fun ⟨both_v, both, i, gq⟩ => Int.toNat (((List.length more : Int) : Int) - (i : Int))) (Value.slice none 0 0, [], 0, g40) ?_ ?_
            · exact ⟨hbase, rfl, rfl, rfl, rfl, rfl, rfl, rfl, rfl, rfl, rfl, rfl, r_g_v, r_nodes_v, r_more_v, r_keep_v, r_less_v, bx5, o17, o32, o34, bx44, Ow.nil, by omega, by rfl⟩
            clear r_g_v
            clear r_nodes_v
            clear r_more_v
            clear r_keep_v
            clear r_less_v
            clear bx5
            clear o17
            clear o32
            clear o34
            clear bx44
            clear hbase
            rintro ⟨both_v, both, i, g47⟩ f45 w46 ⟨hbase, zs1, zs2, zs3, zs4, zs5, zs12, zs14, zs15, zs17, zs18, zs19, r_g_v, r_nodes_v, r_more_v, r_keep_v, r_less_v, bx5, o17, o32, o34, bx44, o_both, hle_i, hinv⟩ back11
            refine run_seq ?_
            refine run_seq ?_
            refine run_region rfl ?_
            refine l_val (v := Value.int .i64 (i : Int)) rfl (e_move (by exact zs19)) ?_
            refine l_val (v := more_v) rfl (e_move (by exact zs2)) ?_
            have len48 := (r_more_v).small
            refine l_val (v := Value.int .i64 (List.length more : Int)) rfl (e_len Try.underlying25 rfl r_more_v) ?_
            refine l_val (v := Value.bool (decide ((i : Int) < (List.length more : Int)))) rfl (e_lss (m := (i : Int)) (n := (List.length more : Int)) rfl rfl) ?_
            refine l_nil ?_
            by_cases p11 : (i : Int) < (List.length more : Int)
            · skip
              refine run_cond_t rfl (decide_eq_true p11) ?_
              have hgm := hpp2 _ (gI_mem (xs := more) (by omega : (0:Int) ≤ (i : Int)) p11)
              have hbl : both.length = i := by rw [hinv]; simp; omega
              refine run_skip ?_
              refine run_seq ?_
              refine run_block ?_
              refine run_region rfl ?_
              refine l_val (v := both_v) rfl (e_move (by exact zs17)) ?_
              refine l_val (v := nodes_v) rfl (e_move (by exact zs1)) ?_
              refine l_val (v := more_v) rfl (e_move (by exact zs2)) ?_
              refine l_val (v := Value.int .i64 (i : Int)) rfl (e_move (by exact zs19)) ?_
              refine l_val (v := Value.pointer (some (eAddr more_v 1 (Int.toNat (i : Int))))) rfl (e_indexAddr (α := Int) (xs := more) (v := more_v) (i := (i : Int)) Try.underlying25 rfl rfl r_more_v rfl (by omega) (by omega)) ?_
              refine l_val (v := Value.int .i64 (gI more (i : Int))) rfl (e_load_el1 (α := Int) (xs := more) (v := more_v) (i := (i : Int)) tp3_n rfl r_more_v (by omega) (by omega) (by decide) rfl) ?_
              refine l_val (v := Value.pointer (some (eAddr nodes_v 1 (Int.toNat (gI more (i : Int)))))) rfl (e_indexAddr (α := Int) (xs := nodes) (v := nodes_v) (i := (gI more (i : Int))) Try.underlying25 rfl rfl r_nodes_v rfl (by omega) (by omega)) ?_
              refine l_val (v := Value.int .i64 (gI nodes (gI more (i : Int)))) rfl (e_load_el1 (α := Int) (xs := nodes) (v := nodes_v) (i := (gI more (i : Int))) tp3_n rfl r_nodes_v (by omega) (by omega) (by decide) rfl) ?_
              refine l_op rfl ?_
              refine o_buildSlice (α := Int) g47 (is 8) (is 8) (8, 0) rfl [(gI nodes (gI more (i : Int)))] Try.underlying25 tp3_n (by decide) (by decide) (vs := [(0, Value.int .i64 (gI nodes (gI more (i : Int))))]) rfl rfl (.cons rfl .nil) ?_
              intro g49 w50 v51 ch52 o53
              replace hbase := hbase.chg ch52 (not_no _)
              replace r_g_v := r_g_v.chg ch52 (not_no _)
              replace r_nodes_v := r_nodes_v.chg ch52 (not_no _)
              replace r_more_v := r_more_v.chg ch52 (not_no _)
              replace r_keep_v := r_keep_v.chg ch52 (not_no _)
              replace r_less_v := r_less_v.chg ch52 (not_no _)
              replace bx5 := bx5.chg ch52 (not_no _)
              replace o17 := o17.chg ch52 (not_no _) (not_no _)
              replace o32 := o32.chg ch52 (not_no _) (not_no _)
              replace o34 := o34.chg ch52 (not_no _) (not_no _)
              replace bx44 := bx44.chg ch52 (not_no _)
              replace o_both := o_both.chg ch52 (not_no _) (not_no _)
              refine l_op rfl ?_
              refine o_append (α := Int) (xs := both) (ys := ([(gI nodes (gI more (i : Int)))])) g49 (J := is 9) (S := is 9) (9, 0) rfl Try.underlying25 tp3_n (by decide) rfl rfl rfl o_both o53.flat (by decide) (by first | omega | (simp; done) | (simp; omega)) ?_
              intro g54 w55 v56 ch57 o58
              replace hbase := hbase.chg ch57 (is_ne rfl)
              replace r_g_v := r_g_v.chg ch57 (is_ne rfl)
              replace r_nodes_v := r_nodes_v.chg ch57 (is_ne rfl)
              replace r_more_v := r_more_v.chg ch57 (is_ne rfl)
              replace r_keep_v := r_keep_v.chg ch57 (is_ne rfl)
              replace r_less_v := r_less_v.chg ch57 (is_ne rfl)
              replace bx5 := bx5.chg ch57 (is_ne rfl)
              replace o17 := o17.chg ch57 (is_ne rfl) (is_ne rfl)
              replace o32 := o32.chg ch57 (is_ne rfl) (is_ne rfl)
              replace o34 := o34.chg ch57 (is_ne rfl) (is_ne rfl)
              replace bx44 := bx44.chg ch57 (is_ne rfl)
              replace o53 := o53.chg ch57 (is_ne rfl) (is_ne rfl)
              clear o_both
              refine l_val (v := v56) rfl (e_assign rfl) ?_
              refine l_nil ?_
              refine run_inBlock ?_
              clear o53
              refine run_region rfl ?_
              refine l_val (v := Value.int .i64 (i : Int)) rfl (e_move (by exact zs19)) ?_
              refine l_val (v := Value.int .i64 ((i : Int) + 1)) rfl (e_add (m := (i : Int)) (n := 1) rfl rfl (by omega)) ?_
              refine l_val (v := Value.int .i64 ((i : Int) + 1)) rfl (e_assign rfl) ?_
              refine l_nil ?_
              refine back11 (v56, (both ++ [(gI nodes (gI more (i : Int)))]), i + 1, g54) _ _ ⟨hbase, (by exact zs1), (by exact zs2), (by exact zs3), (by exact zs4), (by exact zs5), (by exact zs12), (by exact zs14), (by exact zs15), rfl, (by exact zs18), rfl, r_g_v, r_nodes_v, r_more_v, r_keep_v, r_less_v, bx5, o17, o32, o34, bx44, o58, by omega, ?_⟩ ?_
              · show (both ++ [(gI nodes (gI more (i : Int)))]) = (List.take (i + 1) more).map (gI (nodes))
                rw [hinv, take_succ_gI (by assumption)]; simp
              · show Int.toNat (((List.length more : Int) : Int) - ((i + 1) : Int)) < Int.toNat (((List.length more : Int) : Int) - (i : Int))
                omega
            · skip
              have hboth : both = more.map (gI nodes) := by rw [hinv, show i = more.length by omega]; simp
              refine run_cond_f rfl (decide_eq_false p11) ?_
              refine run_exit rfl ?_
              refine run_seq ?_
              refine run_seq ?_
              refine run_region rfl ?_
              refine l_val (v := Value.int .i64 0) rfl (e_assign rfl) ?_
              refine l_nil ?_
              refine run_block ?_
              refine run_loop (σ := Value × (List Int) × Nat × Cmap) (fun ⟨edges_v, edges, i, gq⟩ f w => Base w0 gq w ∧ f 3 = keep_v ∧ f 4 = less_v ∧ f 5 = Value.pointer (some ⟨b3, 0, none⟩) ∧ f 12 = v16 ∧ f 14 = Value.pointer (some ⟨b39, 0, none⟩) ∧ f 15 = v33 ∧ f 17 = both_v ∧ f 18 = edges_v ∧ f 20 = Value.int .i64 (i : Int) ∧ Sl gq (is 0) w g_v g.2 ∧ Sl gq (is 0) w nodes_v nodes ∧ Sl gq (is 0) w more_v more ∧ Sl gq (is 0) w keep_v keep ∧ Sl gq (is 0) w less_v less ∧ Bx gq (is 1) w b3 [Value.int .i64 g.1, g_v] ∧ Ow gq (is 3) (is 3) w v16 ((partR g nodes).2.1) ∧ Ow gq (is 5) (is 5) w v31 (((partR ((partR g nodes).1) more).1).2) ∧ Ow gq (is 6) (is 6) w v33 ((partR ((partR g nodes).1) more).2.1) ∧ Bx gq (is 7) w b39 [Value.int .i64 (((partR ((partR g nodes).1) more).1).1), v31] ∧ Ow gq (is 9) (is 9) w both_v both ∧ Ow gq (is 11) (is 11) w edges_v edges ∧ (i : Int) ≤ ((List.length ((partR ((partR g nodes).1) more).2.1) : Int) : Int) ∧ (edges = (List.take i (partR (partR g nodes).1 more).2.1).map (gI ((partR g nodes).2.1)))) (fun ⟨edges_v, edges, i, gq⟩ => Int.toNat (((List.length ((partR ((partR g nodes).1) more).2.1) : Int) : Int) - (i : Int))) (Value.slice none 0 0, [], 0, g47) ?_ ?_
              · exact ⟨hbase, (by exact zs3), (by exact zs4), (by exact zs5), (by exact zs12), (by exact zs14), (by exact zs15), (by exact zs17), (by exact zs18), rfl, r_g_v, r_nodes_v, r_more_v, r_keep_v, r_less_v, bx5, o17, o32, o34, bx44, o_both, Ow.nil, by omega, by rfl⟩
              clear r_g_v
              clear r_nodes_v
              clear r_more_v
              clear r_keep_v
              clear r_less_v
              clear bx5
              clear o17
              clear o32
              clear o34
              clear bx44
              clear o_both
              clear hbase
              rintro ⟨edges_v, edges, i, g61⟩ f59 w60 ⟨hbase, zs3, zs4, zs5, zs12, zs14, zs15, zs17, zs18, zs20, r_g_v, r_nodes_v, r_more_v, r_keep_v, r_less_v, bx5, o17, o32, o34, bx44, o_both, o_edges, hle_i, hinv⟩ back15
              refine run_seq ?_
              refine run_seq ?_
              refine run_region rfl ?_
              refine l_val (v := Value.int .i64 (i : Int)) rfl (e_move (by exact zs20)) ?_
              refine l_val (v := v33) rfl (e_move (by exact zs15)) ?_
              have len62 := (o34.flat).small
              refine l_val (v := Value.int .i64 (List.length ((partR ((partR g nodes).1) more).2.1) : Int)) rfl (e_len Try.underlying25 rfl o34.flat) ?_
              refine l_val (v := Value.bool (decide ((i : Int) < (List.length ((partR ((partR g nodes).1) more).2.1) : Int)))) rfl (e_lss (m := (i : Int)) (n := (List.length ((partR ((partR g nodes).1) more).2.1) : Int)) rfl rfl) ?_
              refine l_nil ?_
              by_cases p15 : (i : Int) < (List.length ((partR ((partR g nodes).1) more).2.1) : Int)
              · skip
                refine run_cond_t rfl (decide_eq_true p15) ?_
                have hgm := hpp3 _ (gI_mem (xs := (partR (partR g nodes).1 more).2.1) (by omega : (0:Int) ≤ (i : Int)) p15)
                have hbl : edges.length = i := by rw [hinv]; simp; omega
                refine run_skip ?_
                refine run_seq ?_
                refine run_block ?_
                refine run_region rfl ?_
                refine l_val (v := edges_v) rfl (e_move (by exact zs18)) ?_
                refine l_val (v := v16) rfl (e_move (by exact zs12)) ?_
                refine l_val (v := v33) rfl (e_move (by exact zs15)) ?_
                refine l_val (v := Value.int .i64 (i : Int)) rfl (e_move (by exact zs20)) ?_
                refine l_val (v := Value.pointer (some (eAddr v33 1 (Int.toNat (i : Int))))) rfl (e_indexAddr (α := Int) (xs := (partR ((partR g nodes).1) more).2.1) (v := v33) (i := (i : Int)) Try.underlying25 rfl rfl o34.flat rfl (by omega) (by omega)) ?_
                refine l_val (v := Value.int .i64 (gI ((partR ((partR g nodes).1) more).2.1) (i : Int))) rfl (e_load_el1 (α := Int) (xs := (partR ((partR g nodes).1) more).2.1) (v := v33) (i := (i : Int)) tp3_n rfl o34.flat (by omega) (by omega) (by decide) rfl) ?_
                refine l_val (v := Value.pointer (some (eAddr v16 1 (Int.toNat (gI ((partR ((partR g nodes).1) more).2.1) (i : Int)))))) rfl (e_indexAddr (α := Int) (xs := (partR g nodes).2.1) (v := v16) (i := (gI ((partR ((partR g nodes).1) more).2.1) (i : Int))) Try.underlying25 rfl rfl o17.flat rfl (by omega) (by omega)) ?_
                refine l_val (v := Value.int .i64 (gI ((partR g nodes).2.1) (gI ((partR ((partR g nodes).1) more).2.1) (i : Int)))) rfl (e_load_el1 (α := Int) (xs := (partR g nodes).2.1) (v := v16) (i := (gI ((partR ((partR g nodes).1) more).2.1) (i : Int))) tp3_n rfl o17.flat (by omega) (by omega) (by decide) rfl) ?_
                refine l_op rfl ?_
                refine o_buildSlice (α := Int) g61 (is 10) (is 10) (10, 0) rfl [(gI ((partR g nodes).2.1) (gI ((partR ((partR g nodes).1) more).2.1) (i : Int)))] Try.underlying25 tp3_n (by decide) (by decide) (vs := [(0, Value.int .i64 (gI ((partR g nodes).2.1) (gI ((partR ((partR g nodes).1) more).2.1) (i : Int))))]) rfl rfl (.cons rfl .nil) ?_
                intro g63 w64 v65 ch66 o67
                replace hbase := hbase.chg ch66 (not_no _)
                replace r_g_v := r_g_v.chg ch66 (not_no _)
                replace r_nodes_v := r_nodes_v.chg ch66 (not_no _)
                replace r_more_v := r_more_v.chg ch66 (not_no _)
                replace r_keep_v := r_keep_v.chg ch66 (not_no _)
                replace r_less_v := r_less_v.chg ch66 (not_no _)
                replace bx5 := bx5.chg ch66 (not_no _)
                replace o17 := o17.chg ch66 (not_no _) (not_no _)
                replace o32 := o32.chg ch66 (not_no _) (not_no _)
                replace o34 := o34.chg ch66 (not_no _) (not_no _)
                replace bx44 := bx44.chg ch66 (not_no _)
                replace o_both := o_both.chg ch66 (not_no _) (not_no _)
                replace o_edges := o_edges.chg ch66 (not_no _) (not_no _)
                refine l_op rfl ?_
                refine o_append (α := Int) (xs := edges) (ys := ([(gI ((partR g nodes).2.1) (gI ((partR ((partR g nodes).1) more).2.1) (i : Int)))])) g63 (J := is 11) (S := is 11) (11, 0) rfl Try.underlying25 tp3_n (by decide) rfl rfl rfl o_edges o67.flat (by decide) (by first | omega | (simp; done) | (simp; omega)) ?_
                intro g68 w69 v70 ch71 o72
                replace hbase := hbase.chg ch71 (is_ne rfl)
                replace r_g_v := r_g_v.chg ch71 (is_ne rfl)
                replace r_nodes_v := r_nodes_v.chg ch71 (is_ne rfl)
                replace r_more_v := r_more_v.chg ch71 (is_ne rfl)
                replace r_keep_v := r_keep_v.chg ch71 (is_ne rfl)
                replace r_less_v := r_less_v.chg ch71 (is_ne rfl)
                replace bx5 := bx5.chg ch71 (is_ne rfl)
                replace o17 := o17.chg ch71 (is_ne rfl) (is_ne rfl)
                replace o32 := o32.chg ch71 (is_ne rfl) (is_ne rfl)
                replace o34 := o34.chg ch71 (is_ne rfl) (is_ne rfl)
                replace bx44 := bx44.chg ch71 (is_ne rfl)
                replace o_both := o_both.chg ch71 (is_ne rfl) (is_ne rfl)
                replace o67 := o67.chg ch71 (is_ne rfl) (is_ne rfl)
                clear o_edges
                refine l_val (v := v70) rfl (e_assign rfl) ?_
                refine l_nil ?_
                refine run_inBlock ?_
                clear o67
                refine run_region rfl ?_
                refine l_val (v := Value.int .i64 (i : Int)) rfl (e_move (by exact zs20)) ?_
                refine l_val (v := Value.int .i64 ((i : Int) + 1)) rfl (e_add (m := (i : Int)) (n := 1) rfl rfl (by omega)) ?_
                refine l_val (v := Value.int .i64 ((i : Int) + 1)) rfl (e_assign rfl) ?_
                refine l_nil ?_
                refine back15 (v70, (edges ++ [(gI ((partR g nodes).2.1) (gI ((partR ((partR g nodes).1) more).2.1) (i : Int)))]), i + 1, g68) _ _ ⟨hbase, (by exact zs3), (by exact zs4), (by exact zs5), (by exact zs12), (by exact zs14), (by exact zs15), (by exact zs17), rfl, rfl, r_g_v, r_nodes_v, r_more_v, r_keep_v, r_less_v, bx5, o17, o32, o34, bx44, o_both, o72, by omega, ?_⟩ ?_
                · show (edges ++ [(gI ((partR g nodes).2.1) (gI ((partR ((partR g nodes).1) more).2.1) (i : Int)))]) = (List.take (i + 1) (partR (partR g nodes).1 more).2.1).map (gI ((partR g nodes).2.1))
                  rw [hinv, take_succ_gI (by assumption)]; simp
                · show Int.toNat (((List.length ((partR ((partR g nodes).1) more).2.1) : Int) : Int) - ((i + 1) : Int)) < Int.toNat (((List.length ((partR ((partR g nodes).1) more).2.1) : Int) : Int) - (i : Int))
                  omega
              · skip
                have hedges : edges = List.map (gI ((partR g nodes).2.1)) ((partR (partR g nodes).1 more).2.1) := by rw [hinv, show i = ((partR (partR g nodes).1 more).2.1).length by omega]; simp
                have hpc := hpp1
                rw [← hboth] at hpc
                refine run_cond_f rfl (decide_eq_false p15) ?_
                refine run_exit rfl ?_
                refine run_seq ?_
                clear o17
                clear o34
                refine run_region rfl ?_
                refine l_val (v := Value.agg (List.toArray [Value.int .i64 g.1, g_v])) rfl (e_load_bxN (ds := [Value.int .i64 g.1, g_v]) tp24_n (by exact zs5) bx5 rfl rfl) ?_
                refine l_val (v := both_v) rfl (e_move (by exact zs17)) ?_
                refine l_op rfl ?_
                refine o_callx (e_call (vals := [Value.agg (List.toArray [Value.int .i64 g.1, g_v]), both_v]) Try.func10 bd10_n nm10_n rfl) (Part_ok w60 g g_v (r_g_v).ro both both_v (o_both.flat).ro) ?_
                rintro ⟨d74, v76, v78⟩ w73 ⟨fr75, o77, o79⟩
                obtain ⟨g80, hg80⟩ : ∃ q, q = glue w60.heap.size g61 d74 (fun n => if n = 1 then 12 else if n = 2 then 13 else 0) := ⟨_, rfl⟩
                have ch81 := chg_glue fr75.below g61 d74 (fun n => if n = 1 then 12 else if n = 2 then 13 else 0)
                rw [← hg80] at ch81
                replace hbase := hbase.chg ch81 (not_no _)
                replace r_g_v := r_g_v.chg ch81 (not_no _)
                replace r_nodes_v := r_nodes_v.chg ch81 (not_no _)
                replace r_more_v := r_more_v.chg ch81 (not_no _)
                replace r_keep_v := r_keep_v.chg ch81 (not_no _)
                replace r_less_v := r_less_v.chg ch81 (not_no _)
                replace bx5 := bx5.chg ch81 (not_no _)
                replace o32 := o32.chg ch81 (not_no _) (not_no _)
                replace bx44 := bx44.chg ch81 (not_no _)
                replace o_both := o_both.chg ch81 (not_no _) (not_no _)
                replace o_edges := o_edges.chg ch81 (not_no _) (not_no _)
                replace o77 := o77.glue (γ := g61) (ren := (fun n => if n = 1 then 12 else if n = 2 then 13 else 0)) (k := 12) fr75.col rfl rfl
                rw [← hg80] at o77
                replace o79 := o79.glue (γ := g61) (ren := (fun n => if n = 1 then 12 else if n = 2 then 13 else 0)) (k := 13) fr75.col rfl rfl
                rw [← hg80] at o79
                clear hg80
                refine l_val (v := Value.tuple (List.toArray [Value.agg (List.toArray [Value.int .i64 (((partR g both).1).1), v76]), v78, Value.int .i64 ((partR g both).2.2)])) rfl (e_move rfl) ?_
                refine l_val (v := Value.agg (List.toArray [Value.int .i64 (((partR g both).1).1), v76])) rfl (e_extract rfl rfl) ?_
                refine l_val (v := v78) rfl (e_extract rfl rfl) ?_
                refine l_val (v := Value.int .i64 ((partR g both).2.2)) rfl (e_extract rfl rfl) ?_
                refine l_op rfl ?_
                refine o_alloc g80 (is 14) (14, 0) rfl tp24_n ?_
                intro g85 w82 b84 ch83 bx86
                replace hbase := hbase.chg ch83 (not_no _)
                replace r_g_v := r_g_v.chg ch83 (not_no _)
                replace r_nodes_v := r_nodes_v.chg ch83 (not_no _)
                replace r_more_v := r_more_v.chg ch83 (not_no _)
                replace r_keep_v := r_keep_v.chg ch83 (not_no _)
                replace r_less_v := r_less_v.chg ch83 (not_no _)
                replace bx5 := bx5.chg ch83 (not_no _)
                replace o32 := o32.chg ch83 (not_no _) (not_no _)
                replace bx44 := bx44.chg ch83 (not_no _)
                replace o_both := o_both.chg ch83 (not_no _) (not_no _)
                replace o_edges := o_edges.chg ch83 (not_no _) (not_no _)
                replace o77 := o77.chg ch83 (not_no _) (not_no _)
                replace o79 := o79.chg ch83 (not_no _) (not_no _)
                replace bx86 : Bx g85 (is 14) w82 b84 [Value.int .i64 0, Value.slice none 0 0] := bx86
                refine l_op rfl ?_
                refine o_store_bx (cs' := [Value.int .i64 (((partR g both).1).1), v76]) tp24_n rfl rfl bx86 rfl (Nat.le_of_ble_eq_true rfl) (AllOne.all (.cons rfl (.cons (sl_one o77.flat) .nil))) rfl ?_
                intro w87 ch88 bx89
                replace hbase := hbase.chg ch88 (is_ne rfl)
                replace r_g_v := r_g_v.chg ch88 (is_ne rfl)
                replace r_nodes_v := r_nodes_v.chg ch88 (is_ne rfl)
                replace r_more_v := r_more_v.chg ch88 (is_ne rfl)
                replace r_keep_v := r_keep_v.chg ch88 (is_ne rfl)
                replace r_less_v := r_less_v.chg ch88 (is_ne rfl)
                replace bx5 := bx5.chg ch88 (is_ne rfl)
                replace o32 := o32.chg ch88 (is_ne rfl) (is_ne rfl)
                replace bx44 := bx44.chg ch88 (is_ne rfl)
                replace o_both := o_both.chg ch88 (is_ne rfl) (is_ne rfl)
                replace o_edges := o_edges.chg ch88 (is_ne rfl) (is_ne rfl)
                replace o77 := o77.chg ch88 (is_ne rfl) (is_ne rfl)
                replace o79 := o79.chg ch88 (is_ne rfl) (is_ne rfl)
                clear bx86
                refine l_val (v := v78) rfl (e_assign rfl) ?_
                refine l_val (v := Value.int .i64 ((partR g both).2.2)) rfl (e_assign rfl) ?_
                refine l_nil ?_
                refine run_seq ?_
                clear o_both
                refine run_region rfl ?_
                refine l_val (v := Value.int .i64 ((partR g both).2.2)) rfl (e_move rfl) ?_
                refine l_val (v := Value.bool (!(decide (((partR g both).2.2) = 0)))) rfl (e_neq (m := (partR g both).2.2) (n := 0) rfl rfl) ?_
                refine l_val (v := Value.bool (!(decide (((partR g both).2.2) = 0)))) rfl (e_move rfl) ?_
                have q106 : ((partR g both).2.2) = 0 := by first
  | rfl
  | (rw [hpc]; done)
  | (simp [hpc]; done)
  | (simp [hpc, hedges]; done)
  | (rw [hsc]; done)
                refine l_val (v := Value.agg (List.toArray [Value.int .i64 (((partR ((partR g nodes).1) more).1).1), v31])) (want_y rfl rfl rfl (congrArg Bool.not (decide_eq_true q106))) (e_load_bxN (ds := [Value.int .i64 (((partR ((partR g nodes).1) more).1).1), v31]) tp24_n (by exact zs14) bx44 rfl rfl) ?_
                refine l_val (v := Value.agg (List.toArray [Value.int .i64 (((partR g both).1).1), v76])) (want_y rfl rfl rfl (congrArg Bool.not (decide_eq_true q106))) (e_load_bxN (ds := [Value.int .i64 (((partR g both).1).1), v76]) tp24_n rfl bx89 rfl rfl) ?_
                refine l_op (want_y rfl rfl rfl (congrArg Bool.not (decide_eq_true q106))) ?_
                refine o_call (v := Value.bool (decide (((partR ((partR g nodes).1) more).1) = ((partR g both).1)))) (e_call (vals := [Value.agg (List.toArray [Value.int .i64 (((partR ((partR g nodes).1) more).1).1), v31]), Value.agg (List.toArray [Value.int .i64 (((partR g both).1).1), v76])]) Try.func11 bd11_n nm11_n rfl) (Same_ok w87 ((partR ((partR g nodes).1) more).1) v31 (o32.flat).ro ((partR g both).1) v76 (o77.flat).ro) ?_
                intro w90 hb91
                replace hb91 := chg_below hb91 g85
                replace hbase := hbase.chg hb91 (not_no _)
                replace r_g_v := r_g_v.chg hb91 (not_no _)
                replace r_nodes_v := r_nodes_v.chg hb91 (not_no _)
                replace r_more_v := r_more_v.chg hb91 (not_no _)
                replace r_keep_v := r_keep_v.chg hb91 (not_no _)
                replace r_less_v := r_less_v.chg hb91 (not_no _)
                replace bx5 := bx5.chg hb91 (not_no _)
                replace o32 := o32.chg hb91 (not_no _) (not_no _)
                replace bx44 := bx44.chg hb91 (not_no _)
                replace o_edges := o_edges.chg hb91 (not_no _) (not_no _)
                replace o77 := o77.chg hb91 (not_no _) (not_no _)
                replace o79 := o79.chg hb91 (not_no _) (not_no _)
                replace bx89 := bx89.chg hb91 (not_no _)
                refine l_val (v := Value.bool (!(decide (((partR ((partR g nodes).1) more).1) = ((partR g both).1))))) (want_y rfl rfl rfl (congrArg Bool.not (decide_eq_true q106))) (e_not (b := (decide (((partR ((partR g nodes).1) more).1) = ((partR g both).1)))) rfl) ?_
                refine l_val (v := Value.bool (!(decide (((partR ((partR g nodes).1) more).1) = ((partR g both).1))))) rfl (e_pick_f rfl (congrArg Bool.not (decide_eq_true q106)) rfl) ?_
                refine l_val (v := Value.bool (!(decide (((partR ((partR g nodes).1) more).1) = ((partR g both).1))))) rfl (e_move rfl) ?_
                have q112 : (decide (((partR ((partR g nodes).1) more).1) = ((partR g both).1))) = true := by first
  | rfl
  | (rw [hpc]; done)
  | (simp [hpc]; done)
  | (simp [hpc, hedges]; done)
  | (rw [hsc]; done)
                refine l_val (v := v78) (want_y rfl rfl rfl (congrArg Bool.not q112)) (e_move rfl) ?_
                refine l_val (v := edges_v) (want_y rfl rfl rfl (congrArg Bool.not q112)) (e_move (by exact zs18)) ?_
                refine l_op (want_y rfl rfl rfl (congrArg Bool.not q112)) ?_
                refine o_call (v := Value.bool (decide (((partR g both).2.1) = edges))) (e_call (vals := [v78, edges_v]) Try.func12 bd12_n nm12_n rfl) (rInts_ok w90 ((partR g both).2.1) v78 (o79.flat).ro edges edges_v (o_edges.flat).ro) ?_
                intro w92 hb93
                replace hb93 := chg_below hb93 g85
                replace hbase := hbase.chg hb93 (not_no _)
                replace r_g_v := r_g_v.chg hb93 (not_no _)
                replace r_nodes_v := r_nodes_v.chg hb93 (not_no _)
                replace r_more_v := r_more_v.chg hb93 (not_no _)
                replace r_keep_v := r_keep_v.chg hb93 (not_no _)
                replace r_less_v := r_less_v.chg hb93 (not_no _)
                replace bx5 := bx5.chg hb93 (not_no _)
                replace o32 := o32.chg hb93 (not_no _) (not_no _)
                replace bx44 := bx44.chg hb93 (not_no _)
                replace o_edges := o_edges.chg hb93 (not_no _) (not_no _)
                replace o77 := o77.chg hb93 (not_no _) (not_no _)
                replace o79 := o79.chg hb93 (not_no _) (not_no _)
                replace bx89 := bx89.chg hb93 (not_no _)
                refine l_val (v := Value.bool (!(decide (((partR g both).2.1) = edges)))) (want_y rfl rfl rfl (congrArg Bool.not q112)) (e_not (b := (decide (((partR g both).2.1) = edges))) rfl) ?_
                refine l_val (v := Value.bool (!(decide (((partR g both).2.1) = edges)))) rfl (e_pick_f rfl (congrArg Bool.not q112) rfl) ?_
                refine l_nil ?_
                have p19 : (decide (((partR g both).2.1) = edges)) = true := by first
  | rfl
  | (rw [hpc]; done)
  | (simp [hpc]; done)
  | (simp [hpc, hedges]; done)
  | (rw [hsc]; done)
                refine run_cond_f rfl (congrArg Bool.not p19) ?_
                refine run_skip ?_
                refine run_seq ?_
                clear o32
                clear bx44
                clear o_edges
                clear o77
                clear o79
                clear bx89
                refine run_region rfl ?_
                refine l_val (v := Value.agg (List.toArray [Value.int .i64 g.1, g_v])) rfl (e_load_bxN (ds := [Value.int .i64 g.1, g_v]) tp24_n (by exact zs5) bx5 rfl rfl) ?_
                refine l_val (v := keep_v) rfl (e_move (by exact zs3)) ?_
                refine l_op rfl ?_
                refine o_callx (e_call (vals := [Value.agg (List.toArray [Value.int .i64 g.1, g_v]), keep_v]) Try.func13 bd13_n nm13_n rfl) (Sub_ok w92 g g_v (r_g_v).ro keep keep_v (r_keep_v).ro) ?_
                rintro ⟨d95, v97⟩ w94 ⟨fr96, o98⟩
                obtain ⟨g99, hg99⟩ : ∃ q, q = glue w92.heap.size g85 d95 (fun n => if n = 1 then 15 else 0) := ⟨_, rfl⟩
                have ch100 := chg_glue fr96.below g85 d95 (fun n => if n = 1 then 15 else 0)
                rw [← hg99] at ch100
                replace hbase := hbase.chg ch100 (not_no _)
                replace r_g_v := r_g_v.chg ch100 (not_no _)
                replace r_nodes_v := r_nodes_v.chg ch100 (not_no _)
                replace r_more_v := r_more_v.chg ch100 (not_no _)
                replace r_keep_v := r_keep_v.chg ch100 (not_no _)
                replace r_less_v := r_less_v.chg ch100 (not_no _)
                replace bx5 := bx5.chg ch100 (not_no _)
                replace o98 := o98.glue (γ := g85) (ren := (fun n => if n = 1 then 15 else 0)) (k := 15) fr96.col rfl rfl
                rw [← hg99] at o98
                clear hg99
                refine l_val (v := Value.tuple (List.toArray [Value.agg (List.toArray [Value.int .i64 (((subR g keep).1).1), v97]), Value.int .i64 ((subR g keep).2)])) rfl (e_move rfl) ?_
                refine l_val (v := Value.agg (List.toArray [Value.int .i64 (((subR g keep).1).1), v97])) rfl (e_extract rfl rfl) ?_
                refine l_val (v := Value.int .i64 ((subR g keep).2)) rfl (e_extract rfl rfl) ?_
                refine l_op rfl ?_
                refine o_alloc g99 (is 16) (16, 0) rfl tp24_n ?_
                intro g104 w101 b103 ch102 bx105
                replace hbase := hbase.chg ch102 (not_no _)
                replace r_g_v := r_g_v.chg ch102 (not_no _)
                replace r_nodes_v := r_nodes_v.chg ch102 (not_no _)
                replace r_more_v := r_more_v.chg ch102 (not_no _)
                replace r_keep_v := r_keep_v.chg ch102 (not_no _)
                replace r_less_v := r_less_v.chg ch102 (not_no _)
                replace bx5 := bx5.chg ch102 (not_no _)
                replace o98 := o98.chg ch102 (not_no _) (not_no _)
                replace bx105 : Bx g104 (is 16) w101 b103 [Value.int .i64 0, Value.slice none 0 0] := bx105
                refine l_op rfl ?_
                refine o_store_bx (cs' := [Value.int .i64 (((subR g keep).1).1), v97]) tp24_n rfl rfl bx105 rfl (Nat.le_of_ble_eq_true rfl) (AllOne.all (.cons rfl (.cons (sl_one o98.flat) .nil))) rfl ?_
                intro w106 ch107 bx108
                replace hbase := hbase.chg ch107 (is_ne rfl)
                replace r_g_v := r_g_v.chg ch107 (is_ne rfl)
                replace r_nodes_v := r_nodes_v.chg ch107 (is_ne rfl)
                replace r_more_v := r_more_v.chg ch107 (is_ne rfl)
                replace r_keep_v := r_keep_v.chg ch107 (is_ne rfl)
                replace r_less_v := r_less_v.chg ch107 (is_ne rfl)
                replace bx5 := bx5.chg ch107 (is_ne rfl)
                replace o98 := o98.chg ch107 (is_ne rfl) (is_ne rfl)
                clear bx105
                refine l_val (v := Value.int .i64 ((subR g keep).2)) rfl (e_assign rfl) ?_
                refine l_nil ?_
                refine run_seq ?_
                refine run_seq ?_
                refine run_region rfl ?_
                refine l_val (v := Value.int .i64 ((subR g keep).2)) rfl (e_move rfl) ?_
                refine l_val (v := Value.bool (!(decide (((subR g keep).2) = 0)))) rfl (e_neq (m := (subR g keep).2) (n := 0) rfl rfl) ?_
                refine l_nil ?_
                by_cases p22 : ((subR g keep).2) = 0
                · skip
                  refine run_cond_f rfl (congrArg Bool.not (decide_eq_true p22)) ?_
                  refine run_skip ?_
                  refine run_seq ?_
                  refine run_region rfl ?_
                  refine l_val (v := Value.agg (List.toArray [Value.int .i64 (((subR g keep).1).1), v97])) rfl (e_load_bxN (ds := [Value.int .i64 (((subR g keep).1).1), v97]) tp24_n rfl bx108 rfl rfl) ?_
                  refine l_val (v := less_v) rfl (e_move (by exact zs4)) ?_
                  refine l_op rfl ?_
                  refine o_callx (e_call (vals := [Value.agg (List.toArray [Value.int .i64 (((subR g keep).1).1), v97]), less_v]) Try.func13 bd13_n nm13_n rfl) (Sub_ok w106 ((subR g keep).1) v97 (o98.flat).ro less less_v (r_less_v).ro) ?_
                  rintro ⟨d110, v112⟩ w109 ⟨fr111, o113⟩
                  obtain ⟨g114, hg114⟩ : ∃ q, q = glue w106.heap.size g104 d110 (fun n => if n = 1 then 17 else 0) := ⟨_, rfl⟩
                  have ch115 := chg_glue fr111.below g104 d110 (fun n => if n = 1 then 17 else 0)
                  rw [← hg114] at ch115
                  replace hbase := hbase.chg ch115 (not_no _)
                  replace r_g_v := r_g_v.chg ch115 (not_no _)
                  replace r_nodes_v := r_nodes_v.chg ch115 (not_no _)
                  replace r_more_v := r_more_v.chg ch115 (not_no _)
                  replace r_keep_v := r_keep_v.chg ch115 (not_no _)
                  replace r_less_v := r_less_v.chg ch115 (not_no _)
                  replace bx5 := bx5.chg ch115 (not_no _)
                  replace o98 := o98.chg ch115 (not_no _) (not_no _)
                  replace bx108 := bx108.chg ch115 (not_no _)
                  replace o113 := o113.glue (γ := g104) (ren := (fun n => if n = 1 then 17 else 0)) (k := 17) fr111.col rfl rfl
                  rw [← hg114] at o113
                  clear hg114
                  refine l_val (v := Value.tuple (List.toArray [Value.agg (List.toArray [Value.int .i64 (((subR ((subR g keep).1) less).1).1), v112]), Value.int .i64 ((subR ((subR g keep).1) less).2)])) rfl (e_move rfl) ?_
                  refine l_val (v := Value.agg (List.toArray [Value.int .i64 (((subR ((subR g keep).1) less).1).1), v112])) rfl (e_extract rfl rfl) ?_
                  refine l_val (v := Value.int .i64 ((subR ((subR g keep).1) less).2)) rfl (e_extract rfl rfl) ?_
                  refine l_op rfl ?_
                  refine o_alloc g114 (is 18) (18, 0) rfl tp24_n ?_
                  intro g119 w116 b118 ch117 bx120
                  replace hbase := hbase.chg ch117 (not_no _)
                  replace r_g_v := r_g_v.chg ch117 (not_no _)
                  replace r_nodes_v := r_nodes_v.chg ch117 (not_no _)
                  replace r_more_v := r_more_v.chg ch117 (not_no _)
                  replace r_keep_v := r_keep_v.chg ch117 (not_no _)
                  replace r_less_v := r_less_v.chg ch117 (not_no _)
                  replace bx5 := bx5.chg ch117 (not_no _)
                  replace o98 := o98.chg ch117 (not_no _) (not_no _)
                  replace bx108 := bx108.chg ch117 (not_no _)
                  replace o113 := o113.chg ch117 (not_no _) (not_no _)
                  replace bx120 : Bx g119 (is 18) w116 b118 [Value.int .i64 0, Value.slice none 0 0] := bx120
                  refine l_op rfl ?_
                  refine o_store_bx (cs' := [Value.int .i64 (((subR ((subR g keep).1) less).1).1), v112]) tp24_n rfl rfl bx120 rfl (Nat.le_of_ble_eq_true rfl) (AllOne.all (.cons rfl (.cons (sl_one o113.flat) .nil))) rfl ?_
                  intro w121 ch122 bx123
                  replace hbase := hbase.chg ch122 (is_ne rfl)
                  replace r_g_v := r_g_v.chg ch122 (is_ne rfl)
                  replace r_nodes_v := r_nodes_v.chg ch122 (is_ne rfl)
                  replace r_more_v := r_more_v.chg ch122 (is_ne rfl)
                  replace r_keep_v := r_keep_v.chg ch122 (is_ne rfl)
                  replace r_less_v := r_less_v.chg ch122 (is_ne rfl)
                  replace bx5 := bx5.chg ch122 (is_ne rfl)
                  replace o98 := o98.chg ch122 (is_ne rfl) (is_ne rfl)
                  replace bx108 := bx108.chg ch122 (is_ne rfl)
                  replace o113 := o113.chg ch122 (is_ne rfl) (is_ne rfl)
                  clear bx120
                  refine l_val (v := Value.int .i64 ((subR ((subR g keep).1) less).2)) rfl (e_assign rfl) ?_
                  refine l_nil ?_
                  refine run_seq ?_
                  refine run_seq ?_
                  clear o98
                  clear bx108
                  refine run_region rfl ?_
                  refine l_val (v := Value.int .i64 ((subR ((subR g keep).1) less).2)) rfl (e_move rfl) ?_
                  refine l_val (v := Value.bool (!(decide (((subR ((subR g keep).1) less).2) = 0)))) rfl (e_neq (m := (subR ((subR g keep).1) less).2) (n := 0) rfl rfl) ?_
                  refine l_nil ?_
                  by_cases p25 : ((subR ((subR g keep).1) less).2) = 0
                  · skip
                    have hss := subsub p22 p25
                    have hsb := sub_bounds p22 p25
                    refine run_cond_f rfl (congrArg Bool.not (decide_eq_true p25)) ?_
                    refine run_skip ?_
                    refine run_seq ?_
                    refine run_region rfl ?_
                    refine l_val (v := Value.slice none 0 0) rfl (e_assign rfl) ?_
                    refine l_nil ?_
                    refine run_seq ?_
                    refine run_seq ?_
                    refine run_region rfl ?_
                    refine l_val (v := Value.int .i64 0) rfl (e_assign rfl) ?_
                    refine l_nil ?_
                    refine run_block ?_
                    refine run_loop (σ := Value × (List Int) × Nat × Cmap) (fun ⟨both_v, both, i, gq⟩ f w => Base w0 gq w ∧ f 3 = keep_v ∧ f 4 = less_v ∧ f 5 = Value.pointer (some ⟨b3, 0, none⟩) ∧ f 25 = Value.pointer (some ⟨b118, 0, none⟩) ∧ f 27 = both_v ∧ f 28 = Value.int .i64 (i : Int) ∧ Sl gq (is 0) w g_v g.2 ∧ Sl gq (is 0) w nodes_v nodes ∧ Sl gq (is 0) w more_v more ∧ Sl gq (is 0) w keep_v keep ∧ Sl gq (is 0) w less_v less ∧ Bx gq (is 1) w b3 [Value.int .i64 g.1, g_v] ∧ Ow gq (is 17) (is 17) w v112 (((subR ((subR g keep).1) less).1).2) ∧ Bx gq (is 18) w b118 [Value.int .i64 (((subR ((subR g keep).1) less).1).1), v112] ∧ Ow gq (is 20) (is 20) w both_v both ∧ (i : Int) ≤ ((List.length less : Int) : Int) ∧ (both = (List.take i less).map (gI (keep)))) (fun ⟨both_v, both, i, gq⟩ => Int.toNat (((List.length less : Int) : Int) - (i : Int))) (Value.slice none 0 0, [], 0, g119) ?_ ?_
                    · exact ⟨hbase, (by exact zs3), (by exact zs4), (by exact zs5), rfl, rfl, rfl, r_g_v, r_nodes_v, r_more_v, r_keep_v, r_less_v, bx5, o113, bx123, Ow.nil, by omega, by rfl⟩
                    clear r_g_v
                    clear r_nodes_v
                    clear r_more_v
                    clear r_keep_v
                    clear r_less_v
                    clear bx5
                    clear o113
                    clear bx123
                    clear hbase
                    rintro ⟨both_v, both, i, g126⟩ f124 w125 ⟨hbase, zs3, zs4, zs5, zs25, zs27, zs28, r_g_v, r_nodes_v, r_more_v, r_keep_v, r_less_v, bx5, o113, bx123, o_both, hle_i, hinv⟩ back29
                    refine run_seq ?_
                    refine run_seq ?_
                    refine run_region rfl ?_
                    refine l_val (v := Value.int .i64 (i : Int)) rfl (e_move (by exact zs28)) ?_
                    refine l_val (v := less_v) rfl (e_move (by exact zs4)) ?_
                    have len127 := (r_less_v).small
                    refine l_val (v := Value.int .i64 (List.length less : Int)) rfl (e_len Try.underlying25 rfl r_less_v) ?_
                    refine l_val (v := Value.bool (decide ((i : Int) < (List.length less : Int)))) rfl (e_lss (m := (i : Int)) (n := (List.length less : Int)) rfl rfl) ?_
                    refine l_nil ?_
                    by_cases p29 : (i : Int) < (List.length less : Int)
                    · skip
                      refine run_cond_t rfl (decide_eq_true p29) ?_
                      have hgm := hsb _ (gI_mem (xs := less) (by omega : (0:Int) ≤ (i : Int)) p29)
                      have hbl : both.length = i := by rw [hinv]; simp; omega
                      refine run_skip ?_
                      refine run_seq ?_
                      refine run_block ?_
                      refine run_region rfl ?_
                      refine l_val (v := both_v) rfl (e_move (by exact zs27)) ?_
                      refine l_val (v := keep_v) rfl (e_move (by exact zs3)) ?_
                      refine l_val (v := less_v) rfl (e_move (by exact zs4)) ?_
                      refine l_val (v := Value.int .i64 (i : Int)) rfl (e_move (by exact zs28)) ?_
                      refine l_val (v := Value.pointer (some (eAddr less_v 1 (Int.toNat (i : Int))))) rfl (e_indexAddr (α := Int) (xs := less) (v := less_v) (i := (i : Int)) Try.underlying25 rfl rfl r_less_v rfl (by omega) (by omega)) ?_
                      refine l_val (v := Value.int .i64 (gI less (i : Int))) rfl (e_load_el1 (α := Int) (xs := less) (v := less_v) (i := (i : Int)) tp3_n rfl r_less_v (by omega) (by omega) (by decide) rfl) ?_
                      refine l_val (v := Value.pointer (some (eAddr keep_v 1 (Int.toNat (gI less (i : Int)))))) rfl (e_indexAddr (α := Int) (xs := keep) (v := keep_v) (i := (gI less (i : Int))) Try.underlying25 rfl rfl r_keep_v rfl (by omega) (by omega)) ?_
                      refine l_val (v := Value.int .i64 (gI keep (gI less (i : Int)))) rfl (e_load_el1 (α := Int) (xs := keep) (v := keep_v) (i := (gI less (i : Int))) tp3_n rfl r_keep_v (by omega) (by omega) (by decide) rfl) ?_
                      refine l_op rfl ?_
                      refine o_buildSlice (α := Int) g126 (is 19) (is 19) (19, 0) rfl [(gI keep (gI less (i : Int)))] Try.underlying25 tp3_n (by decide) (by decide) (vs := [(0, Value.int .i64 (gI keep (gI less (i : Int))))]) rfl rfl (.cons rfl .nil) ?_
                      intro g128 w129 v130 ch131 o132
                      replace hbase := hbase.chg ch131 (not_no _)
                      replace r_g_v := r_g_v.chg ch131 (not_no _)
                      replace r_nodes_v := r_nodes_v.chg ch131 (not_no _)
                      replace r_more_v := r_more_v.chg ch131 (not_no _)
                      replace r_keep_v := r_keep_v.chg ch131 (not_no _)
                      replace r_less_v := r_less_v.chg ch131 (not_no _)
                      replace bx5 := bx5.chg ch131 (not_no _)
                      replace o113 := o113.chg ch131 (not_no _) (not_no _)
                      replace bx123 := bx123.chg ch131 (not_no _)
                      replace o_both := o_both.chg ch131 (not_no _) (not_no _)
                      refine l_op rfl ?_
                      refine o_append (α := Int) (xs := both) (ys := ([(gI keep (gI less (i : Int)))])) g128 (J := is 20) (S := is 20) (20, 0) rfl Try.underlying25 tp3_n (by decide) rfl rfl rfl o_both o132.flat (by decide) (by first | omega | (simp; done) | (simp; omega)) ?_
                      intro g133 w134 v135 ch136 o137
                      replace hbase := hbase.chg ch136 (is_ne rfl)
                      replace r_g_v := r_g_v.chg ch136 (is_ne rfl)
                      replace r_nodes_v := r_nodes_v.chg ch136 (is_ne rfl)
                      replace r_more_v := r_more_v.chg ch136 (is_ne rfl)
                      replace r_keep_v := r_keep_v.chg ch136 (is_ne rfl)
                      replace r_less_v := r_less_v.chg ch136 (is_ne rfl)
                      replace bx5 := bx5.chg ch136 (is_ne rfl)
                      replace o113 := o113.chg ch136 (is_ne rfl) (is_ne rfl)
                      replace bx123 := bx123.chg ch136 (is_ne rfl)
                      replace o132 := o132.chg ch136 (is_ne rfl) (is_ne rfl)
                      clear o_both
                      refine l_val (v := v135) rfl (e_assign rfl) ?_
                      refine l_nil ?_
                      refine run_inBlock ?_
                      clear o132
                      refine run_region rfl ?_
                      refine l_val (v := Value.int .i64 (i : Int)) rfl (e_move (by exact zs28)) ?_
                      refine l_val (v := Value.int .i64 ((i : Int) + 1)) rfl (e_add (m := (i : Int)) (n := 1) rfl rfl (by omega)) ?_
                      refine l_val (v := Value.int .i64 ((i : Int) + 1)) rfl (e_assign rfl) ?_
                      refine l_nil ?_
                      refine back29 (v135, (both ++ [(gI keep (gI less (i : Int)))]), i + 1, g133) _ _ ⟨hbase, (by exact zs3), (by exact zs4), (by exact zs5), (by exact zs25), rfl, rfl, r_g_v, r_nodes_v, r_more_v, r_keep_v, r_less_v, bx5, o113, bx123, o137, by omega, ?_⟩ ?_
                      · show (both ++ [(gI keep (gI less (i : Int)))]) = (List.take (i + 1) less).map (gI (keep))
                        rw [hinv, take_succ_gI (by assumption)]; simp
                      · show Int.toNat (((List.length less : Int) : Int) - ((i + 1) : Int)) < Int.toNat (((List.length less : Int) : Int) - (i : Int))
                        omega
                    · skip
                      have hboth2 : both = less.map (gI keep) := by rw [hinv, show i = less.length by omega]; simp
                      have hsc := hss
                      rw [← hboth2] at hsc
                      refine run_cond_f rfl (decide_eq_false p29) ?_
                      refine run_exit rfl ?_
                      refine run_seq ?_
                      refine run_region rfl ?_
                      refine l_val (v := Value.agg (List.toArray [Value.int .i64 g.1, g_v])) rfl (e_load_bxN (ds := [Value.int .i64 g.1, g_v]) tp24_n (by exact zs5) bx5 rfl rfl) ?_
                      refine l_val (v := both_v) rfl (e_move (by exact zs27)) ?_
                      refine l_op rfl ?_
                      refine o_callx (e_call (vals := [Value.agg (List.toArray [Value.int .i64 g.1, g_v]), both_v]) Try.func13 bd13_n nm13_n rfl) (Sub_ok w125 g g_v (r_g_v).ro both both_v (o_both.flat).ro) ?_
                      rintro ⟨d139, v141⟩ w138 ⟨fr140, o142⟩
                      obtain ⟨g143, hg143⟩ : ∃ q, q = glue w125.heap.size g126 d139 (fun n => if n = 1 then 21 else 0) := ⟨_, rfl⟩
                      have ch144 := chg_glue fr140.below g126 d139 (fun n => if n = 1 then 21 else 0)
                      rw [← hg143] at ch144
                      replace hbase := hbase.chg ch144 (not_no _)
                      replace r_g_v := r_g_v.chg ch144 (not_no _)
                      replace r_nodes_v := r_nodes_v.chg ch144 (not_no _)
                      replace r_more_v := r_more_v.chg ch144 (not_no _)
                      replace r_keep_v := r_keep_v.chg ch144 (not_no _)
                      replace r_less_v := r_less_v.chg ch144 (not_no _)
                      replace bx5 := bx5.chg ch144 (not_no _)
                      replace o113 := o113.chg ch144 (not_no _) (not_no _)
                      replace bx123 := bx123.chg ch144 (not_no _)
                      replace o_both := o_both.chg ch144 (not_no _) (not_no _)
                      replace o142 := o142.glue (γ := g126) (ren := (fun n => if n = 1 then 21 else 0)) (k := 21) fr140.col rfl rfl
                      rw [← hg143] at o142
                      clear hg143
                      refine l_val (v := Value.tuple (List.toArray [Value.agg (List.toArray [Value.int .i64 (((subR g both).1).1), v141]), Value.int .i64 ((subR g both).2)])) rfl (e_move rfl) ?_
                      refine l_val (v := Value.agg (List.toArray [Value.int .i64 (((subR g both).1).1), v141])) rfl (e_extract rfl rfl) ?_
                      refine l_val (v := Value.int .i64 ((subR g both).2)) rfl (e_extract rfl rfl) ?_
                      refine l_op rfl ?_
                      refine o_alloc g143 (is 22) (22, 0) rfl tp24_n ?_
                      intro g148 w145 b147 ch146 bx149
                      replace hbase := hbase.chg ch146 (not_no _)
                      replace r_g_v := r_g_v.chg ch146 (not_no _)
                      replace r_nodes_v := r_nodes_v.chg ch146 (not_no _)
                      replace r_more_v := r_more_v.chg ch146 (not_no _)
                      replace r_keep_v := r_keep_v.chg ch146 (not_no _)
                      replace r_less_v := r_less_v.chg ch146 (not_no _)
                      replace bx5 := bx5.chg ch146 (not_no _)
                      replace o113 := o113.chg ch146 (not_no _) (not_no _)
                      replace bx123 := bx123.chg ch146 (not_no _)
                      replace o_both := o_both.chg ch146 (not_no _) (not_no _)
                      replace o142 := o142.chg ch146 (not_no _) (not_no _)
                      replace bx149 : Bx g148 (is 22) w145 b147 [Value.int .i64 0, Value.slice none 0 0] := bx149
                      refine l_op rfl ?_
                      refine o_store_bx (cs' := [Value.int .i64 (((subR g both).1).1), v141]) tp24_n rfl rfl bx149 rfl (Nat.le_of_ble_eq_true rfl) (AllOne.all (.cons rfl (.cons (sl_one o142.flat) .nil))) rfl ?_
                      intro w150 ch151 bx152
                      replace hbase := hbase.chg ch151 (is_ne rfl)
                      replace r_g_v := r_g_v.chg ch151 (is_ne rfl)
                      replace r_nodes_v := r_nodes_v.chg ch151 (is_ne rfl)
                      replace r_more_v := r_more_v.chg ch151 (is_ne rfl)
                      replace r_keep_v := r_keep_v.chg ch151 (is_ne rfl)
                      replace r_less_v := r_less_v.chg ch151 (is_ne rfl)
                      replace bx5 := bx5.chg ch151 (is_ne rfl)
                      replace o113 := o113.chg ch151 (is_ne rfl) (is_ne rfl)
                      replace bx123 := bx123.chg ch151 (is_ne rfl)
                      replace o_both := o_both.chg ch151 (is_ne rfl) (is_ne rfl)
                      replace o142 := o142.chg ch151 (is_ne rfl) (is_ne rfl)
                      clear bx149
                      refine l_val (v := Value.int .i64 ((subR g both).2)) rfl (e_assign rfl) ?_
                      refine l_nil ?_
                      refine run_seq ?_
                      clear bx5
                      clear o_both
                      refine run_region rfl ?_
                      refine l_val (v := Value.int .i64 ((subR g both).2)) rfl (e_move rfl) ?_
                      refine l_val (v := Value.bool (decide (((subR g both).2) = 0))) rfl (e_eql (m := (subR g both).2) (n := 0) rfl rfl) ?_
                      refine l_val (v := Value.bool (decide (((subR g both).2) = 0))) rfl (e_move rfl) ?_
                      have q164 : ((subR g both).2) = 0 := by first
  | rfl
  | (rw [hpc]; done)
  | (simp [hpc]; done)
  | (simp [hpc, hedges]; done)
  | (rw [hsc]; done)
                      refine l_val (v := Value.agg (List.toArray [Value.int .i64 (((subR ((subR g keep).1) less).1).1), v112])) (want_y rfl rfl rfl (decide_eq_true q164)) (e_load_bxN (ds := [Value.int .i64 (((subR ((subR g keep).1) less).1).1), v112]) tp24_n (by exact zs25) bx123 rfl rfl) ?_
                      refine l_val (v := Value.agg (List.toArray [Value.int .i64 (((subR g both).1).1), v141])) (want_y rfl rfl rfl (decide_eq_true q164)) (e_load_bxN (ds := [Value.int .i64 (((subR g both).1).1), v141]) tp24_n rfl bx152 rfl rfl) ?_
                      refine l_op (want_y rfl rfl rfl (decide_eq_true q164)) ?_
                      refine o_call (v := Value.bool (decide (((subR ((subR g keep).1) less).1) = ((subR g both).1)))) (e_call (vals := [Value.agg (List.toArray [Value.int .i64 (((subR ((subR g keep).1) less).1).1), v112]), Value.agg (List.toArray [Value.int .i64 (((subR g both).1).1), v141])]) Try.func11 bd11_n nm11_n rfl) (Same_ok w150 ((subR ((subR g keep).1) less).1) v112 (o113.flat).ro ((subR g both).1) v141 (o142.flat).ro) ?_
                      intro w153 hb154
                      replace hb154 := chg_below hb154 g148
                      replace hbase := hbase.chg hb154 (not_no _)
                      replace r_g_v := r_g_v.chg hb154 (not_no _)
                      replace r_nodes_v := r_nodes_v.chg hb154 (not_no _)
                      replace r_more_v := r_more_v.chg hb154 (not_no _)
                      replace r_keep_v := r_keep_v.chg hb154 (not_no _)
                      replace r_less_v := r_less_v.chg hb154 (not_no _)
                      replace o113 := o113.chg hb154 (not_no _) (not_no _)
                      replace bx123 := bx123.chg hb154 (not_no _)
                      replace o142 := o142.chg hb154 (not_no _) (not_no _)
                      replace bx152 := bx152.chg hb154 (not_no _)
                      refine l_val (v := Value.bool (decide (((subR ((subR g keep).1) less).1) = ((subR g both).1)))) rfl (e_pick_t rfl (decide_eq_true q164) rfl) ?_
                      refine l_val (v := Value.bool (decide (((subR ((subR g keep).1) less).1) = ((subR g both).1)))) rfl (e_assign rfl) ?_
                      refine l_nil ?_
                      refine run_ret (vs := [Value.bool (decide (((subR ((subR g keep).1) less).1) = ((subR g both).1)))]) Try.func3 (.tmp rfl .nil) ?_
                      -- return 2
                      have e0 : ((decide (((subR ((subR g keep).1) less).1) = ((subR g both).1))) : Bool) = (true) := by
                        first
                          | rfl
                          | exact decide_eq_true (subR_bad p25)
                          | exact decide_eq_true (subR_bad p22)
                          | (rw [hsc]; exact decide_eq_true rfl)
                      exact ⟨(congrArg (fun (z0 : Bool) => Ending.returned (Value.bool z0)) e0), hbase.below⟩
                  · skip
                    refine run_cond_t rfl (congrArg Bool.not (decide_eq_false p25)) ?_
                    refine run_seq ?_
                    clear bx5
                    refine run_region rfl ?_
                    refine l_val (v := Value.pointer (some ⟨b118, 0, none⟩)) rfl (e_fieldAddr Try.underlying24 rfl rfl rfl rfl) ?_
                    refine l_val (v := Value.int .i64 (((subR ((subR g keep).1) less).1).1)) rfl (e_load_bx1 tp3_n rfl bx123 rfl) ?_
                    refine l_val (v := Value.bool (decide ((((subR ((subR g keep).1) less).1).1) = 0))) rfl (e_eql (m := ((subR ((subR g keep).1) less).1).1) (n := 0) rfl rfl) ?_
                    refine l_val (v := Value.bool (decide ((((subR ((subR g keep).1) less).1).1) = 0))) rfl (e_assign rfl) ?_
                    refine l_nil ?_
                    refine run_ret (vs := [Value.bool (decide ((((subR ((subR g keep).1) less).1).1) = 0))]) Try.func3 (.tmp rfl .nil) ?_
                    -- return 3
                    have e0 : (decide ((((subR ((subR g keep).1) less).1).1) = 0) : Bool) = (true) := by
                      first
                        | rfl
                        | exact decide_eq_true (subR_bad p25)
                        | exact decide_eq_true (subR_bad p22)
                        | (rw [hsc]; exact decide_eq_true rfl)
                    exact ⟨(congrArg (fun (z0 : Bool) => Ending.returned (Value.bool z0)) e0), hbase.below⟩
                · skip
                  refine run_cond_t rfl (congrArg Bool.not (decide_eq_false p22)) ?_
                  refine run_seq ?_
                  clear bx5
                  refine run_region rfl ?_
                  refine l_val (v := Value.pointer (some ⟨b103, 0, none⟩)) rfl (e_fieldAddr Try.underlying24 rfl rfl rfl rfl) ?_
                  refine l_val (v := Value.int .i64 (((subR g keep).1).1)) rfl (e_load_bx1 tp3_n rfl bx108 rfl) ?_
                  refine l_val (v := Value.bool (decide ((((subR g keep).1).1) = 0))) rfl (e_eql (m := ((subR g keep).1).1) (n := 0) rfl rfl) ?_
                  refine l_val (v := Value.bool (decide ((((subR g keep).1).1) = 0))) rfl (e_assign rfl) ?_
                  refine l_nil ?_
                  refine run_ret (vs := [Value.bool (decide ((((subR g keep).1).1) = 0))]) Try.func3 (.tmp rfl .nil) ?_
                  -- return 4
                  have e0 : (decide ((((subR g keep).1).1) = 0) : Bool) = (true) := by
                    first
                      | rfl
                      | exact decide_eq_true (subR_bad p25)
                      | exact decide_eq_true (subR_bad p22)
                      | (rw [hsc]; exact decide_eq_true rfl)
                  exact ⟨(congrArg (fun (z0 : Bool) => Ending.returned (Value.bool z0)) e0), hbase.below⟩
          · skip
            refine run_cond_f rfl (decide_eq_false p8) ?_
            refine run_skip ?_
            refine run_seq ?_
            clear o17
            clear o32
            clear o34
            clear bx44
            refine run_region rfl ?_
            refine l_val (v := Value.agg (List.toArray [Value.int .i64 g.1, g_v])) rfl (e_load_bxN (ds := [Value.int .i64 g.1, g_v]) tp24_n rfl bx5 rfl rfl) ?_
            refine l_val (v := keep_v) rfl (e_move rfl) ?_
            refine l_op rfl ?_
            refine o_callx (e_call (vals := [Value.agg (List.toArray [Value.int .i64 g.1, g_v]), keep_v]) Try.func13 bd13_n nm13_n rfl) (Sub_ok w42 g g_v (r_g_v).ro keep keep_v (r_keep_v).ro) ?_
            rintro ⟨d156, v158⟩ w155 ⟨fr157, o159⟩
            obtain ⟨g160, hg160⟩ : ∃ q, q = glue w42.heap.size g40 d156 (fun n => if n = 1 then 15 else 0) := ⟨_, rfl⟩
            have ch161 := chg_glue fr157.below g40 d156 (fun n => if n = 1 then 15 else 0)
            rw [← hg160] at ch161
            replace hbase := hbase.chg ch161 (not_no _)
            replace r_g_v := r_g_v.chg ch161 (not_no _)
            replace r_nodes_v := r_nodes_v.chg ch161 (not_no _)
            replace r_more_v := r_more_v.chg ch161 (not_no _)
            replace r_keep_v := r_keep_v.chg ch161 (not_no _)
            replace r_less_v := r_less_v.chg ch161 (not_no _)
            replace bx5 := bx5.chg ch161 (not_no _)
            replace o159 := o159.glue (γ := g40) (ren := (fun n => if n = 1 then 15 else 0)) (k := 15) fr157.col rfl rfl
            rw [← hg160] at o159
            clear hg160
            refine l_val (v := Value.tuple (List.toArray [Value.agg (List.toArray [Value.int .i64 (((subR g keep).1).1), v158]), Value.int .i64 ((subR g keep).2)])) rfl (e_move rfl) ?_
            refine l_val (v := Value.agg (List.toArray [Value.int .i64 (((subR g keep).1).1), v158])) rfl (e_extract rfl rfl) ?_
            refine l_val (v := Value.int .i64 ((subR g keep).2)) rfl (e_extract rfl rfl) ?_
            refine l_op rfl ?_
            refine o_alloc g160 (is 16) (16, 0) rfl tp24_n ?_
            intro g165 w162 b164 ch163 bx166
            replace hbase := hbase.chg ch163 (not_no _)
            replace r_g_v := r_g_v.chg ch163 (not_no _)
            replace r_nodes_v := r_nodes_v.chg ch163 (not_no _)
            replace r_more_v := r_more_v.chg ch163 (not_no _)
            replace r_keep_v := r_keep_v.chg ch163 (not_no _)
            replace r_less_v := r_less_v.chg ch163 (not_no _)
            replace bx5 := bx5.chg ch163 (not_no _)
            replace o159 := o159.chg ch163 (not_no _) (not_no _)
            replace bx166 : Bx g165 (is 16) w162 b164 [Value.int .i64 0, Value.slice none 0 0] := bx166
            refine l_op rfl ?_
            refine o_store_bx (cs' := [Value.int .i64 (((subR g keep).1).1), v158]) tp24_n rfl rfl bx166 rfl (Nat.le_of_ble_eq_true rfl) (AllOne.all (.cons rfl (.cons (sl_one o159.flat) .nil))) rfl ?_
            intro w167 ch168 bx169
            replace hbase := hbase.chg ch168 (is_ne rfl)
            replace r_g_v := r_g_v.chg ch168 (is_ne rfl)
            replace r_nodes_v := r_nodes_v.chg ch168 (is_ne rfl)
            replace r_more_v := r_more_v.chg ch168 (is_ne rfl)
            replace r_keep_v := r_keep_v.chg ch168 (is_ne rfl)
            replace r_less_v := r_less_v.chg ch168 (is_ne rfl)
            replace bx5 := bx5.chg ch168 (is_ne rfl)
            replace o159 := o159.chg ch168 (is_ne rfl) (is_ne rfl)
            clear bx166
            refine l_val (v := Value.int .i64 ((subR g keep).2)) rfl (e_assign rfl) ?_
            refine l_nil ?_
            refine run_seq ?_
            refine run_seq ?_
            refine run_region rfl ?_
            refine l_val (v := Value.int .i64 ((subR g keep).2)) rfl (e_move rfl) ?_
            refine l_val (v := Value.bool (!(decide (((subR g keep).2) = 0)))) rfl (e_neq (m := (subR g keep).2) (n := 0) rfl rfl) ?_
            refine l_nil ?_
            by_cases p22 : ((subR g keep).2) = 0
            · skip
              refine run_cond_f rfl (congrArg Bool.not (decide_eq_true p22)) ?_
              refine run_skip ?_
              refine run_seq ?_
              refine run_region rfl ?_
              refine l_val (v := Value.agg (List.toArray [Value.int .i64 (((subR g keep).1).1), v158])) rfl (e_load_bxN (ds := [Value.int .i64 (((subR g keep).1).1), v158]) tp24_n rfl bx169 rfl rfl) ?_
              refine l_val (v := less_v) rfl (e_move rfl) ?_
              refine l_op rfl ?_
              refine o_callx (e_call (vals := [Value.agg (List.toArray [Value.int .i64 (((subR g keep).1).1), v158]), less_v]) Try.func13 bd13_n nm13_n rfl) (Sub_ok w167 ((subR g keep).1) v158 (o159.flat).ro less less_v (r_less_v).ro) ?_
              rintro ⟨d171, v173⟩ w170 ⟨fr172, o174⟩
              obtain ⟨g175, hg175⟩ : ∃ q, q = glue w167.heap.size g165 d171 (fun n => if n = 1 then 17 else 0) := ⟨_, rfl⟩
              have ch176 := chg_glue fr172.below g165 d171 (fun n => if n = 1 then 17 else 0)
              rw [← hg175] at ch176
              replace hbase := hbase.chg ch176 (not_no _)
              replace r_g_v := r_g_v.chg ch176 (not_no _)
              replace r_nodes_v := r_nodes_v.chg ch176 (not_no _)
              replace r_more_v := r_more_v.chg ch176 (not_no _)
              replace r_keep_v := r_keep_v.chg ch176 (not_no _)
              replace r_less_v := r_less_v.chg ch176 (not_no _)
              replace bx5 := bx5.chg ch176 (not_no _)
              replace o159 := o159.chg ch176 (not_no _) (not_no _)
              replace bx169 := bx169.chg ch176 (not_no _)
              replace o174 := o174.glue (γ := g165) (ren := (fun n => if n = 1 then 17 else 0)) (k := 17) fr172.col rfl rfl
              rw [← hg175] at o174
              clear hg175
              refine l_val (v := Value.tuple (List.toArray [Value.agg (List.toArray [Value.int .i64 (((subR ((subR g keep).1) less).1).1), v173]), Value.int .i64 ((subR ((subR g keep).1) less).2)])) rfl (e_move rfl) ?_
              refine l_val (v := Value.agg (List.toArray [Value.int .i64 (((subR ((subR g keep).1) less).1).1), v173])) rfl (e_extract rfl rfl) ?_
              refine l_val (v := Value.int .i64 ((subR ((subR g keep).1) less).2)) rfl (e_extract rfl rfl) ?_
              refine l_op rfl ?_
              refine o_alloc g175 (is 18) (18, 0) rfl tp24_n ?_
              intro g180 w177 b179 ch178 bx181
              replace hbase := hbase.chg ch178 (not_no _)
              replace r_g_v := r_g_v.chg ch178 (not_no _)
              replace r_nodes_v := r_nodes_v.chg ch178 (not_no _)
              replace r_more_v := r_more_v.chg ch178 (not_no _)
              replace r_keep_v := r_keep_v.chg ch178 (not_no _)
              replace r_less_v := r_less_v.chg ch178 (not_no _)
              replace bx5 := bx5.chg ch178 (not_no _)
              replace o159 := o159.chg ch178 (not_no _) (not_no _)
              replace bx169 := bx169.chg ch178 (not_no _)
              replace o174 := o174.chg ch178 (not_no _) (not_no _)
              replace bx181 : Bx g180 (is 18) w177 b179 [Value.int .i64 0, Value.slice none 0 0] := bx181
              refine l_op rfl ?_
              refine o_store_bx (cs' := [Value.int .i64 (((subR ((subR g keep).1) less).1).1), v173]) tp24_n rfl rfl bx181 rfl (Nat.le_of_ble_eq_true rfl) (AllOne.all (.cons rfl (.cons (sl_one o174.flat) .nil))) rfl ?_
              intro w182 ch183 bx184
              replace hbase := hbase.chg ch183 (is_ne rfl)
              replace r_g_v := r_g_v.chg ch183 (is_ne rfl)
              replace r_nodes_v := r_nodes_v.chg ch183 (is_ne rfl)
              replace r_more_v := r_more_v.chg ch183 (is_ne rfl)
              replace r_keep_v := r_keep_v.chg ch183 (is_ne rfl)
              replace r_less_v := r_less_v.chg ch183 (is_ne rfl)
              replace bx5 := bx5.chg ch183 (is_ne rfl)
              replace o159 := o159.chg ch183 (is_ne rfl) (is_ne rfl)
              replace bx169 := bx169.chg ch183 (is_ne rfl)
              replace o174 := o174.chg ch183 (is_ne rfl) (is_ne rfl)
              clear bx181
              refine l_val (v := Value.int .i64 ((subR ((subR g keep).1) less).2)) rfl (e_assign rfl) ?_
              refine l_nil ?_
              refine run_seq ?_
              refine run_seq ?_
              clear o159
              clear bx169
              refine run_region rfl ?_
              refine l_val (v := Value.int .i64 ((subR ((subR g keep).1) less).2)) rfl (e_move rfl) ?_
              refine l_val (v := Value.bool (!(decide (((subR ((subR g keep).1) less).2) = 0)))) rfl (e_neq (m := (subR ((subR g keep).1) less).2) (n := 0) rfl rfl) ?_
              refine l_nil ?_
              by_cases p25 : ((subR ((subR g keep).1) less).2) = 0
              · skip
                have hss := subsub p22 p25
                have hsb := sub_bounds p22 p25
                refine run_cond_f rfl (congrArg Bool.not (decide_eq_true p25)) ?_
                refine run_skip ?_
                refine run_seq ?_
                refine run_region rfl ?_
                refine l_val (v := Value.slice none 0 0) rfl (e_assign rfl) ?_
                refine l_nil ?_
                refine run_seq ?_
                refine run_seq ?_
                refine run_region rfl ?_
                refine l_val (v := Value.int .i64 0) rfl (e_assign rfl) ?_
                refine l_nil ?_
                refine run_block ?_
                refine run_loop (σ := Value × (List Int) × Nat × Cmap) (fun ⟨both_v, both, i, gq⟩ f w => Base w0 gq w ∧ f 3 = keep_v ∧ f 4 = less_v ∧ f 5 = Value.pointer (some ⟨b3, 0, none⟩) ∧ f 25 = Value.pointer (some ⟨b179, 0, none⟩) ∧ f 27 = both_v ∧ f 28 = Value.int .i64 (i : Int) ∧ Sl gq (is 0) w g_v g.2 ∧ Sl gq (is 0) w nodes_v nodes ∧ Sl gq (is 0) w more_v more ∧ Sl gq (is 0) w keep_v keep ∧ Sl gq (is 0) w less_v less ∧ Bx gq (is 1) w b3 [Value.int .i64 g.1, g_v] ∧ Ow gq (is 17) (is 17) w v173 (((subR ((subR g keep).1) less).1).2) ∧ Bx gq (is 18) w b179 [Value.int .i64 (((subR ((subR g keep).1) less).1).1), v173] ∧ Ow gq (is 20) (is 20) w both_v both ∧ (i : Int) ≤ ((List.length less : Int) : Int) ∧ (both = (List.take i less).map (gI (keep)))) (fun ⟨both_v, both, i, gq⟩ => Int.toNat (((List.length less : Int) : Int) - (i : Int))) (Value.slice none 0 0, [], 0, g180) ?_ ?_
                · exact ⟨hbase, rfl, rfl, rfl, rfl, rfl, rfl, r_g_v, r_nodes_v, r_more_v, r_keep_v, r_less_v, bx5, o174, bx184, Ow.nil, by omega, by rfl⟩
                clear r_g_v
                clear r_nodes_v
                clear r_more_v
                clear r_keep_v
                clear r_less_v
                clear bx5
                clear o174
                clear bx184
                clear hbase
                rintro ⟨both_v, both, i, g187⟩ f185 w186 ⟨hbase, zs3, zs4, zs5, zs25, zs27, zs28, r_g_v, r_nodes_v, r_more_v, r_keep_v, r_less_v, bx5, o174, bx184, o_both, hle_i, hinv⟩ back29
                refine run_seq ?_
                refine run_seq ?_
                refine run_region rfl ?_
                refine l_val (v := Value.int .i64 (i : Int)) rfl (e_move (by exact zs28)) ?_
                refine l_val (v := less_v) rfl (e_move (by exact zs4)) ?_
                have len188 := (r_less_v).small
                refine l_val (v := Value.int .i64 (List.length less : Int)) rfl (e_len Try.underlying25 rfl r_less_v) ?_
                refine l_val (v := Value.bool (decide ((i : Int) < (List.length less : Int)))) rfl (e_lss (m := (i : Int)) (n := (List.length less : Int)) rfl rfl) ?_
                refine l_nil ?_
                by_cases p29 : (i : Int) < (List.length less : Int)
                · skip
                  refine run_cond_t rfl (decide_eq_true p29) ?_
                  have hgm := hsb _ (gI_mem (xs := less) (by omega : (0:Int) ≤ (i : Int)) p29)
                  have hbl : both.length = i := by rw [hinv]; simp; omega
                  refine run_skip ?_
                  refine run_seq ?_
                  refine run_block ?_
                  refine run_region rfl ?_
                  refine l_val (v := both_v) rfl (e_move (by exact zs27)) ?_
                  refine l_val (v := keep_v) rfl (e_move (by exact zs3)) ?_
                  refine l_val (v := less_v) rfl (e_move (by exact zs4)) ?_
                  refine l_val (v := Value.int .i64 (i : Int)) rfl (e_move (by exact zs28)) ?_
                  refine l_val (v := Value.pointer (some (eAddr less_v 1 (Int.toNat (i : Int))))) rfl (e_indexAddr (α := Int) (xs := less) (v := less_v) (i := (i : Int)) Try.underlying25 rfl rfl r_less_v rfl (by omega) (by omega)) ?_
                  refine l_val (v := Value.int .i64 (gI less (i : Int))) rfl (e_load_el1 (α := Int) (xs := less) (v := less_v) (i := (i : Int)) tp3_n rfl r_less_v (by omega) (by omega) (by decide) rfl) ?_
                  refine l_val (v := Value.pointer (some (eAddr keep_v 1 (Int.toNat (gI less (i : Int)))))) rfl (e_indexAddr (α := Int) (xs := keep) (v := keep_v) (i := (gI less (i : Int))) Try.underlying25 rfl rfl r_keep_v rfl (by omega) (by omega)) ?_
                  refine l_val (v := Value.int .i64 (gI keep (gI less (i : Int)))) rfl (e_load_el1 (α := Int) (xs := keep) (v := keep_v) (i := (gI less (i : Int))) tp3_n rfl r_keep_v (by omega) (by omega) (by decide) rfl) ?_
                  refine l_op rfl ?_
                  refine o_buildSlice (α := Int) g187 (is 19) (is 19) (19, 0) rfl [(gI keep (gI less (i : Int)))] Try.underlying25 tp3_n (by decide) (by decide) (vs := [(0, Value.int .i64 (gI keep (gI less (i : Int))))]) rfl rfl (.cons rfl .nil) ?_
                  intro g189 w190 v191 ch192 o193
                  replace hbase := hbase.chg ch192 (not_no _)
                  replace r_g_v := r_g_v.chg ch192 (not_no _)
                  replace r_nodes_v := r_nodes_v.chg ch192 (not_no _)
                  replace r_more_v := r_more_v.chg ch192 (not_no _)
                  replace r_keep_v := r_keep_v.chg ch192 (not_no _)
                  replace r_less_v := r_less_v.chg ch192 (not_no _)
                  replace bx5 := bx5.chg ch192 (not_no _)
                  replace o174 := o174.chg ch192 (not_no _) (not_no _)
                  replace bx184 := bx184.chg ch192 (not_no _)
                  replace o_both := o_both.chg ch192 (not_no _) (not_no _)
                  refine l_op rfl ?_
                  refine o_append (α := Int) (xs := both) (ys := ([(gI keep (gI less (i : Int)))])) g189 (J := is 20) (S := is 20) (20, 0) rfl Try.underlying25 tp3_n (by decide) rfl rfl rfl o_both o193.flat (by decide) (by first | omega | (simp; done) | (simp; omega)) ?_
                  intro g194 w195 v196 ch197 o198
                  replace hbase := hbase.chg ch197 (is_ne rfl)
                  replace r_g_v := r_g_v.chg ch197 (is_ne rfl)
                  replace r_nodes_v := r_nodes_v.chg ch197 (is_ne rfl)
                  replace r_more_v := r_more_v.chg ch197 (is_ne rfl)
                  replace r_keep_v := r_keep_v.chg ch197 (is_ne rfl)
                  replace r_less_v := r_less_v.chg ch197 (is_ne rfl)
                  replace bx5 := bx5.chg ch197 (is_ne rfl)
                  replace o174 := o174.chg ch197 (is_ne rfl) (is_ne rfl)
                  replace bx184 := bx184.chg ch197 (is_ne rfl)
                  replace o193 := o193.chg ch197 (is_ne rfl) (is_ne rfl)
                  clear o_both
                  refine l_val (v := v196) rfl (e_assign rfl) ?_
                  refine l_nil ?_
                  refine run_inBlock ?_
                  clear o193
                  refine run_region rfl ?_
                  refine l_val (v := Value.int .i64 (i : Int)) rfl (e_move (by exact zs28)) ?_
                  refine l_val (v := Value.int .i64 ((i : Int) + 1)) rfl (e_add (m := (i : Int)) (n := 1) rfl rfl (by omega)) ?_
                  refine l_val (v := Value.int .i64 ((i : Int) + 1)) rfl (e_assign rfl) ?_
                  refine l_nil ?_
                  refine back29 (v196, (both ++ [(gI keep (gI less (i : Int)))]), i + 1, g194) _ _ ⟨hbase, (by exact zs3), (by exact zs4), (by exact zs5), (by exact zs25), rfl, rfl, r_g_v, r_nodes_v, r_more_v, r_keep_v, r_less_v, bx5, o174, bx184, o198, by omega, ?_⟩ ?_
                  · show (both ++ [(gI keep (gI less (i : Int)))]) = (List.take (i + 1) less).map (gI (keep))
                    rw [hinv, take_succ_gI (by assumption)]; simp
                  · show Int.toNat (((List.length less : Int) : Int) - ((i + 1) : Int)) < Int.toNat (((List.length less : Int) : Int) - (i : Int))
                    omega
                · skip
                  have hboth2 : both = less.map (gI keep) := by rw [hinv, show i = less.length by omega]; simp
                  have hsc := hss
                  rw [← hboth2] at hsc
                  refine run_cond_f rfl (decide_eq_false p29) ?_
                  refine run_exit rfl ?_
                  refine run_seq ?_
                  refine run_region rfl ?_
                  refine l_val (v := Value.agg (List.toArray [Value.int .i64 g.1, g_v])) rfl (e_load_bxN (ds := [Value.int .i64 g.1, g_v]) tp24_n (by exact zs5) bx5 rfl rfl) ?_
                  refine l_val (v := both_v) rfl (e_move (by exact zs27)) ?_
                  refine l_op rfl ?_
                  refine o_callx (e_call (vals := [Value.agg (List.toArray [Value.int .i64 g.1, g_v]), both_v]) Try.func13 bd13_n nm13_n rfl) (Sub_ok w186 g g_v (r_g_v).ro both both_v (o_both.flat).ro) ?_
                  rintro ⟨d200, v202⟩ w199 ⟨fr201, o203⟩
                  obtain ⟨g204, hg204⟩ : ∃ q, q = glue w186.heap.size g187 d200 (fun n => if n = 1 then 21 else 0) := ⟨_, rfl⟩
                  have ch205 := chg_glue fr201.below g187 d200 (fun n => if n = 1 then 21 else 0)
                  rw [← hg204] at ch205
                  replace hbase := hbase.chg ch205 (not_no _)
                  replace r_g_v := r_g_v.chg ch205 (not_no _)
                  replace r_nodes_v := r_nodes_v.chg ch205 (not_no _)
                  replace r_more_v := r_more_v.chg ch205 (not_no _)
                  replace r_keep_v := r_keep_v.chg ch205 (not_no _)
                  replace r_less_v := r_less_v.chg ch205 (not_no _)
                  replace bx5 := bx5.chg ch205 (not_no _)
                  replace o174 := o174.chg ch205 (not_no _) (not_no _)
                  replace bx184 := bx184.chg ch205 (not_no _)
                  replace o_both := o_both.chg ch205 (not_no _) (not_no _)
                  replace o203 := o203.glue (γ := g187) (ren := (fun n => if n = 1 then 21 else 0)) (k := 21) fr201.col rfl rfl
                  rw [← hg204] at o203
                  clear hg204
                  refine l_val (v := Value.tuple (List.toArray [Value.agg (List.toArray [Value.int .i64 (((subR g both).1).1), v202]), Value.int .i64 ((subR g both).2)])) rfl (e_move rfl) ?_
                  refine l_val (v := Value.agg (List.toArray [Value.int .i64 (((subR g both).1).1), v202])) rfl (e_extract rfl rfl) ?_
                  refine l_val (v := Value.int .i64 ((subR g both).2)) rfl (e_extract rfl rfl) ?_
                  refine l_op rfl ?_
                  refine o_alloc g204 (is 22) (22, 0) rfl tp24_n ?_
                  intro g209 w206 b208 ch207 bx210
                  replace hbase := hbase.chg ch207 (not_no _)
                  replace r_g_v := r_g_v.chg ch207 (not_no _)
                  replace r_nodes_v := r_nodes_v.chg ch207 (not_no _)
                  replace r_more_v := r_more_v.chg ch207 (not_no _)
                  replace r_keep_v := r_keep_v.chg ch207 (not_no _)
                  replace r_less_v := r_less_v.chg ch207 (not_no _)
                  replace bx5 := bx5.chg ch207 (not_no _)
                  replace o174 := o174.chg ch207 (not_no _) (not_no _)
                  replace bx184 := bx184.chg ch207 (not_no _)
                  replace o_both := o_both.chg ch207 (not_no _) (not_no _)
                  replace o203 := o203.chg ch207 (not_no _) (not_no _)
                  replace bx210 : Bx g209 (is 22) w206 b208 [Value.int .i64 0, Value.slice none 0 0] := bx210
                  refine l_op rfl ?_
                  refine o_store_bx (cs' := [Value.int .i64 (((subR g both).1).1), v202]) tp24_n rfl rfl bx210 rfl (Nat.le_of_ble_eq_true rfl) (AllOne.all (.cons rfl (.cons (sl_one o203.flat) .nil))) rfl ?_
                  intro w211 ch212 bx213
                  replace hbase := hbase.chg ch212 (is_ne rfl)
                  replace r_g_v := r_g_v.chg ch212 (is_ne rfl)
                  replace r_nodes_v := r_nodes_v.chg ch212 (is_ne rfl)
                  replace r_more_v := r_more_v.chg ch212 (is_ne rfl)
                  replace r_keep_v := r_keep_v.chg ch212 (is_ne rfl)
                  replace r_less_v := r_less_v.chg ch212 (is_ne rfl)
                  replace bx5 := bx5.chg ch212 (is_ne rfl)
                  replace o174 := o174.chg ch212 (is_ne rfl) (is_ne rfl)
                  replace bx184 := bx184.chg ch212 (is_ne rfl)
                  replace o_both := o_both.chg ch212 (is_ne rfl) (is_ne rfl)
                  replace o203 := o203.chg ch212 (is_ne rfl) (is_ne rfl)
                  clear bx210
                  refine l_val (v := Value.int .i64 ((subR g both).2)) rfl (e_assign rfl) ?_
                  refine l_nil ?_
                  refine run_seq ?_
                  clear bx5
                  clear o_both
                  refine run_region rfl ?_
                  refine l_val (v := Value.int .i64 ((subR g both).2)) rfl (e_move rfl) ?_
                  refine l_val (v := Value.bool (decide (((subR g both).2) = 0))) rfl (e_eql (m := (subR g both).2) (n := 0) rfl rfl) ?_
                  refine l_val (v := Value.bool (decide (((subR g both).2) = 0))) rfl (e_move rfl) ?_
                  have q164_214 : ((subR g both).2) = 0 := by first
  | rfl
  | (rw [hpc]; done)
  | (simp [hpc]; done)
  | (simp [hpc, hedges]; done)
  | (rw [hsc]; done)
                  refine l_val (v := Value.agg (List.toArray [Value.int .i64 (((subR ((subR g keep).1) less).1).1), v173])) (want_y rfl rfl rfl (decide_eq_true q164_214)) (e_load_bxN (ds := [Value.int .i64 (((subR ((subR g keep).1) less).1).1), v173]) tp24_n (by exact zs25) bx184 rfl rfl) ?_
                  refine l_val (v := Value.agg (List.toArray [Value.int .i64 (((subR g both).1).1), v202])) (want_y rfl rfl rfl (decide_eq_true q164_214)) (e_load_bxN (ds := [Value.int .i64 (((subR g both).1).1), v202]) tp24_n rfl bx213 rfl rfl) ?_
                  refine l_op (want_y rfl rfl rfl (decide_eq_true q164_214)) ?_
                  refine o_call (v := Value.bool (decide (((subR ((subR g keep).1) less).1) = ((subR g both).1)))) (e_call (vals := [Value.agg (List.toArray [Value.int .i64 (((subR ((subR g keep).1) less).1).1), v173]), Value.agg (List.toArray [Value.int .i64 (((subR g both).1).1), v202])]) Try.func11 bd11_n nm11_n rfl) (Same_ok w211 ((subR ((subR g keep).1) less).1) v173 (o174.flat).ro ((subR g both).1) v202 (o203.flat).ro) ?_
                  intro w215 hb216
                  replace hb216 := chg_below hb216 g209
                  replace hbase := hbase.chg hb216 (not_no _)
                  replace r_g_v := r_g_v.chg hb216 (not_no _)
                  replace r_nodes_v := r_nodes_v.chg hb216 (not_no _)
                  replace r_more_v := r_more_v.chg hb216 (not_no _)
                  replace r_keep_v := r_keep_v.chg hb216 (not_no _)
                  replace r_less_v := r_less_v.chg hb216 (not_no _)
                  replace o174 := o174.chg hb216 (not_no _) (not_no _)
                  replace bx184 := bx184.chg hb216 (not_no _)
                  replace o203 := o203.chg hb216 (not_no _) (not_no _)
                  replace bx213 := bx213.chg hb216 (not_no _)
                  refine l_val (v := Value.bool (decide (((subR ((subR g keep).1) less).1) = ((subR g both).1)))) rfl (e_pick_t rfl (decide_eq_true q164_214) rfl) ?_
                  refine l_val (v := Value.bool (decide (((subR ((subR g keep).1) less).1) = ((subR g both).1)))) rfl (e_assign rfl) ?_
                  refine l_nil ?_
                  refine run_ret (vs := [Value.bool (decide (((subR ((subR g keep).1) less).1) = ((subR g both).1)))]) Try.func3 (.tmp rfl .nil) ?_
                  -- return 5
                  have e0 : ((decide (((subR ((subR g keep).1) less).1) = ((subR g both).1))) : Bool) = (true) := by
                    first
                      | rfl
                      | exact decide_eq_true (subR_bad p25)
                      | exact decide_eq_true (subR_bad p22)
                      | (rw [hsc]; exact decide_eq_true rfl)
                  exact ⟨(congrArg (fun (z0 : Bool) => Ending.returned (Value.bool z0)) e0), hbase.below⟩
              · skip
                refine run_cond_t rfl (congrArg Bool.not (decide_eq_false p25)) ?_
                refine run_seq ?_
                clear bx5
                refine run_region rfl ?_
                refine l_val (v := Value.pointer (some ⟨b179, 0, none⟩)) rfl (e_fieldAddr Try.underlying24 rfl rfl rfl rfl) ?_
                refine l_val (v := Value.int .i64 (((subR ((subR g keep).1) less).1).1)) rfl (e_load_bx1 tp3_n rfl bx184 rfl) ?_
                refine l_val (v := Value.bool (decide ((((subR ((subR g keep).1) less).1).1) = 0))) rfl (e_eql (m := ((subR ((subR g keep).1) less).1).1) (n := 0) rfl rfl) ?_
                refine l_val (v := Value.bool (decide ((((subR ((subR g keep).1) less).1).1) = 0))) rfl (e_assign rfl) ?_
                refine l_nil ?_
                refine run_ret (vs := [Value.bool (decide ((((subR ((subR g keep).1) less).1).1) = 0))]) Try.func3 (.tmp rfl .nil) ?_
                -- return 6
                have e0 : (decide ((((subR ((subR g keep).1) less).1).1) = 0) : Bool) = (true) := by
                  first
                    | rfl
                    | exact decide_eq_true (subR_bad p25)
                    | exact decide_eq_true (subR_bad p22)
                    | (rw [hsc]; exact decide_eq_true rfl)
                exact ⟨(congrArg (fun (z0 : Bool) => Ending.returned (Value.bool z0)) e0), hbase.below⟩
            · skip
              refine run_cond_t rfl (congrArg Bool.not (decide_eq_false p22)) ?_
              refine run_seq ?_
              clear bx5
              refine run_region rfl ?_
              refine l_val (v := Value.pointer (some ⟨b164, 0, none⟩)) rfl (e_fieldAddr Try.underlying24 rfl rfl rfl rfl) ?_
              refine l_val (v := Value.int .i64 (((subR g keep).1).1)) rfl (e_load_bx1 tp3_n rfl bx169 rfl) ?_
              refine l_val (v := Value.bool (decide ((((subR g keep).1).1) = 0))) rfl (e_eql (m := ((subR g keep).1).1) (n := 0) rfl rfl) ?_
              refine l_val (v := Value.bool (decide ((((subR g keep).1).1) = 0))) rfl (e_assign rfl) ?_
              refine l_nil ?_
              refine run_ret (vs := [Value.bool (decide ((((subR g keep).1).1) = 0))]) Try.func3 (.tmp rfl .nil) ?_
              -- return 7
              have e0 : (decide ((((subR g keep).1).1) = 0) : Bool) = (true) := by
                first
                  | rfl
                  | exact decide_eq_true (subR_bad p25)
                  | exact decide_eq_true (subR_bad p22)
                  | (rw [hsc]; exact decide_eq_true rfl)
              exact ⟨(congrArg (fun (z0 : Bool) => Ending.returned (Value.bool z0)) e0), hbase.below⟩
        · skip
          refine run_cond_f rfl (decide_eq_false p6) ?_
          refine run_skip ?_
          refine run_seq ?_
          clear o15
          clear o17
          clear bx27
          refine run_region rfl ?_
          refine l_val (v := Value.agg (List.toArray [Value.int .i64 g.1, g_v])) rfl (e_load_bxN (ds := [Value.int .i64 g.1, g_v]) tp24_n rfl bx5 rfl rfl) ?_
          refine l_val (v := keep_v) rfl (e_move rfl) ?_
          refine l_op rfl ?_
          refine o_callx (e_call (vals := [Value.agg (List.toArray [Value.int .i64 g.1, g_v]), keep_v]) Try.func13 bd13_n nm13_n rfl) (Sub_ok w25 g g_v (r_g_v).ro keep keep_v (r_keep_v).ro) ?_
          rintro ⟨d218, v220⟩ w217 ⟨fr219, o221⟩
          obtain ⟨g222, hg222⟩ : ∃ q, q = glue w25.heap.size g23 d218 (fun n => if n = 1 then 15 else 0) := ⟨_, rfl⟩
          have ch223 := chg_glue fr219.below g23 d218 (fun n => if n = 1 then 15 else 0)
          rw [← hg222] at ch223
          replace hbase := hbase.chg ch223 (not_no _)
          replace r_g_v := r_g_v.chg ch223 (not_no _)
          replace r_nodes_v := r_nodes_v.chg ch223 (not_no _)
          replace r_more_v := r_more_v.chg ch223 (not_no _)
          replace r_keep_v := r_keep_v.chg ch223 (not_no _)
          replace r_less_v := r_less_v.chg ch223 (not_no _)
          replace bx5 := bx5.chg ch223 (not_no _)
          replace o221 := o221.glue (γ := g23) (ren := (fun n => if n = 1 then 15 else 0)) (k := 15) fr219.col rfl rfl
          rw [← hg222] at o221
          clear hg222
          refine l_val (v := Value.tuple (List.toArray [Value.agg (List.toArray [Value.int .i64 (((subR g keep).1).1), v220]), Value.int .i64 ((subR g keep).2)])) rfl (e_move rfl) ?_
          refine l_val (v := Value.agg (List.toArray [Value.int .i64 (((subR g keep).1).1), v220])) rfl (e_extract rfl rfl) ?_
          refine l_val (v := Value.int .i64 ((subR g keep).2)) rfl (e_extract rfl rfl) ?_
          refine l_op rfl ?_
          refine o_alloc g222 (is 16) (16, 0) rfl tp24_n ?_
          intro g227 w224 b226 ch225 bx228
          replace hbase := hbase.chg ch225 (not_no _)
          replace r_g_v := r_g_v.chg ch225 (not_no _)
          replace r_nodes_v := r_nodes_v.chg ch225 (not_no _)
          replace r_more_v := r_more_v.chg ch225 (not_no _)
          replace r_keep_v := r_keep_v.chg ch225 (not_no _)
          replace r_less_v := r_less_v.chg ch225 (not_no _)
          replace bx5 := bx5.chg ch225 (not_no _)
          replace o221 := o221.chg ch225 (not_no _) (not_no _)
          replace bx228 : Bx g227 (is 16) w224 b226 [Value.int .i64 0, Value.slice none 0 0] := bx228
          refine l_op rfl ?_
          refine o_store_bx (cs' := [Value.int .i64 (((subR g keep).1).1), v220]) tp24_n rfl rfl bx228 rfl (Nat.le_of_ble_eq_true rfl) (AllOne.all (.cons rfl (.cons (sl_one o221.flat) .nil))) rfl ?_
          intro w229 ch230 bx231
          replace hbase := hbase.chg ch230 (is_ne rfl)
          replace r_g_v := r_g_v.chg ch230 (is_ne rfl)
          replace r_nodes_v := r_nodes_v.chg ch230 (is_ne rfl)
          replace r_more_v := r_more_v.chg ch230 (is_ne rfl)
          replace r_keep_v := r_keep_v.chg ch230 (is_ne rfl)
          replace r_less_v := r_less_v.chg ch230 (is_ne rfl)
          replace bx5 := bx5.chg ch230 (is_ne rfl)
          replace o221 := o221.chg ch230 (is_ne rfl) (is_ne rfl)
          clear bx228
          refine l_val (v := Value.int .i64 ((subR g keep).2)) rfl (e_assign rfl) ?_
          refine l_nil ?_
          refine run_seq ?_
          refine run_seq ?_
          refine run_region rfl ?_
          refine l_val (v := Value.int .i64 ((subR g keep).2)) rfl (e_move rfl) ?_
          refine l_val (v := Value.bool (!(decide (((subR g keep).2) = 0)))) rfl (e_neq (m := (subR g keep).2) (n := 0) rfl rfl) ?_
          refine l_nil ?_
          by_cases p22 : ((subR g keep).2) = 0
          · skip
            refine run_cond_f rfl (congrArg Bool.not (decide_eq_true p22)) ?_
            refine run_skip ?_
            refine run_seq ?_
            refine run_region rfl ?_
            refine l_val (v := Value.agg (List.toArray [Value.int .i64 (((subR g keep).1).1), v220])) rfl (e_load_bxN (ds := [Value.int .i64 (((subR g keep).1).1), v220]) tp24_n rfl bx231 rfl rfl) ?_
            refine l_val (v := less_v) rfl (e_move rfl) ?_
            refine l_op rfl ?_
            refine o_callx (e_call (vals := [Value.agg (List.toArray [Value.int .i64 (((subR g keep).1).1), v220]), less_v]) Try.func13 bd13_n nm13_n rfl) (Sub_ok w229 ((subR g keep).1) v220 (o221.flat).ro less less_v (r_less_v).ro) ?_
            rintro ⟨d233, v235⟩ w232 ⟨fr234, o236⟩
            obtain ⟨g237, hg237⟩ : ∃ q, q = glue w229.heap.size g227 d233 (fun n => if n = 1 then 17 else 0) := ⟨_, rfl⟩
            have ch238 := chg_glue fr234.below g227 d233 (fun n => if n = 1 then 17 else 0)
            rw [← hg237] at ch238
            replace hbase := hbase.chg ch238 (not_no _)
            replace r_g_v := r_g_v.chg ch238 (not_no _)
            replace r_nodes_v := r_nodes_v.chg ch238 (not_no _)
            replace r_more_v := r_more_v.chg ch238 (not_no _)
            replace r_keep_v := r_keep_v.chg ch238 (not_no _)
            replace r_less_v := r_less_v.chg ch238 (not_no _)
            replace bx5 := bx5.chg ch238 (not_no _)
            replace o221 := o221.chg ch238 (not_no _) (not_no _)
            replace bx231 := bx231.chg ch238 (not_no _)
            replace o236 := o236.glue (γ := g227) (ren := (fun n => if n = 1 then 17 else 0)) (k := 17) fr234.col rfl rfl
            rw [← hg237] at o236
            clear hg237
            refine l_val (v := Value.tuple (List.toArray [Value.agg (List.toArray [Value.int .i64 (((subR ((subR g keep).1) less).1).1), v235]), Value.int .i64 ((subR ((subR g keep).1) less).2)])) rfl (e_move rfl) ?_
            refine l_val (v := Value.agg (List.toArray [Value.int .i64 (((subR ((subR g keep).1) less).1).1), v235])) rfl (e_extract rfl rfl) ?_
            refine l_val (v := Value.int .i64 ((subR ((subR g keep).1) less).2)) rfl (e_extract rfl rfl) ?_
            refine l_op rfl ?_
            refine o_alloc g237 (is 18) (18, 0) rfl tp24_n ?_
            intro g242 w239 b241 ch240 bx243
            replace hbase := hbase.chg ch240 (not_no _)
            replace r_g_v := r_g_v.chg ch240 (not_no _)
            replace r_nodes_v := r_nodes_v.chg ch240 (not_no _)
            replace r_more_v := r_more_v.chg ch240 (not_no _)
            replace r_keep_v := r_keep_v.chg ch240 (not_no _)
            replace r_less_v := r_less_v.chg ch240 (not_no _)
            replace bx5 := bx5.chg ch240 (not_no _)
            replace o221 := o221.chg ch240 (not_no _) (not_no _)
            replace bx231 := bx231.chg ch240 (not_no _)
            replace o236 := o236.chg ch240 (not_no _) (not_no _)
            replace bx243 : Bx g242 (is 18) w239 b241 [Value.int .i64 0, Value.slice none 0 0] := bx243
            refine l_op rfl ?_
            refine o_store_bx (cs' := [Value.int .i64 (((subR ((subR g keep).1) less).1).1), v235]) tp24_n rfl rfl bx243 rfl (Nat.le_of_ble_eq_true rfl) (AllOne.all (.cons rfl (.cons (sl_one o236.flat) .nil))) rfl ?_
            intro w244 ch245 bx246
            replace hbase := hbase.chg ch245 (is_ne rfl)
            replace r_g_v := r_g_v.chg ch245 (is_ne rfl)
            replace r_nodes_v := r_nodes_v.chg ch245 (is_ne rfl)
            replace r_more_v := r_more_v.chg ch245 (is_ne rfl)
            replace r_keep_v := r_keep_v.chg ch245 (is_ne rfl)
            replace r_less_v := r_less_v.chg ch245 (is_ne rfl)
            replace bx5 := bx5.chg ch245 (is_ne rfl)
            replace o221 := o221.chg ch245 (is_ne rfl) (is_ne rfl)
            replace bx231 := bx231.chg ch245 (is_ne rfl)
            replace o236 := o236.chg ch245 (is_ne rfl) (is_ne rfl)
            clear bx243
            refine l_val (v := Value.int .i64 ((subR ((subR g keep).1) less).2)) rfl (e_assign rfl) ?_
            refine l_nil ?_
            refine run_seq ?_
            refine run_seq ?_
            clear o221
            clear bx231
            refine run_region rfl ?_
            refine l_val (v := Value.int .i64 ((subR ((subR g keep).1) less).2)) rfl (e_move rfl) ?_
            refine l_val (v := Value.bool (!(decide (((subR ((subR g keep).1) less).2) = 0)))) rfl (e_neq (m := (subR ((subR g keep).1) less).2) (n := 0) rfl rfl) ?_
            refine l_nil ?_
            by_cases p25 : ((subR ((subR g keep).1) less).2) = 0
            · skip
              have hss := subsub p22 p25
              have hsb := sub_bounds p22 p25
              refine run_cond_f rfl (congrArg Bool.not (decide_eq_true p25)) ?_
              refine run_skip ?_
              refine run_seq ?_
              refine run_region rfl ?_
              refine l_val (v := Value.slice none 0 0) rfl (e_assign rfl) ?_
              refine l_nil ?_
              refine run_seq ?_
              refine run_seq ?_
              refine run_region rfl ?_
              refine l_val (v := Value.int .i64 0) rfl (e_assign rfl) ?_
              refine l_nil ?_
              refine run_block ?_
              refine run_loop (σ := Value × (List Int) × Nat × Cmap) (fun ⟨both_v, both, i, gq⟩ f w => Base w0 gq w ∧ f 3 = keep_v ∧ f 4 = less_v ∧ f 5 = Value.pointer (some ⟨b3, 0, none⟩) ∧ f 25 = Value.pointer (some ⟨b241, 0, none⟩) ∧ f 27 = both_v ∧ f 28 = Value.int .i64 (i : Int) ∧ Sl gq (is 0) w g_v g.2 ∧ Sl gq (is 0) w nodes_v nodes ∧ Sl gq (is 0) w more_v more ∧ Sl gq (is 0) w keep_v keep ∧ Sl gq (is 0) w less_v less ∧ Bx gq (is 1) w b3 [Value.int .i64 g.1, g_v] ∧ Ow gq (is 17) (is 17) w v235 (((subR ((subR g keep).1) less).1).2) ∧ Bx gq (is 18) w b241 [Value.int .i64 (((subR ((subR g keep).1) less).1).1), v235] ∧ Ow gq (is 20) (is 20) w both_v both ∧ (i : Int) ≤ ((List.length less : Int) : Int) ∧ (both = (List.take i less).map (gI (keep)))) (fun ⟨both_v, both, i, gq⟩ => Int.toNat (((List.length less : Int) : Int) - (i : Int))) (Value.slice none 0 0, [], 0, g242) ?_ ?_
              · exact ⟨hbase, rfl, rfl, rfl, rfl, rfl, rfl, r_g_v, r_nodes_v, r_more_v, r_keep_v, r_less_v, bx5, o236, bx246, Ow.nil, by omega, by rfl⟩
              clear r_g_v
              clear r_nodes_v
              clear r_more_v
              clear r_keep_v
              clear r_less_v
              clear bx5
              clear o236
              clear bx246
              clear hbase
              rintro ⟨both_v, both, i, g249⟩ f247 w248 ⟨hbase, zs3, zs4, zs5, zs25, zs27, zs28, r_g_v, r_nodes_v, r_more_v, r_keep_v, r_less_v, bx5, o236, bx246, o_both, hle_i, hinv⟩ back29
              refine run_seq ?_
              refine run_seq ?_
              refine run_region rfl ?_
              refine l_val (v := Value.int .i64 (i : Int)) rfl (e_move (by exact zs28)) ?_
              refine l_val (v := less_v) rfl (e_move (by exact zs4)) ?_
              have len250 := (r_less_v).small
              refine l_val (v := Value.int .i64 (List.length less : Int)) rfl (e_len Try.underlying25 rfl r_less_v) ?_
              refine l_val (v := Value.bool (decide ((i : Int) < (List.length less : Int)))) rfl (e_lss (m := (i : Int)) (n := (List.length less : Int)) rfl rfl) ?_
              refine l_nil ?_
              by_cases p29 : (i : Int) < (List.length less : Int)
              · skip
                refine run_cond_t rfl (decide_eq_true p29) ?_
                have hgm := hsb _ (gI_mem (xs := less) (by omega : (0:Int) ≤ (i : Int)) p29)
                have hbl : both.length = i := by rw [hinv]; simp; omega
                refine run_skip ?_
                refine run_seq ?_
                refine run_block ?_
                refine run_region rfl ?_
                refine l_val (v := both_v) rfl (e_move (by exact zs27)) ?_
                refine l_val (v := keep_v) rfl (e_move (by exact zs3)) ?_
                refine l_val (v := less_v) rfl (e_move (by exact zs4)) ?_
                refine l_val (v := Value.int .i64 (i : Int)) rfl (e_move (by exact zs28)) ?_
                refine l_val (v := Value.pointer (some (eAddr less_v 1 (Int.toNat (i : Int))))) rfl (e_indexAddr (α := Int) (xs := less) (v := less_v) (i := (i : Int)) Try.underlying25 rfl rfl r_less_v rfl (by omega) (by omega)) ?_
                refine l_val (v := Value.int .i64 (gI less (i : Int))) rfl (e_load_el1 (α := Int) (xs := less) (v := less_v) (i := (i : Int)) tp3_n rfl r_less_v (by omega) (by omega) (by decide) rfl) ?_
                refine l_val (v := Value.pointer (some (eAddr keep_v 1 (Int.toNat (gI less (i : Int)))))) rfl (e_indexAddr (α := Int) (xs := keep) (v := keep_v) (i := (gI less (i : Int))) Try.underlying25 rfl rfl r_keep_v rfl (by omega) (by omega)) ?_
                refine l_val (v := Value.int .i64 (gI keep (gI less (i : Int)))) rfl (e_load_el1 (α := Int) (xs := keep) (v := keep_v) (i := (gI less (i : Int))) tp3_n rfl r_keep_v (by omega) (by omega) (by decide) rfl) ?_
                refine l_op rfl ?_
                refine o_buildSlice (α := Int) g249 (is 19) (is 19) (19, 0) rfl [(gI keep (gI less (i : Int)))] Try.underlying25 tp3_n (by decide) (by decide) (vs := [(0, Value.int .i64 (gI keep (gI less (i : Int))))]) rfl rfl (.cons rfl .nil) ?_
                intro g251 w252 v253 ch254 o255
                replace hbase := hbase.chg ch254 (not_no _)
                replace r_g_v := r_g_v.chg ch254 (not_no _)
                replace r_nodes_v := r_nodes_v.chg ch254 (not_no _)
                replace r_more_v := r_more_v.chg ch254 (not_no _)
                replace r_keep_v := r_keep_v.chg ch254 (not_no _)
                replace r_less_v := r_less_v.chg ch254 (not_no _)
                replace bx5 := bx5.chg ch254 (not_no _)
                replace o236 := o236.chg ch254 (not_no _) (not_no _)
                replace bx246 := bx246.chg ch254 (not_no _)
                replace o_both := o_both.chg ch254 (not_no _) (not_no _)
                refine l_op rfl ?_
                refine o_append (α := Int) (xs := both) (ys := ([(gI keep (gI less (i : Int)))])) g251 (J := is 20) (S := is 20) (20, 0) rfl Try.underlying25 tp3_n (by decide) rfl rfl rfl o_both o255.flat (by decide) (by first | omega | (simp; done) | (simp; omega)) ?_
                intro g256 w257 v258 ch259 o260
                replace hbase := hbase.chg ch259 (is_ne rfl)
                replace r_g_v := r_g_v.chg ch259 (is_ne rfl)
                replace r_nodes_v := r_nodes_v.chg ch259 (is_ne rfl)
                replace r_more_v := r_more_v.chg ch259 (is_ne rfl)
                replace r_keep_v := r_keep_v.chg ch259 (is_ne rfl)
                replace r_less_v := r_less_v.chg ch259 (is_ne rfl)
                replace bx5 := bx5.chg ch259 (is_ne rfl)
                replace o236 := o236.chg ch259 (is_ne rfl) (is_ne rfl)
                replace bx246 := bx246.chg ch259 (is_ne rfl)
                replace o255 := o255.chg ch259 (is_ne rfl) (is_ne rfl)
                clear o_both
                refine l_val (v := v258) rfl (e_assign rfl) ?_
                refine l_nil ?_
                refine run_inBlock ?_
                clear o255
                refine run_region rfl ?_
                refine l_val (v := Value.int .i64 (i : Int)) rfl (e_move (by exact zs28)) ?_
                refine l_val (v := Value.int .i64 ((i : Int) + 1)) rfl (e_add (m := (i : Int)) (n := 1) rfl rfl (by omega)) ?_
                refine l_val (v := Value.int .i64 ((i : Int) + 1)) rfl (e_assign rfl) ?_
                refine l_nil ?_
                refine back29 (v258, (both ++ [(gI keep (gI less (i : Int)))]), i + 1, g256) _ _ ⟨hbase, (by exact zs3), (by exact zs4), (by exact zs5), (by exact zs25), rfl, rfl, r_g_v, r_nodes_v, r_more_v, r_keep_v, r_less_v, bx5, o236, bx246, o260, by omega, ?_⟩ ?_
                · show (both ++ [(gI keep (gI less (i : Int)))]) = (List.take (i + 1) less).map (gI (keep))
                  rw [hinv, take_succ_gI (by assumption)]; simp
                · show Int.toNat (((List.length less : Int) : Int) - ((i + 1) : Int)) < Int.toNat (((List.length less : Int) : Int) - (i : Int))
                  omega
              · skip
                have hboth2 : both = less.map (gI keep) := by rw [hinv, show i = less.length by omega]; simp
                have hsc := hss
                rw [← hboth2] at hsc
                refine run_cond_f rfl (decide_eq_false p29) ?_
                refine run_exit rfl ?_
                refine run_seq ?_
                refine run_region rfl ?_
                refine l_val (v := Value.agg (List.toArray [Value.int .i64 g.1, g_v])) rfl (e_load_bxN (ds := [Value.int .i64 g.1, g_v]) tp24_n (by exact zs5) bx5 rfl rfl) ?_
                refine l_val (v := both_v) rfl (e_move (by exact zs27)) ?_
                refine l_op rfl ?_
                refine o_callx (e_call (vals := [Value.agg (List.toArray [Value.int .i64 g.1, g_v]), both_v]) Try.func13 bd13_n nm13_n rfl) (Sub_ok w248 g g_v (r_g_v).ro both both_v (o_both.flat).ro) ?_
                rintro ⟨d262, v264⟩ w261 ⟨fr263, o265⟩
                obtain ⟨g266, hg266⟩ : ∃ q, q = glue w248.heap.size g249 d262 (fun n => if n = 1 then 21 else 0) := ⟨_, rfl⟩
                have ch267 := chg_glue fr263.below g249 d262 (fun n => if n = 1 then 21 else 0)
                rw [← hg266] at ch267
                replace hbase := hbase.chg ch267 (not_no _)
                replace r_g_v := r_g_v.chg ch267 (not_no _)
                replace r_nodes_v := r_nodes_v.chg ch267 (not_no _)
                replace r_more_v := r_more_v.chg ch267 (not_no _)
                replace r_keep_v := r_keep_v.chg ch267 (not_no _)
                replace r_less_v := r_less_v.chg ch267 (not_no _)
                replace bx5 := bx5.chg ch267 (not_no _)
                replace o236 := o236.chg ch267 (not_no _) (not_no _)
                replace bx246 := bx246.chg ch267 (not_no _)
                replace o_both := o_both.chg ch267 (not_no _) (not_no _)
                replace o265 := o265.glue (γ := g249) (ren := (fun n => if n = 1 then 21 else 0)) (k := 21) fr263.col rfl rfl
                rw [← hg266] at o265
                clear hg266
                refine l_val (v := Value.tuple (List.toArray [Value.agg (List.toArray [Value.int .i64 (((subR g both).1).1), v264]), Value.int .i64 ((subR g both).2)])) rfl (e_move rfl) ?_
                refine l_val (v := Value.agg (List.toArray [Value.int .i64 (((subR g both).1).1), v264])) rfl (e_extract rfl rfl) ?_
                refine l_val (v := Value.int .i64 ((subR g both).2)) rfl (e_extract rfl rfl) ?_
                refine l_op rfl ?_
                refine o_alloc g266 (is 22) (22, 0) rfl tp24_n ?_
                intro g271 w268 b270 ch269 bx272
                replace hbase := hbase.chg ch269 (not_no _)
                replace r_g_v := r_g_v.chg ch269 (not_no _)
                replace r_nodes_v := r_nodes_v.chg ch269 (not_no _)
                replace r_more_v := r_more_v.chg ch269 (not_no _)
                replace r_keep_v := r_keep_v.chg ch269 (not_no _)
                replace r_less_v := r_less_v.chg ch269 (not_no _)
                replace bx5 := bx5.chg ch269 (not_no _)
                replace o236 := o236.chg ch269 (not_no _) (not_no _)
                replace bx246 := bx246.chg ch269 (not_no _)
                replace o_both := o_both.chg ch269 (not_no _) (not_no _)
                replace o265 := o265.chg ch269 (not_no _) (not_no _)
                replace bx272 : Bx g271 (is 22) w268 b270 [Value.int .i64 0, Value.slice none 0 0] := bx272
                refine l_op rfl ?_
                refine o_store_bx (cs' := [Value.int .i64 (((subR g both).1).1), v264]) tp24_n rfl rfl bx272 rfl (Nat.le_of_ble_eq_true rfl) (AllOne.all (.cons rfl (.cons (sl_one o265.flat) .nil))) rfl ?_
                intro w273 ch274 bx275
                replace hbase := hbase.chg ch274 (is_ne rfl)
                replace r_g_v := r_g_v.chg ch274 (is_ne rfl)
                replace r_nodes_v := r_nodes_v.chg ch274 (is_ne rfl)
                replace r_more_v := r_more_v.chg ch274 (is_ne rfl)
                replace r_keep_v := r_keep_v.chg ch274 (is_ne rfl)
                replace r_less_v := r_less_v.chg ch274 (is_ne rfl)
                replace bx5 := bx5.chg ch274 (is_ne rfl)
                replace o236 := o236.chg ch274 (is_ne rfl) (is_ne rfl)
                replace bx246 := bx246.chg ch274 (is_ne rfl)
                replace o_both := o_both.chg ch274 (is_ne rfl) (is_ne rfl)
                replace o265 := o265.chg ch274 (is_ne rfl) (is_ne rfl)
                clear bx272
                refine l_val (v := Value.int .i64 ((subR g both).2)) rfl (e_assign rfl) ?_
                refine l_nil ?_
                refine run_seq ?_
                clear bx5
                clear o_both
                refine run_region rfl ?_
                refine l_val (v := Value.int .i64 ((subR g both).2)) rfl (e_move rfl) ?_
                refine l_val (v := Value.bool (decide (((subR g both).2) = 0))) rfl (e_eql (m := (subR g both).2) (n := 0) rfl rfl) ?_
                refine l_val (v := Value.bool (decide (((subR g both).2) = 0))) rfl (e_move rfl) ?_
                have q164_276 : ((subR g both).2) = 0 := by first
  | rfl
  | (rw [hpc]; done)
  | (simp [hpc]; done)
  | (simp [hpc, hedges]; done)
  | (rw [hsc]; done)
                refine l_val (v := Value.agg (List.toArray [Value.int .i64 (((subR ((subR g keep).1) less).1).1), v235])) (want_y rfl rfl rfl (decide_eq_true q164_276)) (e_load_bxN (ds := [Value.int .i64 (((subR ((subR g keep).1) less).1).1), v235]) tp24_n (by exact zs25) bx246 rfl rfl) ?_
                refine l_val (v := Value.agg (List.toArray [Value.int .i64 (((subR g both).1).1), v264])) (want_y rfl rfl rfl (decide_eq_true q164_276)) (e_load_bxN (ds := [Value.int .i64 (((subR g both).1).1), v264]) tp24_n rfl bx275 rfl rfl) ?_
                refine l_op (want_y rfl rfl rfl (decide_eq_true q164_276)) ?_
                refine o_call (v := Value.bool (decide (((subR ((subR g keep).1) less).1) = ((subR g both).1)))) (e_call (vals := [Value.agg (List.toArray [Value.int .i64 (((subR ((subR g keep).1) less).1).1), v235]), Value.agg (List.toArray [Value.int .i64 (((subR g both).1).1), v264])]) Try.func11 bd11_n nm11_n rfl) (Same_ok w273 ((subR ((subR g keep).1) less).1) v235 (o236.flat).ro ((subR g both).1) v264 (o265.flat).ro) ?_
                intro w277 hb278
                replace hb278 := chg_below hb278 g271
                replace hbase := hbase.chg hb278 (not_no _)
                replace r_g_v := r_g_v.chg hb278 (not_no _)
                replace r_nodes_v := r_nodes_v.chg hb278 (not_no _)
                replace r_more_v := r_more_v.chg hb278 (not_no _)
                replace r_keep_v := r_keep_v.chg hb278 (not_no _)
                replace r_less_v := r_less_v.chg hb278 (not_no _)
                replace o236 := o236.chg hb278 (not_no _) (not_no _)
                replace bx246 := bx246.chg hb278 (not_no _)
                replace o265 := o265.chg hb278 (not_no _) (not_no _)
                replace bx275 := bx275.chg hb278 (not_no _)
                refine l_val (v := Value.bool (decide (((subR ((subR g keep).1) less).1) = ((subR g both).1)))) rfl (e_pick_t rfl (decide_eq_true q164_276) rfl) ?_
                refine l_val (v := Value.bool (decide (((subR ((subR g keep).1) less).1) = ((subR g both).1)))) rfl (e_assign rfl) ?_
                refine l_nil ?_
                refine run_ret (vs := [Value.bool (decide (((subR ((subR g keep).1) less).1) = ((subR g both).1)))]) Try.func3 (.tmp rfl .nil) ?_
                -- return 8
                have e0 : ((decide (((subR ((subR g keep).1) less).1) = ((subR g both).1))) : Bool) = (true) := by
                  first
                    | rfl
                    | exact decide_eq_true (subR_bad p25)
                    | exact decide_eq_true (subR_bad p22)
                    | (rw [hsc]; exact decide_eq_true rfl)
                exact ⟨(congrArg (fun (z0 : Bool) => Ending.returned (Value.bool z0)) e0), hbase.below⟩
            · skip
              refine run_cond_t rfl (congrArg Bool.not (decide_eq_false p25)) ?_
              refine run_seq ?_
              clear bx5
              refine run_region rfl ?_
              refine l_val (v := Value.pointer (some ⟨b241, 0, none⟩)) rfl (e_fieldAddr Try.underlying24 rfl rfl rfl rfl) ?_
              refine l_val (v := Value.int .i64 (((subR ((subR g keep).1) less).1).1)) rfl (e_load_bx1 tp3_n rfl bx246 rfl) ?_
              refine l_val (v := Value.bool (decide ((((subR ((subR g keep).1) less).1).1) = 0))) rfl (e_eql (m := ((subR ((subR g keep).1) less).1).1) (n := 0) rfl rfl) ?_
              refine l_val (v := Value.bool (decide ((((subR ((subR g keep).1) less).1).1) = 0))) rfl (e_assign rfl) ?_
              refine l_nil ?_
              refine run_ret (vs := [Value.bool (decide ((((subR ((subR g keep).1) less).1).1) = 0))]) Try.func3 (.tmp rfl .nil) ?_
              -- return 9
              have e0 : (decide ((((subR ((subR g keep).1) less).1).1) = 0) : Bool) = (true) := by
                first
                  | rfl
                  | exact decide_eq_true (subR_bad p25)
                  | exact decide_eq_true (subR_bad p22)
                  | (rw [hsc]; exact decide_eq_true rfl)
              exact ⟨(congrArg (fun (z0 : Bool) => Ending.returned (Value.bool z0)) e0), hbase.below⟩
          · skip
            refine run_cond_t rfl (congrArg Bool.not (decide_eq_false p22)) ?_
            refine run_seq ?_
            clear bx5
            refine run_region rfl ?_
            refine l_val (v := Value.pointer (some ⟨b226, 0, none⟩)) rfl (e_fieldAddr Try.underlying24 rfl rfl rfl rfl) ?_
            refine l_val (v := Value.int .i64 (((subR g keep).1).1)) rfl (e_load_bx1 tp3_n rfl bx231 rfl) ?_
            refine l_val (v := Value.bool (decide ((((subR g keep).1).1) = 0))) rfl (e_eql (m := ((subR g keep).1).1) (n := 0) rfl rfl) ?_
            refine l_val (v := Value.bool (decide ((((subR g keep).1).1) = 0))) rfl (e_assign rfl) ?_
            refine l_nil ?_
            refine run_ret (vs := [Value.bool (decide ((((subR g keep).1).1) = 0))]) Try.func3 (.tmp rfl .nil) ?_
            -- return 10
            have e0 : (decide ((((subR g keep).1).1) = 0) : Bool) = (true) := by
              first
                | rfl
                | exact decide_eq_true (subR_bad p25)
                | exact decide_eq_true (subR_bad p22)
                | (rw [hsc]; exact decide_eq_true rfl)
            exact ⟨(congrArg (fun (z0 : Bool) => Ending.returned (Value.bool z0)) e0), hbase.below⟩
  · skip
    refine l_skip (want_n rfl rfl rfl (congrArg Bool.not (Bool.eq_false_iff.2 q36))) ?_
    refine l_skip (want_n rfl rfl rfl (congrArg Bool.not (Bool.eq_false_iff.2 q36))) ?_
    refine l_skip (want_n rfl rfl rfl (congrArg Bool.not (Bool.eq_false_iff.2 q36))) ?_
    refine l_val (v := Value.bool true) rfl (e_pick_t rfl (congrArg Bool.not (Bool.eq_false_iff.2 q36)) rfl) ?_
    refine l_val (v := Value.bool true) rfl (e_move rfl) ?_
    refine l_skip (want_n rfl rfl rfl rfl) ?_
    refine l_skip (want_n rfl rfl rfl rfl) ?_
    refine l_skip (want_n rfl rfl rfl rfl) ?_
    refine l_skip (want_n rfl rfl rfl rfl) ?_
    refine l_val (v := Value.bool true) rfl (e_pick_t rfl rfl rfl) ?_
    refine l_nil ?_
    refine run_cond_t rfl rfl ?_
    refine run_seq ?_
    clear bx5
    refine run_region rfl ?_
    refine l_val (v := Value.bool true) rfl (e_assign rfl) ?_
    refine l_nil ?_
    refine run_ret (vs := [Value.bool true]) Try.func3 (.tmp rfl .nil) ?_
    -- return 11
    have e0 : (true : Bool) = (true) := by
      first
        | rfl
        | exact decide_eq_true (subR_bad p25)
        | exact decide_eq_true (subR_bad p22)
        | (rw [hsc]; exact decide_eq_true rfl)
    exact ⟨(congrArg (fun (z0 : Bool) => Ending.returned (Value.bool z0)) e0), hbase.below⟩
end TL
