import Derived.Test.YtifpjbjhkabhgaaTlGmA
import Derived.Test.YtifpjbjhkabhgaaTlGmM
import Derived.Test.YtifpjbjhkabhgaaTlGmB
import Derived.Test.YtifpjbjhkabhgaaTlGeomT
import Derived.Test.YtifpjbjhkabhgaaProg
import Derived.Test.YtifpjbjhkabhgaaTlNet2
import Derived.Test.YtifpjbjhkabhgaaTlEq
import Derived.Test.YtifpjbjhkabhgaaTlHold
import Derived.Test.YtifpjbjhkabhgaaTlDraw
import Derived.Test.YtifpjbjhkabhgaaTlMap
set_option linter.all false
set_option maxRecDepth 20000
namespace TL
open Go Go.Proofs
theorem mixed_gt : Try.prog.follows .mixedOrders = true := by kernel_rfl
theorem tp3_gt : Tp Try.prog 3 false 1 8 (.int .i64 0) := Tp.of (by kernel_rfl)
theorem tp23_gt : Tp Try.prog 23 true 2 16 (.agg #[.int .i64 0, .int .i64 0]) := Tp.of (by kernel_rfl)
theorem bd12_gt : Try.f12.body.isNone = false := rfl
theorem nm12_gt : (Try.f12.name == "runtime.NumGoroutine") = false := by decide +kernel
theorem bd13_gt : Try.f13.body.isNone = false := rfl
theorem nm13_gt : (Try.f13.name == "runtime.NumGoroutine") = false := by decide +kernel
theorem bd14_gt : Try.f14.body.isNone = false := rfl
theorem nm14_gt : (Try.f14.name == "runtime.NumGoroutine") = false := by decide +kernel
theorem bd15_gt : Try.f15.body.isNone = false := rfl
theorem nm15_gt : (Try.f15.name == "runtime.NumGoroutine") = false := by decide +kernel

set_option maxHeartbeats 4000000 in
theorem GeomTurns_ok (w0 : World) (a : (Int) × (Int)) (b : (Int) × (Int)) (c : (Int) × (Int)) (d : (Int) × (Int)) (q : (Int) × (Int)) :
    Calls Try.prog 3 #[Value.agg (List.toArray [Value.int .i64 a.1, Value.int .i64 a.2]), Value.agg (List.toArray [Value.int .i64 b.1, Value.int .i64 b.2]), Value.agg (List.toArray [Value.int .i64 c.1, Value.int .i64 c.2]), Value.agg (List.toArray [Value.int .i64 d.1, Value.int .i64 d.2]), Value.agg (List.toArray [Value.int .i64 q.1, Value.int .i64 q.2])] w0 (fun ee w => ee = .returned (Value.bool true) ∧ RowKit.Below w0.heap.size w0 w) := by
 refine calls_of_run Try.func3 rfl (Nat.le_of_ble_eq_true rfl) ?_
 have hbase := Base.start w0
 refine run_seq ?_
 refine run_region rfl ?_
 refine l_op rfl ?_
 refine o_box c0 (is 1) (1, 0) rfl rfl ?_
 intro g4 w1 b3 ch2 bx5
 replace bx5 : Bx g4 (is 1) w1 b3 [Value.int .i64 a.1, Value.int .i64 a.2] := bx5
 refine l_op rfl ?_
 refine o_box g4 (is 2) (2, 0) rfl rfl ?_
 intro g9 w6 b8 ch7 bx10
 replace bx10 : Bx g9 (is 2) w6 b8 [Value.int .i64 b.1, Value.int .i64 b.2] := bx10
 refine l_op rfl ?_
 refine o_box g9 (is 3) (3, 0) rfl rfl ?_
 intro g14 w11 b13 ch12 bx15
 replace bx15 : Bx g14 (is 3) w11 b13 [Value.int .i64 c.1, Value.int .i64 c.2] := bx15
 refine l_op rfl ?_
 refine o_box g14 (is 4) (4, 0) rfl rfl ?_
 intro g19 w16 b18 ch17 bx20
 replace bx20 : Bx g19 (is 4) w16 b18 [Value.int .i64 d.1, Value.int .i64 d.2] := bx20
 refine l_op rfl ?_
 refine o_box g19 (is 5) (5, 0) rfl rfl ?_
 intro g24 w21 b23 ch22 bx25
 replace bx25 : Bx g24 (is 5) w21 b23 [Value.int .i64 q.1, Value.int .i64 q.2] := bx25
 refine l_val (v := Value.bool false) rfl (e_assign rfl) ?_
 refine l_nil ?_
 refine run_seq ?_
 refine run_seq ?_
 refine run_region rfl ?_
 refine l_op rfl ?_
 refine o_call (v := Value.bool true) (e_call (vals := []) Try.func12 bd12_gt nm12_gt rfl) (begun2_ok w21 ) ?_
 intro w26 hb27
 replace hb27 := chg_below hb27 g24
 refine l_val (v := Value.bool false) rfl (e_not (b := true) rfl) ?_
 refine l_nil ?_
 refine run_cond_f rfl rfl ?_
 refine run_skip ?_
 refine run_seq ?_
 refine run_region rfl ?_
 have C28 : Chg (inl []) _ _ _ _ := (ch7.n).seq ((ch12.n).seq ((ch17.n).seq ((ch22.n).seq (hb27.n))))
 replace bx5 := bx5.chg C28 (is_nl rfl)
 refine l_val (v := Value.agg (List.toArray [Value.int .i64 a.1, Value.int .i64 a.2])) rfl (e_load_bxN (ds := [Value.int .i64 a.1, Value.int .i64 a.2]) tp23_gt rfl bx5 rfl rfl) ?_
 have C29 : Chg (inl []) _ _ _ _ := (ch12.n).seq ((ch17.n).seq ((ch22.n).seq (hb27.n)))
 replace bx10 := bx10.chg C29 (is_nl rfl)
 refine l_val (v := Value.agg (List.toArray [Value.int .i64 b.1, Value.int .i64 b.2])) rfl (e_load_bxN (ds := [Value.int .i64 b.1, Value.int .i64 b.2]) tp23_gt rfl bx10 rfl rfl) ?_
 have C30 : Chg (inl []) _ _ _ _ := (ch17.n).seq ((ch22.n).seq (hb27.n))
 replace bx15 := bx15.chg C30 (is_nl rfl)
 refine l_val (v := Value.agg (List.toArray [Value.int .i64 c.1, Value.int .i64 c.2])) rfl (e_load_bxN (ds := [Value.int .i64 c.1, Value.int .i64 c.2]) tp23_gt rfl bx15 rfl rfl) ?_
 replace bx20 := (bx20.chg ch22 (not_no _)).chg hb27 (not_no _)
 refine l_val (v := Value.agg (List.toArray [Value.int .i64 d.1, Value.int .i64 d.2])) rfl (e_load_bxN (ds := [Value.int .i64 d.1, Value.int .i64 d.2]) tp23_gt rfl bx20 rfl rfl) ?_
 replace bx25 := bx25.chg hb27 (not_no _)
 refine l_val (v := Value.agg (List.toArray [Value.int .i64 q.1, Value.int .i64 q.2])) rfl (e_load_bxN (ds := [Value.int .i64 q.1, Value.int .i64 q.2]) tp23_gt rfl bx25 rfl rfl) ?_
 refine l_op rfl ?_
 refine o_buildSlice (α := (Int) × (Int)) g24 (is 6) (is 6) (6, 0) rfl ([a, b, c, d, q] : List ((Int) × (Int))) Try.underlying25 tp23_gt (by decide) (by decide) (vs := [(0, Value.agg (List.toArray [Value.int .i64 a.1, Value.int .i64 a.2])), (1, Value.agg (List.toArray [Value.int .i64 b.1, Value.int .i64 b.2])), (2, Value.agg (List.toArray [Value.int .i64 c.1, Value.int .i64 c.2])), (3, Value.agg (List.toArray [Value.int .i64 d.1, Value.int .i64 d.2])), (4, Value.agg (List.toArray [Value.int .i64 q.1, Value.int .i64 q.2]))]) rfl rfl (.cons rfl (.cons rfl (.cons rfl (.cons rfl (.cons rfl .nil))))) ?_
 intro g31 w32 v33 ch34 o35
 refine l_val (v := v33) rfl (e_assign rfl) ?_
 refine l_nil ?_
 refine run_seq ?_
 refine run_seq ?_
 refine run_region rfl ?_
 refine l_val (v := Value.int .i64 0) rfl (e_assign rfl) ?_
 refine l_nil ?_
 refine run_block ?_
 refine run_loop0 ?_
 refine run_seq ?_
 refine run_seq ?_
 refine run_region rfl ?_
 refine l_val (v := Value.int .i64 0) rfl (e_move rfl) ?_
 refine l_val (v := Value.bool true) rfl (e_lss (m := 0) (n := 5) rfl rfl) ?_
 refine l_nil ?_
 refine run_cond_t rfl rfl ?_
 refine run_skip ?_
 refine run_seq ?_
 refine run_block ?_
 refine run_seq ?_
 refine run_region rfl ?_
 refine l_val (v := v33) rfl (e_move rfl) ?_
 refine l_val (v := Value.int .i64 0) rfl (e_move rfl) ?_
 refine l_val (v := Value.pointer (some (eAddr v33 2 (Int.toNat 0)))) rfl (e_indexAddr (α := (Int) × (Int)) (xs := ([a, b, c, d, q] : List ((Int) × (Int)))) (v := v33) (i := 0) Try.underlying25 rfl rfl o35.flat rfl (by omega) (by first | omega | (simp only [List.length_set, List.length_append, List.length_cons, List.length_nil, List.length_replicate, List.length_map, List.length_take, List.length_drop]; omega) | (simp; done) | (simp; omega))) ?_
 refine l_val (v := Value.pointer (some ⟨(eAddr v33 2 (Int.toNat 0)).block, (eAddr v33 2 (Int.toNat 0)).off + 0, none⟩)) rfl (e_fieldAddr_el Try.underlying23 rfl rfl rfl rfl) ?_
 refine l_val (v := Value.int .i64 a.1) rfl (e_load_elF (α := (Int) × (Int)) (xs := ([a, b, c, d, q] : List ((Int) × (Int)))) (v := v33) (i := 0) tp3_gt rfl o35.flat (by omega) (by first | omega | (simp only [List.length_set, List.length_append, List.length_cons, List.length_nil, List.length_replicate, List.length_map, List.length_take, List.length_drop]; omega) | (simp; done) | (simp; omega)) (by decide) rfl) ?_
 refine l_val (v := Value.bool (decide (a.1 < (-262144)))) rfl (e_lss (m := a.1) (n := -262144) rfl rfl) ?_
 refine l_val (v := Value.bool (decide (a.1 < (-262144)))) rfl (e_move rfl) ?_
 by_cases q52 : a.1 < (-262144)
 ·
  refine l_skip (want_n rfl rfl rfl (decide_eq_true q52)) ?_
  refine l_skip (want_n rfl rfl rfl (decide_eq_true q52)) ?_
  refine l_skip (want_n rfl rfl rfl (decide_eq_true q52)) ?_
  refine l_skip (want_n rfl rfl rfl (decide_eq_true q52)) ?_
  refine l_skip (want_n rfl rfl rfl (decide_eq_true q52)) ?_
  refine l_skip (want_n rfl rfl rfl (decide_eq_true q52)) ?_
  refine l_val (v := Value.bool true) rfl (e_pick_t rfl (decide_eq_true q52) rfl) ?_
  refine l_val (v := Value.bool true) rfl (e_move rfl) ?_
  refine l_skip (want_n rfl rfl rfl rfl) ?_
  refine l_skip (want_n rfl rfl rfl rfl) ?_
  refine l_skip (want_n rfl rfl rfl rfl) ?_
  refine l_skip (want_n rfl rfl rfl rfl) ?_
  refine l_skip (want_n rfl rfl rfl rfl) ?_
  refine l_skip (want_n rfl rfl rfl rfl) ?_
  refine l_val (v := Value.bool true) rfl (e_pick_t rfl rfl rfl) ?_
  refine l_val (v := Value.bool true) rfl (e_move rfl) ?_
  refine l_skip (want_n rfl rfl rfl rfl) ?_
  refine l_skip (want_n rfl rfl rfl rfl) ?_
  refine l_skip (want_n rfl rfl rfl rfl) ?_
  refine l_skip (want_n rfl rfl rfl rfl) ?_
  refine l_skip (want_n rfl rfl rfl rfl) ?_
  refine l_skip (want_n rfl rfl rfl rfl) ?_
  refine l_val (v := Value.bool true) rfl (e_pick_t rfl rfl rfl) ?_
  refine l_nil ?_
  refine run_cond_t rfl rfl ?_
  refine run_seq ?_
  clear bx5
  clear bx10
  clear bx15
  clear bx20
  clear bx25
  clear o35
  refine run_region rfl ?_
  refine l_val (v := Value.bool true) rfl (e_assign rfl) ?_
  refine l_nil ?_
  refine run_ret (vs := [Value.bool true]) Try.func3 (.tmp rfl .nil) ?_
  -- return 0
  have e0 : (true : Bool) = (true) := by
    first
      | rfl
      | exact decide_eq_true hl7
      | exact (decide_eq_true hl7).symm
  have C36 : Chg (inl []) _ _ _ _ := (ch2.n).seq ((ch7.n).seq ((ch12.n).seq ((ch17.n).seq ((ch22.n).seq ((hb27.n).seq (ch34.n))))))
  replace hbase := hbase.chg C36 (is_nl rfl)
  exact ⟨(congrArg (a₁ := true) (fun (z0 : Bool) => Ending.returned (Value.bool z0)) e0), hbase.below⟩
 refine l_val (v := v33) (want_y rfl rfl rfl (decide_eq_false q52)) (e_move rfl) ?_
 refine l_val (v := Value.int .i64 0) (want_y rfl rfl rfl (decide_eq_false q52)) (e_move rfl) ?_
 refine l_val (v := Value.pointer (some (eAddr v33 2 (Int.toNat 0)))) (want_y rfl rfl rfl (decide_eq_false q52)) (e_indexAddr (α := (Int) × (Int)) (xs := ([a, b, c, d, q] : List ((Int) × (Int)))) (v := v33) (i := 0) Try.underlying25 rfl rfl o35.flat rfl (by omega) (by first | omega | (simp only [List.length_set, List.length_append, List.length_cons, List.length_nil, List.length_replicate, List.length_map, List.length_take, List.length_drop]; omega) | (simp; done) | (simp; omega))) ?_
 refine l_val (v := Value.pointer (some ⟨(eAddr v33 2 (Int.toNat 0)).block, (eAddr v33 2 (Int.toNat 0)).off + 0, none⟩)) (want_y rfl rfl rfl (decide_eq_false q52)) (e_fieldAddr_el Try.underlying23 rfl rfl rfl rfl) ?_
 refine l_val (v := Value.int .i64 a.1) (want_y rfl rfl rfl (decide_eq_false q52)) (e_load_elF (α := (Int) × (Int)) (xs := ([a, b, c, d, q] : List ((Int) × (Int)))) (v := v33) (i := 0) tp3_gt rfl o35.flat (by omega) (by first | omega | (simp only [List.length_set, List.length_append, List.length_cons, List.length_nil, List.length_replicate, List.length_map, List.length_take, List.length_drop]; omega) | (simp; done) | (simp; omega)) (by decide) rfl) ?_
 refine l_val (v := Value.bool (decide (262144 < a.1))) (want_y rfl rfl rfl (decide_eq_false q52)) (e_gtr (m := a.1) (n := 262144) rfl rfl) ?_
 refine l_val (v := Value.bool (decide (262144 < a.1))) rfl (e_pick_f rfl (decide_eq_false q52) rfl) ?_
 refine l_val (v := Value.bool (decide (262144 < a.1))) rfl (e_move rfl) ?_
 by_cases q60 : 262144 < a.1
 ·
  refine l_skip (want_n rfl rfl rfl (decide_eq_true q60)) ?_
  refine l_skip (want_n rfl rfl rfl (decide_eq_true q60)) ?_
  refine l_skip (want_n rfl rfl rfl (decide_eq_true q60)) ?_
  refine l_skip (want_n rfl rfl rfl (decide_eq_true q60)) ?_
  refine l_skip (want_n rfl rfl rfl (decide_eq_true q60)) ?_
  refine l_skip (want_n rfl rfl rfl (decide_eq_true q60)) ?_
  refine l_val (v := Value.bool true) rfl (e_pick_t rfl (decide_eq_true q60) rfl) ?_
  refine l_val (v := Value.bool true) rfl (e_move rfl) ?_
  refine l_skip (want_n rfl rfl rfl rfl) ?_
  refine l_skip (want_n rfl rfl rfl rfl) ?_
  refine l_skip (want_n rfl rfl rfl rfl) ?_
  refine l_skip (want_n rfl rfl rfl rfl) ?_
  refine l_skip (want_n rfl rfl rfl rfl) ?_
  refine l_skip (want_n rfl rfl rfl rfl) ?_
  refine l_val (v := Value.bool true) rfl (e_pick_t rfl rfl rfl) ?_
  refine l_nil ?_
  refine run_cond_t rfl rfl ?_
  refine run_seq ?_
  clear bx5
  clear bx10
  clear bx15
  clear bx20
  clear bx25
  clear o35
  refine run_region rfl ?_
  refine l_val (v := Value.bool true) rfl (e_assign rfl) ?_
  refine l_nil ?_
  refine run_ret (vs := [Value.bool true]) Try.func3 (.tmp rfl .nil) ?_
  -- return 1
  have e0 : (true : Bool) = (true) := by
    first
      | rfl
      | exact decide_eq_true hl7
      | exact (decide_eq_true hl7).symm
  have C37 : Chg (inl []) _ _ _ _ := (ch2.n).seq ((ch7.n).seq ((ch12.n).seq ((ch17.n).seq ((ch22.n).seq ((hb27.n).seq (ch34.n))))))
  replace hbase := hbase.chg C37 (is_nl rfl)
  exact ⟨(congrArg (a₁ := true) (fun (z0 : Bool) => Ending.returned (Value.bool z0)) e0), hbase.below⟩
 refine l_val (v := v33) (want_y rfl rfl rfl (decide_eq_false q60)) (e_move rfl) ?_
 refine l_val (v := Value.int .i64 0) (want_y rfl rfl rfl (decide_eq_false q60)) (e_move rfl) ?_
 refine l_val (v := Value.pointer (some (eAddr v33 2 (Int.toNat 0)))) (want_y rfl rfl rfl (decide_eq_false q60)) (e_indexAddr (α := (Int) × (Int)) (xs := ([a, b, c, d, q] : List ((Int) × (Int)))) (v := v33) (i := 0) Try.underlying25 rfl rfl o35.flat rfl (by omega) (by first | omega | (simp only [List.length_set, List.length_append, List.length_cons, List.length_nil, List.length_replicate, List.length_map, List.length_take, List.length_drop]; omega) | (simp; done) | (simp; omega))) ?_
 refine l_val (v := Value.pointer (some ⟨(eAddr v33 2 (Int.toNat 0)).block, (eAddr v33 2 (Int.toNat 0)).off + 1, none⟩)) (want_y rfl rfl rfl (decide_eq_false q60)) (e_fieldAddr_el Try.underlying23 rfl rfl rfl rfl) ?_
 refine l_val (v := Value.int .i64 a.2) (want_y rfl rfl rfl (decide_eq_false q60)) (e_load_elF (α := (Int) × (Int)) (xs := ([a, b, c, d, q] : List ((Int) × (Int)))) (v := v33) (i := 0) tp3_gt rfl o35.flat (by omega) (by first | omega | (simp only [List.length_set, List.length_append, List.length_cons, List.length_nil, List.length_replicate, List.length_map, List.length_take, List.length_drop]; omega) | (simp; done) | (simp; omega)) (by decide) rfl) ?_
 refine l_val (v := Value.bool (decide (a.2 < (-262144)))) (want_y rfl rfl rfl (decide_eq_false q60)) (e_lss (m := a.2) (n := -262144) rfl rfl) ?_
 refine l_val (v := Value.bool (decide (a.2 < (-262144)))) rfl (e_pick_f rfl (decide_eq_false q60) rfl) ?_
 refine l_val (v := Value.bool (decide (a.2 < (-262144)))) rfl (e_move rfl) ?_
 by_cases q68 : a.2 < (-262144)
 ·
  refine l_skip (want_n rfl rfl rfl (decide_eq_true q68)) ?_
  refine l_skip (want_n rfl rfl rfl (decide_eq_true q68)) ?_
  refine l_skip (want_n rfl rfl rfl (decide_eq_true q68)) ?_
  refine l_skip (want_n rfl rfl rfl (decide_eq_true q68)) ?_
  refine l_skip (want_n rfl rfl rfl (decide_eq_true q68)) ?_
  refine l_skip (want_n rfl rfl rfl (decide_eq_true q68)) ?_
  refine l_val (v := Value.bool true) rfl (e_pick_t rfl (decide_eq_true q68) rfl) ?_
  refine l_nil ?_
  refine run_cond_t rfl rfl ?_
  refine run_seq ?_
  clear bx5
  clear bx10
  clear bx15
  clear bx20
  clear bx25
  clear o35
  refine run_region rfl ?_
  refine l_val (v := Value.bool true) rfl (e_assign rfl) ?_
  refine l_nil ?_
  refine run_ret (vs := [Value.bool true]) Try.func3 (.tmp rfl .nil) ?_
  -- return 2
  have e0 : (true : Bool) = (true) := by
    first
      | rfl
      | exact decide_eq_true hl7
      | exact (decide_eq_true hl7).symm
  have C38 : Chg (inl []) _ _ _ _ := (ch2.n).seq ((ch7.n).seq ((ch12.n).seq ((ch17.n).seq ((ch22.n).seq ((hb27.n).seq (ch34.n))))))
  replace hbase := hbase.chg C38 (is_nl rfl)
  exact ⟨(congrArg (a₁ := true) (fun (z0 : Bool) => Ending.returned (Value.bool z0)) e0), hbase.below⟩
 refine l_val (v := v33) (want_y rfl rfl rfl (decide_eq_false q68)) (e_move rfl) ?_
 refine l_val (v := Value.int .i64 0) (want_y rfl rfl rfl (decide_eq_false q68)) (e_move rfl) ?_
 refine l_val (v := Value.pointer (some (eAddr v33 2 (Int.toNat 0)))) (want_y rfl rfl rfl (decide_eq_false q68)) (e_indexAddr (α := (Int) × (Int)) (xs := ([a, b, c, d, q] : List ((Int) × (Int)))) (v := v33) (i := 0) Try.underlying25 rfl rfl o35.flat rfl (by omega) (by first | omega | (simp only [List.length_set, List.length_append, List.length_cons, List.length_nil, List.length_replicate, List.length_map, List.length_take, List.length_drop]; omega) | (simp; done) | (simp; omega))) ?_
 refine l_val (v := Value.pointer (some ⟨(eAddr v33 2 (Int.toNat 0)).block, (eAddr v33 2 (Int.toNat 0)).off + 1, none⟩)) (want_y rfl rfl rfl (decide_eq_false q68)) (e_fieldAddr_el Try.underlying23 rfl rfl rfl rfl) ?_
 refine l_val (v := Value.int .i64 a.2) (want_y rfl rfl rfl (decide_eq_false q68)) (e_load_elF (α := (Int) × (Int)) (xs := ([a, b, c, d, q] : List ((Int) × (Int)))) (v := v33) (i := 0) tp3_gt rfl o35.flat (by omega) (by first | omega | (simp only [List.length_set, List.length_append, List.length_cons, List.length_nil, List.length_replicate, List.length_map, List.length_take, List.length_drop]; omega) | (simp; done) | (simp; omega)) (by decide) rfl) ?_
 refine l_val (v := Value.bool (decide (262144 < a.2))) (want_y rfl rfl rfl (decide_eq_false q68)) (e_gtr (m := a.2) (n := 262144) rfl rfl) ?_
 refine l_val (v := Value.bool (decide (262144 < a.2))) rfl (e_pick_f rfl (decide_eq_false q68) rfl) ?_
 refine l_nil ?_
 by_cases p7 : 262144 < a.2
 ·
  refine run_cond_t rfl (decide_eq_true p7) ?_
  refine run_seq ?_
  clear bx5
  clear bx10
  clear bx15
  clear bx20
  clear bx25
  clear o35
  refine run_region rfl ?_
  refine l_val (v := Value.bool true) rfl (e_assign rfl) ?_
  refine l_nil ?_
  refine run_ret (vs := [Value.bool true]) Try.func3 (.tmp rfl .nil) ?_
  -- return 3
  have e0 : (true : Bool) = (true) := by
    first
      | rfl
      | exact decide_eq_true hl7
      | exact (decide_eq_true hl7).symm
  have C39 : Chg (inl []) _ _ _ _ := (ch2.n).seq ((ch7.n).seq ((ch12.n).seq ((ch17.n).seq ((ch22.n).seq ((hb27.n).seq (ch34.n))))))
  replace hbase := hbase.chg C39 (is_nl rfl)
  exact ⟨(congrArg (a₁ := true) (fun (z0 : Bool) => Ending.returned (Value.bool z0)) e0), hbase.below⟩
 refine run_cond_f rfl (decide_eq_false p7) ?_
 refine run_skip ?_
 refine run_inBlock ?_
 refine run_region rfl ?_
 refine l_val (v := Value.int .i64 0) rfl (e_move rfl) ?_
 refine l_val (v := Value.int .i64 1) rfl (e_add (m := 0) (n := 1) rfl rfl (by omega)) ?_
 refine l_val (v := Value.int .i64 1) rfl (e_assign rfl) ?_
 refine l_nil ?_
 refine run_inLoop ?_
 refine run_seq ?_
 refine run_seq ?_
 refine run_region rfl ?_
 refine l_val (v := Value.int .i64 1) rfl (e_move rfl) ?_
 refine l_val (v := Value.bool true) rfl (e_lss (m := 1) (n := 5) rfl rfl) ?_
 refine l_nil ?_
 refine run_cond_t rfl rfl ?_
 refine run_skip ?_
 refine run_seq ?_
 refine run_block ?_
 refine run_seq ?_
 refine run_region rfl ?_
 refine l_val (v := v33) rfl (e_move rfl) ?_
 refine l_val (v := Value.int .i64 1) rfl (e_move rfl) ?_
 refine l_val (v := Value.pointer (some (eAddr v33 2 (Int.toNat 1)))) rfl (e_indexAddr (α := (Int) × (Int)) (xs := ([a, b, c, d, q] : List ((Int) × (Int)))) (v := v33) (i := 1) Try.underlying25 rfl rfl o35.flat rfl (by omega) (by first | omega | (simp only [List.length_set, List.length_append, List.length_cons, List.length_nil, List.length_replicate, List.length_map, List.length_take, List.length_drop]; omega) | (simp; done) | (simp; omega))) ?_
 refine l_val (v := Value.pointer (some ⟨(eAddr v33 2 (Int.toNat 1)).block, (eAddr v33 2 (Int.toNat 1)).off + 0, none⟩)) rfl (e_fieldAddr_el Try.underlying23 rfl rfl rfl rfl) ?_
 refine l_val (v := Value.int .i64 b.1) rfl (e_load_elF (α := (Int) × (Int)) (xs := ([a, b, c, d, q] : List ((Int) × (Int)))) (v := v33) (i := 1) tp3_gt rfl o35.flat (by omega) (by first | omega | (simp only [List.length_set, List.length_append, List.length_cons, List.length_nil, List.length_replicate, List.length_map, List.length_take, List.length_drop]; omega) | (simp; done) | (simp; omega)) (by decide) rfl) ?_
 refine l_val (v := Value.bool (decide (b.1 < (-262144)))) rfl (e_lss (m := b.1) (n := -262144) rfl rfl) ?_
 refine l_val (v := Value.bool (decide (b.1 < (-262144)))) rfl (e_move rfl) ?_
 by_cases q52_40 : b.1 < (-262144)
 ·
  refine l_skip (want_n rfl rfl rfl (decide_eq_true q52_40)) ?_
  refine l_skip (want_n rfl rfl rfl (decide_eq_true q52_40)) ?_
  refine l_skip (want_n rfl rfl rfl (decide_eq_true q52_40)) ?_
  refine l_skip (want_n rfl rfl rfl (decide_eq_true q52_40)) ?_
  refine l_skip (want_n rfl rfl rfl (decide_eq_true q52_40)) ?_
  refine l_skip (want_n rfl rfl rfl (decide_eq_true q52_40)) ?_
  refine l_val (v := Value.bool true) rfl (e_pick_t rfl (decide_eq_true q52_40) rfl) ?_
  refine l_val (v := Value.bool true) rfl (e_move rfl) ?_
  refine l_skip (want_n rfl rfl rfl rfl) ?_
  refine l_skip (want_n rfl rfl rfl rfl) ?_
  refine l_skip (want_n rfl rfl rfl rfl) ?_
  refine l_skip (want_n rfl rfl rfl rfl) ?_
  refine l_skip (want_n rfl rfl rfl rfl) ?_
  refine l_skip (want_n rfl rfl rfl rfl) ?_
  refine l_val (v := Value.bool true) rfl (e_pick_t rfl rfl rfl) ?_
  refine l_val (v := Value.bool true) rfl (e_move rfl) ?_
  refine l_skip (want_n rfl rfl rfl rfl) ?_
  refine l_skip (want_n rfl rfl rfl rfl) ?_
  refine l_skip (want_n rfl rfl rfl rfl) ?_
  refine l_skip (want_n rfl rfl rfl rfl) ?_
  refine l_skip (want_n rfl rfl rfl rfl) ?_
  refine l_skip (want_n rfl rfl rfl rfl) ?_
  refine l_val (v := Value.bool true) rfl (e_pick_t rfl rfl rfl) ?_
  refine l_nil ?_
  refine run_cond_t rfl rfl ?_
  refine run_seq ?_
  clear bx5
  clear bx10
  clear bx15
  clear bx20
  clear bx25
  clear o35
  refine run_region rfl ?_
  refine l_val (v := Value.bool true) rfl (e_assign rfl) ?_
  refine l_nil ?_
  refine run_ret (vs := [Value.bool true]) Try.func3 (.tmp rfl .nil) ?_
  -- return 4
  have e0 : (true : Bool) = (true) := by
    first
      | rfl
      | exact decide_eq_true hl7
      | exact (decide_eq_true hl7).symm
  have C41 : Chg (inl []) _ _ _ _ := (ch2.n).seq ((ch7.n).seq ((ch12.n).seq ((ch17.n).seq ((ch22.n).seq ((hb27.n).seq (ch34.n))))))
  replace hbase := hbase.chg C41 (is_nl rfl)
  exact ⟨(congrArg (a₁ := true) (fun (z0 : Bool) => Ending.returned (Value.bool z0)) e0), hbase.below⟩
 refine l_val (v := v33) (want_y rfl rfl rfl (decide_eq_false q52_40)) (e_move rfl) ?_
 refine l_val (v := Value.int .i64 1) (want_y rfl rfl rfl (decide_eq_false q52_40)) (e_move rfl) ?_
 refine l_val (v := Value.pointer (some (eAddr v33 2 (Int.toNat 1)))) (want_y rfl rfl rfl (decide_eq_false q52_40)) (e_indexAddr (α := (Int) × (Int)) (xs := ([a, b, c, d, q] : List ((Int) × (Int)))) (v := v33) (i := 1) Try.underlying25 rfl rfl o35.flat rfl (by omega) (by first | omega | (simp only [List.length_set, List.length_append, List.length_cons, List.length_nil, List.length_replicate, List.length_map, List.length_take, List.length_drop]; omega) | (simp; done) | (simp; omega))) ?_
 refine l_val (v := Value.pointer (some ⟨(eAddr v33 2 (Int.toNat 1)).block, (eAddr v33 2 (Int.toNat 1)).off + 0, none⟩)) (want_y rfl rfl rfl (decide_eq_false q52_40)) (e_fieldAddr_el Try.underlying23 rfl rfl rfl rfl) ?_
 refine l_val (v := Value.int .i64 b.1) (want_y rfl rfl rfl (decide_eq_false q52_40)) (e_load_elF (α := (Int) × (Int)) (xs := ([a, b, c, d, q] : List ((Int) × (Int)))) (v := v33) (i := 1) tp3_gt rfl o35.flat (by omega) (by first | omega | (simp only [List.length_set, List.length_append, List.length_cons, List.length_nil, List.length_replicate, List.length_map, List.length_take, List.length_drop]; omega) | (simp; done) | (simp; omega)) (by decide) rfl) ?_
 refine l_val (v := Value.bool (decide (262144 < b.1))) (want_y rfl rfl rfl (decide_eq_false q52_40)) (e_gtr (m := b.1) (n := 262144) rfl rfl) ?_
 refine l_val (v := Value.bool (decide (262144 < b.1))) rfl (e_pick_f rfl (decide_eq_false q52_40) rfl) ?_
 refine l_val (v := Value.bool (decide (262144 < b.1))) rfl (e_move rfl) ?_
 by_cases q60_42 : 262144 < b.1
 ·
  refine l_skip (want_n rfl rfl rfl (decide_eq_true q60_42)) ?_
  refine l_skip (want_n rfl rfl rfl (decide_eq_true q60_42)) ?_
  refine l_skip (want_n rfl rfl rfl (decide_eq_true q60_42)) ?_
  refine l_skip (want_n rfl rfl rfl (decide_eq_true q60_42)) ?_
  refine l_skip (want_n rfl rfl rfl (decide_eq_true q60_42)) ?_
  refine l_skip (want_n rfl rfl rfl (decide_eq_true q60_42)) ?_
  refine l_val (v := Value.bool true) rfl (e_pick_t rfl (decide_eq_true q60_42) rfl) ?_
  refine l_val (v := Value.bool true) rfl (e_move rfl) ?_
  refine l_skip (want_n rfl rfl rfl rfl) ?_
  refine l_skip (want_n rfl rfl rfl rfl) ?_
  refine l_skip (want_n rfl rfl rfl rfl) ?_
  refine l_skip (want_n rfl rfl rfl rfl) ?_
  refine l_skip (want_n rfl rfl rfl rfl) ?_
  refine l_skip (want_n rfl rfl rfl rfl) ?_
  refine l_val (v := Value.bool true) rfl (e_pick_t rfl rfl rfl) ?_
  refine l_nil ?_
  refine run_cond_t rfl rfl ?_
  refine run_seq ?_
  clear bx5
  clear bx10
  clear bx15
  clear bx20
  clear bx25
  clear o35
  refine run_region rfl ?_
  refine l_val (v := Value.bool true) rfl (e_assign rfl) ?_
  refine l_nil ?_
  refine run_ret (vs := [Value.bool true]) Try.func3 (.tmp rfl .nil) ?_
  -- return 5
  have e0 : (true : Bool) = (true) := by
    first
      | rfl
      | exact decide_eq_true hl7
      | exact (decide_eq_true hl7).symm
  have C43 : Chg (inl []) _ _ _ _ := (ch2.n).seq ((ch7.n).seq ((ch12.n).seq ((ch17.n).seq ((ch22.n).seq ((hb27.n).seq (ch34.n))))))
  replace hbase := hbase.chg C43 (is_nl rfl)
  exact ⟨(congrArg (a₁ := true) (fun (z0 : Bool) => Ending.returned (Value.bool z0)) e0), hbase.below⟩
 refine l_val (v := v33) (want_y rfl rfl rfl (decide_eq_false q60_42)) (e_move rfl) ?_
 refine l_val (v := Value.int .i64 1) (want_y rfl rfl rfl (decide_eq_false q60_42)) (e_move rfl) ?_
 refine l_val (v := Value.pointer (some (eAddr v33 2 (Int.toNat 1)))) (want_y rfl rfl rfl (decide_eq_false q60_42)) (e_indexAddr (α := (Int) × (Int)) (xs := ([a, b, c, d, q] : List ((Int) × (Int)))) (v := v33) (i := 1) Try.underlying25 rfl rfl o35.flat rfl (by omega) (by first | omega | (simp only [List.length_set, List.length_append, List.length_cons, List.length_nil, List.length_replicate, List.length_map, List.length_take, List.length_drop]; omega) | (simp; done) | (simp; omega))) ?_
 refine l_val (v := Value.pointer (some ⟨(eAddr v33 2 (Int.toNat 1)).block, (eAddr v33 2 (Int.toNat 1)).off + 1, none⟩)) (want_y rfl rfl rfl (decide_eq_false q60_42)) (e_fieldAddr_el Try.underlying23 rfl rfl rfl rfl) ?_
 refine l_val (v := Value.int .i64 b.2) (want_y rfl rfl rfl (decide_eq_false q60_42)) (e_load_elF (α := (Int) × (Int)) (xs := ([a, b, c, d, q] : List ((Int) × (Int)))) (v := v33) (i := 1) tp3_gt rfl o35.flat (by omega) (by first | omega | (simp only [List.length_set, List.length_append, List.length_cons, List.length_nil, List.length_replicate, List.length_map, List.length_take, List.length_drop]; omega) | (simp; done) | (simp; omega)) (by decide) rfl) ?_
 refine l_val (v := Value.bool (decide (b.2 < (-262144)))) (want_y rfl rfl rfl (decide_eq_false q60_42)) (e_lss (m := b.2) (n := -262144) rfl rfl) ?_
 refine l_val (v := Value.bool (decide (b.2 < (-262144)))) rfl (e_pick_f rfl (decide_eq_false q60_42) rfl) ?_
 refine l_val (v := Value.bool (decide (b.2 < (-262144)))) rfl (e_move rfl) ?_
 by_cases q68_44 : b.2 < (-262144)
 ·
  refine l_skip (want_n rfl rfl rfl (decide_eq_true q68_44)) ?_
  refine l_skip (want_n rfl rfl rfl (decide_eq_true q68_44)) ?_
  refine l_skip (want_n rfl rfl rfl (decide_eq_true q68_44)) ?_
  refine l_skip (want_n rfl rfl rfl (decide_eq_true q68_44)) ?_
  refine l_skip (want_n rfl rfl rfl (decide_eq_true q68_44)) ?_
  refine l_skip (want_n rfl rfl rfl (decide_eq_true q68_44)) ?_
  refine l_val (v := Value.bool true) rfl (e_pick_t rfl (decide_eq_true q68_44) rfl) ?_
  refine l_nil ?_
  refine run_cond_t rfl rfl ?_
  refine run_seq ?_
  clear bx5
  clear bx10
  clear bx15
  clear bx20
  clear bx25
  clear o35
  refine run_region rfl ?_
  refine l_val (v := Value.bool true) rfl (e_assign rfl) ?_
  refine l_nil ?_
  refine run_ret (vs := [Value.bool true]) Try.func3 (.tmp rfl .nil) ?_
  -- return 6
  have e0 : (true : Bool) = (true) := by
    first
      | rfl
      | exact decide_eq_true hl7
      | exact (decide_eq_true hl7).symm
  have C45 : Chg (inl []) _ _ _ _ := (ch2.n).seq ((ch7.n).seq ((ch12.n).seq ((ch17.n).seq ((ch22.n).seq ((hb27.n).seq (ch34.n))))))
  replace hbase := hbase.chg C45 (is_nl rfl)
  exact ⟨(congrArg (a₁ := true) (fun (z0 : Bool) => Ending.returned (Value.bool z0)) e0), hbase.below⟩
 refine l_val (v := v33) (want_y rfl rfl rfl (decide_eq_false q68_44)) (e_move rfl) ?_
 refine l_val (v := Value.int .i64 1) (want_y rfl rfl rfl (decide_eq_false q68_44)) (e_move rfl) ?_
 refine l_val (v := Value.pointer (some (eAddr v33 2 (Int.toNat 1)))) (want_y rfl rfl rfl (decide_eq_false q68_44)) (e_indexAddr (α := (Int) × (Int)) (xs := ([a, b, c, d, q] : List ((Int) × (Int)))) (v := v33) (i := 1) Try.underlying25 rfl rfl o35.flat rfl (by omega) (by first | omega | (simp only [List.length_set, List.length_append, List.length_cons, List.length_nil, List.length_replicate, List.length_map, List.length_take, List.length_drop]; omega) | (simp; done) | (simp; omega))) ?_
 refine l_val (v := Value.pointer (some ⟨(eAddr v33 2 (Int.toNat 1)).block, (eAddr v33 2 (Int.toNat 1)).off + 1, none⟩)) (want_y rfl rfl rfl (decide_eq_false q68_44)) (e_fieldAddr_el Try.underlying23 rfl rfl rfl rfl) ?_
 refine l_val (v := Value.int .i64 b.2) (want_y rfl rfl rfl (decide_eq_false q68_44)) (e_load_elF (α := (Int) × (Int)) (xs := ([a, b, c, d, q] : List ((Int) × (Int)))) (v := v33) (i := 1) tp3_gt rfl o35.flat (by omega) (by first | omega | (simp only [List.length_set, List.length_append, List.length_cons, List.length_nil, List.length_replicate, List.length_map, List.length_take, List.length_drop]; omega) | (simp; done) | (simp; omega)) (by decide) rfl) ?_
 refine l_val (v := Value.bool (decide (262144 < b.2))) (want_y rfl rfl rfl (decide_eq_false q68_44)) (e_gtr (m := b.2) (n := 262144) rfl rfl) ?_
 refine l_val (v := Value.bool (decide (262144 < b.2))) rfl (e_pick_f rfl (decide_eq_false q68_44) rfl) ?_
 refine l_nil ?_
 by_cases p7_46 : 262144 < b.2
 ·
  refine run_cond_t rfl (decide_eq_true p7_46) ?_
  refine run_seq ?_
  clear bx5
  clear bx10
  clear bx15
  clear bx20
  clear bx25
  clear o35
  refine run_region rfl ?_
  refine l_val (v := Value.bool true) rfl (e_assign rfl) ?_
  refine l_nil ?_
  refine run_ret (vs := [Value.bool true]) Try.func3 (.tmp rfl .nil) ?_
  -- return 7
  have e0 : (true : Bool) = (true) := by
    first
      | rfl
      | exact decide_eq_true hl7
      | exact (decide_eq_true hl7).symm
  have C47 : Chg (inl []) _ _ _ _ := (ch2.n).seq ((ch7.n).seq ((ch12.n).seq ((ch17.n).seq ((ch22.n).seq ((hb27.n).seq (ch34.n))))))
  replace hbase := hbase.chg C47 (is_nl rfl)
  exact ⟨(congrArg (a₁ := true) (fun (z0 : Bool) => Ending.returned (Value.bool z0)) e0), hbase.below⟩
 refine run_cond_f rfl (decide_eq_false p7_46) ?_
 refine run_skip ?_
 refine run_inBlock ?_
 refine run_region rfl ?_
 refine l_val (v := Value.int .i64 1) rfl (e_move rfl) ?_
 refine l_val (v := Value.int .i64 2) rfl (e_add (m := 1) (n := 1) rfl rfl (by omega)) ?_
 refine l_val (v := Value.int .i64 2) rfl (e_assign rfl) ?_
 refine l_nil ?_
 refine run_inLoop ?_
 refine run_seq ?_
 refine run_seq ?_
 refine run_region rfl ?_
 refine l_val (v := Value.int .i64 2) rfl (e_move rfl) ?_
 refine l_val (v := Value.bool true) rfl (e_lss (m := 2) (n := 5) rfl rfl) ?_
 refine l_nil ?_
 refine run_cond_t rfl rfl ?_
 refine run_skip ?_
 refine run_seq ?_
 refine run_block ?_
 refine run_seq ?_
 refine run_region rfl ?_
 refine l_val (v := v33) rfl (e_move rfl) ?_
 refine l_val (v := Value.int .i64 2) rfl (e_move rfl) ?_
 refine l_val (v := Value.pointer (some (eAddr v33 2 (Int.toNat 2)))) rfl (e_indexAddr (α := (Int) × (Int)) (xs := ([a, b, c, d, q] : List ((Int) × (Int)))) (v := v33) (i := 2) Try.underlying25 rfl rfl o35.flat rfl (by omega) (by first | omega | (simp only [List.length_set, List.length_append, List.length_cons, List.length_nil, List.length_replicate, List.length_map, List.length_take, List.length_drop]; omega) | (simp; done) | (simp; omega))) ?_
 refine l_val (v := Value.pointer (some ⟨(eAddr v33 2 (Int.toNat 2)).block, (eAddr v33 2 (Int.toNat 2)).off + 0, none⟩)) rfl (e_fieldAddr_el Try.underlying23 rfl rfl rfl rfl) ?_
 refine l_val (v := Value.int .i64 c.1) rfl (e_load_elF (α := (Int) × (Int)) (xs := ([a, b, c, d, q] : List ((Int) × (Int)))) (v := v33) (i := 2) tp3_gt rfl o35.flat (by omega) (by first | omega | (simp only [List.length_set, List.length_append, List.length_cons, List.length_nil, List.length_replicate, List.length_map, List.length_take, List.length_drop]; omega) | (simp; done) | (simp; omega)) (by decide) rfl) ?_
 refine l_val (v := Value.bool (decide (c.1 < (-262144)))) rfl (e_lss (m := c.1) (n := -262144) rfl rfl) ?_
 refine l_val (v := Value.bool (decide (c.1 < (-262144)))) rfl (e_move rfl) ?_
 by_cases q52_48 : c.1 < (-262144)
 ·
  refine l_skip (want_n rfl rfl rfl (decide_eq_true q52_48)) ?_
  refine l_skip (want_n rfl rfl rfl (decide_eq_true q52_48)) ?_
  refine l_skip (want_n rfl rfl rfl (decide_eq_true q52_48)) ?_
  refine l_skip (want_n rfl rfl rfl (decide_eq_true q52_48)) ?_
  refine l_skip (want_n rfl rfl rfl (decide_eq_true q52_48)) ?_
  refine l_skip (want_n rfl rfl rfl (decide_eq_true q52_48)) ?_
  refine l_val (v := Value.bool true) rfl (e_pick_t rfl (decide_eq_true q52_48) rfl) ?_
  refine l_val (v := Value.bool true) rfl (e_move rfl) ?_
  refine l_skip (want_n rfl rfl rfl rfl) ?_
  refine l_skip (want_n rfl rfl rfl rfl) ?_
  refine l_skip (want_n rfl rfl rfl rfl) ?_
  refine l_skip (want_n rfl rfl rfl rfl) ?_
  refine l_skip (want_n rfl rfl rfl rfl) ?_
  refine l_skip (want_n rfl rfl rfl rfl) ?_
  refine l_val (v := Value.bool true) rfl (e_pick_t rfl rfl rfl) ?_
  refine l_val (v := Value.bool true) rfl (e_move rfl) ?_
  refine l_skip (want_n rfl rfl rfl rfl) ?_
  refine l_skip (want_n rfl rfl rfl rfl) ?_
  refine l_skip (want_n rfl rfl rfl rfl) ?_
  refine l_skip (want_n rfl rfl rfl rfl) ?_
  refine l_skip (want_n rfl rfl rfl rfl) ?_
  refine l_skip (want_n rfl rfl rfl rfl) ?_
  refine l_val (v := Value.bool true) rfl (e_pick_t rfl rfl rfl) ?_
  refine l_nil ?_
  refine run_cond_t rfl rfl ?_
  refine run_seq ?_
  clear bx5
  clear bx10
  clear bx15
  clear bx20
  clear bx25
  clear o35
  refine run_region rfl ?_
  refine l_val (v := Value.bool true) rfl (e_assign rfl) ?_
  refine l_nil ?_
  refine run_ret (vs := [Value.bool true]) Try.func3 (.tmp rfl .nil) ?_
  -- return 8
  have e0 : (true : Bool) = (true) := by
    first
      | rfl
      | exact decide_eq_true hl7
      | exact (decide_eq_true hl7).symm
  have C49 : Chg (inl []) _ _ _ _ := (ch2.n).seq ((ch7.n).seq ((ch12.n).seq ((ch17.n).seq ((ch22.n).seq ((hb27.n).seq (ch34.n))))))
  replace hbase := hbase.chg C49 (is_nl rfl)
  exact ⟨(congrArg (a₁ := true) (fun (z0 : Bool) => Ending.returned (Value.bool z0)) e0), hbase.below⟩
 refine l_val (v := v33) (want_y rfl rfl rfl (decide_eq_false q52_48)) (e_move rfl) ?_
 refine l_val (v := Value.int .i64 2) (want_y rfl rfl rfl (decide_eq_false q52_48)) (e_move rfl) ?_
 refine l_val (v := Value.pointer (some (eAddr v33 2 (Int.toNat 2)))) (want_y rfl rfl rfl (decide_eq_false q52_48)) (e_indexAddr (α := (Int) × (Int)) (xs := ([a, b, c, d, q] : List ((Int) × (Int)))) (v := v33) (i := 2) Try.underlying25 rfl rfl o35.flat rfl (by omega) (by first | omega | (simp only [List.length_set, List.length_append, List.length_cons, List.length_nil, List.length_replicate, List.length_map, List.length_take, List.length_drop]; omega) | (simp; done) | (simp; omega))) ?_
 refine l_val (v := Value.pointer (some ⟨(eAddr v33 2 (Int.toNat 2)).block, (eAddr v33 2 (Int.toNat 2)).off + 0, none⟩)) (want_y rfl rfl rfl (decide_eq_false q52_48)) (e_fieldAddr_el Try.underlying23 rfl rfl rfl rfl) ?_
 refine l_val (v := Value.int .i64 c.1) (want_y rfl rfl rfl (decide_eq_false q52_48)) (e_load_elF (α := (Int) × (Int)) (xs := ([a, b, c, d, q] : List ((Int) × (Int)))) (v := v33) (i := 2) tp3_gt rfl o35.flat (by omega) (by first | omega | (simp only [List.length_set, List.length_append, List.length_cons, List.length_nil, List.length_replicate, List.length_map, List.length_take, List.length_drop]; omega) | (simp; done) | (simp; omega)) (by decide) rfl) ?_
 refine l_val (v := Value.bool (decide (262144 < c.1))) (want_y rfl rfl rfl (decide_eq_false q52_48)) (e_gtr (m := c.1) (n := 262144) rfl rfl) ?_
 refine l_val (v := Value.bool (decide (262144 < c.1))) rfl (e_pick_f rfl (decide_eq_false q52_48) rfl) ?_
 refine l_val (v := Value.bool (decide (262144 < c.1))) rfl (e_move rfl) ?_
 by_cases q60_50 : 262144 < c.1
 ·
  refine l_skip (want_n rfl rfl rfl (decide_eq_true q60_50)) ?_
  refine l_skip (want_n rfl rfl rfl (decide_eq_true q60_50)) ?_
  refine l_skip (want_n rfl rfl rfl (decide_eq_true q60_50)) ?_
  refine l_skip (want_n rfl rfl rfl (decide_eq_true q60_50)) ?_
  refine l_skip (want_n rfl rfl rfl (decide_eq_true q60_50)) ?_
  refine l_skip (want_n rfl rfl rfl (decide_eq_true q60_50)) ?_
  refine l_val (v := Value.bool true) rfl (e_pick_t rfl (decide_eq_true q60_50) rfl) ?_
  refine l_val (v := Value.bool true) rfl (e_move rfl) ?_
  refine l_skip (want_n rfl rfl rfl rfl) ?_
  refine l_skip (want_n rfl rfl rfl rfl) ?_
  refine l_skip (want_n rfl rfl rfl rfl) ?_
  refine l_skip (want_n rfl rfl rfl rfl) ?_
  refine l_skip (want_n rfl rfl rfl rfl) ?_
  refine l_skip (want_n rfl rfl rfl rfl) ?_
  refine l_val (v := Value.bool true) rfl (e_pick_t rfl rfl rfl) ?_
  refine l_nil ?_
  refine run_cond_t rfl rfl ?_
  refine run_seq ?_
  clear bx5
  clear bx10
  clear bx15
  clear bx20
  clear bx25
  clear o35
  refine run_region rfl ?_
  refine l_val (v := Value.bool true) rfl (e_assign rfl) ?_
  refine l_nil ?_
  refine run_ret (vs := [Value.bool true]) Try.func3 (.tmp rfl .nil) ?_
  -- return 9
  have e0 : (true : Bool) = (true) := by
    first
      | rfl
      | exact decide_eq_true hl7
      | exact (decide_eq_true hl7).symm
  have C51 : Chg (inl []) _ _ _ _ := (ch2.n).seq ((ch7.n).seq ((ch12.n).seq ((ch17.n).seq ((ch22.n).seq ((hb27.n).seq (ch34.n))))))
  replace hbase := hbase.chg C51 (is_nl rfl)
  exact ⟨(congrArg (a₁ := true) (fun (z0 : Bool) => Ending.returned (Value.bool z0)) e0), hbase.below⟩
 refine l_val (v := v33) (want_y rfl rfl rfl (decide_eq_false q60_50)) (e_move rfl) ?_
 refine l_val (v := Value.int .i64 2) (want_y rfl rfl rfl (decide_eq_false q60_50)) (e_move rfl) ?_
 refine l_val (v := Value.pointer (some (eAddr v33 2 (Int.toNat 2)))) (want_y rfl rfl rfl (decide_eq_false q60_50)) (e_indexAddr (α := (Int) × (Int)) (xs := ([a, b, c, d, q] : List ((Int) × (Int)))) (v := v33) (i := 2) Try.underlying25 rfl rfl o35.flat rfl (by omega) (by first | omega | (simp only [List.length_set, List.length_append, List.length_cons, List.length_nil, List.length_replicate, List.length_map, List.length_take, List.length_drop]; omega) | (simp; done) | (simp; omega))) ?_
 refine l_val (v := Value.pointer (some ⟨(eAddr v33 2 (Int.toNat 2)).block, (eAddr v33 2 (Int.toNat 2)).off + 1, none⟩)) (want_y rfl rfl rfl (decide_eq_false q60_50)) (e_fieldAddr_el Try.underlying23 rfl rfl rfl rfl) ?_
 refine l_val (v := Value.int .i64 c.2) (want_y rfl rfl rfl (decide_eq_false q60_50)) (e_load_elF (α := (Int) × (Int)) (xs := ([a, b, c, d, q] : List ((Int) × (Int)))) (v := v33) (i := 2) tp3_gt rfl o35.flat (by omega) (by first | omega | (simp only [List.length_set, List.length_append, List.length_cons, List.length_nil, List.length_replicate, List.length_map, List.length_take, List.length_drop]; omega) | (simp; done) | (simp; omega)) (by decide) rfl) ?_
 refine l_val (v := Value.bool (decide (c.2 < (-262144)))) (want_y rfl rfl rfl (decide_eq_false q60_50)) (e_lss (m := c.2) (n := -262144) rfl rfl) ?_
 refine l_val (v := Value.bool (decide (c.2 < (-262144)))) rfl (e_pick_f rfl (decide_eq_false q60_50) rfl) ?_
 refine l_val (v := Value.bool (decide (c.2 < (-262144)))) rfl (e_move rfl) ?_
 by_cases q68_52 : c.2 < (-262144)
 ·
  refine l_skip (want_n rfl rfl rfl (decide_eq_true q68_52)) ?_
  refine l_skip (want_n rfl rfl rfl (decide_eq_true q68_52)) ?_
  refine l_skip (want_n rfl rfl rfl (decide_eq_true q68_52)) ?_
  refine l_skip (want_n rfl rfl rfl (decide_eq_true q68_52)) ?_
  refine l_skip (want_n rfl rfl rfl (decide_eq_true q68_52)) ?_
  refine l_skip (want_n rfl rfl rfl (decide_eq_true q68_52)) ?_
  refine l_val (v := Value.bool true) rfl (e_pick_t rfl (decide_eq_true q68_52) rfl) ?_
  refine l_nil ?_
  refine run_cond_t rfl rfl ?_
  refine run_seq ?_
  clear bx5
  clear bx10
  clear bx15
  clear bx20
  clear bx25
  clear o35
  refine run_region rfl ?_
  refine l_val (v := Value.bool true) rfl (e_assign rfl) ?_
  refine l_nil ?_
  refine run_ret (vs := [Value.bool true]) Try.func3 (.tmp rfl .nil) ?_
  -- return 10
  have e0 : (true : Bool) = (true) := by
    first
      | rfl
      | exact decide_eq_true hl7
      | exact (decide_eq_true hl7).symm
  have C53 : Chg (inl []) _ _ _ _ := (ch2.n).seq ((ch7.n).seq ((ch12.n).seq ((ch17.n).seq ((ch22.n).seq ((hb27.n).seq (ch34.n))))))
  replace hbase := hbase.chg C53 (is_nl rfl)
  exact ⟨(congrArg (a₁ := true) (fun (z0 : Bool) => Ending.returned (Value.bool z0)) e0), hbase.below⟩
 refine l_val (v := v33) (want_y rfl rfl rfl (decide_eq_false q68_52)) (e_move rfl) ?_
 refine l_val (v := Value.int .i64 2) (want_y rfl rfl rfl (decide_eq_false q68_52)) (e_move rfl) ?_
 refine l_val (v := Value.pointer (some (eAddr v33 2 (Int.toNat 2)))) (want_y rfl rfl rfl (decide_eq_false q68_52)) (e_indexAddr (α := (Int) × (Int)) (xs := ([a, b, c, d, q] : List ((Int) × (Int)))) (v := v33) (i := 2) Try.underlying25 rfl rfl o35.flat rfl (by omega) (by first | omega | (simp only [List.length_set, List.length_append, List.length_cons, List.length_nil, List.length_replicate, List.length_map, List.length_take, List.length_drop]; omega) | (simp; done) | (simp; omega))) ?_
 refine l_val (v := Value.pointer (some ⟨(eAddr v33 2 (Int.toNat 2)).block, (eAddr v33 2 (Int.toNat 2)).off + 1, none⟩)) (want_y rfl rfl rfl (decide_eq_false q68_52)) (e_fieldAddr_el Try.underlying23 rfl rfl rfl rfl) ?_
 refine l_val (v := Value.int .i64 c.2) (want_y rfl rfl rfl (decide_eq_false q68_52)) (e_load_elF (α := (Int) × (Int)) (xs := ([a, b, c, d, q] : List ((Int) × (Int)))) (v := v33) (i := 2) tp3_gt rfl o35.flat (by omega) (by first | omega | (simp only [List.length_set, List.length_append, List.length_cons, List.length_nil, List.length_replicate, List.length_map, List.length_take, List.length_drop]; omega) | (simp; done) | (simp; omega)) (by decide) rfl) ?_
 refine l_val (v := Value.bool (decide (262144 < c.2))) (want_y rfl rfl rfl (decide_eq_false q68_52)) (e_gtr (m := c.2) (n := 262144) rfl rfl) ?_
 refine l_val (v := Value.bool (decide (262144 < c.2))) rfl (e_pick_f rfl (decide_eq_false q68_52) rfl) ?_
 refine l_nil ?_
 by_cases p7_54 : 262144 < c.2
 ·
  refine run_cond_t rfl (decide_eq_true p7_54) ?_
  refine run_seq ?_
  clear bx5
  clear bx10
  clear bx15
  clear bx20
  clear bx25
  clear o35
  refine run_region rfl ?_
  refine l_val (v := Value.bool true) rfl (e_assign rfl) ?_
  refine l_nil ?_
  refine run_ret (vs := [Value.bool true]) Try.func3 (.tmp rfl .nil) ?_
  -- return 11
  have e0 : (true : Bool) = (true) := by
    first
      | rfl
      | exact decide_eq_true hl7
      | exact (decide_eq_true hl7).symm
  have C55 : Chg (inl []) _ _ _ _ := (ch2.n).seq ((ch7.n).seq ((ch12.n).seq ((ch17.n).seq ((ch22.n).seq ((hb27.n).seq (ch34.n))))))
  replace hbase := hbase.chg C55 (is_nl rfl)
  exact ⟨(congrArg (a₁ := true) (fun (z0 : Bool) => Ending.returned (Value.bool z0)) e0), hbase.below⟩
 refine run_cond_f rfl (decide_eq_false p7_54) ?_
 refine run_skip ?_
 refine run_inBlock ?_
 refine run_region rfl ?_
 refine l_val (v := Value.int .i64 2) rfl (e_move rfl) ?_
 refine l_val (v := Value.int .i64 3) rfl (e_add (m := 2) (n := 1) rfl rfl (by omega)) ?_
 refine l_val (v := Value.int .i64 3) rfl (e_assign rfl) ?_
 refine l_nil ?_
 refine run_inLoop ?_
 refine run_seq ?_
 refine run_seq ?_
 refine run_region rfl ?_
 refine l_val (v := Value.int .i64 3) rfl (e_move rfl) ?_
 refine l_val (v := Value.bool true) rfl (e_lss (m := 3) (n := 5) rfl rfl) ?_
 refine l_nil ?_
 refine run_cond_t rfl rfl ?_
 refine run_skip ?_
 refine run_seq ?_
 refine run_block ?_
 refine run_seq ?_
 refine run_region rfl ?_
 refine l_val (v := v33) rfl (e_move rfl) ?_
 refine l_val (v := Value.int .i64 3) rfl (e_move rfl) ?_
 refine l_val (v := Value.pointer (some (eAddr v33 2 (Int.toNat 3)))) rfl (e_indexAddr (α := (Int) × (Int)) (xs := ([a, b, c, d, q] : List ((Int) × (Int)))) (v := v33) (i := 3) Try.underlying25 rfl rfl o35.flat rfl (by omega) (by first | omega | (simp only [List.length_set, List.length_append, List.length_cons, List.length_nil, List.length_replicate, List.length_map, List.length_take, List.length_drop]; omega) | (simp; done) | (simp; omega))) ?_
 refine l_val (v := Value.pointer (some ⟨(eAddr v33 2 (Int.toNat 3)).block, (eAddr v33 2 (Int.toNat 3)).off + 0, none⟩)) rfl (e_fieldAddr_el Try.underlying23 rfl rfl rfl rfl) ?_
 refine l_val (v := Value.int .i64 d.1) rfl (e_load_elF (α := (Int) × (Int)) (xs := ([a, b, c, d, q] : List ((Int) × (Int)))) (v := v33) (i := 3) tp3_gt rfl o35.flat (by omega) (by first | omega | (simp only [List.length_set, List.length_append, List.length_cons, List.length_nil, List.length_replicate, List.length_map, List.length_take, List.length_drop]; omega) | (simp; done) | (simp; omega)) (by decide) rfl) ?_
 refine l_val (v := Value.bool (decide (d.1 < (-262144)))) rfl (e_lss (m := d.1) (n := -262144) rfl rfl) ?_
 refine l_val (v := Value.bool (decide (d.1 < (-262144)))) rfl (e_move rfl) ?_
 by_cases q52_56 : d.1 < (-262144)
 ·
  refine l_skip (want_n rfl rfl rfl (decide_eq_true q52_56)) ?_
  refine l_skip (want_n rfl rfl rfl (decide_eq_true q52_56)) ?_
  refine l_skip (want_n rfl rfl rfl (decide_eq_true q52_56)) ?_
  refine l_skip (want_n rfl rfl rfl (decide_eq_true q52_56)) ?_
  refine l_skip (want_n rfl rfl rfl (decide_eq_true q52_56)) ?_
  refine l_skip (want_n rfl rfl rfl (decide_eq_true q52_56)) ?_
  refine l_val (v := Value.bool true) rfl (e_pick_t rfl (decide_eq_true q52_56) rfl) ?_
  refine l_val (v := Value.bool true) rfl (e_move rfl) ?_
  refine l_skip (want_n rfl rfl rfl rfl) ?_
  refine l_skip (want_n rfl rfl rfl rfl) ?_
  refine l_skip (want_n rfl rfl rfl rfl) ?_
  refine l_skip (want_n rfl rfl rfl rfl) ?_
  refine l_skip (want_n rfl rfl rfl rfl) ?_
  refine l_skip (want_n rfl rfl rfl rfl) ?_
  refine l_val (v := Value.bool true) rfl (e_pick_t rfl rfl rfl) ?_
  refine l_val (v := Value.bool true) rfl (e_move rfl) ?_
  refine l_skip (want_n rfl rfl rfl rfl) ?_
  refine l_skip (want_n rfl rfl rfl rfl) ?_
  refine l_skip (want_n rfl rfl rfl rfl) ?_
  refine l_skip (want_n rfl rfl rfl rfl) ?_
  refine l_skip (want_n rfl rfl rfl rfl) ?_
  refine l_skip (want_n rfl rfl rfl rfl) ?_
  refine l_val (v := Value.bool true) rfl (e_pick_t rfl rfl rfl) ?_
  refine l_nil ?_
  refine run_cond_t rfl rfl ?_
  refine run_seq ?_
  clear bx5
  clear bx10
  clear bx15
  clear bx20
  clear bx25
  clear o35
  refine run_region rfl ?_
  refine l_val (v := Value.bool true) rfl (e_assign rfl) ?_
  refine l_nil ?_
  refine run_ret (vs := [Value.bool true]) Try.func3 (.tmp rfl .nil) ?_
  -- return 12
  have e0 : (true : Bool) = (true) := by
    first
      | rfl
      | exact decide_eq_true hl7
      | exact (decide_eq_true hl7).symm
  have C57 : Chg (inl []) _ _ _ _ := (ch2.n).seq ((ch7.n).seq ((ch12.n).seq ((ch17.n).seq ((ch22.n).seq ((hb27.n).seq (ch34.n))))))
  replace hbase := hbase.chg C57 (is_nl rfl)
  exact ⟨(congrArg (a₁ := true) (fun (z0 : Bool) => Ending.returned (Value.bool z0)) e0), hbase.below⟩
 refine l_val (v := v33) (want_y rfl rfl rfl (decide_eq_false q52_56)) (e_move rfl) ?_
 refine l_val (v := Value.int .i64 3) (want_y rfl rfl rfl (decide_eq_false q52_56)) (e_move rfl) ?_
 refine l_val (v := Value.pointer (some (eAddr v33 2 (Int.toNat 3)))) (want_y rfl rfl rfl (decide_eq_false q52_56)) (e_indexAddr (α := (Int) × (Int)) (xs := ([a, b, c, d, q] : List ((Int) × (Int)))) (v := v33) (i := 3) Try.underlying25 rfl rfl o35.flat rfl (by omega) (by first | omega | (simp only [List.length_set, List.length_append, List.length_cons, List.length_nil, List.length_replicate, List.length_map, List.length_take, List.length_drop]; omega) | (simp; done) | (simp; omega))) ?_
 refine l_val (v := Value.pointer (some ⟨(eAddr v33 2 (Int.toNat 3)).block, (eAddr v33 2 (Int.toNat 3)).off + 0, none⟩)) (want_y rfl rfl rfl (decide_eq_false q52_56)) (e_fieldAddr_el Try.underlying23 rfl rfl rfl rfl) ?_
 refine l_val (v := Value.int .i64 d.1) (want_y rfl rfl rfl (decide_eq_false q52_56)) (e_load_elF (α := (Int) × (Int)) (xs := ([a, b, c, d, q] : List ((Int) × (Int)))) (v := v33) (i := 3) tp3_gt rfl o35.flat (by omega) (by first | omega | (simp only [List.length_set, List.length_append, List.length_cons, List.length_nil, List.length_replicate, List.length_map, List.length_take, List.length_drop]; omega) | (simp; done) | (simp; omega)) (by decide) rfl) ?_
 refine l_val (v := Value.bool (decide (262144 < d.1))) (want_y rfl rfl rfl (decide_eq_false q52_56)) (e_gtr (m := d.1) (n := 262144) rfl rfl) ?_
 refine l_val (v := Value.bool (decide (262144 < d.1))) rfl (e_pick_f rfl (decide_eq_false q52_56) rfl) ?_
 refine l_val (v := Value.bool (decide (262144 < d.1))) rfl (e_move rfl) ?_
 by_cases q60_58 : 262144 < d.1
 ·
  refine l_skip (want_n rfl rfl rfl (decide_eq_true q60_58)) ?_
  refine l_skip (want_n rfl rfl rfl (decide_eq_true q60_58)) ?_
  refine l_skip (want_n rfl rfl rfl (decide_eq_true q60_58)) ?_
  refine l_skip (want_n rfl rfl rfl (decide_eq_true q60_58)) ?_
  refine l_skip (want_n rfl rfl rfl (decide_eq_true q60_58)) ?_
  refine l_skip (want_n rfl rfl rfl (decide_eq_true q60_58)) ?_
  refine l_val (v := Value.bool true) rfl (e_pick_t rfl (decide_eq_true q60_58) rfl) ?_
  refine l_val (v := Value.bool true) rfl (e_move rfl) ?_
  refine l_skip (want_n rfl rfl rfl rfl) ?_
  refine l_skip (want_n rfl rfl rfl rfl) ?_
  refine l_skip (want_n rfl rfl rfl rfl) ?_
  refine l_skip (want_n rfl rfl rfl rfl) ?_
  refine l_skip (want_n rfl rfl rfl rfl) ?_
  refine l_skip (want_n rfl rfl rfl rfl) ?_
  refine l_val (v := Value.bool true) rfl (e_pick_t rfl rfl rfl) ?_
  refine l_nil ?_
  refine run_cond_t rfl rfl ?_
  refine run_seq ?_
  clear bx5
  clear bx10
  clear bx15
  clear bx20
  clear bx25
  clear o35
  refine run_region rfl ?_
  refine l_val (v := Value.bool true) rfl (e_assign rfl) ?_
  refine l_nil ?_
  refine run_ret (vs := [Value.bool true]) Try.func3 (.tmp rfl .nil) ?_
  -- return 13
  have e0 : (true : Bool) = (true) := by
    first
      | rfl
      | exact decide_eq_true hl7
      | exact (decide_eq_true hl7).symm
  have C59 : Chg (inl []) _ _ _ _ := (ch2.n).seq ((ch7.n).seq ((ch12.n).seq ((ch17.n).seq ((ch22.n).seq ((hb27.n).seq (ch34.n))))))
  replace hbase := hbase.chg C59 (is_nl rfl)
  exact ⟨(congrArg (a₁ := true) (fun (z0 : Bool) => Ending.returned (Value.bool z0)) e0), hbase.below⟩
 refine l_val (v := v33) (want_y rfl rfl rfl (decide_eq_false q60_58)) (e_move rfl) ?_
 refine l_val (v := Value.int .i64 3) (want_y rfl rfl rfl (decide_eq_false q60_58)) (e_move rfl) ?_
 refine l_val (v := Value.pointer (some (eAddr v33 2 (Int.toNat 3)))) (want_y rfl rfl rfl (decide_eq_false q60_58)) (e_indexAddr (α := (Int) × (Int)) (xs := ([a, b, c, d, q] : List ((Int) × (Int)))) (v := v33) (i := 3) Try.underlying25 rfl rfl o35.flat rfl (by omega) (by first | omega | (simp only [List.length_set, List.length_append, List.length_cons, List.length_nil, List.length_replicate, List.length_map, List.length_take, List.length_drop]; omega) | (simp; done) | (simp; omega))) ?_
 refine l_val (v := Value.pointer (some ⟨(eAddr v33 2 (Int.toNat 3)).block, (eAddr v33 2 (Int.toNat 3)).off + 1, none⟩)) (want_y rfl rfl rfl (decide_eq_false q60_58)) (e_fieldAddr_el Try.underlying23 rfl rfl rfl rfl) ?_
 refine l_val (v := Value.int .i64 d.2) (want_y rfl rfl rfl (decide_eq_false q60_58)) (e_load_elF (α := (Int) × (Int)) (xs := ([a, b, c, d, q] : List ((Int) × (Int)))) (v := v33) (i := 3) tp3_gt rfl o35.flat (by omega) (by first | omega | (simp only [List.length_set, List.length_append, List.length_cons, List.length_nil, List.length_replicate, List.length_map, List.length_take, List.length_drop]; omega) | (simp; done) | (simp; omega)) (by decide) rfl) ?_
 refine l_val (v := Value.bool (decide (d.2 < (-262144)))) (want_y rfl rfl rfl (decide_eq_false q60_58)) (e_lss (m := d.2) (n := -262144) rfl rfl) ?_
 refine l_val (v := Value.bool (decide (d.2 < (-262144)))) rfl (e_pick_f rfl (decide_eq_false q60_58) rfl) ?_
 refine l_val (v := Value.bool (decide (d.2 < (-262144)))) rfl (e_move rfl) ?_
 by_cases q68_60 : d.2 < (-262144)
 ·
  refine l_skip (want_n rfl rfl rfl (decide_eq_true q68_60)) ?_
  refine l_skip (want_n rfl rfl rfl (decide_eq_true q68_60)) ?_
  refine l_skip (want_n rfl rfl rfl (decide_eq_true q68_60)) ?_
  refine l_skip (want_n rfl rfl rfl (decide_eq_true q68_60)) ?_
  refine l_skip (want_n rfl rfl rfl (decide_eq_true q68_60)) ?_
  refine l_skip (want_n rfl rfl rfl (decide_eq_true q68_60)) ?_
  refine l_val (v := Value.bool true) rfl (e_pick_t rfl (decide_eq_true q68_60) rfl) ?_
  refine l_nil ?_
  refine run_cond_t rfl rfl ?_
  refine run_seq ?_
  clear bx5
  clear bx10
  clear bx15
  clear bx20
  clear bx25
  clear o35
  refine run_region rfl ?_
  refine l_val (v := Value.bool true) rfl (e_assign rfl) ?_
  refine l_nil ?_
  refine run_ret (vs := [Value.bool true]) Try.func3 (.tmp rfl .nil) ?_
  -- return 14
  have e0 : (true : Bool) = (true) := by
    first
      | rfl
      | exact decide_eq_true hl7
      | exact (decide_eq_true hl7).symm
  have C61 : Chg (inl []) _ _ _ _ := (ch2.n).seq ((ch7.n).seq ((ch12.n).seq ((ch17.n).seq ((ch22.n).seq ((hb27.n).seq (ch34.n))))))
  replace hbase := hbase.chg C61 (is_nl rfl)
  exact ⟨(congrArg (a₁ := true) (fun (z0 : Bool) => Ending.returned (Value.bool z0)) e0), hbase.below⟩
 refine l_val (v := v33) (want_y rfl rfl rfl (decide_eq_false q68_60)) (e_move rfl) ?_
 refine l_val (v := Value.int .i64 3) (want_y rfl rfl rfl (decide_eq_false q68_60)) (e_move rfl) ?_
 refine l_val (v := Value.pointer (some (eAddr v33 2 (Int.toNat 3)))) (want_y rfl rfl rfl (decide_eq_false q68_60)) (e_indexAddr (α := (Int) × (Int)) (xs := ([a, b, c, d, q] : List ((Int) × (Int)))) (v := v33) (i := 3) Try.underlying25 rfl rfl o35.flat rfl (by omega) (by first | omega | (simp only [List.length_set, List.length_append, List.length_cons, List.length_nil, List.length_replicate, List.length_map, List.length_take, List.length_drop]; omega) | (simp; done) | (simp; omega))) ?_
 refine l_val (v := Value.pointer (some ⟨(eAddr v33 2 (Int.toNat 3)).block, (eAddr v33 2 (Int.toNat 3)).off + 1, none⟩)) (want_y rfl rfl rfl (decide_eq_false q68_60)) (e_fieldAddr_el Try.underlying23 rfl rfl rfl rfl) ?_
 refine l_val (v := Value.int .i64 d.2) (want_y rfl rfl rfl (decide_eq_false q68_60)) (e_load_elF (α := (Int) × (Int)) (xs := ([a, b, c, d, q] : List ((Int) × (Int)))) (v := v33) (i := 3) tp3_gt rfl o35.flat (by omega) (by first | omega | (simp only [List.length_set, List.length_append, List.length_cons, List.length_nil, List.length_replicate, List.length_map, List.length_take, List.length_drop]; omega) | (simp; done) | (simp; omega)) (by decide) rfl) ?_
 refine l_val (v := Value.bool (decide (262144 < d.2))) (want_y rfl rfl rfl (decide_eq_false q68_60)) (e_gtr (m := d.2) (n := 262144) rfl rfl) ?_
 refine l_val (v := Value.bool (decide (262144 < d.2))) rfl (e_pick_f rfl (decide_eq_false q68_60) rfl) ?_
 refine l_nil ?_
 by_cases p7_62 : 262144 < d.2
 ·
  refine run_cond_t rfl (decide_eq_true p7_62) ?_
  refine run_seq ?_
  clear bx5
  clear bx10
  clear bx15
  clear bx20
  clear bx25
  clear o35
  refine run_region rfl ?_
  refine l_val (v := Value.bool true) rfl (e_assign rfl) ?_
  refine l_nil ?_
  refine run_ret (vs := [Value.bool true]) Try.func3 (.tmp rfl .nil) ?_
  -- return 15
  have e0 : (true : Bool) = (true) := by
    first
      | rfl
      | exact decide_eq_true hl7
      | exact (decide_eq_true hl7).symm
  have C63 : Chg (inl []) _ _ _ _ := (ch2.n).seq ((ch7.n).seq ((ch12.n).seq ((ch17.n).seq ((ch22.n).seq ((hb27.n).seq (ch34.n))))))
  replace hbase := hbase.chg C63 (is_nl rfl)
  exact ⟨(congrArg (a₁ := true) (fun (z0 : Bool) => Ending.returned (Value.bool z0)) e0), hbase.below⟩
 refine run_cond_f rfl (decide_eq_false p7_62) ?_
 refine run_skip ?_
 refine run_inBlock ?_
 refine run_region rfl ?_
 refine l_val (v := Value.int .i64 3) rfl (e_move rfl) ?_
 refine l_val (v := Value.int .i64 4) rfl (e_add (m := 3) (n := 1) rfl rfl (by omega)) ?_
 refine l_val (v := Value.int .i64 4) rfl (e_assign rfl) ?_
 refine l_nil ?_
 refine run_inLoop ?_
 refine run_seq ?_
 refine run_seq ?_
 refine run_region rfl ?_
 refine l_val (v := Value.int .i64 4) rfl (e_move rfl) ?_
 refine l_val (v := Value.bool true) rfl (e_lss (m := 4) (n := 5) rfl rfl) ?_
 refine l_nil ?_
 refine run_cond_t rfl rfl ?_
 refine run_skip ?_
 refine run_seq ?_
 refine run_block ?_
 refine run_seq ?_
 refine run_region rfl ?_
 refine l_val (v := v33) rfl (e_move rfl) ?_
 refine l_val (v := Value.int .i64 4) rfl (e_move rfl) ?_
 refine l_val (v := Value.pointer (some (eAddr v33 2 (Int.toNat 4)))) rfl (e_indexAddr (α := (Int) × (Int)) (xs := ([a, b, c, d, q] : List ((Int) × (Int)))) (v := v33) (i := 4) Try.underlying25 rfl rfl o35.flat rfl (by omega) (by first | omega | (simp only [List.length_set, List.length_append, List.length_cons, List.length_nil, List.length_replicate, List.length_map, List.length_take, List.length_drop]; omega) | (simp; done) | (simp; omega))) ?_
 refine l_val (v := Value.pointer (some ⟨(eAddr v33 2 (Int.toNat 4)).block, (eAddr v33 2 (Int.toNat 4)).off + 0, none⟩)) rfl (e_fieldAddr_el Try.underlying23 rfl rfl rfl rfl) ?_
 refine l_val (v := Value.int .i64 q.1) rfl (e_load_elF (α := (Int) × (Int)) (xs := ([a, b, c, d, q] : List ((Int) × (Int)))) (v := v33) (i := 4) tp3_gt rfl o35.flat (by omega) (by first | omega | (simp only [List.length_set, List.length_append, List.length_cons, List.length_nil, List.length_replicate, List.length_map, List.length_take, List.length_drop]; omega) | (simp; done) | (simp; omega)) (by decide) rfl) ?_
 refine l_val (v := Value.bool (decide (q.1 < (-262144)))) rfl (e_lss (m := q.1) (n := -262144) rfl rfl) ?_
 refine l_val (v := Value.bool (decide (q.1 < (-262144)))) rfl (e_move rfl) ?_
 by_cases q52_64 : q.1 < (-262144)
 ·
  refine l_skip (want_n rfl rfl rfl (decide_eq_true q52_64)) ?_
  refine l_skip (want_n rfl rfl rfl (decide_eq_true q52_64)) ?_
  refine l_skip (want_n rfl rfl rfl (decide_eq_true q52_64)) ?_
  refine l_skip (want_n rfl rfl rfl (decide_eq_true q52_64)) ?_
  refine l_skip (want_n rfl rfl rfl (decide_eq_true q52_64)) ?_
  refine l_skip (want_n rfl rfl rfl (decide_eq_true q52_64)) ?_
  refine l_val (v := Value.bool true) rfl (e_pick_t rfl (decide_eq_true q52_64) rfl) ?_
  refine l_val (v := Value.bool true) rfl (e_move rfl) ?_
  refine l_skip (want_n rfl rfl rfl rfl) ?_
  refine l_skip (want_n rfl rfl rfl rfl) ?_
  refine l_skip (want_n rfl rfl rfl rfl) ?_
  refine l_skip (want_n rfl rfl rfl rfl) ?_
  refine l_skip (want_n rfl rfl rfl rfl) ?_
  refine l_skip (want_n rfl rfl rfl rfl) ?_
  refine l_val (v := Value.bool true) rfl (e_pick_t rfl rfl rfl) ?_
  refine l_val (v := Value.bool true) rfl (e_move rfl) ?_
  refine l_skip (want_n rfl rfl rfl rfl) ?_
  refine l_skip (want_n rfl rfl rfl rfl) ?_
  refine l_skip (want_n rfl rfl rfl rfl) ?_
  refine l_skip (want_n rfl rfl rfl rfl) ?_
  refine l_skip (want_n rfl rfl rfl rfl) ?_
  refine l_skip (want_n rfl rfl rfl rfl) ?_
  refine l_val (v := Value.bool true) rfl (e_pick_t rfl rfl rfl) ?_
  refine l_nil ?_
  refine run_cond_t rfl rfl ?_
  refine run_seq ?_
  clear bx5
  clear bx10
  clear bx15
  clear bx20
  clear bx25
  clear o35
  refine run_region rfl ?_
  refine l_val (v := Value.bool true) rfl (e_assign rfl) ?_
  refine l_nil ?_
  refine run_ret (vs := [Value.bool true]) Try.func3 (.tmp rfl .nil) ?_
  -- return 16
  have e0 : (true : Bool) = (true) := by
    first
      | rfl
      | exact decide_eq_true hl7
      | exact (decide_eq_true hl7).symm
  have C65 : Chg (inl []) _ _ _ _ := (ch2.n).seq ((ch7.n).seq ((ch12.n).seq ((ch17.n).seq ((ch22.n).seq ((hb27.n).seq (ch34.n))))))
  replace hbase := hbase.chg C65 (is_nl rfl)
  exact ⟨(congrArg (a₁ := true) (fun (z0 : Bool) => Ending.returned (Value.bool z0)) e0), hbase.below⟩
 refine l_val (v := v33) (want_y rfl rfl rfl (decide_eq_false q52_64)) (e_move rfl) ?_
 refine l_val (v := Value.int .i64 4) (want_y rfl rfl rfl (decide_eq_false q52_64)) (e_move rfl) ?_
 refine l_val (v := Value.pointer (some (eAddr v33 2 (Int.toNat 4)))) (want_y rfl rfl rfl (decide_eq_false q52_64)) (e_indexAddr (α := (Int) × (Int)) (xs := ([a, b, c, d, q] : List ((Int) × (Int)))) (v := v33) (i := 4) Try.underlying25 rfl rfl o35.flat rfl (by omega) (by first | omega | (simp only [List.length_set, List.length_append, List.length_cons, List.length_nil, List.length_replicate, List.length_map, List.length_take, List.length_drop]; omega) | (simp; done) | (simp; omega))) ?_
 refine l_val (v := Value.pointer (some ⟨(eAddr v33 2 (Int.toNat 4)).block, (eAddr v33 2 (Int.toNat 4)).off + 0, none⟩)) (want_y rfl rfl rfl (decide_eq_false q52_64)) (e_fieldAddr_el Try.underlying23 rfl rfl rfl rfl) ?_
 refine l_val (v := Value.int .i64 q.1) (want_y rfl rfl rfl (decide_eq_false q52_64)) (e_load_elF (α := (Int) × (Int)) (xs := ([a, b, c, d, q] : List ((Int) × (Int)))) (v := v33) (i := 4) tp3_gt rfl o35.flat (by omega) (by first | omega | (simp only [List.length_set, List.length_append, List.length_cons, List.length_nil, List.length_replicate, List.length_map, List.length_take, List.length_drop]; omega) | (simp; done) | (simp; omega)) (by decide) rfl) ?_
 refine l_val (v := Value.bool (decide (262144 < q.1))) (want_y rfl rfl rfl (decide_eq_false q52_64)) (e_gtr (m := q.1) (n := 262144) rfl rfl) ?_
 refine l_val (v := Value.bool (decide (262144 < q.1))) rfl (e_pick_f rfl (decide_eq_false q52_64) rfl) ?_
 refine l_val (v := Value.bool (decide (262144 < q.1))) rfl (e_move rfl) ?_
 by_cases q60_66 : 262144 < q.1
 ·
  refine l_skip (want_n rfl rfl rfl (decide_eq_true q60_66)) ?_
  refine l_skip (want_n rfl rfl rfl (decide_eq_true q60_66)) ?_
  refine l_skip (want_n rfl rfl rfl (decide_eq_true q60_66)) ?_
  refine l_skip (want_n rfl rfl rfl (decide_eq_true q60_66)) ?_
  refine l_skip (want_n rfl rfl rfl (decide_eq_true q60_66)) ?_
  refine l_skip (want_n rfl rfl rfl (decide_eq_true q60_66)) ?_
  refine l_val (v := Value.bool true) rfl (e_pick_t rfl (decide_eq_true q60_66) rfl) ?_
  refine l_val (v := Value.bool true) rfl (e_move rfl) ?_
  refine l_skip (want_n rfl rfl rfl rfl) ?_
  refine l_skip (want_n rfl rfl rfl rfl) ?_
  refine l_skip (want_n rfl rfl rfl rfl) ?_
  refine l_skip (want_n rfl rfl rfl rfl) ?_
  refine l_skip (want_n rfl rfl rfl rfl) ?_
  refine l_skip (want_n rfl rfl rfl rfl) ?_
  refine l_val (v := Value.bool true) rfl (e_pick_t rfl rfl rfl) ?_
  refine l_nil ?_
  refine run_cond_t rfl rfl ?_
  refine run_seq ?_
  clear bx5
  clear bx10
  clear bx15
  clear bx20
  clear bx25
  clear o35
  refine run_region rfl ?_
  refine l_val (v := Value.bool true) rfl (e_assign rfl) ?_
  refine l_nil ?_
  refine run_ret (vs := [Value.bool true]) Try.func3 (.tmp rfl .nil) ?_
  -- return 17
  have e0 : (true : Bool) = (true) := by
    first
      | rfl
      | exact decide_eq_true hl7
      | exact (decide_eq_true hl7).symm
  have C67 : Chg (inl []) _ _ _ _ := (ch2.n).seq ((ch7.n).seq ((ch12.n).seq ((ch17.n).seq ((ch22.n).seq ((hb27.n).seq (ch34.n))))))
  replace hbase := hbase.chg C67 (is_nl rfl)
  exact ⟨(congrArg (a₁ := true) (fun (z0 : Bool) => Ending.returned (Value.bool z0)) e0), hbase.below⟩
 refine l_val (v := v33) (want_y rfl rfl rfl (decide_eq_false q60_66)) (e_move rfl) ?_
 refine l_val (v := Value.int .i64 4) (want_y rfl rfl rfl (decide_eq_false q60_66)) (e_move rfl) ?_
 refine l_val (v := Value.pointer (some (eAddr v33 2 (Int.toNat 4)))) (want_y rfl rfl rfl (decide_eq_false q60_66)) (e_indexAddr (α := (Int) × (Int)) (xs := ([a, b, c, d, q] : List ((Int) × (Int)))) (v := v33) (i := 4) Try.underlying25 rfl rfl o35.flat rfl (by omega) (by first | omega | (simp only [List.length_set, List.length_append, List.length_cons, List.length_nil, List.length_replicate, List.length_map, List.length_take, List.length_drop]; omega) | (simp; done) | (simp; omega))) ?_
 refine l_val (v := Value.pointer (some ⟨(eAddr v33 2 (Int.toNat 4)).block, (eAddr v33 2 (Int.toNat 4)).off + 1, none⟩)) (want_y rfl rfl rfl (decide_eq_false q60_66)) (e_fieldAddr_el Try.underlying23 rfl rfl rfl rfl) ?_
 refine l_val (v := Value.int .i64 q.2) (want_y rfl rfl rfl (decide_eq_false q60_66)) (e_load_elF (α := (Int) × (Int)) (xs := ([a, b, c, d, q] : List ((Int) × (Int)))) (v := v33) (i := 4) tp3_gt rfl o35.flat (by omega) (by first | omega | (simp only [List.length_set, List.length_append, List.length_cons, List.length_nil, List.length_replicate, List.length_map, List.length_take, List.length_drop]; omega) | (simp; done) | (simp; omega)) (by decide) rfl) ?_
 refine l_val (v := Value.bool (decide (q.2 < (-262144)))) (want_y rfl rfl rfl (decide_eq_false q60_66)) (e_lss (m := q.2) (n := -262144) rfl rfl) ?_
 refine l_val (v := Value.bool (decide (q.2 < (-262144)))) rfl (e_pick_f rfl (decide_eq_false q60_66) rfl) ?_
 refine l_val (v := Value.bool (decide (q.2 < (-262144)))) rfl (e_move rfl) ?_
 by_cases q68_68 : q.2 < (-262144)
 ·
  refine l_skip (want_n rfl rfl rfl (decide_eq_true q68_68)) ?_
  refine l_skip (want_n rfl rfl rfl (decide_eq_true q68_68)) ?_
  refine l_skip (want_n rfl rfl rfl (decide_eq_true q68_68)) ?_
  refine l_skip (want_n rfl rfl rfl (decide_eq_true q68_68)) ?_
  refine l_skip (want_n rfl rfl rfl (decide_eq_true q68_68)) ?_
  refine l_skip (want_n rfl rfl rfl (decide_eq_true q68_68)) ?_
  refine l_val (v := Value.bool true) rfl (e_pick_t rfl (decide_eq_true q68_68) rfl) ?_
  refine l_nil ?_
  refine run_cond_t rfl rfl ?_
  refine run_seq ?_
  clear bx5
  clear bx10
  clear bx15
  clear bx20
  clear bx25
  clear o35
  refine run_region rfl ?_
  refine l_val (v := Value.bool true) rfl (e_assign rfl) ?_
  refine l_nil ?_
  refine run_ret (vs := [Value.bool true]) Try.func3 (.tmp rfl .nil) ?_
  -- return 18
  have e0 : (true : Bool) = (true) := by
    first
      | rfl
      | exact decide_eq_true hl7
      | exact (decide_eq_true hl7).symm
  have C69 : Chg (inl []) _ _ _ _ := (ch2.n).seq ((ch7.n).seq ((ch12.n).seq ((ch17.n).seq ((ch22.n).seq ((hb27.n).seq (ch34.n))))))
  replace hbase := hbase.chg C69 (is_nl rfl)
  exact ⟨(congrArg (a₁ := true) (fun (z0 : Bool) => Ending.returned (Value.bool z0)) e0), hbase.below⟩
 refine l_val (v := v33) (want_y rfl rfl rfl (decide_eq_false q68_68)) (e_move rfl) ?_
 refine l_val (v := Value.int .i64 4) (want_y rfl rfl rfl (decide_eq_false q68_68)) (e_move rfl) ?_
 refine l_val (v := Value.pointer (some (eAddr v33 2 (Int.toNat 4)))) (want_y rfl rfl rfl (decide_eq_false q68_68)) (e_indexAddr (α := (Int) × (Int)) (xs := ([a, b, c, d, q] : List ((Int) × (Int)))) (v := v33) (i := 4) Try.underlying25 rfl rfl o35.flat rfl (by omega) (by first | omega | (simp only [List.length_set, List.length_append, List.length_cons, List.length_nil, List.length_replicate, List.length_map, List.length_take, List.length_drop]; omega) | (simp; done) | (simp; omega))) ?_
 refine l_val (v := Value.pointer (some ⟨(eAddr v33 2 (Int.toNat 4)).block, (eAddr v33 2 (Int.toNat 4)).off + 1, none⟩)) (want_y rfl rfl rfl (decide_eq_false q68_68)) (e_fieldAddr_el Try.underlying23 rfl rfl rfl rfl) ?_
 refine l_val (v := Value.int .i64 q.2) (want_y rfl rfl rfl (decide_eq_false q68_68)) (e_load_elF (α := (Int) × (Int)) (xs := ([a, b, c, d, q] : List ((Int) × (Int)))) (v := v33) (i := 4) tp3_gt rfl o35.flat (by omega) (by first | omega | (simp only [List.length_set, List.length_append, List.length_cons, List.length_nil, List.length_replicate, List.length_map, List.length_take, List.length_drop]; omega) | (simp; done) | (simp; omega)) (by decide) rfl) ?_
 refine l_val (v := Value.bool (decide (262144 < q.2))) (want_y rfl rfl rfl (decide_eq_false q68_68)) (e_gtr (m := q.2) (n := 262144) rfl rfl) ?_
 refine l_val (v := Value.bool (decide (262144 < q.2))) rfl (e_pick_f rfl (decide_eq_false q68_68) rfl) ?_
 refine l_nil ?_
 by_cases p7_70 : 262144 < q.2
 ·
  refine run_cond_t rfl (decide_eq_true p7_70) ?_
  refine run_seq ?_
  clear bx5
  clear bx10
  clear bx15
  clear bx20
  clear bx25
  clear o35
  refine run_region rfl ?_
  refine l_val (v := Value.bool true) rfl (e_assign rfl) ?_
  refine l_nil ?_
  refine run_ret (vs := [Value.bool true]) Try.func3 (.tmp rfl .nil) ?_
  -- return 19
  have e0 : (true : Bool) = (true) := by
    first
      | rfl
      | exact decide_eq_true hl7
      | exact (decide_eq_true hl7).symm
  have C71 : Chg (inl []) _ _ _ _ := (ch2.n).seq ((ch7.n).seq ((ch12.n).seq ((ch17.n).seq ((ch22.n).seq ((hb27.n).seq (ch34.n))))))
  replace hbase := hbase.chg C71 (is_nl rfl)
  exact ⟨(congrArg (a₁ := true) (fun (z0 : Bool) => Ending.returned (Value.bool z0)) e0), hbase.below⟩
 refine run_cond_f rfl (decide_eq_false p7_70) ?_
 refine run_skip ?_
 refine run_inBlock ?_
 refine run_region rfl ?_
 refine l_val (v := Value.int .i64 4) rfl (e_move rfl) ?_
 refine l_val (v := Value.int .i64 5) rfl (e_add (m := 4) (n := 1) rfl rfl (by omega)) ?_
 refine l_val (v := Value.int .i64 5) rfl (e_assign rfl) ?_
 refine l_nil ?_
 refine run_inLoop ?_
 refine run_seq ?_
 refine run_seq ?_
 refine run_region rfl ?_
 refine l_val (v := Value.int .i64 5) rfl (e_move rfl) ?_
 refine l_val (v := Value.bool false) rfl (e_lss (m := 5) (n := 5) rfl rfl) ?_
 refine l_nil ?_
 refine run_cond_f rfl rfl ?_
 refine run_exit rfl ?_
 refine run_seq ?_
 have hsa : smP a := by unfold smP; omega
 have hsb : smP b := by unfold smP; omega
 have hsc : smP c := by unfold smP; omega
 have hsd : smP d := by unfold smP; omega
 have hsq : smP q := by unfold smP; omega
 obtain ⟨⟨hl1, hl2⟩, ⟨hl3, hl4⟩, hl5, hl6, hl7⟩ := turns_law hsa hsb hsc hsd hsq
 have hn1 := orient_abs a b c
 unfold smP at hsa hsb hsc hsd hsq
 refine run_region rfl ?_
 replace bx5 := bx5.chg ch34 (not_no _)
 refine l_val (v := Value.agg (List.toArray [Value.int .i64 a.1, Value.int .i64 a.2])) rfl (e_load_bxN (ds := [Value.int .i64 a.1, Value.int .i64 a.2]) tp23_gt rfl bx5 rfl rfl) ?_
 replace bx10 := bx10.chg ch34 (not_no _)
 refine l_val (v := Value.agg (List.toArray [Value.int .i64 b.1, Value.int .i64 b.2])) rfl (e_load_bxN (ds := [Value.int .i64 b.1, Value.int .i64 b.2]) tp23_gt rfl bx10 rfl rfl) ?_
 replace bx15 := bx15.chg ch34 (not_no _)
 refine l_val (v := Value.agg (List.toArray [Value.int .i64 c.1, Value.int .i64 c.2])) rfl (e_load_bxN (ds := [Value.int .i64 c.1, Value.int .i64 c.2]) tp23_gt rfl bx15 rfl rfl) ?_
 refine l_op rfl ?_
 refine o_call (v := Value.tuple (List.toArray [Value.int .i64 ((orientR a b c).1), Value.int .i64 ((orientR a b c).2)])) (e_call (vals := [Value.agg (List.toArray [Value.int .i64 a.1, Value.int .i64 a.2]), Value.agg (List.toArray [Value.int .i64 b.1, Value.int .i64 b.2]), Value.agg (List.toArray [Value.int .i64 c.1, Value.int .i64 c.2])]) Try.func13 bd13_gt nm13_gt rfl) (Orient_ok w32 a b c) ?_
 intro w72 hb73
 replace hb73 := chg_below hb73 g31
 refine l_val (v := Value.tuple (List.toArray [Value.int .i64 ((orientR a b c).1), Value.int .i64 ((orientR a b c).2)])) rfl (e_move rfl) ?_
 refine l_val (v := Value.int .i64 ((orientR a b c).1)) rfl (e_extract rfl rfl) ?_
 refine l_val (v := Value.int .i64 ((orientR a b c).2)) rfl (e_extract rfl rfl) ?_
 refine l_val (v := Value.int .i64 ((orientR a b c).1)) rfl (e_assign rfl) ?_
 refine l_val (v := Value.int .i64 ((orientR a b c).2)) rfl (e_assign rfl) ?_
 refine l_nil ?_
 refine run_seq ?_
 refine run_region rfl ?_
 replace bx10 := bx10.chg hb73 (not_no _)
 refine l_val (v := Value.agg (List.toArray [Value.int .i64 b.1, Value.int .i64 b.2])) rfl (e_load_bxN (ds := [Value.int .i64 b.1, Value.int .i64 b.2]) tp23_gt rfl bx10 rfl rfl) ?_
 replace bx5 := bx5.chg hb73 (not_no _)
 refine l_val (v := Value.agg (List.toArray [Value.int .i64 a.1, Value.int .i64 a.2])) rfl (e_load_bxN (ds := [Value.int .i64 a.1, Value.int .i64 a.2]) tp23_gt rfl bx5 rfl rfl) ?_
 replace bx15 := bx15.chg hb73 (not_no _)
 refine l_val (v := Value.agg (List.toArray [Value.int .i64 c.1, Value.int .i64 c.2])) rfl (e_load_bxN (ds := [Value.int .i64 c.1, Value.int .i64 c.2]) tp23_gt rfl bx15 rfl rfl) ?_
 refine l_op rfl ?_
 refine o_call (v := Value.tuple (List.toArray [Value.int .i64 ((orientR b a c).1), Value.int .i64 ((orientR b a c).2)])) (e_call (vals := [Value.agg (List.toArray [Value.int .i64 b.1, Value.int .i64 b.2]), Value.agg (List.toArray [Value.int .i64 a.1, Value.int .i64 a.2]), Value.agg (List.toArray [Value.int .i64 c.1, Value.int .i64 c.2])]) Try.func13 bd13_gt nm13_gt rfl) (Orient_ok w72 b a c) ?_
 intro w74 hb75
 replace hb75 := chg_below hb75 g31
 refine l_val (v := Value.tuple (List.toArray [Value.int .i64 ((orientR b a c).1), Value.int .i64 ((orientR b a c).2)])) rfl (e_move rfl) ?_
 refine l_val (v := Value.int .i64 ((orientR b a c).1)) rfl (e_extract rfl rfl) ?_
 refine l_val (v := Value.int .i64 ((orientR b a c).2)) rfl (e_extract rfl rfl) ?_
 refine l_val (v := Value.int .i64 ((orientR b a c).1)) rfl (e_assign rfl) ?_
 refine l_val (v := Value.int .i64 ((orientR b a c).2)) rfl (e_assign rfl) ?_
 refine l_nil ?_
 refine run_seq ?_
 refine run_region rfl ?_
 replace bx10 := bx10.chg hb75 (not_no _)
 refine l_val (v := Value.agg (List.toArray [Value.int .i64 b.1, Value.int .i64 b.2])) rfl (e_load_bxN (ds := [Value.int .i64 b.1, Value.int .i64 b.2]) tp23_gt rfl bx10 rfl rfl) ?_
 replace bx15 := bx15.chg hb75 (not_no _)
 refine l_val (v := Value.agg (List.toArray [Value.int .i64 c.1, Value.int .i64 c.2])) rfl (e_load_bxN (ds := [Value.int .i64 c.1, Value.int .i64 c.2]) tp23_gt rfl bx15 rfl rfl) ?_
 replace bx5 := bx5.chg hb75 (not_no _)
 refine l_val (v := Value.agg (List.toArray [Value.int .i64 a.1, Value.int .i64 a.2])) rfl (e_load_bxN (ds := [Value.int .i64 a.1, Value.int .i64 a.2]) tp23_gt rfl bx5 rfl rfl) ?_
 refine l_op rfl ?_
 refine o_call (v := Value.tuple (List.toArray [Value.int .i64 ((orientR b c a).1), Value.int .i64 ((orientR b c a).2)])) (e_call (vals := [Value.agg (List.toArray [Value.int .i64 b.1, Value.int .i64 b.2]), Value.agg (List.toArray [Value.int .i64 c.1, Value.int .i64 c.2]), Value.agg (List.toArray [Value.int .i64 a.1, Value.int .i64 a.2])]) Try.func13 bd13_gt nm13_gt rfl) (Orient_ok w74 b c a) ?_
 intro w76 hb77
 replace hb77 := chg_below hb77 g31
 refine l_val (v := Value.tuple (List.toArray [Value.int .i64 ((orientR b c a).1), Value.int .i64 ((orientR b c a).2)])) rfl (e_move rfl) ?_
 refine l_val (v := Value.int .i64 ((orientR b c a).1)) rfl (e_extract rfl rfl) ?_
 refine l_val (v := Value.int .i64 ((orientR b c a).2)) rfl (e_extract rfl rfl) ?_
 refine l_val (v := Value.int .i64 ((orientR b c a).1)) rfl (e_assign rfl) ?_
 refine l_val (v := Value.int .i64 ((orientR b c a).2)) rfl (e_assign rfl) ?_
 refine l_nil ?_
 refine run_seq ?_
 refine run_seq ?_
 refine run_region rfl ?_
 refine l_val (v := Value.int .i64 ((orientR b a c).1)) rfl (e_move rfl) ?_
 refine l_val (v := Value.int .i64 ((orientR a b c).1)) rfl (e_move rfl) ?_
 refine l_val (v := Value.int .i64 (-((orientR a b c).1))) rfl (e_neg (m := (orientR a b c).1) rfl (by omega)) ?_
 refine l_val (v := Value.bool (!(decide (((orientR b a c).1) = (-((orientR a b c).1)))))) rfl (e_neq (m := (orientR b a c).1) (n := -((orientR a b c).1)) rfl rfl) ?_
 refine l_val (v := Value.bool (!(decide (((orientR b a c).1) = (-((orientR a b c).1)))))) rfl (e_move rfl) ?_
 have q101 : ((orientR b a c).1) = (-((orientR a b c).1)) := by first | exact hl1 | exact hl2 | exact hl3 | exact hl4 | exact hl5 | exact hl6
 refine l_val (v := Value.int .i64 ((orientR b c a).1)) (want_y rfl rfl rfl (congrArg Bool.not (decide_eq_true q101))) (e_move rfl) ?_
 refine l_val (v := Value.int .i64 ((orientR a b c).1)) (want_y rfl rfl rfl (congrArg Bool.not (decide_eq_true q101))) (e_move rfl) ?_
 refine l_val (v := Value.bool (!(decide (((orientR b c a).1) = ((orientR a b c).1))))) (want_y rfl rfl rfl (congrArg Bool.not (decide_eq_true q101))) (e_neq (m := (orientR b c a).1) (n := (orientR a b c).1) rfl rfl) ?_
 refine l_val (v := Value.bool (!(decide (((orientR b c a).1) = ((orientR a b c).1))))) rfl (e_pick_f rfl (congrArg Bool.not (decide_eq_true q101)) rfl) ?_
 refine l_nil ?_
 have p12 : ((orientR b c a).1) = ((orientR a b c).1) := by first | exact hl1 | exact hl2 | exact hl3 | exact hl4 | exact hl5 | exact hl6
 refine run_cond_f rfl (congrArg Bool.not (decide_eq_true p12)) ?_
 refine run_skip ?_
 refine run_seq ?_
 refine region_mid (σ := Value × Value × Cmap) (fun ⟨v80, v85, gq⟩ f w => Base w0 gq w ∧ f 5 = Value.pointer (some ⟨b3, 0, none⟩) ∧ f 6 = Value.pointer (some ⟨b8, 0, none⟩) ∧ f 7 = Value.pointer (some ⟨b13, 0, none⟩) ∧ f 8 = Value.pointer (some ⟨b18, 0, none⟩) ∧ f 9 = Value.pointer (some ⟨b23, 0, none⟩) ∧ f 11 = v33 ∧ f 13 = Value.int .i64 ((orientR a b c).1) ∧ f 19 = v80 ∧ f 20 = v85 ∧ Bx gq (is 1) w b3 [Value.int .i64 a.1, Value.int .i64 a.2] ∧ Bx gq (is 2) w b8 [Value.int .i64 b.1, Value.int .i64 b.2] ∧ Bx gq (is 3) w b13 [Value.int .i64 c.1, Value.int .i64 c.2] ∧ Bx gq (is 4) w b18 [Value.int .i64 d.1, Value.int .i64 d.2] ∧ Bx gq (is 5) w b23 [Value.int .i64 q.1, Value.int .i64 q.2] ∧ Ow gq (is 6) (is 6) w v33 ([a, b, c, d, q] : List ((Int) × (Int))) ∧ Ow gq (is 7) (is 7) w v80 ([((0 : Int), (0 : Int)), ((0 : Int), (0 : Int)), ((0 : Int), (0 : Int)), ((0 : Int), (0 : Int))] : List ((Int) × (Int))) ∧ Ow gq (is 8) (is 8) w v85 ([((0 : Int), (0 : Int)), ((0 : Int), (0 : Int)), ((0 : Int), (0 : Int)), ((0 : Int), (0 : Int))] : List ((Int) × (Int)))) g31 [2, 3] mixed_gt ?_ ?_
 ·
  intro mid
  intro w79 ch78
  refine x_two 0 1 rfl rfl (by kernel_rfl) rfl rfl ?_ ?_
  ·
   refine o_make (α := (Int) × (Int)) (l := 4) (cp := 4) g31 (is 7) (is 7) (7, 0) rfl ((0 : Int), (0 : Int)) Try.underlying25 tp23_gt rfl rfl rfl (by omega) (by omega) (by omega) (by omega) ?_
   intro g80 w81 v82 ch83 o84 _
   replace o84 : Ow g80 (is 7) (is 7) w81 v82 ([((0 : Int), (0 : Int)), ((0 : Int), (0 : Int)), ((0 : Int), (0 : Int)), ((0 : Int), (0 : Int))] : List ((Int) × (Int))) := o84
   refine x_pure (v := v82) 2 rfl (by kernel_rfl) (by kernel_rfl) rfl (fun w => e_assign rfl) ?_
   refine x_one 1 rfl (by kernel_rfl) rfl ?_
   refine o_make (α := (Int) × (Int)) (l := 4) (cp := 4) g80 (is 8) (is 8) (8, 0) rfl ((0 : Int), (0 : Int)) Try.underlying25 tp23_gt rfl rfl rfl (by omega) (by omega) (by omega) (by omega) ?_
   intro g85 w86 v87 ch88 o89 _
   replace o89 : Ow g85 (is 8) (is 8) w86 v87 ([((0 : Int), (0 : Int)), ((0 : Int), (0 : Int)), ((0 : Int), (0 : Int)), ((0 : Int), (0 : Int))] : List ((Int) × (Int))) := o89
   refine x_pure (v := v87) 3 rfl (by kernel_rfl) (by kernel_rfl) rfl (fun w => e_assign rfl) ?_
   refine x_nil (by kernel_rfl) ?_
   have C90 : Chg (inl []) _ _ _ _ := (ch2.n).seq ((ch7.n).seq ((ch12.n).seq ((ch17.n).seq ((ch22.n).seq ((hb27.n).seq ((ch34.n).seq ((hb73.n).seq ((hb75.n).seq ((hb77.n).seq ((ch78.n).seq ((ch83.n).seq (ch88.n))))))))))))
   replace hbase := hbase.chg C90 (is_nl rfl)
   have C91 : Chg (inl []) _ _ _ _ := (hb77.n).seq ((ch78.n).seq ((ch83.n).seq (ch88.n)))
   replace bx5 := bx5.chg C91 (is_nl rfl)
   replace bx10 := bx10.chg C91 (is_nl rfl)
   replace bx15 := bx15.chg C91 (is_nl rfl)
   have C92 : Chg (inl []) _ _ _ _ := (ch34.n).seq ((hb73.n).seq ((hb75.n).seq ((hb77.n).seq ((ch78.n).seq ((ch83.n).seq (ch88.n))))))
   replace bx20 := bx20.chg C92 (is_nl rfl)
   replace bx25 := bx25.chg C92 (is_nl rfl)
   have C93 : Chg (inl []) _ _ _ _ := (hb73.n).seq ((hb75.n).seq ((hb77.n).seq ((ch78.n).seq ((ch83.n).seq (ch88.n)))))
   replace o35 := o35.chg C93 (is_nl rfl) (is_nl rfl)
   replace o84 := o84.chg ch88 (not_no _) (not_no _)
   exact mid (v82, v87, g85) _ _ ⟨hbase, rfl, rfl, rfl, rfl, rfl, rfl, rfl, rfl, rfl, bx5, bx10, bx15, bx20, bx25, o35, o84, o89⟩
  ·
   refine o_make (α := (Int) × (Int)) (l := 4) (cp := 4) g31 (is 8) (is 8) (8, 0) rfl ((0 : Int), (0 : Int)) Try.underlying25 tp23_gt rfl rfl rfl (by omega) (by omega) (by omega) (by omega) ?_
   intro g94 w95 v96 ch97 o98 _
   replace o98 : Ow g94 (is 8) (is 8) w95 v96 ([((0 : Int), (0 : Int)), ((0 : Int), (0 : Int)), ((0 : Int), (0 : Int)), ((0 : Int), (0 : Int))] : List ((Int) × (Int))) := o98
   refine x_one 0 rfl (by kernel_rfl) rfl ?_
   refine o_make (α := (Int) × (Int)) (l := 4) (cp := 4) g94 (is 7) (is 7) (7, 0) rfl ((0 : Int), (0 : Int)) Try.underlying25 tp23_gt rfl rfl rfl (by omega) (by omega) (by omega) (by omega) ?_
   intro g99 w100 v101 ch102 o103 _
   replace o103 : Ow g99 (is 7) (is 7) w100 v101 ([((0 : Int), (0 : Int)), ((0 : Int), (0 : Int)), ((0 : Int), (0 : Int)), ((0 : Int), (0 : Int))] : List ((Int) × (Int))) := o103
   refine x_pure (v := v101) 2 rfl (by kernel_rfl) (by kernel_rfl) rfl (fun w => e_assign rfl) ?_
   refine x_pure (v := v96) 3 rfl (by kernel_rfl) (by kernel_rfl) rfl (fun w => e_assign rfl) ?_
   refine x_nil (by kernel_rfl) ?_
   have C104 : Chg (inl []) _ _ _ _ := (ch2.n).seq ((ch7.n).seq ((ch12.n).seq ((ch17.n).seq ((ch22.n).seq ((hb27.n).seq ((ch34.n).seq ((hb73.n).seq ((hb75.n).seq ((hb77.n).seq ((ch78.n).seq ((ch97.n).seq (ch102.n))))))))))))
   replace hbase := hbase.chg C104 (is_nl rfl)
   have C105 : Chg (inl []) _ _ _ _ := (hb77.n).seq ((ch78.n).seq ((ch97.n).seq (ch102.n)))
   replace bx5 := bx5.chg C105 (is_nl rfl)
   replace bx10 := bx10.chg C105 (is_nl rfl)
   replace bx15 := bx15.chg C105 (is_nl rfl)
   have C106 : Chg (inl []) _ _ _ _ := (ch34.n).seq ((hb73.n).seq ((hb75.n).seq ((hb77.n).seq ((ch78.n).seq ((ch97.n).seq (ch102.n))))))
   replace bx20 := bx20.chg C106 (is_nl rfl)
   replace bx25 := bx25.chg C106 (is_nl rfl)
   have C107 : Chg (inl []) _ _ _ _ := (hb73.n).seq ((hb75.n).seq ((hb77.n).seq ((ch78.n).seq ((ch97.n).seq (ch102.n)))))
   replace o35 := o35.chg C107 (is_nl rfl) (is_nl rfl)
   replace o98 := o98.chg ch102 (not_no _) (not_no _)
   exact mid (v101, v96, g99) _ _ ⟨hbase, rfl, rfl, rfl, rfl, rfl, rfl, rfl, rfl, rfl, bx5, bx10, bx15, bx20, bx25, o35, o103, o98⟩
 clear bx5
 clear bx10
 clear bx15
 clear bx20
 clear bx25
 clear o35
 clear hbase
 rintro ⟨v80, v85, g110⟩ f108 w109 ⟨hbase, zs5, zs6, zs7, zs8, zs9, zs11, zs13, zs19, zs20, bx5, bx10, bx15, bx20, bx25, o35, o82, o87⟩
 refine run_seq ?_
 refine run_seq ?_
 refine run_region rfl ?_
 refine l_val (v := Value.int .i64 0) rfl (e_assign rfl) ?_
 refine l_nil ?_
 refine run_block ?_
 refine run_loop0 ?_
 refine run_seq ?_
 refine run_seq ?_
 refine run_region rfl ?_
 refine l_val (v := Value.int .i64 0) rfl (e_move rfl) ?_
 refine l_val (v := Value.bool true) rfl (e_lss (m := 0) (n := 4) rfl rfl) ?_
 refine l_nil ?_
 refine run_cond_t rfl rfl ?_
 refine run_skip ?_
 refine run_seq ?_
 refine run_block ?_
 refine run_seq ?_
 refine run_region_x g110 [0, 1, 2, 3, 4, 5, 6, 7, 8, 9, 10, 11, 12, 13, 14, 15, 16, 17, 19] mixed_gt ?_
 intro w112 ch111
 refine x_pure (v := v80) 0 rfl (by kernel_rfl) (by kernel_rfl) rfl (fun w => e_move (by exact zs19)) ?_
 refine x_pure (v := Value.int .i64 0) 1 rfl (by kernel_rfl) (by kernel_rfl) rfl (fun w => e_move rfl) ?_
 refine x_pure (v := v33) 2 rfl (by kernel_rfl) (by kernel_rfl) rfl (fun w => e_move (by exact zs11)) ?_
 refine x_pure (v := Value.int .i64 0) 3 rfl (by kernel_rfl) (by kernel_rfl) rfl (fun w => e_move rfl) ?_
 replace o35 := o35.chg ch111 (not_no _) (not_no _)
 refine x_val (v := Value.pointer (some (eAddr v33 2 (Int.toNat 0)))) 4 [3, 2, 1, 0, 7, 10, 11, 15, 8, 12, 16, 13, 14, 17] rfl (by kernel_rfl) (by kernel_rfl) rfl (e_indexAddr (α := (Int) × (Int)) (xs := ([a, b, c, d, q] : List ((Int) × (Int)))) (v := v33) (i := 0) Try.underlying25 rfl rfl o35.flat rfl (by omega) (by first | omega | (simp only [List.length_set, List.length_append, List.length_cons, List.length_nil, List.length_replicate, List.length_map, List.length_take, List.length_drop]; omega) | (simp; done) | (simp; omega))) ?_
 refine x_pure (v := Value.pointer (some ⟨(eAddr v33 2 (Int.toNat 0)).block, (eAddr v33 2 (Int.toNat 0)).off + 0, none⟩)) 5 rfl (by kernel_rfl) (by kernel_rfl) rfl (fun w => e_fieldAddr_el Try.underlying23 rfl rfl rfl rfl) ?_
 refine x_val (v := Value.int .i64 a.1) 6 [5, 4, 3, 2, 1, 0, 7, 10, 11, 15, 8, 12, 16, 13, 14, 17] rfl (by kernel_rfl) (by kernel_rfl) rfl (e_load_elF (α := (Int) × (Int)) (xs := ([a, b, c, d, q] : List ((Int) × (Int)))) (v := v33) (i := 0) tp3_gt rfl o35.flat (by omega) (by first | omega | (simp only [List.length_set, List.length_append, List.length_cons, List.length_nil, List.length_replicate, List.length_map, List.length_take, List.length_drop]; omega) | (simp; done) | (simp; omega)) (by decide) rfl) ?_
 refine x_pure (v := Value.pointer (some ⟨b23, 0, none⟩)) 7 rfl (by kernel_rfl) (by kernel_rfl) rfl (fun w => e_fieldAddr Try.underlying23 rfl rfl (by exact zs9) rfl) ?_
 replace bx25 := bx25.chg ch111 (not_no _)
 refine x_val (v := Value.int .i64 q.1) 8 [7, 6, 5, 4, 3, 2, 1, 0, 10, 11, 15, 12, 16, 13, 14, 17] rfl (by kernel_rfl) (by kernel_rfl) rfl (e_load_bx1 tp3_gt rfl bx25 rfl) ?_
 refine x_pure (v := Value.int .i64 (a.1 + q.1)) 9 rfl (by kernel_rfl) (by kernel_rfl) rfl (fun w => e_add (m := a.1) (n := q.1) rfl rfl (by omega)) ?_
 refine x_pure (v := v33) 10 rfl (by kernel_rfl) (by kernel_rfl) rfl (fun w => e_move (by exact zs11)) ?_
 refine x_pure (v := Value.int .i64 0) 11 rfl (by kernel_rfl) (by kernel_rfl) rfl (fun w => e_move rfl) ?_
 refine x_val (v := Value.pointer (some (eAddr v33 2 (Int.toNat 0)))) 12 [11, 10, 9, 8, 7, 6, 5, 4, 3, 2, 1, 0, 15, 16] rfl (by kernel_rfl) (by kernel_rfl) rfl (e_indexAddr (α := (Int) × (Int)) (xs := ([a, b, c, d, q] : List ((Int) × (Int)))) (v := v33) (i := 0) Try.underlying25 rfl rfl o35.flat rfl (by omega) (by first | omega | (simp only [List.length_set, List.length_append, List.length_cons, List.length_nil, List.length_replicate, List.length_map, List.length_take, List.length_drop]; omega) | (simp; done) | (simp; omega))) ?_
 refine x_pure (v := Value.pointer (some ⟨(eAddr v33 2 (Int.toNat 0)).block, (eAddr v33 2 (Int.toNat 0)).off + 1, none⟩)) 13 rfl (by kernel_rfl) (by kernel_rfl) rfl (fun w => e_fieldAddr_el Try.underlying23 rfl rfl rfl rfl) ?_
 refine x_val (v := Value.int .i64 a.2) 14 [13, 12, 11, 10, 9, 8, 7, 6, 5, 4, 3, 2, 1, 0, 15, 16] rfl (by kernel_rfl) (by kernel_rfl) rfl (e_load_elF (α := (Int) × (Int)) (xs := ([a, b, c, d, q] : List ((Int) × (Int)))) (v := v33) (i := 0) tp3_gt rfl o35.flat (by omega) (by first | omega | (simp only [List.length_set, List.length_append, List.length_cons, List.length_nil, List.length_replicate, List.length_map, List.length_take, List.length_drop]; omega) | (simp; done) | (simp; omega)) (by decide) rfl) ?_
 refine x_pure (v := Value.pointer (some ⟨b23, 1, none⟩)) 15 rfl (by kernel_rfl) (by kernel_rfl) rfl (fun w => e_fieldAddr Try.underlying23 rfl rfl (by exact zs9) rfl) ?_
 refine x_val (v := Value.int .i64 q.2) 16 [15, 14, 13, 12, 11, 10, 9, 8, 7, 6, 5, 4, 3, 2, 1, 0] rfl (by kernel_rfl) (by kernel_rfl) rfl (e_load_bx1 tp3_gt rfl bx25 rfl) ?_
 refine x_pure (v := Value.int .i64 (a.2 + q.2)) 17 rfl (by kernel_rfl) (by kernel_rfl) rfl (fun w => e_add (m := a.2) (n := q.2) rfl rfl (by omega)) ?_
 refine x_one 18 rfl (by kernel_rfl) rfl ?_
 refine o_call (v := Value.agg (List.toArray [Value.int .i64 (a.1 + q.1), Value.int .i64 (a.2 + q.2)])) (e_call (vals := [Value.int .i64 (a.1 + q.1), Value.int .i64 (a.2 + q.2)]) Try.func14 bd14_gt nm14_gt rfl) (pt_ok w112 (a.1 + q.1) (a.2 + q.2)) ?_
 intro w113 hb114
 replace hb114 := chg_below hb114 g110
 replace o82 := (o82.chg ch111 (not_no _) (not_no _)).chg hb114 (not_no _) (not_no _)
 refine x_val (v := Value.pointer (some (eAddr v80 2 (Int.toNat 0)))) 19 [18, 17, 16, 15, 14, 13, 12, 11, 10, 9, 8, 7, 6, 5, 4, 3, 2, 1, 0] rfl (by kernel_rfl) (by kernel_rfl) rfl (e_indexAddr (α := (Int) × (Int)) (xs := ([((0 : Int), (0 : Int)), ((0 : Int), (0 : Int)), ((0 : Int), (0 : Int)), ((0 : Int), (0 : Int))] : List ((Int) × (Int)))) (v := v80) (i := 0) Try.underlying25 rfl rfl o82.flat rfl (by omega) (by first | omega | (simp only [List.length_set, List.length_append, List.length_cons, List.length_nil, List.length_replicate, List.length_map, List.length_take, List.length_drop]; omega) | (simp; done) | (simp; omega))) ?_
 refine x_one 20 rfl (by kernel_rfl) rfl ?_
 refine o_store_el (i := 0) ((a.1 + q.1), (a.2 + q.2)) tp23_gt rfl rfl o82 (by omega) (by first | omega | (simp only [List.length_set, List.length_append, List.length_cons, List.length_nil, List.length_replicate, List.length_map, List.length_take, List.length_drop]; omega) | (simp; done) | (simp; omega)) rfl ?_
 intro w115 ch116 bx117
 clear o82
 replace bx117 : Ow g110 (is 7) (is 7) w115 v80 ([((a.1 + q.1), (a.2 + q.2)), ((0 : Int), (0 : Int)), ((0 : Int), (0 : Int)), ((0 : Int), (0 : Int))] : List ((Int) × (Int))) := bx117
 refine x_nil (by kernel_rfl) ?_
 refine run_region_x g110 [0, 1, 2, 3, 4, 5, 6, 7, 8, 9, 10, 11, 12, 14] mixed_gt ?_
 intro w119 ch118
 refine x_pure (v := v85) 0 rfl (by kernel_rfl) (by kernel_rfl) rfl (fun w => e_move (by exact zs20)) ?_
 refine x_pure (v := Value.int .i64 0) 1 rfl (by kernel_rfl) (by kernel_rfl) rfl (fun w => e_move rfl) ?_
 refine x_pure (v := v33) 2 rfl (by kernel_rfl) (by kernel_rfl) rfl (fun w => e_move (by exact zs11)) ?_
 refine x_pure (v := Value.int .i64 0) 3 rfl (by kernel_rfl) (by kernel_rfl) rfl (fun w => e_move rfl) ?_
 have C120 : Chg (inl [7]) _ _ _ _ := (hb114.n).seq ((ch116.l rfl).seq (ch118.n))
 replace o35 := o35.chg C120 (is_nl rfl) (is_nl rfl)
 refine x_val (v := Value.pointer (some (eAddr v33 2 (Int.toNat 0)))) 4 [3, 2, 1, 0, 8, 9, 10, 11, 12] rfl (by kernel_rfl) (by kernel_rfl) rfl (e_indexAddr (α := (Int) × (Int)) (xs := ([a, b, c, d, q] : List ((Int) × (Int)))) (v := v33) (i := 0) Try.underlying25 rfl rfl o35.flat rfl (by omega) (by first | omega | (simp only [List.length_set, List.length_append, List.length_cons, List.length_nil, List.length_replicate, List.length_map, List.length_take, List.length_drop]; omega) | (simp; done) | (simp; omega))) ?_
 refine x_pure (v := Value.pointer (some ⟨(eAddr v33 2 (Int.toNat 0)).block, (eAddr v33 2 (Int.toNat 0)).off + 1, none⟩)) 5 rfl (by kernel_rfl) (by kernel_rfl) rfl (fun w => e_fieldAddr_el Try.underlying23 rfl rfl rfl rfl) ?_
 refine x_val (v := Value.int .i64 a.2) 6 [5, 4, 3, 2, 1, 0, 8, 9, 10, 11, 12] rfl (by kernel_rfl) (by kernel_rfl) rfl (e_load_elF (α := (Int) × (Int)) (xs := ([a, b, c, d, q] : List ((Int) × (Int)))) (v := v33) (i := 0) tp3_gt rfl o35.flat (by omega) (by first | omega | (simp only [List.length_set, List.length_append, List.length_cons, List.length_nil, List.length_replicate, List.length_map, List.length_take, List.length_drop]; omega) | (simp; done) | (simp; omega)) (by decide) rfl) ?_
 refine x_pure (v := Value.int .i64 (-a.2)) 7 rfl (by kernel_rfl) (by kernel_rfl) rfl (fun w => e_neg (m := a.2) rfl (by omega)) ?_
 refine x_pure (v := v33) 8 rfl (by kernel_rfl) (by kernel_rfl) rfl (fun w => e_move (by exact zs11)) ?_
 refine x_pure (v := Value.int .i64 0) 9 rfl (by kernel_rfl) (by kernel_rfl) rfl (fun w => e_move rfl) ?_
 refine x_val (v := Value.pointer (some (eAddr v33 2 (Int.toNat 0)))) 10 [9, 8, 7, 6, 5, 4, 3, 2, 1, 0] rfl (by kernel_rfl) (by kernel_rfl) rfl (e_indexAddr (α := (Int) × (Int)) (xs := ([a, b, c, d, q] : List ((Int) × (Int)))) (v := v33) (i := 0) Try.underlying25 rfl rfl o35.flat rfl (by omega) (by first | omega | (simp only [List.length_set, List.length_append, List.length_cons, List.length_nil, List.length_replicate, List.length_map, List.length_take, List.length_drop]; omega) | (simp; done) | (simp; omega))) ?_
 refine x_pure (v := Value.pointer (some ⟨(eAddr v33 2 (Int.toNat 0)).block, (eAddr v33 2 (Int.toNat 0)).off + 0, none⟩)) 11 rfl (by kernel_rfl) (by kernel_rfl) rfl (fun w => e_fieldAddr_el Try.underlying23 rfl rfl rfl rfl) ?_
 refine x_val (v := Value.int .i64 a.1) 12 [11, 10, 9, 8, 7, 6, 5, 4, 3, 2, 1, 0] rfl (by kernel_rfl) (by kernel_rfl) rfl (e_load_elF (α := (Int) × (Int)) (xs := ([a, b, c, d, q] : List ((Int) × (Int)))) (v := v33) (i := 0) tp3_gt rfl o35.flat (by omega) (by first | omega | (simp only [List.length_set, List.length_append, List.length_cons, List.length_nil, List.length_replicate, List.length_map, List.length_take, List.length_drop]; omega) | (simp; done) | (simp; omega)) (by decide) rfl) ?_
 refine x_one 13 rfl (by kernel_rfl) rfl ?_
 refine o_call (v := Value.agg (List.toArray [Value.int .i64 (-a.2), Value.int .i64 a.1])) (e_call (vals := [Value.int .i64 (-a.2), Value.int .i64 a.1]) Try.func14 bd14_gt nm14_gt rfl) (pt_ok w119 (-a.2) a.1) ?_
 intro w121 hb122
 replace hb122 := chg_below hb122 g110
 have C123 : Chg (inl [7]) _ _ _ _ := (ch111.n).seq ((hb114.n).seq ((ch116.l rfl).seq ((ch118.n).seq (hb122.n))))
 replace o87 := o87.chg C123 (is_nl rfl) (is_nl rfl)
 refine x_val (v := Value.pointer (some (eAddr v85 2 (Int.toNat 0)))) 14 [13, 12, 11, 10, 9, 8, 7, 6, 5, 4, 3, 2, 1, 0] rfl (by kernel_rfl) (by kernel_rfl) rfl (e_indexAddr (α := (Int) × (Int)) (xs := ([((0 : Int), (0 : Int)), ((0 : Int), (0 : Int)), ((0 : Int), (0 : Int)), ((0 : Int), (0 : Int))] : List ((Int) × (Int)))) (v := v85) (i := 0) Try.underlying25 rfl rfl o87.flat rfl (by omega) (by first | omega | (simp only [List.length_set, List.length_append, List.length_cons, List.length_nil, List.length_replicate, List.length_map, List.length_take, List.length_drop]; omega) | (simp; done) | (simp; omega))) ?_
 refine x_one 15 rfl (by kernel_rfl) rfl ?_
 refine o_store_el (i := 0) ((-a.2), a.1) tp23_gt rfl rfl o87 (by omega) (by first | omega | (simp only [List.length_set, List.length_append, List.length_cons, List.length_nil, List.length_replicate, List.length_map, List.length_take, List.length_drop]; omega) | (simp; done) | (simp; omega)) rfl ?_
 intro w124 ch125 bx126
 clear o87
 replace bx126 : Ow g110 (is 8) (is 8) w124 v85 ([((-a.2), a.1), ((0 : Int), (0 : Int)), ((0 : Int), (0 : Int)), ((0 : Int), (0 : Int))] : List ((Int) × (Int))) := bx126
 refine x_nil (by kernel_rfl) ?_
 refine run_inBlock ?_
 refine run_region rfl ?_
 refine l_val (v := Value.int .i64 0) rfl (e_move rfl) ?_
 refine l_val (v := Value.int .i64 1) rfl (e_add (m := 0) (n := 1) rfl rfl (by omega)) ?_
 refine l_val (v := Value.int .i64 1) rfl (e_assign rfl) ?_
 refine l_nil ?_
 refine run_inLoop ?_
 refine run_seq ?_
 refine run_seq ?_
 refine run_region rfl ?_
 refine l_val (v := Value.int .i64 1) rfl (e_move rfl) ?_
 refine l_val (v := Value.bool true) rfl (e_lss (m := 1) (n := 4) rfl rfl) ?_
 refine l_nil ?_
 refine run_cond_t rfl rfl ?_
 refine run_skip ?_
 refine run_seq ?_
 refine run_block ?_
 refine run_seq ?_
 refine run_region_x g110 [0, 1, 2, 3, 4, 5, 6, 7, 8, 9, 10, 11, 12, 13, 14, 15, 16, 17, 19] mixed_gt ?_
 intro w128 ch127
 refine x_pure (v := v80) 0 rfl (by kernel_rfl) (by kernel_rfl) rfl (fun w => e_move (by exact zs19)) ?_
 refine x_pure (v := Value.int .i64 1) 1 rfl (by kernel_rfl) (by kernel_rfl) rfl (fun w => e_move rfl) ?_
 refine x_pure (v := v33) 2 rfl (by kernel_rfl) (by kernel_rfl) rfl (fun w => e_move (by exact zs11)) ?_
 refine x_pure (v := Value.int .i64 1) 3 rfl (by kernel_rfl) (by kernel_rfl) rfl (fun w => e_move rfl) ?_
 have C129 : Chg (inl [8]) _ _ _ _ := (hb122.n).seq ((ch125.l rfl).seq (ch127.n))
 replace o35 := o35.chg C129 (is_nl rfl) (is_nl rfl)
 refine x_val (v := Value.pointer (some (eAddr v33 2 (Int.toNat 1)))) 4 [3, 2, 1, 0, 7, 10, 11, 15, 8, 12, 16, 13, 14, 17] rfl (by kernel_rfl) (by kernel_rfl) rfl (e_indexAddr (α := (Int) × (Int)) (xs := ([a, b, c, d, q] : List ((Int) × (Int)))) (v := v33) (i := 1) Try.underlying25 rfl rfl o35.flat rfl (by omega) (by first | omega | (simp only [List.length_set, List.length_append, List.length_cons, List.length_nil, List.length_replicate, List.length_map, List.length_take, List.length_drop]; omega) | (simp; done) | (simp; omega))) ?_
 refine x_pure (v := Value.pointer (some ⟨(eAddr v33 2 (Int.toNat 1)).block, (eAddr v33 2 (Int.toNat 1)).off + 0, none⟩)) 5 rfl (by kernel_rfl) (by kernel_rfl) rfl (fun w => e_fieldAddr_el Try.underlying23 rfl rfl rfl rfl) ?_
 refine x_val (v := Value.int .i64 b.1) 6 [5, 4, 3, 2, 1, 0, 7, 10, 11, 15, 8, 12, 16, 13, 14, 17] rfl (by kernel_rfl) (by kernel_rfl) rfl (e_load_elF (α := (Int) × (Int)) (xs := ([a, b, c, d, q] : List ((Int) × (Int)))) (v := v33) (i := 1) tp3_gt rfl o35.flat (by omega) (by first | omega | (simp only [List.length_set, List.length_append, List.length_cons, List.length_nil, List.length_replicate, List.length_map, List.length_take, List.length_drop]; omega) | (simp; done) | (simp; omega)) (by decide) rfl) ?_
 refine x_pure (v := Value.pointer (some ⟨b23, 0, none⟩)) 7 rfl (by kernel_rfl) (by kernel_rfl) rfl (fun w => e_fieldAddr Try.underlying23 rfl rfl (by exact zs9) rfl) ?_
 have C130 : Chg (inl [7, 8]) _ _ _ _ := (hb114.n).seq ((ch116.l rfl).seq ((ch118.n).seq ((hb122.n).seq ((ch125.l rfl).seq (ch127.n)))))
 replace bx25 := bx25.chg C130 (is_nl rfl)
 refine x_val (v := Value.int .i64 q.1) 8 [7, 6, 5, 4, 3, 2, 1, 0, 10, 11, 15, 12, 16, 13, 14, 17] rfl (by kernel_rfl) (by kernel_rfl) rfl (e_load_bx1 tp3_gt rfl bx25 rfl) ?_
 refine x_pure (v := Value.int .i64 (b.1 + q.1)) 9 rfl (by kernel_rfl) (by kernel_rfl) rfl (fun w => e_add (m := b.1) (n := q.1) rfl rfl (by omega)) ?_
 refine x_pure (v := v33) 10 rfl (by kernel_rfl) (by kernel_rfl) rfl (fun w => e_move (by exact zs11)) ?_
 refine x_pure (v := Value.int .i64 1) 11 rfl (by kernel_rfl) (by kernel_rfl) rfl (fun w => e_move rfl) ?_
 refine x_val (v := Value.pointer (some (eAddr v33 2 (Int.toNat 1)))) 12 [11, 10, 9, 8, 7, 6, 5, 4, 3, 2, 1, 0, 15, 16] rfl (by kernel_rfl) (by kernel_rfl) rfl (e_indexAddr (α := (Int) × (Int)) (xs := ([a, b, c, d, q] : List ((Int) × (Int)))) (v := v33) (i := 1) Try.underlying25 rfl rfl o35.flat rfl (by omega) (by first | omega | (simp only [List.length_set, List.length_append, List.length_cons, List.length_nil, List.length_replicate, List.length_map, List.length_take, List.length_drop]; omega) | (simp; done) | (simp; omega))) ?_
 refine x_pure (v := Value.pointer (some ⟨(eAddr v33 2 (Int.toNat 1)).block, (eAddr v33 2 (Int.toNat 1)).off + 1, none⟩)) 13 rfl (by kernel_rfl) (by kernel_rfl) rfl (fun w => e_fieldAddr_el Try.underlying23 rfl rfl rfl rfl) ?_
 refine x_val (v := Value.int .i64 b.2) 14 [13, 12, 11, 10, 9, 8, 7, 6, 5, 4, 3, 2, 1, 0, 15, 16] rfl (by kernel_rfl) (by kernel_rfl) rfl (e_load_elF (α := (Int) × (Int)) (xs := ([a, b, c, d, q] : List ((Int) × (Int)))) (v := v33) (i := 1) tp3_gt rfl o35.flat (by omega) (by first | omega | (simp only [List.length_set, List.length_append, List.length_cons, List.length_nil, List.length_replicate, List.length_map, List.length_take, List.length_drop]; omega) | (simp; done) | (simp; omega)) (by decide) rfl) ?_
 refine x_pure (v := Value.pointer (some ⟨b23, 1, none⟩)) 15 rfl (by kernel_rfl) (by kernel_rfl) rfl (fun w => e_fieldAddr Try.underlying23 rfl rfl (by exact zs9) rfl) ?_
 refine x_val (v := Value.int .i64 q.2) 16 [15, 14, 13, 12, 11, 10, 9, 8, 7, 6, 5, 4, 3, 2, 1, 0] rfl (by kernel_rfl) (by kernel_rfl) rfl (e_load_bx1 tp3_gt rfl bx25 rfl) ?_
 refine x_pure (v := Value.int .i64 (b.2 + q.2)) 17 rfl (by kernel_rfl) (by kernel_rfl) rfl (fun w => e_add (m := b.2) (n := q.2) rfl rfl (by omega)) ?_
 refine x_one 18 rfl (by kernel_rfl) rfl ?_
 refine o_call (v := Value.agg (List.toArray [Value.int .i64 (b.1 + q.1), Value.int .i64 (b.2 + q.2)])) (e_call (vals := [Value.int .i64 (b.1 + q.1), Value.int .i64 (b.2 + q.2)]) Try.func14 bd14_gt nm14_gt rfl) (pt_ok w128 (b.1 + q.1) (b.2 + q.2)) ?_
 intro w131 hb132
 replace hb132 := chg_below hb132 g110
 have C133 : Chg (inl [8]) _ _ _ _ := (ch118.n).seq ((hb122.n).seq ((ch125.l rfl).seq ((ch127.n).seq (hb132.n))))
 replace bx117 := bx117.chg C133 (is_nl rfl) (is_nl rfl)
 refine x_val (v := Value.pointer (some (eAddr v80 2 (Int.toNat 1)))) 19 [18, 17, 16, 15, 14, 13, 12, 11, 10, 9, 8, 7, 6, 5, 4, 3, 2, 1, 0] rfl (by kernel_rfl) (by kernel_rfl) rfl (e_indexAddr (α := (Int) × (Int)) (xs := ([((a.1 + q.1), (a.2 + q.2)), ((0 : Int), (0 : Int)), ((0 : Int), (0 : Int)), ((0 : Int), (0 : Int))] : List ((Int) × (Int)))) (v := v80) (i := 1) Try.underlying25 rfl rfl bx117.flat rfl (by omega) (by first | omega | (simp only [List.length_set, List.length_append, List.length_cons, List.length_nil, List.length_replicate, List.length_map, List.length_take, List.length_drop]; omega) | (simp; done) | (simp; omega))) ?_
 refine x_one 20 rfl (by kernel_rfl) rfl ?_
 refine o_store_el (i := 1) ((b.1 + q.1), (b.2 + q.2)) tp23_gt rfl rfl bx117 (by omega) (by first | omega | (simp only [List.length_set, List.length_append, List.length_cons, List.length_nil, List.length_replicate, List.length_map, List.length_take, List.length_drop]; omega) | (simp; done) | (simp; omega)) rfl ?_
 intro w134 ch135 bx136
 clear bx117
 replace bx136 : Ow g110 (is 7) (is 7) w134 v80 ([((a.1 + q.1), (a.2 + q.2)), ((b.1 + q.1), (b.2 + q.2)), ((0 : Int), (0 : Int)), ((0 : Int), (0 : Int))] : List ((Int) × (Int))) := bx136
 refine x_nil (by kernel_rfl) ?_
 refine run_region_x g110 [0, 1, 2, 3, 4, 5, 6, 7, 8, 9, 10, 11, 12, 14] mixed_gt ?_
 intro w138 ch137
 refine x_pure (v := v85) 0 rfl (by kernel_rfl) (by kernel_rfl) rfl (fun w => e_move (by exact zs20)) ?_
 refine x_pure (v := Value.int .i64 1) 1 rfl (by kernel_rfl) (by kernel_rfl) rfl (fun w => e_move rfl) ?_
 refine x_pure (v := v33) 2 rfl (by kernel_rfl) (by kernel_rfl) rfl (fun w => e_move (by exact zs11)) ?_
 refine x_pure (v := Value.int .i64 1) 3 rfl (by kernel_rfl) (by kernel_rfl) rfl (fun w => e_move rfl) ?_
 have C139 : Chg (inl [7]) _ _ _ _ := (hb132.n).seq ((ch135.l rfl).seq (ch137.n))
 replace o35 := o35.chg C139 (is_nl rfl) (is_nl rfl)
 refine x_val (v := Value.pointer (some (eAddr v33 2 (Int.toNat 1)))) 4 [3, 2, 1, 0, 8, 9, 10, 11, 12] rfl (by kernel_rfl) (by kernel_rfl) rfl (e_indexAddr (α := (Int) × (Int)) (xs := ([a, b, c, d, q] : List ((Int) × (Int)))) (v := v33) (i := 1) Try.underlying25 rfl rfl o35.flat rfl (by omega) (by first | omega | (simp only [List.length_set, List.length_append, List.length_cons, List.length_nil, List.length_replicate, List.length_map, List.length_take, List.length_drop]; omega) | (simp; done) | (simp; omega))) ?_
 refine x_pure (v := Value.pointer (some ⟨(eAddr v33 2 (Int.toNat 1)).block, (eAddr v33 2 (Int.toNat 1)).off + 1, none⟩)) 5 rfl (by kernel_rfl) (by kernel_rfl) rfl (fun w => e_fieldAddr_el Try.underlying23 rfl rfl rfl rfl) ?_
 refine x_val (v := Value.int .i64 b.2) 6 [5, 4, 3, 2, 1, 0, 8, 9, 10, 11, 12] rfl (by kernel_rfl) (by kernel_rfl) rfl (e_load_elF (α := (Int) × (Int)) (xs := ([a, b, c, d, q] : List ((Int) × (Int)))) (v := v33) (i := 1) tp3_gt rfl o35.flat (by omega) (by first | omega | (simp only [List.length_set, List.length_append, List.length_cons, List.length_nil, List.length_replicate, List.length_map, List.length_take, List.length_drop]; omega) | (simp; done) | (simp; omega)) (by decide) rfl) ?_
 refine x_pure (v := Value.int .i64 (-b.2)) 7 rfl (by kernel_rfl) (by kernel_rfl) rfl (fun w => e_neg (m := b.2) rfl (by omega)) ?_
 refine x_pure (v := v33) 8 rfl (by kernel_rfl) (by kernel_rfl) rfl (fun w => e_move (by exact zs11)) ?_
 refine x_pure (v := Value.int .i64 1) 9 rfl (by kernel_rfl) (by kernel_rfl) rfl (fun w => e_move rfl) ?_
 refine x_val (v := Value.pointer (some (eAddr v33 2 (Int.toNat 1)))) 10 [9, 8, 7, 6, 5, 4, 3, 2, 1, 0] rfl (by kernel_rfl) (by kernel_rfl) rfl (e_indexAddr (α := (Int) × (Int)) (xs := ([a, b, c, d, q] : List ((Int) × (Int)))) (v := v33) (i := 1) Try.underlying25 rfl rfl o35.flat rfl (by omega) (by first | omega | (simp only [List.length_set, List.length_append, List.length_cons, List.length_nil, List.length_replicate, List.length_map, List.length_take, List.length_drop]; omega) | (simp; done) | (simp; omega))) ?_
 refine x_pure (v := Value.pointer (some ⟨(eAddr v33 2 (Int.toNat 1)).block, (eAddr v33 2 (Int.toNat 1)).off + 0, none⟩)) 11 rfl (by kernel_rfl) (by kernel_rfl) rfl (fun w => e_fieldAddr_el Try.underlying23 rfl rfl rfl rfl) ?_
 refine x_val (v := Value.int .i64 b.1) 12 [11, 10, 9, 8, 7, 6, 5, 4, 3, 2, 1, 0] rfl (by kernel_rfl) (by kernel_rfl) rfl (e_load_elF (α := (Int) × (Int)) (xs := ([a, b, c, d, q] : List ((Int) × (Int)))) (v := v33) (i := 1) tp3_gt rfl o35.flat (by omega) (by first | omega | (simp only [List.length_set, List.length_append, List.length_cons, List.length_nil, List.length_replicate, List.length_map, List.length_take, List.length_drop]; omega) | (simp; done) | (simp; omega)) (by decide) rfl) ?_
 refine x_one 13 rfl (by kernel_rfl) rfl ?_
 refine o_call (v := Value.agg (List.toArray [Value.int .i64 (-b.2), Value.int .i64 b.1])) (e_call (vals := [Value.int .i64 (-b.2), Value.int .i64 b.1]) Try.func14 bd14_gt nm14_gt rfl) (pt_ok w138 (-b.2) b.1) ?_
 intro w140 hb141
 replace hb141 := chg_below hb141 g110
 have C142 : Chg (inl [7]) _ _ _ _ := (ch127.n).seq ((hb132.n).seq ((ch135.l rfl).seq ((ch137.n).seq (hb141.n))))
 replace bx126 := bx126.chg C142 (is_nl rfl) (is_nl rfl)
 refine x_val (v := Value.pointer (some (eAddr v85 2 (Int.toNat 1)))) 14 [13, 12, 11, 10, 9, 8, 7, 6, 5, 4, 3, 2, 1, 0] rfl (by kernel_rfl) (by kernel_rfl) rfl (e_indexAddr (α := (Int) × (Int)) (xs := ([((-a.2), a.1), ((0 : Int), (0 : Int)), ((0 : Int), (0 : Int)), ((0 : Int), (0 : Int))] : List ((Int) × (Int)))) (v := v85) (i := 1) Try.underlying25 rfl rfl bx126.flat rfl (by omega) (by first | omega | (simp only [List.length_set, List.length_append, List.length_cons, List.length_nil, List.length_replicate, List.length_map, List.length_take, List.length_drop]; omega) | (simp; done) | (simp; omega))) ?_
 refine x_one 15 rfl (by kernel_rfl) rfl ?_
 refine o_store_el (i := 1) ((-b.2), b.1) tp23_gt rfl rfl bx126 (by omega) (by first | omega | (simp only [List.length_set, List.length_append, List.length_cons, List.length_nil, List.length_replicate, List.length_map, List.length_take, List.length_drop]; omega) | (simp; done) | (simp; omega)) rfl ?_
 intro w143 ch144 bx145
 clear bx126
 replace bx145 : Ow g110 (is 8) (is 8) w143 v85 ([((-a.2), a.1), ((-b.2), b.1), ((0 : Int), (0 : Int)), ((0 : Int), (0 : Int))] : List ((Int) × (Int))) := bx145
 refine x_nil (by kernel_rfl) ?_
 refine run_inBlock ?_
 refine run_region rfl ?_
 refine l_val (v := Value.int .i64 1) rfl (e_move rfl) ?_
 refine l_val (v := Value.int .i64 2) rfl (e_add (m := 1) (n := 1) rfl rfl (by omega)) ?_
 refine l_val (v := Value.int .i64 2) rfl (e_assign rfl) ?_
 refine l_nil ?_
 refine run_inLoop ?_
 refine run_seq ?_
 refine run_seq ?_
 refine run_region rfl ?_
 refine l_val (v := Value.int .i64 2) rfl (e_move rfl) ?_
 refine l_val (v := Value.bool true) rfl (e_lss (m := 2) (n := 4) rfl rfl) ?_
 refine l_nil ?_
 refine run_cond_t rfl rfl ?_
 refine run_skip ?_
 refine run_seq ?_
 refine run_block ?_
 refine run_seq ?_
 refine run_region_x g110 [0, 1, 2, 3, 4, 5, 6, 7, 8, 9, 10, 11, 12, 13, 14, 15, 16, 17, 19] mixed_gt ?_
 intro w147 ch146
 refine x_pure (v := v80) 0 rfl (by kernel_rfl) (by kernel_rfl) rfl (fun w => e_move (by exact zs19)) ?_
 refine x_pure (v := Value.int .i64 2) 1 rfl (by kernel_rfl) (by kernel_rfl) rfl (fun w => e_move rfl) ?_
 refine x_pure (v := v33) 2 rfl (by kernel_rfl) (by kernel_rfl) rfl (fun w => e_move (by exact zs11)) ?_
 refine x_pure (v := Value.int .i64 2) 3 rfl (by kernel_rfl) (by kernel_rfl) rfl (fun w => e_move rfl) ?_
 have C148 : Chg (inl [8]) _ _ _ _ := (hb141.n).seq ((ch144.l rfl).seq (ch146.n))
 replace o35 := o35.chg C148 (is_nl rfl) (is_nl rfl)
 refine x_val (v := Value.pointer (some (eAddr v33 2 (Int.toNat 2)))) 4 [3, 2, 1, 0, 7, 10, 11, 15, 8, 12, 16, 13, 14, 17] rfl (by kernel_rfl) (by kernel_rfl) rfl (e_indexAddr (α := (Int) × (Int)) (xs := ([a, b, c, d, q] : List ((Int) × (Int)))) (v := v33) (i := 2) Try.underlying25 rfl rfl o35.flat rfl (by omega) (by first | omega | (simp only [List.length_set, List.length_append, List.length_cons, List.length_nil, List.length_replicate, List.length_map, List.length_take, List.length_drop]; omega) | (simp; done) | (simp; omega))) ?_
 refine x_pure (v := Value.pointer (some ⟨(eAddr v33 2 (Int.toNat 2)).block, (eAddr v33 2 (Int.toNat 2)).off + 0, none⟩)) 5 rfl (by kernel_rfl) (by kernel_rfl) rfl (fun w => e_fieldAddr_el Try.underlying23 rfl rfl rfl rfl) ?_
 refine x_val (v := Value.int .i64 c.1) 6 [5, 4, 3, 2, 1, 0, 7, 10, 11, 15, 8, 12, 16, 13, 14, 17] rfl (by kernel_rfl) (by kernel_rfl) rfl (e_load_elF (α := (Int) × (Int)) (xs := ([a, b, c, d, q] : List ((Int) × (Int)))) (v := v33) (i := 2) tp3_gt rfl o35.flat (by omega) (by first | omega | (simp only [List.length_set, List.length_append, List.length_cons, List.length_nil, List.length_replicate, List.length_map, List.length_take, List.length_drop]; omega) | (simp; done) | (simp; omega)) (by decide) rfl) ?_
 refine x_pure (v := Value.pointer (some ⟨b23, 0, none⟩)) 7 rfl (by kernel_rfl) (by kernel_rfl) rfl (fun w => e_fieldAddr Try.underlying23 rfl rfl (by exact zs9) rfl) ?_
 have C149 : Chg (inl [7, 8]) _ _ _ _ := (hb132.n).seq ((ch135.l rfl).seq ((ch137.n).seq ((hb141.n).seq ((ch144.l rfl).seq (ch146.n)))))
 replace bx25 := bx25.chg C149 (is_nl rfl)
 refine x_val (v := Value.int .i64 q.1) 8 [7, 6, 5, 4, 3, 2, 1, 0, 10, 11, 15, 12, 16, 13, 14, 17] rfl (by kernel_rfl) (by kernel_rfl) rfl (e_load_bx1 tp3_gt rfl bx25 rfl) ?_
 refine x_pure (v := Value.int .i64 (c.1 + q.1)) 9 rfl (by kernel_rfl) (by kernel_rfl) rfl (fun w => e_add (m := c.1) (n := q.1) rfl rfl (by omega)) ?_
 refine x_pure (v := v33) 10 rfl (by kernel_rfl) (by kernel_rfl) rfl (fun w => e_move (by exact zs11)) ?_
 refine x_pure (v := Value.int .i64 2) 11 rfl (by kernel_rfl) (by kernel_rfl) rfl (fun w => e_move rfl) ?_
 refine x_val (v := Value.pointer (some (eAddr v33 2 (Int.toNat 2)))) 12 [11, 10, 9, 8, 7, 6, 5, 4, 3, 2, 1, 0, 15, 16] rfl (by kernel_rfl) (by kernel_rfl) rfl (e_indexAddr (α := (Int) × (Int)) (xs := ([a, b, c, d, q] : List ((Int) × (Int)))) (v := v33) (i := 2) Try.underlying25 rfl rfl o35.flat rfl (by omega) (by first | omega | (simp only [List.length_set, List.length_append, List.length_cons, List.length_nil, List.length_replicate, List.length_map, List.length_take, List.length_drop]; omega) | (simp; done) | (simp; omega))) ?_
 refine x_pure (v := Value.pointer (some ⟨(eAddr v33 2 (Int.toNat 2)).block, (eAddr v33 2 (Int.toNat 2)).off + 1, none⟩)) 13 rfl (by kernel_rfl) (by kernel_rfl) rfl (fun w => e_fieldAddr_el Try.underlying23 rfl rfl rfl rfl) ?_
 refine x_val (v := Value.int .i64 c.2) 14 [13, 12, 11, 10, 9, 8, 7, 6, 5, 4, 3, 2, 1, 0, 15, 16] rfl (by kernel_rfl) (by kernel_rfl) rfl (e_load_elF (α := (Int) × (Int)) (xs := ([a, b, c, d, q] : List ((Int) × (Int)))) (v := v33) (i := 2) tp3_gt rfl o35.flat (by omega) (by first | omega | (simp only [List.length_set, List.length_append, List.length_cons, List.length_nil, List.length_replicate, List.length_map, List.length_take, List.length_drop]; omega) | (simp; done) | (simp; omega)) (by decide) rfl) ?_
 refine x_pure (v := Value.pointer (some ⟨b23, 1, none⟩)) 15 rfl (by kernel_rfl) (by kernel_rfl) rfl (fun w => e_fieldAddr Try.underlying23 rfl rfl (by exact zs9) rfl) ?_
 refine x_val (v := Value.int .i64 q.2) 16 [15, 14, 13, 12, 11, 10, 9, 8, 7, 6, 5, 4, 3, 2, 1, 0] rfl (by kernel_rfl) (by kernel_rfl) rfl (e_load_bx1 tp3_gt rfl bx25 rfl) ?_
 refine x_pure (v := Value.int .i64 (c.2 + q.2)) 17 rfl (by kernel_rfl) (by kernel_rfl) rfl (fun w => e_add (m := c.2) (n := q.2) rfl rfl (by omega)) ?_
 refine x_one 18 rfl (by kernel_rfl) rfl ?_
 refine o_call (v := Value.agg (List.toArray [Value.int .i64 (c.1 + q.1), Value.int .i64 (c.2 + q.2)])) (e_call (vals := [Value.int .i64 (c.1 + q.1), Value.int .i64 (c.2 + q.2)]) Try.func14 bd14_gt nm14_gt rfl) (pt_ok w147 (c.1 + q.1) (c.2 + q.2)) ?_
 intro w150 hb151
 replace hb151 := chg_below hb151 g110
 have C152 : Chg (inl [8]) _ _ _ _ := (ch137.n).seq ((hb141.n).seq ((ch144.l rfl).seq ((ch146.n).seq (hb151.n))))
 replace bx136 := bx136.chg C152 (is_nl rfl) (is_nl rfl)
 refine x_val (v := Value.pointer (some (eAddr v80 2 (Int.toNat 2)))) 19 [18, 17, 16, 15, 14, 13, 12, 11, 10, 9, 8, 7, 6, 5, 4, 3, 2, 1, 0] rfl (by kernel_rfl) (by kernel_rfl) rfl (e_indexAddr (α := (Int) × (Int)) (xs := ([((a.1 + q.1), (a.2 + q.2)), ((b.1 + q.1), (b.2 + q.2)), ((0 : Int), (0 : Int)), ((0 : Int), (0 : Int))] : List ((Int) × (Int)))) (v := v80) (i := 2) Try.underlying25 rfl rfl bx136.flat rfl (by omega) (by first | omega | (simp only [List.length_set, List.length_append, List.length_cons, List.length_nil, List.length_replicate, List.length_map, List.length_take, List.length_drop]; omega) | (simp; done) | (simp; omega))) ?_
 refine x_one 20 rfl (by kernel_rfl) rfl ?_
 refine o_store_el (i := 2) ((c.1 + q.1), (c.2 + q.2)) tp23_gt rfl rfl bx136 (by omega) (by first | omega | (simp only [List.length_set, List.length_append, List.length_cons, List.length_nil, List.length_replicate, List.length_map, List.length_take, List.length_drop]; omega) | (simp; done) | (simp; omega)) rfl ?_
 intro w153 ch154 bx155
 clear bx136
 replace bx155 : Ow g110 (is 7) (is 7) w153 v80 ([((a.1 + q.1), (a.2 + q.2)), ((b.1 + q.1), (b.2 + q.2)), ((c.1 + q.1), (c.2 + q.2)), ((0 : Int), (0 : Int))] : List ((Int) × (Int))) := bx155
 refine x_nil (by kernel_rfl) ?_
 refine run_region_x g110 [0, 1, 2, 3, 4, 5, 6, 7, 8, 9, 10, 11, 12, 14] mixed_gt ?_
 intro w157 ch156
 refine x_pure (v := v85) 0 rfl (by kernel_rfl) (by kernel_rfl) rfl (fun w => e_move (by exact zs20)) ?_
 refine x_pure (v := Value.int .i64 2) 1 rfl (by kernel_rfl) (by kernel_rfl) rfl (fun w => e_move rfl) ?_
 refine x_pure (v := v33) 2 rfl (by kernel_rfl) (by kernel_rfl) rfl (fun w => e_move (by exact zs11)) ?_
 refine x_pure (v := Value.int .i64 2) 3 rfl (by kernel_rfl) (by kernel_rfl) rfl (fun w => e_move rfl) ?_
 have C158 : Chg (inl [7]) _ _ _ _ := (hb151.n).seq ((ch154.l rfl).seq (ch156.n))
 replace o35 := o35.chg C158 (is_nl rfl) (is_nl rfl)
 refine x_val (v := Value.pointer (some (eAddr v33 2 (Int.toNat 2)))) 4 [3, 2, 1, 0, 8, 9, 10, 11, 12] rfl (by kernel_rfl) (by kernel_rfl) rfl (e_indexAddr (α := (Int) × (Int)) (xs := ([a, b, c, d, q] : List ((Int) × (Int)))) (v := v33) (i := 2) Try.underlying25 rfl rfl o35.flat rfl (by omega) (by first | omega | (simp only [List.length_set, List.length_append, List.length_cons, List.length_nil, List.length_replicate, List.length_map, List.length_take, List.length_drop]; omega) | (simp; done) | (simp; omega))) ?_
 refine x_pure (v := Value.pointer (some ⟨(eAddr v33 2 (Int.toNat 2)).block, (eAddr v33 2 (Int.toNat 2)).off + 1, none⟩)) 5 rfl (by kernel_rfl) (by kernel_rfl) rfl (fun w => e_fieldAddr_el Try.underlying23 rfl rfl rfl rfl) ?_
 refine x_val (v := Value.int .i64 c.2) 6 [5, 4, 3, 2, 1, 0, 8, 9, 10, 11, 12] rfl (by kernel_rfl) (by kernel_rfl) rfl (e_load_elF (α := (Int) × (Int)) (xs := ([a, b, c, d, q] : List ((Int) × (Int)))) (v := v33) (i := 2) tp3_gt rfl o35.flat (by omega) (by first | omega | (simp only [List.length_set, List.length_append, List.length_cons, List.length_nil, List.length_replicate, List.length_map, List.length_take, List.length_drop]; omega) | (simp; done) | (simp; omega)) (by decide) rfl) ?_
 refine x_pure (v := Value.int .i64 (-c.2)) 7 rfl (by kernel_rfl) (by kernel_rfl) rfl (fun w => e_neg (m := c.2) rfl (by omega)) ?_
 refine x_pure (v := v33) 8 rfl (by kernel_rfl) (by kernel_rfl) rfl (fun w => e_move (by exact zs11)) ?_
 refine x_pure (v := Value.int .i64 2) 9 rfl (by kernel_rfl) (by kernel_rfl) rfl (fun w => e_move rfl) ?_
 refine x_val (v := Value.pointer (some (eAddr v33 2 (Int.toNat 2)))) 10 [9, 8, 7, 6, 5, 4, 3, 2, 1, 0] rfl (by kernel_rfl) (by kernel_rfl) rfl (e_indexAddr (α := (Int) × (Int)) (xs := ([a, b, c, d, q] : List ((Int) × (Int)))) (v := v33) (i := 2) Try.underlying25 rfl rfl o35.flat rfl (by omega) (by first | omega | (simp only [List.length_set, List.length_append, List.length_cons, List.length_nil, List.length_replicate, List.length_map, List.length_take, List.length_drop]; omega) | (simp; done) | (simp; omega))) ?_
 refine x_pure (v := Value.pointer (some ⟨(eAddr v33 2 (Int.toNat 2)).block, (eAddr v33 2 (Int.toNat 2)).off + 0, none⟩)) 11 rfl (by kernel_rfl) (by kernel_rfl) rfl (fun w => e_fieldAddr_el Try.underlying23 rfl rfl rfl rfl) ?_
 refine x_val (v := Value.int .i64 c.1) 12 [11, 10, 9, 8, 7, 6, 5, 4, 3, 2, 1, 0] rfl (by kernel_rfl) (by kernel_rfl) rfl (e_load_elF (α := (Int) × (Int)) (xs := ([a, b, c, d, q] : List ((Int) × (Int)))) (v := v33) (i := 2) tp3_gt rfl o35.flat (by omega) (by first | omega | (simp only [List.length_set, List.length_append, List.length_cons, List.length_nil, List.length_replicate, List.length_map, List.length_take, List.length_drop]; omega) | (simp; done) | (simp; omega)) (by decide) rfl) ?_
 refine x_one 13 rfl (by kernel_rfl) rfl ?_
 refine o_call (v := Value.agg (List.toArray [Value.int .i64 (-c.2), Value.int .i64 c.1])) (e_call (vals := [Value.int .i64 (-c.2), Value.int .i64 c.1]) Try.func14 bd14_gt nm14_gt rfl) (pt_ok w157 (-c.2) c.1) ?_
 intro w159 hb160
 replace hb160 := chg_below hb160 g110
 have C161 : Chg (inl [7]) _ _ _ _ := (ch146.n).seq ((hb151.n).seq ((ch154.l rfl).seq ((ch156.n).seq (hb160.n))))
 replace bx145 := bx145.chg C161 (is_nl rfl) (is_nl rfl)
 refine x_val (v := Value.pointer (some (eAddr v85 2 (Int.toNat 2)))) 14 [13, 12, 11, 10, 9, 8, 7, 6, 5, 4, 3, 2, 1, 0] rfl (by kernel_rfl) (by kernel_rfl) rfl (e_indexAddr (α := (Int) × (Int)) (xs := ([((-a.2), a.1), ((-b.2), b.1), ((0 : Int), (0 : Int)), ((0 : Int), (0 : Int))] : List ((Int) × (Int)))) (v := v85) (i := 2) Try.underlying25 rfl rfl bx145.flat rfl (by omega) (by first | omega | (simp only [List.length_set, List.length_append, List.length_cons, List.length_nil, List.length_replicate, List.length_map, List.length_take, List.length_drop]; omega) | (simp; done) | (simp; omega))) ?_
 refine x_one 15 rfl (by kernel_rfl) rfl ?_
 refine o_store_el (i := 2) ((-c.2), c.1) tp23_gt rfl rfl bx145 (by omega) (by first | omega | (simp only [List.length_set, List.length_append, List.length_cons, List.length_nil, List.length_replicate, List.length_map, List.length_take, List.length_drop]; omega) | (simp; done) | (simp; omega)) rfl ?_
 intro w162 ch163 bx164
 clear bx145
 replace bx164 : Ow g110 (is 8) (is 8) w162 v85 ([((-a.2), a.1), ((-b.2), b.1), ((-c.2), c.1), ((0 : Int), (0 : Int))] : List ((Int) × (Int))) := bx164
 refine x_nil (by kernel_rfl) ?_
 refine run_inBlock ?_
 refine run_region rfl ?_
 refine l_val (v := Value.int .i64 2) rfl (e_move rfl) ?_
 refine l_val (v := Value.int .i64 3) rfl (e_add (m := 2) (n := 1) rfl rfl (by omega)) ?_
 refine l_val (v := Value.int .i64 3) rfl (e_assign rfl) ?_
 refine l_nil ?_
 refine run_inLoop ?_
 refine run_seq ?_
 refine run_seq ?_
 refine run_region rfl ?_
 refine l_val (v := Value.int .i64 3) rfl (e_move rfl) ?_
 refine l_val (v := Value.bool true) rfl (e_lss (m := 3) (n := 4) rfl rfl) ?_
 refine l_nil ?_
 refine run_cond_t rfl rfl ?_
 refine run_skip ?_
 refine run_seq ?_
 refine run_block ?_
 refine run_seq ?_
 refine run_region_x g110 [0, 1, 2, 3, 4, 5, 6, 7, 8, 9, 10, 11, 12, 13, 14, 15, 16, 17, 19] mixed_gt ?_
 intro w166 ch165
 refine x_pure (v := v80) 0 rfl (by kernel_rfl) (by kernel_rfl) rfl (fun w => e_move (by exact zs19)) ?_
 refine x_pure (v := Value.int .i64 3) 1 rfl (by kernel_rfl) (by kernel_rfl) rfl (fun w => e_move rfl) ?_
 refine x_pure (v := v33) 2 rfl (by kernel_rfl) (by kernel_rfl) rfl (fun w => e_move (by exact zs11)) ?_
 refine x_pure (v := Value.int .i64 3) 3 rfl (by kernel_rfl) (by kernel_rfl) rfl (fun w => e_move rfl) ?_
 have C167 : Chg (inl [8]) _ _ _ _ := (hb160.n).seq ((ch163.l rfl).seq (ch165.n))
 replace o35 := o35.chg C167 (is_nl rfl) (is_nl rfl)
 refine x_val (v := Value.pointer (some (eAddr v33 2 (Int.toNat 3)))) 4 [3, 2, 1, 0, 7, 10, 11, 15, 8, 12, 16, 13, 14, 17] rfl (by kernel_rfl) (by kernel_rfl) rfl (e_indexAddr (α := (Int) × (Int)) (xs := ([a, b, c, d, q] : List ((Int) × (Int)))) (v := v33) (i := 3) Try.underlying25 rfl rfl o35.flat rfl (by omega) (by first | omega | (simp only [List.length_set, List.length_append, List.length_cons, List.length_nil, List.length_replicate, List.length_map, List.length_take, List.length_drop]; omega) | (simp; done) | (simp; omega))) ?_
 refine x_pure (v := Value.pointer (some ⟨(eAddr v33 2 (Int.toNat 3)).block, (eAddr v33 2 (Int.toNat 3)).off + 0, none⟩)) 5 rfl (by kernel_rfl) (by kernel_rfl) rfl (fun w => e_fieldAddr_el Try.underlying23 rfl rfl rfl rfl) ?_
 refine x_val (v := Value.int .i64 d.1) 6 [5, 4, 3, 2, 1, 0, 7, 10, 11, 15, 8, 12, 16, 13, 14, 17] rfl (by kernel_rfl) (by kernel_rfl) rfl (e_load_elF (α := (Int) × (Int)) (xs := ([a, b, c, d, q] : List ((Int) × (Int)))) (v := v33) (i := 3) tp3_gt rfl o35.flat (by omega) (by first | omega | (simp only [List.length_set, List.length_append, List.length_cons, List.length_nil, List.length_replicate, List.length_map, List.length_take, List.length_drop]; omega) | (simp; done) | (simp; omega)) (by decide) rfl) ?_
 refine x_pure (v := Value.pointer (some ⟨b23, 0, none⟩)) 7 rfl (by kernel_rfl) (by kernel_rfl) rfl (fun w => e_fieldAddr Try.underlying23 rfl rfl (by exact zs9) rfl) ?_
 have C168 : Chg (inl [7, 8]) _ _ _ _ := (hb151.n).seq ((ch154.l rfl).seq ((ch156.n).seq ((hb160.n).seq ((ch163.l rfl).seq (ch165.n)))))
 replace bx25 := bx25.chg C168 (is_nl rfl)
 refine x_val (v := Value.int .i64 q.1) 8 [7, 6, 5, 4, 3, 2, 1, 0, 10, 11, 15, 12, 16, 13, 14, 17] rfl (by kernel_rfl) (by kernel_rfl) rfl (e_load_bx1 tp3_gt rfl bx25 rfl) ?_
 refine x_pure (v := Value.int .i64 (d.1 + q.1)) 9 rfl (by kernel_rfl) (by kernel_rfl) rfl (fun w => e_add (m := d.1) (n := q.1) rfl rfl (by omega)) ?_
 refine x_pure (v := v33) 10 rfl (by kernel_rfl) (by kernel_rfl) rfl (fun w => e_move (by exact zs11)) ?_
 refine x_pure (v := Value.int .i64 3) 11 rfl (by kernel_rfl) (by kernel_rfl) rfl (fun w => e_move rfl) ?_
 refine x_val (v := Value.pointer (some (eAddr v33 2 (Int.toNat 3)))) 12 [11, 10, 9, 8, 7, 6, 5, 4, 3, 2, 1, 0, 15, 16] rfl (by kernel_rfl) (by kernel_rfl) rfl (e_indexAddr (α := (Int) × (Int)) (xs := ([a, b, c, d, q] : List ((Int) × (Int)))) (v := v33) (i := 3) Try.underlying25 rfl rfl o35.flat rfl (by omega) (by first | omega | (simp only [List.length_set, List.length_append, List.length_cons, List.length_nil, List.length_replicate, List.length_map, List.length_take, List.length_drop]; omega) | (simp; done) | (simp; omega))) ?_
 refine x_pure (v := Value.pointer (some ⟨(eAddr v33 2 (Int.toNat 3)).block, (eAddr v33 2 (Int.toNat 3)).off + 1, none⟩)) 13 rfl (by kernel_rfl) (by kernel_rfl) rfl (fun w => e_fieldAddr_el Try.underlying23 rfl rfl rfl rfl) ?_
 refine x_val (v := Value.int .i64 d.2) 14 [13, 12, 11, 10, 9, 8, 7, 6, 5, 4, 3, 2, 1, 0, 15, 16] rfl (by kernel_rfl) (by kernel_rfl) rfl (e_load_elF (α := (Int) × (Int)) (xs := ([a, b, c, d, q] : List ((Int) × (Int)))) (v := v33) (i := 3) tp3_gt rfl o35.flat (by omega) (by first | omega | (simp only [List.length_set, List.length_append, List.length_cons, List.length_nil, List.length_replicate, List.length_map, List.length_take, List.length_drop]; omega) | (simp; done) | (simp; omega)) (by decide) rfl) ?_
 refine x_pure (v := Value.pointer (some ⟨b23, 1, none⟩)) 15 rfl (by kernel_rfl) (by kernel_rfl) rfl (fun w => e_fieldAddr Try.underlying23 rfl rfl (by exact zs9) rfl) ?_
 refine x_val (v := Value.int .i64 q.2) 16 [15, 14, 13, 12, 11, 10, 9, 8, 7, 6, 5, 4, 3, 2, 1, 0] rfl (by kernel_rfl) (by kernel_rfl) rfl (e_load_bx1 tp3_gt rfl bx25 rfl) ?_
 refine x_pure (v := Value.int .i64 (d.2 + q.2)) 17 rfl (by kernel_rfl) (by kernel_rfl) rfl (fun w => e_add (m := d.2) (n := q.2) rfl rfl (by omega)) ?_
 refine x_one 18 rfl (by kernel_rfl) rfl ?_
 refine o_call (v := Value.agg (List.toArray [Value.int .i64 (d.1 + q.1), Value.int .i64 (d.2 + q.2)])) (e_call (vals := [Value.int .i64 (d.1 + q.1), Value.int .i64 (d.2 + q.2)]) Try.func14 bd14_gt nm14_gt rfl) (pt_ok w166 (d.1 + q.1) (d.2 + q.2)) ?_
 intro w169 hb170
 replace hb170 := chg_below hb170 g110
 have C171 : Chg (inl [8]) _ _ _ _ := (ch156.n).seq ((hb160.n).seq ((ch163.l rfl).seq ((ch165.n).seq (hb170.n))))
 replace bx155 := bx155.chg C171 (is_nl rfl) (is_nl rfl)
 refine x_val (v := Value.pointer (some (eAddr v80 2 (Int.toNat 3)))) 19 [18, 17, 16, 15, 14, 13, 12, 11, 10, 9, 8, 7, 6, 5, 4, 3, 2, 1, 0] rfl (by kernel_rfl) (by kernel_rfl) rfl (e_indexAddr (α := (Int) × (Int)) (xs := ([((a.1 + q.1), (a.2 + q.2)), ((b.1 + q.1), (b.2 + q.2)), ((c.1 + q.1), (c.2 + q.2)), ((0 : Int), (0 : Int))] : List ((Int) × (Int)))) (v := v80) (i := 3) Try.underlying25 rfl rfl bx155.flat rfl (by omega) (by first | omega | (simp only [List.length_set, List.length_append, List.length_cons, List.length_nil, List.length_replicate, List.length_map, List.length_take, List.length_drop]; omega) | (simp; done) | (simp; omega))) ?_
 refine x_one 20 rfl (by kernel_rfl) rfl ?_
 refine o_store_el (i := 3) ((d.1 + q.1), (d.2 + q.2)) tp23_gt rfl rfl bx155 (by omega) (by first | omega | (simp only [List.length_set, List.length_append, List.length_cons, List.length_nil, List.length_replicate, List.length_map, List.length_take, List.length_drop]; omega) | (simp; done) | (simp; omega)) rfl ?_
 intro w172 ch173 bx174
 clear bx155
 replace bx174 : Ow g110 (is 7) (is 7) w172 v80 ([((a.1 + q.1), (a.2 + q.2)), ((b.1 + q.1), (b.2 + q.2)), ((c.1 + q.1), (c.2 + q.2)), ((d.1 + q.1), (d.2 + q.2))] : List ((Int) × (Int))) := bx174
 refine x_nil (by kernel_rfl) ?_
 refine run_region_x g110 [0, 1, 2, 3, 4, 5, 6, 7, 8, 9, 10, 11, 12, 14] mixed_gt ?_
 intro w176 ch175
 refine x_pure (v := v85) 0 rfl (by kernel_rfl) (by kernel_rfl) rfl (fun w => e_move (by exact zs20)) ?_
 refine x_pure (v := Value.int .i64 3) 1 rfl (by kernel_rfl) (by kernel_rfl) rfl (fun w => e_move rfl) ?_
 refine x_pure (v := v33) 2 rfl (by kernel_rfl) (by kernel_rfl) rfl (fun w => e_move (by exact zs11)) ?_
 refine x_pure (v := Value.int .i64 3) 3 rfl (by kernel_rfl) (by kernel_rfl) rfl (fun w => e_move rfl) ?_
 have C177 : Chg (inl [7]) _ _ _ _ := (hb170.n).seq ((ch173.l rfl).seq (ch175.n))
 replace o35 := o35.chg C177 (is_nl rfl) (is_nl rfl)
 refine x_val (v := Value.pointer (some (eAddr v33 2 (Int.toNat 3)))) 4 [3, 2, 1, 0, 8, 9, 10, 11, 12] rfl (by kernel_rfl) (by kernel_rfl) rfl (e_indexAddr (α := (Int) × (Int)) (xs := ([a, b, c, d, q] : List ((Int) × (Int)))) (v := v33) (i := 3) Try.underlying25 rfl rfl o35.flat rfl (by omega) (by first | omega | (simp only [List.length_set, List.length_append, List.length_cons, List.length_nil, List.length_replicate, List.length_map, List.length_take, List.length_drop]; omega) | (simp; done) | (simp; omega))) ?_
 refine x_pure (v := Value.pointer (some ⟨(eAddr v33 2 (Int.toNat 3)).block, (eAddr v33 2 (Int.toNat 3)).off + 1, none⟩)) 5 rfl (by kernel_rfl) (by kernel_rfl) rfl (fun w => e_fieldAddr_el Try.underlying23 rfl rfl rfl rfl) ?_
 refine x_val (v := Value.int .i64 d.2) 6 [5, 4, 3, 2, 1, 0, 8, 9, 10, 11, 12] rfl (by kernel_rfl) (by kernel_rfl) rfl (e_load_elF (α := (Int) × (Int)) (xs := ([a, b, c, d, q] : List ((Int) × (Int)))) (v := v33) (i := 3) tp3_gt rfl o35.flat (by omega) (by first | omega | (simp only [List.length_set, List.length_append, List.length_cons, List.length_nil, List.length_replicate, List.length_map, List.length_take, List.length_drop]; omega) | (simp; done) | (simp; omega)) (by decide) rfl) ?_
 refine x_pure (v := Value.int .i64 (-d.2)) 7 rfl (by kernel_rfl) (by kernel_rfl) rfl (fun w => e_neg (m := d.2) rfl (by omega)) ?_
 refine x_pure (v := v33) 8 rfl (by kernel_rfl) (by kernel_rfl) rfl (fun w => e_move (by exact zs11)) ?_
 refine x_pure (v := Value.int .i64 3) 9 rfl (by kernel_rfl) (by kernel_rfl) rfl (fun w => e_move rfl) ?_
 refine x_val (v := Value.pointer (some (eAddr v33 2 (Int.toNat 3)))) 10 [9, 8, 7, 6, 5, 4, 3, 2, 1, 0] rfl (by kernel_rfl) (by kernel_rfl) rfl (e_indexAddr (α := (Int) × (Int)) (xs := ([a, b, c, d, q] : List ((Int) × (Int)))) (v := v33) (i := 3) Try.underlying25 rfl rfl o35.flat rfl (by omega) (by first | omega | (simp only [List.length_set, List.length_append, List.length_cons, List.length_nil, List.length_replicate, List.length_map, List.length_take, List.length_drop]; omega) | (simp; done) | (simp; omega))) ?_
 refine x_pure (v := Value.pointer (some ⟨(eAddr v33 2 (Int.toNat 3)).block, (eAddr v33 2 (Int.toNat 3)).off + 0, none⟩)) 11 rfl (by kernel_rfl) (by kernel_rfl) rfl (fun w => e_fieldAddr_el Try.underlying23 rfl rfl rfl rfl) ?_
 refine x_val (v := Value.int .i64 d.1) 12 [11, 10, 9, 8, 7, 6, 5, 4, 3, 2, 1, 0] rfl (by kernel_rfl) (by kernel_rfl) rfl (e_load_elF (α := (Int) × (Int)) (xs := ([a, b, c, d, q] : List ((Int) × (Int)))) (v := v33) (i := 3) tp3_gt rfl o35.flat (by omega) (by first | omega | (simp only [List.length_set, List.length_append, List.length_cons, List.length_nil, List.length_replicate, List.length_map, List.length_take, List.length_drop]; omega) | (simp; done) | (simp; omega)) (by decide) rfl) ?_
 refine x_one 13 rfl (by kernel_rfl) rfl ?_
 refine o_call (v := Value.agg (List.toArray [Value.int .i64 (-d.2), Value.int .i64 d.1])) (e_call (vals := [Value.int .i64 (-d.2), Value.int .i64 d.1]) Try.func14 bd14_gt nm14_gt rfl) (pt_ok w176 (-d.2) d.1) ?_
 intro w178 hb179
 replace hb179 := chg_below hb179 g110
 have C180 : Chg (inl [7]) _ _ _ _ := (ch165.n).seq ((hb170.n).seq ((ch173.l rfl).seq ((ch175.n).seq (hb179.n))))
 replace bx164 := bx164.chg C180 (is_nl rfl) (is_nl rfl)
 refine x_val (v := Value.pointer (some (eAddr v85 2 (Int.toNat 3)))) 14 [13, 12, 11, 10, 9, 8, 7, 6, 5, 4, 3, 2, 1, 0] rfl (by kernel_rfl) (by kernel_rfl) rfl (e_indexAddr (α := (Int) × (Int)) (xs := ([((-a.2), a.1), ((-b.2), b.1), ((-c.2), c.1), ((0 : Int), (0 : Int))] : List ((Int) × (Int)))) (v := v85) (i := 3) Try.underlying25 rfl rfl bx164.flat rfl (by omega) (by first | omega | (simp only [List.length_set, List.length_append, List.length_cons, List.length_nil, List.length_replicate, List.length_map, List.length_take, List.length_drop]; omega) | (simp; done) | (simp; omega))) ?_
 refine x_one 15 rfl (by kernel_rfl) rfl ?_
 refine o_store_el (i := 3) ((-d.2), d.1) tp23_gt rfl rfl bx164 (by omega) (by first | omega | (simp only [List.length_set, List.length_append, List.length_cons, List.length_nil, List.length_replicate, List.length_map, List.length_take, List.length_drop]; omega) | (simp; done) | (simp; omega)) rfl ?_
 intro w181 ch182 bx183
 clear bx164
 replace bx183 : Ow g110 (is 8) (is 8) w181 v85 ([((-a.2), a.1), ((-b.2), b.1), ((-c.2), c.1), ((-d.2), d.1)] : List ((Int) × (Int))) := bx183
 refine x_nil (by kernel_rfl) ?_
 refine run_inBlock ?_
 refine run_region rfl ?_
 refine l_val (v := Value.int .i64 3) rfl (e_move rfl) ?_
 refine l_val (v := Value.int .i64 4) rfl (e_add (m := 3) (n := 1) rfl rfl (by omega)) ?_
 refine l_val (v := Value.int .i64 4) rfl (e_assign rfl) ?_
 refine l_nil ?_
 refine run_inLoop ?_
 refine run_seq ?_
 refine run_seq ?_
 refine run_region rfl ?_
 refine l_val (v := Value.int .i64 4) rfl (e_move rfl) ?_
 refine l_val (v := Value.bool false) rfl (e_lss (m := 4) (n := 4) rfl rfl) ?_
 refine l_nil ?_
 refine run_cond_f rfl rfl ?_
 refine run_exit rfl ?_
 refine run_seq ?_
 clear bx25
 clear o35
 refine region_q g110 rfl mixed_gt (by kernel_rfl) ?_
 intro w185 ch184
 refine q_val (v := v80) rfl (fun w' hw' => e_move (by exact zs19)) ?_
 have C186 : Chg (inl [8]) _ _ _ _ := (ch175.n).seq ((hb179.n).seq ((ch182.l rfl).seq (ch184.n)))
 replace bx174 := bx174.chg C186 (is_nl rfl) (is_nl rfl)
 refine q_val (v := Value.pointer (some (eAddr v80 2 (Int.toNat 0)))) rfl (fun w' hw' => e_indexAddr (α := (Int) × (Int)) (xs := ([((a.1 + q.1), (a.2 + q.2)), ((b.1 + q.1), (b.2 + q.2)), ((c.1 + q.1), (c.2 + q.2)), ((d.1 + q.1), (d.2 + q.2))] : List ((Int) × (Int)))) (v := v80) (i := 0) Try.underlying25 rfl rfl (bx174.flat.bel hw') rfl (by omega) (by first | omega | (simp only [List.length_set, List.length_append, List.length_cons, List.length_nil, List.length_replicate, List.length_map, List.length_take, List.length_drop]; omega) | (simp; done) | (simp; omega))) ?_
 refine q_val (v := Value.agg (List.toArray [Value.int .i64 (a.1 + q.1), Value.int .i64 (a.2 + q.2)])) rfl (fun w' hw' => e_load_elN (α := (Int) × (Int)) (xs := ([((a.1 + q.1), (a.2 + q.2)), ((b.1 + q.1), (b.2 + q.2)), ((c.1 + q.1), (c.2 + q.2)), ((d.1 + q.1), (d.2 + q.2))] : List ((Int) × (Int)))) (v := v80) (i := 0) tp23_gt rfl (bx174.flat.bel hw') (by omega) (by first | omega | (simp only [List.length_set, List.length_append, List.length_cons, List.length_nil, List.length_replicate, List.length_map, List.length_take, List.length_drop]; omega) | (simp; done) | (simp; omega)) rfl) ?_
 refine q_val (v := v80) rfl (fun w' hw' => e_move (by exact zs19)) ?_
 refine q_val (v := Value.pointer (some (eAddr v80 2 (Int.toNat 1)))) rfl (fun w' hw' => e_indexAddr (α := (Int) × (Int)) (xs := ([((a.1 + q.1), (a.2 + q.2)), ((b.1 + q.1), (b.2 + q.2)), ((c.1 + q.1), (c.2 + q.2)), ((d.1 + q.1), (d.2 + q.2))] : List ((Int) × (Int)))) (v := v80) (i := 1) Try.underlying25 rfl rfl (bx174.flat.bel hw') rfl (by omega) (by first | omega | (simp only [List.length_set, List.length_append, List.length_cons, List.length_nil, List.length_replicate, List.length_map, List.length_take, List.length_drop]; omega) | (simp; done) | (simp; omega))) ?_
 refine q_val (v := Value.agg (List.toArray [Value.int .i64 (b.1 + q.1), Value.int .i64 (b.2 + q.2)])) rfl (fun w' hw' => e_load_elN (α := (Int) × (Int)) (xs := ([((a.1 + q.1), (a.2 + q.2)), ((b.1 + q.1), (b.2 + q.2)), ((c.1 + q.1), (c.2 + q.2)), ((d.1 + q.1), (d.2 + q.2))] : List ((Int) × (Int)))) (v := v80) (i := 1) tp23_gt rfl (bx174.flat.bel hw') (by omega) (by first | omega | (simp only [List.length_set, List.length_append, List.length_cons, List.length_nil, List.length_replicate, List.length_map, List.length_take, List.length_drop]; omega) | (simp; done) | (simp; omega)) rfl) ?_
 refine q_val (v := v80) rfl (fun w' hw' => e_move (by exact zs19)) ?_
 refine q_val (v := Value.pointer (some (eAddr v80 2 (Int.toNat 2)))) rfl (fun w' hw' => e_indexAddr (α := (Int) × (Int)) (xs := ([((a.1 + q.1), (a.2 + q.2)), ((b.1 + q.1), (b.2 + q.2)), ((c.1 + q.1), (c.2 + q.2)), ((d.1 + q.1), (d.2 + q.2))] : List ((Int) × (Int)))) (v := v80) (i := 2) Try.underlying25 rfl rfl (bx174.flat.bel hw') rfl (by omega) (by first | omega | (simp only [List.length_set, List.length_append, List.length_cons, List.length_nil, List.length_replicate, List.length_map, List.length_take, List.length_drop]; omega) | (simp; done) | (simp; omega))) ?_
 refine q_val (v := Value.agg (List.toArray [Value.int .i64 (c.1 + q.1), Value.int .i64 (c.2 + q.2)])) rfl (fun w' hw' => e_load_elN (α := (Int) × (Int)) (xs := ([((a.1 + q.1), (a.2 + q.2)), ((b.1 + q.1), (b.2 + q.2)), ((c.1 + q.1), (c.2 + q.2)), ((d.1 + q.1), (d.2 + q.2))] : List ((Int) × (Int)))) (v := v80) (i := 2) tp23_gt rfl (bx174.flat.bel hw') (by omega) (by first | omega | (simp only [List.length_set, List.length_append, List.length_cons, List.length_nil, List.length_replicate, List.length_map, List.length_take, List.length_drop]; omega) | (simp; done) | (simp; omega)) rfl) ?_
 refine q_call (v := Value.tuple (List.toArray [Value.int .i64 ((orientR ((a.1 + q.1), (a.2 + q.2)) ((b.1 + q.1), (b.2 + q.2)) ((c.1 + q.1), (c.2 + q.2))).1), Value.int .i64 ((orientR ((a.1 + q.1), (a.2 + q.2)) ((b.1 + q.1), (b.2 + q.2)) ((c.1 + q.1), (c.2 + q.2))).2)])) rfl (fun w' hw' => e_call (vals := [Value.agg (List.toArray [Value.int .i64 (a.1 + q.1), Value.int .i64 (a.2 + q.2)]), Value.agg (List.toArray [Value.int .i64 (b.1 + q.1), Value.int .i64 (b.2 + q.2)]), Value.agg (List.toArray [Value.int .i64 (c.1 + q.1), Value.int .i64 (c.2 + q.2)])]) Try.func13 bd13_gt nm13_gt rfl) (fun w' hw' => (Orient_ok w' ((a.1 + q.1), (a.2 + q.2)) ((b.1 + q.1), (b.2 + q.2)) ((c.1 + q.1), (c.2 + q.2))).mono fun e w2 h2 => ⟨h2.1, hw'.trans (h2.2.mono hw'.size)⟩) ?_
 refine q_val (v := Value.tuple (List.toArray [Value.int .i64 ((orientR ((a.1 + q.1), (a.2 + q.2)) ((b.1 + q.1), (b.2 + q.2)) ((c.1 + q.1), (c.2 + q.2))).1), Value.int .i64 ((orientR ((a.1 + q.1), (a.2 + q.2)) ((b.1 + q.1), (b.2 + q.2)) ((c.1 + q.1), (c.2 + q.2))).2)])) rfl (fun w' hw' => e_move rfl) ?_
 refine q_val (v := Value.int .i64 ((orientR ((a.1 + q.1), (a.2 + q.2)) ((b.1 + q.1), (b.2 + q.2)) ((c.1 + q.1), (c.2 + q.2))).1)) rfl (fun w' hw' => e_extract rfl rfl) ?_
 refine q_val (v := Value.int .i64 ((orientR ((a.1 + q.1), (a.2 + q.2)) ((b.1 + q.1), (b.2 + q.2)) ((c.1 + q.1), (c.2 + q.2))).2)) rfl (fun w' hw' => e_extract rfl rfl) ?_
 refine q_val (v := Value.int .i64 ((orientR ((a.1 + q.1), (a.2 + q.2)) ((b.1 + q.1), (b.2 + q.2)) ((c.1 + q.1), (c.2 + q.2))).1)) rfl (fun w' hw' => e_assign rfl) ?_
 refine q_val (v := Value.int .i64 ((orientR ((a.1 + q.1), (a.2 + q.2)) ((b.1 + q.1), (b.2 + q.2)) ((c.1 + q.1), (c.2 + q.2))).2)) rfl (fun w' hw' => e_assign rfl) ?_
 refine q_nil ?_
 intro w187 hc188
 replace hc188 := chg_below hc188 g110
 refine run_seq ?_
 refine region_q g110 rfl mixed_gt (by kernel_rfl) ?_
 intro w190 ch189
 refine q_val (v := v85) rfl (fun w' hw' => e_move (by exact zs20)) ?_
 have C191 : Chg (inl []) _ _ _ _ := (ch184.n).seq ((hc188.n).seq (ch189.n))
 replace bx183 := bx183.chg C191 (is_nl rfl) (is_nl rfl)
 refine q_val (v := Value.pointer (some (eAddr v85 2 (Int.toNat 0)))) rfl (fun w' hw' => e_indexAddr (α := (Int) × (Int)) (xs := ([((-a.2), a.1), ((-b.2), b.1), ((-c.2), c.1), ((-d.2), d.1)] : List ((Int) × (Int)))) (v := v85) (i := 0) Try.underlying25 rfl rfl (bx183.flat.bel hw') rfl (by omega) (by first | omega | (simp only [List.length_set, List.length_append, List.length_cons, List.length_nil, List.length_replicate, List.length_map, List.length_take, List.length_drop]; omega) | (simp; done) | (simp; omega))) ?_
 refine q_val (v := Value.agg (List.toArray [Value.int .i64 (-a.2), Value.int .i64 a.1])) rfl (fun w' hw' => e_load_elN (α := (Int) × (Int)) (xs := ([((-a.2), a.1), ((-b.2), b.1), ((-c.2), c.1), ((-d.2), d.1)] : List ((Int) × (Int)))) (v := v85) (i := 0) tp23_gt rfl (bx183.flat.bel hw') (by omega) (by first | omega | (simp only [List.length_set, List.length_append, List.length_cons, List.length_nil, List.length_replicate, List.length_map, List.length_take, List.length_drop]; omega) | (simp; done) | (simp; omega)) rfl) ?_
 refine q_val (v := v85) rfl (fun w' hw' => e_move (by exact zs20)) ?_
 refine q_val (v := Value.pointer (some (eAddr v85 2 (Int.toNat 1)))) rfl (fun w' hw' => e_indexAddr (α := (Int) × (Int)) (xs := ([((-a.2), a.1), ((-b.2), b.1), ((-c.2), c.1), ((-d.2), d.1)] : List ((Int) × (Int)))) (v := v85) (i := 1) Try.underlying25 rfl rfl (bx183.flat.bel hw') rfl (by omega) (by first | omega | (simp only [List.length_set, List.length_append, List.length_cons, List.length_nil, List.length_replicate, List.length_map, List.length_take, List.length_drop]; omega) | (simp; done) | (simp; omega))) ?_
 refine q_val (v := Value.agg (List.toArray [Value.int .i64 (-b.2), Value.int .i64 b.1])) rfl (fun w' hw' => e_load_elN (α := (Int) × (Int)) (xs := ([((-a.2), a.1), ((-b.2), b.1), ((-c.2), c.1), ((-d.2), d.1)] : List ((Int) × (Int)))) (v := v85) (i := 1) tp23_gt rfl (bx183.flat.bel hw') (by omega) (by first | omega | (simp only [List.length_set, List.length_append, List.length_cons, List.length_nil, List.length_replicate, List.length_map, List.length_take, List.length_drop]; omega) | (simp; done) | (simp; omega)) rfl) ?_
 refine q_val (v := v85) rfl (fun w' hw' => e_move (by exact zs20)) ?_
 refine q_val (v := Value.pointer (some (eAddr v85 2 (Int.toNat 2)))) rfl (fun w' hw' => e_indexAddr (α := (Int) × (Int)) (xs := ([((-a.2), a.1), ((-b.2), b.1), ((-c.2), c.1), ((-d.2), d.1)] : List ((Int) × (Int)))) (v := v85) (i := 2) Try.underlying25 rfl rfl (bx183.flat.bel hw') rfl (by omega) (by first | omega | (simp only [List.length_set, List.length_append, List.length_cons, List.length_nil, List.length_replicate, List.length_map, List.length_take, List.length_drop]; omega) | (simp; done) | (simp; omega))) ?_
 refine q_val (v := Value.agg (List.toArray [Value.int .i64 (-c.2), Value.int .i64 c.1])) rfl (fun w' hw' => e_load_elN (α := (Int) × (Int)) (xs := ([((-a.2), a.1), ((-b.2), b.1), ((-c.2), c.1), ((-d.2), d.1)] : List ((Int) × (Int)))) (v := v85) (i := 2) tp23_gt rfl (bx183.flat.bel hw') (by omega) (by first | omega | (simp only [List.length_set, List.length_append, List.length_cons, List.length_nil, List.length_replicate, List.length_map, List.length_take, List.length_drop]; omega) | (simp; done) | (simp; omega)) rfl) ?_
 refine q_call (v := Value.tuple (List.toArray [Value.int .i64 ((orientR ((-a.2), a.1) ((-b.2), b.1) ((-c.2), c.1)).1), Value.int .i64 ((orientR ((-a.2), a.1) ((-b.2), b.1) ((-c.2), c.1)).2)])) rfl (fun w' hw' => e_call (vals := [Value.agg (List.toArray [Value.int .i64 (-a.2), Value.int .i64 a.1]), Value.agg (List.toArray [Value.int .i64 (-b.2), Value.int .i64 b.1]), Value.agg (List.toArray [Value.int .i64 (-c.2), Value.int .i64 c.1])]) Try.func13 bd13_gt nm13_gt rfl) (fun w' hw' => (Orient_ok w' ((-a.2), a.1) ((-b.2), b.1) ((-c.2), c.1)).mono fun e w2 h2 => ⟨h2.1, hw'.trans (h2.2.mono hw'.size)⟩) ?_
 refine q_val (v := Value.tuple (List.toArray [Value.int .i64 ((orientR ((-a.2), a.1) ((-b.2), b.1) ((-c.2), c.1)).1), Value.int .i64 ((orientR ((-a.2), a.1) ((-b.2), b.1) ((-c.2), c.1)).2)])) rfl (fun w' hw' => e_move rfl) ?_
 refine q_val (v := Value.int .i64 ((orientR ((-a.2), a.1) ((-b.2), b.1) ((-c.2), c.1)).1)) rfl (fun w' hw' => e_extract rfl rfl) ?_
 refine q_val (v := Value.int .i64 ((orientR ((-a.2), a.1) ((-b.2), b.1) ((-c.2), c.1)).2)) rfl (fun w' hw' => e_extract rfl rfl) ?_
 refine q_val (v := Value.int .i64 ((orientR ((-a.2), a.1) ((-b.2), b.1) ((-c.2), c.1)).1)) rfl (fun w' hw' => e_assign rfl) ?_
 refine q_val (v := Value.int .i64 ((orientR ((-a.2), a.1) ((-b.2), b.1) ((-c.2), c.1)).2)) rfl (fun w' hw' => e_assign rfl) ?_
 refine q_nil ?_
 intro w192 hc193
 replace hc193 := chg_below hc193 g110
 refine run_seq ?_
 refine run_region rfl ?_
 have C194 : Chg (inl [7, 8]) _ _ _ _ := (ch111.n).seq ((hb114.n).seq ((ch116.l rfl).seq ((ch118.n).seq ((hb122.n).seq ((ch125.l rfl).seq ((ch127.n).seq ((hb132.n).seq ((ch135.l rfl).seq ((ch137.n).seq ((hb141.n).seq ((ch144.l rfl).seq ((ch146.n).seq ((hb151.n).seq ((ch154.l rfl).seq ((ch156.n).seq ((hb160.n).seq ((ch163.l rfl).seq ((ch165.n).seq ((hb170.n).seq ((ch173.l rfl).seq ((ch175.n).seq ((hb179.n).seq ((ch182.l rfl).seq ((ch184.n).seq ((hc188.n).seq ((ch189.n).seq (hc193.n)))))))))))))))))))))))))))
 replace bx5 := bx5.chg C194 (is_nl rfl)
 refine l_val (v := Value.agg (List.toArray [Value.int .i64 a.1, Value.int .i64 a.2])) rfl (e_load_bxN (ds := [Value.int .i64 a.1, Value.int .i64 a.2]) tp23_gt (by exact zs5) bx5 rfl rfl) ?_
 replace bx10 := bx10.chg C194 (is_nl rfl)
 refine l_val (v := Value.agg (List.toArray [Value.int .i64 b.1, Value.int .i64 b.2])) rfl (e_load_bxN (ds := [Value.int .i64 b.1, Value.int .i64 b.2]) tp23_gt (by exact zs6) bx10 rfl rfl) ?_
 replace bx15 := bx15.chg C194 (is_nl rfl)
 refine l_val (v := Value.agg (List.toArray [Value.int .i64 c.1, Value.int .i64 c.2])) rfl (e_load_bxN (ds := [Value.int .i64 c.1, Value.int .i64 c.2]) tp23_gt (by exact zs7) bx15 rfl rfl) ?_
 replace bx20 := bx20.chg C194 (is_nl rfl)
 refine l_val (v := Value.agg (List.toArray [Value.int .i64 d.1, Value.int .i64 d.2])) rfl (e_load_bxN (ds := [Value.int .i64 d.1, Value.int .i64 d.2]) tp23_gt (by exact zs8) bx20 rfl rfl) ?_
 refine l_op rfl ?_
 refine o_call (v := Value.tuple (List.toArray [Value.int .i64 ((meetR a b c d).1), Value.int .i64 ((meetR a b c d).2)])) (e_call (vals := [Value.agg (List.toArray [Value.int .i64 a.1, Value.int .i64 a.2]), Value.agg (List.toArray [Value.int .i64 b.1, Value.int .i64 b.2]), Value.agg (List.toArray [Value.int .i64 c.1, Value.int .i64 c.2]), Value.agg (List.toArray [Value.int .i64 d.1, Value.int .i64 d.2])]) Try.func15 bd15_gt nm15_gt rfl) (Meet_ok w192 a b c d) ?_
 intro w195 hb196
 replace hb196 := chg_below hb196 g110
 refine l_val (v := Value.tuple (List.toArray [Value.int .i64 ((meetR a b c d).1), Value.int .i64 ((meetR a b c d).2)])) rfl (e_move rfl) ?_
 refine l_val (v := Value.int .i64 ((meetR a b c d).1)) rfl (e_extract rfl rfl) ?_
 refine l_val (v := Value.int .i64 ((meetR a b c d).2)) rfl (e_extract rfl rfl) ?_
 refine l_val (v := Value.int .i64 ((meetR a b c d).1)) rfl (e_assign rfl) ?_
 refine l_val (v := Value.int .i64 ((meetR a b c d).2)) rfl (e_assign rfl) ?_
 refine l_nil ?_
 refine run_seq ?_
 refine region_q g110 rfl mixed_gt (by kernel_rfl) ?_
 intro w198 ch197
 refine q_val (v := v80) rfl (fun w' hw' => e_move (by exact zs19)) ?_
 have C199 : Chg (inl []) _ _ _ _ := (hc188.n).seq ((ch189.n).seq ((hc193.n).seq ((hb196.n).seq (ch197.n))))
 replace bx174 := bx174.chg C199 (is_nl rfl) (is_nl rfl)
 refine q_val (v := Value.pointer (some (eAddr v80 2 (Int.toNat 0)))) rfl (fun w' hw' => e_indexAddr (α := (Int) × (Int)) (xs := ([((a.1 + q.1), (a.2 + q.2)), ((b.1 + q.1), (b.2 + q.2)), ((c.1 + q.1), (c.2 + q.2)), ((d.1 + q.1), (d.2 + q.2))] : List ((Int) × (Int)))) (v := v80) (i := 0) Try.underlying25 rfl rfl (bx174.flat.bel hw') rfl (by omega) (by first | omega | (simp only [List.length_set, List.length_append, List.length_cons, List.length_nil, List.length_replicate, List.length_map, List.length_take, List.length_drop]; omega) | (simp; done) | (simp; omega))) ?_
 refine q_val (v := Value.agg (List.toArray [Value.int .i64 (a.1 + q.1), Value.int .i64 (a.2 + q.2)])) rfl (fun w' hw' => e_load_elN (α := (Int) × (Int)) (xs := ([((a.1 + q.1), (a.2 + q.2)), ((b.1 + q.1), (b.2 + q.2)), ((c.1 + q.1), (c.2 + q.2)), ((d.1 + q.1), (d.2 + q.2))] : List ((Int) × (Int)))) (v := v80) (i := 0) tp23_gt rfl (bx174.flat.bel hw') (by omega) (by first | omega | (simp only [List.length_set, List.length_append, List.length_cons, List.length_nil, List.length_replicate, List.length_map, List.length_take, List.length_drop]; omega) | (simp; done) | (simp; omega)) rfl) ?_
 refine q_val (v := v80) rfl (fun w' hw' => e_move (by exact zs19)) ?_
 refine q_val (v := Value.pointer (some (eAddr v80 2 (Int.toNat 1)))) rfl (fun w' hw' => e_indexAddr (α := (Int) × (Int)) (xs := ([((a.1 + q.1), (a.2 + q.2)), ((b.1 + q.1), (b.2 + q.2)), ((c.1 + q.1), (c.2 + q.2)), ((d.1 + q.1), (d.2 + q.2))] : List ((Int) × (Int)))) (v := v80) (i := 1) Try.underlying25 rfl rfl (bx174.flat.bel hw') rfl (by omega) (by first | omega | (simp only [List.length_set, List.length_append, List.length_cons, List.length_nil, List.length_replicate, List.length_map, List.length_take, List.length_drop]; omega) | (simp; done) | (simp; omega))) ?_
 refine q_val (v := Value.agg (List.toArray [Value.int .i64 (b.1 + q.1), Value.int .i64 (b.2 + q.2)])) rfl (fun w' hw' => e_load_elN (α := (Int) × (Int)) (xs := ([((a.1 + q.1), (a.2 + q.2)), ((b.1 + q.1), (b.2 + q.2)), ((c.1 + q.1), (c.2 + q.2)), ((d.1 + q.1), (d.2 + q.2))] : List ((Int) × (Int)))) (v := v80) (i := 1) tp23_gt rfl (bx174.flat.bel hw') (by omega) (by first | omega | (simp only [List.length_set, List.length_append, List.length_cons, List.length_nil, List.length_replicate, List.length_map, List.length_take, List.length_drop]; omega) | (simp; done) | (simp; omega)) rfl) ?_
 refine q_val (v := v80) rfl (fun w' hw' => e_move (by exact zs19)) ?_
 refine q_val (v := Value.pointer (some (eAddr v80 2 (Int.toNat 2)))) rfl (fun w' hw' => e_indexAddr (α := (Int) × (Int)) (xs := ([((a.1 + q.1), (a.2 + q.2)), ((b.1 + q.1), (b.2 + q.2)), ((c.1 + q.1), (c.2 + q.2)), ((d.1 + q.1), (d.2 + q.2))] : List ((Int) × (Int)))) (v := v80) (i := 2) Try.underlying25 rfl rfl (bx174.flat.bel hw') rfl (by omega) (by first | omega | (simp only [List.length_set, List.length_append, List.length_cons, List.length_nil, List.length_replicate, List.length_map, List.length_take, List.length_drop]; omega) | (simp; done) | (simp; omega))) ?_
 refine q_val (v := Value.agg (List.toArray [Value.int .i64 (c.1 + q.1), Value.int .i64 (c.2 + q.2)])) rfl (fun w' hw' => e_load_elN (α := (Int) × (Int)) (xs := ([((a.1 + q.1), (a.2 + q.2)), ((b.1 + q.1), (b.2 + q.2)), ((c.1 + q.1), (c.2 + q.2)), ((d.1 + q.1), (d.2 + q.2))] : List ((Int) × (Int)))) (v := v80) (i := 2) tp23_gt rfl (bx174.flat.bel hw') (by omega) (by first | omega | (simp only [List.length_set, List.length_append, List.length_cons, List.length_nil, List.length_replicate, List.length_map, List.length_take, List.length_drop]; omega) | (simp; done) | (simp; omega)) rfl) ?_
 refine q_val (v := v80) rfl (fun w' hw' => e_move (by exact zs19)) ?_
 refine q_val (v := Value.pointer (some (eAddr v80 2 (Int.toNat 3)))) rfl (fun w' hw' => e_indexAddr (α := (Int) × (Int)) (xs := ([((a.1 + q.1), (a.2 + q.2)), ((b.1 + q.1), (b.2 + q.2)), ((c.1 + q.1), (c.2 + q.2)), ((d.1 + q.1), (d.2 + q.2))] : List ((Int) × (Int)))) (v := v80) (i := 3) Try.underlying25 rfl rfl (bx174.flat.bel hw') rfl (by omega) (by first | omega | (simp only [List.length_set, List.length_append, List.length_cons, List.length_nil, List.length_replicate, List.length_map, List.length_take, List.length_drop]; omega) | (simp; done) | (simp; omega))) ?_
 refine q_val (v := Value.agg (List.toArray [Value.int .i64 (d.1 + q.1), Value.int .i64 (d.2 + q.2)])) rfl (fun w' hw' => e_load_elN (α := (Int) × (Int)) (xs := ([((a.1 + q.1), (a.2 + q.2)), ((b.1 + q.1), (b.2 + q.2)), ((c.1 + q.1), (c.2 + q.2)), ((d.1 + q.1), (d.2 + q.2))] : List ((Int) × (Int)))) (v := v80) (i := 3) tp23_gt rfl (bx174.flat.bel hw') (by omega) (by first | omega | (simp only [List.length_set, List.length_append, List.length_cons, List.length_nil, List.length_replicate, List.length_map, List.length_take, List.length_drop]; omega) | (simp; done) | (simp; omega)) rfl) ?_
 refine q_call (v := Value.tuple (List.toArray [Value.int .i64 ((meetR ((a.1 + q.1), (a.2 + q.2)) ((b.1 + q.1), (b.2 + q.2)) ((c.1 + q.1), (c.2 + q.2)) ((d.1 + q.1), (d.2 + q.2))).1), Value.int .i64 ((meetR ((a.1 + q.1), (a.2 + q.2)) ((b.1 + q.1), (b.2 + q.2)) ((c.1 + q.1), (c.2 + q.2)) ((d.1 + q.1), (d.2 + q.2))).2)])) rfl (fun w' hw' => e_call (vals := [Value.agg (List.toArray [Value.int .i64 (a.1 + q.1), Value.int .i64 (a.2 + q.2)]), Value.agg (List.toArray [Value.int .i64 (b.1 + q.1), Value.int .i64 (b.2 + q.2)]), Value.agg (List.toArray [Value.int .i64 (c.1 + q.1), Value.int .i64 (c.2 + q.2)]), Value.agg (List.toArray [Value.int .i64 (d.1 + q.1), Value.int .i64 (d.2 + q.2)])]) Try.func15 bd15_gt nm15_gt rfl) (fun w' hw' => (Meet_ok w' ((a.1 + q.1), (a.2 + q.2)) ((b.1 + q.1), (b.2 + q.2)) ((c.1 + q.1), (c.2 + q.2)) ((d.1 + q.1), (d.2 + q.2))).mono fun e w2 h2 => ⟨h2.1, hw'.trans (h2.2.mono hw'.size)⟩) ?_
 refine q_val (v := Value.tuple (List.toArray [Value.int .i64 ((meetR ((a.1 + q.1), (a.2 + q.2)) ((b.1 + q.1), (b.2 + q.2)) ((c.1 + q.1), (c.2 + q.2)) ((d.1 + q.1), (d.2 + q.2))).1), Value.int .i64 ((meetR ((a.1 + q.1), (a.2 + q.2)) ((b.1 + q.1), (b.2 + q.2)) ((c.1 + q.1), (c.2 + q.2)) ((d.1 + q.1), (d.2 + q.2))).2)])) rfl (fun w' hw' => e_move rfl) ?_
 refine q_val (v := Value.int .i64 ((meetR ((a.1 + q.1), (a.2 + q.2)) ((b.1 + q.1), (b.2 + q.2)) ((c.1 + q.1), (c.2 + q.2)) ((d.1 + q.1), (d.2 + q.2))).1)) rfl (fun w' hw' => e_extract rfl rfl) ?_
 refine q_val (v := Value.int .i64 ((meetR ((a.1 + q.1), (a.2 + q.2)) ((b.1 + q.1), (b.2 + q.2)) ((c.1 + q.1), (c.2 + q.2)) ((d.1 + q.1), (d.2 + q.2))).2)) rfl (fun w' hw' => e_extract rfl rfl) ?_
 refine q_val (v := Value.int .i64 ((meetR ((a.1 + q.1), (a.2 + q.2)) ((b.1 + q.1), (b.2 + q.2)) ((c.1 + q.1), (c.2 + q.2)) ((d.1 + q.1), (d.2 + q.2))).1)) rfl (fun w' hw' => e_assign rfl) ?_
 refine q_val (v := Value.int .i64 ((meetR ((a.1 + q.1), (a.2 + q.2)) ((b.1 + q.1), (b.2 + q.2)) ((c.1 + q.1), (c.2 + q.2)) ((d.1 + q.1), (d.2 + q.2))).2)) rfl (fun w' hw' => e_assign rfl) ?_
 refine q_nil ?_
 intro w200 hc201
 replace hc201 := chg_below hc201 g110
 refine run_seq ?_
 clear bx174
 refine region_q g110 rfl mixed_gt (by kernel_rfl) ?_
 intro w203 ch202
 refine q_val (v := v85) rfl (fun w' hw' => e_move (by exact zs20)) ?_
 have C204 : Chg (inl []) _ _ _ _ := (hc193.n).seq ((hb196.n).seq ((ch197.n).seq ((hc201.n).seq (ch202.n))))
 replace bx183 := bx183.chg C204 (is_nl rfl) (is_nl rfl)
 refine q_val (v := Value.pointer (some (eAddr v85 2 (Int.toNat 0)))) rfl (fun w' hw' => e_indexAddr (α := (Int) × (Int)) (xs := ([((-a.2), a.1), ((-b.2), b.1), ((-c.2), c.1), ((-d.2), d.1)] : List ((Int) × (Int)))) (v := v85) (i := 0) Try.underlying25 rfl rfl (bx183.flat.bel hw') rfl (by omega) (by first | omega | (simp only [List.length_set, List.length_append, List.length_cons, List.length_nil, List.length_replicate, List.length_map, List.length_take, List.length_drop]; omega) | (simp; done) | (simp; omega))) ?_
 refine q_val (v := Value.agg (List.toArray [Value.int .i64 (-a.2), Value.int .i64 a.1])) rfl (fun w' hw' => e_load_elN (α := (Int) × (Int)) (xs := ([((-a.2), a.1), ((-b.2), b.1), ((-c.2), c.1), ((-d.2), d.1)] : List ((Int) × (Int)))) (v := v85) (i := 0) tp23_gt rfl (bx183.flat.bel hw') (by omega) (by first | omega | (simp only [List.length_set, List.length_append, List.length_cons, List.length_nil, List.length_replicate, List.length_map, List.length_take, List.length_drop]; omega) | (simp; done) | (simp; omega)) rfl) ?_
 refine q_val (v := v85) rfl (fun w' hw' => e_move (by exact zs20)) ?_
 refine q_val (v := Value.pointer (some (eAddr v85 2 (Int.toNat 1)))) rfl (fun w' hw' => e_indexAddr (α := (Int) × (Int)) (xs := ([((-a.2), a.1), ((-b.2), b.1), ((-c.2), c.1), ((-d.2), d.1)] : List ((Int) × (Int)))) (v := v85) (i := 1) Try.underlying25 rfl rfl (bx183.flat.bel hw') rfl (by omega) (by first | omega | (simp only [List.length_set, List.length_append, List.length_cons, List.length_nil, List.length_replicate, List.length_map, List.length_take, List.length_drop]; omega) | (simp; done) | (simp; omega))) ?_
 refine q_val (v := Value.agg (List.toArray [Value.int .i64 (-b.2), Value.int .i64 b.1])) rfl (fun w' hw' => e_load_elN (α := (Int) × (Int)) (xs := ([((-a.2), a.1), ((-b.2), b.1), ((-c.2), c.1), ((-d.2), d.1)] : List ((Int) × (Int)))) (v := v85) (i := 1) tp23_gt rfl (bx183.flat.bel hw') (by omega) (by first | omega | (simp only [List.length_set, List.length_append, List.length_cons, List.length_nil, List.length_replicate, List.length_map, List.length_take, List.length_drop]; omega) | (simp; done) | (simp; omega)) rfl) ?_
 refine q_val (v := v85) rfl (fun w' hw' => e_move (by exact zs20)) ?_
 refine q_val (v := Value.pointer (some (eAddr v85 2 (Int.toNat 2)))) rfl (fun w' hw' => e_indexAddr (α := (Int) × (Int)) (xs := ([((-a.2), a.1), ((-b.2), b.1), ((-c.2), c.1), ((-d.2), d.1)] : List ((Int) × (Int)))) (v := v85) (i := 2) Try.underlying25 rfl rfl (bx183.flat.bel hw') rfl (by omega) (by first | omega | (simp only [List.length_set, List.length_append, List.length_cons, List.length_nil, List.length_replicate, List.length_map, List.length_take, List.length_drop]; omega) | (simp; done) | (simp; omega))) ?_
 refine q_val (v := Value.agg (List.toArray [Value.int .i64 (-c.2), Value.int .i64 c.1])) rfl (fun w' hw' => e_load_elN (α := (Int) × (Int)) (xs := ([((-a.2), a.1), ((-b.2), b.1), ((-c.2), c.1), ((-d.2), d.1)] : List ((Int) × (Int)))) (v := v85) (i := 2) tp23_gt rfl (bx183.flat.bel hw') (by omega) (by first | omega | (simp only [List.length_set, List.length_append, List.length_cons, List.length_nil, List.length_replicate, List.length_map, List.length_take, List.length_drop]; omega) | (simp; done) | (simp; omega)) rfl) ?_
 refine q_val (v := v85) rfl (fun w' hw' => e_move (by exact zs20)) ?_
 refine q_val (v := Value.pointer (some (eAddr v85 2 (Int.toNat 3)))) rfl (fun w' hw' => e_indexAddr (α := (Int) × (Int)) (xs := ([((-a.2), a.1), ((-b.2), b.1), ((-c.2), c.1), ((-d.2), d.1)] : List ((Int) × (Int)))) (v := v85) (i := 3) Try.underlying25 rfl rfl (bx183.flat.bel hw') rfl (by omega) (by first | omega | (simp only [List.length_set, List.length_append, List.length_cons, List.length_nil, List.length_replicate, List.length_map, List.length_take, List.length_drop]; omega) | (simp; done) | (simp; omega))) ?_
 refine q_val (v := Value.agg (List.toArray [Value.int .i64 (-d.2), Value.int .i64 d.1])) rfl (fun w' hw' => e_load_elN (α := (Int) × (Int)) (xs := ([((-a.2), a.1), ((-b.2), b.1), ((-c.2), c.1), ((-d.2), d.1)] : List ((Int) × (Int)))) (v := v85) (i := 3) tp23_gt rfl (bx183.flat.bel hw') (by omega) (by first | omega | (simp only [List.length_set, List.length_append, List.length_cons, List.length_nil, List.length_replicate, List.length_map, List.length_take, List.length_drop]; omega) | (simp; done) | (simp; omega)) rfl) ?_
 refine q_call (v := Value.tuple (List.toArray [Value.int .i64 ((meetR ((-a.2), a.1) ((-b.2), b.1) ((-c.2), c.1) ((-d.2), d.1)).1), Value.int .i64 ((meetR ((-a.2), a.1) ((-b.2), b.1) ((-c.2), c.1) ((-d.2), d.1)).2)])) rfl (fun w' hw' => e_call (vals := [Value.agg (List.toArray [Value.int .i64 (-a.2), Value.int .i64 a.1]), Value.agg (List.toArray [Value.int .i64 (-b.2), Value.int .i64 b.1]), Value.agg (List.toArray [Value.int .i64 (-c.2), Value.int .i64 c.1]), Value.agg (List.toArray [Value.int .i64 (-d.2), Value.int .i64 d.1])]) Try.func15 bd15_gt nm15_gt rfl) (fun w' hw' => (Meet_ok w' ((-a.2), a.1) ((-b.2), b.1) ((-c.2), c.1) ((-d.2), d.1)).mono fun e w2 h2 => ⟨h2.1, hw'.trans (h2.2.mono hw'.size)⟩) ?_
 refine q_val (v := Value.tuple (List.toArray [Value.int .i64 ((meetR ((-a.2), a.1) ((-b.2), b.1) ((-c.2), c.1) ((-d.2), d.1)).1), Value.int .i64 ((meetR ((-a.2), a.1) ((-b.2), b.1) ((-c.2), c.1) ((-d.2), d.1)).2)])) rfl (fun w' hw' => e_move rfl) ?_
 refine q_val (v := Value.int .i64 ((meetR ((-a.2), a.1) ((-b.2), b.1) ((-c.2), c.1) ((-d.2), d.1)).1)) rfl (fun w' hw' => e_extract rfl rfl) ?_
 refine q_val (v := Value.int .i64 ((meetR ((-a.2), a.1) ((-b.2), b.1) ((-c.2), c.1) ((-d.2), d.1)).2)) rfl (fun w' hw' => e_extract rfl rfl) ?_
 refine q_val (v := Value.int .i64 ((meetR ((-a.2), a.1) ((-b.2), b.1) ((-c.2), c.1) ((-d.2), d.1)).1)) rfl (fun w' hw' => e_assign rfl) ?_
 refine q_val (v := Value.int .i64 ((meetR ((-a.2), a.1) ((-b.2), b.1) ((-c.2), c.1) ((-d.2), d.1)).2)) rfl (fun w' hw' => e_assign rfl) ?_
 refine q_nil ?_
 intro w205 hc206
 replace hc206 := chg_below hc206 g110
 refine run_seq ?_
 clear bx183
 refine run_region rfl ?_
 have C207 : Chg (inl []) _ _ _ _ := (hb196.n).seq ((ch197.n).seq ((hc201.n).seq ((ch202.n).seq (hc206.n))))
 replace bx20 := bx20.chg C207 (is_nl rfl)
 refine l_val (v := Value.agg (List.toArray [Value.int .i64 d.1, Value.int .i64 d.2])) rfl (e_load_bxN (ds := [Value.int .i64 d.1, Value.int .i64 d.2]) tp23_gt (by exact zs8) bx20 rfl rfl) ?_
 replace bx15 := bx15.chg C207 (is_nl rfl)
 refine l_val (v := Value.agg (List.toArray [Value.int .i64 c.1, Value.int .i64 c.2])) rfl (e_load_bxN (ds := [Value.int .i64 c.1, Value.int .i64 c.2]) tp23_gt (by exact zs7) bx15 rfl rfl) ?_
 replace bx10 := bx10.chg C207 (is_nl rfl)
 refine l_val (v := Value.agg (List.toArray [Value.int .i64 b.1, Value.int .i64 b.2])) rfl (e_load_bxN (ds := [Value.int .i64 b.1, Value.int .i64 b.2]) tp23_gt (by exact zs6) bx10 rfl rfl) ?_
 replace bx5 := bx5.chg C207 (is_nl rfl)
 refine l_val (v := Value.agg (List.toArray [Value.int .i64 a.1, Value.int .i64 a.2])) rfl (e_load_bxN (ds := [Value.int .i64 a.1, Value.int .i64 a.2]) tp23_gt (by exact zs5) bx5 rfl rfl) ?_
 refine l_op rfl ?_
 refine o_call (v := Value.tuple (List.toArray [Value.int .i64 ((meetR d c b a).1), Value.int .i64 ((meetR d c b a).2)])) (e_call (vals := [Value.agg (List.toArray [Value.int .i64 d.1, Value.int .i64 d.2]), Value.agg (List.toArray [Value.int .i64 c.1, Value.int .i64 c.2]), Value.agg (List.toArray [Value.int .i64 b.1, Value.int .i64 b.2]), Value.agg (List.toArray [Value.int .i64 a.1, Value.int .i64 a.2])]) Try.func15 bd15_gt nm15_gt rfl) (Meet_ok w205 d c b a) ?_
 intro w208 hb209
 replace hb209 := chg_below hb209 g110
 refine l_val (v := Value.tuple (List.toArray [Value.int .i64 ((meetR d c b a).1), Value.int .i64 ((meetR d c b a).2)])) rfl (e_move rfl) ?_
 refine l_val (v := Value.int .i64 ((meetR d c b a).1)) rfl (e_extract rfl rfl) ?_
 refine l_val (v := Value.int .i64 ((meetR d c b a).2)) rfl (e_extract rfl rfl) ?_
 refine l_val (v := Value.int .i64 ((meetR d c b a).1)) rfl (e_assign rfl) ?_
 refine l_val (v := Value.int .i64 ((meetR d c b a).2)) rfl (e_assign rfl) ?_
 refine l_nil ?_
 refine run_seq ?_
 clear bx5
 clear bx10
 clear bx15
 clear bx20
 refine run_region rfl ?_
 refine l_val (v := Value.int .i64 ((orientR ((a.1 + q.1), (a.2 + q.2)) ((b.1 + q.1), (b.2 + q.2)) ((c.1 + q.1), (c.2 + q.2))).1)) rfl (e_move rfl) ?_
 refine l_val (v := Value.int .i64 ((orientR a b c).1)) rfl (e_move (by exact zs13)) ?_
 refine l_val (v := Value.bool (decide (((orientR ((a.1 + q.1), (a.2 + q.2)) ((b.1 + q.1), (b.2 + q.2)) ((c.1 + q.1), (c.2 + q.2))).1) = ((orientR a b c).1)))) rfl (e_eql (m := (orientR ((a.1 + q.1), (a.2 + q.2)) ((b.1 + q.1), (b.2 + q.2)) ((c.1 + q.1), (c.2 + q.2))).1) (n := (orientR a b c).1) rfl rfl) ?_
 refine l_val (v := Value.bool (decide (((orientR ((a.1 + q.1), (a.2 + q.2)) ((b.1 + q.1), (b.2 + q.2)) ((c.1 + q.1), (c.2 + q.2))).1) = ((orientR a b c).1)))) rfl (e_move rfl) ?_
 have q224 : ((orientR ((a.1 + q.1), (a.2 + q.2)) ((b.1 + q.1), (b.2 + q.2)) ((c.1 + q.1), (c.2 + q.2))).1) = ((orientR a b c).1) := by first | exact hl1 | exact hl2 | exact hl3 | exact hl4 | exact hl5 | exact hl6
 refine l_val (v := Value.int .i64 ((orientR ((-a.2), a.1) ((-b.2), b.1) ((-c.2), c.1)).1)) (want_y rfl rfl rfl (decide_eq_true q224)) (e_move rfl) ?_
 refine l_val (v := Value.int .i64 ((orientR a b c).1)) (want_y rfl rfl rfl (decide_eq_true q224)) (e_move (by exact zs13)) ?_
 refine l_val (v := Value.bool (decide (((orientR ((-a.2), a.1) ((-b.2), b.1) ((-c.2), c.1)).1) = ((orientR a b c).1)))) (want_y rfl rfl rfl (decide_eq_true q224)) (e_eql (m := (orientR ((-a.2), a.1) ((-b.2), b.1) ((-c.2), c.1)).1) (n := (orientR a b c).1) rfl rfl) ?_
 refine l_val (v := Value.bool (decide (((orientR ((-a.2), a.1) ((-b.2), b.1) ((-c.2), c.1)).1) = ((orientR a b c).1)))) rfl (e_pick_t rfl (decide_eq_true q224) rfl) ?_
 refine l_val (v := Value.bool (decide (((orientR ((-a.2), a.1) ((-b.2), b.1) ((-c.2), c.1)).1) = ((orientR a b c).1)))) rfl (e_move rfl) ?_
 have q229 : ((orientR ((-a.2), a.1) ((-b.2), b.1) ((-c.2), c.1)).1) = ((orientR a b c).1) := by first | exact hl1 | exact hl2 | exact hl3 | exact hl4 | exact hl5 | exact hl6
 refine l_val (v := Value.int .i64 ((meetR ((a.1 + q.1), (a.2 + q.2)) ((b.1 + q.1), (b.2 + q.2)) ((c.1 + q.1), (c.2 + q.2)) ((d.1 + q.1), (d.2 + q.2))).1)) (want_y rfl rfl rfl (decide_eq_true q229)) (e_move rfl) ?_
 refine l_val (v := Value.int .i64 ((meetR a b c d).1)) (want_y rfl rfl rfl (decide_eq_true q229)) (e_move rfl) ?_
 refine l_val (v := Value.bool (decide (((meetR ((a.1 + q.1), (a.2 + q.2)) ((b.1 + q.1), (b.2 + q.2)) ((c.1 + q.1), (c.2 + q.2)) ((d.1 + q.1), (d.2 + q.2))).1) = ((meetR a b c d).1)))) (want_y rfl rfl rfl (decide_eq_true q229)) (e_eql (m := (meetR ((a.1 + q.1), (a.2 + q.2)) ((b.1 + q.1), (b.2 + q.2)) ((c.1 + q.1), (c.2 + q.2)) ((d.1 + q.1), (d.2 + q.2))).1) (n := (meetR a b c d).1) rfl rfl) ?_
 refine l_val (v := Value.bool (decide (((meetR ((a.1 + q.1), (a.2 + q.2)) ((b.1 + q.1), (b.2 + q.2)) ((c.1 + q.1), (c.2 + q.2)) ((d.1 + q.1), (d.2 + q.2))).1) = ((meetR a b c d).1)))) rfl (e_pick_t rfl (decide_eq_true q229) rfl) ?_
 refine l_val (v := Value.bool (decide (((meetR ((a.1 + q.1), (a.2 + q.2)) ((b.1 + q.1), (b.2 + q.2)) ((c.1 + q.1), (c.2 + q.2)) ((d.1 + q.1), (d.2 + q.2))).1) = ((meetR a b c d).1)))) rfl (e_move rfl) ?_
 have q234 : ((meetR ((a.1 + q.1), (a.2 + q.2)) ((b.1 + q.1), (b.2 + q.2)) ((c.1 + q.1), (c.2 + q.2)) ((d.1 + q.1), (d.2 + q.2))).1) = ((meetR a b c d).1) := by first | exact hl1 | exact hl2 | exact hl3 | exact hl4 | exact hl5 | exact hl6
 refine l_val (v := Value.int .i64 ((meetR ((-a.2), a.1) ((-b.2), b.1) ((-c.2), c.1) ((-d.2), d.1)).1)) (want_y rfl rfl rfl (decide_eq_true q234)) (e_move rfl) ?_
 refine l_val (v := Value.int .i64 ((meetR a b c d).1)) (want_y rfl rfl rfl (decide_eq_true q234)) (e_move rfl) ?_
 refine l_val (v := Value.bool (decide (((meetR ((-a.2), a.1) ((-b.2), b.1) ((-c.2), c.1) ((-d.2), d.1)).1) = ((meetR a b c d).1)))) (want_y rfl rfl rfl (decide_eq_true q234)) (e_eql (m := (meetR ((-a.2), a.1) ((-b.2), b.1) ((-c.2), c.1) ((-d.2), d.1)).1) (n := (meetR a b c d).1) rfl rfl) ?_
 refine l_val (v := Value.bool (decide (((meetR ((-a.2), a.1) ((-b.2), b.1) ((-c.2), c.1) ((-d.2), d.1)).1) = ((meetR a b c d).1)))) rfl (e_pick_t rfl (decide_eq_true q234) rfl) ?_
 refine l_val (v := Value.bool (decide (((meetR ((-a.2), a.1) ((-b.2), b.1) ((-c.2), c.1) ((-d.2), d.1)).1) = ((meetR a b c d).1)))) rfl (e_move rfl) ?_
 have q239 : ((meetR ((-a.2), a.1) ((-b.2), b.1) ((-c.2), c.1) ((-d.2), d.1)).1) = ((meetR a b c d).1) := by first | exact hl1 | exact hl2 | exact hl3 | exact hl4 | exact hl5 | exact hl6
 refine l_val (v := Value.int .i64 ((meetR d c b a).1)) (want_y rfl rfl rfl (decide_eq_true q239)) (e_move rfl) ?_
 refine l_val (v := Value.int .i64 ((meetR a b c d).1)) (want_y rfl rfl rfl (decide_eq_true q239)) (e_move rfl) ?_
 refine l_val (v := Value.bool (decide (((meetR d c b a).1) = ((meetR a b c d).1)))) (want_y rfl rfl rfl (decide_eq_true q239)) (e_eql (m := (meetR d c b a).1) (n := (meetR a b c d).1) rfl rfl) ?_
 refine l_val (v := Value.bool (decide (((meetR d c b a).1) = ((meetR a b c d).1)))) rfl (e_pick_t rfl (decide_eq_true q239) rfl) ?_
 refine l_val (v := Value.bool (decide (((meetR d c b a).1) = ((meetR a b c d).1)))) rfl (e_assign rfl) ?_
 refine l_nil ?_
 refine run_ret (vs := [Value.bool (decide (((meetR d c b a).1) = ((meetR a b c d).1)))]) Try.func3 (.tmp rfl .nil) ?_
 -- return 20
 have e0 : (decide (((meetR d c b a).1) = ((meetR a b c d).1)) : Bool) = (true) := by
   first
     | rfl
     | exact decide_eq_true hl7
     | exact (decide_eq_true hl7).symm
 have C210 : Chg (inl [7, 8]) _ _ _ _ := (ch111.n).seq ((hb114.n).seq ((ch116.l rfl).seq ((ch118.n).seq ((hb122.n).seq ((ch125.l rfl).seq ((ch127.n).seq ((hb132.n).seq ((ch135.l rfl).seq ((ch137.n).seq ((hb141.n).seq ((ch144.l rfl).seq ((ch146.n).seq ((hb151.n).seq ((ch154.l rfl).seq ((ch156.n).seq ((hb160.n).seq ((ch163.l rfl).seq ((ch165.n).seq ((hb170.n).seq ((ch173.l rfl).seq ((ch175.n).seq ((hb179.n).seq ((ch182.l rfl).seq ((ch184.n).seq ((hc188.n).seq ((ch189.n).seq ((hc193.n).seq ((hb196.n).seq ((ch197.n).seq ((hc201.n).seq ((ch202.n).seq ((hc206.n).seq (hb209.n)))))))))))))))))))))))))))))))))
 replace hbase := hbase.chg C210 (is_nl rfl)
 exact ⟨(congrArg (a₁ := decide (((meetR d c b a).1) = ((meetR a b c d).1))) (fun (z0 : Bool) => Ending.returned (Value.bool z0)) e0), hbase.below⟩
end TL
