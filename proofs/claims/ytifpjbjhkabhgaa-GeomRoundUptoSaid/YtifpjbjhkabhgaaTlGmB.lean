import Derived.Test.YtifpjbjhkabhgaaTlGmA
import Derived.Test.YtifpjbjhkabhgaaTlGmM
import Derived.Test.YtifpjbjhkabhgaaTlGmR
import Derived.Test.YtifpjbjhkabhgaaProg
import Derived.Test.YtifpjbjhkabhgaaTlNet2
import Derived.Test.YtifpjbjhkabhgaaTlEq
import Derived.Test.YtifpjbjhkabhgaaTlHold
import Derived.Test.YtifpjbjhkabhgaaTlDraw
import Derived.Test.YtifpjbjhkabhgaaTlMap
set_option linter.all false
set_option maxRecDepth 20000
namespace TL
open Go Go.Proofs
theorem mixed_gb : Try.prog.follows .mixedOrders = true := by kernel_rfl
theorem tp3_gb : Tp Try.prog 3 false 1 8 (.int .i64 0) := Tp.of (by kernel_rfl)
theorem tp23_gb : Tp Try.prog 23 true 2 16 (.agg #[.int .i64 0, .int .i64 0]) := Tp.of (by kernel_rfl)
theorem tp25_gb : Tp Try.prog 25 false 1 24 (.slice none 0 0) := Tp.of (by kernel_rfl)
theorem bd13_gb : Try.f13.body.isNone = false := rfl
theorem nm13_gb : (Try.f13.name == "runtime.NumGoroutine") = false := by decide +kernel
theorem bd14_gb : Try.f14.body.isNone = false := rfl
theorem nm14_gb : (Try.f14.name == "runtime.NumGoroutine") = false := by decide +kernel
theorem bd15_gb : Try.f15.body.isNone = false := rfl
theorem nm15_gb : (Try.f15.name == "runtime.NumGoroutine") = false := by decide +kernel
theorem bd18_gb : Try.f18.body.isNone = false := rfl
theorem nm18_gb : (Try.f18.name == "runtime.NumGoroutine") = false := by decide +kernel
theorem bd21_gb : Try.f21.body.isNone = false := rfl
theorem nm21_gb : (Try.f21.name == "runtime.NumGoroutine") = false := by decide +kernel
theorem bd25_gb : Try.f25.body.isNone = false := rfl
theorem nm25_gb : (Try.f25.name == "runtime.NumGoroutine") = false := by decide +kernel
theorem bd29_gb : Try.f29.body.isNone = false := rfl
theorem nm29_gb : (Try.f29.name == "runtime.NumGoroutine") = false := by decide +kernel
theorem bd38_gb : Try.f38.body.isNone = false := rfl
theorem nm38_gb : (Try.f38.name == "runtime.NumGoroutine") = false := by decide +kernel
theorem bd39_gb : Try.f39.body.isNone = false := rfl
theorem nm39_gb : (Try.f39.name == "runtime.NumGoroutine") = false := by decide +kernel
theorem bd40_gb : Try.f40.body.isNone = false := rfl
theorem nm40_gb : (Try.f40.name == "runtime.NumGoroutine") = false := by decide +kernel
theorem bd41_gb : Try.f41.body.isNone = false := rfl
theorem nm41_gb : (Try.f41.name == "runtime.NumGoroutine") = false := by decide +kernel
theorem bd42_gb : Try.f42.body.isNone = false := rfl
theorem nm42_gb : (Try.f42.name == "runtime.NumGoroutine") = false := by decide +kernel
theorem bd43_gb : Try.f43.body.isNone = false := rfl
theorem nm43_gb : (Try.f43.name == "runtime.NumGoroutine") = false := by decide +kernel
theorem bd44_gb : Try.f44.body.isNone = false := rfl
theorem nm44_gb : (Try.f44.name == "runtime.NumGoroutine") = false := by decide +kernel
theorem bd57_gb : Try.f57.body.isNone = false := rfl
theorem nm57_gb : (Try.f57.name == "runtime.NumGoroutine") = false := by decide +kernel
theorem bd58_gb : Try.f58.body.isNone = false := rfl
theorem nm58_gb : (Try.f58.name == "runtime.NumGoroutine") = false := by decide +kernel
theorem bd64_gb : Try.f64.body.isNone = false := rfl
theorem nm64_gb : (Try.f64.name == "runtime.NumGoroutine") = false := by decide +kernel
theorem bd73_gb : Try.f73.body.isNone = false := rfl
theorem nm73_gb : (Try.f73.name == "runtime.NumGoroutine") = false := by decide +kernel

set_option maxHeartbeats 4000000 in
theorem begun2_ok (w0 : World)  :
    Calls Try.prog 12 #[] w0 (fun ee w => ee = .returned (Value.bool true) ∧ Bel w0.heap.size w0 w) := by
 refine calls_of_run Try.func12 rfl (Nat.le_of_ble_eq_true rfl) ?_
 have hbase := Base.start w0
 refine run_seq (run_region rfl ?_)
 refine l_val (v := Value.bool false) rfl (e_assign rfl) ?_
 refine l_nil (run_seq (run_region rfl (l_op rfl ?_)))
 refine o_call (v := Value.agg (List.toArray [Value.int .i64 0, Value.int .i64 0])) (e_call (vals := [Value.int .i64 0, Value.int .i64 0]) Try.func14 bd14_gb nm14_gb rfl) (pt_ok w0 0 0) ?_
 intro w1 hb2
 replace hb2 := chg_below hb2 c0
 refine l_op rfl ?_
 refine o_call (v := Value.agg (List.toArray [Value.int .i64 1, Value.int .i64 0])) (e_call (vals := [Value.int .i64 1, Value.int .i64 0]) Try.func14 bd14_gb nm14_gb rfl) (pt_ok w1 1 0) ?_
 intro w3 hb4
 replace hb4 := chg_below hb4 c0
 refine l_op rfl ?_
 refine o_call (v := Value.agg (List.toArray [Value.int .i64 1, Value.int .i64 1])) (e_call (vals := [Value.int .i64 1, Value.int .i64 1]) Try.func14 bd14_gb nm14_gb rfl) (pt_ok w3 1 1) ?_
 intro w5 hb6
 replace hb6 := chg_below hb6 c0
 refine l_op rfl ?_
 refine o_call (v := Value.tuple (List.toArray [Value.int .i64 ((orientR (0, 0) (1, 0) (1, 1)).1), Value.int .i64 ((orientR (0, 0) (1, 0) (1, 1)).2)])) (e_call (vals := [Value.agg (List.toArray [Value.int .i64 0, Value.int .i64 0]), Value.agg (List.toArray [Value.int .i64 1, Value.int .i64 0]), Value.agg (List.toArray [Value.int .i64 1, Value.int .i64 1])]) Try.func13 bd13_gb nm13_gb rfl) (Orient_ok w5 (0, 0) (1, 0) (1, 1)) ?_
 intro w7 hb8
 replace hb8 := chg_below hb8 c0
 refine l_val (v := Value.tuple (List.toArray [Value.int .i64 ((orientR (0, 0) (1, 0) (1, 1)).1), Value.int .i64 ((orientR (0, 0) (1, 0) (1, 1)).2)])) rfl (e_move rfl) ?_
 refine l_val (v := Value.int .i64 ((orientR (0, 0) (1, 0) (1, 1)).1)) rfl (e_extract rfl rfl) ?_
 refine l_val (v := Value.int .i64 ((orientR (0, 0) (1, 0) (1, 1)).2)) rfl (e_extract rfl rfl) ?_
 refine l_val (v := Value.int .i64 ((orientR (0, 0) (1, 0) (1, 1)).1)) rfl (e_assign rfl) ?_
 refine l_val (v := Value.int .i64 ((orientR (0, 0) (1, 0) (1, 1)).2)) rfl (e_assign rfl) ?_
 refine l_nil (run_seq (run_region rfl (l_op rfl ?_)))
 refine o_call (v := Value.agg (List.toArray [Value.int .i64 0, Value.int .i64 0])) (e_call (vals := [Value.int .i64 0, Value.int .i64 0]) Try.func14 bd14_gb nm14_gb rfl) (pt_ok w7 0 0) ?_
 intro w9 hb10
 replace hb10 := chg_below hb10 c0
 refine l_op rfl ?_
 refine o_call (v := Value.agg (List.toArray [Value.int .i64 2, Value.int .i64 2])) (e_call (vals := [Value.int .i64 2, Value.int .i64 2]) Try.func14 bd14_gb nm14_gb rfl) (pt_ok w9 2 2) ?_
 intro w11 hb12
 replace hb12 := chg_below hb12 c0
 refine l_op rfl ?_
 refine o_call (v := Value.agg (List.toArray [Value.int .i64 0, Value.int .i64 2])) (e_call (vals := [Value.int .i64 0, Value.int .i64 2]) Try.func14 bd14_gb nm14_gb rfl) (pt_ok w11 0 2) ?_
 intro w13 hb14
 replace hb14 := chg_below hb14 c0
 refine l_op rfl ?_
 refine o_call (v := Value.agg (List.toArray [Value.int .i64 2, Value.int .i64 0])) (e_call (vals := [Value.int .i64 2, Value.int .i64 0]) Try.func14 bd14_gb nm14_gb rfl) (pt_ok w13 2 0) ?_
 intro w15 hb16
 replace hb16 := chg_below hb16 c0
 refine l_op rfl ?_
 refine o_call (v := Value.tuple (List.toArray [Value.int .i64 ((meetR (0, 0) (2, 2) (0, 2) (2, 0)).1), Value.int .i64 ((meetR (0, 0) (2, 2) (0, 2) (2, 0)).2)])) (e_call (vals := [Value.agg (List.toArray [Value.int .i64 0, Value.int .i64 0]), Value.agg (List.toArray [Value.int .i64 2, Value.int .i64 2]), Value.agg (List.toArray [Value.int .i64 0, Value.int .i64 2]), Value.agg (List.toArray [Value.int .i64 2, Value.int .i64 0])]) Try.func15 bd15_gb nm15_gb rfl) (Meet_ok w15 (0, 0) (2, 2) (0, 2) (2, 0)) ?_
 intro w17 hb18
 replace hb18 := chg_below hb18 c0
 refine l_val (v := Value.tuple (List.toArray [Value.int .i64 ((meetR (0, 0) (2, 2) (0, 2) (2, 0)).1), Value.int .i64 ((meetR (0, 0) (2, 2) (0, 2) (2, 0)).2)])) rfl (e_move rfl) ?_
 refine l_val (v := Value.int .i64 ((meetR (0, 0) (2, 2) (0, 2) (2, 0)).1)) rfl (e_extract rfl rfl) ?_
 refine l_val (v := Value.int .i64 ((meetR (0, 0) (2, 2) (0, 2) (2, 0)).2)) rfl (e_extract rfl rfl) ?_
 refine l_val (v := Value.int .i64 ((meetR (0, 0) (2, 2) (0, 2) (2, 0)).1)) rfl (e_assign rfl) ?_
 refine l_val (v := Value.int .i64 ((meetR (0, 0) (2, 2) (0, 2) (2, 0)).2)) rfl (e_assign rfl) ?_
 refine l_nil (run_seq (run_region rfl (l_op rfl ?_)))
 refine o_call (v := Value.agg (List.toArray [Value.int .i64 0, Value.int .i64 0])) (e_call (vals := [Value.int .i64 0, Value.int .i64 0]) Try.func14 bd14_gb nm14_gb rfl) (pt_ok w17 0 0) ?_
 intro w19 hb20
 replace hb20 := chg_below hb20 c0
 refine l_op rfl ?_
 refine o_call (v := Value.agg (List.toArray [Value.int .i64 1, Value.int .i64 0])) (e_call (vals := [Value.int .i64 1, Value.int .i64 0]) Try.func14 bd14_gb nm14_gb rfl) (pt_ok w19 1 0) ?_
 intro w21 hb22
 replace hb22 := chg_below hb22 c0
 refine l_op rfl ?_
 refine o_call (v := Value.agg (List.toArray [Value.int .i64 0, Value.int .i64 1])) (e_call (vals := [Value.int .i64 0, Value.int .i64 1]) Try.func14 bd14_gb nm14_gb rfl) (pt_ok w21 0 1) ?_
 intro w23 hb24
 replace hb24 := chg_below hb24 c0
 refine l_op rfl ?_
 refine o_buildSlice (α := (Int) × (Int)) c0 (is 1) (is 1) (1, 0) rfl ([(1, 0), (0, 1)] : List ((Int) × (Int))) Try.underlying25 tp23_gb (by decide) (by decide) (vs := [(0, Value.agg (List.toArray [Value.int .i64 1, Value.int .i64 0])), (1, Value.agg (List.toArray [Value.int .i64 0, Value.int .i64 1]))]) rfl rfl (.cons rfl (.cons rfl .nil)) ?_
 intro g25 w26 v27 ch28 o29
 refine l_op rfl ?_
 refine o_inline (e_call (vals := [Value.agg (List.toArray [Value.int .i64 0, Value.int .i64 0]), v27]) Try.func18 bd18_gb nm18_gb rfl) ?_
 refine calls_of_run Try.func18 rfl (Nat.le_of_ble_eq_true rfl) ?_
 refine run_seq (run_region rfl (l_op rfl ?_))
 refine o_box g25 (is 2) (2, 0) rfl rfl ?_
 intro g33 w30 b32 ch31 bx34
 replace bx34 : Bx g33 (is 2) w30 b32 [Value.int .i64 0, Value.int .i64 0] := bx34
 refine l_op rfl ?_
 replace o29 := o29.chg ch31 (not_no _) (not_no _)
 have hc40 := sl_cells1 o29.flat
 refine o_box (v := v27) g33 (is 3) (3, 0) rfl rfl ?_
 intro g38 w35 b37 ch36 bx39
 rw [hc40] at bx39
 replace bx39 : Bx g38 (is 3) w35 b37 [v27] := bx39
 refine l_val (v := Value.slice none 0 0) rfl (e_assign rfl) ?_
 refine l_val (v := Value.int .i64 0) rfl (e_assign rfl) ?_
 refine l_nil (run_seq (run_seq (run_region rfl ?_)))
 replace bx34 := bx34.chg ch36 (not_no _)
 refine l_val (v := Value.agg (List.toArray [Value.int .i64 0, Value.int .i64 0])) rfl (e_load_bxN (ds := [Value.int .i64 0, Value.int .i64 0]) tp23_gb rfl bx34 rfl rfl) ?_
 refine l_op rfl ?_
 refine o_buildSlice (α := (Int) × (Int)) g38 (is 4) (is 4) (4, 0) rfl ([(0, 0)] : List ((Int) × (Int))) Try.underlying25 tp23_gb (by decide) (by decide) (vs := [(0, Value.agg (List.toArray [Value.int .i64 0, Value.int .i64 0]))]) rfl rfl (.cons rfl .nil) ?_
 intro g41 w42 v43 ch44 o45
 refine l_op rfl ?_
 refine o_call (v := Value.bool (decide (okL ([(0, 0)] : List ((Int) × (Int)))))) (e_call (vals := [v43]) Try.func25 bd25_gb nm25_gb rfl) (GMay_ok w42 ([(0, 0)] : List ((Int) × (Int))) v43 (o45.flat).ro) ?_
 intro w46 hb47
 replace hb47 := chg_below hb47 g41
 refine l_val (v := Value.bool (!(decide (okL ([(0, 0)] : List ((Int) × (Int))))))) rfl (e_not (b := (decide (okL ([(0, 0)] : List ((Int) × (Int)))))) rfl) ?_
 refine l_val (v := Value.bool (!(decide (okL ([(0, 0)] : List ((Int) × (Int))))))) rfl (e_move rfl) ?_
 have q13_c1 : (decide (okL ([(0, 0)] : List ((Int) × (Int))))) = true := by decide
 replace bx39 := (bx39.chg ch44 (not_no _)).chg hb47 (not_no _)
 refine l_val (v := v27) (want_y rfl rfl rfl (congrArg Bool.not q13_c1)) (e_load_bx1 tp25_gb rfl bx39 rfl) ?_
 have C48 : Chg (inl []) _ _ _ _ := (ch36.n).seq ((ch44.n).seq (hb47.n))
 replace o29 := o29.chg C48 (is_nl rfl) (is_nl rfl)
 refine l_op (want_y rfl rfl rfl (congrArg Bool.not q13_c1)) ?_
 refine o_call (v := Value.bool (decide (okL ([(1, 0), (0, 1)] : List ((Int) × (Int)))))) (e_call (vals := [v27]) Try.func25 bd25_gb nm25_gb rfl) (GMay_ok w46 ([(1, 0), (0, 1)] : List ((Int) × (Int))) v27 (o29.flat).ro) ?_
 intro w49 hb50
 replace hb50 := chg_below hb50 g41
 refine l_val (v := Value.bool (!(decide (okL ([(1, 0), (0, 1)] : List ((Int) × (Int))))))) (want_y rfl rfl rfl (congrArg Bool.not q13_c1)) (e_not (b := (decide (okL ([(1, 0), (0, 1)] : List ((Int) × (Int)))))) rfl) ?_
 refine l_val (v := Value.bool (!(decide (okL ([(1, 0), (0, 1)] : List ((Int) × (Int))))))) rfl (e_pick_f rfl (congrArg Bool.not q13_c1) rfl) ?_
 refine l_nil ?_
 have p1_c1 : (decide (okL ([(1, 0), (0, 1)] : List ((Int) × (Int))))) = true := by decide
 refine run_cond_f rfl (congrArg Bool.not p1_c1) ?_
 refine run_skip ?_
 refine run_seq ?_
 clear o45
 refine run_region rfl ?_
 refine l_val (v := Value.slice none 0 0) rfl (e_assign rfl) ?_
 refine l_nil (run_seq (run_seq (run_region rfl ?_)))
 replace bx39 := bx39.chg hb50 (not_no _)
 refine l_val (v := v27) rfl (e_load_bx1 tp25_gb rfl bx39 rfl) ?_
 replace o29 := o29.chg hb50 (not_no _) (not_no _)
 have len51 := (o29.flat).small
 refine l_val (v := Value.int .i64 2) rfl (e_len (α := (Int) × (Int)) (xs := ([(1, 0), (0, 1)] : List ((Int) × (Int)))) Try.underlying25 rfl o29.flat) ?_
 refine l_val (v := Value.int .i64 0) rfl (e_move rfl) ?_
 refine l_nil ?_
 refine run_block ?_
 refine run_loop0 ?_
 refine run_seq (run_region rfl ?_)
 refine l_val (v := Value.bool true) rfl (e_lss (m := 0) (n := 2) rfl rfl) ?_
 refine l_nil (run_seq ?_)
 refine run_cond_t rfl rfl ?_
 refine run_skip ?_
 refine run_seq ?_
 refine run_block ?_
 refine run_seq (run_region rfl ?_)
 refine l_val (v := Value.int .i64 0) rfl (e_move rfl) ?_
 refine l_val (v := Value.pointer (some (eAddr v27 2 (Int.toNat 0)))) rfl (e_indexAddr (α := (Int) × (Int)) (xs := ([(1, 0), (0, 1)] : List ((Int) × (Int)))) (v := v27) (i := 0) Try.underlying25 rfl rfl o29.flat rfl (by omega) (by first | omega | (simp only [List.length_set, List.length_append, List.length_cons, List.length_nil, List.length_replicate, List.length_map, List.length_take, List.length_drop]; omega) | (simp; done) | (simp; omega))) ?_
 refine l_val (v := Value.agg (List.toArray [Value.int .i64 1, Value.int .i64 0])) rfl (e_load_elN (α := (Int) × (Int)) (xs := ([(1, 0), (0, 1)] : List ((Int) × (Int)))) (v := v27) (i := 0) tp23_gb rfl o29.flat (by omega) (by first | omega | (simp only [List.length_set, List.length_append, List.length_cons, List.length_nil, List.length_replicate, List.length_map, List.length_take, List.length_drop]; omega) | (simp; done) | (simp; omega)) rfl) ?_
 refine l_op rfl ?_
 refine o_alloc g41 (is 5) (5, 0) rfl tp23_gb ?_
 intro g55 w52 b54 ch53 bx56
 replace bx56 : Bx g55 (is 5) w52 b54 [Value.int .i64 0, Value.int .i64 0] := bx56
 refine l_val (v := Value.int .i64 0) rfl (e_assign rfl) ?_
 refine l_op rfl ?_
 refine o_store_bx (cs' := [Value.int .i64 1, Value.int .i64 0]) tp23_gb rfl rfl bx56 rfl (Nat.le_of_ble_eq_true rfl) (AllOne.all (.cons rfl (.cons rfl .nil))) rfl ?_
 intro w57 ch58 bx59
 clear bx56
 refine l_nil (run_seq (run_seq (run_region rfl ?_)))
 refine l_val (v := Value.agg (List.toArray [Value.int .i64 1, Value.int .i64 0])) rfl (e_load_bxN (ds := [Value.int .i64 1, Value.int .i64 0]) tp23_gb rfl bx59 rfl rfl) ?_
 have C60 : Chg (inl [5]) _ _ _ _ := (ch44.n).seq ((hb47.n).seq ((hb50.n).seq ((ch53.n).seq (ch58.l rfl))))
 replace bx34 := bx34.chg C60 (is_nl rfl)
 refine l_val (v := Value.agg (List.toArray [Value.int .i64 0, Value.int .i64 0])) rfl (e_load_bxN (ds := [Value.int .i64 0, Value.int .i64 0]) tp23_gb rfl bx34 rfl rfl) ?_
 refine l_val (v := Value.bool (decide ((1, 0) = (0, 0)))) rfl (e_eql_struct (bs := [decide (1 = 0), decide (0 = 0)]) Try.underlying23 (by kernel_rfl) (by kernel_rfl) rfl rfl (.cons (by decide +kernel) tp3_gb rfl rfl (.int Try.underlying3) (.cons (by decide +kernel) tp3_gb rfl rfl (.int Try.underlying3) .nil)) (by simp [Prod.ext_iff, Bool.decide_and, Bool.and_assoc])) ?_
 refine l_nil ?_
 have p7_c1 : ¬ ((1, 0) = (0, 0)) := by decide
 refine run_cond_f rfl (decide_eq_false p7_c1) ?_
 refine run_skip ?_
 clear bx59
 refine run_region rfl ?_
 refine l_val (v := Value.slice none 0 0) rfl (e_move rfl) ?_
 refine l_val (v := Value.int .i64 0) rfl (e_move rfl) ?_
 refine l_op rfl ?_
 refine o_buildSlice (α := Int) g55 (is 6) (is 6) (6, 0) rfl ([0] : List Int) Try.underlying34 tp3_gb (by decide) (by decide) (vs := [(0, Value.int .i64 0)]) rfl rfl (.cons rfl .nil) ?_
 intro g61 w62 v63 ch64 o65
 refine l_op rfl ?_
 refine o_append (α := Int) (xs := ([])) (ys := ([0] : List Int)) g61 (J := is 7) (S := is 7) (7, 0) rfl Try.underlying34 tp3_gb (by decide) rfl rfl rfl Ow.nil o65.flat (by decide) (by first | omega | (simp; done) | (simp; omega)) ?_
 intro g66 w67 v68 ch69 o70
 replace o70 : Ow g66 (is 7) (is 7) w67 v68 ([0] : List Int) := o70
 replace o70 : Ow g66 (is 7) (is 7) w67 v68 (([0] : List Int) : List Int) := o70
 refine l_val (v := v68) rfl (e_assign rfl) ?_
 refine l_nil ?_
 refine run_inBlock ?_
 clear o65
 refine run_region rfl ?_
 refine l_val (v := Value.int .i64 1) rfl (e_add (m := 0) (n := 1) rfl rfl (by omega)) ?_
 refine l_val (v := Value.int .i64 1) rfl (e_move rfl) ?_
 refine l_nil ?_
 refine run_inLoop ?_
 refine run_seq (run_region rfl ?_)
 refine l_val (v := Value.bool true) rfl (e_lss (m := 1) (n := 2) rfl rfl) ?_
 refine l_nil (run_seq ?_)
 refine run_cond_t rfl rfl ?_
 refine run_skip ?_
 refine run_seq ?_
 refine run_block ?_
 refine run_seq (run_region rfl ?_)
 refine l_val (v := Value.int .i64 1) rfl (e_move rfl) ?_
 have C71 : Chg (inl [5, 7]) _ _ _ _ := (ch53.n).seq ((ch58.l rfl).seq ((ch64.n).seq (ch69.l rfl)))
 replace o29 := o29.chg C71 (is_nl rfl) (is_nl rfl)
 refine l_val (v := Value.pointer (some (eAddr v27 2 (Int.toNat 1)))) rfl (e_indexAddr (α := (Int) × (Int)) (xs := ([(1, 0), (0, 1)] : List ((Int) × (Int)))) (v := v27) (i := 1) Try.underlying25 rfl rfl o29.flat rfl (by omega) (by first | omega | (simp only [List.length_set, List.length_append, List.length_cons, List.length_nil, List.length_replicate, List.length_map, List.length_take, List.length_drop]; omega) | (simp; done) | (simp; omega))) ?_
 refine l_val (v := Value.agg (List.toArray [Value.int .i64 0, Value.int .i64 1])) rfl (e_load_elN (α := (Int) × (Int)) (xs := ([(1, 0), (0, 1)] : List ((Int) × (Int)))) (v := v27) (i := 1) tp23_gb rfl o29.flat (by omega) (by first | omega | (simp only [List.length_set, List.length_append, List.length_cons, List.length_nil, List.length_replicate, List.length_map, List.length_take, List.length_drop]; omega) | (simp; done) | (simp; omega)) rfl) ?_
 refine l_op rfl ?_
 refine o_alloc g66 (is 5) (5, 0) rfl tp23_gb ?_
 intro g75 w72 b74 ch73 bx76
 replace bx76 : Bx g75 (is 5) w72 b74 [Value.int .i64 0, Value.int .i64 0] := bx76
 refine l_val (v := Value.int .i64 1) rfl (e_assign rfl) ?_
 refine l_op rfl ?_
 refine o_store_bx (cs' := [Value.int .i64 0, Value.int .i64 1]) tp23_gb rfl rfl bx76 rfl (Nat.le_of_ble_eq_true rfl) (AllOne.all (.cons rfl (.cons rfl .nil))) rfl ?_
 intro w77 ch78 bx79
 clear bx76
 refine l_nil (run_seq (run_seq (run_region rfl ?_)))
 refine l_val (v := Value.agg (List.toArray [Value.int .i64 0, Value.int .i64 1])) rfl (e_load_bxN (ds := [Value.int .i64 0, Value.int .i64 1]) tp23_gb rfl bx79 rfl rfl) ?_
 have C80 : Chg (inl [5, 7]) _ _ _ _ := (ch64.n).seq ((ch69.l rfl).seq ((ch73.n).seq (ch78.l rfl)))
 replace bx34 := bx34.chg C80 (is_nl rfl)
 refine l_val (v := Value.agg (List.toArray [Value.int .i64 0, Value.int .i64 0])) rfl (e_load_bxN (ds := [Value.int .i64 0, Value.int .i64 0]) tp23_gb rfl bx34 rfl rfl) ?_
 refine l_val (v := Value.bool (decide ((0, 1) = (0, 0)))) rfl (e_eql_struct (bs := [decide (0 = 0), decide (1 = 0)]) Try.underlying23 (by kernel_rfl) (by kernel_rfl) rfl rfl (.cons (by decide +kernel) tp3_gb rfl rfl (.int Try.underlying3) (.cons (by decide +kernel) tp3_gb rfl rfl (.int Try.underlying3) .nil)) (by simp [Prod.ext_iff, Bool.decide_and, Bool.and_assoc])) ?_
 refine l_nil ?_
 have p7_c1_81 : ¬ ((0, 1) = (0, 0)) := by decide
 refine run_cond_f rfl (decide_eq_false p7_c1_81) ?_
 refine run_skip ?_
 clear bx79
 refine run_region rfl ?_
 refine l_val (v := v68) rfl (e_move rfl) ?_
 refine l_val (v := Value.int .i64 1) rfl (e_move rfl) ?_
 refine l_op rfl ?_
 refine o_buildSlice (α := Int) g75 (is 6) (is 6) (6, 0) rfl ([1] : List Int) Try.underlying34 tp3_gb (by decide) (by decide) (vs := [(0, Value.int .i64 1)]) rfl rfl (.cons rfl .nil) ?_
 intro g82 w83 v84 ch85 o86
 refine l_op rfl ?_
 have C87 : Chg (inl [5]) _ _ _ _ := (ch73.n).seq ((ch78.l rfl).seq (ch85.n))
 replace o70 := o70.chg C87 (is_nl rfl) (is_nl rfl)
 refine o_append (α := Int) (xs := ([0] : List Int)) (ys := ([1] : List Int)) g82 (J := is 7) (S := is 7) (7, 0) rfl Try.underlying34 tp3_gb (by decide) rfl rfl rfl o70 o86.flat (by decide) (by first | omega | (simp; done) | (simp; omega)) ?_
 intro g88 w89 v90 ch91 o92
 clear o70
 replace o92 : Ow g88 (is 7) (is 7) w89 v90 ([0, 1] : List Int) := o92
 refine l_val (v := v90) rfl (e_assign rfl) ?_
 refine l_nil ?_
 refine run_inBlock ?_
 clear o86
 refine run_region rfl ?_
 refine l_val (v := Value.int .i64 2) rfl (e_add (m := 1) (n := 1) rfl rfl (by omega)) ?_
 refine l_val (v := Value.int .i64 2) rfl (e_move rfl) ?_
 refine l_nil ?_
 refine run_inLoop ?_
 refine run_seq (run_region rfl ?_)
 refine l_val (v := Value.bool false) rfl (e_lss (m := 2) (n := 2) rfl rfl) ?_
 refine l_nil (run_seq ?_)
 refine run_cond_f rfl rfl ?_
 refine run_exit rfl ?_
 refine run_seq (run_region rfl ?_)
 refine l_val (v := v90) rfl (e_move rfl) ?_
 refine l_val (v := Value.func (.func 39) #[] (List.toArray [Value.pointer (some ⟨b37, 0, none⟩), Value.pointer (some ⟨b32, 0, none⟩)])) rfl (e_makeFunc (vals := [Value.pointer (some ⟨b37, 0, none⟩), Value.pointer (some ⟨b32, 0, none⟩)]) rfl) ?_
 refine l_op rfl ?_
 refine o_inline (e_call (vals := [v90, Value.func (.func 39) #[] (List.toArray [Value.pointer (some ⟨b37, 0, none⟩), Value.pointer (some ⟨b32, 0, none⟩)])]) Try.func38 bd38_gb nm38_gb rfl) ?_
 refine calls_of_run Try.func38 rfl (Nat.le_of_ble_eq_true rfl) ?_
 refine run_seq (run_region rfl ?_)
 refine l_val (v := v90) rfl (e_move rfl) ?_
 have len93 := (o92.flat).small
 refine l_val (v := Value.int .i64 2) rfl (e_len (α := Int) (xs := ([0, 1] : List Int)) Try.underlying34 rfl o92.flat) ?_
 refine l_val (v := Value.int .i64 2) rfl (e_assign rfl) ?_
 refine l_nil (run_region rfl ?_)
 refine l_val (v := v90) rfl (e_move rfl) ?_
 refine l_val (v := Value.int .i64 2) rfl (e_move rfl) ?_
 refine l_val (v := Value.int .i64 2) rfl (e_move rfl) ?_
 refine l_val (v := Value.int .u64 2) rfl (e_conv (m := 2) Try.underlying3 Try.underlying76 rfl (by decide)) ?_
 refine l_op rfl ?_
 refine o_inline (e_call (vals := [Value.int .u64 2]) Try.func58 bd58_gb nm58_gb rfl) ?_
 refine calls_of_run Try.func58 rfl (Nat.le_of_ble_eq_true rfl) ?_
 refine run_seq (run_region rfl ?_)
 refine l_val (v := Value.int .i64 0) rfl (e_assign rfl) ?_
 refine l_nil (run_seq ?_)
 refine run_cond_f rfl rfl ?_
 refine run_skip ?_
 refine run_seq (run_region rfl ?_)
 refine l_val (v := Value.int .u64 2) rfl (e_move rfl) ?_
 refine l_op rfl ?_
 refine o_inline (e_call (vals := [Value.int .u64 2]) Try.func73 bd73_gb nm73_gb rfl) ?_
 refine calls_of_run Try.func73 rfl (Nat.le_of_ble_eq_true rfl) ?_
 refine run_seq (run_region rfl ?_)
 refine l_val (v := Value.int .i64 0) rfl (e_assign rfl) ?_
 refine l_nil (run_seq (run_seq (run_region rfl ?_)))
 refine l_val (v := Value.int .u64 2) rfl (e_move rfl) ?_
 refine l_val (v := Value.bool false) rfl (e_geq (m := 2) (n := 4294967296) rfl rfl) ?_
 refine l_nil ?_
 refine run_cond_f rfl rfl ?_
 refine run_skip ?_
 refine run_seq (run_seq (run_region rfl ?_))
 refine l_val (v := Value.int .u64 2) rfl (e_move rfl) ?_
 refine l_val (v := Value.bool false) rfl (e_geq (m := 2) (n := 65536) rfl rfl) ?_
 refine l_nil ?_
 refine run_cond_f rfl rfl ?_
 refine run_skip ?_
 refine run_seq (run_seq (run_region rfl ?_))
 refine l_val (v := Value.int .u64 2) rfl (e_move rfl) ?_
 refine l_val (v := Value.bool false) rfl (e_geq (m := 2) (n := 256) rfl rfl) ?_
 refine l_nil ?_
 refine run_cond_f rfl rfl ?_
 refine run_skip ?_
 refine run_seq (run_region rfl ?_)
 refine l_val (v := Value.int .i64 0) rfl (e_move rfl) ?_
 refine l_val (v := Value.int .u64 2) rfl (e_move rfl) ?_
 refine l_val (v := Value.int .u8 2) rfl (e_conv (m := 2) Try.underlying89 Try.underlying5 rfl (by decide)) ?_
 refine l_val (v := Value.int .u8 2) rfl (e_index_str (i := 2) (r := 2) (b := 2) Try.underlying9 rfl rfl (by decide) (by decide +kernel) (by decide)) ?_
 refine l_val (v := Value.int .i64 2) rfl (e_conv (m := 2) Try.underlying5 Try.underlying3 rfl (by decide)) ?_
 refine l_val (v := Value.int .i64 2) rfl (e_add (m := 0) (n := 2) rfl rfl (by omega)) ?_
 refine l_val (v := Value.int .i64 2) rfl (e_assign rfl) ?_
 refine l_nil ?_
 refine run_ret (vs := [Value.int .i64 2]) Try.func73 (.tmp rfl .nil) ?_
 refine ⟨Value.int .i64 2, rfl, ?_⟩
 refine l_val (v := Value.int .i64 2) rfl (e_assign rfl) ?_
 refine l_nil ?_
 refine run_ret (vs := [Value.int .i64 2]) Try.func58 (.tmp rfl .nil) ?_
 refine ⟨Value.int .i64 2, rfl, ?_⟩
 refine l_val (v := Value.func (.func 39) #[] (List.toArray [Value.pointer (some ⟨b37, 0, none⟩), Value.pointer (some ⟨b32, 0, none⟩)])) rfl (e_move rfl) ?_
 refine l_op rfl ?_
 refine o_inline (e_call (vals := [v90, Value.int .i64 0, Value.int .i64 2, Value.int .i64 2, Value.func (.func 39) #[] (List.toArray [Value.pointer (some ⟨b37, 0, none⟩), Value.pointer (some ⟨b32, 0, none⟩)])]) Try.func57 bd57_gb nm57_gb rfl) ?_
 refine calls_of_run Try.func57 rfl (Nat.le_of_ble_eq_true rfl) ?_
 refine run_seq (run_region rfl ?_)
 refine l_val (v := Value.bool true) rfl (e_assign rfl) ?_
 refine l_nil (run_seq (run_region rfl ?_))
 refine l_val (v := Value.bool true) rfl (e_assign rfl) ?_
 refine l_nil ?_
 refine run_block ?_
 refine run_loop0 ?_
 refine run_block ?_
 refine run_seq (run_region rfl ?_)
 refine l_val (v := Value.int .i64 2) rfl (e_move rfl) ?_
 refine l_val (v := Value.int .i64 0) rfl (e_move rfl) ?_
 refine l_val (v := Value.int .i64 2) rfl (e_sub (m := 2) (n := 0) rfl rfl (by omega)) ?_
 refine l_val (v := Value.int .i64 2) rfl (e_assign rfl) ?_
 refine l_nil (run_seq (run_seq (run_region rfl ?_)))
 refine l_val (v := Value.int .i64 2) rfl (e_move rfl) ?_
 refine l_val (v := Value.bool true) rfl (e_leq (m := 2) (n := 12) rfl rfl) ?_
 refine l_nil ?_
 refine run_cond_t rfl rfl ?_
 refine run_seq (run_region rfl ?_)
 refine l_val (v := v90) rfl (e_move rfl) ?_
 refine l_val (v := Value.int .i64 0) rfl (e_move rfl) ?_
 refine l_val (v := Value.int .i64 2) rfl (e_move rfl) ?_
 refine l_val (v := Value.func (.func 39) #[] (List.toArray [Value.pointer (some ⟨b37, 0, none⟩), Value.pointer (some ⟨b32, 0, none⟩)])) rfl (e_move rfl) ?_
 refine l_op rfl ?_
 refine o_inline (e_call (vals := [v90, Value.int .i64 0, Value.int .i64 2, Value.func (.func 39) #[] (List.toArray [Value.pointer (some ⟨b37, 0, none⟩), Value.pointer (some ⟨b32, 0, none⟩)])]) Try.func64 bd64_gb nm64_gb rfl) ?_
 refine calls_of_run Try.func64 rfl (Nat.le_of_ble_eq_true rfl) ?_
 refine run_seq (run_region rfl ?_)
 refine l_val (v := Value.int .i64 0) rfl (e_move rfl) ?_
 refine l_val (v := Value.int .i64 1) rfl (e_add (m := 0) (n := 1) rfl rfl (by omega)) ?_
 refine l_val (v := Value.int .i64 1) rfl (e_assign rfl) ?_
 refine l_nil ?_
 refine run_block ?_
 refine run_loop0 ?_
 refine run_seq (run_seq (run_region rfl ?_))
 refine l_val (v := Value.int .i64 1) rfl (e_move rfl) ?_
 refine l_val (v := Value.int .i64 2) rfl (e_move rfl) ?_
 refine l_val (v := Value.bool true) rfl (e_lss (m := 1) (n := 2) rfl rfl) ?_
 refine l_nil ?_
 refine run_cond_t rfl rfl ?_
 refine run_skip ?_
 refine run_seq ?_
 refine run_block ?_
 refine run_seq (run_region rfl ?_)
 refine l_val (v := Value.int .i64 1) rfl (e_move rfl) ?_
 refine l_val (v := Value.int .i64 1) rfl (e_assign rfl) ?_
 refine l_nil ?_
 refine run_block ?_
 refine run_loop0 ?_
 refine run_seq (run_seq ?_)
 refine run_region_x g88 [0, 1, 2, 3, 4, 5, 6, 7, 8, 9, 10, 11, 12, 13, 15, 16] mixed_gb ?_
 intro w95 ch94
 refine x_pure (v := Value.int .i64 1) 0 rfl (by kernel_rfl) (by kernel_rfl) rfl (fun w => e_move rfl) ?_
 refine x_pure (v := Value.int .i64 0) 1 rfl (by kernel_rfl) (by kernel_rfl) rfl (fun w => e_move rfl) ?_
 refine x_pure (v := Value.bool true) 2 rfl (by kernel_rfl) (by kernel_rfl) rfl (fun w => e_gtr (m := 1) (n := 0) rfl rfl) ?_
 refine x_pure (v := Value.bool true) 3 rfl (by kernel_rfl) (by kernel_rfl) rfl (fun w => e_move rfl) ?_
 refine x_pure (v := Value.func (.func 39) #[] (List.toArray [Value.pointer (some ⟨b37, 0, none⟩), Value.pointer (some ⟨b32, 0, none⟩)])) 4 rfl (by kernel_rfl) (by kernel_rfl) (want_y rfl rfl rfl rfl) (fun w => e_move rfl) ?_
 refine x_pure (v := v90) 5 rfl (by kernel_rfl) (by kernel_rfl) (want_y rfl rfl rfl rfl) (fun w => e_move rfl) ?_
 refine x_pure (v := Value.int .i64 1) 6 rfl (by kernel_rfl) (by kernel_rfl) (want_y rfl rfl rfl rfl) (fun w => e_move rfl) ?_
 replace o92 := o92.chg ch94 (not_no _) (not_no _)
 refine x_val (v := Value.pointer (some (eAddr v90 1 (Int.toNat 1)))) 7 [6, 5, 4, 3, 2, 1, 0, 9, 10, 11, 12, 13] rfl (by kernel_rfl) (by kernel_rfl) (want_y rfl rfl rfl rfl) (e_indexAddr (α := Int) (xs := ([0, 1] : List Int)) (v := v90) (i := 1) Try.underlying34 rfl rfl o92.flat rfl (by omega) (by first | omega | (simp only [List.length_set, List.length_append, List.length_cons, List.length_nil, List.length_replicate, List.length_map, List.length_take, List.length_drop]; omega) | (simp; done) | (simp; omega))) ?_
 refine x_val (v := Value.int .i64 1) 8 [7, 6, 5, 4, 3, 2, 1, 0, 9, 10, 11, 12, 13] rfl (by kernel_rfl) (by kernel_rfl) (want_y rfl rfl rfl rfl) (e_load_el1 (α := Int) (xs := ([0, 1] : List Int)) (v := v90) (i := 1) tp3_gb rfl o92.flat (by omega) (by first | omega | (simp only [List.length_set, List.length_append, List.length_cons, List.length_nil, List.length_replicate, List.length_map, List.length_take, List.length_drop]; omega) | (simp; done) | (simp; omega)) (by decide) rfl) ?_
 refine x_pure (v := v90) 9 rfl (by kernel_rfl) (by kernel_rfl) (want_y rfl rfl rfl rfl) (fun w => e_move rfl) ?_
 refine x_pure (v := Value.int .i64 1) 10 rfl (by kernel_rfl) (by kernel_rfl) (want_y rfl rfl rfl rfl) (fun w => e_move rfl) ?_
 refine x_pure (v := Value.int .i64 0) 11 rfl (by kernel_rfl) (by kernel_rfl) (want_y rfl rfl rfl rfl) (fun w => e_sub (m := 1) (n := 1) rfl rfl (by omega)) ?_
 refine x_val (v := Value.pointer (some (eAddr v90 1 (Int.toNat 0)))) 12 [11, 10, 9, 8, 7, 6, 5, 4, 3, 2, 1, 0] rfl (by kernel_rfl) (by kernel_rfl) (want_y rfl rfl rfl rfl) (e_indexAddr (α := Int) (xs := ([0, 1] : List Int)) (v := v90) (i := 0) Try.underlying34 rfl rfl o92.flat rfl (by omega) (by first | omega | (simp only [List.length_set, List.length_append, List.length_cons, List.length_nil, List.length_replicate, List.length_map, List.length_take, List.length_drop]; omega) | (simp; done) | (simp; omega))) ?_
 refine x_val (v := Value.int .i64 0) 13 [12, 11, 10, 9, 8, 7, 6, 5, 4, 3, 2, 1, 0] rfl (by kernel_rfl) (by kernel_rfl) (want_y rfl rfl rfl rfl) (e_load_el1 (α := Int) (xs := ([0, 1] : List Int)) (v := v90) (i := 0) tp3_gb rfl o92.flat (by omega) (by first | omega | (simp only [List.length_set, List.length_append, List.length_cons, List.length_nil, List.length_replicate, List.length_map, List.length_take, List.length_drop]; omega) | (simp; done) | (simp; omega)) (by decide) rfl) ?_
 refine x_one 14 rfl (by kernel_rfl) (want_y rfl rfl rfl rfl) ?_
 refine o_inline (e_callc (fid := 39) (vals := [Value.int .i64 1, Value.int .i64 0]) (caps := [Value.pointer (some ⟨b37, 0, none⟩), Value.pointer (some ⟨b32, 0, none⟩)]) rfl Try.func39 bd39_gb nm39_gb rfl) ?_
 refine calls_of_run Try.func39 rfl (Nat.le_of_ble_eq_true rfl) ?_
 refine run_seq (run_region rfl ?_)
 refine l_val (v := Value.int .i64 0) rfl (e_assign rfl) ?_
 refine l_nil (run_seq ?_)
 refine region_midh (σ := Nat × Nat × Cmap) (fun ⟨b109, b115, gq⟩ f w => Base w0 gq w ∧ f 0 = Value.int .i64 1 ∧ f 1 = Value.int .i64 0 ∧ f 7 = Value.pointer (some ⟨b109, 0, none⟩) ∧ f 8 = Value.pointer (some ⟨b115, 0, none⟩) ∧ Ow gq (is 1) (is 1) w v27 ([(1, 0), (0, 1)] : List ((Int) × (Int))) ∧ Bx gq (is 2) w b32 [Value.int .i64 0, Value.int .i64 0] ∧ Bx gq (is 3) w b37 [v27] ∧ Ow gq (is 7) (is 7) w v90 ([0, 1] : List Int) ∧ Bx gq (is 8) w b109 [Value.int .i64 ((mns (0, 1) (0, 0)).1), Value.int .i64 ((mns (0, 1) (0, 0)).2)] ∧ Bx gq (is 9) w b115 [Value.int .i64 ((mns (1, 0) (0, 0)).1), Value.int .i64 ((mns (1, 0) (0, 0)).2)]) g88 (inl [8, 9]) mixed_gb ?_ ?_
 ·
  intro mid
  intro w97 ch96
  have C98 : Chg (inl [5, 7]) _ _ _ _ := (ch53.n).seq ((ch58.l rfl).seq ((ch64.n).seq ((ch69.l rfl).seq ((ch73.n).seq ((ch78.l rfl).seq ((ch85.n).seq ((ch91.l rfl).seq ((ch94.n).seq (ch96.n)))))))))
  replace bx39 := bx39.chg C98 (is_nl rfl)
  refine h_take (v := v27) 0 rfl (by kernel_rfl) (by kernel_rfl) rfl (Chg.refl _ _ _) (fun w' hw' => e_load_bx1 tp25_gb rfl (bx39.chg hw' (is_nl rfl)) rfl) ?_
  refine h_take (v := Value.int .i64 1) 1 rfl (by kernel_rfl) (by kernel_rfl) rfl (Chg.refl _ _ _) (fun w' hw' => e_move rfl) ?_
  have C99 : Chg (inl [5, 7]) _ _ _ _ := (ch73.n).seq ((ch78.l rfl).seq ((ch85.n).seq ((ch91.l rfl).seq ((ch94.n).seq (ch96.n)))))
  replace o29 := o29.chg C99 (is_nl rfl) (is_nl rfl)
  refine h_take (v := Value.pointer (some (eAddr v27 2 (Int.toNat 1)))) 2 rfl (by kernel_rfl) (by kernel_rfl) rfl (Chg.refl _ _ _) (fun w' hw' => e_indexAddr (α := (Int) × (Int)) (xs := ([(1, 0), (0, 1)] : List ((Int) × (Int)))) (v := v27) (i := 1) Try.underlying25 rfl rfl (o29.flat.chg hw' (is_nl rfl)) rfl (by omega) (by first | omega | (simp only [List.length_set, List.length_append, List.length_cons, List.length_nil, List.length_replicate, List.length_map, List.length_take, List.length_drop]; omega) | (simp; done) | (simp; omega))) ?_
  refine h_take (v := Value.agg (List.toArray [Value.int .i64 0, Value.int .i64 1])) 3 rfl (by kernel_rfl) (by kernel_rfl) rfl (Chg.refl _ _ _) (fun w' hw' => e_load_elN (α := (Int) × (Int)) (xs := ([(1, 0), (0, 1)] : List ((Int) × (Int)))) (v := v27) (i := 1) tp23_gb rfl (o29.flat.chg hw' (is_nl rfl)) (by omega) (by first | omega | (simp only [List.length_set, List.length_append, List.length_cons, List.length_nil, List.length_replicate, List.length_map, List.length_take, List.length_drop]; omega) | (simp; done) | (simp; omega)) rfl) ?_
  have C100 : Chg (inl [7]) _ _ _ _ := (ch85.n).seq ((ch91.l rfl).seq ((ch94.n).seq (ch96.n)))
  replace bx34 := bx34.chg C100 (is_nl rfl)
  refine h_take (v := Value.agg (List.toArray [Value.int .i64 0, Value.int .i64 0])) 4 rfl (by kernel_rfl) (by kernel_rfl) rfl (Chg.refl _ _ _) (fun w' hw' => e_load_bxN (ds := [Value.int .i64 0, Value.int .i64 0]) tp23_gb rfl (bx34.chg hw' (is_nl rfl)) rfl rfl) ?_
  refine h_take (v := v27) 6 rfl (by kernel_rfl) (by kernel_rfl) rfl (Chg.refl _ _ _) (fun w' hw' => e_load_bx1 tp25_gb rfl (bx39.chg hw' (is_nl rfl)) rfl) ?_
  refine h_take (v := Value.int .i64 0) 7 rfl (by kernel_rfl) (by kernel_rfl) rfl (Chg.refl _ _ _) (fun w' hw' => e_move rfl) ?_
  refine h_take (v := Value.pointer (some (eAddr v27 2 (Int.toNat 0)))) 8 rfl (by kernel_rfl) (by kernel_rfl) rfl (Chg.refl _ _ _) (fun w' hw' => e_indexAddr (α := (Int) × (Int)) (xs := ([(1, 0), (0, 1)] : List ((Int) × (Int)))) (v := v27) (i := 0) Try.underlying25 rfl rfl (o29.flat.chg hw' (is_nl rfl)) rfl (by omega) (by first | omega | (simp only [List.length_set, List.length_append, List.length_cons, List.length_nil, List.length_replicate, List.length_map, List.length_take, List.length_drop]; omega) | (simp; done) | (simp; omega))) ?_
  refine h_take (v := Value.agg (List.toArray [Value.int .i64 1, Value.int .i64 0])) 9 rfl (by kernel_rfl) (by kernel_rfl) rfl (Chg.refl _ _ _) (fun w' hw' => e_load_elN (α := (Int) × (Int)) (xs := ([(1, 0), (0, 1)] : List ((Int) × (Int)))) (v := v27) (i := 0) tp23_gb rfl (o29.flat.chg hw' (is_nl rfl)) (by omega) (by first | omega | (simp only [List.length_set, List.length_append, List.length_cons, List.length_nil, List.length_replicate, List.length_map, List.length_take, List.length_drop]; omega) | (simp; done) | (simp; omega)) rfl) ?_
  refine h_take (v := Value.agg (List.toArray [Value.int .i64 0, Value.int .i64 0])) 10 rfl (by kernel_rfl) (by kernel_rfl) rfl (Chg.refl _ _ _) (fun w' hw' => e_load_bxN (ds := [Value.int .i64 0, Value.int .i64 0]) tp23_gb rfl (bx34.chg hw' (is_nl rfl)) rfl rfl) ?_
  refine h_many 5 [12, 13] (by kernel_rfl) ⟨h_of 5 rfl (by kernel_rfl) rfl ?_, h_of 12 rfl (by kernel_rfl) rfl ?_, h_of 13 rfl (by kernel_rfl) rfl ?_, trivial⟩
  ·
   refine o_call (v := Value.agg (List.toArray [Value.int .i64 ((mns (0, 1) (0, 0)).1), Value.int .i64 ((mns (0, 1) (0, 0)).2)])) (e_call (vals := [Value.agg (List.toArray [Value.int .i64 0, Value.int .i64 1]), Value.agg (List.toArray [Value.int .i64 0, Value.int .i64 0])]) Try.func40 bd40_gb nm40_gb rfl) (minus_ok w97 (0, 1) (0, 0) (by (unfold bdP; decide)) (by (unfold bdP; decide))) ?_
   intro w101 hb102
   replace hb102 := chg_below hb102 g88
   have hs103 : Chg (inl [8, 9]) _ _ _ _ := hb102.n
   refine ⟨hs103.same, ?_⟩
   refine h_many 11 [12, 13] (by kernel_rfl) ⟨h_of 11 rfl (by kernel_rfl) rfl ?_, h_of 12 rfl (by kernel_rfl) rfl ?_, h_of 13 rfl (by kernel_rfl) rfl ?_, trivial⟩
   ·
    refine o_call (v := Value.agg (List.toArray [Value.int .i64 ((mns (1, 0) (0, 0)).1), Value.int .i64 ((mns (1, 0) (0, 0)).2)])) (e_call (vals := [Value.agg (List.toArray [Value.int .i64 1, Value.int .i64 0]), Value.agg (List.toArray [Value.int .i64 0, Value.int .i64 0])]) Try.func40 bd40_gb nm40_gb rfl) (minus_ok w101 (1, 0) (0, 0) (by (unfold bdP; decide)) (by (unfold bdP; decide))) ?_
    intro w104 hb105
    replace hb105 := chg_below hb105 g88
    have hs106 := hs103.seq (hb105.n)
    refine ⟨hs106.same, ?_⟩
    refine h_many 12 [13] (by kernel_rfl) ⟨h_of 12 rfl (by kernel_rfl) rfl ?_, h_of 13 rfl (by kernel_rfl) rfl ?_, trivial⟩
    ·
     refine o_alloc g88 (is 8) (8, 0) rfl tp23_gb ?_
     intro g110 w107 b109 ch108 bx111
     replace bx111 : Bx g110 (is 8) w107 b109 [Value.int .i64 0, Value.int .i64 0] := bx111
     have hs112 := hs106.seq (ch108.n)
     refine ⟨hs112.same, ?_⟩
     refine h_one 13 rfl (by kernel_rfl) rfl ?_
     refine o_alloc g110 (is 9) (9, 0) rfl tp23_gb ?_
     intro g116 w113 b115 ch114 bx117
     replace bx117 : Bx g116 (is 9) w113 b115 [Value.int .i64 0, Value.int .i64 0] := bx117
     have hs118 := hs112.seq (ch114.n)
     refine ⟨hs118.same, ?_⟩
     refine h_one 14 rfl (by kernel_rfl) rfl ?_
     replace bx111 := bx111.chg ch114 (not_no _)
     refine o_store_bx (cs' := [Value.int .i64 ((mns (0, 1) (0, 0)).1), Value.int .i64 ((mns (0, 1) (0, 0)).2)]) tp23_gb rfl rfl bx111 rfl (Nat.le_of_ble_eq_true rfl) (AllOne.all (.cons rfl (.cons rfl .nil))) rfl ?_
     intro w119 ch120 bx121
     clear bx111
     have hs122 := hs118.seq (ch120.l rfl)
     refine ⟨hs122.same, ?_⟩
     refine h_one 15 rfl (by kernel_rfl) rfl ?_
     replace bx117 := bx117.chg ch120 (is_ne rfl)
     refine o_store_bx (cs' := [Value.int .i64 ((mns (1, 0) (0, 0)).1), Value.int .i64 ((mns (1, 0) (0, 0)).2)]) tp23_gb rfl rfl bx117 rfl (Nat.le_of_ble_eq_true rfl) (AllOne.all (.cons rfl (.cons rfl .nil))) rfl ?_
     intro w123 ch124 bx125
     clear bx117
     have hs126 := hs122.seq (ch124.l rfl)
     refine ⟨hs126.same, ?_⟩
     refine h_nil (by kernel_rfl) ?_
     have C127 : Chg (inl [5, 7, 8, 9]) _ _ _ _ := (hb2.n).seq ((hb4.n).seq ((hb6.n).seq ((hb8.n).seq ((hb10.n).seq ((hb12.n).seq ((hb14.n).seq ((hb16.n).seq ((hb18.n).seq ((hb20.n).seq ((hb22.n).seq ((hb24.n).seq ((ch28.n).seq ((ch31.n).seq ((ch36.n).seq ((ch44.n).seq ((hb47.n).seq ((hb50.n).seq ((ch53.n).seq ((ch58.l rfl).seq ((ch64.n).seq ((ch69.l rfl).seq ((ch73.n).seq ((ch78.l rfl).seq ((ch85.n).seq ((ch91.l rfl).seq ((ch94.n).seq ((ch96.n).seq ((hb102.n).seq ((hb105.n).seq ((ch108.n).seq ((ch114.n).seq ((ch120.l rfl).seq (ch124.l rfl)))))))))))))))))))))))))))))))))
     replace hbase := hbase.chg C127 (is_nl rfl)
     replace o92 := o92.chg ch96 (not_no _) (not_no _)
     replace bx121 := bx121.chg ch124 (is_ne rfl)
     exact mid (b109, b115, g116) _ _ ⟨hbase, rfl, rfl, rfl, rfl, (o29.chg hs126 (is_nl rfl) (is_nl rfl)), (bx34.chg hs126 (is_nl rfl)), (bx39.chg hs126 (is_nl rfl)), (o92.chg hs126 (is_nl rfl) (is_nl rfl)), bx121, bx125⟩
    ·
     refine o_alloc g88 (is 9) (9, 0) rfl tp23_gb ?_
     intro g131 w128 b130 ch129 bx132
     replace bx132 : Bx g131 (is 9) w128 b130 [Value.int .i64 0, Value.int .i64 0] := bx132
     have hs133 := hs106.seq (ch129.n)
     refine ⟨hs133.same, ?_⟩
     refine h_one 12 rfl (by kernel_rfl) rfl ?_
     refine o_alloc g131 (is 8) (8, 0) rfl tp23_gb ?_
     intro g137 w134 b136 ch135 bx138
     replace bx138 : Bx g137 (is 8) w134 b136 [Value.int .i64 0, Value.int .i64 0] := bx138
     have hs139 := hs133.seq (ch135.n)
     refine ⟨hs139.same, ?_⟩
     refine h_one 14 rfl (by kernel_rfl) rfl ?_
     refine o_store_bx (cs' := [Value.int .i64 ((mns (0, 1) (0, 0)).1), Value.int .i64 ((mns (0, 1) (0, 0)).2)]) tp23_gb rfl rfl bx138 rfl (Nat.le_of_ble_eq_true rfl) (AllOne.all (.cons rfl (.cons rfl .nil))) rfl ?_
     intro w140 ch141 bx142
     clear bx138
     have hs143 := hs139.seq (ch141.l rfl)
     refine ⟨hs143.same, ?_⟩
     refine h_one 15 rfl (by kernel_rfl) rfl ?_
     replace bx132 := (bx132.chg ch135 (not_no _)).chg ch141 (is_ne rfl)
     refine o_store_bx (cs' := [Value.int .i64 ((mns (1, 0) (0, 0)).1), Value.int .i64 ((mns (1, 0) (0, 0)).2)]) tp23_gb rfl rfl bx132 rfl (Nat.le_of_ble_eq_true rfl) (AllOne.all (.cons rfl (.cons rfl .nil))) rfl ?_
     intro w144 ch145 bx146
     clear bx132
     have hs147 := hs143.seq (ch145.l rfl)
     refine ⟨hs147.same, ?_⟩
     refine h_nil (by kernel_rfl) ?_
     have C148 : Chg (inl [5, 7, 8, 9]) _ _ _ _ := (hb2.n).seq ((hb4.n).seq ((hb6.n).seq ((hb8.n).seq ((hb10.n).seq ((hb12.n).seq ((hb14.n).seq ((hb16.n).seq ((hb18.n).seq ((hb20.n).seq ((hb22.n).seq ((hb24.n).seq ((ch28.n).seq ((ch31.n).seq ((ch36.n).seq ((ch44.n).seq ((hb47.n).seq ((hb50.n).seq ((ch53.n).seq ((ch58.l rfl).seq ((ch64.n).seq ((ch69.l rfl).seq ((ch73.n).seq ((ch78.l rfl).seq ((ch85.n).seq ((ch91.l rfl).seq ((ch94.n).seq ((ch96.n).seq ((hb102.n).seq ((hb105.n).seq ((ch129.n).seq ((ch135.n).seq ((ch141.l rfl).seq (ch145.l rfl)))))))))))))))))))))))))))))))))
     replace hbase := hbase.chg C148 (is_nl rfl)
     replace o92 := o92.chg ch96 (not_no _) (not_no _)
     replace bx142 := bx142.chg ch145 (is_ne rfl)
     exact mid (b136, b130, g137) _ _ ⟨hbase, rfl, rfl, rfl, rfl, (o29.chg hs147 (is_nl rfl) (is_nl rfl)), (bx34.chg hs147 (is_nl rfl)), (bx39.chg hs147 (is_nl rfl)), (o92.chg hs147 (is_nl rfl) (is_nl rfl)), bx142, bx146⟩
   ·
    refine o_alloc g88 (is 8) (8, 0) rfl tp23_gb ?_
    intro g152 w149 b151 ch150 bx153
    replace bx153 : Bx g152 (is 8) w149 b151 [Value.int .i64 0, Value.int .i64 0] := bx153
    have hs154 := hs103.seq (ch150.n)
    refine ⟨hs154.same, ?_⟩
    refine h_many 11 [13] (by kernel_rfl) ⟨h_of 11 rfl (by kernel_rfl) rfl ?_, h_of 13 rfl (by kernel_rfl) rfl ?_, trivial⟩
    ·
     refine o_call (v := Value.agg (List.toArray [Value.int .i64 ((mns (1, 0) (0, 0)).1), Value.int .i64 ((mns (1, 0) (0, 0)).2)])) (e_call (vals := [Value.agg (List.toArray [Value.int .i64 1, Value.int .i64 0]), Value.agg (List.toArray [Value.int .i64 0, Value.int .i64 0])]) Try.func40 bd40_gb nm40_gb rfl) (minus_ok w149 (1, 0) (0, 0) (by (unfold bdP; decide)) (by (unfold bdP; decide))) ?_
     intro w155 hb156
     replace hb156 := chg_below hb156 g152
     have hs157 := hs154.seq (hb156.n)
     refine ⟨hs157.same, ?_⟩
     refine h_one 13 rfl (by kernel_rfl) rfl ?_
     refine o_alloc g152 (is 9) (9, 0) rfl tp23_gb ?_
     intro g161 w158 b160 ch159 bx162
     replace bx162 : Bx g161 (is 9) w158 b160 [Value.int .i64 0, Value.int .i64 0] := bx162
     have hs163 := hs157.seq (ch159.n)
     refine ⟨hs163.same, ?_⟩
     refine h_one 14 rfl (by kernel_rfl) rfl ?_
     replace bx153 := (bx153.chg hb156 (not_no _)).chg ch159 (not_no _)
     refine o_store_bx (cs' := [Value.int .i64 ((mns (0, 1) (0, 0)).1), Value.int .i64 ((mns (0, 1) (0, 0)).2)]) tp23_gb rfl rfl bx153 rfl (Nat.le_of_ble_eq_true rfl) (AllOne.all (.cons rfl (.cons rfl .nil))) rfl ?_
     intro w164 ch165 bx166
     clear bx153
     have hs167 := hs163.seq (ch165.l rfl)
     refine ⟨hs167.same, ?_⟩
     refine h_one 15 rfl (by kernel_rfl) rfl ?_
     replace bx162 := bx162.chg ch165 (is_ne rfl)
     refine o_store_bx (cs' := [Value.int .i64 ((mns (1, 0) (0, 0)).1), Value.int .i64 ((mns (1, 0) (0, 0)).2)]) tp23_gb rfl rfl bx162 rfl (Nat.le_of_ble_eq_true rfl) (AllOne.all (.cons rfl (.cons rfl .nil))) rfl ?_
     intro w168 ch169 bx170
     clear bx162
     have hs171 := hs167.seq (ch169.l rfl)
     refine ⟨hs171.same, ?_⟩
     refine h_nil (by kernel_rfl) ?_
     have C172 : Chg (inl [5, 7, 8, 9]) _ _ _ _ := (hb2.n).seq ((hb4.n).seq ((hb6.n).seq ((hb8.n).seq ((hb10.n).seq ((hb12.n).seq ((hb14.n).seq ((hb16.n).seq ((hb18.n).seq ((hb20.n).seq ((hb22.n).seq ((hb24.n).seq ((ch28.n).seq ((ch31.n).seq ((ch36.n).seq ((ch44.n).seq ((hb47.n).seq ((hb50.n).seq ((ch53.n).seq ((ch58.l rfl).seq ((ch64.n).seq ((ch69.l rfl).seq ((ch73.n).seq ((ch78.l rfl).seq ((ch85.n).seq ((ch91.l rfl).seq ((ch94.n).seq ((ch96.n).seq ((hb102.n).seq ((ch150.n).seq ((hb156.n).seq ((ch159.n).seq ((ch165.l rfl).seq (ch169.l rfl)))))))))))))))))))))))))))))))))
     replace hbase := hbase.chg C172 (is_nl rfl)
     replace o92 := o92.chg ch96 (not_no _) (not_no _)
     replace bx166 := bx166.chg ch169 (is_ne rfl)
     exact mid (b151, b160, g161) _ _ ⟨hbase, rfl, rfl, rfl, rfl, (o29.chg hs171 (is_nl rfl) (is_nl rfl)), (bx34.chg hs171 (is_nl rfl)), (bx39.chg hs171 (is_nl rfl)), (o92.chg hs171 (is_nl rfl) (is_nl rfl)), bx166, bx170⟩
    ·
     refine o_alloc g152 (is 9) (9, 0) rfl tp23_gb ?_
     intro g176 w173 b175 ch174 bx177
     replace bx177 : Bx g176 (is 9) w173 b175 [Value.int .i64 0, Value.int .i64 0] := bx177
     have hs178 := hs154.seq (ch174.n)
     refine ⟨hs178.same, ?_⟩
     refine h_one 11 rfl (by kernel_rfl) rfl ?_
     refine o_call (v := Value.agg (List.toArray [Value.int .i64 ((mns (1, 0) (0, 0)).1), Value.int .i64 ((mns (1, 0) (0, 0)).2)])) (e_call (vals := [Value.agg (List.toArray [Value.int .i64 1, Value.int .i64 0]), Value.agg (List.toArray [Value.int .i64 0, Value.int .i64 0])]) Try.func40 bd40_gb nm40_gb rfl) (minus_ok w173 (1, 0) (0, 0) (by (unfold bdP; decide)) (by (unfold bdP; decide))) ?_
     intro w179 hb180
     replace hb180 := chg_below hb180 g176
     have hs181 := hs178.seq (hb180.n)
     refine ⟨hs181.same, ?_⟩
     refine h_one 14 rfl (by kernel_rfl) rfl ?_
     replace bx153 := (bx153.chg ch174 (not_no _)).chg hb180 (not_no _)
     refine o_store_bx (cs' := [Value.int .i64 ((mns (0, 1) (0, 0)).1), Value.int .i64 ((mns (0, 1) (0, 0)).2)]) tp23_gb rfl rfl bx153 rfl (Nat.le_of_ble_eq_true rfl) (AllOne.all (.cons rfl (.cons rfl .nil))) rfl ?_
     intro w182 ch183 bx184
     clear bx153
     have hs185 := hs181.seq (ch183.l rfl)
     refine ⟨hs185.same, ?_⟩
     refine h_one 15 rfl (by kernel_rfl) rfl ?_
     replace bx177 := (bx177.chg hb180 (not_no _)).chg ch183 (is_ne rfl)
     refine o_store_bx (cs' := [Value.int .i64 ((mns (1, 0) (0, 0)).1), Value.int .i64 ((mns (1, 0) (0, 0)).2)]) tp23_gb rfl rfl bx177 rfl (Nat.le_of_ble_eq_true rfl) (AllOne.all (.cons rfl (.cons rfl .nil))) rfl ?_
     intro w186 ch187 bx188
     clear bx177
     have hs189 := hs185.seq (ch187.l rfl)
     refine ⟨hs189.same, ?_⟩
     refine h_nil (by kernel_rfl) ?_
     have C190 : Chg (inl [5, 7, 8, 9]) _ _ _ _ := (hb2.n).seq ((hb4.n).seq ((hb6.n).seq ((hb8.n).seq ((hb10.n).seq ((hb12.n).seq ((hb14.n).seq ((hb16.n).seq ((hb18.n).seq ((hb20.n).seq ((hb22.n).seq ((hb24.n).seq ((ch28.n).seq ((ch31.n).seq ((ch36.n).seq ((ch44.n).seq ((hb47.n).seq ((hb50.n).seq ((ch53.n).seq ((ch58.l rfl).seq ((ch64.n).seq ((ch69.l rfl).seq ((ch73.n).seq ((ch78.l rfl).seq ((ch85.n).seq ((ch91.l rfl).seq ((ch94.n).seq ((ch96.n).seq ((hb102.n).seq ((ch150.n).seq ((ch174.n).seq ((hb180.n).seq ((ch183.l rfl).seq (ch187.l rfl)))))))))))))))))))))))))))))))))
     replace hbase := hbase.chg C190 (is_nl rfl)
     replace o92 := o92.chg ch96 (not_no _) (not_no _)
     replace bx184 := bx184.chg ch187 (is_ne rfl)
     exact mid (b151, b175, g176) _ _ ⟨hbase, rfl, rfl, rfl, rfl, (o29.chg hs189 (is_nl rfl) (is_nl rfl)), (bx34.chg hs189 (is_nl rfl)), (bx39.chg hs189 (is_nl rfl)), (o92.chg hs189 (is_nl rfl) (is_nl rfl)), bx184, bx188⟩
   ·
    refine o_alloc g88 (is 9) (9, 0) rfl tp23_gb ?_
    intro g194 w191 b193 ch192 bx195
    replace bx195 : Bx g194 (is 9) w191 b193 [Value.int .i64 0, Value.int .i64 0] := bx195
    have hs196 := hs103.seq (ch192.n)
    refine ⟨hs196.same, ?_⟩
    refine h_many 11 [12] (by kernel_rfl) ⟨h_of 11 rfl (by kernel_rfl) rfl ?_, h_of 12 rfl (by kernel_rfl) rfl ?_, trivial⟩
    ·
     refine o_call (v := Value.agg (List.toArray [Value.int .i64 ((mns (1, 0) (0, 0)).1), Value.int .i64 ((mns (1, 0) (0, 0)).2)])) (e_call (vals := [Value.agg (List.toArray [Value.int .i64 1, Value.int .i64 0]), Value.agg (List.toArray [Value.int .i64 0, Value.int .i64 0])]) Try.func40 bd40_gb nm40_gb rfl) (minus_ok w191 (1, 0) (0, 0) (by (unfold bdP; decide)) (by (unfold bdP; decide))) ?_
     intro w197 hb198
     replace hb198 := chg_below hb198 g194
     have hs199 := hs196.seq (hb198.n)
     refine ⟨hs199.same, ?_⟩
     refine h_one 12 rfl (by kernel_rfl) rfl ?_
     refine o_alloc g194 (is 8) (8, 0) rfl tp23_gb ?_
     intro g203 w200 b202 ch201 bx204
     replace bx204 : Bx g203 (is 8) w200 b202 [Value.int .i64 0, Value.int .i64 0] := bx204
     have hs205 := hs199.seq (ch201.n)
     refine ⟨hs205.same, ?_⟩
     refine h_one 14 rfl (by kernel_rfl) rfl ?_
     refine o_store_bx (cs' := [Value.int .i64 ((mns (0, 1) (0, 0)).1), Value.int .i64 ((mns (0, 1) (0, 0)).2)]) tp23_gb rfl rfl bx204 rfl (Nat.le_of_ble_eq_true rfl) (AllOne.all (.cons rfl (.cons rfl .nil))) rfl ?_
     intro w206 ch207 bx208
     clear bx204
     have hs209 := hs205.seq (ch207.l rfl)
     refine ⟨hs209.same, ?_⟩
     refine h_one 15 rfl (by kernel_rfl) rfl ?_
     have C213 : Chg (inl [8]) _ _ _ _ := (hb198.n).seq ((ch201.n).seq (ch207.l rfl))
     replace bx195 := bx195.chg C213 (is_nl rfl)
     refine o_store_bx (cs' := [Value.int .i64 ((mns (1, 0) (0, 0)).1), Value.int .i64 ((mns (1, 0) (0, 0)).2)]) tp23_gb rfl rfl bx195 rfl (Nat.le_of_ble_eq_true rfl) (AllOne.all (.cons rfl (.cons rfl .nil))) rfl ?_
     intro w210 ch211 bx212
     clear bx195
     have hs214 := hs209.seq (ch211.l rfl)
     refine ⟨hs214.same, ?_⟩
     refine h_nil (by kernel_rfl) ?_
     have C215 : Chg (inl [5, 7, 8, 9]) _ _ _ _ := (hb2.n).seq ((hb4.n).seq ((hb6.n).seq ((hb8.n).seq ((hb10.n).seq ((hb12.n).seq ((hb14.n).seq ((hb16.n).seq ((hb18.n).seq ((hb20.n).seq ((hb22.n).seq ((hb24.n).seq ((ch28.n).seq ((ch31.n).seq ((ch36.n).seq ((ch44.n).seq ((hb47.n).seq ((hb50.n).seq ((ch53.n).seq ((ch58.l rfl).seq ((ch64.n).seq ((ch69.l rfl).seq ((ch73.n).seq ((ch78.l rfl).seq ((ch85.n).seq ((ch91.l rfl).seq ((ch94.n).seq ((ch96.n).seq ((hb102.n).seq ((ch192.n).seq ((hb198.n).seq ((ch201.n).seq ((ch207.l rfl).seq (ch211.l rfl)))))))))))))))))))))))))))))))))
     replace hbase := hbase.chg C215 (is_nl rfl)
     replace o92 := o92.chg ch96 (not_no _) (not_no _)
     replace bx208 := bx208.chg ch211 (is_ne rfl)
     exact mid (b202, b193, g203) _ _ ⟨hbase, rfl, rfl, rfl, rfl, (o29.chg hs214 (is_nl rfl) (is_nl rfl)), (bx34.chg hs214 (is_nl rfl)), (bx39.chg hs214 (is_nl rfl)), (o92.chg hs214 (is_nl rfl) (is_nl rfl)), bx208, bx212⟩
    ·
     refine o_alloc g194 (is 8) (8, 0) rfl tp23_gb ?_
     intro g219 w216 b218 ch217 bx220
     replace bx220 : Bx g219 (is 8) w216 b218 [Value.int .i64 0, Value.int .i64 0] := bx220
     have hs221 := hs196.seq (ch217.n)
     refine ⟨hs221.same, ?_⟩
     refine h_one 11 rfl (by kernel_rfl) rfl ?_
     refine o_call (v := Value.agg (List.toArray [Value.int .i64 ((mns (1, 0) (0, 0)).1), Value.int .i64 ((mns (1, 0) (0, 0)).2)])) (e_call (vals := [Value.agg (List.toArray [Value.int .i64 1, Value.int .i64 0]), Value.agg (List.toArray [Value.int .i64 0, Value.int .i64 0])]) Try.func40 bd40_gb nm40_gb rfl) (minus_ok w216 (1, 0) (0, 0) (by (unfold bdP; decide)) (by (unfold bdP; decide))) ?_
     intro w222 hb223
     replace hb223 := chg_below hb223 g219
     have hs224 := hs221.seq (hb223.n)
     refine ⟨hs224.same, ?_⟩
     refine h_one 14 rfl (by kernel_rfl) rfl ?_
     replace bx220 := bx220.chg hb223 (not_no _)
     refine o_store_bx (cs' := [Value.int .i64 ((mns (0, 1) (0, 0)).1), Value.int .i64 ((mns (0, 1) (0, 0)).2)]) tp23_gb rfl rfl bx220 rfl (Nat.le_of_ble_eq_true rfl) (AllOne.all (.cons rfl (.cons rfl .nil))) rfl ?_
     intro w225 ch226 bx227
     clear bx220
     have hs228 := hs224.seq (ch226.l rfl)
     refine ⟨hs228.same, ?_⟩
     refine h_one 15 rfl (by kernel_rfl) rfl ?_
     have C232 : Chg (inl [8]) _ _ _ _ := (ch217.n).seq ((hb223.n).seq (ch226.l rfl))
     replace bx195 := bx195.chg C232 (is_nl rfl)
     refine o_store_bx (cs' := [Value.int .i64 ((mns (1, 0) (0, 0)).1), Value.int .i64 ((mns (1, 0) (0, 0)).2)]) tp23_gb rfl rfl bx195 rfl (Nat.le_of_ble_eq_true rfl) (AllOne.all (.cons rfl (.cons rfl .nil))) rfl ?_
     intro w229 ch230 bx231
     clear bx195
     have hs233 := hs228.seq (ch230.l rfl)
     refine ⟨hs233.same, ?_⟩
     refine h_nil (by kernel_rfl) ?_
     have C234 : Chg (inl [5, 7, 8, 9]) _ _ _ _ := (hb2.n).seq ((hb4.n).seq ((hb6.n).seq ((hb8.n).seq ((hb10.n).seq ((hb12.n).seq ((hb14.n).seq ((hb16.n).seq ((hb18.n).seq ((hb20.n).seq ((hb22.n).seq ((hb24.n).seq ((ch28.n).seq ((ch31.n).seq ((ch36.n).seq ((ch44.n).seq ((hb47.n).seq ((hb50.n).seq ((ch53.n).seq ((ch58.l rfl).seq ((ch64.n).seq ((ch69.l rfl).seq ((ch73.n).seq ((ch78.l rfl).seq ((ch85.n).seq ((ch91.l rfl).seq ((ch94.n).seq ((ch96.n).seq ((hb102.n).seq ((ch192.n).seq ((ch217.n).seq ((hb223.n).seq ((ch226.l rfl).seq (ch230.l rfl)))))))))))))))))))))))))))))))))
     replace hbase := hbase.chg C234 (is_nl rfl)
     replace o92 := o92.chg ch96 (not_no _) (not_no _)
     replace bx227 := bx227.chg ch230 (is_ne rfl)
     exact mid (b218, b193, g219) _ _ ⟨hbase, rfl, rfl, rfl, rfl, (o29.chg hs233 (is_nl rfl) (is_nl rfl)), (bx34.chg hs233 (is_nl rfl)), (bx39.chg hs233 (is_nl rfl)), (o92.chg hs233 (is_nl rfl) (is_nl rfl)), bx227, bx231⟩
  ·
   refine o_alloc g88 (is 8) (8, 0) rfl tp23_gb ?_
   intro g238 w235 b237 ch236 bx239
   replace bx239 : Bx g238 (is 8) w235 b237 [Value.int .i64 0, Value.int .i64 0] := bx239
   have hs240 : Chg (inl [8, 9]) _ _ _ _ := ch236.n
   refine ⟨hs240.same, ?_⟩
   refine h_many 5 [13] (by kernel_rfl) ⟨h_of 5 rfl (by kernel_rfl) rfl ?_, h_of 13 rfl (by kernel_rfl) rfl ?_, trivial⟩
   ·
    refine o_call (v := Value.agg (List.toArray [Value.int .i64 ((mns (0, 1) (0, 0)).1), Value.int .i64 ((mns (0, 1) (0, 0)).2)])) (e_call (vals := [Value.agg (List.toArray [Value.int .i64 0, Value.int .i64 1]), Value.agg (List.toArray [Value.int .i64 0, Value.int .i64 0])]) Try.func40 bd40_gb nm40_gb rfl) (minus_ok w235 (0, 1) (0, 0) (by (unfold bdP; decide)) (by (unfold bdP; decide))) ?_
    intro w241 hb242
    replace hb242 := chg_below hb242 g238
    have hs243 := hs240.seq (hb242.n)
    refine ⟨hs243.same, ?_⟩
    refine h_many 11 [13] (by kernel_rfl) ⟨h_of 11 rfl (by kernel_rfl) rfl ?_, h_of 13 rfl (by kernel_rfl) rfl ?_, trivial⟩
    ·
     refine o_call (v := Value.agg (List.toArray [Value.int .i64 ((mns (1, 0) (0, 0)).1), Value.int .i64 ((mns (1, 0) (0, 0)).2)])) (e_call (vals := [Value.agg (List.toArray [Value.int .i64 1, Value.int .i64 0]), Value.agg (List.toArray [Value.int .i64 0, Value.int .i64 0])]) Try.func40 bd40_gb nm40_gb rfl) (minus_ok w241 (1, 0) (0, 0) (by (unfold bdP; decide)) (by (unfold bdP; decide))) ?_
     intro w244 hb245
     replace hb245 := chg_below hb245 g238
     have hs246 := hs243.seq (hb245.n)
     refine ⟨hs246.same, ?_⟩
     refine h_one 13 rfl (by kernel_rfl) rfl ?_
     refine o_alloc g238 (is 9) (9, 0) rfl tp23_gb ?_
     intro g250 w247 b249 ch248 bx251
     replace bx251 : Bx g250 (is 9) w247 b249 [Value.int .i64 0, Value.int .i64 0] := bx251
     have hs252 := hs246.seq (ch248.n)
     refine ⟨hs252.same, ?_⟩
     refine h_one 14 rfl (by kernel_rfl) rfl ?_
     have C256 : Chg (inl []) _ _ _ _ := (hb242.n).seq ((hb245.n).seq (ch248.n))
     replace bx239 := bx239.chg C256 (is_nl rfl)
     refine o_store_bx (cs' := [Value.int .i64 ((mns (0, 1) (0, 0)).1), Value.int .i64 ((mns (0, 1) (0, 0)).2)]) tp23_gb rfl rfl bx239 rfl (Nat.le_of_ble_eq_true rfl) (AllOne.all (.cons rfl (.cons rfl .nil))) rfl ?_
     intro w253 ch254 bx255
     clear bx239
     have hs257 := hs252.seq (ch254.l rfl)
     refine ⟨hs257.same, ?_⟩
     refine h_one 15 rfl (by kernel_rfl) rfl ?_
     replace bx251 := bx251.chg ch254 (is_ne rfl)
     refine o_store_bx (cs' := [Value.int .i64 ((mns (1, 0) (0, 0)).1), Value.int .i64 ((mns (1, 0) (0, 0)).2)]) tp23_gb rfl rfl bx251 rfl (Nat.le_of_ble_eq_true rfl) (AllOne.all (.cons rfl (.cons rfl .nil))) rfl ?_
     intro w258 ch259 bx260
     clear bx251
     have hs261 := hs257.seq (ch259.l rfl)
     refine ⟨hs261.same, ?_⟩
     refine h_nil (by kernel_rfl) ?_
     have C262 : Chg (inl [5, 7, 8, 9]) _ _ _ _ := (hb2.n).seq ((hb4.n).seq ((hb6.n).seq ((hb8.n).seq ((hb10.n).seq ((hb12.n).seq ((hb14.n).seq ((hb16.n).seq ((hb18.n).seq ((hb20.n).seq ((hb22.n).seq ((hb24.n).seq ((ch28.n).seq ((ch31.n).seq ((ch36.n).seq ((ch44.n).seq ((hb47.n).seq ((hb50.n).seq ((ch53.n).seq ((ch58.l rfl).seq ((ch64.n).seq ((ch69.l rfl).seq ((ch73.n).seq ((ch78.l rfl).seq ((ch85.n).seq ((ch91.l rfl).seq ((ch94.n).seq ((ch96.n).seq ((ch236.n).seq ((hb242.n).seq ((hb245.n).seq ((ch248.n).seq ((ch254.l rfl).seq (ch259.l rfl)))))))))))))))))))))))))))))))))
     replace hbase := hbase.chg C262 (is_nl rfl)
     replace o92 := o92.chg ch96 (not_no _) (not_no _)
     replace bx255 := bx255.chg ch259 (is_ne rfl)
     exact mid (b237, b249, g250) _ _ ⟨hbase, rfl, rfl, rfl, rfl, (o29.chg hs261 (is_nl rfl) (is_nl rfl)), (bx34.chg hs261 (is_nl rfl)), (bx39.chg hs261 (is_nl rfl)), (o92.chg hs261 (is_nl rfl) (is_nl rfl)), bx255, bx260⟩
    ·
     refine o_alloc g238 (is 9) (9, 0) rfl tp23_gb ?_
     intro g266 w263 b265 ch264 bx267
     replace bx267 : Bx g266 (is 9) w263 b265 [Value.int .i64 0, Value.int .i64 0] := bx267
     have hs268 := hs243.seq (ch264.n)
     refine ⟨hs268.same, ?_⟩
     refine h_one 11 rfl (by kernel_rfl) rfl ?_
     refine o_call (v := Value.agg (List.toArray [Value.int .i64 ((mns (1, 0) (0, 0)).1), Value.int .i64 ((mns (1, 0) (0, 0)).2)])) (e_call (vals := [Value.agg (List.toArray [Value.int .i64 1, Value.int .i64 0]), Value.agg (List.toArray [Value.int .i64 0, Value.int .i64 0])]) Try.func40 bd40_gb nm40_gb rfl) (minus_ok w263 (1, 0) (0, 0) (by (unfold bdP; decide)) (by (unfold bdP; decide))) ?_
     intro w269 hb270
     replace hb270 := chg_below hb270 g266
     have hs271 := hs268.seq (hb270.n)
     refine ⟨hs271.same, ?_⟩
     refine h_one 14 rfl (by kernel_rfl) rfl ?_
     have C275 : Chg (inl []) _ _ _ _ := (hb242.n).seq ((ch264.n).seq (hb270.n))
     replace bx239 := bx239.chg C275 (is_nl rfl)
     refine o_store_bx (cs' := [Value.int .i64 ((mns (0, 1) (0, 0)).1), Value.int .i64 ((mns (0, 1) (0, 0)).2)]) tp23_gb rfl rfl bx239 rfl (Nat.le_of_ble_eq_true rfl) (AllOne.all (.cons rfl (.cons rfl .nil))) rfl ?_
     intro w272 ch273 bx274
     clear bx239
     have hs276 := hs271.seq (ch273.l rfl)
     refine ⟨hs276.same, ?_⟩
     refine h_one 15 rfl (by kernel_rfl) rfl ?_
     replace bx267 := (bx267.chg hb270 (not_no _)).chg ch273 (is_ne rfl)
     refine o_store_bx (cs' := [Value.int .i64 ((mns (1, 0) (0, 0)).1), Value.int .i64 ((mns (1, 0) (0, 0)).2)]) tp23_gb rfl rfl bx267 rfl (Nat.le_of_ble_eq_true rfl) (AllOne.all (.cons rfl (.cons rfl .nil))) rfl ?_
     intro w277 ch278 bx279
     clear bx267
     have hs280 := hs276.seq (ch278.l rfl)
     refine ⟨hs280.same, ?_⟩
     refine h_nil (by kernel_rfl) ?_
     have C281 : Chg (inl [5, 7, 8, 9]) _ _ _ _ := (hb2.n).seq ((hb4.n).seq ((hb6.n).seq ((hb8.n).seq ((hb10.n).seq ((hb12.n).seq ((hb14.n).seq ((hb16.n).seq ((hb18.n).seq ((hb20.n).seq ((hb22.n).seq ((hb24.n).seq ((ch28.n).seq ((ch31.n).seq ((ch36.n).seq ((ch44.n).seq ((hb47.n).seq ((hb50.n).seq ((ch53.n).seq ((ch58.l rfl).seq ((ch64.n).seq ((ch69.l rfl).seq ((ch73.n).seq ((ch78.l rfl).seq ((ch85.n).seq ((ch91.l rfl).seq ((ch94.n).seq ((ch96.n).seq ((ch236.n).seq ((hb242.n).seq ((ch264.n).seq ((hb270.n).seq ((ch273.l rfl).seq (ch278.l rfl)))))))))))))))))))))))))))))))))
     replace hbase := hbase.chg C281 (is_nl rfl)
     replace o92 := o92.chg ch96 (not_no _) (not_no _)
     replace bx274 := bx274.chg ch278 (is_ne rfl)
     exact mid (b237, b265, g266) _ _ ⟨hbase, rfl, rfl, rfl, rfl, (o29.chg hs280 (is_nl rfl) (is_nl rfl)), (bx34.chg hs280 (is_nl rfl)), (bx39.chg hs280 (is_nl rfl)), (o92.chg hs280 (is_nl rfl) (is_nl rfl)), bx274, bx279⟩
   ·
    refine o_alloc g238 (is 9) (9, 0) rfl tp23_gb ?_
    intro g285 w282 b284 ch283 bx286
    replace bx286 : Bx g285 (is 9) w282 b284 [Value.int .i64 0, Value.int .i64 0] := bx286
    have hs287 := hs240.seq (ch283.n)
    refine ⟨hs287.same, ?_⟩
    refine h_one 5 rfl (by kernel_rfl) rfl ?_
    refine o_call (v := Value.agg (List.toArray [Value.int .i64 ((mns (0, 1) (0, 0)).1), Value.int .i64 ((mns (0, 1) (0, 0)).2)])) (e_call (vals := [Value.agg (List.toArray [Value.int .i64 0, Value.int .i64 1]), Value.agg (List.toArray [Value.int .i64 0, Value.int .i64 0])]) Try.func40 bd40_gb nm40_gb rfl) (minus_ok w282 (0, 1) (0, 0) (by (unfold bdP; decide)) (by (unfold bdP; decide))) ?_
    intro w288 hb289
    replace hb289 := chg_below hb289 g285
    have hs290 := hs287.seq (hb289.n)
    refine ⟨hs290.same, ?_⟩
    refine h_one 11 rfl (by kernel_rfl) rfl ?_
    refine o_call (v := Value.agg (List.toArray [Value.int .i64 ((mns (1, 0) (0, 0)).1), Value.int .i64 ((mns (1, 0) (0, 0)).2)])) (e_call (vals := [Value.agg (List.toArray [Value.int .i64 1, Value.int .i64 0]), Value.agg (List.toArray [Value.int .i64 0, Value.int .i64 0])]) Try.func40 bd40_gb nm40_gb rfl) (minus_ok w288 (1, 0) (0, 0) (by (unfold bdP; decide)) (by (unfold bdP; decide))) ?_
    intro w291 hb292
    replace hb292 := chg_below hb292 g285
    have hs293 := hs290.seq (hb292.n)
    refine ⟨hs293.same, ?_⟩
    refine h_one 14 rfl (by kernel_rfl) rfl ?_
    have C297 : Chg (inl []) _ _ _ _ := (ch283.n).seq ((hb289.n).seq (hb292.n))
    replace bx239 := bx239.chg C297 (is_nl rfl)
    refine o_store_bx (cs' := [Value.int .i64 ((mns (0, 1) (0, 0)).1), Value.int .i64 ((mns (0, 1) (0, 0)).2)]) tp23_gb rfl rfl bx239 rfl (Nat.le_of_ble_eq_true rfl) (AllOne.all (.cons rfl (.cons rfl .nil))) rfl ?_
    intro w294 ch295 bx296
    clear bx239
    have hs298 := hs293.seq (ch295.l rfl)
    refine ⟨hs298.same, ?_⟩
    refine h_one 15 rfl (by kernel_rfl) rfl ?_
    have C302 : Chg (inl [8]) _ _ _ _ := (hb289.n).seq ((hb292.n).seq (ch295.l rfl))
    replace bx286 := bx286.chg C302 (is_nl rfl)
    refine o_store_bx (cs' := [Value.int .i64 ((mns (1, 0) (0, 0)).1), Value.int .i64 ((mns (1, 0) (0, 0)).2)]) tp23_gb rfl rfl bx286 rfl (Nat.le_of_ble_eq_true rfl) (AllOne.all (.cons rfl (.cons rfl .nil))) rfl ?_
    intro w299 ch300 bx301
    clear bx286
    have hs303 := hs298.seq (ch300.l rfl)
    refine ⟨hs303.same, ?_⟩
    refine h_nil (by kernel_rfl) ?_
    have C304 : Chg (inl [5, 7, 8, 9]) _ _ _ _ := (hb2.n).seq ((hb4.n).seq ((hb6.n).seq ((hb8.n).seq ((hb10.n).seq ((hb12.n).seq ((hb14.n).seq ((hb16.n).seq ((hb18.n).seq ((hb20.n).seq ((hb22.n).seq ((hb24.n).seq ((ch28.n).seq ((ch31.n).seq ((ch36.n).seq ((ch44.n).seq ((hb47.n).seq ((hb50.n).seq ((ch53.n).seq ((ch58.l rfl).seq ((ch64.n).seq ((ch69.l rfl).seq ((ch73.n).seq ((ch78.l rfl).seq ((ch85.n).seq ((ch91.l rfl).seq ((ch94.n).seq ((ch96.n).seq ((ch236.n).seq ((ch283.n).seq ((hb289.n).seq ((hb292.n).seq ((ch295.l rfl).seq (ch300.l rfl)))))))))))))))))))))))))))))))))
    replace hbase := hbase.chg C304 (is_nl rfl)
    replace o92 := o92.chg ch96 (not_no _) (not_no _)
    replace bx296 := bx296.chg ch300 (is_ne rfl)
    exact mid (b237, b284, g285) _ _ ⟨hbase, rfl, rfl, rfl, rfl, (o29.chg hs303 (is_nl rfl) (is_nl rfl)), (bx34.chg hs303 (is_nl rfl)), (bx39.chg hs303 (is_nl rfl)), (o92.chg hs303 (is_nl rfl) (is_nl rfl)), bx296, bx301⟩
  ·
   refine o_alloc g88 (is 9) (9, 0) rfl tp23_gb ?_
   intro g308 w305 b307 ch306 bx309
   replace bx309 : Bx g308 (is 9) w305 b307 [Value.int .i64 0, Value.int .i64 0] := bx309
   have hs310 : Chg (inl [8, 9]) _ _ _ _ := ch306.n
   refine ⟨hs310.same, ?_⟩
   refine h_many 5 [12] (by kernel_rfl) ⟨h_of 5 rfl (by kernel_rfl) rfl ?_, h_of 12 rfl (by kernel_rfl) rfl ?_, trivial⟩
   ·
    refine o_call (v := Value.agg (List.toArray [Value.int .i64 ((mns (0, 1) (0, 0)).1), Value.int .i64 ((mns (0, 1) (0, 0)).2)])) (e_call (vals := [Value.agg (List.toArray [Value.int .i64 0, Value.int .i64 1]), Value.agg (List.toArray [Value.int .i64 0, Value.int .i64 0])]) Try.func40 bd40_gb nm40_gb rfl) (minus_ok w305 (0, 1) (0, 0) (by (unfold bdP; decide)) (by (unfold bdP; decide))) ?_
    intro w311 hb312
    replace hb312 := chg_below hb312 g308
    have hs313 := hs310.seq (hb312.n)
    refine ⟨hs313.same, ?_⟩
    refine h_many 11 [12] (by kernel_rfl) ⟨h_of 11 rfl (by kernel_rfl) rfl ?_, h_of 12 rfl (by kernel_rfl) rfl ?_, trivial⟩
    ·
     refine o_call (v := Value.agg (List.toArray [Value.int .i64 ((mns (1, 0) (0, 0)).1), Value.int .i64 ((mns (1, 0) (0, 0)).2)])) (e_call (vals := [Value.agg (List.toArray [Value.int .i64 1, Value.int .i64 0]), Value.agg (List.toArray [Value.int .i64 0, Value.int .i64 0])]) Try.func40 bd40_gb nm40_gb rfl) (minus_ok w311 (1, 0) (0, 0) (by (unfold bdP; decide)) (by (unfold bdP; decide))) ?_
     intro w314 hb315
     replace hb315 := chg_below hb315 g308
     have hs316 := hs313.seq (hb315.n)
     refine ⟨hs316.same, ?_⟩
     refine h_one 12 rfl (by kernel_rfl) rfl ?_
     refine o_alloc g308 (is 8) (8, 0) rfl tp23_gb ?_
     intro g320 w317 b319 ch318 bx321
     replace bx321 : Bx g320 (is 8) w317 b319 [Value.int .i64 0, Value.int .i64 0] := bx321
     have hs322 := hs316.seq (ch318.n)
     refine ⟨hs322.same, ?_⟩
     refine h_one 14 rfl (by kernel_rfl) rfl ?_
     refine o_store_bx (cs' := [Value.int .i64 ((mns (0, 1) (0, 0)).1), Value.int .i64 ((mns (0, 1) (0, 0)).2)]) tp23_gb rfl rfl bx321 rfl (Nat.le_of_ble_eq_true rfl) (AllOne.all (.cons rfl (.cons rfl .nil))) rfl ?_
     intro w323 ch324 bx325
     clear bx321
     have hs326 := hs322.seq (ch324.l rfl)
     refine ⟨hs326.same, ?_⟩
     refine h_one 15 rfl (by kernel_rfl) rfl ?_
     have C330 : Chg (inl [8]) _ _ _ _ := (hb312.n).seq ((hb315.n).seq ((ch318.n).seq (ch324.l rfl)))
     replace bx309 := bx309.chg C330 (is_nl rfl)
     refine o_store_bx (cs' := [Value.int .i64 ((mns (1, 0) (0, 0)).1), Value.int .i64 ((mns (1, 0) (0, 0)).2)]) tp23_gb rfl rfl bx309 rfl (Nat.le_of_ble_eq_true rfl) (AllOne.all (.cons rfl (.cons rfl .nil))) rfl ?_
     intro w327 ch328 bx329
     clear bx309
     have hs331 := hs326.seq (ch328.l rfl)
     refine ⟨hs331.same, ?_⟩
     refine h_nil (by kernel_rfl) ?_
     have C332 : Chg (inl [5, 7, 8, 9]) _ _ _ _ := (hb2.n).seq ((hb4.n).seq ((hb6.n).seq ((hb8.n).seq ((hb10.n).seq ((hb12.n).seq ((hb14.n).seq ((hb16.n).seq ((hb18.n).seq ((hb20.n).seq ((hb22.n).seq ((hb24.n).seq ((ch28.n).seq ((ch31.n).seq ((ch36.n).seq ((ch44.n).seq ((hb47.n).seq ((hb50.n).seq ((ch53.n).seq ((ch58.l rfl).seq ((ch64.n).seq ((ch69.l rfl).seq ((ch73.n).seq ((ch78.l rfl).seq ((ch85.n).seq ((ch91.l rfl).seq ((ch94.n).seq ((ch96.n).seq ((ch306.n).seq ((hb312.n).seq ((hb315.n).seq ((ch318.n).seq ((ch324.l rfl).seq (ch328.l rfl)))))))))))))))))))))))))))))))))
     replace hbase := hbase.chg C332 (is_nl rfl)
     replace o92 := o92.chg ch96 (not_no _) (not_no _)
     replace bx325 := bx325.chg ch328 (is_ne rfl)
     exact mid (b319, b307, g320) _ _ ⟨hbase, rfl, rfl, rfl, rfl, (o29.chg hs331 (is_nl rfl) (is_nl rfl)), (bx34.chg hs331 (is_nl rfl)), (bx39.chg hs331 (is_nl rfl)), (o92.chg hs331 (is_nl rfl) (is_nl rfl)), bx325, bx329⟩
    ·
     refine o_alloc g308 (is 8) (8, 0) rfl tp23_gb ?_
     intro g336 w333 b335 ch334 bx337
     replace bx337 : Bx g336 (is 8) w333 b335 [Value.int .i64 0, Value.int .i64 0] := bx337
     have hs338 := hs313.seq (ch334.n)
     refine ⟨hs338.same, ?_⟩
     refine h_one 11 rfl (by kernel_rfl) rfl ?_
     refine o_call (v := Value.agg (List.toArray [Value.int .i64 ((mns (1, 0) (0, 0)).1), Value.int .i64 ((mns (1, 0) (0, 0)).2)])) (e_call (vals := [Value.agg (List.toArray [Value.int .i64 1, Value.int .i64 0]), Value.agg (List.toArray [Value.int .i64 0, Value.int .i64 0])]) Try.func40 bd40_gb nm40_gb rfl) (minus_ok w333 (1, 0) (0, 0) (by (unfold bdP; decide)) (by (unfold bdP; decide))) ?_
     intro w339 hb340
     replace hb340 := chg_below hb340 g336
     have hs341 := hs338.seq (hb340.n)
     refine ⟨hs341.same, ?_⟩
     refine h_one 14 rfl (by kernel_rfl) rfl ?_
     replace bx337 := bx337.chg hb340 (not_no _)
     refine o_store_bx (cs' := [Value.int .i64 ((mns (0, 1) (0, 0)).1), Value.int .i64 ((mns (0, 1) (0, 0)).2)]) tp23_gb rfl rfl bx337 rfl (Nat.le_of_ble_eq_true rfl) (AllOne.all (.cons rfl (.cons rfl .nil))) rfl ?_
     intro w342 ch343 bx344
     clear bx337
     have hs345 := hs341.seq (ch343.l rfl)
     refine ⟨hs345.same, ?_⟩
     refine h_one 15 rfl (by kernel_rfl) rfl ?_
     have C349 : Chg (inl [8]) _ _ _ _ := (hb312.n).seq ((ch334.n).seq ((hb340.n).seq (ch343.l rfl)))
     replace bx309 := bx309.chg C349 (is_nl rfl)
     refine o_store_bx (cs' := [Value.int .i64 ((mns (1, 0) (0, 0)).1), Value.int .i64 ((mns (1, 0) (0, 0)).2)]) tp23_gb rfl rfl bx309 rfl (Nat.le_of_ble_eq_true rfl) (AllOne.all (.cons rfl (.cons rfl .nil))) rfl ?_
     intro w346 ch347 bx348
     clear bx309
     have hs350 := hs345.seq (ch347.l rfl)
     refine ⟨hs350.same, ?_⟩
     refine h_nil (by kernel_rfl) ?_
     have C351 : Chg (inl [5, 7, 8, 9]) _ _ _ _ := (hb2.n).seq ((hb4.n).seq ((hb6.n).seq ((hb8.n).seq ((hb10.n).seq ((hb12.n).seq ((hb14.n).seq ((hb16.n).seq ((hb18.n).seq ((hb20.n).seq ((hb22.n).seq ((hb24.n).seq ((ch28.n).seq ((ch31.n).seq ((ch36.n).seq ((ch44.n).seq ((hb47.n).seq ((hb50.n).seq ((ch53.n).seq ((ch58.l rfl).seq ((ch64.n).seq ((ch69.l rfl).seq ((ch73.n).seq ((ch78.l rfl).seq ((ch85.n).seq ((ch91.l rfl).seq ((ch94.n).seq ((ch96.n).seq ((ch306.n).seq ((hb312.n).seq ((ch334.n).seq ((hb340.n).seq ((ch343.l rfl).seq (ch347.l rfl)))))))))))))))))))))))))))))))))
     replace hbase := hbase.chg C351 (is_nl rfl)
     replace o92 := o92.chg ch96 (not_no _) (not_no _)
     replace bx344 := bx344.chg ch347 (is_ne rfl)
     exact mid (b335, b307, g336) _ _ ⟨hbase, rfl, rfl, rfl, rfl, (o29.chg hs350 (is_nl rfl) (is_nl rfl)), (bx34.chg hs350 (is_nl rfl)), (bx39.chg hs350 (is_nl rfl)), (o92.chg hs350 (is_nl rfl) (is_nl rfl)), bx344, bx348⟩
   ·
    refine o_alloc g308 (is 8) (8, 0) rfl tp23_gb ?_
    intro g355 w352 b354 ch353 bx356
    replace bx356 : Bx g355 (is 8) w352 b354 [Value.int .i64 0, Value.int .i64 0] := bx356
    have hs357 := hs310.seq (ch353.n)
    refine ⟨hs357.same, ?_⟩
    refine h_one 5 rfl (by kernel_rfl) rfl ?_
    refine o_call (v := Value.agg (List.toArray [Value.int .i64 ((mns (0, 1) (0, 0)).1), Value.int .i64 ((mns (0, 1) (0, 0)).2)])) (e_call (vals := [Value.agg (List.toArray [Value.int .i64 0, Value.int .i64 1]), Value.agg (List.toArray [Value.int .i64 0, Value.int .i64 0])]) Try.func40 bd40_gb nm40_gb rfl) (minus_ok w352 (0, 1) (0, 0) (by (unfold bdP; decide)) (by (unfold bdP; decide))) ?_
    intro w358 hb359
    replace hb359 := chg_below hb359 g355
    have hs360 := hs357.seq (hb359.n)
    refine ⟨hs360.same, ?_⟩
    refine h_one 11 rfl (by kernel_rfl) rfl ?_
    refine o_call (v := Value.agg (List.toArray [Value.int .i64 ((mns (1, 0) (0, 0)).1), Value.int .i64 ((mns (1, 0) (0, 0)).2)])) (e_call (vals := [Value.agg (List.toArray [Value.int .i64 1, Value.int .i64 0]), Value.agg (List.toArray [Value.int .i64 0, Value.int .i64 0])]) Try.func40 bd40_gb nm40_gb rfl) (minus_ok w358 (1, 0) (0, 0) (by (unfold bdP; decide)) (by (unfold bdP; decide))) ?_
    intro w361 hb362
    replace hb362 := chg_below hb362 g355
    have hs363 := hs360.seq (hb362.n)
    refine ⟨hs363.same, ?_⟩
    refine h_one 14 rfl (by kernel_rfl) rfl ?_
    replace bx356 := (bx356.chg hb359 (not_no _)).chg hb362 (not_no _)
    refine o_store_bx (cs' := [Value.int .i64 ((mns (0, 1) (0, 0)).1), Value.int .i64 ((mns (0, 1) (0, 0)).2)]) tp23_gb rfl rfl bx356 rfl (Nat.le_of_ble_eq_true rfl) (AllOne.all (.cons rfl (.cons rfl .nil))) rfl ?_
    intro w364 ch365 bx366
    clear bx356
    have hs367 := hs363.seq (ch365.l rfl)
    refine ⟨hs367.same, ?_⟩
    refine h_one 15 rfl (by kernel_rfl) rfl ?_
    have C371 : Chg (inl [8]) _ _ _ _ := (ch353.n).seq ((hb359.n).seq ((hb362.n).seq (ch365.l rfl)))
    replace bx309 := bx309.chg C371 (is_nl rfl)
    refine o_store_bx (cs' := [Value.int .i64 ((mns (1, 0) (0, 0)).1), Value.int .i64 ((mns (1, 0) (0, 0)).2)]) tp23_gb rfl rfl bx309 rfl (Nat.le_of_ble_eq_true rfl) (AllOne.all (.cons rfl (.cons rfl .nil))) rfl ?_
    intro w368 ch369 bx370
    clear bx309
    have hs372 := hs367.seq (ch369.l rfl)
    refine ⟨hs372.same, ?_⟩
    refine h_nil (by kernel_rfl) ?_
    have C373 : Chg (inl [5, 7, 8, 9]) _ _ _ _ := (hb2.n).seq ((hb4.n).seq ((hb6.n).seq ((hb8.n).seq ((hb10.n).seq ((hb12.n).seq ((hb14.n).seq ((hb16.n).seq ((hb18.n).seq ((hb20.n).seq ((hb22.n).seq ((hb24.n).seq ((ch28.n).seq ((ch31.n).seq ((ch36.n).seq ((ch44.n).seq ((hb47.n).seq ((hb50.n).seq ((ch53.n).seq ((ch58.l rfl).seq ((ch64.n).seq ((ch69.l rfl).seq ((ch73.n).seq ((ch78.l rfl).seq ((ch85.n).seq ((ch91.l rfl).seq ((ch94.n).seq ((ch96.n).seq ((ch306.n).seq ((ch353.n).seq ((hb359.n).seq ((hb362.n).seq ((ch365.l rfl).seq (ch369.l rfl)))))))))))))))))))))))))))))))))
    replace hbase := hbase.chg C373 (is_nl rfl)
    replace o92 := o92.chg ch96 (not_no _) (not_no _)
    replace bx366 := bx366.chg ch369 (is_ne rfl)
    exact mid (b354, b307, g355) _ _ ⟨hbase, rfl, rfl, rfl, rfl, (o29.chg hs372 (is_nl rfl) (is_nl rfl)), (bx34.chg hs372 (is_nl rfl)), (bx39.chg hs372 (is_nl rfl)), (o92.chg hs372 (is_nl rfl) (is_nl rfl)), bx366, bx370⟩
 clear o29
 clear bx34
 clear bx39
 clear o92
 clear hbase
 rintro ⟨b109, b115, g376⟩ f374 w375 ⟨hbase, zs0_c7, zs1_c7, zs7_c7, zs8_c7, o29, bx34, bx39, o92, bx121, bx125⟩
 refine run_seq ?_
 refine run_region_h g376 (inl []) mixed_gb ?_
 intro w378 ch377
 replace bx121 := bx121.chg ch377 (not_no _)
 refine h_take (v := Value.agg (List.toArray [Value.int .i64 ((mns (0, 1) (0, 0)).1), Value.int .i64 ((mns (0, 1) (0, 0)).2)])) 0 rfl (by kernel_rfl) (by kernel_rfl) rfl (Chg.refl _ _ _) (fun w' hw' => e_load_bxN (ds := [Value.int .i64 ((mns (0, 1) (0, 0)).1), Value.int .i64 ((mns (0, 1) (0, 0)).2)]) tp23_gb (by exact zs7_c7) (bx121.chg hw' (is_nl rfl)) rfl rfl) ?_
 replace bx125 := bx125.chg ch377 (not_no _)
 refine h_take (v := Value.agg (List.toArray [Value.int .i64 ((mns (1, 0) (0, 0)).1), Value.int .i64 ((mns (1, 0) (0, 0)).2)])) 2 rfl (by kernel_rfl) (by kernel_rfl) rfl (Chg.refl _ _ _) (fun w' hw' => e_load_bxN (ds := [Value.int .i64 ((mns (1, 0) (0, 0)).1), Value.int .i64 ((mns (1, 0) (0, 0)).2)]) tp23_gb (by exact zs8_c7) (bx125.chg hw' (is_nl rfl)) rfl rfl) ?_
 refine h_take (v := Value.agg (List.toArray [Value.int .i64 ((mns (0, 1) (0, 0)).1), Value.int .i64 ((mns (0, 1) (0, 0)).2)])) 5 rfl (by kernel_rfl) (by kernel_rfl) rfl (Chg.refl _ _ _) (fun w' hw' => e_load_bxN (ds := [Value.int .i64 ((mns (0, 1) (0, 0)).1), Value.int .i64 ((mns (0, 1) (0, 0)).2)]) tp23_gb (by exact zs7_c7) (bx121.chg hw' (is_nl rfl)) rfl rfl) ?_
 refine h_take (v := Value.agg (List.toArray [Value.int .i64 ((mns (1, 0) (0, 0)).1), Value.int .i64 ((mns (1, 0) (0, 0)).2)])) 6 rfl (by kernel_rfl) (by kernel_rfl) rfl (Chg.refl _ _ _) (fun w' hw' => e_load_bxN (ds := [Value.int .i64 ((mns (1, 0) (0, 0)).1), Value.int .i64 ((mns (1, 0) (0, 0)).2)]) tp23_gb (by exact zs8_c7) (bx125.chg hw' (is_nl rfl)) rfl rfl) ?_
 refine h_take (v := Value.pointer (some ⟨b109, 0, none⟩)) 9 rfl (by kernel_rfl) (by kernel_rfl) rfl (Chg.refl _ _ _) (fun w' hw' => e_fieldAddr Try.underlying23 rfl rfl (by exact zs7_c7) rfl) ?_
 refine h_take (v := Value.int .i64 ((mns (0, 1) (0, 0)).1)) 10 rfl (by kernel_rfl) (by kernel_rfl) rfl (Chg.refl _ _ _) (fun w' hw' => e_load_bx1 tp3_gb rfl (bx121.chg hw' (is_nl rfl)) rfl) ?_
 refine h_take (v := Value.pointer (some ⟨b109, 0, none⟩)) 11 rfl (by kernel_rfl) (by kernel_rfl) rfl (Chg.refl _ _ _) (fun w' hw' => e_fieldAddr Try.underlying23 rfl rfl (by exact zs7_c7) rfl) ?_
 refine h_take (v := Value.int .i64 ((mns (0, 1) (0, 0)).1)) 12 rfl (by kernel_rfl) (by kernel_rfl) rfl (Chg.refl _ _ _) (fun w' hw' => e_load_bx1 tp3_gb rfl (bx121.chg hw' (is_nl rfl)) rfl) ?_
 refine h_take (v := Value.int .i64 (((mns (0, 1) (0, 0)).1) * ((mns (0, 1) (0, 0)).1))) 13 rfl (by kernel_rfl) (by kernel_rfl) rfl (Chg.refl _ _ _) (fun w' hw' => e_mul (m := (mns (0, 1) (0, 0)).1) (n := (mns (0, 1) (0, 0)).1) rfl rfl (by (simp only [inI, mns]; decide))) ?_
 refine h_take (v := Value.pointer (some ⟨b109, 1, none⟩)) 14 rfl (by kernel_rfl) (by kernel_rfl) rfl (Chg.refl _ _ _) (fun w' hw' => e_fieldAddr Try.underlying23 rfl rfl (by exact zs7_c7) rfl) ?_
 refine h_take (v := Value.int .i64 ((mns (0, 1) (0, 0)).2)) 15 rfl (by kernel_rfl) (by kernel_rfl) rfl (Chg.refl _ _ _) (fun w' hw' => e_load_bx1 tp3_gb rfl (bx121.chg hw' (is_nl rfl)) rfl) ?_
 refine h_take (v := Value.pointer (some ⟨b109, 1, none⟩)) 16 rfl (by kernel_rfl) (by kernel_rfl) rfl (Chg.refl _ _ _) (fun w' hw' => e_fieldAddr Try.underlying23 rfl rfl (by exact zs7_c7) rfl) ?_
 refine h_take (v := Value.int .i64 ((mns (0, 1) (0, 0)).2)) 17 rfl (by kernel_rfl) (by kernel_rfl) rfl (Chg.refl _ _ _) (fun w' hw' => e_load_bx1 tp3_gb rfl (bx121.chg hw' (is_nl rfl)) rfl) ?_
 refine h_take (v := Value.int .i64 (((mns (0, 1) (0, 0)).2) * ((mns (0, 1) (0, 0)).2))) 18 rfl (by kernel_rfl) (by kernel_rfl) rfl (Chg.refl _ _ _) (fun w' hw' => e_mul (m := (mns (0, 1) (0, 0)).2) (n := (mns (0, 1) (0, 0)).2) rfl rfl (by (simp only [inI, mns]; decide))) ?_
 refine h_take (v := Value.int .i64 ((((mns (0, 1) (0, 0)).1) * ((mns (0, 1) (0, 0)).1)) + (((mns (0, 1) (0, 0)).2) * ((mns (0, 1) (0, 0)).2)))) 19 rfl (by kernel_rfl) (by kernel_rfl) rfl (Chg.refl _ _ _) (fun w' hw' => e_add (m := ((mns (0, 1) (0, 0)).1) * ((mns (0, 1) (0, 0)).1)) (n := ((mns (0, 1) (0, 0)).2) * ((mns (0, 1) (0, 0)).2)) rfl rfl (by (simp only [inI, mns]; decide))) ?_
 refine h_take (v := Value.pointer (some ⟨b115, 0, none⟩)) 20 rfl (by kernel_rfl) (by kernel_rfl) rfl (Chg.refl _ _ _) (fun w' hw' => e_fieldAddr Try.underlying23 rfl rfl (by exact zs8_c7) rfl) ?_
 refine h_take (v := Value.int .i64 ((mns (1, 0) (0, 0)).1)) 21 rfl (by kernel_rfl) (by kernel_rfl) rfl (Chg.refl _ _ _) (fun w' hw' => e_load_bx1 tp3_gb rfl (bx125.chg hw' (is_nl rfl)) rfl) ?_
 refine h_take (v := Value.pointer (some ⟨b115, 0, none⟩)) 22 rfl (by kernel_rfl) (by kernel_rfl) rfl (Chg.refl _ _ _) (fun w' hw' => e_fieldAddr Try.underlying23 rfl rfl (by exact zs8_c7) rfl) ?_
 refine h_take (v := Value.int .i64 ((mns (1, 0) (0, 0)).1)) 23 rfl (by kernel_rfl) (by kernel_rfl) rfl (Chg.refl _ _ _) (fun w' hw' => e_load_bx1 tp3_gb rfl (bx125.chg hw' (is_nl rfl)) rfl) ?_
 refine h_take (v := Value.int .i64 (((mns (1, 0) (0, 0)).1) * ((mns (1, 0) (0, 0)).1))) 24 rfl (by kernel_rfl) (by kernel_rfl) rfl (Chg.refl _ _ _) (fun w' hw' => e_mul (m := (mns (1, 0) (0, 0)).1) (n := (mns (1, 0) (0, 0)).1) rfl rfl (by (simp only [inI, mns]; decide))) ?_
 refine h_take (v := Value.pointer (some ⟨b115, 1, none⟩)) 25 rfl (by kernel_rfl) (by kernel_rfl) rfl (Chg.refl _ _ _) (fun w' hw' => e_fieldAddr Try.underlying23 rfl rfl (by exact zs8_c7) rfl) ?_
 refine h_take (v := Value.int .i64 ((mns (1, 0) (0, 0)).2)) 26 rfl (by kernel_rfl) (by kernel_rfl) rfl (Chg.refl _ _ _) (fun w' hw' => e_load_bx1 tp3_gb rfl (bx125.chg hw' (is_nl rfl)) rfl) ?_
 refine h_take (v := Value.pointer (some ⟨b115, 1, none⟩)) 27 rfl (by kernel_rfl) (by kernel_rfl) rfl (Chg.refl _ _ _) (fun w' hw' => e_fieldAddr Try.underlying23 rfl rfl (by exact zs8_c7) rfl) ?_
 refine h_take (v := Value.int .i64 ((mns (1, 0) (0, 0)).2)) 28 rfl (by kernel_rfl) (by kernel_rfl) rfl (Chg.refl _ _ _) (fun w' hw' => e_load_bx1 tp3_gb rfl (bx125.chg hw' (is_nl rfl)) rfl) ?_
 refine h_take (v := Value.int .i64 (((mns (1, 0) (0, 0)).2) * ((mns (1, 0) (0, 0)).2))) 29 rfl (by kernel_rfl) (by kernel_rfl) rfl (Chg.refl _ _ _) (fun w' hw' => e_mul (m := (mns (1, 0) (0, 0)).2) (n := (mns (1, 0) (0, 0)).2) rfl rfl (by (simp only [inI, mns]; decide))) ?_
 refine h_take (v := Value.int .i64 ((((mns (1, 0) (0, 0)).1) * ((mns (1, 0) (0, 0)).1)) + (((mns (1, 0) (0, 0)).2) * ((mns (1, 0) (0, 0)).2)))) 30 rfl (by kernel_rfl) (by kernel_rfl) rfl (Chg.refl _ _ _) (fun w' hw' => e_add (m := ((mns (1, 0) (0, 0)).1) * ((mns (1, 0) (0, 0)).1)) (n := ((mns (1, 0) (0, 0)).2) * ((mns (1, 0) (0, 0)).2)) rfl rfl (by (simp only [inI, mns]; decide))) ?_
 refine h_take (v := Value.int .i64 1) 32 rfl (by kernel_rfl) (by kernel_rfl) rfl (Chg.refl _ _ _) (fun w' hw' => e_move (by exact zs0_c7)) ?_
 refine h_take (v := Value.int .i64 0) 33 rfl (by kernel_rfl) (by kernel_rfl) rfl (Chg.refl _ _ _) (fun w' hw' => e_move (by exact zs1_c7)) ?_
 refine h_one 1 rfl (by kernel_rfl) rfl ?_
 refine o_call (v := Value.int .i64 (halfS (mns (0, 1) (0, 0)))) (e_call (vals := [Value.agg (List.toArray [Value.int .i64 ((mns (0, 1) (0, 0)).1), Value.int .i64 ((mns (0, 1) (0, 0)).2)])]) Try.func43 bd43_gb nm43_gb rfl) (half_ok w378 (mns (0, 1) (0, 0))) ?_
 intro w379 hb380
 replace hb380 := chg_below hb380 g376
 have hs381 : Chg (inl []) _ _ _ _ := hb380.n
 refine ⟨hs381.same, ?_⟩
 refine h_one 3 rfl (by kernel_rfl) rfl ?_
 refine o_call (v := Value.int .i64 (halfS (mns (1, 0) (0, 0)))) (e_call (vals := [Value.agg (List.toArray [Value.int .i64 ((mns (1, 0) (0, 0)).1), Value.int .i64 ((mns (1, 0) (0, 0)).2)])]) Try.func43 bd43_gb nm43_gb rfl) (half_ok w379 (mns (1, 0) (0, 0))) ?_
 intro w382 hb383
 replace hb383 := chg_below hb383 g376
 have hs384 := hs381.seq (hb383.n)
 refine ⟨hs384.same, ?_⟩
 refine h_one 4 rfl (by kernel_rfl) rfl ?_
 refine o_call (v := Value.int .i64 (cmpI (halfS (mns (0, 1) (0, 0))) (halfS (mns (1, 0) (0, 0))))) (e_call (vals := [Value.int .i64 (halfS (mns (0, 1) (0, 0))), Value.int .i64 (halfS (mns (1, 0) (0, 0)))]) Try.func42 bd42_gb nm42_gb rfl) (Compare_ok w382 (halfS (mns (0, 1) (0, 0))) (halfS (mns (1, 0) (0, 0)))) ?_
 intro w385 hb386
 replace hb386 := chg_below hb386 g376
 have hs387 := hs384.seq (hb386.n)
 refine ⟨hs387.same, ?_⟩
 refine h_one 7 rfl (by kernel_rfl) rfl ?_
 refine o_call (v := Value.int .i64 (crs (mns (0, 1) (0, 0)) (mns (1, 0) (0, 0)))) (e_call (vals := [Value.agg (List.toArray [Value.int .i64 ((mns (0, 1) (0, 0)).1), Value.int .i64 ((mns (0, 1) (0, 0)).2)]), Value.agg (List.toArray [Value.int .i64 ((mns (1, 0) (0, 0)).1), Value.int .i64 ((mns (1, 0) (0, 0)).2)])]) Try.func44 bd44_gb nm44_gb rfl) (cross_ok w385 (mns (0, 1) (0, 0)) (mns (1, 0) (0, 0)) (by (unfold bdW mns; decide)) (by (unfold bdW mns; decide))) ?_
 intro w388 hb389
 replace hb389 := chg_below hb389 g376
 have hs390 := hs387.seq (hb389.n)
 refine ⟨hs390.same, ?_⟩
 refine h_one 8 rfl (by kernel_rfl) rfl ?_
 refine o_call (v := Value.int .i64 (cmpI (crs (mns (0, 1) (0, 0)) (mns (1, 0) (0, 0))) 0)) (e_call (vals := [Value.int .i64 (crs (mns (0, 1) (0, 0)) (mns (1, 0) (0, 0))), Value.int .i64 0]) Try.func42 bd42_gb nm42_gb rfl) (Compare_ok w388 (crs (mns (0, 1) (0, 0)) (mns (1, 0) (0, 0))) 0) ?_
 intro w391 hb392
 replace hb392 := chg_below hb392 g376
 have hs393 := hs390.seq (hb392.n)
 refine ⟨hs393.same, ?_⟩
 refine h_one 31 rfl (by kernel_rfl) rfl ?_
 refine o_call (v := Value.int .i64 (cmpI ((((mns (0, 1) (0, 0)).1) * ((mns (0, 1) (0, 0)).1)) + (((mns (0, 1) (0, 0)).2) * ((mns (0, 1) (0, 0)).2))) ((((mns (1, 0) (0, 0)).1) * ((mns (1, 0) (0, 0)).1)) + (((mns (1, 0) (0, 0)).2) * ((mns (1, 0) (0, 0)).2))))) (e_call (vals := [Value.int .i64 ((((mns (0, 1) (0, 0)).1) * ((mns (0, 1) (0, 0)).1)) + (((mns (0, 1) (0, 0)).2) * ((mns (0, 1) (0, 0)).2))), Value.int .i64 ((((mns (1, 0) (0, 0)).1) * ((mns (1, 0) (0, 0)).1)) + (((mns (1, 0) (0, 0)).2) * ((mns (1, 0) (0, 0)).2)))]) Try.func42 bd42_gb nm42_gb rfl) (Compare_ok w391 ((((mns (0, 1) (0, 0)).1) * ((mns (0, 1) (0, 0)).1)) + (((mns (0, 1) (0, 0)).2) * ((mns (0, 1) (0, 0)).2))) ((((mns (1, 0) (0, 0)).1) * ((mns (1, 0) (0, 0)).1)) + (((mns (1, 0) (0, 0)).2) * ((mns (1, 0) (0, 0)).2)))) ?_
 intro w394 hb395
 replace hb395 := chg_below hb395 g376
 have hs396 := hs393.seq (hb395.n)
 refine ⟨hs396.same, ?_⟩
 refine h_one 34 rfl (by kernel_rfl) rfl ?_
 refine o_call (v := Value.int .i64 (cmpI 1 0)) (e_call (vals := [Value.int .i64 1, Value.int .i64 0]) Try.func42 bd42_gb nm42_gb rfl) (Compare_ok w394 1 0) ?_
 intro w397 hb398
 replace hb398 := chg_below hb398 g376
 have hs399 := hs396.seq (hb398.n)
 refine ⟨hs399.same, ?_⟩
 refine h_one 35 rfl (by kernel_rfl) rfl ?_
 refine o_buildSlice (α := Int) g376 (is 10) (is 10) (10, 0) rfl ([cmpI (halfS (mns (0, 1) (0, 0))) (halfS (mns (1, 0) (0, 0))), cmpI (crs (mns (0, 1) (0, 0)) (mns (1, 0) (0, 0))) 0, cmpI ((((mns (0, 1) (0, 0)).1) * ((mns (0, 1) (0, 0)).1)) + (((mns (0, 1) (0, 0)).2) * ((mns (0, 1) (0, 0)).2))) ((((mns (1, 0) (0, 0)).1) * ((mns (1, 0) (0, 0)).1)) + (((mns (1, 0) (0, 0)).2) * ((mns (1, 0) (0, 0)).2))), cmpI 1 0] : List Int) Try.underlying34 tp3_gb (by decide) (by decide) (vs := [(0, Value.int .i64 (cmpI (halfS (mns (0, 1) (0, 0))) (halfS (mns (1, 0) (0, 0))))), (1, Value.int .i64 (cmpI (crs (mns (0, 1) (0, 0)) (mns (1, 0) (0, 0))) 0)), (2, Value.int .i64 (cmpI ((((mns (0, 1) (0, 0)).1) * ((mns (0, 1) (0, 0)).1)) + (((mns (0, 1) (0, 0)).2) * ((mns (0, 1) (0, 0)).2))) ((((mns (1, 0) (0, 0)).1) * ((mns (1, 0) (0, 0)).1)) + (((mns (1, 0) (0, 0)).2) * ((mns (1, 0) (0, 0)).2))))), (3, Value.int .i64 (cmpI 1 0))]) rfl rfl (.cons rfl (.cons rfl (.cons rfl (.cons rfl .nil)))) ?_
 intro g400 w401 v402 ch403 o404
 have hs405 := hs399.seq (ch403.n)
 refine ⟨hs405.same, ?_⟩
 refine h_one 36 rfl (by kernel_rfl) rfl ?_
 refine o_call (v := Value.int .i64 (orL ([cmpI (halfS (mns (0, 1) (0, 0))) (halfS (mns (1, 0) (0, 0))), cmpI (crs (mns (0, 1) (0, 0)) (mns (1, 0) (0, 0))) 0, cmpI ((((mns (0, 1) (0, 0)).1) * ((mns (0, 1) (0, 0)).1)) + (((mns (0, 1) (0, 0)).2) * ((mns (0, 1) (0, 0)).2))) ((((mns (1, 0) (0, 0)).1) * ((mns (1, 0) (0, 0)).1)) + (((mns (1, 0) (0, 0)).2) * ((mns (1, 0) (0, 0)).2))), cmpI 1 0] : List Int))) (e_call (vals := [v402]) Try.func41 bd41_gb nm41_gb rfl) (Or_ok w401 ([cmpI (halfS (mns (0, 1) (0, 0))) (halfS (mns (1, 0) (0, 0))), cmpI (crs (mns (0, 1) (0, 0)) (mns (1, 0) (0, 0))) 0, cmpI ((((mns (0, 1) (0, 0)).1) * ((mns (0, 1) (0, 0)).1)) + (((mns (0, 1) (0, 0)).2) * ((mns (0, 1) (0, 0)).2))) ((((mns (1, 0) (0, 0)).1) * ((mns (1, 0) (0, 0)).1)) + (((mns (1, 0) (0, 0)).2) * ((mns (1, 0) (0, 0)).2))), cmpI 1 0] : List Int) v402 (o404.flat).ro) ?_
 intro w406 hb407
 replace hb407 := chg_below hb407 g400
 have hs408 := hs405.seq (hb407.n)
 refine ⟨hs408.same, ?_⟩
 refine h_take (v := Value.int .i64 (orL ([cmpI (halfS (mns (0, 1) (0, 0))) (halfS (mns (1, 0) (0, 0))), cmpI (crs (mns (0, 1) (0, 0)) (mns (1, 0) (0, 0))) 0, cmpI ((((mns (0, 1) (0, 0)).1) * ((mns (0, 1) (0, 0)).1)) + (((mns (0, 1) (0, 0)).2) * ((mns (0, 1) (0, 0)).2))) ((((mns (1, 0) (0, 0)).1) * ((mns (1, 0) (0, 0)).1)) + (((mns (1, 0) (0, 0)).2) * ((mns (1, 0) (0, 0)).2))), cmpI 1 0] : List Int))) 37 rfl (by kernel_rfl) (by kernel_rfl) rfl hs408.same (fun w' hw' => e_assign rfl) ?_
 refine h_nil (by kernel_rfl) ?_
 refine run_ret (vs := [Value.int .i64 (orL ([cmpI (halfS (mns (0, 1) (0, 0))) (halfS (mns (1, 0) (0, 0))), cmpI (crs (mns (0, 1) (0, 0)) (mns (1, 0) (0, 0))) 0, cmpI ((((mns (0, 1) (0, 0)).1) * ((mns (0, 1) (0, 0)).1)) + (((mns (0, 1) (0, 0)).2) * ((mns (0, 1) (0, 0)).2))) ((((mns (1, 0) (0, 0)).1) * ((mns (1, 0) (0, 0)).1)) + (((mns (1, 0) (0, 0)).2) * ((mns (1, 0) (0, 0)).2))), cmpI 1 0] : List Int))]) Try.func39 (.tmp rfl .nil) ?_
 refine ⟨Value.int .i64 (orL ([cmpI (halfS (mns (0, 1) (0, 0))) (halfS (mns (1, 0) (0, 0))), cmpI (crs (mns (0, 1) (0, 0)) (mns (1, 0) (0, 0))) 0, cmpI ((((mns (0, 1) (0, 0)).1) * ((mns (0, 1) (0, 0)).1)) + (((mns (0, 1) (0, 0)).2) * ((mns (0, 1) (0, 0)).2))) ((((mns (1, 0) (0, 0)).1) * ((mns (1, 0) (0, 0)).1)) + (((mns (1, 0) (0, 0)).2) * ((mns (1, 0) (0, 0)).2))), cmpI 1 0] : List Int)), rfl, ?_⟩
 refine x_pure (v := Value.bool (decide ((orL ([cmpI (halfS (mns (0, 1) (0, 0))) (halfS (mns (1, 0) (0, 0))), cmpI (crs (mns (0, 1) (0, 0)) (mns (1, 0) (0, 0))) 0, cmpI ((((mns (0, 1) (0, 0)).1) * ((mns (0, 1) (0, 0)).1)) + (((mns (0, 1) (0, 0)).2) * ((mns (0, 1) (0, 0)).2))) ((((mns (1, 0) (0, 0)).1) * ((mns (1, 0) (0, 0)).1)) + (((mns (1, 0) (0, 0)).2) * ((mns (1, 0) (0, 0)).2))), cmpI 1 0] : List Int)) < 0))) 15 rfl (by kernel_rfl) (by kernel_rfl) (want_y rfl rfl rfl rfl) (fun w => e_lss (m := orL ([cmpI (halfS (mns (0, 1) (0, 0))) (halfS (mns (1, 0) (0, 0))), cmpI (crs (mns (0, 1) (0, 0)) (mns (1, 0) (0, 0))) 0, cmpI ((((mns (0, 1) (0, 0)).1) * ((mns (0, 1) (0, 0)).1)) + (((mns (0, 1) (0, 0)).2) * ((mns (0, 1) (0, 0)).2))) ((((mns (1, 0) (0, 0)).1) * ((mns (1, 0) (0, 0)).1)) + (((mns (1, 0) (0, 0)).2) * ((mns (1, 0) (0, 0)).2))), cmpI 1 0] : List Int)) (n := 0) rfl rfl) ?_
 refine x_pure (v := Value.bool (decide ((orL ([cmpI (halfS (mns (0, 1) (0, 0))) (halfS (mns (1, 0) (0, 0))), cmpI (crs (mns (0, 1) (0, 0)) (mns (1, 0) (0, 0))) 0, cmpI ((((mns (0, 1) (0, 0)).1) * ((mns (0, 1) (0, 0)).1)) + (((mns (0, 1) (0, 0)).2) * ((mns (0, 1) (0, 0)).2))) ((((mns (1, 0) (0, 0)).1) * ((mns (1, 0) (0, 0)).1)) + (((mns (1, 0) (0, 0)).2) * ((mns (1, 0) (0, 0)).2))), cmpI 1 0] : List Int)) < 0))) 16 rfl (by kernel_rfl) (by kernel_rfl) rfl (fun w => e_pick_t rfl rfl rfl) ?_
 refine x_nil (by kernel_rfl) ?_
 have p4_c6 : (orL ([cmpI (halfS (mns (0, 1) (0, 0))) (halfS (mns (1, 0) (0, 0))), cmpI (crs (mns (0, 1) (0, 0)) (mns (1, 0) (0, 0))) 0, cmpI ((((mns (0, 1) (0, 0)).1) * ((mns (0, 1) (0, 0)).1)) + (((mns (0, 1) (0, 0)).2) * ((mns (0, 1) (0, 0)).2))) ((((mns (1, 0) (0, 0)).1) * ((mns (1, 0) (0, 0)).1)) + (((mns (1, 0) (0, 0)).2) * ((mns (1, 0) (0, 0)).2))), cmpI 1 0] : List Int)) < 0 := by decide
 refine run_cond_t rfl (decide_eq_true p4_c6) ?_
 refine run_skip ?_
 refine run_seq ?_
 refine run_block ?_
 clear bx121
 clear bx125
 clear o404
 refine run_region_x g400 [0, 1, 2, 3, 4, 5, 6, 7, 8, 9, 10, 11, 12, 13, 14, 16] mixed_gb ?_
 intro w410 ch409
 refine x_pure (v := v90) 0 rfl (by kernel_rfl) (by kernel_rfl) rfl (fun w => e_move rfl) ?_
 refine x_pure (v := Value.int .i64 1) 1 rfl (by kernel_rfl) (by kernel_rfl) rfl (fun w => e_move rfl) ?_
 refine x_pure (v := v90) 2 rfl (by kernel_rfl) (by kernel_rfl) rfl (fun w => e_move rfl) ?_
 refine x_pure (v := Value.int .i64 1) 3 rfl (by kernel_rfl) (by kernel_rfl) rfl (fun w => e_move rfl) ?_
 refine x_pure (v := Value.int .i64 0) 4 rfl (by kernel_rfl) (by kernel_rfl) rfl (fun w => e_sub (m := 1) (n := 1) rfl rfl (by omega)) ?_
 refine x_pure (v := v90) 5 rfl (by kernel_rfl) (by kernel_rfl) rfl (fun w => e_move rfl) ?_
 refine x_pure (v := Value.int .i64 1) 6 rfl (by kernel_rfl) (by kernel_rfl) rfl (fun w => e_move rfl) ?_
 refine x_pure (v := Value.int .i64 0) 7 rfl (by kernel_rfl) (by kernel_rfl) rfl (fun w => e_sub (m := 1) (n := 1) rfl rfl (by omega)) ?_
 have C411 : Chg (inl []) _ _ _ _ := (ch377.n).seq ((hb380.n).seq ((hb383.n).seq ((hb386.n).seq ((hb389.n).seq ((hb392.n).seq ((hb395.n).seq ((hb398.n).seq ((ch403.n).seq ((hb407.n).seq (ch409.n))))))))))
 replace o92 := o92.chg C411 (is_nl rfl) (is_nl rfl)
 refine x_val (v := Value.pointer (some (eAddr v90 1 (Int.toNat 0)))) 8 [7, 6, 5, 4, 3, 2, 1, 0, 10, 11, 12, 13] rfl (by kernel_rfl) (by kernel_rfl) rfl (e_indexAddr (α := Int) (xs := ([0, 1] : List Int)) (v := v90) (i := 0) Try.underlying34 rfl rfl o92.flat rfl (by omega) (by first | omega | (simp only [List.length_set, List.length_append, List.length_cons, List.length_nil, List.length_replicate, List.length_map, List.length_take, List.length_drop]; omega) | (simp; done) | (simp; omega))) ?_
 refine x_val (v := Value.int .i64 0) 9 [8, 7, 6, 5, 4, 3, 2, 1, 0, 10, 11, 12, 13] rfl (by kernel_rfl) (by kernel_rfl) rfl (e_load_el1 (α := Int) (xs := ([0, 1] : List Int)) (v := v90) (i := 0) tp3_gb rfl o92.flat (by omega) (by first | omega | (simp only [List.length_set, List.length_append, List.length_cons, List.length_nil, List.length_replicate, List.length_map, List.length_take, List.length_drop]; omega) | (simp; done) | (simp; omega)) (by decide) rfl) ?_
 refine x_pure (v := v90) 10 rfl (by kernel_rfl) (by kernel_rfl) rfl (fun w => e_move rfl) ?_
 refine x_pure (v := Value.int .i64 1) 11 rfl (by kernel_rfl) (by kernel_rfl) rfl (fun w => e_move rfl) ?_
 refine x_val (v := Value.pointer (some (eAddr v90 1 (Int.toNat 1)))) 12 [11, 10, 9, 8, 7, 6, 5, 4, 3, 2, 1, 0] rfl (by kernel_rfl) (by kernel_rfl) rfl (e_indexAddr (α := Int) (xs := ([0, 1] : List Int)) (v := v90) (i := 1) Try.underlying34 rfl rfl o92.flat rfl (by omega) (by first | omega | (simp only [List.length_set, List.length_append, List.length_cons, List.length_nil, List.length_replicate, List.length_map, List.length_take, List.length_drop]; omega) | (simp; done) | (simp; omega))) ?_
 refine x_val (v := Value.int .i64 1) 13 [12, 11, 10, 9, 8, 7, 6, 5, 4, 3, 2, 1, 0] rfl (by kernel_rfl) (by kernel_rfl) rfl (e_load_el1 (α := Int) (xs := ([0, 1] : List Int)) (v := v90) (i := 1) tp3_gb rfl o92.flat (by omega) (by first | omega | (simp only [List.length_set, List.length_append, List.length_cons, List.length_nil, List.length_replicate, List.length_map, List.length_take, List.length_drop]; omega) | (simp; done) | (simp; omega)) (by decide) rfl) ?_
 refine x_val (v := Value.pointer (some (eAddr v90 1 (Int.toNat 1)))) 14 [13, 12, 11, 10, 9, 8, 7, 6, 5, 4, 3, 2, 1, 0] rfl (by kernel_rfl) (by kernel_rfl) rfl (e_indexAddr (α := Int) (xs := ([0, 1] : List Int)) (v := v90) (i := 1) Try.underlying34 rfl rfl o92.flat rfl (by omega) (by first | omega | (simp only [List.length_set, List.length_append, List.length_cons, List.length_nil, List.length_replicate, List.length_map, List.length_take, List.length_drop]; omega) | (simp; done) | (simp; omega))) ?_
 refine x_one 15 rfl (by kernel_rfl) rfl ?_
 refine o_store_el (i := 1) 0 tp3_gb rfl rfl o92 (by omega) (by first | omega | (simp only [List.length_set, List.length_append, List.length_cons, List.length_nil, List.length_replicate, List.length_map, List.length_take, List.length_drop]; omega) | (simp; done) | (simp; omega)) rfl ?_
 intro w412 ch413 bx414
 clear o92
 replace bx414 : Ow g400 (is 7) (is 7) w412 v90 ([0, 0] : List Int) := bx414
 refine x_val (v := Value.pointer (some (eAddr v90 1 (Int.toNat 0)))) 16 [15, 14, 13, 12, 11, 10, 9, 8, 7, 6, 5, 4, 3, 2, 1, 0] rfl (by kernel_rfl) (by kernel_rfl) rfl (e_indexAddr (α := Int) (xs := ([0, 0] : List Int)) (v := v90) (i := 0) Try.underlying34 rfl rfl bx414.flat rfl (by omega) (by first | omega | (simp only [List.length_set, List.length_append, List.length_cons, List.length_nil, List.length_replicate, List.length_map, List.length_take, List.length_drop]; omega) | (simp; done) | (simp; omega))) ?_
 refine x_one 17 rfl (by kernel_rfl) rfl ?_
 refine o_store_el (i := 0) 1 tp3_gb rfl rfl bx414 (by omega) (by first | omega | (simp only [List.length_set, List.length_append, List.length_cons, List.length_nil, List.length_replicate, List.length_map, List.length_take, List.length_drop]; omega) | (simp; done) | (simp; omega)) rfl ?_
 intro w415 ch416 bx417
 clear bx414
 replace bx417 : Ow g400 (is 7) (is 7) w415 v90 ([1, 0] : List Int) := bx417
 refine x_nil (by kernel_rfl) ?_
 refine run_inBlock ?_
 refine run_region rfl ?_
 refine l_val (v := Value.int .i64 1) rfl (e_move rfl) ?_
 refine l_val (v := Value.int .i64 0) rfl (e_sub (m := 1) (n := 1) rfl rfl (by omega)) ?_
 refine l_val (v := Value.int .i64 0) rfl (e_assign rfl) ?_
 refine l_nil ?_
 refine run_inLoop ?_
 refine run_seq (run_seq ?_)
 refine run_region_x g400 [0, 1, 2, 3, 4, 5, 6, 7, 8, 9, 10, 11, 12, 13, 15, 16] mixed_gb ?_
 intro w419 ch418
 refine x_pure (v := Value.int .i64 0) 0 rfl (by kernel_rfl) (by kernel_rfl) rfl (fun w => e_move rfl) ?_
 refine x_pure (v := Value.int .i64 0) 1 rfl (by kernel_rfl) (by kernel_rfl) rfl (fun w => e_move rfl) ?_
 refine x_pure (v := Value.bool false) 2 rfl (by kernel_rfl) (by kernel_rfl) rfl (fun w => e_gtr (m := 0) (n := 0) rfl rfl) ?_
 refine x_pure (v := Value.bool false) 3 rfl (by kernel_rfl) (by kernel_rfl) rfl (fun w => e_move rfl) ?_
 refine x_skip 4 rfl (by kernel_rfl) (by kernel_rfl) (want_n rfl rfl rfl rfl) ?_
 refine x_skip 5 rfl (by kernel_rfl) (by kernel_rfl) (want_n rfl rfl rfl rfl) ?_
 refine x_skip 6 rfl (by kernel_rfl) (by kernel_rfl) (want_n rfl rfl rfl rfl) ?_
 refine x_skip 7 rfl (by kernel_rfl) (by kernel_rfl) (want_n rfl rfl rfl rfl) ?_
 refine x_skip 8 rfl (by kernel_rfl) (by kernel_rfl) (want_n rfl rfl rfl rfl) ?_
 refine x_skip 9 rfl (by kernel_rfl) (by kernel_rfl) (want_n rfl rfl rfl rfl) ?_
 refine x_skip 10 rfl (by kernel_rfl) (by kernel_rfl) (want_n rfl rfl rfl rfl) ?_
 refine x_skip 11 rfl (by kernel_rfl) (by kernel_rfl) (want_n rfl rfl rfl rfl) ?_
 refine x_skip 12 rfl (by kernel_rfl) (by kernel_rfl) (want_n rfl rfl rfl rfl) ?_
 refine x_skip 13 rfl (by kernel_rfl) (by kernel_rfl) (want_n rfl rfl rfl rfl) ?_
 refine x_skip1 14 rfl (by kernel_rfl) (want_n rfl rfl rfl rfl) ?_
 refine x_skip 15 rfl (by kernel_rfl) (by kernel_rfl) (want_n rfl rfl rfl rfl) ?_
 refine x_pure (v := Value.bool false) 16 rfl (by kernel_rfl) (by kernel_rfl) rfl (fun w => e_pick_f rfl rfl rfl) ?_
 refine x_nil (by kernel_rfl) ?_
 refine run_cond_f rfl rfl ?_
 refine run_exit rfl ?_
 refine run_inBlock ?_
 refine run_region rfl ?_
 refine l_val (v := Value.int .i64 1) rfl (e_move rfl) ?_
 refine l_val (v := Value.int .i64 2) rfl (e_add (m := 1) (n := 1) rfl rfl (by omega)) ?_
 refine l_val (v := Value.int .i64 2) rfl (e_assign rfl) ?_
 refine l_nil ?_
 refine run_inLoop ?_
 refine run_seq (run_seq (run_region rfl ?_))
 refine l_val (v := Value.int .i64 2) rfl (e_move rfl) ?_
 refine l_val (v := Value.int .i64 2) rfl (e_move rfl) ?_
 refine l_val (v := Value.bool false) rfl (e_lss (m := 2) (n := 2) rfl rfl) ?_
 refine l_nil ?_
 refine run_cond_f rfl rfl ?_
 refine run_exit rfl ?_
 refine run_end (vs := []) Try.func64 .nil ?_
 refine ⟨Value.tuple (List.toArray []), rfl, ?_⟩
 refine l_nil ?_
 refine run_ret (vs := []) Try.func57 .nil ?_
 refine ⟨Value.tuple (List.toArray []), rfl, ?_⟩
 refine l_nil ?_
 refine run_end (vs := []) Try.func38 .nil ?_
 refine ⟨Value.tuple (List.toArray []), rfl, ?_⟩
 refine l_nil (run_seq ?_)
 clear bx34
 clear bx39
 refine run_region rfl ?_
 refine l_val (v := v90) rfl (e_move rfl) ?_
 refine l_val (v := v90) rfl (e_assign rfl) ?_
 refine l_val (v := Value.int .i64 0) rfl (e_assign rfl) ?_
 refine l_nil ?_
 refine run_ret (vs := [v90, Value.int .i64 0]) Try.func18 (.tmp rfl (.tmp rfl .nil)) ?_
 refine ⟨Value.tuple (List.toArray [v90, Value.int .i64 0]), rfl, ?_⟩
 refine l_val (v := Value.tuple (List.toArray [v90, Value.int .i64 0])) rfl (e_move rfl) ?_
 refine l_val (v := v90) rfl (e_extract rfl rfl) ?_
 refine l_val (v := Value.int .i64 0) rfl (e_extract rfl rfl) ?_
 refine l_val (v := v90) rfl (e_assign rfl) ?_
 refine l_val (v := Value.int .i64 0) rfl (e_assign rfl) ?_
 refine l_nil (run_seq ?_)
 clear o29
 refine run_region rfl (l_op rfl ?_)
 refine o_call (v := Value.agg (List.toArray [Value.int .i64 0, Value.int .i64 0])) (e_call (vals := [Value.int .i64 0, Value.int .i64 0]) Try.func14 bd14_gb nm14_gb rfl) (pt_ok w419 0 0) ?_
 intro w420 hb421
 replace hb421 := chg_below hb421 g400
 refine l_op rfl ?_
 refine o_call (v := Value.agg (List.toArray [Value.int .i64 2, Value.int .i64 0])) (e_call (vals := [Value.int .i64 2, Value.int .i64 0]) Try.func14 bd14_gb nm14_gb rfl) (pt_ok w420 2 0) ?_
 intro w422 hb423
 replace hb423 := chg_below hb423 g400
 refine l_op rfl ?_
 refine o_call (v := Value.agg (List.toArray [Value.int .i64 2, Value.int .i64 1])) (e_call (vals := [Value.int .i64 2, Value.int .i64 1]) Try.func14 bd14_gb nm14_gb rfl) (pt_ok w422 2 1) ?_
 intro w424 hb425
 replace hb425 := chg_below hb425 g400
 refine l_op rfl ?_
 refine o_call (v := Value.agg (List.toArray [Value.int .i64 0, Value.int .i64 1])) (e_call (vals := [Value.int .i64 0, Value.int .i64 1]) Try.func14 bd14_gb nm14_gb rfl) (pt_ok w424 0 1) ?_
 intro w426 hb427
 replace hb427 := chg_below hb427 g400
 refine l_op rfl ?_
 refine o_buildSlice (α := (Int) × (Int)) g400 (is 11) (is 11) (11, 0) rfl ([(0, 0), (2, 0), (2, 1), (0, 1)] : List ((Int) × (Int))) Try.underlying25 tp23_gb (by decide) (by decide) (vs := [(0, Value.agg (List.toArray [Value.int .i64 0, Value.int .i64 0])), (1, Value.agg (List.toArray [Value.int .i64 2, Value.int .i64 0])), (2, Value.agg (List.toArray [Value.int .i64 2, Value.int .i64 1])), (3, Value.agg (List.toArray [Value.int .i64 0, Value.int .i64 1]))]) rfl rfl (.cons rfl (.cons rfl (.cons rfl (.cons rfl .nil)))) ?_
 intro g428 w429 v430 ch431 o432
 refine l_op rfl ?_
 refine o_call (v := Value.tuple (List.toArray [Value.int .i64 ((areaR ([(0, 0), (2, 0), (2, 1), (0, 1)] : List ((Int) × (Int)))).1), Value.int .i64 ((areaR ([(0, 0), (2, 0), (2, 1), (0, 1)] : List ((Int) × (Int)))).2)])) (e_call (vals := [v430]) Try.func21 bd21_gb nm21_gb rfl) (Area_ok w429 ([(0, 0), (2, 0), (2, 1), (0, 1)] : List ((Int) × (Int))) v430 (o432.flat).ro) ?_
 intro w433 hb434
 replace hb434 := chg_below hb434 g428
 refine l_val (v := Value.tuple (List.toArray [Value.int .i64 ((areaR ([(0, 0), (2, 0), (2, 1), (0, 1)] : List ((Int) × (Int)))).1), Value.int .i64 ((areaR ([(0, 0), (2, 0), (2, 1), (0, 1)] : List ((Int) × (Int)))).2)])) rfl (e_move rfl) ?_
 refine l_val (v := Value.int .i64 ((areaR ([(0, 0), (2, 0), (2, 1), (0, 1)] : List ((Int) × (Int)))).1)) rfl (e_extract rfl rfl) ?_
 refine l_val (v := Value.int .i64 ((areaR ([(0, 0), (2, 0), (2, 1), (0, 1)] : List ((Int) × (Int)))).2)) rfl (e_extract rfl rfl) ?_
 refine l_val (v := Value.int .i64 ((areaR ([(0, 0), (2, 0), (2, 1), (0, 1)] : List ((Int) × (Int)))).1)) rfl (e_assign rfl) ?_
 refine l_val (v := Value.int .i64 ((areaR ([(0, 0), (2, 0), (2, 1), (0, 1)] : List ((Int) × (Int)))).2)) rfl (e_assign rfl) ?_
 refine l_nil (run_seq ?_)
 clear o432
 refine run_region rfl (l_op rfl ?_)
 refine o_call (v := Value.agg (List.toArray [Value.int .i64 0, Value.int .i64 0])) (e_call (vals := [Value.int .i64 0, Value.int .i64 0]) Try.func14 bd14_gb nm14_gb rfl) (pt_ok w433 0 0) ?_
 intro w435 hb436
 replace hb436 := chg_below hb436 g428
 refine l_op rfl ?_
 refine o_call (v := Value.agg (List.toArray [Value.int .i64 2, Value.int .i64 0])) (e_call (vals := [Value.int .i64 2, Value.int .i64 0]) Try.func14 bd14_gb nm14_gb rfl) (pt_ok w435 2 0) ?_
 intro w437 hb438
 replace hb438 := chg_below hb438 g428
 refine l_op rfl ?_
 refine o_buildSlice (α := (Int) × (Int)) g428 (is 12) (is 12) (12, 0) rfl ([(0, 0), (2, 0)] : List ((Int) × (Int))) Try.underlying25 tp23_gb (by decide) (by decide) (vs := [(0, Value.agg (List.toArray [Value.int .i64 0, Value.int .i64 0])), (1, Value.agg (List.toArray [Value.int .i64 2, Value.int .i64 0]))]) rfl rfl (.cons rfl (.cons rfl .nil)) ?_
 intro g439 w440 v441 ch442 o443
 refine l_op rfl ?_
 refine o_call (v := Value.tuple (List.toArray [Value.bool ((simR ([(0, 0), (2, 0)] : List ((Int) × (Int)))).1), Value.int .i64 ((simR ([(0, 0), (2, 0)] : List ((Int) × (Int)))).2)])) (e_call (vals := [v441]) Try.func29 bd29_gb nm29_gb rfl) (Simple_ok w440 ([(0, 0), (2, 0)] : List ((Int) × (Int))) v441 (o443.flat).ro (by simp)) ?_
 intro w444 hb445
 replace hb445 := chg_below hb445 g439
 refine l_val (v := Value.tuple (List.toArray [Value.bool ((simR ([(0, 0), (2, 0)] : List ((Int) × (Int)))).1), Value.int .i64 ((simR ([(0, 0), (2, 0)] : List ((Int) × (Int)))).2)])) rfl (e_move rfl) ?_
 refine l_val (v := Value.bool ((simR ([(0, 0), (2, 0)] : List ((Int) × (Int)))).1)) rfl (e_extract rfl rfl) ?_
 refine l_val (v := Value.int .i64 ((simR ([(0, 0), (2, 0)] : List ((Int) × (Int)))).2)) rfl (e_extract rfl rfl) ?_
 refine l_val (v := Value.bool ((simR ([(0, 0), (2, 0)] : List ((Int) × (Int)))).1)) rfl (e_assign rfl) ?_
 refine l_val (v := Value.int .i64 ((simR ([(0, 0), (2, 0)] : List ((Int) × (Int)))).2)) rfl (e_assign rfl) ?_
 refine l_nil (run_seq ?_)
 clear o443
 refine run_region rfl ?_
 refine l_val (v := Value.int .i64 ((orientR (0, 0) (1, 0) (1, 1)).1)) rfl (e_move rfl) ?_
 refine l_val (v := Value.bool (decide (((orientR (0, 0) (1, 0) (1, 1)).1) = 1))) rfl (e_eql (m := (orientR (0, 0) (1, 0) (1, 1)).1) (n := 1) rfl rfl) ?_
 refine l_val (v := Value.bool (decide (((orientR (0, 0) (1, 0) (1, 1)).1) = 1))) rfl (e_move rfl) ?_
 have q52 : ((orientR (0, 0) (1, 0) (1, 1)).1) = 1 := by first | rfl | decide
 refine l_val (v := Value.int .i64 ((orientR (0, 0) (1, 0) (1, 1)).2)) (want_y rfl rfl rfl (decide_eq_true q52)) (e_move rfl) ?_
 refine l_val (v := Value.bool (decide (((orientR (0, 0) (1, 0) (1, 1)).2) = 0))) (want_y rfl rfl rfl (decide_eq_true q52)) (e_eql (m := (orientR (0, 0) (1, 0) (1, 1)).2) (n := 0) rfl rfl) ?_
 refine l_val (v := Value.bool (decide (((orientR (0, 0) (1, 0) (1, 1)).2) = 0))) rfl (e_pick_t rfl (decide_eq_true q52) rfl) ?_
 refine l_val (v := Value.bool (decide (((orientR (0, 0) (1, 0) (1, 1)).2) = 0))) rfl (e_move rfl) ?_
 have q56 : ((orientR (0, 0) (1, 0) (1, 1)).2) = 0 := by first | rfl | decide
 refine l_val (v := Value.int .i64 ((meetR (0, 0) (2, 2) (0, 2) (2, 0)).1)) (want_y rfl rfl rfl (decide_eq_true q56)) (e_move rfl) ?_
 refine l_val (v := Value.bool (decide (((meetR (0, 0) (2, 2) (0, 2) (2, 0)).1) = 1))) (want_y rfl rfl rfl (decide_eq_true q56)) (e_eql (m := (meetR (0, 0) (2, 2) (0, 2) (2, 0)).1) (n := 1) rfl rfl) ?_
 refine l_val (v := Value.bool (decide (((meetR (0, 0) (2, 2) (0, 2) (2, 0)).1) = 1))) rfl (e_pick_t rfl (decide_eq_true q56) rfl) ?_
 refine l_val (v := Value.bool (decide (((meetR (0, 0) (2, 2) (0, 2) (2, 0)).1) = 1))) rfl (e_move rfl) ?_
 have q60 : ((meetR (0, 0) (2, 2) (0, 2) (2, 0)).1) = 1 := by first | rfl | decide
 refine l_val (v := Value.int .i64 ((meetR (0, 0) (2, 2) (0, 2) (2, 0)).2)) (want_y rfl rfl rfl (decide_eq_true q60)) (e_move rfl) ?_
 refine l_val (v := Value.bool (decide (((meetR (0, 0) (2, 2) (0, 2) (2, 0)).2) = 0))) (want_y rfl rfl rfl (decide_eq_true q60)) (e_eql (m := (meetR (0, 0) (2, 2) (0, 2) (2, 0)).2) (n := 0) rfl rfl) ?_
 refine l_val (v := Value.bool (decide (((meetR (0, 0) (2, 2) (0, 2) (2, 0)).2) = 0))) rfl (e_pick_t rfl (decide_eq_true q60) rfl) ?_
 refine l_val (v := Value.bool (decide (((meetR (0, 0) (2, 2) (0, 2) (2, 0)).2) = 0))) rfl (e_move rfl) ?_
 have q64 : ((meetR (0, 0) (2, 2) (0, 2) (2, 0)).2) = 0 := by first | rfl | decide
 refine l_val (v := v90) (want_y rfl rfl rfl (decide_eq_true q64)) (e_move rfl) ?_
 have C446 : Chg (inl []) _ _ _ _ := (ch418.n).seq ((hb421.n).seq ((hb423.n).seq ((hb425.n).seq ((hb427.n).seq ((ch431.n).seq ((hb434.n).seq ((hb436.n).seq ((hb438.n).seq ((ch442.n).seq (hb445.n))))))))))
 replace bx417 := bx417.chg C446 (is_nl rfl) (is_nl rfl)
 have len447 := (bx417.flat).small
 refine l_val (v := Value.int .i64 2) (want_y rfl rfl rfl (decide_eq_true q64)) (e_len (α := Int) (xs := ([1, 0] : List Int)) Try.underlying34 rfl bx417.flat) ?_
 refine l_val (v := Value.bool true) (want_y rfl rfl rfl (decide_eq_true q64)) (e_eql (m := 2) (n := 2) rfl rfl) ?_
 refine l_val (v := Value.bool true) rfl (e_pick_t rfl (decide_eq_true q64) rfl) ?_
 refine l_val (v := Value.bool true) rfl (e_move rfl) ?_
 refine l_val (v := v90) (want_y rfl rfl rfl rfl) (e_move rfl) ?_
 refine l_val (v := Value.pointer (some (eAddr v90 1 (Int.toNat 0)))) (want_y rfl rfl rfl rfl) (e_indexAddr (α := Int) (xs := ([1, 0] : List Int)) (v := v90) (i := 0) Try.underlying34 rfl rfl bx417.flat rfl (by omega) (by first | omega | (simp only [List.length_set, List.length_append, List.length_cons, List.length_nil, List.length_replicate, List.length_map, List.length_take, List.length_drop]; omega) | (simp; done) | (simp; omega))) ?_
 refine l_val (v := Value.int .i64 1) (want_y rfl rfl rfl rfl) (e_load_el1 (α := Int) (xs := ([1, 0] : List Int)) (v := v90) (i := 0) tp3_gb rfl bx417.flat (by omega) (by first | omega | (simp only [List.length_set, List.length_append, List.length_cons, List.length_nil, List.length_replicate, List.length_map, List.length_take, List.length_drop]; omega) | (simp; done) | (simp; omega)) (by decide) rfl) ?_
 refine l_val (v := Value.bool true) (want_y rfl rfl rfl rfl) (e_eql (m := 1) (n := 1) rfl rfl) ?_
 refine l_val (v := Value.bool true) rfl (e_pick_t rfl rfl rfl) ?_
 refine l_val (v := Value.bool true) rfl (e_move rfl) ?_
 refine l_val (v := Value.int .i64 0) (want_y rfl rfl rfl rfl) (e_move rfl) ?_
 refine l_val (v := Value.bool true) (want_y rfl rfl rfl rfl) (e_eql (m := 0) (n := 0) rfl rfl) ?_
 refine l_val (v := Value.bool true) rfl (e_pick_t rfl rfl rfl) ?_
 refine l_val (v := Value.bool true) rfl (e_move rfl) ?_
 refine l_val (v := Value.int .i64 ((areaR ([(0, 0), (2, 0), (2, 1), (0, 1)] : List ((Int) × (Int)))).1)) (want_y rfl rfl rfl rfl) (e_move rfl) ?_
 refine l_val (v := Value.bool (decide (((areaR ([(0, 0), (2, 0), (2, 1), (0, 1)] : List ((Int) × (Int)))).1) = 4))) (want_y rfl rfl rfl rfl) (e_eql (m := (areaR ([(0, 0), (2, 0), (2, 1), (0, 1)] : List ((Int) × (Int)))).1) (n := 4) rfl rfl) ?_
 refine l_val (v := Value.bool (decide (((areaR ([(0, 0), (2, 0), (2, 1), (0, 1)] : List ((Int) × (Int)))).1) = 4))) rfl (e_pick_t rfl rfl rfl) ?_
 refine l_val (v := Value.bool (decide (((areaR ([(0, 0), (2, 0), (2, 1), (0, 1)] : List ((Int) × (Int)))).1) = 4))) rfl (e_move rfl) ?_
 have q83 : ((areaR ([(0, 0), (2, 0), (2, 1), (0, 1)] : List ((Int) × (Int)))).1) = 4 := by first | rfl | decide
 refine l_val (v := Value.int .i64 ((areaR ([(0, 0), (2, 0), (2, 1), (0, 1)] : List ((Int) × (Int)))).2)) (want_y rfl rfl rfl (decide_eq_true q83)) (e_move rfl) ?_
 refine l_val (v := Value.bool (decide (((areaR ([(0, 0), (2, 0), (2, 1), (0, 1)] : List ((Int) × (Int)))).2) = 0))) (want_y rfl rfl rfl (decide_eq_true q83)) (e_eql (m := (areaR ([(0, 0), (2, 0), (2, 1), (0, 1)] : List ((Int) × (Int)))).2) (n := 0) rfl rfl) ?_
 refine l_val (v := Value.bool (decide (((areaR ([(0, 0), (2, 0), (2, 1), (0, 1)] : List ((Int) × (Int)))).2) = 0))) rfl (e_pick_t rfl (decide_eq_true q83) rfl) ?_
 refine l_val (v := Value.bool (decide (((areaR ([(0, 0), (2, 0), (2, 1), (0, 1)] : List ((Int) × (Int)))).2) = 0))) rfl (e_move rfl) ?_
 have q87 : ((areaR ([(0, 0), (2, 0), (2, 1), (0, 1)] : List ((Int) × (Int)))).2) = 0 := by first | rfl | decide
 refine l_val (v := Value.bool ((simR ([(0, 0), (2, 0)] : List ((Int) × (Int)))).1)) (want_y rfl rfl rfl (decide_eq_true q87)) (e_move rfl) ?_
 refine l_val (v := Value.bool ((simR ([(0, 0), (2, 0)] : List ((Int) × (Int)))).1)) rfl (e_pick_t rfl (decide_eq_true q87) rfl) ?_
 refine l_val (v := Value.bool ((simR ([(0, 0), (2, 0)] : List ((Int) × (Int)))).1)) rfl (e_move rfl) ?_
 have q90 : ((simR ([(0, 0), (2, 0)] : List ((Int) × (Int)))).1) = true := by first | rfl | decide
 refine l_val (v := Value.int .i64 ((simR ([(0, 0), (2, 0)] : List ((Int) × (Int)))).2)) (want_y rfl rfl rfl q90) (e_move rfl) ?_
 refine l_val (v := Value.bool (decide (((simR ([(0, 0), (2, 0)] : List ((Int) × (Int)))).2) = 0))) (want_y rfl rfl rfl q90) (e_eql (m := (simR ([(0, 0), (2, 0)] : List ((Int) × (Int)))).2) (n := 0) rfl rfl) ?_
 refine l_val (v := Value.bool (decide (((simR ([(0, 0), (2, 0)] : List ((Int) × (Int)))).2) = 0))) rfl (e_pick_t rfl q90 rfl) ?_
 refine l_val (v := Value.bool (decide (((simR ([(0, 0), (2, 0)] : List ((Int) × (Int)))).2) = 0))) rfl (e_move rfl) ?_
 have q94 : ((simR ([(0, 0), (2, 0)] : List ((Int) × (Int)))).2) = 0 := by first | rfl | decide
 refine l_op (want_y rfl rfl rfl (decide_eq_true q94)) ?_
 refine o_call (v := Value.agg (List.toArray [Value.int .i64 1, Value.int .i64 1])) (e_call (vals := [Value.int .i64 1, Value.int .i64 1]) Try.func14 bd14_gb nm14_gb rfl) (pt_ok w444 1 1) ?_
 intro w448 hb449
 replace hb449 := chg_below hb449 g439
 refine l_op (want_y rfl rfl rfl (decide_eq_true q94)) ?_
 refine o_buildSlice (α := (Int) × (Int)) g439 (is 13) (is 13) (13, 0) rfl ([(1, 1)] : List ((Int) × (Int))) Try.underlying25 tp23_gb (by decide) (by decide) (vs := [(0, Value.agg (List.toArray [Value.int .i64 1, Value.int .i64 1]))]) rfl rfl (.cons rfl .nil) ?_
 intro g450 w451 v452 ch453 o454
 refine l_op (want_y rfl rfl rfl (decide_eq_true q94)) ?_
 refine o_call (v := Value.bool (decide (okL ([(1, 1)] : List ((Int) × (Int)))))) (e_call (vals := [v452]) Try.func25 bd25_gb nm25_gb rfl) (GMay_ok w451 ([(1, 1)] : List ((Int) × (Int))) v452 (o454.flat).ro) ?_
 intro w455 hb456
 replace hb456 := chg_below hb456 g450
 refine l_val (v := Value.bool (decide (okL ([(1, 1)] : List ((Int) × (Int)))))) rfl (e_pick_t rfl (decide_eq_true q94) rfl) ?_
 refine l_val (v := Value.bool (decide (okL ([(1, 1)] : List ((Int) × (Int)))))) rfl (e_move rfl) ?_
 have q99 : (decide (okL ([(1, 1)] : List ((Int) × (Int))))) = true := by first | rfl | decide
 refine l_op (want_y rfl rfl rfl q99) ?_
 refine o_call (v := Value.agg (List.toArray [Value.int .i64 2097152, Value.int .i64 0])) (e_call (vals := [Value.int .i64 2097152, Value.int .i64 0]) Try.func14 bd14_gb nm14_gb rfl) (pt_ok w455 2097152 0) ?_
 intro w457 hb458
 replace hb458 := chg_below hb458 g450
 refine l_op (want_y rfl rfl rfl q99) ?_
 refine o_buildSlice (α := (Int) × (Int)) g450 (is 14) (is 14) (14, 0) rfl ([(2097152, 0)] : List ((Int) × (Int))) Try.underlying25 tp23_gb (by decide) (by decide) (vs := [(0, Value.agg (List.toArray [Value.int .i64 2097152, Value.int .i64 0]))]) rfl rfl (.cons rfl .nil) ?_
 intro g459 w460 v461 ch462 o463
 refine l_op (want_y rfl rfl rfl q99) ?_
 refine o_call (v := Value.bool (decide (okL ([(2097152, 0)] : List ((Int) × (Int)))))) (e_call (vals := [v461]) Try.func25 bd25_gb nm25_gb rfl) (GMay_ok w460 ([(2097152, 0)] : List ((Int) × (Int))) v461 (o463.flat).ro) ?_
 intro w464 hb465
 replace hb465 := chg_below hb465 g459
 refine l_val (v := Value.bool (!(decide (okL ([(2097152, 0)] : List ((Int) × (Int))))))) (want_y rfl rfl rfl q99) (e_not (b := (decide (okL ([(2097152, 0)] : List ((Int) × (Int)))))) rfl) ?_
 refine l_val (v := Value.bool (!(decide (okL ([(2097152, 0)] : List ((Int) × (Int))))))) rfl (e_pick_t rfl q99 rfl) ?_
 refine l_val (v := Value.bool (!(decide (okL ([(2097152, 0)] : List ((Int) × (Int))))))) rfl (e_assign rfl) ?_
 refine l_nil ?_
 refine run_ret (vs := [Value.bool (!(decide (okL ([(2097152, 0)] : List ((Int) × (Int))))))]) Try.func12 (.tmp rfl .nil) ?_
 -- return 0
 have e0 : (!(decide (okL ([(2097152, 0)] : List ((Int) × (Int))))) : Bool) = (true) := by
   rfl
 have C466 : Chg (inl [7]) _ _ _ _ := (ch377.n).seq ((hb380.n).seq ((hb383.n).seq ((hb386.n).seq ((hb389.n).seq ((hb392.n).seq ((hb395.n).seq ((hb398.n).seq ((ch403.n).seq ((hb407.n).seq ((ch409.n).seq ((ch413.l rfl).seq ((ch416.l rfl).seq ((ch418.n).seq ((hb421.n).seq ((hb423.n).seq ((hb425.n).seq ((hb427.n).seq ((ch431.n).seq ((hb434.n).seq ((hb436.n).seq ((hb438.n).seq ((ch442.n).seq ((hb445.n).seq ((hb449.n).seq ((ch453.n).seq ((hb456.n).seq ((hb458.n).seq ((ch462.n).seq (hb465.n)))))))))))))))))))))))))))))
 replace hbase := hbase.chg C466 (is_nl rfl)
 exact ⟨(congrArg (a₁ := !(decide (okL ([(2097152, 0)] : List ((Int) × (Int)))))) (fun (z0 : Bool) => Ending.returned (Value.bool z0)) e0), hbase.below⟩
end TL
