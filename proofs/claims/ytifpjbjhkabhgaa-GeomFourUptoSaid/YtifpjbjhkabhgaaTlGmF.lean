import Derived.Test.YtifpjbjhkabhgaaTlGmA
import Derived.Test.YtifpjbjhkabhgaaTlGmM
import Derived.Test.YtifpjbjhkabhgaaTlGmB
import Derived.Test.YtifpjbjhkabhgaaTlGmD
import Derived.Test.YtifpjbjhkabhgaaTlGmN
import Derived.Test.YtifpjbjhkabhgaaTlGeomF
import Derived.Test.YtifpjbjhkabhgaaProg
import Derived.Test.YtifpjbjhkabhgaaTlNet2
import Derived.Test.YtifpjbjhkabhgaaTlEq
import Derived.Test.YtifpjbjhkabhgaaTlHold
import Derived.Test.YtifpjbjhkabhgaaTlDraw
import Derived.Test.YtifpjbjhkabhgaaTlMap
set_option linter.all false
set_option maxRecDepth 20000
namespace TL
open Go Go.Proofs
theorem mixed_gf : Try.prog.follows .mixedOrders = true := by kernel_rfl
theorem tp23_gf : Tp Try.prog 23 true 2 16 (.agg #[.int .i64 0, .int .i64 0]) := Tp.of (by kernel_rfl)
theorem bd12_gf : Try.f12.body.isNone = false := rfl
theorem nm12_gf : (Try.f12.name == "runtime.NumGoroutine") = false := by decide +kernel
theorem bd13_gf : Try.f13.body.isNone = false := rfl
theorem nm13_gf : (Try.f13.name == "runtime.NumGoroutine") = false := by decide +kernel
theorem bd15_gf : Try.f15.body.isNone = false := rfl
theorem nm15_gf : (Try.f15.name == "runtime.NumGoroutine") = false := by decide +kernel
theorem bd16_gf : Try.f16.body.isNone = false := rfl
theorem nm16_gf : (Try.f16.name == "runtime.NumGoroutine") = false := by decide +kernel
theorem bd23_gf : Try.f23.body.isNone = false := rfl
theorem nm23_gf : (Try.f23.name == "runtime.NumGoroutine") = false := by decide +kernel
theorem bd24_gf : Try.f24.body.isNone = false := rfl
theorem nm24_gf : (Try.f24.name == "runtime.NumGoroutine") = false := by decide +kernel
theorem bd25_gf : Try.f25.body.isNone = false := rfl
theorem nm25_gf : (Try.f25.name == "runtime.NumGoroutine") = false := by decide +kernel
theorem bd26_gf : Try.f26.body.isNone = false := rfl
theorem nm26_gf : (Try.f26.name == "runtime.NumGoroutine") = false := by decide +kernel
theorem bd27_gf : Try.f27.body.isNone = false := rfl
theorem nm27_gf : (Try.f27.name == "runtime.NumGoroutine") = false := by decide +kernel

set_option maxHeartbeats 4000000 in
theorem GeomFour_ok (w0 : World) (a : (Int) × (Int)) (b : (Int) × (Int)) (c : (Int) × (Int)) (d : (Int) × (Int)) :
    Calls Try.prog 7 #[Value.agg (List.toArray [Value.int .i64 a.1, Value.int .i64 a.2]), Value.agg (List.toArray [Value.int .i64 b.1, Value.int .i64 b.2]), Value.agg (List.toArray [Value.int .i64 c.1, Value.int .i64 c.2]), Value.agg (List.toArray [Value.int .i64 d.1, Value.int .i64 d.2])] w0 (fun ee w => ee = .returned (Value.bool true) ∧ RowKit.Below w0.heap.size w0 w) := by
 refine calls_of_run Try.func7 rfl (Nat.le_of_ble_eq_true rfl) ?_
 have hbase := Base.start w0
 refine run_seq ?_
 refine run_region rfl ?_
 refine l_op rfl ?_
 refine o_box c0 (is 1) (1, 0) rfl rfl ?_
 intro g4 w1 b3 ch2 bx5
 replace bx5 : Bx g4 (is 1) w1 b3 [Value.int .i64 a.1, Value.int .i64 a.2] := bx5
 refine l_op rfl ?_
 refine o_box g4 (is 2) (2, 0) rfl rfl ?_
 intro g9 w6 b8 ch7 bx10
 replace bx10 : Bx g9 (is 2) w6 b8 [Value.int .i64 b.1, Value.int .i64 b.2] := bx10
 refine l_op rfl ?_
 refine o_box g9 (is 3) (3, 0) rfl rfl ?_
 intro g14 w11 b13 ch12 bx15
 replace bx15 : Bx g14 (is 3) w11 b13 [Value.int .i64 c.1, Value.int .i64 c.2] := bx15
 refine l_op rfl ?_
 refine o_box g14 (is 4) (4, 0) rfl rfl ?_
 intro g19 w16 b18 ch17 bx20
 replace bx20 : Bx g19 (is 4) w16 b18 [Value.int .i64 d.1, Value.int .i64 d.2] := bx20
 refine l_val (v := Value.bool false) rfl (e_assign rfl) ?_
 refine l_nil ?_
 refine run_seq ?_
 refine run_seq ?_
 refine run_region rfl ?_
 refine l_op rfl ?_
 refine o_call (v := Value.bool true) (e_call (vals := []) Try.func12 bd12_gf nm12_gf rfl) (begun2_ok w16 ) ?_
 intro w21 hb22
 replace hb22 := chg_below hb22 g19
 refine l_val (v := Value.bool false) rfl (e_not (b := true) rfl) ?_
 refine l_nil ?_
 refine run_cond_f rfl rfl ?_
 refine run_skip ?_
 refine run_seq ?_
 obtain ⟨g1, g2, g3⟩ := meet_err a b c d
 obtain ⟨⟨t1, t2⟩, t3, t4, t5⟩ := three_err a b c
 refine run_region rfl ?_
 have C23 : Chg (inl []) _ _ _ _ := (ch7.n).seq ((ch12.n).seq ((ch17.n).seq (hb22.n)))
 replace bx5 := bx5.chg C23 (is_nl rfl)
 refine l_val (v := Value.agg (List.toArray [Value.int .i64 a.1, Value.int .i64 a.2])) rfl (e_load_bxN (ds := [Value.int .i64 a.1, Value.int .i64 a.2]) tp23_gf rfl bx5 rfl rfl) ?_
 have C24 : Chg (inl []) _ _ _ _ := (ch12.n).seq ((ch17.n).seq (hb22.n))
 replace bx10 := bx10.chg C24 (is_nl rfl)
 refine l_val (v := Value.agg (List.toArray [Value.int .i64 b.1, Value.int .i64 b.2])) rfl (e_load_bxN (ds := [Value.int .i64 b.1, Value.int .i64 b.2]) tp23_gf rfl bx10 rfl rfl) ?_
 replace bx15 := (bx15.chg ch17 (not_no _)).chg hb22 (not_no _)
 refine l_val (v := Value.agg (List.toArray [Value.int .i64 c.1, Value.int .i64 c.2])) rfl (e_load_bxN (ds := [Value.int .i64 c.1, Value.int .i64 c.2]) tp23_gf rfl bx15 rfl rfl) ?_
 replace bx20 := bx20.chg hb22 (not_no _)
 refine l_val (v := Value.agg (List.toArray [Value.int .i64 d.1, Value.int .i64 d.2])) rfl (e_load_bxN (ds := [Value.int .i64 d.1, Value.int .i64 d.2]) tp23_gf rfl bx20 rfl rfl) ?_
 refine l_op rfl ?_
 refine o_buildSlice (α := (Int) × (Int)) g19 (is 5) (is 5) (5, 0) rfl [a, b, c, d] Try.underlying25 tp23_gf (by decide) (by decide) (vs := [(0, Value.agg (List.toArray [Value.int .i64 a.1, Value.int .i64 a.2])), (1, Value.agg (List.toArray [Value.int .i64 b.1, Value.int .i64 b.2])), (2, Value.agg (List.toArray [Value.int .i64 c.1, Value.int .i64 c.2])), (3, Value.agg (List.toArray [Value.int .i64 d.1, Value.int .i64 d.2]))]) rfl rfl (.cons rfl (.cons rfl (.cons rfl (.cons rfl .nil)))) ?_
 intro g25 w26 v27 ch28 o29
 refine l_op rfl ?_
 refine o_call (v := Value.int .i64 (errS ([a, b, c, d]))) (e_call (vals := [v27]) Try.func16 bd16_gf nm16_gf rfl) (err_ok w26 ([a, b, c, d]) v27 (o29.flat).ro) ?_
 intro w30 hb31
 replace hb31 := chg_below hb31 g25
 refine l_val (v := Value.int .i64 (errS ([a, b, c, d]))) rfl (e_assign rfl) ?_
 refine l_nil ?_
 refine run_seq ?_
 clear o29
 refine run_region rfl ?_
 replace bx5 := (bx5.chg ch28 (not_no _)).chg hb31 (not_no _)
 refine l_val (v := Value.agg (List.toArray [Value.int .i64 a.1, Value.int .i64 a.2])) rfl (e_load_bxN (ds := [Value.int .i64 a.1, Value.int .i64 a.2]) tp23_gf rfl bx5 rfl rfl) ?_
 replace bx10 := (bx10.chg ch28 (not_no _)).chg hb31 (not_no _)
 refine l_val (v := Value.agg (List.toArray [Value.int .i64 b.1, Value.int .i64 b.2])) rfl (e_load_bxN (ds := [Value.int .i64 b.1, Value.int .i64 b.2]) tp23_gf rfl bx10 rfl rfl) ?_
 replace bx15 := (bx15.chg ch28 (not_no _)).chg hb31 (not_no _)
 refine l_val (v := Value.agg (List.toArray [Value.int .i64 c.1, Value.int .i64 c.2])) rfl (e_load_bxN (ds := [Value.int .i64 c.1, Value.int .i64 c.2]) tp23_gf rfl bx15 rfl rfl) ?_
 replace bx20 := (bx20.chg ch28 (not_no _)).chg hb31 (not_no _)
 refine l_val (v := Value.agg (List.toArray [Value.int .i64 d.1, Value.int .i64 d.2])) rfl (e_load_bxN (ds := [Value.int .i64 d.1, Value.int .i64 d.2]) tp23_gf rfl bx20 rfl rfl) ?_
 refine l_op rfl ?_
 refine o_call (v := Value.tuple (List.toArray [Value.int .i64 ((meetR a b c d).1), Value.int .i64 ((meetR a b c d).2)])) (e_call (vals := [Value.agg (List.toArray [Value.int .i64 a.1, Value.int .i64 a.2]), Value.agg (List.toArray [Value.int .i64 b.1, Value.int .i64 b.2]), Value.agg (List.toArray [Value.int .i64 c.1, Value.int .i64 c.2]), Value.agg (List.toArray [Value.int .i64 d.1, Value.int .i64 d.2])]) Try.func15 bd15_gf nm15_gf rfl) (Meet_ok w30 a b c d) ?_
 intro w32 hb33
 replace hb33 := chg_below hb33 g25
 refine l_val (v := Value.tuple (List.toArray [Value.int .i64 ((meetR a b c d).1), Value.int .i64 ((meetR a b c d).2)])) rfl (e_move rfl) ?_
 refine l_val (v := Value.int .i64 ((meetR a b c d).1)) rfl (e_extract rfl rfl) ?_
 refine l_val (v := Value.int .i64 ((meetR a b c d).2)) rfl (e_extract rfl rfl) ?_
 refine l_val (v := Value.int .i64 ((meetR a b c d).1)) rfl (e_assign rfl) ?_
 refine l_val (v := Value.int .i64 ((meetR a b c d).2)) rfl (e_assign rfl) ?_
 refine l_nil ?_
 refine run_seq ?_
 refine run_seq ?_
 refine run_region rfl ?_
 refine l_val (v := Value.int .i64 ((meetR a b c d).2)) rfl (e_move rfl) ?_
 refine l_val (v := Value.int .i64 (errS ([a, b, c, d]))) rfl (e_move rfl) ?_
 refine l_val (v := Value.bool (!(decide (((meetR a b c d).2) = (errS ([a, b, c, d])))))) rfl (e_neq (m := (meetR a b c d).2) (n := errS ([a, b, c, d])) rfl rfl) ?_
 refine l_val (v := Value.bool (!(decide (((meetR a b c d).2) = (errS ([a, b, c, d])))))) rfl (e_move rfl) ?_
 have q35 : ((meetR a b c d).2) = (errS ([a, b, c, d])) := by first | exact g1 | exact g2 (by assumption) | exact g3 (by assumption) | exact t1 | exact t2 | exact t3 | exact (t5 (by assumption)).1 | exact (t4 (by assumption)).1 | (rw [(t5 (by assumption)).2]; simp; done)
 refine l_val (v := Value.int .i64 (errS ([a, b, c, d]))) (want_y rfl rfl rfl (congrArg Bool.not (decide_eq_true q35))) (e_move rfl) ?_
 refine l_val (v := Value.bool (decide ((errS ([a, b, c, d])) = 0))) (want_y rfl rfl rfl (congrArg Bool.not (decide_eq_true q35))) (e_eql (m := errS ([a, b, c, d])) (n := 0) rfl rfl) ?_
 refine l_val (v := Value.bool (decide ((errS ([a, b, c, d])) = 0))) (want_y rfl rfl rfl (congrArg Bool.not (decide_eq_true q35))) (e_move rfl) ?_
 by_cases q38 : (errS ([a, b, c, d])) = 0
 ·
  obtain ⟨⟨hka, hkb⟩, hkc, hkd⟩ := okL4.1 (errS_ok q38)
  have ba := hka.bd
  have bb := hkb.bd
  have bc := hkc.bd
  have bd := hkd.bd
  refine l_val (v := Value.int .i64 ((meetR a b c d).1)) (want_y rfl rfl rfl (decide_eq_true q38)) (e_move rfl) ?_
  replace bx5 := bx5.chg hb33 (not_no _)
  refine l_val (v := Value.agg (List.toArray [Value.int .i64 a.1, Value.int .i64 a.2])) (want_y rfl rfl rfl (decide_eq_true q38)) (e_load_bxN (ds := [Value.int .i64 a.1, Value.int .i64 a.2]) tp23_gf rfl bx5 rfl rfl) ?_
  replace bx10 := bx10.chg hb33 (not_no _)
  refine l_val (v := Value.agg (List.toArray [Value.int .i64 b.1, Value.int .i64 b.2])) (want_y rfl rfl rfl (decide_eq_true q38)) (e_load_bxN (ds := [Value.int .i64 b.1, Value.int .i64 b.2]) tp23_gf rfl bx10 rfl rfl) ?_
  replace bx15 := bx15.chg hb33 (not_no _)
  refine l_val (v := Value.agg (List.toArray [Value.int .i64 c.1, Value.int .i64 c.2])) (want_y rfl rfl rfl (decide_eq_true q38)) (e_load_bxN (ds := [Value.int .i64 c.1, Value.int .i64 c.2]) tp23_gf rfl bx15 rfl rfl) ?_
  replace bx20 := bx20.chg hb33 (not_no _)
  refine l_val (v := Value.agg (List.toArray [Value.int .i64 d.1, Value.int .i64 d.2])) (want_y rfl rfl rfl (decide_eq_true q38)) (e_load_bxN (ds := [Value.int .i64 d.1, Value.int .i64 d.2]) tp23_gf rfl bx20 rfl rfl) ?_
  refine l_op (want_y rfl rfl rfl (decide_eq_true q38)) ?_
  refine o_call (v := Value.int .i64 (refM a b c d)) (e_call (vals := [Value.agg (List.toArray [Value.int .i64 a.1, Value.int .i64 a.2]), Value.agg (List.toArray [Value.int .i64 b.1, Value.int .i64 b.2]), Value.agg (List.toArray [Value.int .i64 c.1, Value.int .i64 c.2]), Value.agg (List.toArray [Value.int .i64 d.1, Value.int .i64 d.2])]) Try.func23 bd23_gf nm23_gf rfl) (D2Meet_ok w32 a b c d (by assumption) (by assumption) (by assumption) (by assumption)) ?_
  intro w34 hb35
  replace hb35 := chg_below hb35 g25
  refine l_val (v := Value.bool (!(decide (((meetR a b c d).1) = (refM a b c d))))) (want_y rfl rfl rfl (decide_eq_true q38)) (e_neq (m := (meetR a b c d).1) (n := refM a b c d) rfl rfl) ?_
  refine l_val (v := Value.bool (!(decide (((meetR a b c d).1) = (refM a b c d))))) (want_y rfl rfl rfl (congrArg Bool.not (decide_eq_true q35))) (e_pick_t rfl (decide_eq_true q38) rfl) ?_
  refine l_val (v := Value.bool (!(decide (((meetR a b c d).1) = (refM a b c d))))) rfl (e_pick_f rfl (congrArg Bool.not (decide_eq_true q35)) rfl) ?_
  refine l_val (v := Value.bool (!(decide (((meetR a b c d).1) = (refM a b c d))))) rfl (e_move rfl) ?_
  have q48 : ((meetR a b c d).1) = (refM a b c d) := by first | exact g1 | exact g2 (by assumption) | exact g3 (by assumption) | exact t1 | exact t2 | exact t3 | exact (t5 (by assumption)).1 | exact (t4 (by assumption)).1 | (rw [(t5 (by assumption)).2]; simp; done)
  refine l_val (v := Value.int .i64 (errS ([a, b, c, d]))) (want_y rfl rfl rfl (congrArg Bool.not (decide_eq_true q48))) (e_move rfl) ?_
  refine l_val (v := Value.bool (!(decide ((errS ([a, b, c, d])) = 0)))) (want_y rfl rfl rfl (congrArg Bool.not (decide_eq_true q48))) (e_neq (m := errS ([a, b, c, d])) (n := 0) rfl rfl) ?_
  refine l_val (v := Value.bool (!(decide ((errS ([a, b, c, d])) = 0)))) (want_y rfl rfl rfl (congrArg Bool.not (decide_eq_true q48))) (e_move rfl) ?_
  refine l_skip (want_n rfl rfl rfl (congrArg Bool.not (decide_eq_true q38))) ?_
  refine l_skip (want_n rfl rfl rfl (congrArg Bool.not (decide_eq_true q38))) ?_
  refine l_val (v := Value.bool false) (want_y rfl rfl rfl (congrArg Bool.not (decide_eq_true q48))) (e_pick_f rfl (congrArg Bool.not (decide_eq_true q38)) rfl) ?_
  refine l_val (v := Value.bool false) rfl (e_pick_f rfl (congrArg Bool.not (decide_eq_true q48)) rfl) ?_
  refine l_nil ?_
  refine run_cond_f rfl rfl ?_
  refine run_skip ?_
  refine run_seq ?_
  clear bx20
  refine run_region rfl ?_
  replace bx5 := bx5.chg hb35 (not_no _)
  refine l_val (v := Value.agg (List.toArray [Value.int .i64 a.1, Value.int .i64 a.2])) rfl (e_load_bxN (ds := [Value.int .i64 a.1, Value.int .i64 a.2]) tp23_gf rfl bx5 rfl rfl) ?_
  replace bx10 := bx10.chg hb35 (not_no _)
  refine l_val (v := Value.agg (List.toArray [Value.int .i64 b.1, Value.int .i64 b.2])) rfl (e_load_bxN (ds := [Value.int .i64 b.1, Value.int .i64 b.2]) tp23_gf rfl bx10 rfl rfl) ?_
  replace bx15 := bx15.chg hb35 (not_no _)
  refine l_val (v := Value.agg (List.toArray [Value.int .i64 c.1, Value.int .i64 c.2])) rfl (e_load_bxN (ds := [Value.int .i64 c.1, Value.int .i64 c.2]) tp23_gf rfl bx15 rfl rfl) ?_
  refine l_op rfl ?_
  refine o_buildSlice (α := (Int) × (Int)) g25 (is 6) (is 6) (6, 0) rfl [a, b, c] Try.underlying25 tp23_gf (by decide) (by decide) (vs := [(0, Value.agg (List.toArray [Value.int .i64 a.1, Value.int .i64 a.2])), (1, Value.agg (List.toArray [Value.int .i64 b.1, Value.int .i64 b.2])), (2, Value.agg (List.toArray [Value.int .i64 c.1, Value.int .i64 c.2]))]) rfl rfl (.cons rfl (.cons rfl (.cons rfl .nil))) ?_
  intro g36 w37 v38 ch39 o40
  refine l_op rfl ?_
  refine o_call (v := Value.int .i64 (errS ([a, b, c]))) (e_call (vals := [v38]) Try.func16 bd16_gf nm16_gf rfl) (err_ok w37 ([a, b, c]) v38 (o40.flat).ro) ?_
  intro w41 hb42
  replace hb42 := chg_below hb42 g36
  refine l_val (v := Value.int .i64 (errS ([a, b, c]))) rfl (e_assign rfl) ?_
  refine l_nil ?_
  refine run_seq ?_
  clear o40
  refine run_region rfl ?_
  replace bx5 := (bx5.chg ch39 (not_no _)).chg hb42 (not_no _)
  refine l_val (v := Value.agg (List.toArray [Value.int .i64 a.1, Value.int .i64 a.2])) rfl (e_load_bxN (ds := [Value.int .i64 a.1, Value.int .i64 a.2]) tp23_gf rfl bx5 rfl rfl) ?_
  replace bx10 := (bx10.chg ch39 (not_no _)).chg hb42 (not_no _)
  refine l_val (v := Value.agg (List.toArray [Value.int .i64 b.1, Value.int .i64 b.2])) rfl (e_load_bxN (ds := [Value.int .i64 b.1, Value.int .i64 b.2]) tp23_gf rfl bx10 rfl rfl) ?_
  replace bx15 := (bx15.chg ch39 (not_no _)).chg hb42 (not_no _)
  refine l_val (v := Value.agg (List.toArray [Value.int .i64 c.1, Value.int .i64 c.2])) rfl (e_load_bxN (ds := [Value.int .i64 c.1, Value.int .i64 c.2]) tp23_gf rfl bx15 rfl rfl) ?_
  refine l_op rfl ?_
  refine o_call (v := Value.tuple (List.toArray [Value.int .i64 ((orientR a b c).1), Value.int .i64 ((orientR a b c).2)])) (e_call (vals := [Value.agg (List.toArray [Value.int .i64 a.1, Value.int .i64 a.2]), Value.agg (List.toArray [Value.int .i64 b.1, Value.int .i64 b.2]), Value.agg (List.toArray [Value.int .i64 c.1, Value.int .i64 c.2])]) Try.func13 bd13_gf nm13_gf rfl) (Orient_ok w41 a b c) ?_
  intro w43 hb44
  replace hb44 := chg_below hb44 g36
  refine l_val (v := Value.tuple (List.toArray [Value.int .i64 ((orientR a b c).1), Value.int .i64 ((orientR a b c).2)])) rfl (e_move rfl) ?_
  refine l_val (v := Value.int .i64 ((orientR a b c).1)) rfl (e_extract rfl rfl) ?_
  refine l_val (v := Value.int .i64 ((orientR a b c).2)) rfl (e_extract rfl rfl) ?_
  refine l_val (v := Value.int .i64 ((orientR a b c).1)) rfl (e_assign rfl) ?_
  refine l_val (v := Value.int .i64 ((orientR a b c).2)) rfl (e_assign rfl) ?_
  refine l_nil ?_
  refine run_seq ?_
  refine run_region rfl ?_
  replace bx5 := bx5.chg hb44 (not_no _)
  refine l_val (v := Value.agg (List.toArray [Value.int .i64 a.1, Value.int .i64 a.2])) rfl (e_load_bxN (ds := [Value.int .i64 a.1, Value.int .i64 a.2]) tp23_gf rfl bx5 rfl rfl) ?_
  replace bx10 := bx10.chg hb44 (not_no _)
  refine l_val (v := Value.agg (List.toArray [Value.int .i64 b.1, Value.int .i64 b.2])) rfl (e_load_bxN (ds := [Value.int .i64 b.1, Value.int .i64 b.2]) tp23_gf rfl bx10 rfl rfl) ?_
  replace bx15 := bx15.chg hb44 (not_no _)
  refine l_val (v := Value.agg (List.toArray [Value.int .i64 c.1, Value.int .i64 c.2])) rfl (e_load_bxN (ds := [Value.int .i64 c.1, Value.int .i64 c.2]) tp23_gf rfl bx15 rfl rfl) ?_
  refine l_op rfl ?_
  refine o_call (v := Value.tuple (List.toArray [Value.bool ((onR a b c).1), Value.int .i64 ((onR a b c).2)])) (e_call (vals := [Value.agg (List.toArray [Value.int .i64 a.1, Value.int .i64 a.2]), Value.agg (List.toArray [Value.int .i64 b.1, Value.int .i64 b.2]), Value.agg (List.toArray [Value.int .i64 c.1, Value.int .i64 c.2])]) Try.func24 bd24_gf nm24_gf rfl) (GOn_ok w43 a b c) ?_
  intro w45 hb46
  replace hb46 := chg_below hb46 g36
  refine l_val (v := Value.tuple (List.toArray [Value.bool ((onR a b c).1), Value.int .i64 ((onR a b c).2)])) rfl (e_move rfl) ?_
  refine l_val (v := Value.bool ((onR a b c).1)) rfl (e_extract rfl rfl) ?_
  refine l_val (v := Value.int .i64 ((onR a b c).2)) rfl (e_extract rfl rfl) ?_
  refine l_val (v := Value.bool ((onR a b c).1)) rfl (e_assign rfl) ?_
  refine l_val (v := Value.int .i64 ((onR a b c).2)) rfl (e_assign rfl) ?_
  refine l_nil ?_
  refine run_seq ?_
  refine run_seq ?_
  refine run_region rfl ?_
  refine l_val (v := Value.int .i64 ((orientR a b c).2)) rfl (e_move rfl) ?_
  refine l_val (v := Value.int .i64 (errS ([a, b, c]))) rfl (e_move rfl) ?_
  refine l_val (v := Value.bool (!(decide (((orientR a b c).2) = (errS ([a, b, c])))))) rfl (e_neq (m := (orientR a b c).2) (n := errS ([a, b, c])) rfl rfl) ?_
  refine l_val (v := Value.bool (!(decide (((orientR a b c).2) = (errS ([a, b, c])))))) rfl (e_move rfl) ?_
  have q78 : ((orientR a b c).2) = (errS ([a, b, c])) := by first | exact g1 | exact g2 (by assumption) | exact g3 (by assumption) | exact t1 | exact t2 | exact t3 | exact (t5 (by assumption)).1 | exact (t4 (by assumption)).1 | (rw [(t5 (by assumption)).2]; simp; done)
  refine l_val (v := Value.int .i64 ((onR a b c).2)) (want_y rfl rfl rfl (congrArg Bool.not (decide_eq_true q78))) (e_move rfl) ?_
  refine l_val (v := Value.int .i64 (errS ([a, b, c]))) (want_y rfl rfl rfl (congrArg Bool.not (decide_eq_true q78))) (e_move rfl) ?_
  refine l_val (v := Value.bool (!(decide (((onR a b c).2) = (errS ([a, b, c])))))) (want_y rfl rfl rfl (congrArg Bool.not (decide_eq_true q78))) (e_neq (m := (onR a b c).2) (n := errS ([a, b, c])) rfl rfl) ?_
  refine l_val (v := Value.bool (!(decide (((onR a b c).2) = (errS ([a, b, c])))))) rfl (e_pick_f rfl (congrArg Bool.not (decide_eq_true q78)) rfl) ?_
  refine l_val (v := Value.bool (!(decide (((onR a b c).2) = (errS ([a, b, c])))))) rfl (e_move rfl) ?_
  have q83 : ((onR a b c).2) = (errS ([a, b, c])) := by first | exact g1 | exact g2 (by assumption) | exact g3 (by assumption) | exact t1 | exact t2 | exact t3 | exact (t5 (by assumption)).1 | exact (t4 (by assumption)).1 | (rw [(t5 (by assumption)).2]; simp; done)
  replace bx5 := bx5.chg hb46 (not_no _)
  refine l_val (v := Value.agg (List.toArray [Value.int .i64 a.1, Value.int .i64 a.2])) (want_y rfl rfl rfl (congrArg Bool.not (decide_eq_true q83))) (e_load_bxN (ds := [Value.int .i64 a.1, Value.int .i64 a.2]) tp23_gf rfl bx5 rfl rfl) ?_
  replace bx10 := bx10.chg hb46 (not_no _)
  refine l_val (v := Value.agg (List.toArray [Value.int .i64 b.1, Value.int .i64 b.2])) (want_y rfl rfl rfl (congrArg Bool.not (decide_eq_true q83))) (e_load_bxN (ds := [Value.int .i64 b.1, Value.int .i64 b.2]) tp23_gf rfl bx10 rfl rfl) ?_
  replace bx15 := bx15.chg hb46 (not_no _)
  refine l_val (v := Value.agg (List.toArray [Value.int .i64 c.1, Value.int .i64 c.2])) (want_y rfl rfl rfl (congrArg Bool.not (decide_eq_true q83))) (e_load_bxN (ds := [Value.int .i64 c.1, Value.int .i64 c.2]) tp23_gf rfl bx15 rfl rfl) ?_
  refine l_op (want_y rfl rfl rfl (congrArg Bool.not (decide_eq_true q83))) ?_
  refine o_buildSlice (α := (Int) × (Int)) g36 (is 7) (is 7) (7, 0) rfl [a, b, c] Try.underlying25 tp23_gf (by decide) (by decide) (vs := [(0, Value.agg (List.toArray [Value.int .i64 a.1, Value.int .i64 a.2])), (1, Value.agg (List.toArray [Value.int .i64 b.1, Value.int .i64 b.2])), (2, Value.agg (List.toArray [Value.int .i64 c.1, Value.int .i64 c.2]))]) rfl rfl (.cons rfl (.cons rfl (.cons rfl .nil))) ?_
  intro g47 w48 v49 ch50 o51
  refine l_op (want_y rfl rfl rfl (congrArg Bool.not (decide_eq_true q83))) ?_
  refine o_call (v := Value.bool (decide (okL ([a, b, c])))) (e_call (vals := [v49]) Try.func25 bd25_gf nm25_gf rfl) (GMay_ok w48 ([a, b, c]) v49 (o51.flat).ro) ?_
  intro w52 hb53
  replace hb53 := chg_below hb53 g47
  refine l_val (v := Value.int .i64 (errS ([a, b, c]))) (want_y rfl rfl rfl (congrArg Bool.not (decide_eq_true q83))) (e_move rfl) ?_
  refine l_val (v := Value.bool (decide ((errS ([a, b, c])) = 0))) (want_y rfl rfl rfl (congrArg Bool.not (decide_eq_true q83))) (e_eql (m := errS ([a, b, c])) (n := 0) rfl rfl) ?_
  refine l_val (v := Value.bool (!(decide ((decide (okL ([a, b, c]))) = (decide ((errS ([a, b, c])) = 0)))))) (want_y rfl rfl rfl (congrArg Bool.not (decide_eq_true q83))) (e_neq_bool Try.underlying4 rfl rfl) ?_
  refine l_val (v := Value.bool (!(decide ((decide (okL ([a, b, c]))) = (decide ((errS ([a, b, c])) = 0)))))) rfl (e_pick_f rfl (congrArg Bool.not (decide_eq_true q83)) rfl) ?_
  refine l_nil ?_
  have p10 : (decide (okL ([a, b, c]))) = (decide ((errS ([a, b, c])) = 0)) := by first | exact g1 | exact g2 (by assumption) | exact g3 (by assumption) | exact t1 | exact t2 | exact t3 | exact (t5 (by assumption)).1 | exact (t4 (by assumption)).1 | (rw [(t5 (by assumption)).2]; simp; done)
  refine run_cond_f rfl (congrArg Bool.not (decide_eq_true p10)) ?_
  refine run_skip ?_
  refine run_seq ?_
  clear o51
  refine run_region rfl ?_
  refine l_val (v := Value.int .i64 (errS ([a, b, c]))) rfl (e_move rfl) ?_
  refine l_val (v := Value.bool (!(decide ((errS ([a, b, c])) = 0)))) rfl (e_neq (m := errS ([a, b, c])) (n := 0) rfl rfl) ?_
  refine l_val (v := Value.bool (!(decide ((errS ([a, b, c])) = 0)))) rfl (e_move rfl) ?_
  by_cases q95 : (errS ([a, b, c])) = 0
  ·
   obtain ⟨xa, xb, xc⟩ := okL3.1 (errS_ok q95)
   have ya := xa.bd
   have yb := xb.bd
   have yc := xc.bd
   refine l_skip (want_n rfl rfl rfl (congrArg Bool.not (decide_eq_true q95))) ?_
   refine l_skip (want_n rfl rfl rfl (congrArg Bool.not (decide_eq_true q95))) ?_
   refine l_val (v := Value.bool false) rfl (e_pick_f rfl (congrArg Bool.not (decide_eq_true q95)) rfl) ?_
   refine l_val (v := Value.bool false) rfl (e_move rfl) ?_
   refine l_skip (want_n rfl rfl rfl rfl) ?_
   refine l_skip (want_n rfl rfl rfl rfl) ?_
   refine l_val (v := Value.bool false) rfl (e_pick_f rfl rfl rfl) ?_
   refine l_val (v := Value.bool false) rfl (e_move rfl) ?_
   refine l_val (v := Value.int .i64 (errS ([a, b, c]))) (want_y rfl rfl rfl rfl) (e_move rfl) ?_
   refine l_val (v := Value.bool (decide ((errS ([a, b, c])) = 0))) (want_y rfl rfl rfl rfl) (e_eql (m := errS ([a, b, c])) (n := 0) rfl rfl) ?_
   refine l_val (v := Value.bool (decide ((errS ([a, b, c])) = 0))) (want_y rfl rfl rfl rfl) (e_move rfl) ?_
   refine l_val (v := Value.int .i64 ((orientR a b c).1)) (want_y rfl rfl rfl (decide_eq_true q95)) (e_move rfl) ?_
   replace bx5 := (bx5.chg ch50 (not_no _)).chg hb53 (not_no _)
   refine l_val (v := Value.agg (List.toArray [Value.int .i64 a.1, Value.int .i64 a.2])) (want_y rfl rfl rfl (decide_eq_true q95)) (e_load_bxN (ds := [Value.int .i64 a.1, Value.int .i64 a.2]) tp23_gf rfl bx5 rfl rfl) ?_
   replace bx10 := (bx10.chg ch50 (not_no _)).chg hb53 (not_no _)
   refine l_val (v := Value.agg (List.toArray [Value.int .i64 b.1, Value.int .i64 b.2])) (want_y rfl rfl rfl (decide_eq_true q95)) (e_load_bxN (ds := [Value.int .i64 b.1, Value.int .i64 b.2]) tp23_gf rfl bx10 rfl rfl) ?_
   replace bx15 := (bx15.chg ch50 (not_no _)).chg hb53 (not_no _)
   refine l_val (v := Value.agg (List.toArray [Value.int .i64 c.1, Value.int .i64 c.2])) (want_y rfl rfl rfl (decide_eq_true q95)) (e_load_bxN (ds := [Value.int .i64 c.1, Value.int .i64 c.2]) tp23_gf rfl bx15 rfl rfl) ?_
   refine l_op (want_y rfl rfl rfl (decide_eq_true q95)) ?_
   refine o_call (v := Value.int .i64 (trn a b c)) (e_call (vals := [Value.agg (List.toArray [Value.int .i64 a.1, Value.int .i64 a.2]), Value.agg (List.toArray [Value.int .i64 b.1, Value.int .i64 b.2]), Value.agg (List.toArray [Value.int .i64 c.1, Value.int .i64 c.2])]) Try.func26 bd26_gf nm26_gf rfl) (Turn_ok w52 a b c (by assumption) (by assumption) (by assumption)) ?_
   intro w54 hb55
   replace hb55 := chg_below hb55 g47
   refine l_val (v := Value.bool (decide (((orientR a b c).1) = (trn a b c)))) (want_y rfl rfl rfl (decide_eq_true q95)) (e_eql (m := (orientR a b c).1) (n := trn a b c) rfl rfl) ?_
   refine l_val (v := Value.bool (decide (((orientR a b c).1) = (trn a b c)))) (want_y rfl rfl rfl rfl) (e_pick_t rfl (decide_eq_true q95) rfl) ?_
   refine l_val (v := Value.bool (decide (((orientR a b c).1) = (trn a b c)))) (want_y rfl rfl rfl rfl) (e_move rfl) ?_
   have q114 : ((orientR a b c).1) = (trn a b c) := by first | exact g1 | exact g2 (by assumption) | exact g3 (by assumption) | exact t1 | exact t2 | exact t3 | exact (t5 (by assumption)).1 | exact (t4 (by assumption)).1 | (rw [(t5 (by assumption)).2]; simp; done)
   refine l_val (v := Value.bool ((onR a b c).1)) (want_y rfl rfl rfl (decide_eq_true q114)) (e_move rfl) ?_
   replace bx5 := bx5.chg hb55 (not_no _)
   refine l_val (v := Value.agg (List.toArray [Value.int .i64 a.1, Value.int .i64 a.2])) (want_y rfl rfl rfl (decide_eq_true q114)) (e_load_bxN (ds := [Value.int .i64 a.1, Value.int .i64 a.2]) tp23_gf rfl bx5 rfl rfl) ?_
   replace bx10 := bx10.chg hb55 (not_no _)
   refine l_val (v := Value.agg (List.toArray [Value.int .i64 b.1, Value.int .i64 b.2])) (want_y rfl rfl rfl (decide_eq_true q114)) (e_load_bxN (ds := [Value.int .i64 b.1, Value.int .i64 b.2]) tp23_gf rfl bx10 rfl rfl) ?_
   replace bx15 := bx15.chg hb55 (not_no _)
   refine l_val (v := Value.agg (List.toArray [Value.int .i64 c.1, Value.int .i64 c.2])) (want_y rfl rfl rfl (decide_eq_true q114)) (e_load_bxN (ds := [Value.int .i64 c.1, Value.int .i64 c.2]) tp23_gf rfl bx15 rfl rfl) ?_
   refine l_op (want_y rfl rfl rfl (decide_eq_true q114)) ?_
   refine o_call (v := Value.bool (decide (onP a b c))) (e_call (vals := [Value.agg (List.toArray [Value.int .i64 a.1, Value.int .i64 a.2]), Value.agg (List.toArray [Value.int .i64 b.1, Value.int .i64 b.2]), Value.agg (List.toArray [Value.int .i64 c.1, Value.int .i64 c.2])]) Try.func27 bd27_gf nm27_gf rfl) (D2On_ok w54 a b c (by assumption) (by assumption) (by assumption)) ?_
   intro w56 hb57
   replace hb57 := chg_below hb57 g47
   refine l_val (v := Value.bool (decide (((onR a b c).1) = (decide (onP a b c))))) (want_y rfl rfl rfl (decide_eq_true q114)) (e_eql_bool Try.underlying4 rfl rfl) ?_
   refine l_val (v := Value.bool (decide (((onR a b c).1) = (decide (onP a b c))))) (want_y rfl rfl rfl rfl) (e_pick_t rfl (decide_eq_true q114) rfl) ?_
   refine l_val (v := Value.bool (decide (((onR a b c).1) = (decide (onP a b c))))) rfl (e_pick_f rfl rfl rfl) ?_
   refine l_val (v := Value.bool (decide (((onR a b c).1) = (decide (onP a b c))))) rfl (e_assign rfl) ?_
   refine l_nil ?_
   refine run_ret (vs := [Value.bool (decide (((onR a b c).1) = (decide (onP a b c))))]) Try.func7 (.tmp rfl .nil) ?_
   -- return 0
   have e0 : (decide (((onR a b c).1) = (decide (onP a b c))) : Bool) = (true) := by
     first
       | rfl
       | exact decide_eq_true (t4 q95).2
       | exact (decide_eq_true (t4 q95).2).symm
   have C58 : Chg (inl []) _ _ _ _ := (ch2.n).seq ((ch7.n).seq ((ch12.n).seq ((ch17.n).seq ((hb22.n).seq ((ch28.n).seq ((hb31.n).seq ((hb33.n).seq ((hb35.n).seq ((ch39.n).seq ((hb42.n).seq ((hb44.n).seq ((hb46.n).seq ((ch50.n).seq ((hb53.n).seq ((hb55.n).seq (hb57.n))))))))))))))))
   replace hbase := hbase.chg C58 (is_nl rfl)
   exact ⟨(congrArg (a₁ := decide (((onR a b c).1) = (decide (onP a b c)))) (fun (z0 : Bool) => Ending.returned (Value.bool z0)) e0), hbase.below⟩
  refine l_val (v := Value.int .i64 ((orientR a b c).1)) (want_y rfl rfl rfl (congrArg Bool.not (decide_eq_false q95))) (e_move rfl) ?_
  refine l_val (v := Value.bool (decide (((orientR a b c).1) = 0))) (want_y rfl rfl rfl (congrArg Bool.not (decide_eq_false q95))) (e_eql (m := (orientR a b c).1) (n := 0) rfl rfl) ?_
  refine l_val (v := Value.bool (decide (((orientR a b c).1) = 0))) rfl (e_pick_t rfl (congrArg Bool.not (decide_eq_false q95)) rfl) ?_
  refine l_val (v := Value.bool (decide (((orientR a b c).1) = 0))) rfl (e_move rfl) ?_
  have q99 : ((orientR a b c).1) = 0 := by first | exact g1 | exact g2 (by assumption) | exact g3 (by assumption) | exact t1 | exact t2 | exact t3 | exact (t5 (by assumption)).1 | exact (t4 (by assumption)).1 | (rw [(t5 (by assumption)).2]; simp; done)
  refine l_val (v := Value.bool ((onR a b c).1)) (want_y rfl rfl rfl (decide_eq_true q99)) (e_move rfl) ?_
  refine l_val (v := Value.bool (!((onR a b c).1))) (want_y rfl rfl rfl (decide_eq_true q99)) (e_not (b := ((onR a b c).1)) rfl) ?_
  refine l_val (v := Value.bool (!((onR a b c).1))) rfl (e_pick_t rfl (decide_eq_true q99) rfl) ?_
  refine l_val (v := Value.bool (!((onR a b c).1))) rfl (e_move rfl) ?_
  have q103 : ¬ (((onR a b c).1) = true) := by first | exact g1 | exact g2 (by assumption) | exact g3 (by assumption) | exact t1 | exact t2 | exact t3 | exact (t5 (by assumption)).1 | exact (t4 (by assumption)).1 | (rw [(t5 (by assumption)).2]; simp; done)
  refine l_skip (want_n rfl rfl rfl (congrArg Bool.not (Bool.eq_false_iff.2 q103))) ?_
  refine l_skip (want_n rfl rfl rfl (congrArg Bool.not (Bool.eq_false_iff.2 q103))) ?_
  refine l_skip (want_n rfl rfl rfl (congrArg Bool.not (Bool.eq_false_iff.2 q103))) ?_
  refine l_skip (want_u rfl rfl rfl) ?_
  refine l_skip (want_u rfl rfl rfl) ?_
  refine l_skip (want_u rfl rfl rfl) ?_
  refine l_skip (want_u rfl rfl rfl) ?_
  refine l_skip (want_u rfl rfl rfl) ?_
  refine l_skip (want_u rfl rfl rfl) ?_
  refine l_skip (want_n rfl rfl rfl (congrArg Bool.not (Bool.eq_false_iff.2 q103))) ?_
  refine l_skip (want_n rfl rfl rfl (congrArg Bool.not (Bool.eq_false_iff.2 q103))) ?_
  refine l_skip (want_u rfl rfl rfl) ?_
  refine l_skip (want_u rfl rfl rfl) ?_
  refine l_skip (want_u rfl rfl rfl) ?_
  refine l_skip (want_u rfl rfl rfl) ?_
  refine l_skip (want_u rfl rfl rfl) ?_
  refine l_skip (want_u rfl rfl rfl) ?_
  refine l_skip (want_n rfl rfl rfl (congrArg Bool.not (Bool.eq_false_iff.2 q103))) ?_
  refine l_val (v := Value.bool true) rfl (e_pick_t rfl (congrArg Bool.not (Bool.eq_false_iff.2 q103)) rfl) ?_
  refine l_val (v := Value.bool true) rfl (e_assign rfl) ?_
  refine l_nil ?_
  refine run_ret (vs := [Value.bool true]) Try.func7 (.tmp rfl .nil) ?_
  -- return 1
  have e0 : (true : Bool) = (true) := by
    first
      | rfl
      | exact decide_eq_true (t4 q95).2
      | exact (decide_eq_true (t4 q95).2).symm
  have C59 : Chg (inl []) _ _ _ _ := (ch2.n).seq ((ch7.n).seq ((ch12.n).seq ((ch17.n).seq ((hb22.n).seq ((ch28.n).seq ((hb31.n).seq ((hb33.n).seq ((hb35.n).seq ((ch39.n).seq ((hb42.n).seq ((hb44.n).seq ((hb46.n).seq ((ch50.n).seq (hb53.n))))))))))))))
  replace hbase := hbase.chg C59 (is_nl rfl)
  exact ⟨(congrArg (a₁ := true) (fun (z0 : Bool) => Ending.returned (Value.bool z0)) e0), hbase.below⟩
 refine l_skip (want_n rfl rfl rfl (decide_eq_false q38)) ?_
 refine l_skip (want_n rfl rfl rfl (decide_eq_false q38)) ?_
 refine l_skip (want_n rfl rfl rfl (decide_eq_false q38)) ?_
 refine l_skip (want_n rfl rfl rfl (decide_eq_false q38)) ?_
 refine l_skip (want_n rfl rfl rfl (decide_eq_false q38)) ?_
 refine l_skip (want_n rfl rfl rfl (decide_eq_false q38)) ?_
 refine l_skip (want_n rfl rfl rfl (decide_eq_false q38)) ?_
 refine l_val (v := Value.bool false) (want_y rfl rfl rfl (congrArg Bool.not (decide_eq_true q35))) (e_pick_f rfl (decide_eq_false q38) rfl) ?_
 refine l_val (v := Value.bool false) rfl (e_pick_f rfl (congrArg Bool.not (decide_eq_true q35)) rfl) ?_
 refine l_val (v := Value.bool false) rfl (e_move rfl) ?_
 refine l_val (v := Value.int .i64 (errS ([a, b, c, d]))) (want_y rfl rfl rfl rfl) (e_move rfl) ?_
 refine l_val (v := Value.bool (!(decide ((errS ([a, b, c, d])) = 0)))) (want_y rfl rfl rfl rfl) (e_neq (m := errS ([a, b, c, d])) (n := 0) rfl rfl) ?_
 refine l_val (v := Value.bool (!(decide ((errS ([a, b, c, d])) = 0)))) (want_y rfl rfl rfl rfl) (e_move rfl) ?_
 refine l_val (v := Value.int .i64 ((meetR a b c d).1)) (want_y rfl rfl rfl (congrArg Bool.not (decide_eq_false q38))) (e_move rfl) ?_
 refine l_val (v := Value.bool (!(decide (((meetR a b c d).1) = 0)))) (want_y rfl rfl rfl (congrArg Bool.not (decide_eq_false q38))) (e_neq (m := (meetR a b c d).1) (n := 0) rfl rfl) ?_
 refine l_val (v := Value.bool (!(decide (((meetR a b c d).1) = 0)))) (want_y rfl rfl rfl rfl) (e_pick_t rfl (congrArg Bool.not (decide_eq_false q38)) rfl) ?_
 refine l_val (v := Value.bool (!(decide (((meetR a b c d).1) = 0)))) rfl (e_pick_f rfl rfl rfl) ?_
 refine l_nil ?_
 have p5 : ((meetR a b c d).1) = 0 := by first | exact g1 | exact g2 (by assumption) | exact g3 (by assumption) | exact t1 | exact t2 | exact t3 | exact (t5 (by assumption)).1 | exact (t4 (by assumption)).1 | (rw [(t5 (by assumption)).2]; simp; done)
 refine run_cond_f rfl (congrArg Bool.not (decide_eq_true p5)) ?_
 refine run_skip ?_
 refine run_seq ?_
 clear bx20
 refine run_region rfl ?_
 replace bx5 := bx5.chg hb33 (not_no _)
 refine l_val (v := Value.agg (List.toArray [Value.int .i64 a.1, Value.int .i64 a.2])) rfl (e_load_bxN (ds := [Value.int .i64 a.1, Value.int .i64 a.2]) tp23_gf rfl bx5 rfl rfl) ?_
 replace bx10 := bx10.chg hb33 (not_no _)
 refine l_val (v := Value.agg (List.toArray [Value.int .i64 b.1, Value.int .i64 b.2])) rfl (e_load_bxN (ds := [Value.int .i64 b.1, Value.int .i64 b.2]) tp23_gf rfl bx10 rfl rfl) ?_
 replace bx15 := bx15.chg hb33 (not_no _)
 refine l_val (v := Value.agg (List.toArray [Value.int .i64 c.1, Value.int .i64 c.2])) rfl (e_load_bxN (ds := [Value.int .i64 c.1, Value.int .i64 c.2]) tp23_gf rfl bx15 rfl rfl) ?_
 refine l_op rfl ?_
 refine o_buildSlice (α := (Int) × (Int)) g25 (is 6) (is 6) (6, 0) rfl [a, b, c] Try.underlying25 tp23_gf (by decide) (by decide) (vs := [(0, Value.agg (List.toArray [Value.int .i64 a.1, Value.int .i64 a.2])), (1, Value.agg (List.toArray [Value.int .i64 b.1, Value.int .i64 b.2])), (2, Value.agg (List.toArray [Value.int .i64 c.1, Value.int .i64 c.2]))]) rfl rfl (.cons rfl (.cons rfl (.cons rfl .nil))) ?_
 intro g60 w61 v62 ch63 o64
 refine l_op rfl ?_
 refine o_call (v := Value.int .i64 (errS ([a, b, c]))) (e_call (vals := [v62]) Try.func16 bd16_gf nm16_gf rfl) (err_ok w61 ([a, b, c]) v62 (o64.flat).ro) ?_
 intro w65 hb66
 replace hb66 := chg_below hb66 g60
 refine l_val (v := Value.int .i64 (errS ([a, b, c]))) rfl (e_assign rfl) ?_
 refine l_nil ?_
 refine run_seq ?_
 clear o64
 refine run_region rfl ?_
 replace bx5 := (bx5.chg ch63 (not_no _)).chg hb66 (not_no _)
 refine l_val (v := Value.agg (List.toArray [Value.int .i64 a.1, Value.int .i64 a.2])) rfl (e_load_bxN (ds := [Value.int .i64 a.1, Value.int .i64 a.2]) tp23_gf rfl bx5 rfl rfl) ?_
 replace bx10 := (bx10.chg ch63 (not_no _)).chg hb66 (not_no _)
 refine l_val (v := Value.agg (List.toArray [Value.int .i64 b.1, Value.int .i64 b.2])) rfl (e_load_bxN (ds := [Value.int .i64 b.1, Value.int .i64 b.2]) tp23_gf rfl bx10 rfl rfl) ?_
 replace bx15 := (bx15.chg ch63 (not_no _)).chg hb66 (not_no _)
 refine l_val (v := Value.agg (List.toArray [Value.int .i64 c.1, Value.int .i64 c.2])) rfl (e_load_bxN (ds := [Value.int .i64 c.1, Value.int .i64 c.2]) tp23_gf rfl bx15 rfl rfl) ?_
 refine l_op rfl ?_
 refine o_call (v := Value.tuple (List.toArray [Value.int .i64 ((orientR a b c).1), Value.int .i64 ((orientR a b c).2)])) (e_call (vals := [Value.agg (List.toArray [Value.int .i64 a.1, Value.int .i64 a.2]), Value.agg (List.toArray [Value.int .i64 b.1, Value.int .i64 b.2]), Value.agg (List.toArray [Value.int .i64 c.1, Value.int .i64 c.2])]) Try.func13 bd13_gf nm13_gf rfl) (Orient_ok w65 a b c) ?_
 intro w67 hb68
 replace hb68 := chg_below hb68 g60
 refine l_val (v := Value.tuple (List.toArray [Value.int .i64 ((orientR a b c).1), Value.int .i64 ((orientR a b c).2)])) rfl (e_move rfl) ?_
 refine l_val (v := Value.int .i64 ((orientR a b c).1)) rfl (e_extract rfl rfl) ?_
 refine l_val (v := Value.int .i64 ((orientR a b c).2)) rfl (e_extract rfl rfl) ?_
 refine l_val (v := Value.int .i64 ((orientR a b c).1)) rfl (e_assign rfl) ?_
 refine l_val (v := Value.int .i64 ((orientR a b c).2)) rfl (e_assign rfl) ?_
 refine l_nil ?_
 refine run_seq ?_
 refine run_region rfl ?_
 replace bx5 := bx5.chg hb68 (not_no _)
 refine l_val (v := Value.agg (List.toArray [Value.int .i64 a.1, Value.int .i64 a.2])) rfl (e_load_bxN (ds := [Value.int .i64 a.1, Value.int .i64 a.2]) tp23_gf rfl bx5 rfl rfl) ?_
 replace bx10 := bx10.chg hb68 (not_no _)
 refine l_val (v := Value.agg (List.toArray [Value.int .i64 b.1, Value.int .i64 b.2])) rfl (e_load_bxN (ds := [Value.int .i64 b.1, Value.int .i64 b.2]) tp23_gf rfl bx10 rfl rfl) ?_
 replace bx15 := bx15.chg hb68 (not_no _)
 refine l_val (v := Value.agg (List.toArray [Value.int .i64 c.1, Value.int .i64 c.2])) rfl (e_load_bxN (ds := [Value.int .i64 c.1, Value.int .i64 c.2]) tp23_gf rfl bx15 rfl rfl) ?_
 refine l_op rfl ?_
 refine o_call (v := Value.tuple (List.toArray [Value.bool ((onR a b c).1), Value.int .i64 ((onR a b c).2)])) (e_call (vals := [Value.agg (List.toArray [Value.int .i64 a.1, Value.int .i64 a.2]), Value.agg (List.toArray [Value.int .i64 b.1, Value.int .i64 b.2]), Value.agg (List.toArray [Value.int .i64 c.1, Value.int .i64 c.2])]) Try.func24 bd24_gf nm24_gf rfl) (GOn_ok w67 a b c) ?_
 intro w69 hb70
 replace hb70 := chg_below hb70 g60
 refine l_val (v := Value.tuple (List.toArray [Value.bool ((onR a b c).1), Value.int .i64 ((onR a b c).2)])) rfl (e_move rfl) ?_
 refine l_val (v := Value.bool ((onR a b c).1)) rfl (e_extract rfl rfl) ?_
 refine l_val (v := Value.int .i64 ((onR a b c).2)) rfl (e_extract rfl rfl) ?_
 refine l_val (v := Value.bool ((onR a b c).1)) rfl (e_assign rfl) ?_
 refine l_val (v := Value.int .i64 ((onR a b c).2)) rfl (e_assign rfl) ?_
 refine l_nil ?_
 refine run_seq ?_
 refine run_seq ?_
 refine run_region rfl ?_
 refine l_val (v := Value.int .i64 ((orientR a b c).2)) rfl (e_move rfl) ?_
 refine l_val (v := Value.int .i64 (errS ([a, b, c]))) rfl (e_move rfl) ?_
 refine l_val (v := Value.bool (!(decide (((orientR a b c).2) = (errS ([a, b, c])))))) rfl (e_neq (m := (orientR a b c).2) (n := errS ([a, b, c])) rfl rfl) ?_
 refine l_val (v := Value.bool (!(decide (((orientR a b c).2) = (errS ([a, b, c])))))) rfl (e_move rfl) ?_
 have q78_71 : ((orientR a b c).2) = (errS ([a, b, c])) := by first | exact g1 | exact g2 (by assumption) | exact g3 (by assumption) | exact t1 | exact t2 | exact t3 | exact (t5 (by assumption)).1 | exact (t4 (by assumption)).1 | (rw [(t5 (by assumption)).2]; simp; done)
 refine l_val (v := Value.int .i64 ((onR a b c).2)) (want_y rfl rfl rfl (congrArg Bool.not (decide_eq_true q78_71))) (e_move rfl) ?_
 refine l_val (v := Value.int .i64 (errS ([a, b, c]))) (want_y rfl rfl rfl (congrArg Bool.not (decide_eq_true q78_71))) (e_move rfl) ?_
 refine l_val (v := Value.bool (!(decide (((onR a b c).2) = (errS ([a, b, c])))))) (want_y rfl rfl rfl (congrArg Bool.not (decide_eq_true q78_71))) (e_neq (m := (onR a b c).2) (n := errS ([a, b, c])) rfl rfl) ?_
 refine l_val (v := Value.bool (!(decide (((onR a b c).2) = (errS ([a, b, c])))))) rfl (e_pick_f rfl (congrArg Bool.not (decide_eq_true q78_71)) rfl) ?_
 refine l_val (v := Value.bool (!(decide (((onR a b c).2) = (errS ([a, b, c])))))) rfl (e_move rfl) ?_
 have q83_72 : ((onR a b c).2) = (errS ([a, b, c])) := by first | exact g1 | exact g2 (by assumption) | exact g3 (by assumption) | exact t1 | exact t2 | exact t3 | exact (t5 (by assumption)).1 | exact (t4 (by assumption)).1 | (rw [(t5 (by assumption)).2]; simp; done)
 replace bx5 := bx5.chg hb70 (not_no _)
 refine l_val (v := Value.agg (List.toArray [Value.int .i64 a.1, Value.int .i64 a.2])) (want_y rfl rfl rfl (congrArg Bool.not (decide_eq_true q83_72))) (e_load_bxN (ds := [Value.int .i64 a.1, Value.int .i64 a.2]) tp23_gf rfl bx5 rfl rfl) ?_
 replace bx10 := bx10.chg hb70 (not_no _)
 refine l_val (v := Value.agg (List.toArray [Value.int .i64 b.1, Value.int .i64 b.2])) (want_y rfl rfl rfl (congrArg Bool.not (decide_eq_true q83_72))) (e_load_bxN (ds := [Value.int .i64 b.1, Value.int .i64 b.2]) tp23_gf rfl bx10 rfl rfl) ?_
 replace bx15 := bx15.chg hb70 (not_no _)
 refine l_val (v := Value.agg (List.toArray [Value.int .i64 c.1, Value.int .i64 c.2])) (want_y rfl rfl rfl (congrArg Bool.not (decide_eq_true q83_72))) (e_load_bxN (ds := [Value.int .i64 c.1, Value.int .i64 c.2]) tp23_gf rfl bx15 rfl rfl) ?_
 refine l_op (want_y rfl rfl rfl (congrArg Bool.not (decide_eq_true q83_72))) ?_
 refine o_buildSlice (α := (Int) × (Int)) g60 (is 7) (is 7) (7, 0) rfl [a, b, c] Try.underlying25 tp23_gf (by decide) (by decide) (vs := [(0, Value.agg (List.toArray [Value.int .i64 a.1, Value.int .i64 a.2])), (1, Value.agg (List.toArray [Value.int .i64 b.1, Value.int .i64 b.2])), (2, Value.agg (List.toArray [Value.int .i64 c.1, Value.int .i64 c.2]))]) rfl rfl (.cons rfl (.cons rfl (.cons rfl .nil))) ?_
 intro g73 w74 v75 ch76 o77
 refine l_op (want_y rfl rfl rfl (congrArg Bool.not (decide_eq_true q83_72))) ?_
 refine o_call (v := Value.bool (decide (okL ([a, b, c])))) (e_call (vals := [v75]) Try.func25 bd25_gf nm25_gf rfl) (GMay_ok w74 ([a, b, c]) v75 (o77.flat).ro) ?_
 intro w78 hb79
 replace hb79 := chg_below hb79 g73
 refine l_val (v := Value.int .i64 (errS ([a, b, c]))) (want_y rfl rfl rfl (congrArg Bool.not (decide_eq_true q83_72))) (e_move rfl) ?_
 refine l_val (v := Value.bool (decide ((errS ([a, b, c])) = 0))) (want_y rfl rfl rfl (congrArg Bool.not (decide_eq_true q83_72))) (e_eql (m := errS ([a, b, c])) (n := 0) rfl rfl) ?_
 refine l_val (v := Value.bool (!(decide ((decide (okL ([a, b, c]))) = (decide ((errS ([a, b, c])) = 0)))))) (want_y rfl rfl rfl (congrArg Bool.not (decide_eq_true q83_72))) (e_neq_bool Try.underlying4 rfl rfl) ?_
 refine l_val (v := Value.bool (!(decide ((decide (okL ([a, b, c]))) = (decide ((errS ([a, b, c])) = 0)))))) rfl (e_pick_f rfl (congrArg Bool.not (decide_eq_true q83_72)) rfl) ?_
 refine l_nil ?_
 have p10_80 : (decide (okL ([a, b, c]))) = (decide ((errS ([a, b, c])) = 0)) := by first | exact g1 | exact g2 (by assumption) | exact g3 (by assumption) | exact t1 | exact t2 | exact t3 | exact (t5 (by assumption)).1 | exact (t4 (by assumption)).1 | (rw [(t5 (by assumption)).2]; simp; done)
 refine run_cond_f rfl (congrArg Bool.not (decide_eq_true p10_80)) ?_
 refine run_skip ?_
 refine run_seq ?_
 clear o77
 refine run_region rfl ?_
 refine l_val (v := Value.int .i64 (errS ([a, b, c]))) rfl (e_move rfl) ?_
 refine l_val (v := Value.bool (!(decide ((errS ([a, b, c])) = 0)))) rfl (e_neq (m := errS ([a, b, c])) (n := 0) rfl rfl) ?_
 refine l_val (v := Value.bool (!(decide ((errS ([a, b, c])) = 0)))) rfl (e_move rfl) ?_
 by_cases q95 : (errS ([a, b, c])) = 0
 ·
  obtain ⟨xa, xb, xc⟩ := okL3.1 (errS_ok q95)
  have ya := xa.bd
  have yb := xb.bd
  have yc := xc.bd
  refine l_skip (want_n rfl rfl rfl (congrArg Bool.not (decide_eq_true q95))) ?_
  refine l_skip (want_n rfl rfl rfl (congrArg Bool.not (decide_eq_true q95))) ?_
  refine l_val (v := Value.bool false) rfl (e_pick_f rfl (congrArg Bool.not (decide_eq_true q95)) rfl) ?_
  refine l_val (v := Value.bool false) rfl (e_move rfl) ?_
  refine l_skip (want_n rfl rfl rfl rfl) ?_
  refine l_skip (want_n rfl rfl rfl rfl) ?_
  refine l_val (v := Value.bool false) rfl (e_pick_f rfl rfl rfl) ?_
  refine l_val (v := Value.bool false) rfl (e_move rfl) ?_
  refine l_val (v := Value.int .i64 (errS ([a, b, c]))) (want_y rfl rfl rfl rfl) (e_move rfl) ?_
  refine l_val (v := Value.bool (decide ((errS ([a, b, c])) = 0))) (want_y rfl rfl rfl rfl) (e_eql (m := errS ([a, b, c])) (n := 0) rfl rfl) ?_
  refine l_val (v := Value.bool (decide ((errS ([a, b, c])) = 0))) (want_y rfl rfl rfl rfl) (e_move rfl) ?_
  refine l_val (v := Value.int .i64 ((orientR a b c).1)) (want_y rfl rfl rfl (decide_eq_true q95)) (e_move rfl) ?_
  replace bx5 := (bx5.chg ch76 (not_no _)).chg hb79 (not_no _)
  refine l_val (v := Value.agg (List.toArray [Value.int .i64 a.1, Value.int .i64 a.2])) (want_y rfl rfl rfl (decide_eq_true q95)) (e_load_bxN (ds := [Value.int .i64 a.1, Value.int .i64 a.2]) tp23_gf rfl bx5 rfl rfl) ?_
  replace bx10 := (bx10.chg ch76 (not_no _)).chg hb79 (not_no _)
  refine l_val (v := Value.agg (List.toArray [Value.int .i64 b.1, Value.int .i64 b.2])) (want_y rfl rfl rfl (decide_eq_true q95)) (e_load_bxN (ds := [Value.int .i64 b.1, Value.int .i64 b.2]) tp23_gf rfl bx10 rfl rfl) ?_
  replace bx15 := (bx15.chg ch76 (not_no _)).chg hb79 (not_no _)
  refine l_val (v := Value.agg (List.toArray [Value.int .i64 c.1, Value.int .i64 c.2])) (want_y rfl rfl rfl (decide_eq_true q95)) (e_load_bxN (ds := [Value.int .i64 c.1, Value.int .i64 c.2]) tp23_gf rfl bx15 rfl rfl) ?_
  refine l_op (want_y rfl rfl rfl (decide_eq_true q95)) ?_
  refine o_call (v := Value.int .i64 (trn a b c)) (e_call (vals := [Value.agg (List.toArray [Value.int .i64 a.1, Value.int .i64 a.2]), Value.agg (List.toArray [Value.int .i64 b.1, Value.int .i64 b.2]), Value.agg (List.toArray [Value.int .i64 c.1, Value.int .i64 c.2])]) Try.func26 bd26_gf nm26_gf rfl) (Turn_ok w78 a b c (by assumption) (by assumption) (by assumption)) ?_
  intro w81 hb82
  replace hb82 := chg_below hb82 g73
  refine l_val (v := Value.bool (decide (((orientR a b c).1) = (trn a b c)))) (want_y rfl rfl rfl (decide_eq_true q95)) (e_eql (m := (orientR a b c).1) (n := trn a b c) rfl rfl) ?_
  refine l_val (v := Value.bool (decide (((orientR a b c).1) = (trn a b c)))) (want_y rfl rfl rfl rfl) (e_pick_t rfl (decide_eq_true q95) rfl) ?_
  refine l_val (v := Value.bool (decide (((orientR a b c).1) = (trn a b c)))) (want_y rfl rfl rfl rfl) (e_move rfl) ?_
  have q114_83 : ((orientR a b c).1) = (trn a b c) := by first | exact g1 | exact g2 (by assumption) | exact g3 (by assumption) | exact t1 | exact t2 | exact t3 | exact (t5 (by assumption)).1 | exact (t4 (by assumption)).1 | (rw [(t5 (by assumption)).2]; simp; done)
  refine l_val (v := Value.bool ((onR a b c).1)) (want_y rfl rfl rfl (decide_eq_true q114_83)) (e_move rfl) ?_
  replace bx5 := bx5.chg hb82 (not_no _)
  refine l_val (v := Value.agg (List.toArray [Value.int .i64 a.1, Value.int .i64 a.2])) (want_y rfl rfl rfl (decide_eq_true q114_83)) (e_load_bxN (ds := [Value.int .i64 a.1, Value.int .i64 a.2]) tp23_gf rfl bx5 rfl rfl) ?_
  replace bx10 := bx10.chg hb82 (not_no _)
  refine l_val (v := Value.agg (List.toArray [Value.int .i64 b.1, Value.int .i64 b.2])) (want_y rfl rfl rfl (decide_eq_true q114_83)) (e_load_bxN (ds := [Value.int .i64 b.1, Value.int .i64 b.2]) tp23_gf rfl bx10 rfl rfl) ?_
  replace bx15 := bx15.chg hb82 (not_no _)
  refine l_val (v := Value.agg (List.toArray [Value.int .i64 c.1, Value.int .i64 c.2])) (want_y rfl rfl rfl (decide_eq_true q114_83)) (e_load_bxN (ds := [Value.int .i64 c.1, Value.int .i64 c.2]) tp23_gf rfl bx15 rfl rfl) ?_
  refine l_op (want_y rfl rfl rfl (decide_eq_true q114_83)) ?_
  refine o_call (v := Value.bool (decide (onP a b c))) (e_call (vals := [Value.agg (List.toArray [Value.int .i64 a.1, Value.int .i64 a.2]), Value.agg (List.toArray [Value.int .i64 b.1, Value.int .i64 b.2]), Value.agg (List.toArray [Value.int .i64 c.1, Value.int .i64 c.2])]) Try.func27 bd27_gf nm27_gf rfl) (D2On_ok w81 a b c (by assumption) (by assumption) (by assumption)) ?_
  intro w84 hb85
  replace hb85 := chg_below hb85 g73
  refine l_val (v := Value.bool (decide (((onR a b c).1) = (decide (onP a b c))))) (want_y rfl rfl rfl (decide_eq_true q114_83)) (e_eql_bool Try.underlying4 rfl rfl) ?_
  refine l_val (v := Value.bool (decide (((onR a b c).1) = (decide (onP a b c))))) (want_y rfl rfl rfl rfl) (e_pick_t rfl (decide_eq_true q114_83) rfl) ?_
  refine l_val (v := Value.bool (decide (((onR a b c).1) = (decide (onP a b c))))) rfl (e_pick_f rfl rfl rfl) ?_
  refine l_val (v := Value.bool (decide (((onR a b c).1) = (decide (onP a b c))))) rfl (e_assign rfl) ?_
  refine l_nil ?_
  refine run_ret (vs := [Value.bool (decide (((onR a b c).1) = (decide (onP a b c))))]) Try.func7 (.tmp rfl .nil) ?_
  -- return 2
  have e0 : (decide (((onR a b c).1) = (decide (onP a b c))) : Bool) = (true) := by
    first
      | rfl
      | exact decide_eq_true (t4 q95).2
      | exact (decide_eq_true (t4 q95).2).symm
  have C86 : Chg (inl []) _ _ _ _ := (ch2.n).seq ((ch7.n).seq ((ch12.n).seq ((ch17.n).seq ((hb22.n).seq ((ch28.n).seq ((hb31.n).seq ((hb33.n).seq ((ch63.n).seq ((hb66.n).seq ((hb68.n).seq ((hb70.n).seq ((ch76.n).seq ((hb79.n).seq ((hb82.n).seq (hb85.n)))))))))))))))
  replace hbase := hbase.chg C86 (is_nl rfl)
  exact ⟨(congrArg (a₁ := decide (((onR a b c).1) = (decide (onP a b c)))) (fun (z0 : Bool) => Ending.returned (Value.bool z0)) e0), hbase.below⟩
 refine l_val (v := Value.int .i64 ((orientR a b c).1)) (want_y rfl rfl rfl (congrArg Bool.not (decide_eq_false q95))) (e_move rfl) ?_
 refine l_val (v := Value.bool (decide (((orientR a b c).1) = 0))) (want_y rfl rfl rfl (congrArg Bool.not (decide_eq_false q95))) (e_eql (m := (orientR a b c).1) (n := 0) rfl rfl) ?_
 refine l_val (v := Value.bool (decide (((orientR a b c).1) = 0))) rfl (e_pick_t rfl (congrArg Bool.not (decide_eq_false q95)) rfl) ?_
 refine l_val (v := Value.bool (decide (((orientR a b c).1) = 0))) rfl (e_move rfl) ?_
 have q99_87 : ((orientR a b c).1) = 0 := by first | exact g1 | exact g2 (by assumption) | exact g3 (by assumption) | exact t1 | exact t2 | exact t3 | exact (t5 (by assumption)).1 | exact (t4 (by assumption)).1 | (rw [(t5 (by assumption)).2]; simp; done)
 refine l_val (v := Value.bool ((onR a b c).1)) (want_y rfl rfl rfl (decide_eq_true q99_87)) (e_move rfl) ?_
 refine l_val (v := Value.bool (!((onR a b c).1))) (want_y rfl rfl rfl (decide_eq_true q99_87)) (e_not (b := ((onR a b c).1)) rfl) ?_
 refine l_val (v := Value.bool (!((onR a b c).1))) rfl (e_pick_t rfl (decide_eq_true q99_87) rfl) ?_
 refine l_val (v := Value.bool (!((onR a b c).1))) rfl (e_move rfl) ?_
 have q103_88 : ¬ (((onR a b c).1) = true) := by first | exact g1 | exact g2 (by assumption) | exact g3 (by assumption) | exact t1 | exact t2 | exact t3 | exact (t5 (by assumption)).1 | exact (t4 (by assumption)).1 | (rw [(t5 (by assumption)).2]; simp; done)
 refine l_skip (want_n rfl rfl rfl (congrArg Bool.not (Bool.eq_false_iff.2 q103_88))) ?_
 refine l_skip (want_n rfl rfl rfl (congrArg Bool.not (Bool.eq_false_iff.2 q103_88))) ?_
 refine l_skip (want_n rfl rfl rfl (congrArg Bool.not (Bool.eq_false_iff.2 q103_88))) ?_
 refine l_skip (want_u rfl rfl rfl) ?_
 refine l_skip (want_u rfl rfl rfl) ?_
 refine l_skip (want_u rfl rfl rfl) ?_
 refine l_skip (want_u rfl rfl rfl) ?_
 refine l_skip (want_u rfl rfl rfl) ?_
 refine l_skip (want_u rfl rfl rfl) ?_
 refine l_skip (want_n rfl rfl rfl (congrArg Bool.not (Bool.eq_false_iff.2 q103_88))) ?_
 refine l_skip (want_n rfl rfl rfl (congrArg Bool.not (Bool.eq_false_iff.2 q103_88))) ?_
 refine l_skip (want_u rfl rfl rfl) ?_
 refine l_skip (want_u rfl rfl rfl) ?_
 refine l_skip (want_u rfl rfl rfl) ?_
 refine l_skip (want_u rfl rfl rfl) ?_
 refine l_skip (want_u rfl rfl rfl) ?_
 refine l_skip (want_u rfl rfl rfl) ?_
 refine l_skip (want_n rfl rfl rfl (congrArg Bool.not (Bool.eq_false_iff.2 q103_88))) ?_
 refine l_val (v := Value.bool true) rfl (e_pick_t rfl (congrArg Bool.not (Bool.eq_false_iff.2 q103_88)) rfl) ?_
 refine l_val (v := Value.bool true) rfl (e_assign rfl) ?_
 refine l_nil ?_
 refine run_ret (vs := [Value.bool true]) Try.func7 (.tmp rfl .nil) ?_
 -- return 3
 have e0 : (true : Bool) = (true) := by
   first
     | rfl
     | exact decide_eq_true (t4 q95).2
     | exact (decide_eq_true (t4 q95).2).symm
 have C89 : Chg (inl []) _ _ _ _ := (ch2.n).seq ((ch7.n).seq ((ch12.n).seq ((ch17.n).seq ((hb22.n).seq ((ch28.n).seq ((hb31.n).seq ((hb33.n).seq ((ch63.n).seq ((hb66.n).seq ((hb68.n).seq ((hb70.n).seq ((ch76.n).seq (hb79.n)))))))))))))
 replace hbase := hbase.chg C89 (is_nl rfl)
 exact ⟨(congrArg (a₁ := true) (fun (z0 : Bool) => Ending.returned (Value.bool z0)) e0), hbase.below⟩
end TL
