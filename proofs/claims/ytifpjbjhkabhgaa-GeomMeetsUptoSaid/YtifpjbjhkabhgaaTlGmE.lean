import Derived.Test.YtifpjbjhkabhgaaTlGmA
import Derived.Test.YtifpjbjhkabhgaaTlGmM
import Derived.Test.YtifpjbjhkabhgaaTlGmB
import Derived.Test.YtifpjbjhkabhgaaTlGmD
import Derived.Test.YtifpjbjhkabhgaaTlGeomB
import Derived.Test.YtifpjbjhkabhgaaProg
import Derived.Test.YtifpjbjhkabhgaaTlNet2
import Derived.Test.YtifpjbjhkabhgaaTlEq
import Derived.Test.YtifpjbjhkabhgaaTlHold
import Derived.Test.YtifpjbjhkabhgaaTlDraw
import Derived.Test.YtifpjbjhkabhgaaTlMap
set_option linter.all false
set_option maxRecDepth 20000
namespace TL
open Go Go.Proofs
theorem mixed_ge : Try.prog.follows .mixedOrders = true := by kernel_rfl
theorem tp23_ge : Tp Try.prog 23 true 2 16 (.agg #[.int .i64 0, .int .i64 0]) := Tp.of (by kernel_rfl)
theorem bd12_ge : Try.f12.body.isNone = false := rfl
theorem nm12_ge : (Try.f12.name == "runtime.NumGoroutine") = false := by decide +kernel
theorem bd13_ge : Try.f13.body.isNone = false := rfl
theorem nm13_ge : (Try.f13.name == "runtime.NumGoroutine") = false := by decide +kernel
theorem bd15_ge : Try.f15.body.isNone = false := rfl
theorem nm15_ge : (Try.f15.name == "runtime.NumGoroutine") = false := by decide +kernel
theorem bd16_ge : Try.f16.body.isNone = false := rfl
theorem nm16_ge : (Try.f16.name == "runtime.NumGoroutine") = false := by decide +kernel
theorem bd24_ge : Try.f24.body.isNone = false := rfl
theorem nm24_ge : (Try.f24.name == "runtime.NumGoroutine") = false := by decide +kernel

set_option maxHeartbeats 8000000 in
theorem GeomMeets_ok (w0 : World) (a : (Int) × (Int)) (b : (Int) × (Int)) (c : (Int) × (Int)) (d : (Int) × (Int)) :
    Calls Try.prog 8 #[Value.agg (List.toArray [Value.int .i64 a.1, Value.int .i64 a.2]), Value.agg (List.toArray [Value.int .i64 b.1, Value.int .i64 b.2]), Value.agg (List.toArray [Value.int .i64 c.1, Value.int .i64 c.2]), Value.agg (List.toArray [Value.int .i64 d.1, Value.int .i64 d.2])] w0 (fun ee w => ee = .returned (Value.bool true) ∧ RowKit.Below w0.heap.size w0 w) := by
 refine calls_of_run Try.func8 rfl (Nat.le_of_ble_eq_true rfl) ?_
 have hbase := Base.start w0
 refine run_seq ?_
 refine run_region rfl ?_
 refine l_op rfl ?_
 refine o_box c0 (is 1) (1, 0) rfl rfl ?_
 intro g4 w1 b3 ch2 bx5
 replace bx5 : Bx g4 (is 1) w1 b3 [Value.int .i64 a.1, Value.int .i64 a.2] := bx5
 refine l_op rfl ?_
 refine o_box g4 (is 2) (2, 0) rfl rfl ?_
 intro g9 w6 b8 ch7 bx10
 replace bx10 : Bx g9 (is 2) w6 b8 [Value.int .i64 b.1, Value.int .i64 b.2] := bx10
 refine l_op rfl ?_
 refine o_box g9 (is 3) (3, 0) rfl rfl ?_
 intro g14 w11 b13 ch12 bx15
 replace bx15 : Bx g14 (is 3) w11 b13 [Value.int .i64 c.1, Value.int .i64 c.2] := bx15
 refine l_op rfl ?_
 refine o_box g14 (is 4) (4, 0) rfl rfl ?_
 intro g19 w16 b18 ch17 bx20
 replace bx20 : Bx g19 (is 4) w16 b18 [Value.int .i64 d.1, Value.int .i64 d.2] := bx20
 refine l_val (v := Value.bool false) rfl (e_assign rfl) ?_
 refine l_nil ?_
 refine run_seq ?_
 refine run_seq ?_
 refine run_region rfl ?_
 refine l_op rfl ?_
 refine o_call (v := Value.bool true) (e_call (vals := []) Try.func12 bd12_ge nm12_ge rfl) (begun2_ok w16 ) ?_
 intro w21 hb22
 replace hb22 := chg_below hb22 g19
 refine l_val (v := Value.bool false) rfl (e_not (b := true) rfl) ?_
 refine l_nil ?_
 refine run_cond_f rfl rfl ?_
 refine run_skip ?_
 refine run_seq ?_
 refine run_seq ?_
 refine run_region rfl ?_
 have C23 : Chg (inl []) _ _ _ _ := (ch7.n).seq ((ch12.n).seq ((ch17.n).seq (hb22.n)))
 replace bx5 := bx5.chg C23 (is_nl rfl)
 refine l_val (v := Value.agg (List.toArray [Value.int .i64 a.1, Value.int .i64 a.2])) rfl (e_load_bxN (ds := [Value.int .i64 a.1, Value.int .i64 a.2]) tp23_ge rfl bx5 rfl rfl) ?_
 have C24 : Chg (inl []) _ _ _ _ := (ch12.n).seq ((ch17.n).seq (hb22.n))
 replace bx10 := bx10.chg C24 (is_nl rfl)
 refine l_val (v := Value.agg (List.toArray [Value.int .i64 b.1, Value.int .i64 b.2])) rfl (e_load_bxN (ds := [Value.int .i64 b.1, Value.int .i64 b.2]) tp23_ge rfl bx10 rfl rfl) ?_
 replace bx15 := (bx15.chg ch17 (not_no _)).chg hb22 (not_no _)
 refine l_val (v := Value.agg (List.toArray [Value.int .i64 c.1, Value.int .i64 c.2])) rfl (e_load_bxN (ds := [Value.int .i64 c.1, Value.int .i64 c.2]) tp23_ge rfl bx15 rfl rfl) ?_
 replace bx20 := bx20.chg hb22 (not_no _)
 refine l_val (v := Value.agg (List.toArray [Value.int .i64 d.1, Value.int .i64 d.2])) rfl (e_load_bxN (ds := [Value.int .i64 d.1, Value.int .i64 d.2]) tp23_ge rfl bx20 rfl rfl) ?_
 refine l_op rfl ?_
 refine o_buildSlice (α := (Int) × (Int)) g19 (is 5) (is 5) (5, 0) rfl ([a, b, c, d] : List ((Int) × (Int))) Try.underlying25 tp23_ge (by decide) (by decide) (vs := [(0, Value.agg (List.toArray [Value.int .i64 a.1, Value.int .i64 a.2])), (1, Value.agg (List.toArray [Value.int .i64 b.1, Value.int .i64 b.2])), (2, Value.agg (List.toArray [Value.int .i64 c.1, Value.int .i64 c.2])), (3, Value.agg (List.toArray [Value.int .i64 d.1, Value.int .i64 d.2]))]) rfl rfl (.cons rfl (.cons rfl (.cons rfl (.cons rfl .nil)))) ?_
 intro g25 w26 v27 ch28 o29
 refine l_op rfl ?_
 refine o_call (v := Value.int .i64 (errS ([a, b, c, d] : List ((Int) × (Int))))) (e_call (vals := [v27]) Try.func16 bd16_ge nm16_ge rfl) (err_ok w26 ([a, b, c, d] : List ((Int) × (Int))) v27 (o29.flat).ro) ?_
 intro w30 hb31
 replace hb31 := chg_below hb31 g25
 refine l_val (v := Value.bool (!(decide ((errS ([a, b, c, d] : List ((Int) × (Int)))) = 0)))) rfl (e_neq (m := errS ([a, b, c, d] : List ((Int) × (Int)))) (n := 0) rfl rfl) ?_
 refine l_nil ?_
 by_cases p3 : (errS ([a, b, c, d] : List ((Int) × (Int)))) = 0
 ·
  refine run_cond_f rfl (congrArg Bool.not (decide_eq_true p3)) ?_
  refine run_skip ?_
  refine run_seq ?_
  clear o29
  obtain ⟨⟨hka, hkb⟩, hkc, hkd⟩ := okL4.1 (errS_ok (by assumption))
  have hlaw := meets_law hka hkb hkc hkd
  have k1 := orient_abs a b c
  have k2 := orient_abs a b d
  have k3 := orient_abs c d a
  have k4 := orient_abs c d b
  have m1 := mul_bd (x := (orientR a b c).1) (y := (orientR a b d).1) (by omega) (by omega)
  have m2 := mul_bd (x := (orientR c d a).1) (y := (orientR c d b).1) (by omega) (by omega)
  refine run_region rfl ?_
  replace bx5 := (bx5.chg ch28 (not_no _)).chg hb31 (not_no _)
  refine l_val (v := Value.agg (List.toArray [Value.int .i64 a.1, Value.int .i64 a.2])) rfl (e_load_bxN (ds := [Value.int .i64 a.1, Value.int .i64 a.2]) tp23_ge rfl bx5 rfl rfl) ?_
  replace bx10 := (bx10.chg ch28 (not_no _)).chg hb31 (not_no _)
  refine l_val (v := Value.agg (List.toArray [Value.int .i64 b.1, Value.int .i64 b.2])) rfl (e_load_bxN (ds := [Value.int .i64 b.1, Value.int .i64 b.2]) tp23_ge rfl bx10 rfl rfl) ?_
  replace bx15 := (bx15.chg ch28 (not_no _)).chg hb31 (not_no _)
  refine l_val (v := Value.agg (List.toArray [Value.int .i64 c.1, Value.int .i64 c.2])) rfl (e_load_bxN (ds := [Value.int .i64 c.1, Value.int .i64 c.2]) tp23_ge rfl bx15 rfl rfl) ?_
  replace bx20 := (bx20.chg ch28 (not_no _)).chg hb31 (not_no _)
  refine l_val (v := Value.agg (List.toArray [Value.int .i64 d.1, Value.int .i64 d.2])) rfl (e_load_bxN (ds := [Value.int .i64 d.1, Value.int .i64 d.2]) tp23_ge rfl bx20 rfl rfl) ?_
  refine l_op rfl ?_
  refine o_call (v := Value.tuple (List.toArray [Value.int .i64 ((meetR a b c d).1), Value.int .i64 ((meetR a b c d).2)])) (e_call (vals := [Value.agg (List.toArray [Value.int .i64 a.1, Value.int .i64 a.2]), Value.agg (List.toArray [Value.int .i64 b.1, Value.int .i64 b.2]), Value.agg (List.toArray [Value.int .i64 c.1, Value.int .i64 c.2]), Value.agg (List.toArray [Value.int .i64 d.1, Value.int .i64 d.2])]) Try.func15 bd15_ge nm15_ge rfl) (Meet_ok w30 a b c d) ?_
  intro w32 hb33
  replace hb33 := chg_below hb33 g25
  refine l_val (v := Value.tuple (List.toArray [Value.int .i64 ((meetR a b c d).1), Value.int .i64 ((meetR a b c d).2)])) rfl (e_move rfl) ?_
  refine l_val (v := Value.int .i64 ((meetR a b c d).1)) rfl (e_extract rfl rfl) ?_
  refine l_val (v := Value.int .i64 ((meetR a b c d).2)) rfl (e_extract rfl rfl) ?_
  refine l_val (v := Value.int .i64 ((meetR a b c d).1)) rfl (e_assign rfl) ?_
  refine l_val (v := Value.int .i64 ((meetR a b c d).2)) rfl (e_assign rfl) ?_
  refine l_nil ?_
  refine run_seq ?_
  refine run_region rfl ?_
  replace bx5 := bx5.chg hb33 (not_no _)
  refine l_val (v := Value.agg (List.toArray [Value.int .i64 a.1, Value.int .i64 a.2])) rfl (e_load_bxN (ds := [Value.int .i64 a.1, Value.int .i64 a.2]) tp23_ge rfl bx5 rfl rfl) ?_
  replace bx10 := bx10.chg hb33 (not_no _)
  refine l_val (v := Value.agg (List.toArray [Value.int .i64 b.1, Value.int .i64 b.2])) rfl (e_load_bxN (ds := [Value.int .i64 b.1, Value.int .i64 b.2]) tp23_ge rfl bx10 rfl rfl) ?_
  replace bx15 := bx15.chg hb33 (not_no _)
  refine l_val (v := Value.agg (List.toArray [Value.int .i64 c.1, Value.int .i64 c.2])) rfl (e_load_bxN (ds := [Value.int .i64 c.1, Value.int .i64 c.2]) tp23_ge rfl bx15 rfl rfl) ?_
  refine l_op rfl ?_
  refine o_call (v := Value.tuple (List.toArray [Value.int .i64 ((orientR a b c).1), Value.int .i64 ((orientR a b c).2)])) (e_call (vals := [Value.agg (List.toArray [Value.int .i64 a.1, Value.int .i64 a.2]), Value.agg (List.toArray [Value.int .i64 b.1, Value.int .i64 b.2]), Value.agg (List.toArray [Value.int .i64 c.1, Value.int .i64 c.2])]) Try.func13 bd13_ge nm13_ge rfl) (Orient_ok w32 a b c) ?_
  intro w34 hb35
  replace hb35 := chg_below hb35 g25
  refine l_val (v := Value.tuple (List.toArray [Value.int .i64 ((orientR a b c).1), Value.int .i64 ((orientR a b c).2)])) rfl (e_move rfl) ?_
  refine l_val (v := Value.int .i64 ((orientR a b c).1)) rfl (e_extract rfl rfl) ?_
  refine l_val (v := Value.int .i64 ((orientR a b c).2)) rfl (e_extract rfl rfl) ?_
  refine l_val (v := Value.int .i64 ((orientR a b c).1)) rfl (e_assign rfl) ?_
  refine l_val (v := Value.int .i64 ((orientR a b c).2)) rfl (e_assign rfl) ?_
  refine l_nil ?_
  refine run_seq ?_
  refine run_region rfl ?_
  replace bx5 := bx5.chg hb35 (not_no _)
  refine l_val (v := Value.agg (List.toArray [Value.int .i64 a.1, Value.int .i64 a.2])) rfl (e_load_bxN (ds := [Value.int .i64 a.1, Value.int .i64 a.2]) tp23_ge rfl bx5 rfl rfl) ?_
  replace bx10 := bx10.chg hb35 (not_no _)
  refine l_val (v := Value.agg (List.toArray [Value.int .i64 b.1, Value.int .i64 b.2])) rfl (e_load_bxN (ds := [Value.int .i64 b.1, Value.int .i64 b.2]) tp23_ge rfl bx10 rfl rfl) ?_
  replace bx20 := (bx20.chg hb33 (not_no _)).chg hb35 (not_no _)
  refine l_val (v := Value.agg (List.toArray [Value.int .i64 d.1, Value.int .i64 d.2])) rfl (e_load_bxN (ds := [Value.int .i64 d.1, Value.int .i64 d.2]) tp23_ge rfl bx20 rfl rfl) ?_
  refine l_op rfl ?_
  refine o_call (v := Value.tuple (List.toArray [Value.int .i64 ((orientR a b d).1), Value.int .i64 ((orientR a b d).2)])) (e_call (vals := [Value.agg (List.toArray [Value.int .i64 a.1, Value.int .i64 a.2]), Value.agg (List.toArray [Value.int .i64 b.1, Value.int .i64 b.2]), Value.agg (List.toArray [Value.int .i64 d.1, Value.int .i64 d.2])]) Try.func13 bd13_ge nm13_ge rfl) (Orient_ok w34 a b d) ?_
  intro w36 hb37
  replace hb37 := chg_below hb37 g25
  refine l_val (v := Value.tuple (List.toArray [Value.int .i64 ((orientR a b d).1), Value.int .i64 ((orientR a b d).2)])) rfl (e_move rfl) ?_
  refine l_val (v := Value.int .i64 ((orientR a b d).1)) rfl (e_extract rfl rfl) ?_
  refine l_val (v := Value.int .i64 ((orientR a b d).2)) rfl (e_extract rfl rfl) ?_
  refine l_val (v := Value.int .i64 ((orientR a b d).1)) rfl (e_assign rfl) ?_
  refine l_val (v := Value.int .i64 ((orientR a b d).2)) rfl (e_assign rfl) ?_
  refine l_nil ?_
  refine run_seq ?_
  refine run_region rfl ?_
  replace bx15 := (bx15.chg hb35 (not_no _)).chg hb37 (not_no _)
  refine l_val (v := Value.agg (List.toArray [Value.int .i64 c.1, Value.int .i64 c.2])) rfl (e_load_bxN (ds := [Value.int .i64 c.1, Value.int .i64 c.2]) tp23_ge rfl bx15 rfl rfl) ?_
  replace bx20 := bx20.chg hb37 (not_no _)
  refine l_val (v := Value.agg (List.toArray [Value.int .i64 d.1, Value.int .i64 d.2])) rfl (e_load_bxN (ds := [Value.int .i64 d.1, Value.int .i64 d.2]) tp23_ge rfl bx20 rfl rfl) ?_
  replace bx5 := bx5.chg hb37 (not_no _)
  refine l_val (v := Value.agg (List.toArray [Value.int .i64 a.1, Value.int .i64 a.2])) rfl (e_load_bxN (ds := [Value.int .i64 a.1, Value.int .i64 a.2]) tp23_ge rfl bx5 rfl rfl) ?_
  refine l_op rfl ?_
  refine o_call (v := Value.tuple (List.toArray [Value.int .i64 ((orientR c d a).1), Value.int .i64 ((orientR c d a).2)])) (e_call (vals := [Value.agg (List.toArray [Value.int .i64 c.1, Value.int .i64 c.2]), Value.agg (List.toArray [Value.int .i64 d.1, Value.int .i64 d.2]), Value.agg (List.toArray [Value.int .i64 a.1, Value.int .i64 a.2])]) Try.func13 bd13_ge nm13_ge rfl) (Orient_ok w36 c d a) ?_
  intro w38 hb39
  replace hb39 := chg_below hb39 g25
  refine l_val (v := Value.tuple (List.toArray [Value.int .i64 ((orientR c d a).1), Value.int .i64 ((orientR c d a).2)])) rfl (e_move rfl) ?_
  refine l_val (v := Value.int .i64 ((orientR c d a).1)) rfl (e_extract rfl rfl) ?_
  refine l_val (v := Value.int .i64 ((orientR c d a).2)) rfl (e_extract rfl rfl) ?_
  refine l_val (v := Value.int .i64 ((orientR c d a).1)) rfl (e_assign rfl) ?_
  refine l_val (v := Value.int .i64 ((orientR c d a).2)) rfl (e_assign rfl) ?_
  refine l_nil ?_
  refine run_seq ?_
  refine run_region rfl ?_
  replace bx15 := bx15.chg hb39 (not_no _)
  refine l_val (v := Value.agg (List.toArray [Value.int .i64 c.1, Value.int .i64 c.2])) rfl (e_load_bxN (ds := [Value.int .i64 c.1, Value.int .i64 c.2]) tp23_ge rfl bx15 rfl rfl) ?_
  replace bx20 := bx20.chg hb39 (not_no _)
  refine l_val (v := Value.agg (List.toArray [Value.int .i64 d.1, Value.int .i64 d.2])) rfl (e_load_bxN (ds := [Value.int .i64 d.1, Value.int .i64 d.2]) tp23_ge rfl bx20 rfl rfl) ?_
  replace bx10 := (bx10.chg hb37 (not_no _)).chg hb39 (not_no _)
  refine l_val (v := Value.agg (List.toArray [Value.int .i64 b.1, Value.int .i64 b.2])) rfl (e_load_bxN (ds := [Value.int .i64 b.1, Value.int .i64 b.2]) tp23_ge rfl bx10 rfl rfl) ?_
  refine l_op rfl ?_
  refine o_call (v := Value.tuple (List.toArray [Value.int .i64 ((orientR c d b).1), Value.int .i64 ((orientR c d b).2)])) (e_call (vals := [Value.agg (List.toArray [Value.int .i64 c.1, Value.int .i64 c.2]), Value.agg (List.toArray [Value.int .i64 d.1, Value.int .i64 d.2]), Value.agg (List.toArray [Value.int .i64 b.1, Value.int .i64 b.2])]) Try.func13 bd13_ge nm13_ge rfl) (Orient_ok w38 c d b) ?_
  intro w40 hb41
  replace hb41 := chg_below hb41 g25
  refine l_val (v := Value.tuple (List.toArray [Value.int .i64 ((orientR c d b).1), Value.int .i64 ((orientR c d b).2)])) rfl (e_move rfl) ?_
  refine l_val (v := Value.int .i64 ((orientR c d b).1)) rfl (e_extract rfl rfl) ?_
  refine l_val (v := Value.int .i64 ((orientR c d b).2)) rfl (e_extract rfl rfl) ?_
  refine l_val (v := Value.int .i64 ((orientR c d b).1)) rfl (e_assign rfl) ?_
  refine l_val (v := Value.int .i64 ((orientR c d b).2)) rfl (e_assign rfl) ?_
  refine l_nil ?_
  refine run_seq ?_
  refine run_region rfl ?_
  refine l_val (v := Value.int .i64 ((orientR a b c).1)) rfl (e_move rfl) ?_
  refine l_val (v := Value.int .i64 ((orientR a b d).1)) rfl (e_move rfl) ?_
  refine l_val (v := Value.int .i64 (((orientR a b c).1) * ((orientR a b d).1))) rfl (e_mul (m := (orientR a b c).1) (n := (orientR a b d).1) rfl rfl (by omega)) ?_
  refine l_val (v := Value.bool (decide ((((orientR a b c).1) * ((orientR a b d).1)) < 0))) rfl (e_lss (m := ((orientR a b c).1) * ((orientR a b d).1)) (n := 0) rfl rfl) ?_
  refine l_val (v := Value.bool (decide ((((orientR a b c).1) * ((orientR a b d).1)) < 0))) rfl (e_move rfl) ?_
  by_cases q76 : (((orientR a b c).1) * ((orientR a b d).1)) < 0
  ·
   refine l_val (v := Value.int .i64 ((orientR c d a).1)) (want_y rfl rfl rfl (decide_eq_true q76)) (e_move rfl) ?_
   refine l_val (v := Value.int .i64 ((orientR c d b).1)) (want_y rfl rfl rfl (decide_eq_true q76)) (e_move rfl) ?_
   refine l_val (v := Value.int .i64 (((orientR c d a).1) * ((orientR c d b).1))) (want_y rfl rfl rfl (decide_eq_true q76)) (e_mul (m := (orientR c d a).1) (n := (orientR c d b).1) rfl rfl (by omega)) ?_
   refine l_val (v := Value.bool (decide ((((orientR c d a).1) * ((orientR c d b).1)) < 0))) (want_y rfl rfl rfl (decide_eq_true q76)) (e_lss (m := ((orientR c d a).1) * ((orientR c d b).1)) (n := 0) rfl rfl) ?_
   refine l_val (v := Value.bool (decide ((((orientR c d a).1) * ((orientR c d b).1)) < 0))) rfl (e_pick_t rfl (decide_eq_true q76) rfl) ?_
   refine l_val (v := Value.bool (decide ((((orientR c d a).1) * ((orientR c d b).1)) < 0))) rfl (e_assign rfl) ?_
   refine l_nil ?_
   refine run_seq ?_
   refine run_region rfl ?_
   refine l_val (v := Value.int .i64 0) rfl (e_assign rfl) ?_
   refine l_nil ?_
   refine run_seq ?_
   refine run_region rfl ?_
   replace bx5 := (bx5.chg hb39 (not_no _)).chg hb41 (not_no _)
   refine l_val (v := Value.agg (List.toArray [Value.int .i64 a.1, Value.int .i64 a.2])) rfl (e_load_bxN (ds := [Value.int .i64 a.1, Value.int .i64 a.2]) tp23_ge rfl bx5 rfl rfl) ?_
   replace bx10 := bx10.chg hb41 (not_no _)
   refine l_val (v := Value.agg (List.toArray [Value.int .i64 b.1, Value.int .i64 b.2])) rfl (e_load_bxN (ds := [Value.int .i64 b.1, Value.int .i64 b.2]) tp23_ge rfl bx10 rfl rfl) ?_
   replace bx15 := bx15.chg hb41 (not_no _)
   refine l_val (v := Value.agg (List.toArray [Value.int .i64 c.1, Value.int .i64 c.2])) rfl (e_load_bxN (ds := [Value.int .i64 c.1, Value.int .i64 c.2]) tp23_ge rfl bx15 rfl rfl) ?_
   replace bx20 := bx20.chg hb41 (not_no _)
   refine l_val (v := Value.agg (List.toArray [Value.int .i64 d.1, Value.int .i64 d.2])) rfl (e_load_bxN (ds := [Value.int .i64 d.1, Value.int .i64 d.2]) tp23_ge rfl bx20 rfl rfl) ?_
   refine l_op rfl ?_
   refine o_buildSlice (α := (Int) × (Int)) g25 (is 6) (is 6) (6, 0) rfl ([a, b, c, d] : List ((Int) × (Int))) Try.underlying25 tp23_ge (by decide) (by decide) (vs := [(0, Value.agg (List.toArray [Value.int .i64 a.1, Value.int .i64 a.2])), (1, Value.agg (List.toArray [Value.int .i64 b.1, Value.int .i64 b.2])), (2, Value.agg (List.toArray [Value.int .i64 c.1, Value.int .i64 c.2])), (3, Value.agg (List.toArray [Value.int .i64 d.1, Value.int .i64 d.2]))]) rfl rfl (.cons rfl (.cons rfl (.cons rfl (.cons rfl .nil)))) ?_
   intro g42 w43 v44 ch45 o46
   refine l_val (v := v44) rfl (e_assign rfl) ?_
   refine l_nil ?_
   refine run_seq ?_
   refine run_seq ?_
   refine run_region rfl ?_
   refine l_val (v := Value.int .i64 0) rfl (e_assign rfl) ?_
   refine l_nil ?_
   refine run_block ?_
   refine run_loop (σ := Nat × Nat × Cmap) (fun ⟨on, i, gq⟩ f w => Base w0 gq w ∧ f 4 = Value.pointer (some ⟨b3, 0, none⟩) ∧ f 5 = Value.pointer (some ⟨b8, 0, none⟩) ∧ f 6 = Value.pointer (some ⟨b13, 0, none⟩) ∧ f 7 = Value.pointer (some ⟨b18, 0, none⟩) ∧ f 9 = Value.int .i64 ((meetR a b c d).1) ∧ f 19 = Value.bool (decide ((((orientR c d a).1) * ((orientR c d b).1)) < 0)) ∧ f 20 = Value.int .i64 (on : Int) ∧ f 21 = v44 ∧ f 22 = Value.int .i64 (i : Int) ∧ Bx gq (is 1) w b3 [Value.int .i64 a.1, Value.int .i64 a.2] ∧ Bx gq (is 2) w b8 [Value.int .i64 b.1, Value.int .i64 b.2] ∧ Bx gq (is 3) w b13 [Value.int .i64 c.1, Value.int .i64 c.2] ∧ Bx gq (is 4) w b18 [Value.int .i64 d.1, Value.int .i64 d.2] ∧ Ow gq (is 6) (is 6) w v44 ([a, b, c, d] : List ((Int) × (Int))) ∧ (i : Int) ≤ (4 : Int) ∧ (on = cntB a b c d [a, b, c, d] i ∧ i ≤ 4)) (fun ⟨on, i, gq⟩ => 4 - i) (0, 0, g42) ?_ ?_
   have C47 : Chg (inl []) _ _ _ _ := (ch2.n).seq ((ch7.n).seq ((ch12.n).seq ((ch17.n).seq ((hb22.n).seq ((ch28.n).seq ((hb31.n).seq ((hb33.n).seq ((hb35.n).seq ((hb37.n).seq ((hb39.n).seq ((hb41.n).seq (ch45.n))))))))))))
   replace hbase := hbase.chg C47 (is_nl rfl)
   replace bx5 := bx5.chg ch45 (not_no _)
   replace bx10 := bx10.chg ch45 (not_no _)
   replace bx15 := bx15.chg ch45 (not_no _)
   replace bx20 := bx20.chg ch45 (not_no _)
   · exact ⟨hbase, rfl, rfl, rfl, rfl, rfl, rfl, rfl, rfl, rfl, bx5, bx10, bx15, bx20, o46, by omega, by exact ⟨rfl, by omega⟩⟩
   clear bx5
   clear bx10
   clear bx15
   clear bx20
   clear o46
   clear hbase
   rintro ⟨on, i, g50⟩ f48 w49 ⟨hbase, zs4, zs5, zs6, zs7, zs9, zs19, zs20, zs21, zs22, bx5, bx10, bx15, bx20, o46, hle_i, hinv⟩ back14
   obtain ⟨hon, hi4⟩ := hinv
   have hcb := cntB_bd a b c d [a, b, c, d] i
   refine run_seq ?_
   refine run_seq ?_
   refine run_region rfl ?_
   refine l_val (v := Value.int .i64 (i : Int)) rfl (e_move (by exact zs22)) ?_
   refine l_val (v := Value.bool (decide ((i : Int) < 4))) rfl (e_lss (m := (i : Int)) (n := 4) rfl rfl) ?_
   refine l_nil ?_
   by_cases p14 : (i : Int) < 4
   ·
    refine run_cond_t rfl (decide_eq_true p14) ?_
    have hei : okP (gI [a, b, c, d] (i : Int)) := (okL4.2 ⟨⟨hka, hkb⟩, hkc, hkd⟩).2 _ (gI_mem (by omega) (by simp; omega))
    have hbo := both_on hka hkb hkc hkd hei
    have hcs := cntB_succ (a := a) (b := b) (c := c) (d := d) (ends := [a, b, c, d]) (k := i) (by simp; omega)
    refine run_skip ?_
    refine run_seq ?_
    refine run_block ?_
    refine run_seq ?_
    refine region_q g50 rfl mixed_ge (by kernel_rfl) ?_
    intro w52 ch51
    replace bx5 := bx5.chg ch51 (not_no _)
    refine q_val (v := Value.agg (List.toArray [Value.int .i64 a.1, Value.int .i64 a.2])) rfl (fun w' hw' => e_load_bxN (ds := [Value.int .i64 a.1, Value.int .i64 a.2]) tp23_ge (by exact zs4) (bx5.bel hw') rfl rfl) ?_
    replace bx10 := bx10.chg ch51 (not_no _)
    refine q_val (v := Value.agg (List.toArray [Value.int .i64 b.1, Value.int .i64 b.2])) rfl (fun w' hw' => e_load_bxN (ds := [Value.int .i64 b.1, Value.int .i64 b.2]) tp23_ge (by exact zs5) (bx10.bel hw') rfl rfl) ?_
    refine q_val (v := v44) rfl (fun w' hw' => e_move (by exact zs21)) ?_
    refine q_val (v := Value.int .i64 (i : Int)) rfl (fun w' hw' => e_move (by exact zs22)) ?_
    replace o46 := o46.chg ch51 (not_no _) (not_no _)
    refine q_val (v := Value.pointer (some (eAddr v44 2 (Int.toNat (i : Int))))) rfl (fun w' hw' => e_indexAddr (α := (Int) × (Int)) (xs := ([a, b, c, d] : List ((Int) × (Int)))) (v := v44) (i := (i : Int)) Try.underlying25 rfl rfl (o46.flat.bel hw') rfl (by omega) (by first | omega | (simp only [List.length_set, List.length_append, List.length_cons, List.length_nil, List.length_replicate, List.length_map, List.length_take, List.length_drop]; omega) | (simp; done) | (simp; omega))) ?_
    refine q_val (v := Value.agg (List.toArray [Value.int .i64 ((gI ([a, b, c, d] : List ((Int) × (Int))) (i : Int)).1), Value.int .i64 ((gI ([a, b, c, d] : List ((Int) × (Int))) (i : Int)).2)])) rfl (fun w' hw' => e_load_elN (α := (Int) × (Int)) (xs := ([a, b, c, d] : List ((Int) × (Int)))) (v := v44) (i := (i : Int)) tp23_ge rfl (o46.flat.bel hw') (by omega) (by first | omega | (simp only [List.length_set, List.length_append, List.length_cons, List.length_nil, List.length_replicate, List.length_map, List.length_take, List.length_drop]; omega) | (simp; done) | (simp; omega)) rfl) ?_
    refine q_call (v := Value.tuple (List.toArray [Value.bool ((onR a b (gI ([a, b, c, d] : List ((Int) × (Int))) (i : Int))).1), Value.int .i64 ((onR a b (gI ([a, b, c, d] : List ((Int) × (Int))) (i : Int))).2)])) rfl (fun w' hw' => e_call (vals := [Value.agg (List.toArray [Value.int .i64 a.1, Value.int .i64 a.2]), Value.agg (List.toArray [Value.int .i64 b.1, Value.int .i64 b.2]), Value.agg (List.toArray [Value.int .i64 ((gI ([a, b, c, d] : List ((Int) × (Int))) (i : Int)).1), Value.int .i64 ((gI ([a, b, c, d] : List ((Int) × (Int))) (i : Int)).2)])]) Try.func24 bd24_ge nm24_ge rfl) (fun w' hw' => (GOn_ok w' a b (gI ([a, b, c, d] : List ((Int) × (Int))) (i : Int))).mono fun e w2 h2 => ⟨h2.1, hw'.trans (h2.2.mono hw'.size)⟩) ?_
    refine q_val (v := Value.tuple (List.toArray [Value.bool ((onR a b (gI ([a, b, c, d] : List ((Int) × (Int))) (i : Int))).1), Value.int .i64 ((onR a b (gI ([a, b, c, d] : List ((Int) × (Int))) (i : Int))).2)])) rfl (fun w' hw' => e_move rfl) ?_
    refine q_val (v := Value.bool ((onR a b (gI ([a, b, c, d] : List ((Int) × (Int))) (i : Int))).1)) rfl (fun w' hw' => e_extract rfl rfl) ?_
    refine q_val (v := Value.int .i64 ((onR a b (gI ([a, b, c, d] : List ((Int) × (Int))) (i : Int))).2)) rfl (fun w' hw' => e_extract rfl rfl) ?_
    refine q_val (v := Value.bool ((onR a b (gI ([a, b, c, d] : List ((Int) × (Int))) (i : Int))).1)) rfl (fun w' hw' => e_assign rfl) ?_
    refine q_val (v := Value.int .i64 ((onR a b (gI ([a, b, c, d] : List ((Int) × (Int))) (i : Int))).2)) rfl (fun w' hw' => e_assign rfl) ?_
    refine q_nil ?_
    intro w53 hc54
    replace hc54 := chg_below hc54 g50
    refine run_seq ?_
    refine region_q g50 rfl mixed_ge (by kernel_rfl) ?_
    intro w56 ch55
    have C57 : Chg (inl []) _ _ _ _ := (ch51.n).seq ((hc54.n).seq (ch55.n))
    replace bx15 := bx15.chg C57 (is_nl rfl)
    refine q_val (v := Value.agg (List.toArray [Value.int .i64 c.1, Value.int .i64 c.2])) rfl (fun w' hw' => e_load_bxN (ds := [Value.int .i64 c.1, Value.int .i64 c.2]) tp23_ge (by exact zs6) (bx15.bel hw') rfl rfl) ?_
    replace bx20 := bx20.chg C57 (is_nl rfl)
    refine q_val (v := Value.agg (List.toArray [Value.int .i64 d.1, Value.int .i64 d.2])) rfl (fun w' hw' => e_load_bxN (ds := [Value.int .i64 d.1, Value.int .i64 d.2]) tp23_ge (by exact zs7) (bx20.bel hw') rfl rfl) ?_
    refine q_val (v := v44) rfl (fun w' hw' => e_move (by exact zs21)) ?_
    refine q_val (v := Value.int .i64 (i : Int)) rfl (fun w' hw' => e_move (by exact zs22)) ?_
    replace o46 := (o46.chg hc54 (not_no _) (not_no _)).chg ch55 (not_no _) (not_no _)
    refine q_val (v := Value.pointer (some (eAddr v44 2 (Int.toNat (i : Int))))) rfl (fun w' hw' => e_indexAddr (α := (Int) × (Int)) (xs := ([a, b, c, d] : List ((Int) × (Int)))) (v := v44) (i := (i : Int)) Try.underlying25 rfl rfl (o46.flat.bel hw') rfl (by omega) (by first | omega | (simp only [List.length_set, List.length_append, List.length_cons, List.length_nil, List.length_replicate, List.length_map, List.length_take, List.length_drop]; omega) | (simp; done) | (simp; omega))) ?_
    refine q_val (v := Value.agg (List.toArray [Value.int .i64 ((gI ([a, b, c, d] : List ((Int) × (Int))) (i : Int)).1), Value.int .i64 ((gI ([a, b, c, d] : List ((Int) × (Int))) (i : Int)).2)])) rfl (fun w' hw' => e_load_elN (α := (Int) × (Int)) (xs := ([a, b, c, d] : List ((Int) × (Int)))) (v := v44) (i := (i : Int)) tp23_ge rfl (o46.flat.bel hw') (by omega) (by first | omega | (simp only [List.length_set, List.length_append, List.length_cons, List.length_nil, List.length_replicate, List.length_map, List.length_take, List.length_drop]; omega) | (simp; done) | (simp; omega)) rfl) ?_
    refine q_call (v := Value.tuple (List.toArray [Value.bool ((onR c d (gI ([a, b, c, d] : List ((Int) × (Int))) (i : Int))).1), Value.int .i64 ((onR c d (gI ([a, b, c, d] : List ((Int) × (Int))) (i : Int))).2)])) rfl (fun w' hw' => e_call (vals := [Value.agg (List.toArray [Value.int .i64 c.1, Value.int .i64 c.2]), Value.agg (List.toArray [Value.int .i64 d.1, Value.int .i64 d.2]), Value.agg (List.toArray [Value.int .i64 ((gI ([a, b, c, d] : List ((Int) × (Int))) (i : Int)).1), Value.int .i64 ((gI ([a, b, c, d] : List ((Int) × (Int))) (i : Int)).2)])]) Try.func24 bd24_ge nm24_ge rfl) (fun w' hw' => (GOn_ok w' c d (gI ([a, b, c, d] : List ((Int) × (Int))) (i : Int))).mono fun e w2 h2 => ⟨h2.1, hw'.trans (h2.2.mono hw'.size)⟩) ?_
    refine q_val (v := Value.tuple (List.toArray [Value.bool ((onR c d (gI ([a, b, c, d] : List ((Int) × (Int))) (i : Int))).1), Value.int .i64 ((onR c d (gI ([a, b, c, d] : List ((Int) × (Int))) (i : Int))).2)])) rfl (fun w' hw' => e_move rfl) ?_
    refine q_val (v := Value.bool ((onR c d (gI ([a, b, c, d] : List ((Int) × (Int))) (i : Int))).1)) rfl (fun w' hw' => e_extract rfl rfl) ?_
    refine q_val (v := Value.int .i64 ((onR c d (gI ([a, b, c, d] : List ((Int) × (Int))) (i : Int))).2)) rfl (fun w' hw' => e_extract rfl rfl) ?_
    refine q_val (v := Value.bool ((onR c d (gI ([a, b, c, d] : List ((Int) × (Int))) (i : Int))).1)) rfl (fun w' hw' => e_assign rfl) ?_
    refine q_val (v := Value.int .i64 ((onR c d (gI ([a, b, c, d] : List ((Int) × (Int))) (i : Int))).2)) rfl (fun w' hw' => e_assign rfl) ?_
    refine q_nil ?_
    intro w58 hc59
    replace hc59 := chg_below hc59 g50
    refine run_seq ?_
    refine run_region rfl ?_
    refine l_val (v := Value.bool ((onR a b (gI ([a, b, c, d] : List ((Int) × (Int))) (i : Int))).1)) rfl (e_move rfl) ?_
    refine l_val (v := Value.bool ((onR a b (gI ([a, b, c, d] : List ((Int) × (Int))) (i : Int))).1)) rfl (e_move rfl) ?_
    by_cases q112 : ((onR a b (gI ([a, b, c, d] : List ((Int) × (Int))) (i : Int))).1) = true
    ·
     refine l_val (v := Value.bool ((onR c d (gI ([a, b, c, d] : List ((Int) × (Int))) (i : Int))).1)) (want_y rfl rfl rfl q112) (e_move rfl) ?_
     refine l_val (v := Value.bool ((onR c d (gI ([a, b, c, d] : List ((Int) × (Int))) (i : Int))).1)) rfl (e_pick_t rfl q112 rfl) ?_
     refine l_nil ?_
     by_cases p18 : ((onR c d (gI ([a, b, c, d] : List ((Int) × (Int))) (i : Int))).1) = true
     ·
      refine run_cond_t rfl p18 ?_
      refine run_region rfl ?_
      refine l_val (v := Value.int .i64 (on : Int)) rfl (e_move (by exact zs20)) ?_
      refine l_val (v := Value.int .i64 ((on : Int) + 1)) rfl (e_add (m := (on : Int)) (n := 1) rfl rfl (by omega)) ?_
      refine l_val (v := Value.int .i64 ((on : Int) + 1)) rfl (e_assign rfl) ?_
      refine l_nil ?_
      refine run_inBlock ?_
      refine run_region rfl ?_
      refine l_val (v := Value.int .i64 (i : Int)) rfl (e_move (by exact zs22)) ?_
      refine l_val (v := Value.int .i64 ((i : Int) + 1)) rfl (e_add (m := (i : Int)) (n := 1) rfl rfl (by omega)) ?_
      refine l_val (v := Value.int .i64 ((i : Int) + 1)) rfl (e_assign rfl) ?_
      refine l_nil ?_
      have C60 : Chg (inl []) _ _ _ _ := (ch51.n).seq ((hc54.n).seq ((ch55.n).seq (hc59.n)))
      replace hbase := hbase.chg C60 (is_nl rfl)
      have C61 : Chg (inl []) _ _ _ _ := (hc54.n).seq ((ch55.n).seq (hc59.n))
      replace bx5 := bx5.chg C61 (is_nl rfl)
      replace bx10 := bx10.chg C61 (is_nl rfl)
      replace bx15 := bx15.chg hc59 (not_no _)
      replace bx20 := bx20.chg hc59 (not_no _)
      replace o46 := o46.chg hc59 (not_no _) (not_no _)
      refine back14 (on + 1, i + 1, g50) _ _ ⟨hbase, (by exact zs4), (by exact zs5), (by exact zs6), (by exact zs7), (by exact zs9), (by exact zs19), rfl, (by exact zs21), rfl, bx5, bx10, bx15, bx20, o46, by omega, ?_⟩ ?_
      · show (on + 1) = cntB a b c d [a, b, c, d] (i + 1) ∧ (i + 1) ≤ 4
        refine ⟨?_, by omega⟩
        first
          | (rw [hcs, if_pos (hbo.2 ⟨by assumption, by assumption⟩), hon]; done)
          | (rw [hcs, if_neg (fun h => absurd (hbo.1 h).1 (by assumption)), hon]; simp; done)
          | (rw [hcs, if_neg (fun h => absurd (hbo.1 h).2 (by assumption)), hon]; simp; done)
      · show 4 - (i + 1) < 4 - i
        omega
     refine run_cond_f rfl (Bool.eq_false_iff.2 p18) ?_
     refine run_skip ?_
     refine run_inBlock ?_
     refine run_region rfl ?_
     refine l_val (v := Value.int .i64 (i : Int)) rfl (e_move (by exact zs22)) ?_
     refine l_val (v := Value.int .i64 ((i : Int) + 1)) rfl (e_add (m := (i : Int)) (n := 1) rfl rfl (by omega)) ?_
     refine l_val (v := Value.int .i64 ((i : Int) + 1)) rfl (e_assign rfl) ?_
     refine l_nil ?_
     have C62 : Chg (inl []) _ _ _ _ := (ch51.n).seq ((hc54.n).seq ((ch55.n).seq (hc59.n)))
     replace hbase := hbase.chg C62 (is_nl rfl)
     have C63 : Chg (inl []) _ _ _ _ := (hc54.n).seq ((ch55.n).seq (hc59.n))
     replace bx5 := bx5.chg C63 (is_nl rfl)
     replace bx10 := bx10.chg C63 (is_nl rfl)
     replace bx15 := bx15.chg hc59 (not_no _)
     replace bx20 := bx20.chg hc59 (not_no _)
     replace o46 := o46.chg hc59 (not_no _) (not_no _)
     refine back14 (on, i + 1, g50) _ _ ⟨hbase, (by exact zs4), (by exact zs5), (by exact zs6), (by exact zs7), (by exact zs9), (by exact zs19), (by exact zs20), (by exact zs21), rfl, bx5, bx10, bx15, bx20, o46, by omega, ?_⟩ ?_
     · show on = cntB a b c d [a, b, c, d] (i + 1) ∧ (i + 1) ≤ 4
       refine ⟨?_, by omega⟩
       first
         | (rw [hcs, if_pos (hbo.2 ⟨by assumption, by assumption⟩), hon]; done)
         | (rw [hcs, if_neg (fun h => absurd (hbo.1 h).1 (by assumption)), hon]; simp; done)
         | (rw [hcs, if_neg (fun h => absurd (hbo.1 h).2 (by assumption)), hon]; simp; done)
     · show 4 - (i + 1) < 4 - i
       omega
    refine l_skip (want_n rfl rfl rfl (Bool.eq_false_iff.2 q112)) ?_
    refine l_val (v := Value.bool false) rfl (e_pick_f rfl (Bool.eq_false_iff.2 q112) rfl) ?_
    refine l_nil ?_
    refine run_cond_f rfl rfl ?_
    refine run_skip ?_
    refine run_inBlock ?_
    refine run_region rfl ?_
    refine l_val (v := Value.int .i64 (i : Int)) rfl (e_move (by exact zs22)) ?_
    refine l_val (v := Value.int .i64 ((i : Int) + 1)) rfl (e_add (m := (i : Int)) (n := 1) rfl rfl (by omega)) ?_
    refine l_val (v := Value.int .i64 ((i : Int) + 1)) rfl (e_assign rfl) ?_
    refine l_nil ?_
    have C64 : Chg (inl []) _ _ _ _ := (ch51.n).seq ((hc54.n).seq ((ch55.n).seq (hc59.n)))
    replace hbase := hbase.chg C64 (is_nl rfl)
    have C65 : Chg (inl []) _ _ _ _ := (hc54.n).seq ((ch55.n).seq (hc59.n))
    replace bx5 := bx5.chg C65 (is_nl rfl)
    replace bx10 := bx10.chg C65 (is_nl rfl)
    replace bx15 := bx15.chg hc59 (not_no _)
    replace bx20 := bx20.chg hc59 (not_no _)
    replace o46 := o46.chg hc59 (not_no _) (not_no _)
    refine back14 (on, i + 1, g50) _ _ ⟨hbase, (by exact zs4), (by exact zs5), (by exact zs6), (by exact zs7), (by exact zs9), (by exact zs19), (by exact zs20), (by exact zs21), rfl, bx5, bx10, bx15, bx20, o46, by omega, ?_⟩ ?_
    · show on = cntB a b c d [a, b, c, d] (i + 1) ∧ (i + 1) ≤ 4
      refine ⟨?_, by omega⟩
      first
        | (rw [hcs, if_pos (hbo.2 ⟨by assumption, by assumption⟩), hon]; done)
        | (rw [hcs, if_neg (fun h => absurd (hbo.1 h).1 (by assumption)), hon]; simp; done)
        | (rw [hcs, if_neg (fun h => absurd (hbo.1 h).2 (by assumption)), hon]; simp; done)
    · show 4 - (i + 1) < 4 - i
      omega
   refine run_cond_f rfl (decide_eq_false p14) ?_
   refine run_exit rfl ?_
   refine run_seq ?_
   refine run_seq ?_
   clear bx5
   clear bx10
   clear bx15
   clear bx20
   clear o46
   have hE : cntB a b c d [a, b, c, d] 4 = (on : Int) := by rw [hon, show i = 4 by omega]
   rw [hE] at hlaw
   refine run_region rfl ?_
   refine l_val (v := Value.int .i64 ((meetR a b c d).1)) rfl (e_move (by exact zs9)) ?_
   refine l_nil ?_
   refine run_block ?_
   refine run_seq ?_
   refine run_region rfl ?_
   refine l_val (v := Value.bool (decide (((meetR a b c d).1) = 0))) rfl (e_eql (m := (meetR a b c d).1) (n := 0) rfl rfl) ?_
   refine l_val (v := Value.bool (decide (((meetR a b c d).1) = 0))) rfl (e_assign rfl) ?_
   refine l_nil ?_
   by_cases p21 : ((meetR a b c d).1) = 0
   ·
    refine run_cond_t rfl (decide_eq_true p21) ?_
    refine run_seq ?_
    refine run_region rfl ?_
    refine l_val (v := Value.bool (decide ((((orientR c d a).1) * ((orientR c d b).1)) < 0))) rfl (e_move (by exact zs19)) ?_
    refine l_val (v := Value.bool (!(decide ((((orientR c d a).1) * ((orientR c d b).1)) < 0)))) rfl (e_not (b := decide ((((orientR c d a).1) * ((orientR c d b).1)) < 0)) rfl) ?_
    refine l_val (v := Value.bool (!(decide ((((orientR c d a).1) * ((orientR c d b).1)) < 0)))) rfl (e_move rfl) ?_
    by_cases q122 : (((orientR c d a).1) * ((orientR c d b).1)) < 0
    ·
     refine l_skip (want_n rfl rfl rfl (congrArg Bool.not (decide_eq_true q122))) ?_
     refine l_skip (want_n rfl rfl rfl (congrArg Bool.not (decide_eq_true q122))) ?_
     refine l_val (v := Value.bool false) rfl (e_pick_f rfl (congrArg Bool.not (decide_eq_true q122)) rfl) ?_
     refine l_val (v := Value.bool false) rfl (e_assign rfl) ?_
     refine l_nil ?_
     refine run_ret (vs := [Value.bool false]) Try.func8 (.tmp rfl .nil) ?_
     -- return 0
     have e0 : (false : Bool) = (true) := by
       first
         | rfl
         | (rcases hlaw with ⟨h1, h2, h3⟩ | ⟨h1, h2, h3⟩ | ⟨h1, h2, h3⟩ <;> first | rfl | exact decide_eq_true (by omega) | exact (decide_eq_true (by omega)).symm | (exfalso; omega))
     exact ⟨(congrArg (a₁ := false) (fun (z0 : Bool) => Ending.returned (Value.bool z0)) e0), hbase.below⟩
    refine l_val (v := Value.int .i64 (on : Int)) (want_y rfl rfl rfl (congrArg Bool.not (decide_eq_false q122))) (e_move (by exact zs20)) ?_
    refine l_val (v := Value.bool (decide ((on : Int) = 0))) (want_y rfl rfl rfl (congrArg Bool.not (decide_eq_false q122))) (e_eql (m := (on : Int)) (n := 0) rfl rfl) ?_
    refine l_val (v := Value.bool (decide ((on : Int) = 0))) rfl (e_pick_t rfl (congrArg Bool.not (decide_eq_false q122)) rfl) ?_
    refine l_val (v := Value.bool (decide ((on : Int) = 0))) rfl (e_assign rfl) ?_
    refine l_nil ?_
    refine run_ret (vs := [Value.bool (decide ((on : Int) = 0))]) Try.func8 (.tmp rfl .nil) ?_
    -- return 1
    have e0 : (decide ((on : Int) = 0) : Bool) = (true) := by
      first
        | rfl
        | (rcases hlaw with ⟨h1, h2, h3⟩ | ⟨h1, h2, h3⟩ | ⟨h1, h2, h3⟩ <;> first | rfl | exact decide_eq_true (by omega) | exact (decide_eq_true (by omega)).symm | (exfalso; omega))
    exact ⟨(congrArg (a₁ := decide ((on : Int) = 0)) (fun (z0 : Bool) => Ending.returned (Value.bool z0)) e0), hbase.below⟩
   refine run_cond_f rfl (decide_eq_false p21) ?_
   refine run_seq ?_
   refine run_region rfl ?_
   refine l_val (v := Value.bool (decide (((meetR a b c d).1) = 1))) rfl (e_eql (m := (meetR a b c d).1) (n := 1) rfl rfl) ?_
   refine l_val (v := Value.bool (decide (((meetR a b c d).1) = 1))) rfl (e_assign rfl) ?_
   refine l_nil ?_
   by_cases p23 : ((meetR a b c d).1) = 1
   ·
    refine run_cond_t rfl (decide_eq_true p23) ?_
    refine run_seq ?_
    refine run_region rfl ?_
    refine l_val (v := Value.bool (decide ((((orientR c d a).1) * ((orientR c d b).1)) < 0))) rfl (e_move (by exact zs19)) ?_
    refine l_val (v := Value.bool (decide ((((orientR c d a).1) * ((orientR c d b).1)) < 0))) rfl (e_move rfl) ?_
    by_cases q129 : (((orientR c d a).1) * ((orientR c d b).1)) < 0
    ·
     refine l_val (v := Value.int .i64 (on : Int)) (want_y rfl rfl rfl (decide_eq_true q129)) (e_move (by exact zs20)) ?_
     refine l_val (v := Value.bool (decide ((on : Int) = 0))) (want_y rfl rfl rfl (decide_eq_true q129)) (e_eql (m := (on : Int)) (n := 0) rfl rfl) ?_
     refine l_val (v := Value.bool (decide ((on : Int) = 0))) rfl (e_pick_t rfl (decide_eq_true q129) rfl) ?_
     refine l_val (v := Value.bool (decide ((on : Int) = 0))) rfl (e_assign rfl) ?_
     refine l_nil ?_
     refine run_ret (vs := [Value.bool (decide ((on : Int) = 0))]) Try.func8 (.tmp rfl .nil) ?_
     -- return 2
     have e0 : (decide ((on : Int) = 0) : Bool) = (true) := by
       first
         | rfl
         | (rcases hlaw with ⟨h1, h2, h3⟩ | ⟨h1, h2, h3⟩ | ⟨h1, h2, h3⟩ <;> first | rfl | exact decide_eq_true (by omega) | exact (decide_eq_true (by omega)).symm | (exfalso; omega))
     exact ⟨(congrArg (a₁ := decide ((on : Int) = 0)) (fun (z0 : Bool) => Ending.returned (Value.bool z0)) e0), hbase.below⟩
    refine l_skip (want_n rfl rfl rfl (decide_eq_false q129)) ?_
    refine l_skip (want_n rfl rfl rfl (decide_eq_false q129)) ?_
    refine l_val (v := Value.bool false) rfl (e_pick_f rfl (decide_eq_false q129) rfl) ?_
    refine l_val (v := Value.bool false) rfl (e_assign rfl) ?_
    refine l_nil ?_
    refine run_ret (vs := [Value.bool false]) Try.func8 (.tmp rfl .nil) ?_
    -- return 3
    have e0 : (false : Bool) = (true) := by
      first
        | rfl
        | (rcases hlaw with ⟨h1, h2, h3⟩ | ⟨h1, h2, h3⟩ | ⟨h1, h2, h3⟩ <;> first | rfl | exact decide_eq_true (by omega) | exact (decide_eq_true (by omega)).symm | (exfalso; omega))
    exact ⟨(congrArg (a₁ := false) (fun (z0 : Bool) => Ending.returned (Value.bool z0)) e0), hbase.below⟩
   refine run_cond_f rfl (decide_eq_false p23) ?_
   refine run_skip ?_
   refine run_inBlock ?_
   refine run_seq ?_
   refine run_region rfl ?_
   refine l_val (v := Value.bool (decide ((((orientR c d a).1) * ((orientR c d b).1)) < 0))) rfl (e_move (by exact zs19)) ?_
   refine l_val (v := Value.bool (!(decide ((((orientR c d a).1) * ((orientR c d b).1)) < 0)))) rfl (e_not (b := decide ((((orientR c d a).1) * ((orientR c d b).1)) < 0)) rfl) ?_
   refine l_val (v := Value.bool (!(decide ((((orientR c d a).1) * ((orientR c d b).1)) < 0)))) rfl (e_move rfl) ?_
   by_cases q135 : (((orientR c d a).1) * ((orientR c d b).1)) < 0
   ·
    refine l_skip (want_n rfl rfl rfl (congrArg Bool.not (decide_eq_true q135))) ?_
    refine l_skip (want_n rfl rfl rfl (congrArg Bool.not (decide_eq_true q135))) ?_
    refine l_val (v := Value.bool false) rfl (e_pick_f rfl (congrArg Bool.not (decide_eq_true q135)) rfl) ?_
    refine l_val (v := Value.bool false) rfl (e_move rfl) ?_
    refine l_skip (want_n rfl rfl rfl rfl) ?_
    refine l_skip (want_n rfl rfl rfl rfl) ?_
    refine l_skip (want_n rfl rfl rfl rfl) ?_
    refine l_skip (want_u rfl rfl rfl) ?_
    refine l_skip (want_u rfl rfl rfl) ?_
    refine l_skip (want_n rfl rfl rfl rfl) ?_
    refine l_val (v := Value.bool false) rfl (e_pick_f rfl rfl rfl) ?_
    refine l_val (v := Value.bool false) rfl (e_assign rfl) ?_
    refine l_nil ?_
    refine run_ret (vs := [Value.bool false]) Try.func8 (.tmp rfl .nil) ?_
    -- return 4
    have e0 : (false : Bool) = (true) := by
      first
        | rfl
        | (rcases hlaw with ⟨h1, h2, h3⟩ | ⟨h1, h2, h3⟩ | ⟨h1, h2, h3⟩ <;> first | rfl | exact decide_eq_true (by omega) | exact (decide_eq_true (by omega)).symm | (exfalso; omega))
    exact ⟨(congrArg (a₁ := false) (fun (z0 : Bool) => Ending.returned (Value.bool z0)) e0), hbase.below⟩
   refine l_val (v := Value.int .i64 (on : Int)) (want_y rfl rfl rfl (congrArg Bool.not (decide_eq_false q135))) (e_move (by exact zs20)) ?_
   refine l_val (v := Value.bool (decide (0 < (on : Int)))) (want_y rfl rfl rfl (congrArg Bool.not (decide_eq_false q135))) (e_gtr (m := (on : Int)) (n := 0) rfl rfl) ?_
   refine l_val (v := Value.bool (decide (0 < (on : Int)))) rfl (e_pick_t rfl (congrArg Bool.not (decide_eq_false q135)) rfl) ?_
   refine l_val (v := Value.bool (decide (0 < (on : Int)))) rfl (e_move rfl) ?_
   by_cases q139 : 0 < (on : Int)
   ·
    refine l_val (v := Value.int .i64 ((meetR a b c d).1)) (want_y rfl rfl rfl (decide_eq_true q139)) (e_move (by exact zs9)) ?_
    refine l_val (v := Value.bool (decide (((meetR a b c d).1) = 2))) (want_y rfl rfl rfl (decide_eq_true q139)) (e_eql (m := (meetR a b c d).1) (n := 2) rfl rfl) ?_
    refine l_val (v := Value.bool (decide (((meetR a b c d).1) = 2))) (want_y rfl rfl rfl (decide_eq_true q139)) (e_move rfl) ?_
    by_cases q142 : ((meetR a b c d).1) = 2
    ·
     refine l_skip (want_n rfl rfl rfl (decide_eq_true q142)) ?_
     refine l_skip (want_n rfl rfl rfl (decide_eq_true q142)) ?_
     refine l_val (v := Value.bool true) (want_y rfl rfl rfl (decide_eq_true q139)) (e_pick_t rfl (decide_eq_true q142) rfl) ?_
     refine l_val (v := Value.bool true) rfl (e_pick_t rfl (decide_eq_true q139) rfl) ?_
     refine l_val (v := Value.bool true) rfl (e_assign rfl) ?_
     refine l_nil ?_
     refine run_ret (vs := [Value.bool true]) Try.func8 (.tmp rfl .nil) ?_
     -- return 5
     have e0 : (true : Bool) = (true) := by
       first
         | rfl
         | (rcases hlaw with ⟨h1, h2, h3⟩ | ⟨h1, h2, h3⟩ | ⟨h1, h2, h3⟩ <;> first | rfl | exact decide_eq_true (by omega) | exact (decide_eq_true (by omega)).symm | (exfalso; omega))
     exact ⟨(congrArg (a₁ := true) (fun (z0 : Bool) => Ending.returned (Value.bool z0)) e0), hbase.below⟩
    refine l_val (v := Value.int .i64 ((meetR a b c d).1)) (want_y rfl rfl rfl (decide_eq_false q142)) (e_move (by exact zs9)) ?_
    refine l_val (v := Value.bool (decide (((meetR a b c d).1) = 3))) (want_y rfl rfl rfl (decide_eq_false q142)) (e_eql (m := (meetR a b c d).1) (n := 3) rfl rfl) ?_
    refine l_val (v := Value.bool (decide (((meetR a b c d).1) = 3))) (want_y rfl rfl rfl (decide_eq_true q139)) (e_pick_f rfl (decide_eq_false q142) rfl) ?_
    refine l_val (v := Value.bool (decide (((meetR a b c d).1) = 3))) rfl (e_pick_t rfl (decide_eq_true q139) rfl) ?_
    refine l_val (v := Value.bool (decide (((meetR a b c d).1) = 3))) rfl (e_assign rfl) ?_
    refine l_nil ?_
    refine run_ret (vs := [Value.bool (decide (((meetR a b c d).1) = 3))]) Try.func8 (.tmp rfl .nil) ?_
    -- return 6
    have e0 : (decide (((meetR a b c d).1) = 3) : Bool) = (true) := by
      first
        | rfl
        | (rcases hlaw with ⟨h1, h2, h3⟩ | ⟨h1, h2, h3⟩ | ⟨h1, h2, h3⟩ <;> first | rfl | exact decide_eq_true (by omega) | exact (decide_eq_true (by omega)).symm | (exfalso; omega))
    exact ⟨(congrArg (a₁ := decide (((meetR a b c d).1) = 3)) (fun (z0 : Bool) => Ending.returned (Value.bool z0)) e0), hbase.below⟩
   refine l_skip (want_n rfl rfl rfl (decide_eq_false q139)) ?_
   refine l_skip (want_n rfl rfl rfl (decide_eq_false q139)) ?_
   refine l_skip (want_n rfl rfl rfl (decide_eq_false q139)) ?_
   refine l_skip (want_u rfl rfl rfl) ?_
   refine l_skip (want_u rfl rfl rfl) ?_
   refine l_skip (want_n rfl rfl rfl (decide_eq_false q139)) ?_
   refine l_val (v := Value.bool false) rfl (e_pick_f rfl (decide_eq_false q139) rfl) ?_
   refine l_val (v := Value.bool false) rfl (e_assign rfl) ?_
   refine l_nil ?_
   refine run_ret (vs := [Value.bool false]) Try.func8 (.tmp rfl .nil) ?_
   -- return 7
   have e0 : (false : Bool) = (true) := by
     first
       | rfl
       | (rcases hlaw with ⟨h1, h2, h3⟩ | ⟨h1, h2, h3⟩ | ⟨h1, h2, h3⟩ <;> first | rfl | exact decide_eq_true (by omega) | exact (decide_eq_true (by omega)).symm | (exfalso; omega))
   exact ⟨(congrArg (a₁ := false) (fun (z0 : Bool) => Ending.returned (Value.bool z0)) e0), hbase.below⟩
  refine l_skip (want_n rfl rfl rfl (decide_eq_false q76)) ?_
  refine l_skip (want_n rfl rfl rfl (decide_eq_false q76)) ?_
  refine l_skip (want_n rfl rfl rfl (decide_eq_false q76)) ?_
  refine l_skip (want_n rfl rfl rfl (decide_eq_false q76)) ?_
  refine l_val (v := Value.bool false) rfl (e_pick_f rfl (decide_eq_false q76) rfl) ?_
  refine l_val (v := Value.bool false) rfl (e_assign rfl) ?_
  refine l_nil ?_
  refine run_seq ?_
  refine run_region rfl ?_
  refine l_val (v := Value.int .i64 0) rfl (e_assign rfl) ?_
  refine l_nil ?_
  refine run_seq ?_
  refine run_region rfl ?_
  replace bx5 := (bx5.chg hb39 (not_no _)).chg hb41 (not_no _)
  refine l_val (v := Value.agg (List.toArray [Value.int .i64 a.1, Value.int .i64 a.2])) rfl (e_load_bxN (ds := [Value.int .i64 a.1, Value.int .i64 a.2]) tp23_ge rfl bx5 rfl rfl) ?_
  replace bx10 := bx10.chg hb41 (not_no _)
  refine l_val (v := Value.agg (List.toArray [Value.int .i64 b.1, Value.int .i64 b.2])) rfl (e_load_bxN (ds := [Value.int .i64 b.1, Value.int .i64 b.2]) tp23_ge rfl bx10 rfl rfl) ?_
  replace bx15 := bx15.chg hb41 (not_no _)
  refine l_val (v := Value.agg (List.toArray [Value.int .i64 c.1, Value.int .i64 c.2])) rfl (e_load_bxN (ds := [Value.int .i64 c.1, Value.int .i64 c.2]) tp23_ge rfl bx15 rfl rfl) ?_
  replace bx20 := bx20.chg hb41 (not_no _)
  refine l_val (v := Value.agg (List.toArray [Value.int .i64 d.1, Value.int .i64 d.2])) rfl (e_load_bxN (ds := [Value.int .i64 d.1, Value.int .i64 d.2]) tp23_ge rfl bx20 rfl rfl) ?_
  refine l_op rfl ?_
  refine o_buildSlice (α := (Int) × (Int)) g25 (is 6) (is 6) (6, 0) rfl ([a, b, c, d] : List ((Int) × (Int))) Try.underlying25 tp23_ge (by decide) (by decide) (vs := [(0, Value.agg (List.toArray [Value.int .i64 a.1, Value.int .i64 a.2])), (1, Value.agg (List.toArray [Value.int .i64 b.1, Value.int .i64 b.2])), (2, Value.agg (List.toArray [Value.int .i64 c.1, Value.int .i64 c.2])), (3, Value.agg (List.toArray [Value.int .i64 d.1, Value.int .i64 d.2]))]) rfl rfl (.cons rfl (.cons rfl (.cons rfl (.cons rfl .nil)))) ?_
  intro g66 w67 v68 ch69 o70
  refine l_val (v := v68) rfl (e_assign rfl) ?_
  refine l_nil ?_
  refine run_seq ?_
  refine run_seq ?_
  refine run_region rfl ?_
  refine l_val (v := Value.int .i64 0) rfl (e_assign rfl) ?_
  refine l_nil ?_
  refine run_block ?_
  refine run_loop (σ := Nat × Nat × Cmap) (fun ⟨on, i, gq⟩ f w => Base w0 gq w ∧ f 4 = Value.pointer (some ⟨b3, 0, none⟩) ∧ f 5 = Value.pointer (some ⟨b8, 0, none⟩) ∧ f 6 = Value.pointer (some ⟨b13, 0, none⟩) ∧ f 7 = Value.pointer (some ⟨b18, 0, none⟩) ∧ f 9 = Value.int .i64 ((meetR a b c d).1) ∧ f 19 = Value.bool false ∧ f 20 = Value.int .i64 (on : Int) ∧ f 21 = v68 ∧ f 22 = Value.int .i64 (i : Int) ∧ Bx gq (is 1) w b3 [Value.int .i64 a.1, Value.int .i64 a.2] ∧ Bx gq (is 2) w b8 [Value.int .i64 b.1, Value.int .i64 b.2] ∧ Bx gq (is 3) w b13 [Value.int .i64 c.1, Value.int .i64 c.2] ∧ Bx gq (is 4) w b18 [Value.int .i64 d.1, Value.int .i64 d.2] ∧ Ow gq (is 6) (is 6) w v68 ([a, b, c, d] : List ((Int) × (Int))) ∧ (i : Int) ≤ (4 : Int) ∧ (on = cntB a b c d [a, b, c, d] i ∧ i ≤ 4)) (fun ⟨on, i, gq⟩ => 4 - i) (0, 0, g66) ?_ ?_
  have C71 : Chg (inl []) _ _ _ _ := (ch2.n).seq ((ch7.n).seq ((ch12.n).seq ((ch17.n).seq ((hb22.n).seq ((ch28.n).seq ((hb31.n).seq ((hb33.n).seq ((hb35.n).seq ((hb37.n).seq ((hb39.n).seq ((hb41.n).seq (ch69.n))))))))))))
  replace hbase := hbase.chg C71 (is_nl rfl)
  replace bx5 := bx5.chg ch69 (not_no _)
  replace bx10 := bx10.chg ch69 (not_no _)
  replace bx15 := bx15.chg ch69 (not_no _)
  replace bx20 := bx20.chg ch69 (not_no _)
  · exact ⟨hbase, rfl, rfl, rfl, rfl, rfl, rfl, rfl, rfl, rfl, bx5, bx10, bx15, bx20, o70, by omega, by exact ⟨rfl, by omega⟩⟩
  clear bx5
  clear bx10
  clear bx15
  clear bx20
  clear o70
  clear hbase
  rintro ⟨on, i, g74⟩ f72 w73 ⟨hbase, zs4, zs5, zs6, zs7, zs9, zs19, zs20, zs21, zs22, bx5, bx10, bx15, bx20, o70, hle_i, hinv⟩ back14
  obtain ⟨hon, hi4⟩ := hinv
  have hcb := cntB_bd a b c d [a, b, c, d] i
  refine run_seq ?_
  refine run_seq ?_
  refine run_region rfl ?_
  refine l_val (v := Value.int .i64 (i : Int)) rfl (e_move (by exact zs22)) ?_
  refine l_val (v := Value.bool (decide ((i : Int) < 4))) rfl (e_lss (m := (i : Int)) (n := 4) rfl rfl) ?_
  refine l_nil ?_
  by_cases p14 : (i : Int) < 4
  ·
   refine run_cond_t rfl (decide_eq_true p14) ?_
   have hei : okP (gI [a, b, c, d] (i : Int)) := (okL4.2 ⟨⟨hka, hkb⟩, hkc, hkd⟩).2 _ (gI_mem (by omega) (by simp; omega))
   have hbo := both_on hka hkb hkc hkd hei
   have hcs := cntB_succ (a := a) (b := b) (c := c) (d := d) (ends := [a, b, c, d]) (k := i) (by simp; omega)
   refine run_skip ?_
   refine run_seq ?_
   refine run_block ?_
   refine run_seq ?_
   refine region_q g74 rfl mixed_ge (by kernel_rfl) ?_
   intro w76 ch75
   replace bx5 := bx5.chg ch75 (not_no _)
   refine q_val (v := Value.agg (List.toArray [Value.int .i64 a.1, Value.int .i64 a.2])) rfl (fun w' hw' => e_load_bxN (ds := [Value.int .i64 a.1, Value.int .i64 a.2]) tp23_ge (by exact zs4) (bx5.bel hw') rfl rfl) ?_
   replace bx10 := bx10.chg ch75 (not_no _)
   refine q_val (v := Value.agg (List.toArray [Value.int .i64 b.1, Value.int .i64 b.2])) rfl (fun w' hw' => e_load_bxN (ds := [Value.int .i64 b.1, Value.int .i64 b.2]) tp23_ge (by exact zs5) (bx10.bel hw') rfl rfl) ?_
   refine q_val (v := v68) rfl (fun w' hw' => e_move (by exact zs21)) ?_
   refine q_val (v := Value.int .i64 (i : Int)) rfl (fun w' hw' => e_move (by exact zs22)) ?_
   replace o70 := o70.chg ch75 (not_no _) (not_no _)
   refine q_val (v := Value.pointer (some (eAddr v68 2 (Int.toNat (i : Int))))) rfl (fun w' hw' => e_indexAddr (α := (Int) × (Int)) (xs := ([a, b, c, d] : List ((Int) × (Int)))) (v := v68) (i := (i : Int)) Try.underlying25 rfl rfl (o70.flat.bel hw') rfl (by omega) (by first | omega | (simp only [List.length_set, List.length_append, List.length_cons, List.length_nil, List.length_replicate, List.length_map, List.length_take, List.length_drop]; omega) | (simp; done) | (simp; omega))) ?_
   refine q_val (v := Value.agg (List.toArray [Value.int .i64 ((gI ([a, b, c, d] : List ((Int) × (Int))) (i : Int)).1), Value.int .i64 ((gI ([a, b, c, d] : List ((Int) × (Int))) (i : Int)).2)])) rfl (fun w' hw' => e_load_elN (α := (Int) × (Int)) (xs := ([a, b, c, d] : List ((Int) × (Int)))) (v := v68) (i := (i : Int)) tp23_ge rfl (o70.flat.bel hw') (by omega) (by first | omega | (simp only [List.length_set, List.length_append, List.length_cons, List.length_nil, List.length_replicate, List.length_map, List.length_take, List.length_drop]; omega) | (simp; done) | (simp; omega)) rfl) ?_
   refine q_call (v := Value.tuple (List.toArray [Value.bool ((onR a b (gI ([a, b, c, d] : List ((Int) × (Int))) (i : Int))).1), Value.int .i64 ((onR a b (gI ([a, b, c, d] : List ((Int) × (Int))) (i : Int))).2)])) rfl (fun w' hw' => e_call (vals := [Value.agg (List.toArray [Value.int .i64 a.1, Value.int .i64 a.2]), Value.agg (List.toArray [Value.int .i64 b.1, Value.int .i64 b.2]), Value.agg (List.toArray [Value.int .i64 ((gI ([a, b, c, d] : List ((Int) × (Int))) (i : Int)).1), Value.int .i64 ((gI ([a, b, c, d] : List ((Int) × (Int))) (i : Int)).2)])]) Try.func24 bd24_ge nm24_ge rfl) (fun w' hw' => (GOn_ok w' a b (gI ([a, b, c, d] : List ((Int) × (Int))) (i : Int))).mono fun e w2 h2 => ⟨h2.1, hw'.trans (h2.2.mono hw'.size)⟩) ?_
   refine q_val (v := Value.tuple (List.toArray [Value.bool ((onR a b (gI ([a, b, c, d] : List ((Int) × (Int))) (i : Int))).1), Value.int .i64 ((onR a b (gI ([a, b, c, d] : List ((Int) × (Int))) (i : Int))).2)])) rfl (fun w' hw' => e_move rfl) ?_
   refine q_val (v := Value.bool ((onR a b (gI ([a, b, c, d] : List ((Int) × (Int))) (i : Int))).1)) rfl (fun w' hw' => e_extract rfl rfl) ?_
   refine q_val (v := Value.int .i64 ((onR a b (gI ([a, b, c, d] : List ((Int) × (Int))) (i : Int))).2)) rfl (fun w' hw' => e_extract rfl rfl) ?_
   refine q_val (v := Value.bool ((onR a b (gI ([a, b, c, d] : List ((Int) × (Int))) (i : Int))).1)) rfl (fun w' hw' => e_assign rfl) ?_
   refine q_val (v := Value.int .i64 ((onR a b (gI ([a, b, c, d] : List ((Int) × (Int))) (i : Int))).2)) rfl (fun w' hw' => e_assign rfl) ?_
   refine q_nil ?_
   intro w77 hc78
   replace hc78 := chg_below hc78 g74
   refine run_seq ?_
   refine region_q g74 rfl mixed_ge (by kernel_rfl) ?_
   intro w80 ch79
   have C81 : Chg (inl []) _ _ _ _ := (ch75.n).seq ((hc78.n).seq (ch79.n))
   replace bx15 := bx15.chg C81 (is_nl rfl)
   refine q_val (v := Value.agg (List.toArray [Value.int .i64 c.1, Value.int .i64 c.2])) rfl (fun w' hw' => e_load_bxN (ds := [Value.int .i64 c.1, Value.int .i64 c.2]) tp23_ge (by exact zs6) (bx15.bel hw') rfl rfl) ?_
   replace bx20 := bx20.chg C81 (is_nl rfl)
   refine q_val (v := Value.agg (List.toArray [Value.int .i64 d.1, Value.int .i64 d.2])) rfl (fun w' hw' => e_load_bxN (ds := [Value.int .i64 d.1, Value.int .i64 d.2]) tp23_ge (by exact zs7) (bx20.bel hw') rfl rfl) ?_
   refine q_val (v := v68) rfl (fun w' hw' => e_move (by exact zs21)) ?_
   refine q_val (v := Value.int .i64 (i : Int)) rfl (fun w' hw' => e_move (by exact zs22)) ?_
   replace o70 := (o70.chg hc78 (not_no _) (not_no _)).chg ch79 (not_no _) (not_no _)
   refine q_val (v := Value.pointer (some (eAddr v68 2 (Int.toNat (i : Int))))) rfl (fun w' hw' => e_indexAddr (α := (Int) × (Int)) (xs := ([a, b, c, d] : List ((Int) × (Int)))) (v := v68) (i := (i : Int)) Try.underlying25 rfl rfl (o70.flat.bel hw') rfl (by omega) (by first | omega | (simp only [List.length_set, List.length_append, List.length_cons, List.length_nil, List.length_replicate, List.length_map, List.length_take, List.length_drop]; omega) | (simp; done) | (simp; omega))) ?_
   refine q_val (v := Value.agg (List.toArray [Value.int .i64 ((gI ([a, b, c, d] : List ((Int) × (Int))) (i : Int)).1), Value.int .i64 ((gI ([a, b, c, d] : List ((Int) × (Int))) (i : Int)).2)])) rfl (fun w' hw' => e_load_elN (α := (Int) × (Int)) (xs := ([a, b, c, d] : List ((Int) × (Int)))) (v := v68) (i := (i : Int)) tp23_ge rfl (o70.flat.bel hw') (by omega) (by first | omega | (simp only [List.length_set, List.length_append, List.length_cons, List.length_nil, List.length_replicate, List.length_map, List.length_take, List.length_drop]; omega) | (simp; done) | (simp; omega)) rfl) ?_
   refine q_call (v := Value.tuple (List.toArray [Value.bool ((onR c d (gI ([a, b, c, d] : List ((Int) × (Int))) (i : Int))).1), Value.int .i64 ((onR c d (gI ([a, b, c, d] : List ((Int) × (Int))) (i : Int))).2)])) rfl (fun w' hw' => e_call (vals := [Value.agg (List.toArray [Value.int .i64 c.1, Value.int .i64 c.2]), Value.agg (List.toArray [Value.int .i64 d.1, Value.int .i64 d.2]), Value.agg (List.toArray [Value.int .i64 ((gI ([a, b, c, d] : List ((Int) × (Int))) (i : Int)).1), Value.int .i64 ((gI ([a, b, c, d] : List ((Int) × (Int))) (i : Int)).2)])]) Try.func24 bd24_ge nm24_ge rfl) (fun w' hw' => (GOn_ok w' c d (gI ([a, b, c, d] : List ((Int) × (Int))) (i : Int))).mono fun e w2 h2 => ⟨h2.1, hw'.trans (h2.2.mono hw'.size)⟩) ?_
   refine q_val (v := Value.tuple (List.toArray [Value.bool ((onR c d (gI ([a, b, c, d] : List ((Int) × (Int))) (i : Int))).1), Value.int .i64 ((onR c d (gI ([a, b, c, d] : List ((Int) × (Int))) (i : Int))).2)])) rfl (fun w' hw' => e_move rfl) ?_
   refine q_val (v := Value.bool ((onR c d (gI ([a, b, c, d] : List ((Int) × (Int))) (i : Int))).1)) rfl (fun w' hw' => e_extract rfl rfl) ?_
   refine q_val (v := Value.int .i64 ((onR c d (gI ([a, b, c, d] : List ((Int) × (Int))) (i : Int))).2)) rfl (fun w' hw' => e_extract rfl rfl) ?_
   refine q_val (v := Value.bool ((onR c d (gI ([a, b, c, d] : List ((Int) × (Int))) (i : Int))).1)) rfl (fun w' hw' => e_assign rfl) ?_
   refine q_val (v := Value.int .i64 ((onR c d (gI ([a, b, c, d] : List ((Int) × (Int))) (i : Int))).2)) rfl (fun w' hw' => e_assign rfl) ?_
   refine q_nil ?_
   intro w82 hc83
   replace hc83 := chg_below hc83 g74
   refine run_seq ?_
   refine run_region rfl ?_
   refine l_val (v := Value.bool ((onR a b (gI ([a, b, c, d] : List ((Int) × (Int))) (i : Int))).1)) rfl (e_move rfl) ?_
   refine l_val (v := Value.bool ((onR a b (gI ([a, b, c, d] : List ((Int) × (Int))) (i : Int))).1)) rfl (e_move rfl) ?_
   by_cases q112 : ((onR a b (gI ([a, b, c, d] : List ((Int) × (Int))) (i : Int))).1) = true
   ·
    refine l_val (v := Value.bool ((onR c d (gI ([a, b, c, d] : List ((Int) × (Int))) (i : Int))).1)) (want_y rfl rfl rfl q112) (e_move rfl) ?_
    refine l_val (v := Value.bool ((onR c d (gI ([a, b, c, d] : List ((Int) × (Int))) (i : Int))).1)) rfl (e_pick_t rfl q112 rfl) ?_
    refine l_nil ?_
    by_cases p18 : ((onR c d (gI ([a, b, c, d] : List ((Int) × (Int))) (i : Int))).1) = true
    ·
     refine run_cond_t rfl p18 ?_
     refine run_region rfl ?_
     refine l_val (v := Value.int .i64 (on : Int)) rfl (e_move (by exact zs20)) ?_
     refine l_val (v := Value.int .i64 ((on : Int) + 1)) rfl (e_add (m := (on : Int)) (n := 1) rfl rfl (by omega)) ?_
     refine l_val (v := Value.int .i64 ((on : Int) + 1)) rfl (e_assign rfl) ?_
     refine l_nil ?_
     refine run_inBlock ?_
     refine run_region rfl ?_
     refine l_val (v := Value.int .i64 (i : Int)) rfl (e_move (by exact zs22)) ?_
     refine l_val (v := Value.int .i64 ((i : Int) + 1)) rfl (e_add (m := (i : Int)) (n := 1) rfl rfl (by omega)) ?_
     refine l_val (v := Value.int .i64 ((i : Int) + 1)) rfl (e_assign rfl) ?_
     refine l_nil ?_
     have C84 : Chg (inl []) _ _ _ _ := (ch75.n).seq ((hc78.n).seq ((ch79.n).seq (hc83.n)))
     replace hbase := hbase.chg C84 (is_nl rfl)
     have C85 : Chg (inl []) _ _ _ _ := (hc78.n).seq ((ch79.n).seq (hc83.n))
     replace bx5 := bx5.chg C85 (is_nl rfl)
     replace bx10 := bx10.chg C85 (is_nl rfl)
     replace bx15 := bx15.chg hc83 (not_no _)
     replace bx20 := bx20.chg hc83 (not_no _)
     replace o70 := o70.chg hc83 (not_no _) (not_no _)
     refine back14 (on + 1, i + 1, g74) _ _ ⟨hbase, (by exact zs4), (by exact zs5), (by exact zs6), (by exact zs7), (by exact zs9), (by exact zs19), rfl, (by exact zs21), rfl, bx5, bx10, bx15, bx20, o70, by omega, ?_⟩ ?_
     · show (on + 1) = cntB a b c d [a, b, c, d] (i + 1) ∧ (i + 1) ≤ 4
       refine ⟨?_, by omega⟩
       first
         | (rw [hcs, if_pos (hbo.2 ⟨by assumption, by assumption⟩), hon]; done)
         | (rw [hcs, if_neg (fun h => absurd (hbo.1 h).1 (by assumption)), hon]; simp; done)
         | (rw [hcs, if_neg (fun h => absurd (hbo.1 h).2 (by assumption)), hon]; simp; done)
     · show 4 - (i + 1) < 4 - i
       omega
    refine run_cond_f rfl (Bool.eq_false_iff.2 p18) ?_
    refine run_skip ?_
    refine run_inBlock ?_
    refine run_region rfl ?_
    refine l_val (v := Value.int .i64 (i : Int)) rfl (e_move (by exact zs22)) ?_
    refine l_val (v := Value.int .i64 ((i : Int) + 1)) rfl (e_add (m := (i : Int)) (n := 1) rfl rfl (by omega)) ?_
    refine l_val (v := Value.int .i64 ((i : Int) + 1)) rfl (e_assign rfl) ?_
    refine l_nil ?_
    have C86 : Chg (inl []) _ _ _ _ := (ch75.n).seq ((hc78.n).seq ((ch79.n).seq (hc83.n)))
    replace hbase := hbase.chg C86 (is_nl rfl)
    have C87 : Chg (inl []) _ _ _ _ := (hc78.n).seq ((ch79.n).seq (hc83.n))
    replace bx5 := bx5.chg C87 (is_nl rfl)
    replace bx10 := bx10.chg C87 (is_nl rfl)
    replace bx15 := bx15.chg hc83 (not_no _)
    replace bx20 := bx20.chg hc83 (not_no _)
    replace o70 := o70.chg hc83 (not_no _) (not_no _)
    refine back14 (on, i + 1, g74) _ _ ⟨hbase, (by exact zs4), (by exact zs5), (by exact zs6), (by exact zs7), (by exact zs9), (by exact zs19), (by exact zs20), (by exact zs21), rfl, bx5, bx10, bx15, bx20, o70, by omega, ?_⟩ ?_
    · show on = cntB a b c d [a, b, c, d] (i + 1) ∧ (i + 1) ≤ 4
      refine ⟨?_, by omega⟩
      first
        | (rw [hcs, if_pos (hbo.2 ⟨by assumption, by assumption⟩), hon]; done)
        | (rw [hcs, if_neg (fun h => absurd (hbo.1 h).1 (by assumption)), hon]; simp; done)
        | (rw [hcs, if_neg (fun h => absurd (hbo.1 h).2 (by assumption)), hon]; simp; done)
    · show 4 - (i + 1) < 4 - i
      omega
   refine l_skip (want_n rfl rfl rfl (Bool.eq_false_iff.2 q112)) ?_
   refine l_val (v := Value.bool false) rfl (e_pick_f rfl (Bool.eq_false_iff.2 q112) rfl) ?_
   refine l_nil ?_
   refine run_cond_f rfl rfl ?_
   refine run_skip ?_
   refine run_inBlock ?_
   refine run_region rfl ?_
   refine l_val (v := Value.int .i64 (i : Int)) rfl (e_move (by exact zs22)) ?_
   refine l_val (v := Value.int .i64 ((i : Int) + 1)) rfl (e_add (m := (i : Int)) (n := 1) rfl rfl (by omega)) ?_
   refine l_val (v := Value.int .i64 ((i : Int) + 1)) rfl (e_assign rfl) ?_
   refine l_nil ?_
   have C88 : Chg (inl []) _ _ _ _ := (ch75.n).seq ((hc78.n).seq ((ch79.n).seq (hc83.n)))
   replace hbase := hbase.chg C88 (is_nl rfl)
   have C89 : Chg (inl []) _ _ _ _ := (hc78.n).seq ((ch79.n).seq (hc83.n))
   replace bx5 := bx5.chg C89 (is_nl rfl)
   replace bx10 := bx10.chg C89 (is_nl rfl)
   replace bx15 := bx15.chg hc83 (not_no _)
   replace bx20 := bx20.chg hc83 (not_no _)
   replace o70 := o70.chg hc83 (not_no _) (not_no _)
   refine back14 (on, i + 1, g74) _ _ ⟨hbase, (by exact zs4), (by exact zs5), (by exact zs6), (by exact zs7), (by exact zs9), (by exact zs19), (by exact zs20), (by exact zs21), rfl, bx5, bx10, bx15, bx20, o70, by omega, ?_⟩ ?_
   · show on = cntB a b c d [a, b, c, d] (i + 1) ∧ (i + 1) ≤ 4
     refine ⟨?_, by omega⟩
     first
       | (rw [hcs, if_pos (hbo.2 ⟨by assumption, by assumption⟩), hon]; done)
       | (rw [hcs, if_neg (fun h => absurd (hbo.1 h).1 (by assumption)), hon]; simp; done)
       | (rw [hcs, if_neg (fun h => absurd (hbo.1 h).2 (by assumption)), hon]; simp; done)
   · show 4 - (i + 1) < 4 - i
     omega
  refine run_cond_f rfl (decide_eq_false p14) ?_
  refine run_exit rfl ?_
  refine run_seq ?_
  refine run_seq ?_
  clear bx5
  clear bx10
  clear bx15
  clear bx20
  clear o70
  have hE : cntB a b c d [a, b, c, d] 4 = (on : Int) := by rw [hon, show i = 4 by omega]
  rw [hE] at hlaw
  refine run_region rfl ?_
  refine l_val (v := Value.int .i64 ((meetR a b c d).1)) rfl (e_move (by exact zs9)) ?_
  refine l_nil ?_
  refine run_block ?_
  refine run_seq ?_
  refine run_region rfl ?_
  refine l_val (v := Value.bool (decide (((meetR a b c d).1) = 0))) rfl (e_eql (m := (meetR a b c d).1) (n := 0) rfl rfl) ?_
  refine l_val (v := Value.bool (decide (((meetR a b c d).1) = 0))) rfl (e_assign rfl) ?_
  refine l_nil ?_
  by_cases p21 : ((meetR a b c d).1) = 0
  ·
   refine run_cond_t rfl (decide_eq_true p21) ?_
   refine run_seq ?_
   refine run_region rfl ?_
   refine l_val (v := Value.bool false) rfl (e_move (by exact zs19)) ?_
   refine l_val (v := Value.bool true) rfl (e_not (b := false) rfl) ?_
   refine l_val (v := Value.bool true) rfl (e_move rfl) ?_
   refine l_val (v := Value.int .i64 (on : Int)) (want_y rfl rfl rfl rfl) (e_move (by exact zs20)) ?_
   refine l_val (v := Value.bool (decide ((on : Int) = 0))) (want_y rfl rfl rfl rfl) (e_eql (m := (on : Int)) (n := 0) rfl rfl) ?_
   refine l_val (v := Value.bool (decide ((on : Int) = 0))) rfl (e_pick_t rfl rfl rfl) ?_
   refine l_val (v := Value.bool (decide ((on : Int) = 0))) rfl (e_assign rfl) ?_
   refine l_nil ?_
   refine run_ret (vs := [Value.bool (decide ((on : Int) = 0))]) Try.func8 (.tmp rfl .nil) ?_
   -- return 8
   have e0 : (decide ((on : Int) = 0) : Bool) = (true) := by
     first
       | rfl
       | (rcases hlaw with ⟨h1, h2, h3⟩ | ⟨h1, h2, h3⟩ | ⟨h1, h2, h3⟩ <;> first | rfl | exact decide_eq_true (by omega) | exact (decide_eq_true (by omega)).symm | (exfalso; omega))
   exact ⟨(congrArg (a₁ := decide ((on : Int) = 0)) (fun (z0 : Bool) => Ending.returned (Value.bool z0)) e0), hbase.below⟩
  refine run_cond_f rfl (decide_eq_false p21) ?_
  refine run_seq ?_
  refine run_region rfl ?_
  refine l_val (v := Value.bool (decide (((meetR a b c d).1) = 1))) rfl (e_eql (m := (meetR a b c d).1) (n := 1) rfl rfl) ?_
  refine l_val (v := Value.bool (decide (((meetR a b c d).1) = 1))) rfl (e_assign rfl) ?_
  refine l_nil ?_
  by_cases p23 : ((meetR a b c d).1) = 1
  ·
   refine run_cond_t rfl (decide_eq_true p23) ?_
   refine run_seq ?_
   refine run_region rfl ?_
   refine l_val (v := Value.bool false) rfl (e_move (by exact zs19)) ?_
   refine l_val (v := Value.bool false) rfl (e_move rfl) ?_
   refine l_skip (want_n rfl rfl rfl rfl) ?_
   refine l_skip (want_n rfl rfl rfl rfl) ?_
   refine l_val (v := Value.bool false) rfl (e_pick_f rfl rfl rfl) ?_
   refine l_val (v := Value.bool false) rfl (e_assign rfl) ?_
   refine l_nil ?_
   refine run_ret (vs := [Value.bool false]) Try.func8 (.tmp rfl .nil) ?_
   -- return 9
   have e0 : (false : Bool) = (true) := by
     first
       | rfl
       | (rcases hlaw with ⟨h1, h2, h3⟩ | ⟨h1, h2, h3⟩ | ⟨h1, h2, h3⟩ <;> first | rfl | exact decide_eq_true (by omega) | exact (decide_eq_true (by omega)).symm | (exfalso; omega))
   exact ⟨(congrArg (a₁ := false) (fun (z0 : Bool) => Ending.returned (Value.bool z0)) e0), hbase.below⟩
  refine run_cond_f rfl (decide_eq_false p23) ?_
  refine run_skip ?_
  refine run_inBlock ?_
  refine run_seq ?_
  refine run_region rfl ?_
  refine l_val (v := Value.bool false) rfl (e_move (by exact zs19)) ?_
  refine l_val (v := Value.bool true) rfl (e_not (b := false) rfl) ?_
  refine l_val (v := Value.bool true) rfl (e_move rfl) ?_
  refine l_val (v := Value.int .i64 (on : Int)) (want_y rfl rfl rfl rfl) (e_move (by exact zs20)) ?_
  refine l_val (v := Value.bool (decide (0 < (on : Int)))) (want_y rfl rfl rfl rfl) (e_gtr (m := (on : Int)) (n := 0) rfl rfl) ?_
  refine l_val (v := Value.bool (decide (0 < (on : Int)))) rfl (e_pick_t rfl rfl rfl) ?_
  refine l_val (v := Value.bool (decide (0 < (on : Int)))) rfl (e_move rfl) ?_
  by_cases q139 : 0 < (on : Int)
  ·
   refine l_val (v := Value.int .i64 ((meetR a b c d).1)) (want_y rfl rfl rfl (decide_eq_true q139)) (e_move (by exact zs9)) ?_
   refine l_val (v := Value.bool (decide (((meetR a b c d).1) = 2))) (want_y rfl rfl rfl (decide_eq_true q139)) (e_eql (m := (meetR a b c d).1) (n := 2) rfl rfl) ?_
   refine l_val (v := Value.bool (decide (((meetR a b c d).1) = 2))) (want_y rfl rfl rfl (decide_eq_true q139)) (e_move rfl) ?_
   by_cases q142 : ((meetR a b c d).1) = 2
   ·
    refine l_skip (want_n rfl rfl rfl (decide_eq_true q142)) ?_
    refine l_skip (want_n rfl rfl rfl (decide_eq_true q142)) ?_
    refine l_val (v := Value.bool true) (want_y rfl rfl rfl (decide_eq_true q139)) (e_pick_t rfl (decide_eq_true q142) rfl) ?_
    refine l_val (v := Value.bool true) rfl (e_pick_t rfl (decide_eq_true q139) rfl) ?_
    refine l_val (v := Value.bool true) rfl (e_assign rfl) ?_
    refine l_nil ?_
    refine run_ret (vs := [Value.bool true]) Try.func8 (.tmp rfl .nil) ?_
    -- return 10
    have e0 : (true : Bool) = (true) := by
      first
        | rfl
        | (rcases hlaw with ⟨h1, h2, h3⟩ | ⟨h1, h2, h3⟩ | ⟨h1, h2, h3⟩ <;> first | rfl | exact decide_eq_true (by omega) | exact (decide_eq_true (by omega)).symm | (exfalso; omega))
    exact ⟨(congrArg (a₁ := true) (fun (z0 : Bool) => Ending.returned (Value.bool z0)) e0), hbase.below⟩
   refine l_val (v := Value.int .i64 ((meetR a b c d).1)) (want_y rfl rfl rfl (decide_eq_false q142)) (e_move (by exact zs9)) ?_
   refine l_val (v := Value.bool (decide (((meetR a b c d).1) = 3))) (want_y rfl rfl rfl (decide_eq_false q142)) (e_eql (m := (meetR a b c d).1) (n := 3) rfl rfl) ?_
   refine l_val (v := Value.bool (decide (((meetR a b c d).1) = 3))) (want_y rfl rfl rfl (decide_eq_true q139)) (e_pick_f rfl (decide_eq_false q142) rfl) ?_
   refine l_val (v := Value.bool (decide (((meetR a b c d).1) = 3))) rfl (e_pick_t rfl (decide_eq_true q139) rfl) ?_
   refine l_val (v := Value.bool (decide (((meetR a b c d).1) = 3))) rfl (e_assign rfl) ?_
   refine l_nil ?_
   refine run_ret (vs := [Value.bool (decide (((meetR a b c d).1) = 3))]) Try.func8 (.tmp rfl .nil) ?_
   -- return 11
   have e0 : (decide (((meetR a b c d).1) = 3) : Bool) = (true) := by
     first
       | rfl
       | (rcases hlaw with ⟨h1, h2, h3⟩ | ⟨h1, h2, h3⟩ | ⟨h1, h2, h3⟩ <;> first | rfl | exact decide_eq_true (by omega) | exact (decide_eq_true (by omega)).symm | (exfalso; omega))
   exact ⟨(congrArg (a₁ := decide (((meetR a b c d).1) = 3)) (fun (z0 : Bool) => Ending.returned (Value.bool z0)) e0), hbase.below⟩
  refine l_skip (want_n rfl rfl rfl (decide_eq_false q139)) ?_
  refine l_skip (want_n rfl rfl rfl (decide_eq_false q139)) ?_
  refine l_skip (want_n rfl rfl rfl (decide_eq_false q139)) ?_
  refine l_skip (want_u rfl rfl rfl) ?_
  refine l_skip (want_u rfl rfl rfl) ?_
  refine l_skip (want_n rfl rfl rfl (decide_eq_false q139)) ?_
  refine l_val (v := Value.bool false) rfl (e_pick_f rfl (decide_eq_false q139) rfl) ?_
  refine l_val (v := Value.bool false) rfl (e_assign rfl) ?_
  refine l_nil ?_
  refine run_ret (vs := [Value.bool false]) Try.func8 (.tmp rfl .nil) ?_
  -- return 12
  have e0 : (false : Bool) = (true) := by
    first
      | rfl
      | (rcases hlaw with ⟨h1, h2, h3⟩ | ⟨h1, h2, h3⟩ | ⟨h1, h2, h3⟩ <;> first | rfl | exact decide_eq_true (by omega) | exact (decide_eq_true (by omega)).symm | (exfalso; omega))
  exact ⟨(congrArg (a₁ := false) (fun (z0 : Bool) => Ending.returned (Value.bool z0)) e0), hbase.below⟩
 refine run_cond_t rfl (congrArg Bool.not (decide_eq_false p3)) ?_
 refine run_seq ?_
 clear bx5
 clear bx10
 clear bx15
 clear bx20
 clear o29
 refine run_region rfl ?_
 refine l_val (v := Value.bool true) rfl (e_assign rfl) ?_
 refine l_nil ?_
 refine run_ret (vs := [Value.bool true]) Try.func8 (.tmp rfl .nil) ?_
 -- return 13
 have e0 : (true : Bool) = (true) := by
   first
     | rfl
     | (rcases hlaw with ⟨h1, h2, h3⟩ | ⟨h1, h2, h3⟩ | ⟨h1, h2, h3⟩ <;> first | rfl | exact decide_eq_true (by omega) | exact (decide_eq_true (by omega)).symm | (exfalso; omega))
 have C90 : Chg (inl []) _ _ _ _ := (ch2.n).seq ((ch7.n).seq ((ch12.n).seq ((ch17.n).seq ((hb22.n).seq ((ch28.n).seq (hb31.n))))))
 replace hbase := hbase.chg C90 (is_nl rfl)
 exact ⟨(congrArg (a₁ := true) (fun (z0 : Bool) => Ending.returned (Value.bool z0)) e0), hbase.below⟩
end TL
