import Derived.Test.YtifpjbjhkabhgaaTlGmA
import Derived.Test.YtifpjbjhkabhgaaTlGmM
import Derived.Test.YtifpjbjhkabhgaaTlGmR
import Derived.Test.YtifpjbjhkabhgaaTlGmB
import Derived.Test.YtifpjbjhkabhgaaTlGmD
import Derived.Test.YtifpjbjhkabhgaaTlGmP
import Derived.Test.YtifpjbjhkabhgaaTlGmV
import Derived.Test.YtifpjbjhkabhgaaTlGmW
import Derived.Test.YtifpjbjhkabhgaaTlGeomX
import Derived.Test.YtifpjbjhkabhgaaProg
import Derived.Test.YtifpjbjhkabhgaaTlNet2
import Derived.Test.YtifpjbjhkabhgaaTlEq
import Derived.Test.YtifpjbjhkabhgaaTlHold
import Derived.Test.YtifpjbjhkabhgaaTlDraw
import Derived.Test.YtifpjbjhkabhgaaTlMap
set_option linter.all false
set_option maxRecDepth 20000
namespace TL
open Go Go.Proofs
theorem mixed_gz : Try.prog.follows .mixedOrders = true := by kernel_rfl
theorem tp3_gz : Tp Try.prog 3 false 1 8 (.int .i64 0) := Tp.of (by kernel_rfl)
theorem tp23_gz : Tp Try.prog 23 true 2 16 (.agg #[.int .i64 0, .int .i64 0]) := Tp.of (by kernel_rfl)
theorem bd12_gz : Try.f12.body.isNone = false := rfl
theorem nm12_gz : (Try.f12.name == "runtime.NumGoroutine") = false := by decide +kernel
theorem bd16_gz : Try.f16.body.isNone = false := rfl
theorem nm16_gz : (Try.f16.name == "runtime.NumGoroutine") = false := by decide +kernel
theorem bd17_gz : Try.f17.body.isNone = false := rfl
theorem nm17_gz : (Try.f17.name == "runtime.NumGoroutine") = false := by decide +kernel
theorem bd19_gz : Try.f19.body.isNone = false := rfl
theorem nm19_gz : (Try.f19.name == "runtime.NumGoroutine") = false := by decide +kernel
theorem bd21_gz : Try.f21.body.isNone = false := rfl
theorem nm21_gz : (Try.f21.name == "runtime.NumGoroutine") = false := by decide +kernel
theorem bd28_gz : Try.f28.body.isNone = false := rfl
theorem nm28_gz : (Try.f28.name == "runtime.NumGoroutine") = false := by decide +kernel
theorem bd29_gz : Try.f29.body.isNone = false := rfl
theorem nm29_gz : (Try.f29.name == "runtime.NumGoroutine") = false := by decide +kernel
theorem bd30_gz : Try.f30.body.isNone = false := rfl
theorem nm30_gz : (Try.f30.name == "runtime.NumGoroutine") = false := by decide +kernel
theorem bd31_gz : Try.f31.body.isNone = false := rfl
theorem nm31_gz : (Try.f31.name == "runtime.NumGoroutine") = false := by decide +kernel
theorem bd32_gz : Try.f32.body.isNone = false := rfl
theorem nm32_gz : (Try.f32.name == "runtime.NumGoroutine") = false := by decide +kernel
theorem bd33_gz : Try.f33.body.isNone = false := rfl
theorem nm33_gz : (Try.f33.name == "runtime.NumGoroutine") = false := by decide +kernel
theorem bd34_gz : Try.f34.body.isNone = false := rfl
theorem nm34_gz : (Try.f34.name == "runtime.NumGoroutine") = false := by decide +kernel

set_option maxHeartbeats 8000000 in
theorem GeomLines_ok (w0 : World) (p : List ((Int) × (Int))) (p_v : Value) (hp_v : Ro w0 p_v p) (q : List ((Int) × (Int))) (q_v : Value) (hq_v : Ro w0 q_v q) :
    Calls Try.prog 11 #[p_v, q_v] w0 (fun ee w => ee = .returned (Value.bool true) ∧ RowKit.Below w0.heap.size w0 w) := by
 refine calls_of_run Try.func11 rfl (Nat.le_of_ble_eq_true rfl) ?_
 have hbase := Base.start w0
 have r_p_v := hp_v.sl
 have r_q_v := hq_v.sl
 refine run_seq (run_region rfl ?_)
 refine l_val (v := Value.bool false) rfl (e_assign rfl) ?_
 refine l_nil (run_seq (run_seq (run_region rfl (l_op rfl ?_))))
 refine o_call (v := Value.bool true) (e_call (vals := []) Try.func12 bd12_gz nm12_gz rfl) (begun2_ok w0 ) ?_
 intro w1 hb2
 replace hb2 := chg_below hb2 c0
 refine l_val (v := Value.bool false) rfl (e_not (b := true) rfl) ?_
 refine l_nil ?_
 refine run_cond_f rfl rfl ?_
 refine run_skip ?_
 refine run_seq (run_seq (run_region rfl ?_))
 refine l_val (v := p_v) rfl (e_move rfl) ?_
 replace r_p_v := r_p_v.chg hb2 (not_no _)
 have len3 := (r_p_v).small
 refine l_val (v := Value.int .i64 (List.length p : Int)) rfl (e_len Try.underlying25 rfl r_p_v) ?_
 refine l_val (v := Value.bool (decide (40 < (List.length p : Int)))) rfl (e_gtr (m := (List.length p : Int)) (n := 40) rfl rfl) ?_
 refine l_val (v := Value.bool (decide (40 < (List.length p : Int)))) rfl (e_move rfl) ?_
 by_cases q26 : 40 < (List.length p : Int)
 ·
  refine l_skip (want_n rfl rfl rfl (decide_eq_true q26)) ?_
  refine l_skip (want_n rfl rfl rfl (decide_eq_true q26)) ?_
  refine l_skip (want_n rfl rfl rfl (decide_eq_true q26)) ?_
  refine l_val (v := Value.bool true) rfl (e_pick_t rfl (decide_eq_true q26) rfl) ?_
  refine l_nil ?_
  refine run_cond_t rfl rfl ?_
  refine run_seq (run_region rfl ?_)
  refine l_val (v := Value.bool true) rfl (e_assign rfl) ?_
  refine l_nil ?_
  refine run_ret (vs := [Value.bool true]) Try.func11 (.tmp rfl .nil) ?_
  -- return 0
  have e0 : (true : Bool) = (true) := by
    first
      | rfl
      | (rw [y5]; rfl)
      | (rw [y7]; rfl)
      | exact decide_eq_true y7
      | exact (decide_eq_true y7).symm
  replace hbase := hbase.chg hb2 (not_no _)
  exact ⟨(congrArg (a₁ := true) (fun (z0 : Bool) => Ending.returned (Value.bool z0)) e0), hbase.below⟩
 refine l_val (v := q_v) (want_y rfl rfl rfl (decide_eq_false q26)) (e_move rfl) ?_
 replace r_q_v := r_q_v.chg hb2 (not_no _)
 have len4 := (r_q_v).small
 refine l_val (v := Value.int .i64 (List.length q : Int)) (want_y rfl rfl rfl (decide_eq_false q26)) (e_len Try.underlying25 rfl r_q_v) ?_
 refine l_val (v := Value.bool (decide (40 < (List.length q : Int)))) (want_y rfl rfl rfl (decide_eq_false q26)) (e_gtr (m := (List.length q : Int)) (n := 40) rfl rfl) ?_
 refine l_val (v := Value.bool (decide (40 < (List.length q : Int)))) rfl (e_pick_f rfl (decide_eq_false q26) rfl) ?_
 refine l_nil ?_
 by_cases p3 : 40 < (List.length q : Int)
 ·
  refine run_cond_t rfl (decide_eq_true p3) ?_
  refine run_seq (run_region rfl ?_)
  refine l_val (v := Value.bool true) rfl (e_assign rfl) ?_
  refine l_nil ?_
  refine run_ret (vs := [Value.bool true]) Try.func11 (.tmp rfl .nil) ?_
  -- return 1
  have e0 : (true : Bool) = (true) := by
    first
      | rfl
      | (rw [y5]; rfl)
      | (rw [y7]; rfl)
      | exact decide_eq_true y7
      | exact (decide_eq_true y7).symm
  replace hbase := hbase.chg hb2 (not_no _)
  exact ⟨(congrArg (a₁ := true) (fun (z0 : Bool) => Ending.returned (Value.bool z0)) e0), hbase.below⟩
 refine run_cond_f rfl (decide_eq_false p3) ?_
 refine run_skip ?_
 refine run_seq ?_
 obtain ⟨⟨x1, x2⟩, x3, x4, x5, x6, x7⟩ := lines_law p q
 refine run_region rfl ?_
 refine l_val (v := p_v) rfl (e_move rfl) ?_
 refine l_op rfl ?_
 refine o_call (v := Value.int .i64 (errS p)) (e_call (vals := [p_v]) Try.func16 bd16_gz nm16_gz rfl) (err_ok w1 p p_v (r_p_v).ro) ?_
 intro w5 hb6
 replace hb6 := chg_below hb6 c0
 refine l_val (v := q_v) rfl (e_move rfl) ?_
 replace r_q_v := r_q_v.chg hb6 (not_no _)
 refine l_op rfl ?_
 refine o_call (v := Value.int .i64 (errS q)) (e_call (vals := [q_v]) Try.func16 bd16_gz nm16_gz rfl) (err_ok w5 q q_v (r_q_v).ro) ?_
 intro w7 hb8
 replace hb8 := chg_below hb8 c0
 refine l_val (v := Value.int .i64 (errS p)) rfl (e_assign rfl) ?_
 refine l_val (v := Value.int .i64 (errS q)) rfl (e_assign rfl) ?_
 refine l_nil (run_seq (run_region rfl ?_))
 refine l_val (v := p_v) rfl (e_move rfl) ?_
 replace r_p_v := (r_p_v.chg hb6 (not_no _)).chg hb8 (not_no _)
 refine l_op rfl ?_
 refine o_callx (e_call (vals := [p_v]) Try.func17 bd17_gz nm17_gz rfl) (GTwin_ok w7 p p_v (r_p_v).ro (by omega)) ?_
 rintro ⟨d10, v12⟩ w9 ⟨fr11, o13⟩
 obtain ⟨g14, hg14⟩ : ∃ q, q = glue w7.heap.size c0 d10 (fun n => if n = 1 then 1 else 0) := ⟨_, rfl⟩
 have ch15 := chg_glue fr11.below c0 d10 (fun n => if n = 1 then 1 else 0)
 rw [← hg14] at ch15
 replace o13 := o13.glue (γ := c0) (ren := (fun n => if n = 1 then 1 else 0)) (k := 1) fr11.col rfl rfl
 rw [← hg14] at o13
 have r16 := mark_sl o13.flat
 clear hg14
 refine l_val (v := q_v) rfl (e_move rfl) ?_
 replace r_q_v := (r_q_v.chg hb8 (not_no _)).chg ch15 (not_no _)
 refine l_op rfl ?_
 refine o_callx (e_call (vals := [q_v]) Try.func17 bd17_gz nm17_gz rfl) (GTwin_ok w9 q q_v (r_q_v).ro (by omega)) ?_
 rintro ⟨d18, v20⟩ w17 ⟨fr19, o21⟩
 obtain ⟨g22, hg22⟩ : ∃ q, q = glue w9.heap.size g14 d18 (fun n => if n = 1 then 2 else 0) := ⟨_, rfl⟩
 have ch23 := chg_glue fr19.below g14 d18 (fun n => if n = 1 then 2 else 0)
 rw [← hg22] at ch23
 replace o21 := o21.glue (γ := g14) (ren := (fun n => if n = 1 then 2 else 0)) (k := 2) fr19.col rfl rfl
 rw [← hg22] at o21
 have r24 := mark_sl o21.flat
 clear hg22
 refine l_val (v := v12) rfl (e_assign rfl) ?_
 refine l_val (v := v20) rfl (e_assign rfl) ?_
 refine l_nil (run_seq (run_region rfl ?_))
 refine l_val (v := v12) rfl (e_move rfl) ?_
 replace r16 := r16.chg ch23 (not_no _)
 refine l_op rfl ?_
 refine o_call (v := Value.tuple (List.toArray [Value.bool ((simR p).1), Value.int .i64 ((simR p).2)])) (e_call (vals := [v12]) Try.func29 bd29_gz nm29_gz rfl) (Simple_ok w17 p v12 (r16).ro (by omega)) ?_
 intro w25 hb26
 replace hb26 := chg_below hb26 g22
 refine l_val (v := Value.tuple (List.toArray [Value.bool ((simR p).1), Value.int .i64 ((simR p).2)])) rfl (e_move rfl) ?_
 refine l_val (v := Value.bool ((simR p).1)) rfl (e_extract rfl rfl) ?_
 refine l_val (v := Value.int .i64 ((simR p).2)) rfl (e_extract rfl rfl) ?_
 refine l_val (v := Value.bool ((simR p).1)) rfl (e_assign rfl) ?_
 refine l_val (v := Value.int .i64 ((simR p).2)) rfl (e_assign rfl) ?_
 refine l_nil (run_seq (run_region rfl ?_))
 refine l_val (v := v12) rfl (e_move rfl) ?_
 replace r16 := r16.chg hb26 (not_no _)
 refine l_op rfl ?_
 refine o_call (v := Value.tuple (List.toArray [Value.int .i64 ((areaR p).1), Value.int .i64 ((areaR p).2)])) (e_call (vals := [v12]) Try.func21 bd21_gz nm21_gz rfl) (Area_ok w25 p v12 (r16).ro) ?_
 intro w27 hb28
 replace hb28 := chg_below hb28 g22
 refine l_val (v := Value.tuple (List.toArray [Value.int .i64 ((areaR p).1), Value.int .i64 ((areaR p).2)])) rfl (e_move rfl) ?_
 refine l_val (v := Value.int .i64 ((areaR p).1)) rfl (e_extract rfl rfl) ?_
 refine l_val (v := Value.int .i64 ((areaR p).2)) rfl (e_extract rfl rfl) ?_
 refine l_val (v := Value.int .i64 ((areaR p).1)) rfl (e_assign rfl) ?_
 refine l_val (v := Value.int .i64 ((areaR p).2)) rfl (e_assign rfl) ?_
 refine l_nil (run_seq (run_region rfl ?_))
 refine l_val (v := v12) rfl (e_move rfl) ?_
 replace r16 := r16.chg hb28 (not_no _)
 refine l_op rfl ?_
 refine o_call (v := Value.tuple (List.toArray [Value.agg (List.toArray [Value.int .i64 (((boxR p).1).1), Value.int .i64 (((boxR p).1).2)]), Value.agg (List.toArray [Value.int .i64 (((boxR p).2.1).1), Value.int .i64 (((boxR p).2.1).2)]), Value.int .i64 ((boxR p).2.2)])) (e_call (vals := [v12]) Try.func28 bd28_gz nm28_gz rfl) (Box_ok w27 p v12 (r16).ro) ?_
 intro w29 hb30
 replace hb30 := chg_below hb30 g22
 refine l_val (v := Value.tuple (List.toArray [Value.agg (List.toArray [Value.int .i64 (((boxR p).1).1), Value.int .i64 (((boxR p).1).2)]), Value.agg (List.toArray [Value.int .i64 (((boxR p).2.1).1), Value.int .i64 (((boxR p).2.1).2)]), Value.int .i64 ((boxR p).2.2)])) rfl (e_move rfl) ?_
 refine l_val (v := Value.agg (List.toArray [Value.int .i64 (((boxR p).1).1), Value.int .i64 (((boxR p).1).2)])) rfl (e_extract rfl rfl) ?_
 refine l_val (v := Value.agg (List.toArray [Value.int .i64 (((boxR p).2.1).1), Value.int .i64 (((boxR p).2.1).2)])) rfl (e_extract rfl rfl) ?_
 refine l_val (v := Value.int .i64 ((boxR p).2.2)) rfl (e_extract rfl rfl) ?_
 refine l_op rfl ?_
 refine o_alloc g22 (is 3) (3, 0) rfl tp23_gz ?_
 intro g34 w31 b33 ch32 bx35
 replace bx35 : Bx g34 (is 3) w31 b33 [Value.int .i64 0, Value.int .i64 0] := bx35
 refine l_op rfl ?_
 refine o_alloc g34 (is 4) (4, 0) rfl tp23_gz ?_
 intro g39 w36 b38 ch37 bx40
 replace bx40 : Bx g39 (is 4) w36 b38 [Value.int .i64 0, Value.int .i64 0] := bx40
 refine l_op rfl ?_
 replace bx35 := bx35.chg ch37 (not_no _)
 refine o_store_bx (cs' := [Value.int .i64 (((boxR p).1).1), Value.int .i64 (((boxR p).1).2)]) tp23_gz rfl rfl bx35 rfl (Nat.le_of_ble_eq_true rfl) (AllOne.all (.cons rfl (.cons rfl .nil))) rfl ?_
 intro w41 ch42 bx43
 clear bx35
 refine l_op rfl ?_
 replace bx40 := bx40.chg ch42 (is_ne rfl)
 refine o_store_bx (cs' := [Value.int .i64 (((boxR p).2.1).1), Value.int .i64 (((boxR p).2.1).2)]) tp23_gz rfl rfl bx40 rfl (Nat.le_of_ble_eq_true rfl) (AllOne.all (.cons rfl (.cons rfl .nil))) rfl ?_
 intro w44 ch45 bx46
 clear bx40
 refine l_val (v := Value.int .i64 ((boxR p).2.2)) rfl (e_assign rfl) ?_
 refine l_nil (run_seq (run_region rfl ?_))
 refine l_val (v := v12) rfl (e_move rfl) ?_
 refine l_val (v := v20) rfl (e_move rfl) ?_
 have C47 : Chg (inl [3, 4]) _ _ _ _ := (hb30.n).seq ((ch32.n).seq ((ch37.n).seq ((ch42.l rfl).seq (ch45.l rfl))))
 replace r16 := r16.chg C47 (is_nl rfl)
 have C48 : Chg (inl [3, 4]) _ _ _ _ := (hb26.n).seq ((hb28.n).seq ((hb30.n).seq ((ch32.n).seq ((ch37.n).seq ((ch42.l rfl).seq (ch45.l rfl))))))
 replace r24 := r24.chg C48 (is_nl rfl)
 refine l_op rfl ?_
 refine o_call (v := Value.tuple (List.toArray [Value.bool ((aptR p q).1), Value.int .i64 ((aptR p q).2)])) (e_call (vals := [v12, v20]) Try.func30 bd30_gz nm30_gz rfl) (Apart_ok w44 p v12 (r16).ro q v20 (r24).ro) ?_
 intro w49 hb50
 replace hb50 := chg_below hb50 g39
 refine l_val (v := Value.tuple (List.toArray [Value.bool ((aptR p q).1), Value.int .i64 ((aptR p q).2)])) rfl (e_move rfl) ?_
 refine l_val (v := Value.bool ((aptR p q).1)) rfl (e_extract rfl rfl) ?_
 refine l_val (v := Value.int .i64 ((aptR p q).2)) rfl (e_extract rfl rfl) ?_
 refine l_val (v := Value.bool ((aptR p q).1)) rfl (e_assign rfl) ?_
 refine l_val (v := Value.int .i64 ((aptR p q).2)) rfl (e_assign rfl) ?_
 refine l_nil (run_seq (run_seq (run_region rfl ?_)))
 refine l_val (v := v12) rfl (e_move rfl) ?_
 refine l_val (v := p_v) rfl (e_move rfl) ?_
 have C51 : Chg (inl [3, 4]) _ _ _ _ := (ch23.n).seq ((hb26.n).seq ((hb28.n).seq ((hb30.n).seq ((ch32.n).seq ((ch37.n).seq ((ch42.l rfl).seq ((ch45.l rfl).seq (hb50.n))))))))
 replace o13 := o13.chg C51 (is_nl rfl) (is_nl rfl)
 have C52 : Chg (inl [3, 4]) _ _ _ _ := (hb26.n).seq ((hb28.n).seq ((hb30.n).seq ((ch32.n).seq ((ch37.n).seq ((ch42.l rfl).seq ((ch45.l rfl).seq (hb50.n)))))))
 replace o21 := o21.chg C52 (is_nl rfl) (is_nl rfl)
 replace r16 := r16.chg hb50 (not_no _)
 have C53 : Chg (inl [3, 4]) _ _ _ _ := (ch15.n).seq ((ch23.n).seq ((hb26.n).seq ((hb28.n).seq ((hb30.n).seq ((ch32.n).seq ((ch37.n).seq ((ch42.l rfl).seq ((ch45.l rfl).seq (hb50.n)))))))))
 replace r_p_v := r_p_v.chg C53 (is_nl rfl)
 refine l_op rfl ?_
 refine o_call (v := Value.bool true) (e_call (vals := [v12, p_v]) Try.func19 bd19_gz nm19_gz rfl) (GKept_ok w49 p v12 (r16).ro p p_v (r_p_v).ro (by first | exact Sl.ro (Sl.bel (Ow.flat (by assumption)) hw') | exact Sl.ro (Ow.flat (by assumption))) (by rfl)) ?_
 intro w54 hb55
 replace hb55 := chg_below hb55 g39
 refine l_val (v := Value.bool false) rfl (e_not (b := true) rfl) ?_
 refine l_val (v := Value.bool false) rfl (e_move rfl) ?_
 refine l_val (v := v20) (want_y rfl rfl rfl rfl) (e_move rfl) ?_
 refine l_val (v := q_v) (want_y rfl rfl rfl rfl) (e_move rfl) ?_
 replace o13 := o13.chg hb55 (not_no _) (not_no _)
 replace o21 := o21.chg hb55 (not_no _) (not_no _)
 replace r24 := (r24.chg hb50 (not_no _)).chg hb55 (not_no _)
 have C56 : Chg (inl [3, 4]) _ _ _ _ := (ch23.n).seq ((hb26.n).seq ((hb28.n).seq ((hb30.n).seq ((ch32.n).seq ((ch37.n).seq ((ch42.l rfl).seq ((ch45.l rfl).seq ((hb50.n).seq (hb55.n)))))))))
 replace r_q_v := r_q_v.chg C56 (is_nl rfl)
 refine l_op (want_y rfl rfl rfl rfl) ?_
 refine o_call (v := Value.bool true) (e_call (vals := [v20, q_v]) Try.func19 bd19_gz nm19_gz rfl) (GKept_ok w54 q v20 (r24).ro q q_v (r_q_v).ro (by first | exact Sl.ro (Sl.bel (Ow.flat (by assumption)) hw') | exact Sl.ro (Ow.flat (by assumption))) (by rfl)) ?_
 intro w57 hb58
 replace hb58 := chg_below hb58 g39
 refine l_val (v := Value.bool false) (want_y rfl rfl rfl rfl) (e_not (b := true) rfl) ?_
 refine l_val (v := Value.bool false) rfl (e_pick_f rfl rfl rfl) ?_
 refine l_val (v := Value.bool false) rfl (e_move rfl) ?_
 refine l_val (v := Value.int .i64 ((areaR p).2)) (want_y rfl rfl rfl rfl) (e_move rfl) ?_
 refine l_val (v := Value.int .i64 (errS p)) (want_y rfl rfl rfl rfl) (e_move rfl) ?_
 refine l_val (v := Value.bool (!(decide (((areaR p).2) = (errS p))))) (want_y rfl rfl rfl rfl) (e_neq (m := (areaR p).2) (n := errS p) rfl rfl) ?_
 refine l_val (v := Value.bool (!(decide (((areaR p).2) = (errS p))))) rfl (e_pick_f rfl rfl rfl) ?_
 refine l_val (v := Value.bool (!(decide (((areaR p).2) = (errS p))))) rfl (e_move rfl) ?_
 have q76 : ((areaR p).2) = (errS p) := by first | exact x1 | exact x2 (by assumption) | exact y1 | exact y2 | exact y3 | exact y4 | exact y5 | exact y6 | exact y7 | (rw [y4]; simp; done)
 refine l_val (v := Value.int .i64 (errS p)) (want_y rfl rfl rfl (congrArg Bool.not (decide_eq_true q76))) (e_move rfl) ?_
 refine l_val (v := Value.bool (decide ((errS p) = 0))) (want_y rfl rfl rfl (congrArg Bool.not (decide_eq_true q76))) (e_eql (m := errS p) (n := 0) rfl rfl) ?_
 refine l_val (v := Value.bool (decide ((errS p) = 0))) (want_y rfl rfl rfl (congrArg Bool.not (decide_eq_true q76))) (e_move rfl) ?_
 by_cases q79 : (errS p) = 0
 ·
  refine l_val (v := Value.int .i64 ((areaR p).1)) (want_y rfl rfl rfl (decide_eq_true q79)) (e_move rfl) ?_
  refine l_val (v := p_v) (want_y rfl rfl rfl (decide_eq_true q79)) (e_move rfl) ?_
  replace r_p_v := (r_p_v.chg hb55 (not_no _)).chg hb58 (not_no _)
  refine l_op (want_y rfl rfl rfl (decide_eq_true q79)) ?_
  refine o_call (v := Value.int .i64 (areaI p)) (e_call (vals := [p_v]) Try.func31 bd31_gz nm31_gz rfl) (D2Area_ok w57 p p_v (r_p_v).ro (by exact errS_ok (by assumption))) ?_
  intro w59 hb60
  replace hb60 := chg_below hb60 g39
  refine l_val (v := Value.bool (!(decide (((areaR p).1) = (areaI p))))) (want_y rfl rfl rfl (decide_eq_true q79)) (e_neq (m := (areaR p).1) (n := areaI p) rfl rfl) ?_
  refine l_val (v := Value.bool (!(decide (((areaR p).1) = (areaI p))))) (want_y rfl rfl rfl (congrArg Bool.not (decide_eq_true q76))) (e_pick_t rfl (decide_eq_true q79) rfl) ?_
  refine l_val (v := Value.bool (!(decide (((areaR p).1) = (areaI p))))) rfl (e_pick_f rfl (congrArg Bool.not (decide_eq_true q76)) rfl) ?_
  refine l_nil ?_
  have p11 : ((areaR p).1) = (areaI p) := by first | exact x1 | exact x2 (by assumption) | exact y1 | exact y2 | exact y3 | exact y4 | exact y5 | exact y6 | exact y7 | (rw [y4]; simp; done)
  refine run_cond_f rfl (congrArg Bool.not (decide_eq_true p11)) ?_
  refine run_skip ?_
  refine run_seq ?_
  clear r16
  clear r24
  refine run_region rfl ?_
  refine l_val (v := p_v) rfl (e_move rfl) ?_
  replace r_p_v := r_p_v.chg hb60 (not_no _)
  refine l_val (v := Value.int .i64 (List.length p : Int)) rfl (e_len Try.underlying25 rfl r_p_v) ?_
  refine l_val (v := Value.bool (decide ((List.length p : Int) = 0))) rfl (e_eql (m := (List.length p : Int)) (n := 0) rfl rfl) ?_
  refine l_val (v := Value.bool (decide ((List.length p : Int) = 0))) rfl (e_assign rfl) ?_
  refine l_nil (run_seq (run_seq (run_region rfl ?_)))
  refine l_val (v := Value.int .i64 (errS p)) rfl (e_move rfl) ?_
  refine l_val (v := Value.bool (decide ((errS p) = 0))) rfl (e_eql (m := errS p) (n := 0) rfl rfl) ?_
  refine l_val (v := Value.bool (decide ((errS p) = 0))) rfl (e_move rfl) ?_
  refine l_val (v := Value.bool (decide ((List.length p : Int) = 0))) (want_y rfl rfl rfl (decide_eq_true q79)) (e_move rfl) ?_
  refine l_val (v := Value.bool (decide ((List.length p : Int) = 0))) rfl (e_pick_t rfl (decide_eq_true q79) rfl) ?_
  refine l_nil ?_
  by_cases p14 : (List.length p : Int) = 0
  ·
   obtain ⟨⟨y1, y2⟩, y3, y4, y5⟩ := x3 (by assumption) p14
   refine run_cond_t rfl (decide_eq_true p14) ?_
   refine run_seq ?_
   clear bx43
   clear bx46
   refine run_region rfl ?_
   refine l_val (v := Value.int .i64 ((simR p).2)) rfl (e_move rfl) ?_
   refine l_val (v := Value.bool (decide (((simR p).2) = 1))) rfl (e_eql (m := (simR p).2) (n := 1) rfl rfl) ?_
   refine l_val (v := Value.bool (decide (((simR p).2) = 1))) rfl (e_move rfl) ?_
   have q96 : ((simR p).2) = 1 := by first | exact x1 | exact x2 (by assumption) | exact y1 | exact y2 | exact y3 | exact y4 | exact y5 | exact y6 | exact y7 | (rw [y4]; simp; done)
   refine l_val (v := Value.int .i64 ((boxR p).2.2)) (want_y rfl rfl rfl (decide_eq_true q96)) (e_move rfl) ?_
   refine l_val (v := Value.bool (decide (((boxR p).2.2) = 9))) (want_y rfl rfl rfl (decide_eq_true q96)) (e_eql (m := (boxR p).2.2) (n := 9) rfl rfl) ?_
   refine l_val (v := Value.bool (decide (((boxR p).2.2) = 9))) rfl (e_pick_t rfl (decide_eq_true q96) rfl) ?_
   refine l_val (v := Value.bool (decide (((boxR p).2.2) = 9))) rfl (e_move rfl) ?_
   have q100 : ((boxR p).2.2) = 9 := by first | exact x1 | exact x2 (by assumption) | exact y1 | exact y2 | exact y3 | exact y4 | exact y5 | exact y6 | exact y7 | (rw [y4]; simp; done)
   refine l_val (v := Value.int .i64 ((aptR p q).2)) (want_y rfl rfl rfl (decide_eq_true q100)) (e_move rfl) ?_
   refine l_val (v := Value.bool (decide (((aptR p q).2) = 1))) (want_y rfl rfl rfl (decide_eq_true q100)) (e_eql (m := (aptR p q).2) (n := 1) rfl rfl) ?_
   refine l_val (v := Value.bool (decide (((aptR p q).2) = 1))) rfl (e_pick_t rfl (decide_eq_true q100) rfl) ?_
   refine l_val (v := Value.bool (decide (((aptR p q).2) = 1))) rfl (e_move rfl) ?_
   have q104 : ((aptR p q).2) = 1 := by first | exact x1 | exact x2 (by assumption) | exact y1 | exact y2 | exact y3 | exact y4 | exact y5 | exact y6 | exact y7 | (rw [y4]; simp; done)
   refine l_val (v := Value.bool ((simR p).1)) (want_y rfl rfl rfl (decide_eq_true q104)) (e_move rfl) ?_
   refine l_val (v := Value.bool (!((simR p).1))) (want_y rfl rfl rfl (decide_eq_true q104)) (e_not (b := ((simR p).1)) rfl) ?_
   refine l_val (v := Value.bool (!((simR p).1))) rfl (e_pick_t rfl (decide_eq_true q104) rfl) ?_
   refine l_val (v := Value.bool (!((simR p).1))) rfl (e_move rfl) ?_
   have q108 : ¬ (((simR p).1) = true) := by first | exact x1 | exact x2 (by assumption) | exact y1 | exact y2 | exact y3 | exact y4 | exact y5 | exact y6 | exact y7 | (rw [y4]; simp; done)
   refine l_val (v := Value.bool ((aptR p q).1)) (want_y rfl rfl rfl (congrArg Bool.not (Bool.eq_false_iff.2 q108))) (e_move rfl) ?_
   refine l_val (v := Value.bool (!((aptR p q).1))) (want_y rfl rfl rfl (congrArg Bool.not (Bool.eq_false_iff.2 q108))) (e_not (b := ((aptR p q).1)) rfl) ?_
   refine l_val (v := Value.bool (!((aptR p q).1))) rfl (e_pick_t rfl (congrArg Bool.not (Bool.eq_false_iff.2 q108)) rfl) ?_
   refine l_val (v := Value.bool (!((aptR p q).1))) rfl (e_assign rfl) ?_
   refine l_nil ?_
   refine run_ret (vs := [Value.bool (!((aptR p q).1))]) Try.func11 (.tmp rfl .nil) ?_
   -- return 2
   have e0 : (!((aptR p q).1) : Bool) = (true) := by
     first
       | rfl
       | (rw [y5]; rfl)
       | (rw [y7]; rfl)
       | exact decide_eq_true y7
       | exact (decide_eq_true y7).symm
   have C61 : Chg (inl [3, 4]) _ _ _ _ := (hb2.n).seq ((hb6.n).seq ((hb8.n).seq ((ch15.n).seq ((ch23.n).seq ((hb26.n).seq ((hb28.n).seq ((hb30.n).seq ((ch32.n).seq ((ch37.n).seq ((ch42.l rfl).seq ((ch45.l rfl).seq ((hb50.n).seq ((hb55.n).seq ((hb58.n).seq (hb60.n)))))))))))))))
   replace hbase := hbase.chg C61 (is_nl rfl)
   exact ⟨(congrArg (a₁ := !((aptR p q).1)) (fun (z0 : Bool) => Ending.returned (Value.bool z0)) e0), hbase.below⟩
  obtain ⟨y1, y2⟩ := x4 (fun h => p14 h.2)
  obtain ⟨y3, y4, y5⟩ := x5 (by assumption) p14
  refine run_cond_f rfl (decide_eq_false p14) ?_
  refine run_skip ?_
  refine run_seq (run_seq (run_region rfl ?_))
  refine l_val (v := Value.int .i64 ((simR p).2)) rfl (e_move rfl) ?_
  refine l_val (v := Value.int .i64 (errS p)) rfl (e_move rfl) ?_
  refine l_val (v := Value.bool (!(decide (((simR p).2) = (errS p))))) rfl (e_neq (m := (simR p).2) (n := errS p) rfl rfl) ?_
  refine l_val (v := Value.bool (!(decide (((simR p).2) = (errS p))))) rfl (e_move rfl) ?_
  have q115 : ((simR p).2) = (errS p) := by first | exact x1 | exact x2 (by assumption) | exact y1 | exact y2 | exact y3 | exact y4 | exact y5 | exact y6 | exact y7 | (rw [y4]; simp; done)
  refine l_val (v := Value.int .i64 ((boxR p).2.2)) (want_y rfl rfl rfl (congrArg Bool.not (decide_eq_true q115))) (e_move rfl) ?_
  refine l_val (v := Value.int .i64 (errS p)) (want_y rfl rfl rfl (congrArg Bool.not (decide_eq_true q115))) (e_move rfl) ?_
  refine l_val (v := Value.bool (!(decide (((boxR p).2.2) = (errS p))))) (want_y rfl rfl rfl (congrArg Bool.not (decide_eq_true q115))) (e_neq (m := (boxR p).2.2) (n := errS p) rfl rfl) ?_
  refine l_val (v := Value.bool (!(decide (((boxR p).2.2) = (errS p))))) rfl (e_pick_f rfl (congrArg Bool.not (decide_eq_true q115)) rfl) ?_
  refine l_val (v := Value.bool (!(decide (((boxR p).2.2) = (errS p))))) rfl (e_move rfl) ?_
  have q120 : ((boxR p).2.2) = (errS p) := by first | exact x1 | exact x2 (by assumption) | exact y1 | exact y2 | exact y3 | exact y4 | exact y5 | exact y6 | exact y7 | (rw [y4]; simp; done)
  refine l_val (v := Value.int .i64 (errS p)) (want_y rfl rfl rfl (congrArg Bool.not (decide_eq_true q120))) (e_move rfl) ?_
  refine l_val (v := Value.bool (decide ((errS p) = 0))) (want_y rfl rfl rfl (congrArg Bool.not (decide_eq_true q120))) (e_eql (m := errS p) (n := 0) rfl rfl) ?_
  refine l_val (v := Value.bool (decide ((errS p) = 0))) (want_y rfl rfl rfl (congrArg Bool.not (decide_eq_true q120))) (e_move rfl) ?_
  refine l_val (v := Value.bool ((simR p).1)) (want_y rfl rfl rfl (decide_eq_true q79)) (e_move rfl) ?_
  refine l_val (v := p_v) (want_y rfl rfl rfl (decide_eq_true q79)) (e_move rfl) ?_
  refine l_op (want_y rfl rfl rfl (decide_eq_true q79)) ?_
  refine o_call (v := Value.bool (decide (simP p))) (e_call (vals := [p_v]) Try.func32 bd32_gz nm32_gz rfl) (D2Simple_ok w59 p p_v (r_p_v).ro (by exact errS_ok (by assumption)) (by omega)) ?_
  intro w62 hb63
  replace hb63 := chg_below hb63 g39
  refine l_val (v := Value.bool (!(decide (((simR p).1) = (decide (simP p)))))) (want_y rfl rfl rfl (decide_eq_true q79)) (e_neq_bool Try.underlying4 rfl rfl) ?_
  refine l_val (v := Value.bool (!(decide (((simR p).1) = (decide (simP p)))))) (want_y rfl rfl rfl (congrArg Bool.not (decide_eq_true q120))) (e_pick_t rfl (decide_eq_true q79) rfl) ?_
  refine l_val (v := Value.bool (!(decide (((simR p).1) = (decide (simP p)))))) rfl (e_pick_f rfl (congrArg Bool.not (decide_eq_true q120)) rfl) ?_
  refine l_nil ?_
  have p16 : ((simR p).1) = (decide (simP p)) := by first | exact x1 | exact x2 (by assumption) | exact y1 | exact y2 | exact y3 | exact y4 | exact y5 | exact y6 | exact y7 | (rw [y4]; simp; done)
  refine run_cond_f rfl (congrArg Bool.not (decide_eq_true p16)) ?_
  refine run_skip ?_
  refine run_seq (run_seq (run_region rfl ?_))
  refine l_val (v := Value.int .i64 (errS p)) rfl (e_move rfl) ?_
  refine l_val (v := Value.bool (decide ((errS p) = 0))) rfl (e_eql (m := errS p) (n := 0) rfl rfl) ?_
  refine l_nil ?_
  refine run_cond_t rfl (decide_eq_true q79) ?_
  refine run_seq (run_region rfl ?_)
  refine l_val (v := p_v) rfl (e_move rfl) ?_
  replace r_p_v := r_p_v.chg hb63 (not_no _)
  refine l_op rfl ?_
  refine o_call (v := Value.tuple (List.toArray [Value.agg (List.toArray [Value.int .i64 ((loK p p.length).1), Value.int .i64 ((loK p p.length).2)]), Value.agg (List.toArray [Value.int .i64 ((hiK p p.length).1), Value.int .i64 ((hiK p p.length).2)])])) (e_call (vals := [p_v]) Try.func33 bd33_gz nm33_gz rfl) (D2Box_ok w62 p p_v (r_p_v).ro (by omega)) ?_
  intro w64 hb65
  replace hb65 := chg_below hb65 g39
  refine l_val (v := Value.tuple (List.toArray [Value.agg (List.toArray [Value.int .i64 ((loK p p.length).1), Value.int .i64 ((loK p p.length).2)]), Value.agg (List.toArray [Value.int .i64 ((hiK p p.length).1), Value.int .i64 ((hiK p p.length).2)])])) rfl (e_move rfl) ?_
  refine l_val (v := Value.agg (List.toArray [Value.int .i64 ((loK p p.length).1), Value.int .i64 ((loK p p.length).2)])) rfl (e_extract rfl rfl) ?_
  refine l_val (v := Value.agg (List.toArray [Value.int .i64 ((hiK p p.length).1), Value.int .i64 ((hiK p p.length).2)])) rfl (e_extract rfl rfl) ?_
  refine l_op rfl ?_
  refine o_alloc g39 (is 5) (5, 0) rfl tp23_gz ?_
  intro g69 w66 b68 ch67 bx70
  replace bx70 : Bx g69 (is 5) w66 b68 [Value.int .i64 0, Value.int .i64 0] := bx70
  refine l_op rfl ?_
  refine o_alloc g69 (is 6) (6, 0) rfl tp23_gz ?_
  intro g74 w71 b73 ch72 bx75
  replace bx75 : Bx g74 (is 6) w71 b73 [Value.int .i64 0, Value.int .i64 0] := bx75
  refine l_op rfl ?_
  replace bx70 := bx70.chg ch72 (not_no _)
  refine o_store_bx (cs' := [Value.int .i64 ((loK p p.length).1), Value.int .i64 ((loK p p.length).2)]) tp23_gz rfl rfl bx70 rfl (Nat.le_of_ble_eq_true rfl) (AllOne.all (.cons rfl (.cons rfl .nil))) rfl ?_
  intro w76 ch77 bx78
  clear bx70
  refine l_op rfl ?_
  replace bx75 := bx75.chg ch77 (is_ne rfl)
  refine o_store_bx (cs' := [Value.int .i64 ((hiK p p.length).1), Value.int .i64 ((hiK p p.length).2)]) tp23_gz rfl rfl bx75 rfl (Nat.le_of_ble_eq_true rfl) (AllOne.all (.cons rfl (.cons rfl .nil))) rfl ?_
  intro w79 ch80 bx81
  clear bx75
  refine l_nil (run_seq (run_region rfl ?_))
  have C82 : Chg (inl [4, 5, 6]) _ _ _ _ := (ch45.l rfl).seq ((hb50.n).seq ((hb55.n).seq ((hb58.n).seq ((hb60.n).seq ((hb63.n).seq ((hb65.n).seq ((ch67.n).seq ((ch72.n).seq ((ch77.l rfl).seq (ch80.l rfl))))))))))
  replace bx43 := bx43.chg C82 (is_nl rfl)
  refine l_val (v := Value.agg (List.toArray [Value.int .i64 (((boxR p).1).1), Value.int .i64 (((boxR p).1).2)])) rfl (e_load_bxN (ds := [Value.int .i64 (((boxR p).1).1), Value.int .i64 (((boxR p).1).2)]) tp23_gz rfl bx43 rfl rfl) ?_
  replace bx78 := bx78.chg ch80 (is_ne rfl)
  refine l_val (v := Value.agg (List.toArray [Value.int .i64 ((loK p p.length).1), Value.int .i64 ((loK p p.length).2)])) rfl (e_load_bxN (ds := [Value.int .i64 ((loK p p.length).1), Value.int .i64 ((loK p p.length).2)]) tp23_gz rfl bx78 rfl rfl) ?_
  refine l_val (v := Value.bool (!(decide (((boxR p).1) = (loK p p.length))))) rfl (e_neq_struct (bs := [decide ((((boxR p).1).1) = ((loK p p.length).1)), decide ((((boxR p).1).2) = ((loK p p.length).2))]) Try.underlying23 (by kernel_rfl) (by kernel_rfl) rfl rfl (.cons (by decide +kernel) tp3_gz rfl rfl (.int Try.underlying3) (.cons (by decide +kernel) tp3_gz rfl rfl (.int Try.underlying3) .nil)) (by simp [Prod.ext_iff, Bool.decide_and, Bool.and_assoc])) ?_
  refine l_val (v := Value.bool (!(decide (((boxR p).1) = (loK p p.length))))) rfl (e_move rfl) ?_
  have q140 : ((boxR p).1) = (loK p p.length) := by first | exact x1 | exact x2 (by assumption) | exact y1 | exact y2 | exact y3 | exact y4 | exact y5 | exact y6 | exact y7 | (rw [y4]; simp; done)
  have C83 : Chg (inl [5, 6]) _ _ _ _ := (hb50.n).seq ((hb55.n).seq ((hb58.n).seq ((hb60.n).seq ((hb63.n).seq ((hb65.n).seq ((ch67.n).seq ((ch72.n).seq ((ch77.l rfl).seq (ch80.l rfl)))))))))
  replace bx46 := bx46.chg C83 (is_nl rfl)
  refine l_val (v := Value.agg (List.toArray [Value.int .i64 (((boxR p).2.1).1), Value.int .i64 (((boxR p).2.1).2)])) (want_y rfl rfl rfl (congrArg Bool.not (decide_eq_true q140))) (e_load_bxN (ds := [Value.int .i64 (((boxR p).2.1).1), Value.int .i64 (((boxR p).2.1).2)]) tp23_gz rfl bx46 rfl rfl) ?_
  refine l_val (v := Value.agg (List.toArray [Value.int .i64 ((hiK p p.length).1), Value.int .i64 ((hiK p p.length).2)])) (want_y rfl rfl rfl (congrArg Bool.not (decide_eq_true q140))) (e_load_bxN (ds := [Value.int .i64 ((hiK p p.length).1), Value.int .i64 ((hiK p p.length).2)]) tp23_gz rfl bx81 rfl rfl) ?_
  refine l_val (v := Value.bool (!(decide (((boxR p).2.1) = (hiK p p.length))))) (want_y rfl rfl rfl (congrArg Bool.not (decide_eq_true q140))) (e_neq_struct (bs := [decide ((((boxR p).2.1).1) = ((hiK p p.length).1)), decide ((((boxR p).2.1).2) = ((hiK p p.length).2))]) Try.underlying23 (by kernel_rfl) (by kernel_rfl) rfl rfl (.cons (by decide +kernel) tp3_gz rfl rfl (.int Try.underlying3) (.cons (by decide +kernel) tp3_gz rfl rfl (.int Try.underlying3) .nil)) (by simp [Prod.ext_iff, Bool.decide_and, Bool.and_assoc])) ?_
  refine l_val (v := Value.bool (!(decide (((boxR p).2.1) = (hiK p p.length))))) rfl (e_pick_f rfl (congrArg Bool.not (decide_eq_true q140)) rfl) ?_
  refine l_nil ?_
  have p20 : ((boxR p).2.1) = (hiK p p.length) := by first | exact x1 | exact x2 (by assumption) | exact y1 | exact y2 | exact y3 | exact y4 | exact y5 | exact y6 | exact y7 | (rw [y4]; simp; done)
  refine run_cond_f rfl (congrArg Bool.not (decide_eq_true p20)) ?_
  refine run_skip ?_
  refine run_seq (run_seq ?_)
  clear bx43
  clear bx46
  clear bx78
  clear bx81
  refine run_region rfl ?_
  refine l_val (v := Value.int .i64 (errS p)) rfl (e_move rfl) ?_
  refine l_val (v := Value.bool (!(decide ((errS p) = 0)))) rfl (e_neq (m := errS p) (n := 0) rfl rfl) ?_
  refine l_val (v := Value.bool (!(decide ((errS p) = 0)))) rfl (e_move rfl) ?_
  refine l_val (v := Value.int .i64 (errS q)) (want_y rfl rfl rfl (congrArg Bool.not (decide_eq_true q79))) (e_move rfl) ?_
  refine l_val (v := Value.bool (!(decide ((errS q) = 0)))) (want_y rfl rfl rfl (congrArg Bool.not (decide_eq_true q79))) (e_neq (m := errS q) (n := 0) rfl rfl) ?_
  refine l_val (v := Value.bool (!(decide ((errS q) = 0)))) rfl (e_pick_f rfl (congrArg Bool.not (decide_eq_true q79)) rfl) ?_
  refine l_val (v := Value.bool (!(decide ((errS q) = 0)))) rfl (e_move rfl) ?_
  by_cases q151 : (errS q) = 0
  ·
   refine l_val (v := q_v) (want_y rfl rfl rfl (congrArg Bool.not (decide_eq_true q151))) (e_move rfl) ?_
   have C84 : Chg (inl [5, 6]) _ _ _ _ := (hb58.n).seq ((hb60.n).seq ((hb63.n).seq ((hb65.n).seq ((ch67.n).seq ((ch72.n).seq ((ch77.l rfl).seq (ch80.l rfl)))))))
   replace r_q_v := r_q_v.chg C84 (is_nl rfl)
   refine l_val (v := Value.int .i64 (List.length q : Int)) (want_y rfl rfl rfl (congrArg Bool.not (decide_eq_true q151))) (e_len Try.underlying25 rfl r_q_v) ?_
   refine l_val (v := Value.bool (decide ((List.length q : Int) = 0))) (want_y rfl rfl rfl (congrArg Bool.not (decide_eq_true q151))) (e_eql (m := (List.length q : Int)) (n := 0) rfl rfl) ?_
   refine l_val (v := Value.bool (decide ((List.length q : Int) = 0))) rfl (e_pick_f rfl (congrArg Bool.not (decide_eq_true q151)) rfl) ?_
   refine l_nil ?_
   by_cases p22 : (List.length q : Int) = 0
   ·
    obtain ⟨y6, y7⟩ := x6 (.inr p22)
    refine run_cond_t rfl (decide_eq_true p22) ?_
    refine run_seq (run_region rfl ?_)
    refine l_val (v := Value.int .i64 ((aptR p q).2)) rfl (e_move rfl) ?_
    refine l_val (v := Value.bool (decide (((aptR p q).2) = 1))) rfl (e_eql (m := (aptR p q).2) (n := 1) rfl rfl) ?_
    refine l_val (v := Value.bool (decide (((aptR p q).2) = 1))) rfl (e_move rfl) ?_
    have q158 : ((aptR p q).2) = 1 := by first | exact x1 | exact x2 (by assumption) | exact y1 | exact y2 | exact y3 | exact y4 | exact y5 | exact y6 | exact y7 | (rw [y4]; simp; done)
    refine l_val (v := Value.bool ((aptR p q).1)) (want_y rfl rfl rfl (decide_eq_true q158)) (e_move rfl) ?_
    refine l_val (v := Value.bool (!((aptR p q).1))) (want_y rfl rfl rfl (decide_eq_true q158)) (e_not (b := ((aptR p q).1)) rfl) ?_
    refine l_val (v := Value.bool (!((aptR p q).1))) rfl (e_pick_t rfl (decide_eq_true q158) rfl) ?_
    refine l_val (v := Value.bool (!((aptR p q).1))) rfl (e_assign rfl) ?_
    refine l_nil ?_
    refine run_ret (vs := [Value.bool (!((aptR p q).1))]) Try.func11 (.tmp rfl .nil) ?_
    -- return 3
    have e0 : (!((aptR p q).1) : Bool) = (true) := by
      first
        | rfl
        | (rw [y5]; rfl)
        | (rw [y7]; rfl)
        | exact decide_eq_true y7
        | exact (decide_eq_true y7).symm
    have C85 : Chg (inl [3, 4, 5, 6]) _ _ _ _ := (hb2.n).seq ((hb6.n).seq ((hb8.n).seq ((ch15.n).seq ((ch23.n).seq ((hb26.n).seq ((hb28.n).seq ((hb30.n).seq ((ch32.n).seq ((ch37.n).seq ((ch42.l rfl).seq ((ch45.l rfl).seq ((hb50.n).seq ((hb55.n).seq ((hb58.n).seq ((hb60.n).seq ((hb63.n).seq ((hb65.n).seq ((ch67.n).seq ((ch72.n).seq ((ch77.l rfl).seq (ch80.l rfl)))))))))))))))))))))
    replace hbase := hbase.chg C85 (is_nl rfl)
    exact ⟨(congrArg (a₁ := !((aptR p q).1)) (fun (z0 : Bool) => Ending.returned (Value.bool z0)) e0), hbase.below⟩
   obtain ⟨y6, y7⟩ := x7 (by assumption) q151 p14 p22
   refine run_cond_f rfl (decide_eq_false p22) ?_
   refine run_skip ?_
   refine run_seq (run_region rfl ?_)
   refine l_val (v := Value.int .i64 ((aptR p q).2)) rfl (e_move rfl) ?_
   refine l_val (v := Value.bool (decide (((aptR p q).2) = 0))) rfl (e_eql (m := (aptR p q).2) (n := 0) rfl rfl) ?_
   refine l_val (v := Value.bool (decide (((aptR p q).2) = 0))) rfl (e_move rfl) ?_
   have q164 : ((aptR p q).2) = 0 := by first | exact x1 | exact x2 (by assumption) | exact y1 | exact y2 | exact y3 | exact y4 | exact y5 | exact y6 | exact y7 | (rw [y4]; simp; done)
   refine l_val (v := Value.bool ((aptR p q).1)) (want_y rfl rfl rfl (decide_eq_true q164)) (e_move rfl) ?_
   refine l_val (v := p_v) (want_y rfl rfl rfl (decide_eq_true q164)) (e_move rfl) ?_
   refine l_val (v := q_v) (want_y rfl rfl rfl (decide_eq_true q164)) (e_move rfl) ?_
   have C86 : Chg (inl [5, 6]) _ _ _ _ := (hb65.n).seq ((ch67.n).seq ((ch72.n).seq ((ch77.l rfl).seq (ch80.l rfl))))
   replace r_p_v := r_p_v.chg C86 (is_nl rfl)
   refine l_op (want_y rfl rfl rfl (decide_eq_true q164)) ?_
   refine o_call (v := Value.bool (decide (appP p q))) (e_call (vals := [p_v, q_v]) Try.func34 bd34_gz nm34_gz rfl) (D2Apart_ok w79 p p_v (r_p_v).ro q q_v (r_q_v).ro (by exact errS_ok (ps := p) (by assumption)) (by exact errS_ok (ps := q) (by assumption)) (by omega) (by omega)) ?_
   intro w87 hb88
   replace hb88 := chg_below hb88 g74
   refine l_val (v := Value.bool (decide (((aptR p q).1) = (decide (appP p q))))) (want_y rfl rfl rfl (decide_eq_true q164)) (e_eql_bool Try.underlying4 rfl rfl) ?_
   refine l_val (v := Value.bool (decide (((aptR p q).1) = (decide (appP p q))))) rfl (e_pick_t rfl (decide_eq_true q164) rfl) ?_
   refine l_val (v := Value.bool (decide (((aptR p q).1) = (decide (appP p q))))) rfl (e_assign rfl) ?_
   refine l_nil ?_
   refine run_ret (vs := [Value.bool (decide (((aptR p q).1) = (decide (appP p q))))]) Try.func11 (.tmp rfl .nil) ?_
   -- return 4
   have e0 : (decide (((aptR p q).1) = (decide (appP p q))) : Bool) = (true) := by
     first
       | rfl
       | (rw [y5]; rfl)
       | (rw [y7]; rfl)
       | exact decide_eq_true y7
       | exact (decide_eq_true y7).symm
   have C89 : Chg (inl [3, 4, 5, 6]) _ _ _ _ := (hb2.n).seq ((hb6.n).seq ((hb8.n).seq ((ch15.n).seq ((ch23.n).seq ((hb26.n).seq ((hb28.n).seq ((hb30.n).seq ((ch32.n).seq ((ch37.n).seq ((ch42.l rfl).seq ((ch45.l rfl).seq ((hb50.n).seq ((hb55.n).seq ((hb58.n).seq ((hb60.n).seq ((hb63.n).seq ((hb65.n).seq ((ch67.n).seq ((ch72.n).seq ((ch77.l rfl).seq ((ch80.l rfl).seq (hb88.n))))))))))))))))))))))
   replace hbase := hbase.chg C89 (is_nl rfl)
   exact ⟨(congrArg (a₁ := decide (((aptR p q).1) = (decide (appP p q)))) (fun (z0 : Bool) => Ending.returned (Value.bool z0)) e0), hbase.below⟩
  obtain ⟨y6, y7⟩ := x6 (.inl (.inr q151))
  refine l_skip (want_n rfl rfl rfl (congrArg Bool.not (decide_eq_false q151))) ?_
  refine l_skip (want_n rfl rfl rfl (congrArg Bool.not (decide_eq_false q151))) ?_
  refine l_skip (want_n rfl rfl rfl (congrArg Bool.not (decide_eq_false q151))) ?_
  refine l_val (v := Value.bool true) rfl (e_pick_t rfl (congrArg Bool.not (decide_eq_false q151)) rfl) ?_
  refine l_nil ?_
  refine run_cond_t rfl rfl ?_
  refine run_seq (run_region rfl ?_)
  refine l_val (v := Value.int .i64 ((aptR p q).2)) rfl (e_move rfl) ?_
  refine l_val (v := Value.bool (decide (((aptR p q).2) = 1))) rfl (e_eql (m := (aptR p q).2) (n := 1) rfl rfl) ?_
  refine l_val (v := Value.bool (decide (((aptR p q).2) = 1))) rfl (e_move rfl) ?_
  have q158_90 : ((aptR p q).2) = 1 := by first | exact x1 | exact x2 (by assumption) | exact y1 | exact y2 | exact y3 | exact y4 | exact y5 | exact y6 | exact y7 | (rw [y4]; simp; done)
  refine l_val (v := Value.bool ((aptR p q).1)) (want_y rfl rfl rfl (decide_eq_true q158_90)) (e_move rfl) ?_
  refine l_val (v := Value.bool (!((aptR p q).1))) (want_y rfl rfl rfl (decide_eq_true q158_90)) (e_not (b := ((aptR p q).1)) rfl) ?_
  refine l_val (v := Value.bool (!((aptR p q).1))) rfl (e_pick_t rfl (decide_eq_true q158_90) rfl) ?_
  refine l_val (v := Value.bool (!((aptR p q).1))) rfl (e_assign rfl) ?_
  refine l_nil ?_
  refine run_ret (vs := [Value.bool (!((aptR p q).1))]) Try.func11 (.tmp rfl .nil) ?_
  -- return 5
  have e0 : (!((aptR p q).1) : Bool) = (true) := by
    first
      | rfl
      | (rw [y5]; rfl)
      | (rw [y7]; rfl)
      | exact decide_eq_true y7
      | exact (decide_eq_true y7).symm
  have C91 : Chg (inl [3, 4, 5, 6]) _ _ _ _ := (hb2.n).seq ((hb6.n).seq ((hb8.n).seq ((ch15.n).seq ((ch23.n).seq ((hb26.n).seq ((hb28.n).seq ((hb30.n).seq ((ch32.n).seq ((ch37.n).seq ((ch42.l rfl).seq ((ch45.l rfl).seq ((hb50.n).seq ((hb55.n).seq ((hb58.n).seq ((hb60.n).seq ((hb63.n).seq ((hb65.n).seq ((ch67.n).seq ((ch72.n).seq ((ch77.l rfl).seq (ch80.l rfl)))))))))))))))))))))
  replace hbase := hbase.chg C91 (is_nl rfl)
  exact ⟨(congrArg (a₁ := !((aptR p q).1)) (fun (z0 : Bool) => Ending.returned (Value.bool z0)) e0), hbase.below⟩
 obtain ⟨y1, y2⟩ := x4 (fun h => q79 h.1)
 obtain ⟨y6, y7⟩ := x6 (.inl (.inl q79))
 refine l_skip (want_n rfl rfl rfl (decide_eq_false q79)) ?_
 refine l_skip (want_n rfl rfl rfl (decide_eq_false q79)) ?_
 refine l_skip (want_n rfl rfl rfl (decide_eq_false q79)) ?_
 refine l_skip (want_n rfl rfl rfl (decide_eq_false q79)) ?_
 refine l_val (v := Value.bool false) (want_y rfl rfl rfl (congrArg Bool.not (decide_eq_true q76))) (e_pick_f rfl (decide_eq_false q79) rfl) ?_
 refine l_val (v := Value.bool false) rfl (e_pick_f rfl (congrArg Bool.not (decide_eq_true q76)) rfl) ?_
 refine l_nil ?_
 refine run_cond_f rfl rfl ?_
 refine run_skip ?_
 refine run_seq ?_
 clear r16
 clear r24
 refine run_region rfl ?_
 refine l_val (v := p_v) rfl (e_move rfl) ?_
 replace r_p_v := (r_p_v.chg hb55 (not_no _)).chg hb58 (not_no _)
 refine l_val (v := Value.int .i64 (List.length p : Int)) rfl (e_len Try.underlying25 rfl r_p_v) ?_
 refine l_val (v := Value.bool (decide ((List.length p : Int) = 0))) rfl (e_eql (m := (List.length p : Int)) (n := 0) rfl rfl) ?_
 refine l_val (v := Value.bool (decide ((List.length p : Int) = 0))) rfl (e_assign rfl) ?_
 refine l_nil (run_seq (run_seq (run_region rfl ?_)))
 refine l_val (v := Value.int .i64 (errS p)) rfl (e_move rfl) ?_
 refine l_val (v := Value.bool (decide ((errS p) = 0))) rfl (e_eql (m := errS p) (n := 0) rfl rfl) ?_
 refine l_val (v := Value.bool (decide ((errS p) = 0))) rfl (e_move rfl) ?_
 refine l_skip (want_n rfl rfl rfl (decide_eq_false q79)) ?_
 refine l_val (v := Value.bool false) rfl (e_pick_f rfl (decide_eq_false q79) rfl) ?_
 refine l_nil ?_
 refine run_cond_f rfl rfl ?_
 refine run_skip ?_
 refine run_seq (run_seq (run_region rfl ?_))
 refine l_val (v := Value.int .i64 ((simR p).2)) rfl (e_move rfl) ?_
 refine l_val (v := Value.int .i64 (errS p)) rfl (e_move rfl) ?_
 refine l_val (v := Value.bool (!(decide (((simR p).2) = (errS p))))) rfl (e_neq (m := (simR p).2) (n := errS p) rfl rfl) ?_
 refine l_val (v := Value.bool (!(decide (((simR p).2) = (errS p))))) rfl (e_move rfl) ?_
 have q115_92 : ((simR p).2) = (errS p) := by first | exact x1 | exact x2 (by assumption) | exact y1 | exact y2 | exact y3 | exact y4 | exact y5 | exact y6 | exact y7 | (rw [y4]; simp; done)
 refine l_val (v := Value.int .i64 ((boxR p).2.2)) (want_y rfl rfl rfl (congrArg Bool.not (decide_eq_true q115_92))) (e_move rfl) ?_
 refine l_val (v := Value.int .i64 (errS p)) (want_y rfl rfl rfl (congrArg Bool.not (decide_eq_true q115_92))) (e_move rfl) ?_
 refine l_val (v := Value.bool (!(decide (((boxR p).2.2) = (errS p))))) (want_y rfl rfl rfl (congrArg Bool.not (decide_eq_true q115_92))) (e_neq (m := (boxR p).2.2) (n := errS p) rfl rfl) ?_
 refine l_val (v := Value.bool (!(decide (((boxR p).2.2) = (errS p))))) rfl (e_pick_f rfl (congrArg Bool.not (decide_eq_true q115_92)) rfl) ?_
 refine l_val (v := Value.bool (!(decide (((boxR p).2.2) = (errS p))))) rfl (e_move rfl) ?_
 have q120_93 : ((boxR p).2.2) = (errS p) := by first | exact x1 | exact x2 (by assumption) | exact y1 | exact y2 | exact y3 | exact y4 | exact y5 | exact y6 | exact y7 | (rw [y4]; simp; done)
 refine l_val (v := Value.int .i64 (errS p)) (want_y rfl rfl rfl (congrArg Bool.not (decide_eq_true q120_93))) (e_move rfl) ?_
 refine l_val (v := Value.bool (decide ((errS p) = 0))) (want_y rfl rfl rfl (congrArg Bool.not (decide_eq_true q120_93))) (e_eql (m := errS p) (n := 0) rfl rfl) ?_
 refine l_val (v := Value.bool (decide ((errS p) = 0))) (want_y rfl rfl rfl (congrArg Bool.not (decide_eq_true q120_93))) (e_move rfl) ?_
 refine l_skip (want_n rfl rfl rfl (decide_eq_false q79)) ?_
 refine l_skip (want_n rfl rfl rfl (decide_eq_false q79)) ?_
 refine l_skip (want_n rfl rfl rfl (decide_eq_false q79)) ?_
 refine l_skip (want_n rfl rfl rfl (decide_eq_false q79)) ?_
 refine l_val (v := Value.bool false) (want_y rfl rfl rfl (congrArg Bool.not (decide_eq_true q120_93))) (e_pick_f rfl (decide_eq_false q79) rfl) ?_
 refine l_val (v := Value.bool false) rfl (e_pick_f rfl (congrArg Bool.not (decide_eq_true q120_93)) rfl) ?_
 refine l_nil ?_
 refine run_cond_f rfl rfl ?_
 refine run_skip ?_
 refine run_seq (run_seq (run_region rfl ?_))
 refine l_val (v := Value.int .i64 (errS p)) rfl (e_move rfl) ?_
 refine l_val (v := Value.bool (decide ((errS p) = 0))) rfl (e_eql (m := errS p) (n := 0) rfl rfl) ?_
 refine l_nil ?_
 refine run_cond_f rfl (decide_eq_false q79) ?_
 refine run_skip ?_
 refine run_seq (run_seq ?_)
 clear bx43
 clear bx46
 refine run_region rfl ?_
 refine l_val (v := Value.int .i64 (errS p)) rfl (e_move rfl) ?_
 refine l_val (v := Value.bool (!(decide ((errS p) = 0)))) rfl (e_neq (m := errS p) (n := 0) rfl rfl) ?_
 refine l_val (v := Value.bool (!(decide ((errS p) = 0)))) rfl (e_move rfl) ?_
 refine l_skip (want_n rfl rfl rfl (congrArg Bool.not (decide_eq_false q79))) ?_
 refine l_skip (want_n rfl rfl rfl (congrArg Bool.not (decide_eq_false q79))) ?_
 refine l_val (v := Value.bool true) rfl (e_pick_t rfl (congrArg Bool.not (decide_eq_false q79)) rfl) ?_
 refine l_val (v := Value.bool true) rfl (e_move rfl) ?_
 refine l_skip (want_n rfl rfl rfl rfl) (l_skip (want_n rfl rfl rfl rfl) (l_skip (want_n rfl rfl rfl rfl) ?_))
 refine l_val (v := Value.bool true) rfl (e_pick_t rfl rfl rfl) ?_
 refine l_nil ?_
 refine run_cond_t rfl rfl ?_
 refine run_seq (run_region rfl ?_)
 refine l_val (v := Value.int .i64 ((aptR p q).2)) rfl (e_move rfl) ?_
 refine l_val (v := Value.bool (decide (((aptR p q).2) = 1))) rfl (e_eql (m := (aptR p q).2) (n := 1) rfl rfl) ?_
 refine l_val (v := Value.bool (decide (((aptR p q).2) = 1))) rfl (e_move rfl) ?_
 have q158_94 : ((aptR p q).2) = 1 := by first | exact x1 | exact x2 (by assumption) | exact y1 | exact y2 | exact y3 | exact y4 | exact y5 | exact y6 | exact y7 | (rw [y4]; simp; done)
 refine l_val (v := Value.bool ((aptR p q).1)) (want_y rfl rfl rfl (decide_eq_true q158_94)) (e_move rfl) ?_
 refine l_val (v := Value.bool (!((aptR p q).1))) (want_y rfl rfl rfl (decide_eq_true q158_94)) (e_not (b := ((aptR p q).1)) rfl) ?_
 refine l_val (v := Value.bool (!((aptR p q).1))) rfl (e_pick_t rfl (decide_eq_true q158_94) rfl) ?_
 refine l_val (v := Value.bool (!((aptR p q).1))) rfl (e_assign rfl) ?_
 refine l_nil ?_
 refine run_ret (vs := [Value.bool (!((aptR p q).1))]) Try.func11 (.tmp rfl .nil) ?_
 -- return 6
 have e0 : (!((aptR p q).1) : Bool) = (true) := by
   first
     | rfl
     | (rw [y5]; rfl)
     | (rw [y7]; rfl)
     | exact decide_eq_true y7
     | exact (decide_eq_true y7).symm
 have C95 : Chg (inl [3, 4]) _ _ _ _ := (hb2.n).seq ((hb6.n).seq ((hb8.n).seq ((ch15.n).seq ((ch23.n).seq ((hb26.n).seq ((hb28.n).seq ((hb30.n).seq ((ch32.n).seq ((ch37.n).seq ((ch42.l rfl).seq ((ch45.l rfl).seq ((hb50.n).seq ((hb55.n).seq (hb58.n))))))))))))))
 replace hbase := hbase.chg C95 (is_nl rfl)
 exact ⟨(congrArg (a₁ := !((aptR p q).1)) (fun (z0 : Bool) => Ending.returned (Value.bool z0)) e0), hbase.below⟩
end TL
