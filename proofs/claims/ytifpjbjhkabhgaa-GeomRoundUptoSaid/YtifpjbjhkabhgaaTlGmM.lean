import Derived.Test.YtifpjbjhkabhgaaTlGmA
import Derived.Test.YtifpjbjhkabhgaaTlGmL
import Derived.Test.YtifpjbjhkabhgaaTlGeomY
import Derived.Test.YtifpjbjhkabhgaaProg
import Derived.Test.YtifpjbjhkabhgaaTlNet2
import Derived.Test.YtifpjbjhkabhgaaTlEq
import Derived.Test.YtifpjbjhkabhgaaTlHold
import Derived.Test.YtifpjbjhkabhgaaTlDraw
import Derived.Test.YtifpjbjhkabhgaaTlMap
set_option linter.all false
set_option maxRecDepth 20000
namespace TL
open Go Go.Proofs
theorem mixed_gm : Try.prog.follows .mixedOrders = true := by kernel_rfl
theorem tp23_gm : Tp Try.prog 23 true 2 16 (.agg #[.int .i64 0, .int .i64 0]) := Tp.of (by kernel_rfl)
theorem bd25_gm : Try.f25.body.isNone = false := rfl
theorem nm25_gm : (Try.f25.name == "runtime.NumGoroutine") = false := by decide +kernel
theorem bd35_gm : Try.f35.body.isNone = false := rfl
theorem nm35_gm : (Try.f35.name == "runtime.NumGoroutine") = false := by decide +kernel
theorem bd36_gm : Try.f36.body.isNone = false := rfl
theorem nm36_gm : (Try.f36.name == "runtime.NumGoroutine") = false := by decide +kernel
theorem bd46_gm : Try.f46.body.isNone = false := rfl
theorem nm46_gm : (Try.f46.name == "runtime.NumGoroutine") = false := by decide +kernel
theorem bd55_gm : Try.f55.body.isNone = false := rfl
theorem nm55_gm : (Try.f55.name == "runtime.NumGoroutine") = false := by decide +kernel

set_option maxHeartbeats 2000000 in
theorem meet_ok (w0 : World) (a : (Int) × (Int)) (b : (Int) × (Int)) (c : (Int) × (Int)) (d : (Int) × (Int)) (ha : bdP a) (hb : bdP b) (hc : bdP c) (hd : bdP d) :
    Calls Try.prog 36 #[Value.agg (List.toArray [Value.int .i64 a.1, Value.int .i64 a.2]), Value.agg (List.toArray [Value.int .i64 b.1, Value.int .i64 b.2]), Value.agg (List.toArray [Value.int .i64 c.1, Value.int .i64 c.2]), Value.agg (List.toArray [Value.int .i64 d.1, Value.int .i64 d.2])] w0 (fun ee w => ee = .returned (Value.int .i64 (meetP a b c d)) ∧ Bel w0.heap.size w0 w) := by
 refine calls_of_run Try.func36 rfl (Nat.le_of_ble_eq_true rfl) ?_
 have hbase := Base.start w0
 have k1 := trn_abs a b c
 have k2 := trn_abs a b d
 have k3 := trn_abs c d a
 have k4 := trn_abs c d b
 have m1 := mul_bd (x := trn a b c) (y := trn a b d) (by omega) (by omega)
 have m2 := mul_bd (x := trn c d a) (y := trn c d b) (by omega) (by omega)
 refine run_seq (run_region rfl (l_op rfl ?_))
 refine o_box c0 (is 1) (1, 0) rfl rfl ?_
 intro g4 w1 b3 ch2 bx5
 replace bx5 : Bx g4 (is 1) w1 b3 [Value.int .i64 a.1, Value.int .i64 a.2] := bx5
 refine l_op rfl ?_
 refine o_box g4 (is 2) (2, 0) rfl rfl ?_
 intro g9 w6 b8 ch7 bx10
 replace bx10 : Bx g9 (is 2) w6 b8 [Value.int .i64 b.1, Value.int .i64 b.2] := bx10
 refine l_op rfl ?_
 refine o_box g9 (is 3) (3, 0) rfl rfl ?_
 intro g14 w11 b13 ch12 bx15
 replace bx15 : Bx g14 (is 3) w11 b13 [Value.int .i64 c.1, Value.int .i64 c.2] := bx15
 refine l_op rfl ?_
 refine o_box g14 (is 4) (4, 0) rfl rfl ?_
 intro g19 w16 b18 ch17 bx20
 replace bx20 : Bx g19 (is 4) w16 b18 [Value.int .i64 d.1, Value.int .i64 d.2] := bx20
 refine l_val (v := Value.int .i64 0) rfl (e_assign rfl) ?_
 refine l_nil (run_seq ?_)
 refine region_q g19 rfl mixed_gm (by kernel_rfl) ?_
 intro w22 ch21
 have C23 : Chg (inl []) _ _ _ _ := (ch7.n).seq ((ch12.n).seq ((ch17.n).seq (ch21.n)))
 replace bx5 := bx5.chg C23 (is_nl rfl)
 refine q_val (v := Value.agg (List.toArray [Value.int .i64 a.1, Value.int .i64 a.2])) rfl (fun w' hw' => e_load_bxN (ds := [Value.int .i64 a.1, Value.int .i64 a.2]) tp23_gm rfl (bx5.bel hw') rfl rfl) ?_
 have C24 : Chg (inl []) _ _ _ _ := (ch12.n).seq ((ch17.n).seq (ch21.n))
 replace bx10 := bx10.chg C24 (is_nl rfl)
 refine q_val (v := Value.agg (List.toArray [Value.int .i64 b.1, Value.int .i64 b.2])) rfl (fun w' hw' => e_load_bxN (ds := [Value.int .i64 b.1, Value.int .i64 b.2]) tp23_gm rfl (bx10.bel hw') rfl rfl) ?_
 replace bx15 := (bx15.chg ch17 (not_no _)).chg ch21 (not_no _)
 refine q_val (v := Value.agg (List.toArray [Value.int .i64 c.1, Value.int .i64 c.2])) rfl (fun w' hw' => e_load_bxN (ds := [Value.int .i64 c.1, Value.int .i64 c.2]) tp23_gm rfl (bx15.bel hw') rfl rfl) ?_
 refine q_call (v := Value.int .i64 (trn a b c)) rfl (fun w' hw' => e_call (vals := [Value.agg (List.toArray [Value.int .i64 a.1, Value.int .i64 a.2]), Value.agg (List.toArray [Value.int .i64 b.1, Value.int .i64 b.2]), Value.agg (List.toArray [Value.int .i64 c.1, Value.int .i64 c.2])]) Try.func35 bd35_gm nm35_gm rfl) (fun w' hw' => (turn_ok w' a b c (by assumption) (by assumption) (by assumption)).mono fun e w2 h2 => ⟨h2.1, hw'.trans (h2.2.mono hw'.size)⟩) ?_
 refine q_val (v := Value.agg (List.toArray [Value.int .i64 a.1, Value.int .i64 a.2])) rfl (fun w' hw' => e_load_bxN (ds := [Value.int .i64 a.1, Value.int .i64 a.2]) tp23_gm rfl (bx5.bel hw') rfl rfl) ?_
 refine q_val (v := Value.agg (List.toArray [Value.int .i64 b.1, Value.int .i64 b.2])) rfl (fun w' hw' => e_load_bxN (ds := [Value.int .i64 b.1, Value.int .i64 b.2]) tp23_gm rfl (bx10.bel hw') rfl rfl) ?_
 replace bx20 := bx20.chg ch21 (not_no _)
 refine q_val (v := Value.agg (List.toArray [Value.int .i64 d.1, Value.int .i64 d.2])) rfl (fun w' hw' => e_load_bxN (ds := [Value.int .i64 d.1, Value.int .i64 d.2]) tp23_gm rfl (bx20.bel hw') rfl rfl) ?_
 refine q_call (v := Value.int .i64 (trn a b d)) rfl (fun w' hw' => e_call (vals := [Value.agg (List.toArray [Value.int .i64 a.1, Value.int .i64 a.2]), Value.agg (List.toArray [Value.int .i64 b.1, Value.int .i64 b.2]), Value.agg (List.toArray [Value.int .i64 d.1, Value.int .i64 d.2])]) Try.func35 bd35_gm nm35_gm rfl) (fun w' hw' => (turn_ok w' a b d (by assumption) (by assumption) (by assumption)).mono fun e w2 h2 => ⟨h2.1, hw'.trans (h2.2.mono hw'.size)⟩) ?_
 refine q_val (v := Value.int .i64 (trn a b c)) rfl (fun w' hw' => e_assign rfl) ?_
 refine q_val (v := Value.int .i64 (trn a b d)) rfl (fun w' hw' => e_assign rfl) ?_
 refine q_nil ?_
 intro w25 hc26
 replace hc26 := chg_below hc26 g19
 refine run_seq ?_
 refine region_q g19 rfl mixed_gm (by kernel_rfl) ?_
 intro w28 ch27
 replace bx15 := (bx15.chg hc26 (not_no _)).chg ch27 (not_no _)
 refine q_val (v := Value.agg (List.toArray [Value.int .i64 c.1, Value.int .i64 c.2])) rfl (fun w' hw' => e_load_bxN (ds := [Value.int .i64 c.1, Value.int .i64 c.2]) tp23_gm rfl (bx15.bel hw') rfl rfl) ?_
 replace bx20 := (bx20.chg hc26 (not_no _)).chg ch27 (not_no _)
 refine q_val (v := Value.agg (List.toArray [Value.int .i64 d.1, Value.int .i64 d.2])) rfl (fun w' hw' => e_load_bxN (ds := [Value.int .i64 d.1, Value.int .i64 d.2]) tp23_gm rfl (bx20.bel hw') rfl rfl) ?_
 replace bx5 := (bx5.chg hc26 (not_no _)).chg ch27 (not_no _)
 refine q_val (v := Value.agg (List.toArray [Value.int .i64 a.1, Value.int .i64 a.2])) rfl (fun w' hw' => e_load_bxN (ds := [Value.int .i64 a.1, Value.int .i64 a.2]) tp23_gm rfl (bx5.bel hw') rfl rfl) ?_
 refine q_call (v := Value.int .i64 (trn c d a)) rfl (fun w' hw' => e_call (vals := [Value.agg (List.toArray [Value.int .i64 c.1, Value.int .i64 c.2]), Value.agg (List.toArray [Value.int .i64 d.1, Value.int .i64 d.2]), Value.agg (List.toArray [Value.int .i64 a.1, Value.int .i64 a.2])]) Try.func35 bd35_gm nm35_gm rfl) (fun w' hw' => (turn_ok w' c d a (by assumption) (by assumption) (by assumption)).mono fun e w2 h2 => ⟨h2.1, hw'.trans (h2.2.mono hw'.size)⟩) ?_
 refine q_val (v := Value.agg (List.toArray [Value.int .i64 c.1, Value.int .i64 c.2])) rfl (fun w' hw' => e_load_bxN (ds := [Value.int .i64 c.1, Value.int .i64 c.2]) tp23_gm rfl (bx15.bel hw') rfl rfl) ?_
 refine q_val (v := Value.agg (List.toArray [Value.int .i64 d.1, Value.int .i64 d.2])) rfl (fun w' hw' => e_load_bxN (ds := [Value.int .i64 d.1, Value.int .i64 d.2]) tp23_gm rfl (bx20.bel hw') rfl rfl) ?_
 replace bx10 := (bx10.chg hc26 (not_no _)).chg ch27 (not_no _)
 refine q_val (v := Value.agg (List.toArray [Value.int .i64 b.1, Value.int .i64 b.2])) rfl (fun w' hw' => e_load_bxN (ds := [Value.int .i64 b.1, Value.int .i64 b.2]) tp23_gm rfl (bx10.bel hw') rfl rfl) ?_
 refine q_call (v := Value.int .i64 (trn c d b)) rfl (fun w' hw' => e_call (vals := [Value.agg (List.toArray [Value.int .i64 c.1, Value.int .i64 c.2]), Value.agg (List.toArray [Value.int .i64 d.1, Value.int .i64 d.2]), Value.agg (List.toArray [Value.int .i64 b.1, Value.int .i64 b.2])]) Try.func35 bd35_gm nm35_gm rfl) (fun w' hw' => (turn_ok w' c d b (by assumption) (by assumption) (by assumption)).mono fun e w2 h2 => ⟨h2.1, hw'.trans (h2.2.mono hw'.size)⟩) ?_
 refine q_val (v := Value.int .i64 (trn c d a)) rfl (fun w' hw' => e_assign rfl) ?_
 refine q_val (v := Value.int .i64 (trn c d b)) rfl (fun w' hw' => e_assign rfl) ?_
 refine q_nil ?_
 intro w29 hc30
 replace hc30 := chg_below hc30 g19
 refine run_seq ?_
 refine run_block ?_
 refine run_seq (run_region rfl ?_)
 refine l_val (v := Value.int .i64 (trn a b c)) rfl (e_move rfl) ?_
 refine l_val (v := Value.bool (decide ((trn a b c) = 0))) rfl (e_eql (m := trn a b c) (n := 0) rfl rfl) ?_
 refine l_val (v := Value.bool (decide ((trn a b c) = 0))) rfl (e_move rfl) ?_
 by_cases q32 : (trn a b c) = 0
 ·
  refine l_val (v := Value.int .i64 (trn a b d)) (want_y rfl rfl rfl (decide_eq_true q32)) (e_move rfl) ?_
  refine l_val (v := Value.bool (decide ((trn a b d) = 0))) (want_y rfl rfl rfl (decide_eq_true q32)) (e_eql (m := trn a b d) (n := 0) rfl rfl) ?_
  refine l_val (v := Value.bool (decide ((trn a b d) = 0))) rfl (e_pick_t rfl (decide_eq_true q32) rfl) ?_
  refine l_val (v := Value.bool (decide ((trn a b d) = 0))) rfl (e_move rfl) ?_
  by_cases q36 : (trn a b d) = 0
  ·
   refine l_val (v := Value.int .i64 (trn c d a)) (want_y rfl rfl rfl (decide_eq_true q36)) (e_move rfl) ?_
   refine l_val (v := Value.bool (decide ((trn c d a) = 0))) (want_y rfl rfl rfl (decide_eq_true q36)) (e_eql (m := trn c d a) (n := 0) rfl rfl) ?_
   refine l_val (v := Value.bool (decide ((trn c d a) = 0))) rfl (e_pick_t rfl (decide_eq_true q36) rfl) ?_
   refine l_val (v := Value.bool (decide ((trn c d a) = 0))) rfl (e_move rfl) ?_
   by_cases q40 : (trn c d a) = 0
   ·
    refine l_val (v := Value.int .i64 (trn c d b)) (want_y rfl rfl rfl (decide_eq_true q40)) (e_move rfl) ?_
    refine l_val (v := Value.bool (decide ((trn c d b) = 0))) (want_y rfl rfl rfl (decide_eq_true q40)) (e_eql (m := trn c d b) (n := 0) rfl rfl) ?_
    refine l_val (v := Value.bool (decide ((trn c d b) = 0))) rfl (e_pick_t rfl (decide_eq_true q40) rfl) ?_
    refine l_val (v := Value.bool (decide ((trn c d b) = 0))) rfl (e_assign rfl) ?_
    refine l_nil ?_
    by_cases p3 : (trn c d b) = 0
    ·
     refine run_cond_t rfl (decide_eq_true p3) ?_
     refine run_seq (run_region rfl ?_)
     replace bx5 := bx5.chg hc30 (not_no _)
     refine l_val (v := Value.agg (List.toArray [Value.int .i64 a.1, Value.int .i64 a.2])) rfl (e_load_bxN (ds := [Value.int .i64 a.1, Value.int .i64 a.2]) tp23_gm rfl bx5 rfl rfl) ?_
     replace bx10 := bx10.chg hc30 (not_no _)
     refine l_val (v := Value.agg (List.toArray [Value.int .i64 b.1, Value.int .i64 b.2])) rfl (e_load_bxN (ds := [Value.int .i64 b.1, Value.int .i64 b.2]) tp23_gm rfl bx10 rfl rfl) ?_
     replace bx15 := bx15.chg hc30 (not_no _)
     refine l_val (v := Value.agg (List.toArray [Value.int .i64 c.1, Value.int .i64 c.2])) rfl (e_load_bxN (ds := [Value.int .i64 c.1, Value.int .i64 c.2]) tp23_gm rfl bx15 rfl rfl) ?_
     replace bx20 := bx20.chg hc30 (not_no _)
     refine l_val (v := Value.agg (List.toArray [Value.int .i64 d.1, Value.int .i64 d.2])) rfl (e_load_bxN (ds := [Value.int .i64 d.1, Value.int .i64 d.2]) tp23_gm rfl bx20 rfl rfl) ?_
     refine l_op rfl ?_
     refine o_call (v := Value.int .i64 (lineP a b c d)) (e_call (vals := [Value.agg (List.toArray [Value.int .i64 a.1, Value.int .i64 a.2]), Value.agg (List.toArray [Value.int .i64 b.1, Value.int .i64 b.2]), Value.agg (List.toArray [Value.int .i64 c.1, Value.int .i64 c.2]), Value.agg (List.toArray [Value.int .i64 d.1, Value.int .i64 d.2])]) Try.func55 bd55_gm nm55_gm rfl) (line_ok w29 a b c d) ?_
     intro w31 hb32
     replace hb32 := chg_below hb32 g19
     refine l_val (v := Value.int .i64 (lineP a b c d)) rfl (e_assign rfl) ?_
     refine l_nil ?_
     refine run_ret (vs := [Value.int .i64 (lineP a b c d)]) Try.func36 (.tmp rfl .nil) ?_
     -- return 0
     have e0 : (lineP a b c d : Int) = (meetP a b c d) := by
       first
         | with_reducible exact meetP_line (by assumption) (by assumption) (by assumption) (by assumption)
         | with_reducible exact meetP_cross (by assumption) (by assumption)
         | ((with_reducible first | refine meetP_touch ?_ ?_ (by first | exact o1 ‹_› | exact o2 ‹_› | exact o3 ‹_› | exact o4 ‹_›) | refine meetP_apart ?_ ?_ (o5 ‹_› ‹_› ‹_› ‹_›)) <;> first | assumption | (rintro ⟨_, _, _, _⟩; contradiction) | (rintro ⟨_, _⟩; contradiction))
     have C33 : Chg (inl []) _ _ _ _ := (ch2.n).seq ((ch7.n).seq ((ch12.n).seq ((ch17.n).seq ((ch21.n).seq ((hc26.n).seq ((ch27.n).seq ((hc30.n).seq (hb32.n))))))))
     replace hbase := hbase.chg C33 (is_nl rfl)
     exact ⟨(congrArg (a₁ := lineP a b c d) (fun (z0 : Int) => Ending.returned (Value.int .i64 z0)) e0), hbase.below⟩
    refine run_cond_f rfl (decide_eq_false p3) ?_
    refine run_seq (run_region rfl ?_)
    refine l_val (v := Value.int .i64 (trn a b c)) rfl (e_move rfl) ?_
    refine l_val (v := Value.int .i64 (trn a b d)) rfl (e_move rfl) ?_
    refine l_val (v := Value.int .i64 ((trn a b c) * (trn a b d))) rfl (e_mul (m := trn a b c) (n := trn a b d) rfl rfl (by omega)) ?_
    refine l_val (v := Value.bool (decide (((trn a b c) * (trn a b d)) < 0))) rfl (e_lss (m := (trn a b c) * (trn a b d)) (n := 0) rfl rfl) ?_
    refine l_val (v := Value.bool (decide (((trn a b c) * (trn a b d)) < 0))) rfl (e_move rfl) ?_
    by_cases q54 : ((trn a b c) * (trn a b d)) < 0
    ·
     refine l_val (v := Value.int .i64 (trn c d a)) (want_y rfl rfl rfl (decide_eq_true q54)) (e_move rfl) ?_
     refine l_val (v := Value.int .i64 (trn c d b)) (want_y rfl rfl rfl (decide_eq_true q54)) (e_move rfl) ?_
     refine l_val (v := Value.int .i64 ((trn c d a) * (trn c d b))) (want_y rfl rfl rfl (decide_eq_true q54)) (e_mul (m := trn c d a) (n := trn c d b) rfl rfl (by omega)) ?_
     refine l_val (v := Value.bool (decide (((trn c d a) * (trn c d b)) < 0))) (want_y rfl rfl rfl (decide_eq_true q54)) (e_lss (m := (trn c d a) * (trn c d b)) (n := 0) rfl rfl) ?_
     refine l_val (v := Value.bool (decide (((trn c d a) * (trn c d b)) < 0))) rfl (e_pick_t rfl (decide_eq_true q54) rfl) ?_
     refine l_val (v := Value.bool (decide (((trn c d a) * (trn c d b)) < 0))) rfl (e_assign rfl) ?_
     refine l_nil ?_
     by_cases p5 : ((trn c d a) * (trn c d b)) < 0
     ·
      refine run_cond_t rfl (decide_eq_true p5) ?_
      refine run_seq ?_
      clear bx5
      clear bx10
      clear bx15
      clear bx20
      refine run_region rfl ?_
      refine l_val (v := Value.int .i64 1) rfl (e_assign rfl) ?_
      refine l_nil ?_
      refine run_ret (vs := [Value.int .i64 1]) Try.func36 (.tmp rfl .nil) ?_
      -- return 1
      have e0 : (1 : Int) = (meetP a b c d) := by
        first
          | with_reducible exact meetP_line (by assumption) (by assumption) (by assumption) (by assumption)
          | with_reducible exact meetP_cross (by assumption) (by assumption)
          | ((with_reducible first | refine meetP_touch ?_ ?_ (by first | exact o1 ‹_› | exact o2 ‹_› | exact o3 ‹_› | exact o4 ‹_›) | refine meetP_apart ?_ ?_ (o5 ‹_› ‹_› ‹_› ‹_›)) <;> first | assumption | (rintro ⟨_, _, _, _⟩; contradiction) | (rintro ⟨_, _⟩; contradiction))
      have C34 : Chg (inl []) _ _ _ _ := (ch2.n).seq ((ch7.n).seq ((ch12.n).seq ((ch17.n).seq ((ch21.n).seq ((hc26.n).seq ((ch27.n).seq (hc30.n)))))))
      replace hbase := hbase.chg C34 (is_nl rfl)
      exact ⟨(congrArg (a₁ := 1) (fun (z0 : Int) => Ending.returned (Value.int .i64 z0)) e0), hbase.below⟩
     refine run_cond_f rfl (decide_eq_false p5) ?_
     refine run_seq (run_region rfl ?_)
     replace bx5 := bx5.chg hc30 (not_no _)
     refine l_val (v := Value.agg (List.toArray [Value.int .i64 a.1, Value.int .i64 a.2])) rfl (e_load_bxN (ds := [Value.int .i64 a.1, Value.int .i64 a.2]) tp23_gm rfl bx5 rfl rfl) ?_
     replace bx10 := bx10.chg hc30 (not_no _)
     refine l_val (v := Value.agg (List.toArray [Value.int .i64 b.1, Value.int .i64 b.2])) rfl (e_load_bxN (ds := [Value.int .i64 b.1, Value.int .i64 b.2]) tp23_gm rfl bx10 rfl rfl) ?_
     replace bx15 := bx15.chg hc30 (not_no _)
     refine l_val (v := Value.agg (List.toArray [Value.int .i64 c.1, Value.int .i64 c.2])) rfl (e_load_bxN (ds := [Value.int .i64 c.1, Value.int .i64 c.2]) tp23_gm rfl bx15 rfl rfl) ?_
     refine l_op rfl ?_
     refine o_call (v := Value.bool (decide (onP a b c))) (e_call (vals := [Value.agg (List.toArray [Value.int .i64 a.1, Value.int .i64 a.2]), Value.agg (List.toArray [Value.int .i64 b.1, Value.int .i64 b.2]), Value.agg (List.toArray [Value.int .i64 c.1, Value.int .i64 c.2])]) Try.func46 bd46_gm nm46_gm rfl) (on_ok w29 a b c (by assumption) (by assumption) (by assumption)) ?_
     intro w35 hb36
     replace hb36 := chg_below hb36 g19
     refine l_val (v := Value.bool (decide (onP a b c))) rfl (e_move rfl) ?_
     by_cases q65 : (decide (onP a b c)) = true
     ·
      refine l_skip (want_n rfl rfl rfl q65) (l_skip (want_n rfl rfl rfl q65) (l_skip (want_n rfl rfl rfl q65) (l_skip (want_n rfl rfl rfl q65) ?_)))
      refine l_val (v := Value.bool true) rfl (e_pick_t rfl q65 rfl) ?_
      refine l_val (v := Value.bool true) rfl (e_move rfl) ?_
      refine l_skip (want_n rfl rfl rfl rfl) (l_skip (want_n rfl rfl rfl rfl) (l_skip (want_n rfl rfl rfl rfl) (l_skip (want_n rfl rfl rfl rfl) ?_)))
      refine l_val (v := Value.bool true) rfl (e_pick_t rfl rfl rfl) ?_
      refine l_val (v := Value.bool true) rfl (e_move rfl) ?_
      refine l_skip (want_n rfl rfl rfl rfl) (l_skip (want_n rfl rfl rfl rfl) (l_skip (want_n rfl rfl rfl rfl) (l_skip (want_n rfl rfl rfl rfl) ?_)))
      refine l_val (v := Value.bool true) rfl (e_pick_t rfl rfl rfl) ?_
      refine l_val (v := Value.bool true) rfl (e_assign rfl) ?_
      refine l_nil ?_
      refine run_cond_t rfl rfl ?_
      refine run_seq ?_
      clear bx5
      clear bx10
      clear bx15
      clear bx20
      refine run_region rfl ?_
      refine l_val (v := Value.int .i64 2) rfl (e_assign rfl) ?_
      refine l_nil ?_
      refine run_ret (vs := [Value.int .i64 2]) Try.func36 (.tmp rfl .nil) ?_
      -- return 2
      have e0 : (2 : Int) = (meetP a b c d) := by
        first
          | with_reducible exact meetP_line (by assumption) (by assumption) (by assumption) (by assumption)
          | with_reducible exact meetP_cross (by assumption) (by assumption)
          | ((with_reducible first | refine meetP_touch ?_ ?_ (by first | exact o1 ‹_› | exact o2 ‹_› | exact o3 ‹_› | exact o4 ‹_›) | refine meetP_apart ?_ ?_ (o5 ‹_› ‹_› ‹_› ‹_›)) <;> first | assumption | (rintro ⟨_, _, _, _⟩; contradiction) | (rintro ⟨_, _⟩; contradiction))
      have C37 : Chg (inl []) _ _ _ _ := (ch2.n).seq ((ch7.n).seq ((ch12.n).seq ((ch17.n).seq ((ch21.n).seq ((hc26.n).seq ((ch27.n).seq ((hc30.n).seq (hb36.n))))))))
      replace hbase := hbase.chg C37 (is_nl rfl)
      exact ⟨(congrArg (a₁ := 2) (fun (z0 : Int) => Ending.returned (Value.int .i64 z0)) e0), hbase.below⟩
     replace bx5 := bx5.chg hb36 (not_no _)
     refine l_val (v := Value.agg (List.toArray [Value.int .i64 a.1, Value.int .i64 a.2])) (want_y rfl rfl rfl (Bool.eq_false_iff.2 q65)) (e_load_bxN (ds := [Value.int .i64 a.1, Value.int .i64 a.2]) tp23_gm rfl bx5 rfl rfl) ?_
     replace bx10 := bx10.chg hb36 (not_no _)
     refine l_val (v := Value.agg (List.toArray [Value.int .i64 b.1, Value.int .i64 b.2])) (want_y rfl rfl rfl (Bool.eq_false_iff.2 q65)) (e_load_bxN (ds := [Value.int .i64 b.1, Value.int .i64 b.2]) tp23_gm rfl bx10 rfl rfl) ?_
     replace bx20 := (bx20.chg hc30 (not_no _)).chg hb36 (not_no _)
     refine l_val (v := Value.agg (List.toArray [Value.int .i64 d.1, Value.int .i64 d.2])) (want_y rfl rfl rfl (Bool.eq_false_iff.2 q65)) (e_load_bxN (ds := [Value.int .i64 d.1, Value.int .i64 d.2]) tp23_gm rfl bx20 rfl rfl) ?_
     refine l_op (want_y rfl rfl rfl (Bool.eq_false_iff.2 q65)) ?_
     refine o_call (v := Value.bool (decide (onP a b d))) (e_call (vals := [Value.agg (List.toArray [Value.int .i64 a.1, Value.int .i64 a.2]), Value.agg (List.toArray [Value.int .i64 b.1, Value.int .i64 b.2]), Value.agg (List.toArray [Value.int .i64 d.1, Value.int .i64 d.2])]) Try.func46 bd46_gm nm46_gm rfl) (on_ok w35 a b d (by assumption) (by assumption) (by assumption)) ?_
     intro w38 hb39
     replace hb39 := chg_below hb39 g19
     refine l_val (v := Value.bool (decide (onP a b d))) rfl (e_pick_f rfl (Bool.eq_false_iff.2 q65) rfl) ?_
     refine l_val (v := Value.bool (decide (onP a b d))) rfl (e_move rfl) ?_
     by_cases q71 : (decide (onP a b d)) = true
     ·
      refine l_skip (want_n rfl rfl rfl q71) (l_skip (want_n rfl rfl rfl q71) (l_skip (want_n rfl rfl rfl q71) (l_skip (want_n rfl rfl rfl q71) ?_)))
      refine l_val (v := Value.bool true) rfl (e_pick_t rfl q71 rfl) ?_
      refine l_val (v := Value.bool true) rfl (e_move rfl) ?_
      refine l_skip (want_n rfl rfl rfl rfl) (l_skip (want_n rfl rfl rfl rfl) (l_skip (want_n rfl rfl rfl rfl) (l_skip (want_n rfl rfl rfl rfl) ?_)))
      refine l_val (v := Value.bool true) rfl (e_pick_t rfl rfl rfl) ?_
      refine l_val (v := Value.bool true) rfl (e_assign rfl) ?_
      refine l_nil ?_
      refine run_cond_t rfl rfl ?_
      refine run_seq ?_
      clear bx5
      clear bx10
      clear bx15
      clear bx20
      refine run_region rfl ?_
      refine l_val (v := Value.int .i64 2) rfl (e_assign rfl) ?_
      refine l_nil ?_
      refine run_ret (vs := [Value.int .i64 2]) Try.func36 (.tmp rfl .nil) ?_
      -- return 3
      have e0 : (2 : Int) = (meetP a b c d) := by
        first
          | with_reducible exact meetP_line (by assumption) (by assumption) (by assumption) (by assumption)
          | with_reducible exact meetP_cross (by assumption) (by assumption)
          | ((with_reducible first | refine meetP_touch ?_ ?_ (by first | exact o1 ‹_› | exact o2 ‹_› | exact o3 ‹_› | exact o4 ‹_›) | refine meetP_apart ?_ ?_ (o5 ‹_› ‹_› ‹_› ‹_›)) <;> first | assumption | (rintro ⟨_, _, _, _⟩; contradiction) | (rintro ⟨_, _⟩; contradiction))
      have C40 : Chg (inl []) _ _ _ _ := (ch2.n).seq ((ch7.n).seq ((ch12.n).seq ((ch17.n).seq ((ch21.n).seq ((hc26.n).seq ((ch27.n).seq ((hc30.n).seq ((hb36.n).seq (hb39.n)))))))))
      replace hbase := hbase.chg C40 (is_nl rfl)
      exact ⟨(congrArg (a₁ := 2) (fun (z0 : Int) => Ending.returned (Value.int .i64 z0)) e0), hbase.below⟩
     replace bx15 := (bx15.chg hb36 (not_no _)).chg hb39 (not_no _)
     refine l_val (v := Value.agg (List.toArray [Value.int .i64 c.1, Value.int .i64 c.2])) (want_y rfl rfl rfl (Bool.eq_false_iff.2 q71)) (e_load_bxN (ds := [Value.int .i64 c.1, Value.int .i64 c.2]) tp23_gm rfl bx15 rfl rfl) ?_
     replace bx20 := bx20.chg hb39 (not_no _)
     refine l_val (v := Value.agg (List.toArray [Value.int .i64 d.1, Value.int .i64 d.2])) (want_y rfl rfl rfl (Bool.eq_false_iff.2 q71)) (e_load_bxN (ds := [Value.int .i64 d.1, Value.int .i64 d.2]) tp23_gm rfl bx20 rfl rfl) ?_
     replace bx5 := bx5.chg hb39 (not_no _)
     refine l_val (v := Value.agg (List.toArray [Value.int .i64 a.1, Value.int .i64 a.2])) (want_y rfl rfl rfl (Bool.eq_false_iff.2 q71)) (e_load_bxN (ds := [Value.int .i64 a.1, Value.int .i64 a.2]) tp23_gm rfl bx5 rfl rfl) ?_
     refine l_op (want_y rfl rfl rfl (Bool.eq_false_iff.2 q71)) ?_
     refine o_call (v := Value.bool (decide (onP c d a))) (e_call (vals := [Value.agg (List.toArray [Value.int .i64 c.1, Value.int .i64 c.2]), Value.agg (List.toArray [Value.int .i64 d.1, Value.int .i64 d.2]), Value.agg (List.toArray [Value.int .i64 a.1, Value.int .i64 a.2])]) Try.func46 bd46_gm nm46_gm rfl) (on_ok w38 c d a (by assumption) (by assumption) (by assumption)) ?_
     intro w41 hb42
     replace hb42 := chg_below hb42 g19
     refine l_val (v := Value.bool (decide (onP c d a))) rfl (e_pick_f rfl (Bool.eq_false_iff.2 q71) rfl) ?_
     refine l_val (v := Value.bool (decide (onP c d a))) rfl (e_move rfl) ?_
     by_cases q77 : (decide (onP c d a)) = true
     ·
      refine l_skip (want_n rfl rfl rfl q77) (l_skip (want_n rfl rfl rfl q77) (l_skip (want_n rfl rfl rfl q77) (l_skip (want_n rfl rfl rfl q77) ?_)))
      refine l_val (v := Value.bool true) rfl (e_pick_t rfl q77 rfl) ?_
      refine l_val (v := Value.bool true) rfl (e_assign rfl) ?_
      refine l_nil ?_
      refine run_cond_t rfl rfl ?_
      refine run_seq ?_
      clear bx5
      clear bx10
      clear bx15
      clear bx20
      refine run_region rfl ?_
      refine l_val (v := Value.int .i64 2) rfl (e_assign rfl) ?_
      refine l_nil ?_
      refine run_ret (vs := [Value.int .i64 2]) Try.func36 (.tmp rfl .nil) ?_
      -- return 4
      have e0 : (2 : Int) = (meetP a b c d) := by
        first
          | with_reducible exact meetP_line (by assumption) (by assumption) (by assumption) (by assumption)
          | with_reducible exact meetP_cross (by assumption) (by assumption)
          | ((with_reducible first | refine meetP_touch ?_ ?_ (by first | exact o1 ‹_› | exact o2 ‹_› | exact o3 ‹_› | exact o4 ‹_›) | refine meetP_apart ?_ ?_ (o5 ‹_› ‹_› ‹_› ‹_›)) <;> first | assumption | (rintro ⟨_, _, _, _⟩; contradiction) | (rintro ⟨_, _⟩; contradiction))
      have C43 : Chg (inl []) _ _ _ _ := (ch2.n).seq ((ch7.n).seq ((ch12.n).seq ((ch17.n).seq ((ch21.n).seq ((hc26.n).seq ((ch27.n).seq ((hc30.n).seq ((hb36.n).seq ((hb39.n).seq (hb42.n))))))))))
      replace hbase := hbase.chg C43 (is_nl rfl)
      exact ⟨(congrArg (a₁ := 2) (fun (z0 : Int) => Ending.returned (Value.int .i64 z0)) e0), hbase.below⟩
     replace bx15 := bx15.chg hb42 (not_no _)
     refine l_val (v := Value.agg (List.toArray [Value.int .i64 c.1, Value.int .i64 c.2])) (want_y rfl rfl rfl (Bool.eq_false_iff.2 q77)) (e_load_bxN (ds := [Value.int .i64 c.1, Value.int .i64 c.2]) tp23_gm rfl bx15 rfl rfl) ?_
     replace bx20 := bx20.chg hb42 (not_no _)
     refine l_val (v := Value.agg (List.toArray [Value.int .i64 d.1, Value.int .i64 d.2])) (want_y rfl rfl rfl (Bool.eq_false_iff.2 q77)) (e_load_bxN (ds := [Value.int .i64 d.1, Value.int .i64 d.2]) tp23_gm rfl bx20 rfl rfl) ?_
     replace bx10 := (bx10.chg hb39 (not_no _)).chg hb42 (not_no _)
     refine l_val (v := Value.agg (List.toArray [Value.int .i64 b.1, Value.int .i64 b.2])) (want_y rfl rfl rfl (Bool.eq_false_iff.2 q77)) (e_load_bxN (ds := [Value.int .i64 b.1, Value.int .i64 b.2]) tp23_gm rfl bx10 rfl rfl) ?_
     refine l_op (want_y rfl rfl rfl (Bool.eq_false_iff.2 q77)) ?_
     refine o_call (v := Value.bool (decide (onP c d b))) (e_call (vals := [Value.agg (List.toArray [Value.int .i64 c.1, Value.int .i64 c.2]), Value.agg (List.toArray [Value.int .i64 d.1, Value.int .i64 d.2]), Value.agg (List.toArray [Value.int .i64 b.1, Value.int .i64 b.2])]) Try.func46 bd46_gm nm46_gm rfl) (on_ok w41 c d b (by assumption) (by assumption) (by assumption)) ?_
     intro w44 hb45
     replace hb45 := chg_below hb45 g19
     refine l_val (v := Value.bool (decide (onP c d b))) rfl (e_pick_f rfl (Bool.eq_false_iff.2 q77) rfl) ?_
     refine l_val (v := Value.bool (decide (onP c d b))) rfl (e_assign rfl) ?_
     refine l_nil ?_
     by_cases p7 : (decide (onP c d b)) = true
     ·
      refine run_cond_t rfl p7 ?_
      refine run_seq ?_
      clear bx5
      clear bx10
      clear bx15
      clear bx20
      refine run_region rfl ?_
      refine l_val (v := Value.int .i64 2) rfl (e_assign rfl) ?_
      refine l_nil ?_
      refine run_ret (vs := [Value.int .i64 2]) Try.func36 (.tmp rfl .nil) ?_
      -- return 5
      have e0 : (2 : Int) = (meetP a b c d) := by
        first
          | with_reducible exact meetP_line (by assumption) (by assumption) (by assumption) (by assumption)
          | with_reducible exact meetP_cross (by assumption) (by assumption)
          | ((with_reducible first | refine meetP_touch ?_ ?_ (by first | exact o1 ‹_› | exact o2 ‹_› | exact o3 ‹_› | exact o4 ‹_›) | refine meetP_apart ?_ ?_ (o5 ‹_› ‹_› ‹_› ‹_›)) <;> first | assumption | (rintro ⟨_, _, _, _⟩; contradiction) | (rintro ⟨_, _⟩; contradiction))
      have C46 : Chg (inl []) _ _ _ _ := (ch2.n).seq ((ch7.n).seq ((ch12.n).seq ((ch17.n).seq ((ch21.n).seq ((hc26.n).seq ((ch27.n).seq ((hc30.n).seq ((hb36.n).seq ((hb39.n).seq ((hb42.n).seq (hb45.n)))))))))))
      replace hbase := hbase.chg C46 (is_nl rfl)
      exact ⟨(congrArg (a₁ := 2) (fun (z0 : Int) => Ending.returned (Value.int .i64 z0)) e0), hbase.below⟩
     refine run_cond_f rfl (Bool.eq_false_iff.2 p7) ?_
     refine run_skip ?_
     refine run_inBlock ?_
     refine run_seq ?_
     clear bx5
     clear bx10
     clear bx15
     clear bx20
     refine run_region rfl ?_
     refine l_val (v := Value.int .i64 0) rfl (e_assign rfl) ?_
     refine l_nil ?_
     refine run_ret (vs := [Value.int .i64 0]) Try.func36 (.tmp rfl .nil) ?_
     -- return 6
     have e0 : (0 : Int) = (meetP a b c d) := by
       first
         | with_reducible exact meetP_line (by assumption) (by assumption) (by assumption) (by assumption)
         | with_reducible exact meetP_cross (by assumption) (by assumption)
         | ((with_reducible first | refine meetP_touch ?_ ?_ (by first | exact o1 ‹_› | exact o2 ‹_› | exact o3 ‹_› | exact o4 ‹_›) | refine meetP_apart ?_ ?_ (o5 ‹_› ‹_› ‹_› ‹_›)) <;> first | assumption | (rintro ⟨_, _, _, _⟩; contradiction) | (rintro ⟨_, _⟩; contradiction))
     have C47 : Chg (inl []) _ _ _ _ := (ch2.n).seq ((ch7.n).seq ((ch12.n).seq ((ch17.n).seq ((ch21.n).seq ((hc26.n).seq ((ch27.n).seq ((hc30.n).seq ((hb36.n).seq ((hb39.n).seq ((hb42.n).seq (hb45.n)))))))))))
     replace hbase := hbase.chg C47 (is_nl rfl)
     exact ⟨(congrArg (a₁ := 0) (fun (z0 : Int) => Ending.returned (Value.int .i64 z0)) e0), hbase.below⟩
    refine l_skip (want_n rfl rfl rfl (decide_eq_false q54)) ?_
    refine l_skip (want_n rfl rfl rfl (decide_eq_false q54)) ?_
    refine l_skip (want_n rfl rfl rfl (decide_eq_false q54)) ?_
    refine l_skip (want_n rfl rfl rfl (decide_eq_false q54)) ?_
    refine l_val (v := Value.bool false) rfl (e_pick_f rfl (decide_eq_false q54) rfl) ?_
    refine l_val (v := Value.bool false) rfl (e_assign rfl) ?_
    refine l_nil ?_
    refine run_cond_f rfl rfl ?_
    refine run_seq (run_region rfl ?_)
    replace bx5 := bx5.chg hc30 (not_no _)
    refine l_val (v := Value.agg (List.toArray [Value.int .i64 a.1, Value.int .i64 a.2])) rfl (e_load_bxN (ds := [Value.int .i64 a.1, Value.int .i64 a.2]) tp23_gm rfl bx5 rfl rfl) ?_
    replace bx10 := bx10.chg hc30 (not_no _)
    refine l_val (v := Value.agg (List.toArray [Value.int .i64 b.1, Value.int .i64 b.2])) rfl (e_load_bxN (ds := [Value.int .i64 b.1, Value.int .i64 b.2]) tp23_gm rfl bx10 rfl rfl) ?_
    replace bx15 := bx15.chg hc30 (not_no _)
    refine l_val (v := Value.agg (List.toArray [Value.int .i64 c.1, Value.int .i64 c.2])) rfl (e_load_bxN (ds := [Value.int .i64 c.1, Value.int .i64 c.2]) tp23_gm rfl bx15 rfl rfl) ?_
    refine l_op rfl ?_
    refine o_call (v := Value.bool (decide (onP a b c))) (e_call (vals := [Value.agg (List.toArray [Value.int .i64 a.1, Value.int .i64 a.2]), Value.agg (List.toArray [Value.int .i64 b.1, Value.int .i64 b.2]), Value.agg (List.toArray [Value.int .i64 c.1, Value.int .i64 c.2])]) Try.func46 bd46_gm nm46_gm rfl) (on_ok w29 a b c (by assumption) (by assumption) (by assumption)) ?_
    intro w48 hb49
    replace hb49 := chg_below hb49 g19
    refine l_val (v := Value.bool (decide (onP a b c))) rfl (e_move rfl) ?_
    by_cases q65 : (decide (onP a b c)) = true
    ·
     refine l_skip (want_n rfl rfl rfl q65) (l_skip (want_n rfl rfl rfl q65) (l_skip (want_n rfl rfl rfl q65) (l_skip (want_n rfl rfl rfl q65) ?_)))
     refine l_val (v := Value.bool true) rfl (e_pick_t rfl q65 rfl) ?_
     refine l_val (v := Value.bool true) rfl (e_move rfl) ?_
     refine l_skip (want_n rfl rfl rfl rfl) (l_skip (want_n rfl rfl rfl rfl) (l_skip (want_n rfl rfl rfl rfl) (l_skip (want_n rfl rfl rfl rfl) ?_)))
     refine l_val (v := Value.bool true) rfl (e_pick_t rfl rfl rfl) ?_
     refine l_val (v := Value.bool true) rfl (e_move rfl) ?_
     refine l_skip (want_n rfl rfl rfl rfl) (l_skip (want_n rfl rfl rfl rfl) (l_skip (want_n rfl rfl rfl rfl) (l_skip (want_n rfl rfl rfl rfl) ?_)))
     refine l_val (v := Value.bool true) rfl (e_pick_t rfl rfl rfl) ?_
     refine l_val (v := Value.bool true) rfl (e_assign rfl) ?_
     refine l_nil ?_
     refine run_cond_t rfl rfl ?_
     refine run_seq ?_
     clear bx5
     clear bx10
     clear bx15
     clear bx20
     refine run_region rfl ?_
     refine l_val (v := Value.int .i64 2) rfl (e_assign rfl) ?_
     refine l_nil ?_
     refine run_ret (vs := [Value.int .i64 2]) Try.func36 (.tmp rfl .nil) ?_
     -- return 7
     have e0 : (2 : Int) = (meetP a b c d) := by
       first
         | with_reducible exact meetP_line (by assumption) (by assumption) (by assumption) (by assumption)
         | with_reducible exact meetP_cross (by assumption) (by assumption)
         | ((with_reducible first | refine meetP_touch ?_ ?_ (by first | exact o1 ‹_› | exact o2 ‹_› | exact o3 ‹_› | exact o4 ‹_›) | refine meetP_apart ?_ ?_ (o5 ‹_› ‹_› ‹_› ‹_›)) <;> first | assumption | (rintro ⟨_, _, _, _⟩; contradiction) | (rintro ⟨_, _⟩; contradiction))
     have C50 : Chg (inl []) _ _ _ _ := (ch2.n).seq ((ch7.n).seq ((ch12.n).seq ((ch17.n).seq ((ch21.n).seq ((hc26.n).seq ((ch27.n).seq ((hc30.n).seq (hb49.n))))))))
     replace hbase := hbase.chg C50 (is_nl rfl)
     exact ⟨(congrArg (a₁ := 2) (fun (z0 : Int) => Ending.returned (Value.int .i64 z0)) e0), hbase.below⟩
    replace bx5 := bx5.chg hb49 (not_no _)
    refine l_val (v := Value.agg (List.toArray [Value.int .i64 a.1, Value.int .i64 a.2])) (want_y rfl rfl rfl (Bool.eq_false_iff.2 q65)) (e_load_bxN (ds := [Value.int .i64 a.1, Value.int .i64 a.2]) tp23_gm rfl bx5 rfl rfl) ?_
    replace bx10 := bx10.chg hb49 (not_no _)
    refine l_val (v := Value.agg (List.toArray [Value.int .i64 b.1, Value.int .i64 b.2])) (want_y rfl rfl rfl (Bool.eq_false_iff.2 q65)) (e_load_bxN (ds := [Value.int .i64 b.1, Value.int .i64 b.2]) tp23_gm rfl bx10 rfl rfl) ?_
    replace bx20 := (bx20.chg hc30 (not_no _)).chg hb49 (not_no _)
    refine l_val (v := Value.agg (List.toArray [Value.int .i64 d.1, Value.int .i64 d.2])) (want_y rfl rfl rfl (Bool.eq_false_iff.2 q65)) (e_load_bxN (ds := [Value.int .i64 d.1, Value.int .i64 d.2]) tp23_gm rfl bx20 rfl rfl) ?_
    refine l_op (want_y rfl rfl rfl (Bool.eq_false_iff.2 q65)) ?_
    refine o_call (v := Value.bool (decide (onP a b d))) (e_call (vals := [Value.agg (List.toArray [Value.int .i64 a.1, Value.int .i64 a.2]), Value.agg (List.toArray [Value.int .i64 b.1, Value.int .i64 b.2]), Value.agg (List.toArray [Value.int .i64 d.1, Value.int .i64 d.2])]) Try.func46 bd46_gm nm46_gm rfl) (on_ok w48 a b d (by assumption) (by assumption) (by assumption)) ?_
    intro w51 hb52
    replace hb52 := chg_below hb52 g19
    refine l_val (v := Value.bool (decide (onP a b d))) rfl (e_pick_f rfl (Bool.eq_false_iff.2 q65) rfl) ?_
    refine l_val (v := Value.bool (decide (onP a b d))) rfl (e_move rfl) ?_
    by_cases q71 : (decide (onP a b d)) = true
    ·
     refine l_skip (want_n rfl rfl rfl q71) (l_skip (want_n rfl rfl rfl q71) (l_skip (want_n rfl rfl rfl q71) (l_skip (want_n rfl rfl rfl q71) ?_)))
     refine l_val (v := Value.bool true) rfl (e_pick_t rfl q71 rfl) ?_
     refine l_val (v := Value.bool true) rfl (e_move rfl) ?_
     refine l_skip (want_n rfl rfl rfl rfl) (l_skip (want_n rfl rfl rfl rfl) (l_skip (want_n rfl rfl rfl rfl) (l_skip (want_n rfl rfl rfl rfl) ?_)))
     refine l_val (v := Value.bool true) rfl (e_pick_t rfl rfl rfl) ?_
     refine l_val (v := Value.bool true) rfl (e_assign rfl) ?_
     refine l_nil ?_
     refine run_cond_t rfl rfl ?_
     refine run_seq ?_
     clear bx5
     clear bx10
     clear bx15
     clear bx20
     refine run_region rfl ?_
     refine l_val (v := Value.int .i64 2) rfl (e_assign rfl) ?_
     refine l_nil ?_
     refine run_ret (vs := [Value.int .i64 2]) Try.func36 (.tmp rfl .nil) ?_
     -- return 8
     have e0 : (2 : Int) = (meetP a b c d) := by
       first
         | with_reducible exact meetP_line (by assumption) (by assumption) (by assumption) (by assumption)
         | with_reducible exact meetP_cross (by assumption) (by assumption)
         | ((with_reducible first | refine meetP_touch ?_ ?_ (by first | exact o1 ‹_› | exact o2 ‹_› | exact o3 ‹_› | exact o4 ‹_›) | refine meetP_apart ?_ ?_ (o5 ‹_› ‹_› ‹_› ‹_›)) <;> first | assumption | (rintro ⟨_, _, _, _⟩; contradiction) | (rintro ⟨_, _⟩; contradiction))
     have C53 : Chg (inl []) _ _ _ _ := (ch2.n).seq ((ch7.n).seq ((ch12.n).seq ((ch17.n).seq ((ch21.n).seq ((hc26.n).seq ((ch27.n).seq ((hc30.n).seq ((hb49.n).seq (hb52.n)))))))))
     replace hbase := hbase.chg C53 (is_nl rfl)
     exact ⟨(congrArg (a₁ := 2) (fun (z0 : Int) => Ending.returned (Value.int .i64 z0)) e0), hbase.below⟩
    replace bx15 := (bx15.chg hb49 (not_no _)).chg hb52 (not_no _)
    refine l_val (v := Value.agg (List.toArray [Value.int .i64 c.1, Value.int .i64 c.2])) (want_y rfl rfl rfl (Bool.eq_false_iff.2 q71)) (e_load_bxN (ds := [Value.int .i64 c.1, Value.int .i64 c.2]) tp23_gm rfl bx15 rfl rfl) ?_
    replace bx20 := bx20.chg hb52 (not_no _)
    refine l_val (v := Value.agg (List.toArray [Value.int .i64 d.1, Value.int .i64 d.2])) (want_y rfl rfl rfl (Bool.eq_false_iff.2 q71)) (e_load_bxN (ds := [Value.int .i64 d.1, Value.int .i64 d.2]) tp23_gm rfl bx20 rfl rfl) ?_
    replace bx5 := bx5.chg hb52 (not_no _)
    refine l_val (v := Value.agg (List.toArray [Value.int .i64 a.1, Value.int .i64 a.2])) (want_y rfl rfl rfl (Bool.eq_false_iff.2 q71)) (e_load_bxN (ds := [Value.int .i64 a.1, Value.int .i64 a.2]) tp23_gm rfl bx5 rfl rfl) ?_
    refine l_op (want_y rfl rfl rfl (Bool.eq_false_iff.2 q71)) ?_
    refine o_call (v := Value.bool (decide (onP c d a))) (e_call (vals := [Value.agg (List.toArray [Value.int .i64 c.1, Value.int .i64 c.2]), Value.agg (List.toArray [Value.int .i64 d.1, Value.int .i64 d.2]), Value.agg (List.toArray [Value.int .i64 a.1, Value.int .i64 a.2])]) Try.func46 bd46_gm nm46_gm rfl) (on_ok w51 c d a (by assumption) (by assumption) (by assumption)) ?_
    intro w54 hb55
    replace hb55 := chg_below hb55 g19
    refine l_val (v := Value.bool (decide (onP c d a))) rfl (e_pick_f rfl (Bool.eq_false_iff.2 q71) rfl) ?_
    refine l_val (v := Value.bool (decide (onP c d a))) rfl (e_move rfl) ?_
    by_cases q77 : (decide (onP c d a)) = true
    ·
     refine l_skip (want_n rfl rfl rfl q77) (l_skip (want_n rfl rfl rfl q77) (l_skip (want_n rfl rfl rfl q77) (l_skip (want_n rfl rfl rfl q77) ?_)))
     refine l_val (v := Value.bool true) rfl (e_pick_t rfl q77 rfl) ?_
     refine l_val (v := Value.bool true) rfl (e_assign rfl) ?_
     refine l_nil ?_
     refine run_cond_t rfl rfl ?_
     refine run_seq ?_
     clear bx5
     clear bx10
     clear bx15
     clear bx20
     refine run_region rfl ?_
     refine l_val (v := Value.int .i64 2) rfl (e_assign rfl) ?_
     refine l_nil ?_
     refine run_ret (vs := [Value.int .i64 2]) Try.func36 (.tmp rfl .nil) ?_
     -- return 9
     have e0 : (2 : Int) = (meetP a b c d) := by
       first
         | with_reducible exact meetP_line (by assumption) (by assumption) (by assumption) (by assumption)
         | with_reducible exact meetP_cross (by assumption) (by assumption)
         | ((with_reducible first | refine meetP_touch ?_ ?_ (by first | exact o1 ‹_› | exact o2 ‹_› | exact o3 ‹_› | exact o4 ‹_›) | refine meetP_apart ?_ ?_ (o5 ‹_› ‹_› ‹_› ‹_›)) <;> first | assumption | (rintro ⟨_, _, _, _⟩; contradiction) | (rintro ⟨_, _⟩; contradiction))
     have C56 : Chg (inl []) _ _ _ _ := (ch2.n).seq ((ch7.n).seq ((ch12.n).seq ((ch17.n).seq ((ch21.n).seq ((hc26.n).seq ((ch27.n).seq ((hc30.n).seq ((hb49.n).seq ((hb52.n).seq (hb55.n))))))))))
     replace hbase := hbase.chg C56 (is_nl rfl)
     exact ⟨(congrArg (a₁ := 2) (fun (z0 : Int) => Ending.returned (Value.int .i64 z0)) e0), hbase.below⟩
    replace bx15 := bx15.chg hb55 (not_no _)
    refine l_val (v := Value.agg (List.toArray [Value.int .i64 c.1, Value.int .i64 c.2])) (want_y rfl rfl rfl (Bool.eq_false_iff.2 q77)) (e_load_bxN (ds := [Value.int .i64 c.1, Value.int .i64 c.2]) tp23_gm rfl bx15 rfl rfl) ?_
    replace bx20 := bx20.chg hb55 (not_no _)
    refine l_val (v := Value.agg (List.toArray [Value.int .i64 d.1, Value.int .i64 d.2])) (want_y rfl rfl rfl (Bool.eq_false_iff.2 q77)) (e_load_bxN (ds := [Value.int .i64 d.1, Value.int .i64 d.2]) tp23_gm rfl bx20 rfl rfl) ?_
    replace bx10 := (bx10.chg hb52 (not_no _)).chg hb55 (not_no _)
    refine l_val (v := Value.agg (List.toArray [Value.int .i64 b.1, Value.int .i64 b.2])) (want_y rfl rfl rfl (Bool.eq_false_iff.2 q77)) (e_load_bxN (ds := [Value.int .i64 b.1, Value.int .i64 b.2]) tp23_gm rfl bx10 rfl rfl) ?_
    refine l_op (want_y rfl rfl rfl (Bool.eq_false_iff.2 q77)) ?_
    refine o_call (v := Value.bool (decide (onP c d b))) (e_call (vals := [Value.agg (List.toArray [Value.int .i64 c.1, Value.int .i64 c.2]), Value.agg (List.toArray [Value.int .i64 d.1, Value.int .i64 d.2]), Value.agg (List.toArray [Value.int .i64 b.1, Value.int .i64 b.2])]) Try.func46 bd46_gm nm46_gm rfl) (on_ok w54 c d b (by assumption) (by assumption) (by assumption)) ?_
    intro w57 hb58
    replace hb58 := chg_below hb58 g19
    refine l_val (v := Value.bool (decide (onP c d b))) rfl (e_pick_f rfl (Bool.eq_false_iff.2 q77) rfl) ?_
    refine l_val (v := Value.bool (decide (onP c d b))) rfl (e_assign rfl) ?_
    refine l_nil ?_
    by_cases p7 : (decide (onP c d b)) = true
    ·
     refine run_cond_t rfl p7 ?_
     refine run_seq ?_
     clear bx5
     clear bx10
     clear bx15
     clear bx20
     refine run_region rfl ?_
     refine l_val (v := Value.int .i64 2) rfl (e_assign rfl) ?_
     refine l_nil ?_
     refine run_ret (vs := [Value.int .i64 2]) Try.func36 (.tmp rfl .nil) ?_
     -- return 10
     have e0 : (2 : Int) = (meetP a b c d) := by
       first
         | with_reducible exact meetP_line (by assumption) (by assumption) (by assumption) (by assumption)
         | with_reducible exact meetP_cross (by assumption) (by assumption)
         | ((with_reducible first | refine meetP_touch ?_ ?_ (by first | exact o1 ‹_› | exact o2 ‹_› | exact o3 ‹_› | exact o4 ‹_›) | refine meetP_apart ?_ ?_ (o5 ‹_› ‹_› ‹_› ‹_›)) <;> first | assumption | (rintro ⟨_, _, _, _⟩; contradiction) | (rintro ⟨_, _⟩; contradiction))
     have C59 : Chg (inl []) _ _ _ _ := (ch2.n).seq ((ch7.n).seq ((ch12.n).seq ((ch17.n).seq ((ch21.n).seq ((hc26.n).seq ((ch27.n).seq ((hc30.n).seq ((hb49.n).seq ((hb52.n).seq ((hb55.n).seq (hb58.n)))))))))))
     replace hbase := hbase.chg C59 (is_nl rfl)
     exact ⟨(congrArg (a₁ := 2) (fun (z0 : Int) => Ending.returned (Value.int .i64 z0)) e0), hbase.below⟩
    refine run_cond_f rfl (Bool.eq_false_iff.2 p7) ?_
    refine run_skip ?_
    refine run_inBlock ?_
    refine run_seq ?_
    clear bx5
    clear bx10
    clear bx15
    clear bx20
    refine run_region rfl ?_
    refine l_val (v := Value.int .i64 0) rfl (e_assign rfl) ?_
    refine l_nil ?_
    refine run_ret (vs := [Value.int .i64 0]) Try.func36 (.tmp rfl .nil) ?_
    -- return 11
    have e0 : (0 : Int) = (meetP a b c d) := by
      first
        | with_reducible exact meetP_line (by assumption) (by assumption) (by assumption) (by assumption)
        | with_reducible exact meetP_cross (by assumption) (by assumption)
        | ((with_reducible first | refine meetP_touch ?_ ?_ (by first | exact o1 ‹_› | exact o2 ‹_› | exact o3 ‹_› | exact o4 ‹_›) | refine meetP_apart ?_ ?_ (o5 ‹_› ‹_› ‹_› ‹_›)) <;> first | assumption | (rintro ⟨_, _, _, _⟩; contradiction) | (rintro ⟨_, _⟩; contradiction))
    have C60 : Chg (inl []) _ _ _ _ := (ch2.n).seq ((ch7.n).seq ((ch12.n).seq ((ch17.n).seq ((ch21.n).seq ((hc26.n).seq ((ch27.n).seq ((hc30.n).seq ((hb49.n).seq ((hb52.n).seq ((hb55.n).seq (hb58.n)))))))))))
    replace hbase := hbase.chg C60 (is_nl rfl)
    exact ⟨(congrArg (a₁ := 0) (fun (z0 : Int) => Ending.returned (Value.int .i64 z0)) e0), hbase.below⟩
   refine l_skip (want_n rfl rfl rfl (decide_eq_false q40)) ?_
   refine l_skip (want_n rfl rfl rfl (decide_eq_false q40)) ?_
   refine l_val (v := Value.bool false) rfl (e_pick_f rfl (decide_eq_false q40) rfl) ?_
   refine l_val (v := Value.bool false) rfl (e_assign rfl) ?_
   refine l_nil ?_
   refine run_cond_f rfl rfl ?_
   refine run_seq (run_region rfl ?_)
   refine l_val (v := Value.int .i64 (trn a b c)) rfl (e_move rfl) ?_
   refine l_val (v := Value.int .i64 (trn a b d)) rfl (e_move rfl) ?_
   refine l_val (v := Value.int .i64 ((trn a b c) * (trn a b d))) rfl (e_mul (m := trn a b c) (n := trn a b d) rfl rfl (by omega)) ?_
   refine l_val (v := Value.bool (decide (((trn a b c) * (trn a b d)) < 0))) rfl (e_lss (m := (trn a b c) * (trn a b d)) (n := 0) rfl rfl) ?_
   refine l_val (v := Value.bool (decide (((trn a b c) * (trn a b d)) < 0))) rfl (e_move rfl) ?_
   by_cases q54 : ((trn a b c) * (trn a b d)) < 0
   ·
    refine l_val (v := Value.int .i64 (trn c d a)) (want_y rfl rfl rfl (decide_eq_true q54)) (e_move rfl) ?_
    refine l_val (v := Value.int .i64 (trn c d b)) (want_y rfl rfl rfl (decide_eq_true q54)) (e_move rfl) ?_
    refine l_val (v := Value.int .i64 ((trn c d a) * (trn c d b))) (want_y rfl rfl rfl (decide_eq_true q54)) (e_mul (m := trn c d a) (n := trn c d b) rfl rfl (by omega)) ?_
    refine l_val (v := Value.bool (decide (((trn c d a) * (trn c d b)) < 0))) (want_y rfl rfl rfl (decide_eq_true q54)) (e_lss (m := (trn c d a) * (trn c d b)) (n := 0) rfl rfl) ?_
    refine l_val (v := Value.bool (decide (((trn c d a) * (trn c d b)) < 0))) rfl (e_pick_t rfl (decide_eq_true q54) rfl) ?_
    refine l_val (v := Value.bool (decide (((trn c d a) * (trn c d b)) < 0))) rfl (e_assign rfl) ?_
    refine l_nil ?_
    by_cases p5 : ((trn c d a) * (trn c d b)) < 0
    ·
     refine run_cond_t rfl (decide_eq_true p5) ?_
     refine run_seq ?_
     clear bx5
     clear bx10
     clear bx15
     clear bx20
     refine run_region rfl ?_
     refine l_val (v := Value.int .i64 1) rfl (e_assign rfl) ?_
     refine l_nil ?_
     refine run_ret (vs := [Value.int .i64 1]) Try.func36 (.tmp rfl .nil) ?_
     -- return 12
     have e0 : (1 : Int) = (meetP a b c d) := by
       first
         | with_reducible exact meetP_line (by assumption) (by assumption) (by assumption) (by assumption)
         | with_reducible exact meetP_cross (by assumption) (by assumption)
         | ((with_reducible first | refine meetP_touch ?_ ?_ (by first | exact o1 ‹_› | exact o2 ‹_› | exact o3 ‹_› | exact o4 ‹_›) | refine meetP_apart ?_ ?_ (o5 ‹_› ‹_› ‹_› ‹_›)) <;> first | assumption | (rintro ⟨_, _, _, _⟩; contradiction) | (rintro ⟨_, _⟩; contradiction))
     have C61 : Chg (inl []) _ _ _ _ := (ch2.n).seq ((ch7.n).seq ((ch12.n).seq ((ch17.n).seq ((ch21.n).seq ((hc26.n).seq ((ch27.n).seq (hc30.n)))))))
     replace hbase := hbase.chg C61 (is_nl rfl)
     exact ⟨(congrArg (a₁ := 1) (fun (z0 : Int) => Ending.returned (Value.int .i64 z0)) e0), hbase.below⟩
    refine run_cond_f rfl (decide_eq_false p5) ?_
    refine run_seq (run_region rfl ?_)
    replace bx5 := bx5.chg hc30 (not_no _)
    refine l_val (v := Value.agg (List.toArray [Value.int .i64 a.1, Value.int .i64 a.2])) rfl (e_load_bxN (ds := [Value.int .i64 a.1, Value.int .i64 a.2]) tp23_gm rfl bx5 rfl rfl) ?_
    replace bx10 := bx10.chg hc30 (not_no _)
    refine l_val (v := Value.agg (List.toArray [Value.int .i64 b.1, Value.int .i64 b.2])) rfl (e_load_bxN (ds := [Value.int .i64 b.1, Value.int .i64 b.2]) tp23_gm rfl bx10 rfl rfl) ?_
    replace bx15 := bx15.chg hc30 (not_no _)
    refine l_val (v := Value.agg (List.toArray [Value.int .i64 c.1, Value.int .i64 c.2])) rfl (e_load_bxN (ds := [Value.int .i64 c.1, Value.int .i64 c.2]) tp23_gm rfl bx15 rfl rfl) ?_
    refine l_op rfl ?_
    refine o_call (v := Value.bool (decide (onP a b c))) (e_call (vals := [Value.agg (List.toArray [Value.int .i64 a.1, Value.int .i64 a.2]), Value.agg (List.toArray [Value.int .i64 b.1, Value.int .i64 b.2]), Value.agg (List.toArray [Value.int .i64 c.1, Value.int .i64 c.2])]) Try.func46 bd46_gm nm46_gm rfl) (on_ok w29 a b c (by assumption) (by assumption) (by assumption)) ?_
    intro w62 hb63
    replace hb63 := chg_below hb63 g19
    refine l_val (v := Value.bool (decide (onP a b c))) rfl (e_move rfl) ?_
    by_cases q65 : (decide (onP a b c)) = true
    ·
     refine l_skip (want_n rfl rfl rfl q65) (l_skip (want_n rfl rfl rfl q65) (l_skip (want_n rfl rfl rfl q65) (l_skip (want_n rfl rfl rfl q65) ?_)))
     refine l_val (v := Value.bool true) rfl (e_pick_t rfl q65 rfl) ?_
     refine l_val (v := Value.bool true) rfl (e_move rfl) ?_
     refine l_skip (want_n rfl rfl rfl rfl) (l_skip (want_n rfl rfl rfl rfl) (l_skip (want_n rfl rfl rfl rfl) (l_skip (want_n rfl rfl rfl rfl) ?_)))
     refine l_val (v := Value.bool true) rfl (e_pick_t rfl rfl rfl) ?_
     refine l_val (v := Value.bool true) rfl (e_move rfl) ?_
     refine l_skip (want_n rfl rfl rfl rfl) (l_skip (want_n rfl rfl rfl rfl) (l_skip (want_n rfl rfl rfl rfl) (l_skip (want_n rfl rfl rfl rfl) ?_)))
     refine l_val (v := Value.bool true) rfl (e_pick_t rfl rfl rfl) ?_
     refine l_val (v := Value.bool true) rfl (e_assign rfl) ?_
     refine l_nil ?_
     refine run_cond_t rfl rfl ?_
     refine run_seq ?_
     clear bx5
     clear bx10
     clear bx15
     clear bx20
     refine run_region rfl ?_
     refine l_val (v := Value.int .i64 2) rfl (e_assign rfl) ?_
     refine l_nil ?_
     refine run_ret (vs := [Value.int .i64 2]) Try.func36 (.tmp rfl .nil) ?_
     -- return 13
     have e0 : (2 : Int) = (meetP a b c d) := by
       first
         | with_reducible exact meetP_line (by assumption) (by assumption) (by assumption) (by assumption)
         | with_reducible exact meetP_cross (by assumption) (by assumption)
         | ((with_reducible first | refine meetP_touch ?_ ?_ (by first | exact o1 ‹_› | exact o2 ‹_› | exact o3 ‹_› | exact o4 ‹_›) | refine meetP_apart ?_ ?_ (o5 ‹_› ‹_› ‹_› ‹_›)) <;> first | assumption | (rintro ⟨_, _, _, _⟩; contradiction) | (rintro ⟨_, _⟩; contradiction))
     have C64 : Chg (inl []) _ _ _ _ := (ch2.n).seq ((ch7.n).seq ((ch12.n).seq ((ch17.n).seq ((ch21.n).seq ((hc26.n).seq ((ch27.n).seq ((hc30.n).seq (hb63.n))))))))
     replace hbase := hbase.chg C64 (is_nl rfl)
     exact ⟨(congrArg (a₁ := 2) (fun (z0 : Int) => Ending.returned (Value.int .i64 z0)) e0), hbase.below⟩
    replace bx5 := bx5.chg hb63 (not_no _)
    refine l_val (v := Value.agg (List.toArray [Value.int .i64 a.1, Value.int .i64 a.2])) (want_y rfl rfl rfl (Bool.eq_false_iff.2 q65)) (e_load_bxN (ds := [Value.int .i64 a.1, Value.int .i64 a.2]) tp23_gm rfl bx5 rfl rfl) ?_
    replace bx10 := bx10.chg hb63 (not_no _)
    refine l_val (v := Value.agg (List.toArray [Value.int .i64 b.1, Value.int .i64 b.2])) (want_y rfl rfl rfl (Bool.eq_false_iff.2 q65)) (e_load_bxN (ds := [Value.int .i64 b.1, Value.int .i64 b.2]) tp23_gm rfl bx10 rfl rfl) ?_
    replace bx20 := (bx20.chg hc30 (not_no _)).chg hb63 (not_no _)
    refine l_val (v := Value.agg (List.toArray [Value.int .i64 d.1, Value.int .i64 d.2])) (want_y rfl rfl rfl (Bool.eq_false_iff.2 q65)) (e_load_bxN (ds := [Value.int .i64 d.1, Value.int .i64 d.2]) tp23_gm rfl bx20 rfl rfl) ?_
    refine l_op (want_y rfl rfl rfl (Bool.eq_false_iff.2 q65)) ?_
    refine o_call (v := Value.bool (decide (onP a b d))) (e_call (vals := [Value.agg (List.toArray [Value.int .i64 a.1, Value.int .i64 a.2]), Value.agg (List.toArray [Value.int .i64 b.1, Value.int .i64 b.2]), Value.agg (List.toArray [Value.int .i64 d.1, Value.int .i64 d.2])]) Try.func46 bd46_gm nm46_gm rfl) (on_ok w62 a b d (by assumption) (by assumption) (by assumption)) ?_
    intro w65 hb66
    replace hb66 := chg_below hb66 g19
    refine l_val (v := Value.bool (decide (onP a b d))) rfl (e_pick_f rfl (Bool.eq_false_iff.2 q65) rfl) ?_
    refine l_val (v := Value.bool (decide (onP a b d))) rfl (e_move rfl) ?_
    by_cases q71 : (decide (onP a b d)) = true
    ·
     refine l_skip (want_n rfl rfl rfl q71) (l_skip (want_n rfl rfl rfl q71) (l_skip (want_n rfl rfl rfl q71) (l_skip (want_n rfl rfl rfl q71) ?_)))
     refine l_val (v := Value.bool true) rfl (e_pick_t rfl q71 rfl) ?_
     refine l_val (v := Value.bool true) rfl (e_move rfl) ?_
     refine l_skip (want_n rfl rfl rfl rfl) (l_skip (want_n rfl rfl rfl rfl) (l_skip (want_n rfl rfl rfl rfl) (l_skip (want_n rfl rfl rfl rfl) ?_)))
     refine l_val (v := Value.bool true) rfl (e_pick_t rfl rfl rfl) ?_
     refine l_val (v := Value.bool true) rfl (e_assign rfl) ?_
     refine l_nil ?_
     refine run_cond_t rfl rfl ?_
     refine run_seq ?_
     clear bx5
     clear bx10
     clear bx15
     clear bx20
     refine run_region rfl ?_
     refine l_val (v := Value.int .i64 2) rfl (e_assign rfl) ?_
     refine l_nil ?_
     refine run_ret (vs := [Value.int .i64 2]) Try.func36 (.tmp rfl .nil) ?_
     -- return 14
     have e0 : (2 : Int) = (meetP a b c d) := by
       first
         | with_reducible exact meetP_line (by assumption) (by assumption) (by assumption) (by assumption)
         | with_reducible exact meetP_cross (by assumption) (by assumption)
         | ((with_reducible first | refine meetP_touch ?_ ?_ (by first | exact o1 ‹_› | exact o2 ‹_› | exact o3 ‹_› | exact o4 ‹_›) | refine meetP_apart ?_ ?_ (o5 ‹_› ‹_› ‹_› ‹_›)) <;> first | assumption | (rintro ⟨_, _, _, _⟩; contradiction) | (rintro ⟨_, _⟩; contradiction))
     have C67 : Chg (inl []) _ _ _ _ := (ch2.n).seq ((ch7.n).seq ((ch12.n).seq ((ch17.n).seq ((ch21.n).seq ((hc26.n).seq ((ch27.n).seq ((hc30.n).seq ((hb63.n).seq (hb66.n)))))))))
     replace hbase := hbase.chg C67 (is_nl rfl)
     exact ⟨(congrArg (a₁ := 2) (fun (z0 : Int) => Ending.returned (Value.int .i64 z0)) e0), hbase.below⟩
    replace bx15 := (bx15.chg hb63 (not_no _)).chg hb66 (not_no _)
    refine l_val (v := Value.agg (List.toArray [Value.int .i64 c.1, Value.int .i64 c.2])) (want_y rfl rfl rfl (Bool.eq_false_iff.2 q71)) (e_load_bxN (ds := [Value.int .i64 c.1, Value.int .i64 c.2]) tp23_gm rfl bx15 rfl rfl) ?_
    replace bx20 := bx20.chg hb66 (not_no _)
    refine l_val (v := Value.agg (List.toArray [Value.int .i64 d.1, Value.int .i64 d.2])) (want_y rfl rfl rfl (Bool.eq_false_iff.2 q71)) (e_load_bxN (ds := [Value.int .i64 d.1, Value.int .i64 d.2]) tp23_gm rfl bx20 rfl rfl) ?_
    replace bx5 := bx5.chg hb66 (not_no _)
    refine l_val (v := Value.agg (List.toArray [Value.int .i64 a.1, Value.int .i64 a.2])) (want_y rfl rfl rfl (Bool.eq_false_iff.2 q71)) (e_load_bxN (ds := [Value.int .i64 a.1, Value.int .i64 a.2]) tp23_gm rfl bx5 rfl rfl) ?_
    refine l_op (want_y rfl rfl rfl (Bool.eq_false_iff.2 q71)) ?_
    refine o_call (v := Value.bool (decide (onP c d a))) (e_call (vals := [Value.agg (List.toArray [Value.int .i64 c.1, Value.int .i64 c.2]), Value.agg (List.toArray [Value.int .i64 d.1, Value.int .i64 d.2]), Value.agg (List.toArray [Value.int .i64 a.1, Value.int .i64 a.2])]) Try.func46 bd46_gm nm46_gm rfl) (on_ok w65 c d a (by assumption) (by assumption) (by assumption)) ?_
    intro w68 hb69
    replace hb69 := chg_below hb69 g19
    refine l_val (v := Value.bool (decide (onP c d a))) rfl (e_pick_f rfl (Bool.eq_false_iff.2 q71) rfl) ?_
    refine l_val (v := Value.bool (decide (onP c d a))) rfl (e_move rfl) ?_
    by_cases q77 : (decide (onP c d a)) = true
    ·
     refine l_skip (want_n rfl rfl rfl q77) (l_skip (want_n rfl rfl rfl q77) (l_skip (want_n rfl rfl rfl q77) (l_skip (want_n rfl rfl rfl q77) ?_)))
     refine l_val (v := Value.bool true) rfl (e_pick_t rfl q77 rfl) ?_
     refine l_val (v := Value.bool true) rfl (e_assign rfl) ?_
     refine l_nil ?_
     refine run_cond_t rfl rfl ?_
     refine run_seq ?_
     clear bx5
     clear bx10
     clear bx15
     clear bx20
     refine run_region rfl ?_
     refine l_val (v := Value.int .i64 2) rfl (e_assign rfl) ?_
     refine l_nil ?_
     refine run_ret (vs := [Value.int .i64 2]) Try.func36 (.tmp rfl .nil) ?_
     -- return 15
     have e0 : (2 : Int) = (meetP a b c d) := by
       first
         | with_reducible exact meetP_line (by assumption) (by assumption) (by assumption) (by assumption)
         | with_reducible exact meetP_cross (by assumption) (by assumption)
         | ((with_reducible first | refine meetP_touch ?_ ?_ (by first | exact o1 ‹_› | exact o2 ‹_› | exact o3 ‹_› | exact o4 ‹_›) | refine meetP_apart ?_ ?_ (o5 ‹_› ‹_› ‹_› ‹_›)) <;> first | assumption | (rintro ⟨_, _, _, _⟩; contradiction) | (rintro ⟨_, _⟩; contradiction))
     have C70 : Chg (inl []) _ _ _ _ := (ch2.n).seq ((ch7.n).seq ((ch12.n).seq ((ch17.n).seq ((ch21.n).seq ((hc26.n).seq ((ch27.n).seq ((hc30.n).seq ((hb63.n).seq ((hb66.n).seq (hb69.n))))))))))
     replace hbase := hbase.chg C70 (is_nl rfl)
     exact ⟨(congrArg (a₁ := 2) (fun (z0 : Int) => Ending.returned (Value.int .i64 z0)) e0), hbase.below⟩
    replace bx15 := bx15.chg hb69 (not_no _)
    refine l_val (v := Value.agg (List.toArray [Value.int .i64 c.1, Value.int .i64 c.2])) (want_y rfl rfl rfl (Bool.eq_false_iff.2 q77)) (e_load_bxN (ds := [Value.int .i64 c.1, Value.int .i64 c.2]) tp23_gm rfl bx15 rfl rfl) ?_
    replace bx20 := bx20.chg hb69 (not_no _)
    refine l_val (v := Value.agg (List.toArray [Value.int .i64 d.1, Value.int .i64 d.2])) (want_y rfl rfl rfl (Bool.eq_false_iff.2 q77)) (e_load_bxN (ds := [Value.int .i64 d.1, Value.int .i64 d.2]) tp23_gm rfl bx20 rfl rfl) ?_
    replace bx10 := (bx10.chg hb66 (not_no _)).chg hb69 (not_no _)
    refine l_val (v := Value.agg (List.toArray [Value.int .i64 b.1, Value.int .i64 b.2])) (want_y rfl rfl rfl (Bool.eq_false_iff.2 q77)) (e_load_bxN (ds := [Value.int .i64 b.1, Value.int .i64 b.2]) tp23_gm rfl bx10 rfl rfl) ?_
    refine l_op (want_y rfl rfl rfl (Bool.eq_false_iff.2 q77)) ?_
    refine o_call (v := Value.bool (decide (onP c d b))) (e_call (vals := [Value.agg (List.toArray [Value.int .i64 c.1, Value.int .i64 c.2]), Value.agg (List.toArray [Value.int .i64 d.1, Value.int .i64 d.2]), Value.agg (List.toArray [Value.int .i64 b.1, Value.int .i64 b.2])]) Try.func46 bd46_gm nm46_gm rfl) (on_ok w68 c d b (by assumption) (by assumption) (by assumption)) ?_
    intro w71 hb72
    replace hb72 := chg_below hb72 g19
    refine l_val (v := Value.bool (decide (onP c d b))) rfl (e_pick_f rfl (Bool.eq_false_iff.2 q77) rfl) ?_
    refine l_val (v := Value.bool (decide (onP c d b))) rfl (e_assign rfl) ?_
    refine l_nil ?_
    by_cases p7 : (decide (onP c d b)) = true
    ·
     refine run_cond_t rfl p7 ?_
     refine run_seq ?_
     clear bx5
     clear bx10
     clear bx15
     clear bx20
     refine run_region rfl ?_
     refine l_val (v := Value.int .i64 2) rfl (e_assign rfl) ?_
     refine l_nil ?_
     refine run_ret (vs := [Value.int .i64 2]) Try.func36 (.tmp rfl .nil) ?_
     -- return 16
     have e0 : (2 : Int) = (meetP a b c d) := by
       first
         | with_reducible exact meetP_line (by assumption) (by assumption) (by assumption) (by assumption)
         | with_reducible exact meetP_cross (by assumption) (by assumption)
         | ((with_reducible first | refine meetP_touch ?_ ?_ (by first | exact o1 ‹_› | exact o2 ‹_› | exact o3 ‹_› | exact o4 ‹_›) | refine meetP_apart ?_ ?_ (o5 ‹_› ‹_› ‹_› ‹_›)) <;> first | assumption | (rintro ⟨_, _, _, _⟩; contradiction) | (rintro ⟨_, _⟩; contradiction))
     have C73 : Chg (inl []) _ _ _ _ := (ch2.n).seq ((ch7.n).seq ((ch12.n).seq ((ch17.n).seq ((ch21.n).seq ((hc26.n).seq ((ch27.n).seq ((hc30.n).seq ((hb63.n).seq ((hb66.n).seq ((hb69.n).seq (hb72.n)))))))))))
     replace hbase := hbase.chg C73 (is_nl rfl)
     exact ⟨(congrArg (a₁ := 2) (fun (z0 : Int) => Ending.returned (Value.int .i64 z0)) e0), hbase.below⟩
    refine run_cond_f rfl (Bool.eq_false_iff.2 p7) ?_
    refine run_skip ?_
    refine run_inBlock ?_
    refine run_seq ?_
    clear bx5
    clear bx10
    clear bx15
    clear bx20
    refine run_region rfl ?_
    refine l_val (v := Value.int .i64 0) rfl (e_assign rfl) ?_
    refine l_nil ?_
    refine run_ret (vs := [Value.int .i64 0]) Try.func36 (.tmp rfl .nil) ?_
    -- return 17
    have e0 : (0 : Int) = (meetP a b c d) := by
      first
        | with_reducible exact meetP_line (by assumption) (by assumption) (by assumption) (by assumption)
        | with_reducible exact meetP_cross (by assumption) (by assumption)
        | ((with_reducible first | refine meetP_touch ?_ ?_ (by first | exact o1 ‹_› | exact o2 ‹_› | exact o3 ‹_› | exact o4 ‹_›) | refine meetP_apart ?_ ?_ (o5 ‹_› ‹_› ‹_› ‹_›)) <;> first | assumption | (rintro ⟨_, _, _, _⟩; contradiction) | (rintro ⟨_, _⟩; contradiction))
    have C74 : Chg (inl []) _ _ _ _ := (ch2.n).seq ((ch7.n).seq ((ch12.n).seq ((ch17.n).seq ((ch21.n).seq ((hc26.n).seq ((ch27.n).seq ((hc30.n).seq ((hb63.n).seq ((hb66.n).seq ((hb69.n).seq (hb72.n)))))))))))
    replace hbase := hbase.chg C74 (is_nl rfl)
    exact ⟨(congrArg (a₁ := 0) (fun (z0 : Int) => Ending.returned (Value.int .i64 z0)) e0), hbase.below⟩
   refine l_skip (want_n rfl rfl rfl (decide_eq_false q54)) ?_
   refine l_skip (want_n rfl rfl rfl (decide_eq_false q54)) ?_
   refine l_skip (want_n rfl rfl rfl (decide_eq_false q54)) ?_
   refine l_skip (want_n rfl rfl rfl (decide_eq_false q54)) ?_
   refine l_val (v := Value.bool false) rfl (e_pick_f rfl (decide_eq_false q54) rfl) ?_
   refine l_val (v := Value.bool false) rfl (e_assign rfl) ?_
   refine l_nil ?_
   refine run_cond_f rfl rfl ?_
   refine run_seq (run_region rfl ?_)
   replace bx5 := bx5.chg hc30 (not_no _)
   refine l_val (v := Value.agg (List.toArray [Value.int .i64 a.1, Value.int .i64 a.2])) rfl (e_load_bxN (ds := [Value.int .i64 a.1, Value.int .i64 a.2]) tp23_gm rfl bx5 rfl rfl) ?_
   replace bx10 := bx10.chg hc30 (not_no _)
   refine l_val (v := Value.agg (List.toArray [Value.int .i64 b.1, Value.int .i64 b.2])) rfl (e_load_bxN (ds := [Value.int .i64 b.1, Value.int .i64 b.2]) tp23_gm rfl bx10 rfl rfl) ?_
   replace bx15 := bx15.chg hc30 (not_no _)
   refine l_val (v := Value.agg (List.toArray [Value.int .i64 c.1, Value.int .i64 c.2])) rfl (e_load_bxN (ds := [Value.int .i64 c.1, Value.int .i64 c.2]) tp23_gm rfl bx15 rfl rfl) ?_
   refine l_op rfl ?_
   refine o_call (v := Value.bool (decide (onP a b c))) (e_call (vals := [Value.agg (List.toArray [Value.int .i64 a.1, Value.int .i64 a.2]), Value.agg (List.toArray [Value.int .i64 b.1, Value.int .i64 b.2]), Value.agg (List.toArray [Value.int .i64 c.1, Value.int .i64 c.2])]) Try.func46 bd46_gm nm46_gm rfl) (on_ok w29 a b c (by assumption) (by assumption) (by assumption)) ?_
   intro w75 hb76
   replace hb76 := chg_below hb76 g19
   refine l_val (v := Value.bool (decide (onP a b c))) rfl (e_move rfl) ?_
   by_cases q65 : (decide (onP a b c)) = true
   ·
    refine l_skip (want_n rfl rfl rfl q65) (l_skip (want_n rfl rfl rfl q65) (l_skip (want_n rfl rfl rfl q65) (l_skip (want_n rfl rfl rfl q65) ?_)))
    refine l_val (v := Value.bool true) rfl (e_pick_t rfl q65 rfl) ?_
    refine l_val (v := Value.bool true) rfl (e_move rfl) ?_
    refine l_skip (want_n rfl rfl rfl rfl) (l_skip (want_n rfl rfl rfl rfl) (l_skip (want_n rfl rfl rfl rfl) (l_skip (want_n rfl rfl rfl rfl) ?_)))
    refine l_val (v := Value.bool true) rfl (e_pick_t rfl rfl rfl) ?_
    refine l_val (v := Value.bool true) rfl (e_move rfl) ?_
    refine l_skip (want_n rfl rfl rfl rfl) (l_skip (want_n rfl rfl rfl rfl) (l_skip (want_n rfl rfl rfl rfl) (l_skip (want_n rfl rfl rfl rfl) ?_)))
    refine l_val (v := Value.bool true) rfl (e_pick_t rfl rfl rfl) ?_
    refine l_val (v := Value.bool true) rfl (e_assign rfl) ?_
    refine l_nil ?_
    refine run_cond_t rfl rfl ?_
    refine run_seq ?_
    clear bx5
    clear bx10
    clear bx15
    clear bx20
    refine run_region rfl ?_
    refine l_val (v := Value.int .i64 2) rfl (e_assign rfl) ?_
    refine l_nil ?_
    refine run_ret (vs := [Value.int .i64 2]) Try.func36 (.tmp rfl .nil) ?_
    -- return 18
    have e0 : (2 : Int) = (meetP a b c d) := by
      first
        | with_reducible exact meetP_line (by assumption) (by assumption) (by assumption) (by assumption)
        | with_reducible exact meetP_cross (by assumption) (by assumption)
        | ((with_reducible first | refine meetP_touch ?_ ?_ (by first | exact o1 ‹_› | exact o2 ‹_› | exact o3 ‹_› | exact o4 ‹_›) | refine meetP_apart ?_ ?_ (o5 ‹_› ‹_› ‹_› ‹_›)) <;> first | assumption | (rintro ⟨_, _, _, _⟩; contradiction) | (rintro ⟨_, _⟩; contradiction))
    have C77 : Chg (inl []) _ _ _ _ := (ch2.n).seq ((ch7.n).seq ((ch12.n).seq ((ch17.n).seq ((ch21.n).seq ((hc26.n).seq ((ch27.n).seq ((hc30.n).seq (hb76.n))))))))
    replace hbase := hbase.chg C77 (is_nl rfl)
    exact ⟨(congrArg (a₁ := 2) (fun (z0 : Int) => Ending.returned (Value.int .i64 z0)) e0), hbase.below⟩
   replace bx5 := bx5.chg hb76 (not_no _)
   refine l_val (v := Value.agg (List.toArray [Value.int .i64 a.1, Value.int .i64 a.2])) (want_y rfl rfl rfl (Bool.eq_false_iff.2 q65)) (e_load_bxN (ds := [Value.int .i64 a.1, Value.int .i64 a.2]) tp23_gm rfl bx5 rfl rfl) ?_
   replace bx10 := bx10.chg hb76 (not_no _)
   refine l_val (v := Value.agg (List.toArray [Value.int .i64 b.1, Value.int .i64 b.2])) (want_y rfl rfl rfl (Bool.eq_false_iff.2 q65)) (e_load_bxN (ds := [Value.int .i64 b.1, Value.int .i64 b.2]) tp23_gm rfl bx10 rfl rfl) ?_
   replace bx20 := (bx20.chg hc30 (not_no _)).chg hb76 (not_no _)
   refine l_val (v := Value.agg (List.toArray [Value.int .i64 d.1, Value.int .i64 d.2])) (want_y rfl rfl rfl (Bool.eq_false_iff.2 q65)) (e_load_bxN (ds := [Value.int .i64 d.1, Value.int .i64 d.2]) tp23_gm rfl bx20 rfl rfl) ?_
   refine l_op (want_y rfl rfl rfl (Bool.eq_false_iff.2 q65)) ?_
   refine o_call (v := Value.bool (decide (onP a b d))) (e_call (vals := [Value.agg (List.toArray [Value.int .i64 a.1, Value.int .i64 a.2]), Value.agg (List.toArray [Value.int .i64 b.1, Value.int .i64 b.2]), Value.agg (List.toArray [Value.int .i64 d.1, Value.int .i64 d.2])]) Try.func46 bd46_gm nm46_gm rfl) (on_ok w75 a b d (by assumption) (by assumption) (by assumption)) ?_
   intro w78 hb79
   replace hb79 := chg_below hb79 g19
   refine l_val (v := Value.bool (decide (onP a b d))) rfl (e_pick_f rfl (Bool.eq_false_iff.2 q65) rfl) ?_
   refine l_val (v := Value.bool (decide (onP a b d))) rfl (e_move rfl) ?_
   by_cases q71 : (decide (onP a b d)) = true
   ·
    refine l_skip (want_n rfl rfl rfl q71) (l_skip (want_n rfl rfl rfl q71) (l_skip (want_n rfl rfl rfl q71) (l_skip (want_n rfl rfl rfl q71) ?_)))
    refine l_val (v := Value.bool true) rfl (e_pick_t rfl q71 rfl) ?_
    refine l_val (v := Value.bool true) rfl (e_move rfl) ?_
    refine l_skip (want_n rfl rfl rfl rfl) (l_skip (want_n rfl rfl rfl rfl) (l_skip (want_n rfl rfl rfl rfl) (l_skip (want_n rfl rfl rfl rfl) ?_)))
    refine l_val (v := Value.bool true) rfl (e_pick_t rfl rfl rfl) ?_
    refine l_val (v := Value.bool true) rfl (e_assign rfl) ?_
    refine l_nil ?_
    refine run_cond_t rfl rfl ?_
    refine run_seq ?_
    clear bx5
    clear bx10
    clear bx15
    clear bx20
    refine run_region rfl ?_
    refine l_val (v := Value.int .i64 2) rfl (e_assign rfl) ?_
    refine l_nil ?_
    refine run_ret (vs := [Value.int .i64 2]) Try.func36 (.tmp rfl .nil) ?_
    -- return 19
    have e0 : (2 : Int) = (meetP a b c d) := by
      first
        | with_reducible exact meetP_line (by assumption) (by assumption) (by assumption) (by assumption)
        | with_reducible exact meetP_cross (by assumption) (by assumption)
        | ((with_reducible first | refine meetP_touch ?_ ?_ (by first | exact o1 ‹_› | exact o2 ‹_› | exact o3 ‹_› | exact o4 ‹_›) | refine meetP_apart ?_ ?_ (o5 ‹_› ‹_› ‹_› ‹_›)) <;> first | assumption | (rintro ⟨_, _, _, _⟩; contradiction) | (rintro ⟨_, _⟩; contradiction))
    have C80 : Chg (inl []) _ _ _ _ := (ch2.n).seq ((ch7.n).seq ((ch12.n).seq ((ch17.n).seq ((ch21.n).seq ((hc26.n).seq ((ch27.n).seq ((hc30.n).seq ((hb76.n).seq (hb79.n)))))))))
    replace hbase := hbase.chg C80 (is_nl rfl)
    exact ⟨(congrArg (a₁ := 2) (fun (z0 : Int) => Ending.returned (Value.int .i64 z0)) e0), hbase.below⟩
   replace bx15 := (bx15.chg hb76 (not_no _)).chg hb79 (not_no _)
   refine l_val (v := Value.agg (List.toArray [Value.int .i64 c.1, Value.int .i64 c.2])) (want_y rfl rfl rfl (Bool.eq_false_iff.2 q71)) (e_load_bxN (ds := [Value.int .i64 c.1, Value.int .i64 c.2]) tp23_gm rfl bx15 rfl rfl) ?_
   replace bx20 := bx20.chg hb79 (not_no _)
   refine l_val (v := Value.agg (List.toArray [Value.int .i64 d.1, Value.int .i64 d.2])) (want_y rfl rfl rfl (Bool.eq_false_iff.2 q71)) (e_load_bxN (ds := [Value.int .i64 d.1, Value.int .i64 d.2]) tp23_gm rfl bx20 rfl rfl) ?_
   replace bx5 := bx5.chg hb79 (not_no _)
   refine l_val (v := Value.agg (List.toArray [Value.int .i64 a.1, Value.int .i64 a.2])) (want_y rfl rfl rfl (Bool.eq_false_iff.2 q71)) (e_load_bxN (ds := [Value.int .i64 a.1, Value.int .i64 a.2]) tp23_gm rfl bx5 rfl rfl) ?_
   refine l_op (want_y rfl rfl rfl (Bool.eq_false_iff.2 q71)) ?_
   refine o_call (v := Value.bool (decide (onP c d a))) (e_call (vals := [Value.agg (List.toArray [Value.int .i64 c.1, Value.int .i64 c.2]), Value.agg (List.toArray [Value.int .i64 d.1, Value.int .i64 d.2]), Value.agg (List.toArray [Value.int .i64 a.1, Value.int .i64 a.2])]) Try.func46 bd46_gm nm46_gm rfl) (on_ok w78 c d a (by assumption) (by assumption) (by assumption)) ?_
   intro w81 hb82
   replace hb82 := chg_below hb82 g19
   refine l_val (v := Value.bool (decide (onP c d a))) rfl (e_pick_f rfl (Bool.eq_false_iff.2 q71) rfl) ?_
   refine l_val (v := Value.bool (decide (onP c d a))) rfl (e_move rfl) ?_
   by_cases q77 : (decide (onP c d a)) = true
   ·
    refine l_skip (want_n rfl rfl rfl q77) (l_skip (want_n rfl rfl rfl q77) (l_skip (want_n rfl rfl rfl q77) (l_skip (want_n rfl rfl rfl q77) ?_)))
    refine l_val (v := Value.bool true) rfl (e_pick_t rfl q77 rfl) ?_
    refine l_val (v := Value.bool true) rfl (e_assign rfl) ?_
    refine l_nil ?_
    refine run_cond_t rfl rfl ?_
    refine run_seq ?_
    clear bx5
    clear bx10
    clear bx15
    clear bx20
    refine run_region rfl ?_
    refine l_val (v := Value.int .i64 2) rfl (e_assign rfl) ?_
    refine l_nil ?_
    refine run_ret (vs := [Value.int .i64 2]) Try.func36 (.tmp rfl .nil) ?_
    -- return 20
    have e0 : (2 : Int) = (meetP a b c d) := by
      first
        | with_reducible exact meetP_line (by assumption) (by assumption) (by assumption) (by assumption)
        | with_reducible exact meetP_cross (by assumption) (by assumption)
        | ((with_reducible first | refine meetP_touch ?_ ?_ (by first | exact o1 ‹_› | exact o2 ‹_› | exact o3 ‹_› | exact o4 ‹_›) | refine meetP_apart ?_ ?_ (o5 ‹_› ‹_› ‹_› ‹_›)) <;> first | assumption | (rintro ⟨_, _, _, _⟩; contradiction) | (rintro ⟨_, _⟩; contradiction))
    have C83 : Chg (inl []) _ _ _ _ := (ch2.n).seq ((ch7.n).seq ((ch12.n).seq ((ch17.n).seq ((ch21.n).seq ((hc26.n).seq ((ch27.n).seq ((hc30.n).seq ((hb76.n).seq ((hb79.n).seq (hb82.n))))))))))
    replace hbase := hbase.chg C83 (is_nl rfl)
    exact ⟨(congrArg (a₁ := 2) (fun (z0 : Int) => Ending.returned (Value.int .i64 z0)) e0), hbase.below⟩
   replace bx15 := bx15.chg hb82 (not_no _)
   refine l_val (v := Value.agg (List.toArray [Value.int .i64 c.1, Value.int .i64 c.2])) (want_y rfl rfl rfl (Bool.eq_false_iff.2 q77)) (e_load_bxN (ds := [Value.int .i64 c.1, Value.int .i64 c.2]) tp23_gm rfl bx15 rfl rfl) ?_
   replace bx20 := bx20.chg hb82 (not_no _)
   refine l_val (v := Value.agg (List.toArray [Value.int .i64 d.1, Value.int .i64 d.2])) (want_y rfl rfl rfl (Bool.eq_false_iff.2 q77)) (e_load_bxN (ds := [Value.int .i64 d.1, Value.int .i64 d.2]) tp23_gm rfl bx20 rfl rfl) ?_
   replace bx10 := (bx10.chg hb79 (not_no _)).chg hb82 (not_no _)
   refine l_val (v := Value.agg (List.toArray [Value.int .i64 b.1, Value.int .i64 b.2])) (want_y rfl rfl rfl (Bool.eq_false_iff.2 q77)) (e_load_bxN (ds := [Value.int .i64 b.1, Value.int .i64 b.2]) tp23_gm rfl bx10 rfl rfl) ?_
   refine l_op (want_y rfl rfl rfl (Bool.eq_false_iff.2 q77)) ?_
   refine o_call (v := Value.bool (decide (onP c d b))) (e_call (vals := [Value.agg (List.toArray [Value.int .i64 c.1, Value.int .i64 c.2]), Value.agg (List.toArray [Value.int .i64 d.1, Value.int .i64 d.2]), Value.agg (List.toArray [Value.int .i64 b.1, Value.int .i64 b.2])]) Try.func46 bd46_gm nm46_gm rfl) (on_ok w81 c d b (by assumption) (by assumption) (by assumption)) ?_
   intro w84 hb85
   replace hb85 := chg_below hb85 g19
   refine l_val (v := Value.bool (decide (onP c d b))) rfl (e_pick_f rfl (Bool.eq_false_iff.2 q77) rfl) ?_
   refine l_val (v := Value.bool (decide (onP c d b))) rfl (e_assign rfl) ?_
   refine l_nil ?_
   by_cases p7 : (decide (onP c d b)) = true
   ·
    refine run_cond_t rfl p7 ?_
    refine run_seq ?_
    clear bx5
    clear bx10
    clear bx15
    clear bx20
    refine run_region rfl ?_
    refine l_val (v := Value.int .i64 2) rfl (e_assign rfl) ?_
    refine l_nil ?_
    refine run_ret (vs := [Value.int .i64 2]) Try.func36 (.tmp rfl .nil) ?_
    -- return 21
    have e0 : (2 : Int) = (meetP a b c d) := by
      first
        | with_reducible exact meetP_line (by assumption) (by assumption) (by assumption) (by assumption)
        | with_reducible exact meetP_cross (by assumption) (by assumption)
        | ((with_reducible first | refine meetP_touch ?_ ?_ (by first | exact o1 ‹_› | exact o2 ‹_› | exact o3 ‹_› | exact o4 ‹_›) | refine meetP_apart ?_ ?_ (o5 ‹_› ‹_› ‹_› ‹_›)) <;> first | assumption | (rintro ⟨_, _, _, _⟩; contradiction) | (rintro ⟨_, _⟩; contradiction))
    have C86 : Chg (inl []) _ _ _ _ := (ch2.n).seq ((ch7.n).seq ((ch12.n).seq ((ch17.n).seq ((ch21.n).seq ((hc26.n).seq ((ch27.n).seq ((hc30.n).seq ((hb76.n).seq ((hb79.n).seq ((hb82.n).seq (hb85.n)))))))))))
    replace hbase := hbase.chg C86 (is_nl rfl)
    exact ⟨(congrArg (a₁ := 2) (fun (z0 : Int) => Ending.returned (Value.int .i64 z0)) e0), hbase.below⟩
   refine run_cond_f rfl (Bool.eq_false_iff.2 p7) ?_
   refine run_skip ?_
   refine run_inBlock ?_
   refine run_seq ?_
   clear bx5
   clear bx10
   clear bx15
   clear bx20
   refine run_region rfl ?_
   refine l_val (v := Value.int .i64 0) rfl (e_assign rfl) ?_
   refine l_nil ?_
   refine run_ret (vs := [Value.int .i64 0]) Try.func36 (.tmp rfl .nil) ?_
   -- return 22
   have e0 : (0 : Int) = (meetP a b c d) := by
     first
       | with_reducible exact meetP_line (by assumption) (by assumption) (by assumption) (by assumption)
       | with_reducible exact meetP_cross (by assumption) (by assumption)
       | ((with_reducible first | refine meetP_touch ?_ ?_ (by first | exact o1 ‹_› | exact o2 ‹_› | exact o3 ‹_› | exact o4 ‹_›) | refine meetP_apart ?_ ?_ (o5 ‹_› ‹_› ‹_› ‹_›)) <;> first | assumption | (rintro ⟨_, _, _, _⟩; contradiction) | (rintro ⟨_, _⟩; contradiction))
   have C87 : Chg (inl []) _ _ _ _ := (ch2.n).seq ((ch7.n).seq ((ch12.n).seq ((ch17.n).seq ((ch21.n).seq ((hc26.n).seq ((ch27.n).seq ((hc30.n).seq ((hb76.n).seq ((hb79.n).seq ((hb82.n).seq (hb85.n)))))))))))
   replace hbase := hbase.chg C87 (is_nl rfl)
   exact ⟨(congrArg (a₁ := 0) (fun (z0 : Int) => Ending.returned (Value.int .i64 z0)) e0), hbase.below⟩
  refine l_skip (want_n rfl rfl rfl (decide_eq_false q36)) ?_
  refine l_skip (want_n rfl rfl rfl (decide_eq_false q36)) ?_
  refine l_val (v := Value.bool false) rfl (e_pick_f rfl (decide_eq_false q36) rfl) ?_
  refine l_val (v := Value.bool false) rfl (e_move rfl) ?_
  refine l_skip (want_n rfl rfl rfl rfl) (l_skip (want_n rfl rfl rfl rfl) ?_)
  refine l_val (v := Value.bool false) rfl (e_pick_f rfl rfl rfl) ?_
  refine l_val (v := Value.bool false) rfl (e_assign rfl) ?_
  refine l_nil ?_
  refine run_cond_f rfl rfl ?_
  refine run_seq (run_region rfl ?_)
  refine l_val (v := Value.int .i64 (trn a b c)) rfl (e_move rfl) ?_
  refine l_val (v := Value.int .i64 (trn a b d)) rfl (e_move rfl) ?_
  refine l_val (v := Value.int .i64 ((trn a b c) * (trn a b d))) rfl (e_mul (m := trn a b c) (n := trn a b d) rfl rfl (by omega)) ?_
  refine l_val (v := Value.bool (decide (((trn a b c) * (trn a b d)) < 0))) rfl (e_lss (m := (trn a b c) * (trn a b d)) (n := 0) rfl rfl) ?_
  refine l_val (v := Value.bool (decide (((trn a b c) * (trn a b d)) < 0))) rfl (e_move rfl) ?_
  by_cases q54 : ((trn a b c) * (trn a b d)) < 0
  ·
   refine l_val (v := Value.int .i64 (trn c d a)) (want_y rfl rfl rfl (decide_eq_true q54)) (e_move rfl) ?_
   refine l_val (v := Value.int .i64 (trn c d b)) (want_y rfl rfl rfl (decide_eq_true q54)) (e_move rfl) ?_
   refine l_val (v := Value.int .i64 ((trn c d a) * (trn c d b))) (want_y rfl rfl rfl (decide_eq_true q54)) (e_mul (m := trn c d a) (n := trn c d b) rfl rfl (by omega)) ?_
   refine l_val (v := Value.bool (decide (((trn c d a) * (trn c d b)) < 0))) (want_y rfl rfl rfl (decide_eq_true q54)) (e_lss (m := (trn c d a) * (trn c d b)) (n := 0) rfl rfl) ?_
   refine l_val (v := Value.bool (decide (((trn c d a) * (trn c d b)) < 0))) rfl (e_pick_t rfl (decide_eq_true q54) rfl) ?_
   refine l_val (v := Value.bool (decide (((trn c d a) * (trn c d b)) < 0))) rfl (e_assign rfl) ?_
   refine l_nil ?_
   by_cases p5 : ((trn c d a) * (trn c d b)) < 0
   ·
    refine run_cond_t rfl (decide_eq_true p5) ?_
    refine run_seq ?_
    clear bx5
    clear bx10
    clear bx15
    clear bx20
    refine run_region rfl ?_
    refine l_val (v := Value.int .i64 1) rfl (e_assign rfl) ?_
    refine l_nil ?_
    refine run_ret (vs := [Value.int .i64 1]) Try.func36 (.tmp rfl .nil) ?_
    -- return 23
    have e0 : (1 : Int) = (meetP a b c d) := by
      first
        | with_reducible exact meetP_line (by assumption) (by assumption) (by assumption) (by assumption)
        | with_reducible exact meetP_cross (by assumption) (by assumption)
        | ((with_reducible first | refine meetP_touch ?_ ?_ (by first | exact o1 ‹_› | exact o2 ‹_› | exact o3 ‹_› | exact o4 ‹_›) | refine meetP_apart ?_ ?_ (o5 ‹_› ‹_› ‹_› ‹_›)) <;> first | assumption | (rintro ⟨_, _, _, _⟩; contradiction) | (rintro ⟨_, _⟩; contradiction))
    have C88 : Chg (inl []) _ _ _ _ := (ch2.n).seq ((ch7.n).seq ((ch12.n).seq ((ch17.n).seq ((ch21.n).seq ((hc26.n).seq ((ch27.n).seq (hc30.n)))))))
    replace hbase := hbase.chg C88 (is_nl rfl)
    exact ⟨(congrArg (a₁ := 1) (fun (z0 : Int) => Ending.returned (Value.int .i64 z0)) e0), hbase.below⟩
   refine run_cond_f rfl (decide_eq_false p5) ?_
   refine run_seq (run_region rfl ?_)
   replace bx5 := bx5.chg hc30 (not_no _)
   refine l_val (v := Value.agg (List.toArray [Value.int .i64 a.1, Value.int .i64 a.2])) rfl (e_load_bxN (ds := [Value.int .i64 a.1, Value.int .i64 a.2]) tp23_gm rfl bx5 rfl rfl) ?_
   replace bx10 := bx10.chg hc30 (not_no _)
   refine l_val (v := Value.agg (List.toArray [Value.int .i64 b.1, Value.int .i64 b.2])) rfl (e_load_bxN (ds := [Value.int .i64 b.1, Value.int .i64 b.2]) tp23_gm rfl bx10 rfl rfl) ?_
   replace bx15 := bx15.chg hc30 (not_no _)
   refine l_val (v := Value.agg (List.toArray [Value.int .i64 c.1, Value.int .i64 c.2])) rfl (e_load_bxN (ds := [Value.int .i64 c.1, Value.int .i64 c.2]) tp23_gm rfl bx15 rfl rfl) ?_
   refine l_op rfl ?_
   refine o_call (v := Value.bool (decide (onP a b c))) (e_call (vals := [Value.agg (List.toArray [Value.int .i64 a.1, Value.int .i64 a.2]), Value.agg (List.toArray [Value.int .i64 b.1, Value.int .i64 b.2]), Value.agg (List.toArray [Value.int .i64 c.1, Value.int .i64 c.2])]) Try.func46 bd46_gm nm46_gm rfl) (on_ok w29 a b c (by assumption) (by assumption) (by assumption)) ?_
   intro w89 hb90
   replace hb90 := chg_below hb90 g19
   refine l_val (v := Value.bool (decide (onP a b c))) rfl (e_move rfl) ?_
   by_cases q65 : (decide (onP a b c)) = true
   ·
    refine l_skip (want_n rfl rfl rfl q65) (l_skip (want_n rfl rfl rfl q65) (l_skip (want_n rfl rfl rfl q65) (l_skip (want_n rfl rfl rfl q65) ?_)))
    refine l_val (v := Value.bool true) rfl (e_pick_t rfl q65 rfl) ?_
    refine l_val (v := Value.bool true) rfl (e_move rfl) ?_
    refine l_skip (want_n rfl rfl rfl rfl) (l_skip (want_n rfl rfl rfl rfl) (l_skip (want_n rfl rfl rfl rfl) (l_skip (want_n rfl rfl rfl rfl) ?_)))
    refine l_val (v := Value.bool true) rfl (e_pick_t rfl rfl rfl) ?_
    refine l_val (v := Value.bool true) rfl (e_move rfl) ?_
    refine l_skip (want_n rfl rfl rfl rfl) (l_skip (want_n rfl rfl rfl rfl) (l_skip (want_n rfl rfl rfl rfl) (l_skip (want_n rfl rfl rfl rfl) ?_)))
    refine l_val (v := Value.bool true) rfl (e_pick_t rfl rfl rfl) ?_
    refine l_val (v := Value.bool true) rfl (e_assign rfl) ?_
    refine l_nil ?_
    refine run_cond_t rfl rfl ?_
    refine run_seq ?_
    clear bx5
    clear bx10
    clear bx15
    clear bx20
    refine run_region rfl ?_
    refine l_val (v := Value.int .i64 2) rfl (e_assign rfl) ?_
    refine l_nil ?_
    refine run_ret (vs := [Value.int .i64 2]) Try.func36 (.tmp rfl .nil) ?_
    -- return 24
    have e0 : (2 : Int) = (meetP a b c d) := by
      first
        | with_reducible exact meetP_line (by assumption) (by assumption) (by assumption) (by assumption)
        | with_reducible exact meetP_cross (by assumption) (by assumption)
        | ((with_reducible first | refine meetP_touch ?_ ?_ (by first | exact o1 ‹_› | exact o2 ‹_› | exact o3 ‹_› | exact o4 ‹_›) | refine meetP_apart ?_ ?_ (o5 ‹_› ‹_› ‹_› ‹_›)) <;> first | assumption | (rintro ⟨_, _, _, _⟩; contradiction) | (rintro ⟨_, _⟩; contradiction))
    have C91 : Chg (inl []) _ _ _ _ := (ch2.n).seq ((ch7.n).seq ((ch12.n).seq ((ch17.n).seq ((ch21.n).seq ((hc26.n).seq ((ch27.n).seq ((hc30.n).seq (hb90.n))))))))
    replace hbase := hbase.chg C91 (is_nl rfl)
    exact ⟨(congrArg (a₁ := 2) (fun (z0 : Int) => Ending.returned (Value.int .i64 z0)) e0), hbase.below⟩
   replace bx5 := bx5.chg hb90 (not_no _)
   refine l_val (v := Value.agg (List.toArray [Value.int .i64 a.1, Value.int .i64 a.2])) (want_y rfl rfl rfl (Bool.eq_false_iff.2 q65)) (e_load_bxN (ds := [Value.int .i64 a.1, Value.int .i64 a.2]) tp23_gm rfl bx5 rfl rfl) ?_
   replace bx10 := bx10.chg hb90 (not_no _)
   refine l_val (v := Value.agg (List.toArray [Value.int .i64 b.1, Value.int .i64 b.2])) (want_y rfl rfl rfl (Bool.eq_false_iff.2 q65)) (e_load_bxN (ds := [Value.int .i64 b.1, Value.int .i64 b.2]) tp23_gm rfl bx10 rfl rfl) ?_
   replace bx20 := (bx20.chg hc30 (not_no _)).chg hb90 (not_no _)
   refine l_val (v := Value.agg (List.toArray [Value.int .i64 d.1, Value.int .i64 d.2])) (want_y rfl rfl rfl (Bool.eq_false_iff.2 q65)) (e_load_bxN (ds := [Value.int .i64 d.1, Value.int .i64 d.2]) tp23_gm rfl bx20 rfl rfl) ?_
   refine l_op (want_y rfl rfl rfl (Bool.eq_false_iff.2 q65)) ?_
   refine o_call (v := Value.bool (decide (onP a b d))) (e_call (vals := [Value.agg (List.toArray [Value.int .i64 a.1, Value.int .i64 a.2]), Value.agg (List.toArray [Value.int .i64 b.1, Value.int .i64 b.2]), Value.agg (List.toArray [Value.int .i64 d.1, Value.int .i64 d.2])]) Try.func46 bd46_gm nm46_gm rfl) (on_ok w89 a b d (by assumption) (by assumption) (by assumption)) ?_
   intro w92 hb93
   replace hb93 := chg_below hb93 g19
   refine l_val (v := Value.bool (decide (onP a b d))) rfl (e_pick_f rfl (Bool.eq_false_iff.2 q65) rfl) ?_
   refine l_val (v := Value.bool (decide (onP a b d))) rfl (e_move rfl) ?_
   by_cases q71 : (decide (onP a b d)) = true
   ·
    refine l_skip (want_n rfl rfl rfl q71) (l_skip (want_n rfl rfl rfl q71) (l_skip (want_n rfl rfl rfl q71) (l_skip (want_n rfl rfl rfl q71) ?_)))
    refine l_val (v := Value.bool true) rfl (e_pick_t rfl q71 rfl) ?_
    refine l_val (v := Value.bool true) rfl (e_move rfl) ?_
    refine l_skip (want_n rfl rfl rfl rfl) (l_skip (want_n rfl rfl rfl rfl) (l_skip (want_n rfl rfl rfl rfl) (l_skip (want_n rfl rfl rfl rfl) ?_)))
    refine l_val (v := Value.bool true) rfl (e_pick_t rfl rfl rfl) ?_
    refine l_val (v := Value.bool true) rfl (e_assign rfl) ?_
    refine l_nil ?_
    refine run_cond_t rfl rfl ?_
    refine run_seq ?_
    clear bx5
    clear bx10
    clear bx15
    clear bx20
    refine run_region rfl ?_
    refine l_val (v := Value.int .i64 2) rfl (e_assign rfl) ?_
    refine l_nil ?_
    refine run_ret (vs := [Value.int .i64 2]) Try.func36 (.tmp rfl .nil) ?_
    -- return 25
    have e0 : (2 : Int) = (meetP a b c d) := by
      first
        | with_reducible exact meetP_line (by assumption) (by assumption) (by assumption) (by assumption)
        | with_reducible exact meetP_cross (by assumption) (by assumption)
        | ((with_reducible first | refine meetP_touch ?_ ?_ (by first | exact o1 ‹_› | exact o2 ‹_› | exact o3 ‹_› | exact o4 ‹_›) | refine meetP_apart ?_ ?_ (o5 ‹_› ‹_› ‹_› ‹_›)) <;> first | assumption | (rintro ⟨_, _, _, _⟩; contradiction) | (rintro ⟨_, _⟩; contradiction))
    have C94 : Chg (inl []) _ _ _ _ := (ch2.n).seq ((ch7.n).seq ((ch12.n).seq ((ch17.n).seq ((ch21.n).seq ((hc26.n).seq ((ch27.n).seq ((hc30.n).seq ((hb90.n).seq (hb93.n)))))))))
    replace hbase := hbase.chg C94 (is_nl rfl)
    exact ⟨(congrArg (a₁ := 2) (fun (z0 : Int) => Ending.returned (Value.int .i64 z0)) e0), hbase.below⟩
   replace bx15 := (bx15.chg hb90 (not_no _)).chg hb93 (not_no _)
   refine l_val (v := Value.agg (List.toArray [Value.int .i64 c.1, Value.int .i64 c.2])) (want_y rfl rfl rfl (Bool.eq_false_iff.2 q71)) (e_load_bxN (ds := [Value.int .i64 c.1, Value.int .i64 c.2]) tp23_gm rfl bx15 rfl rfl) ?_
   replace bx20 := bx20.chg hb93 (not_no _)
   refine l_val (v := Value.agg (List.toArray [Value.int .i64 d.1, Value.int .i64 d.2])) (want_y rfl rfl rfl (Bool.eq_false_iff.2 q71)) (e_load_bxN (ds := [Value.int .i64 d.1, Value.int .i64 d.2]) tp23_gm rfl bx20 rfl rfl) ?_
   replace bx5 := bx5.chg hb93 (not_no _)
   refine l_val (v := Value.agg (List.toArray [Value.int .i64 a.1, Value.int .i64 a.2])) (want_y rfl rfl rfl (Bool.eq_false_iff.2 q71)) (e_load_bxN (ds := [Value.int .i64 a.1, Value.int .i64 a.2]) tp23_gm rfl bx5 rfl rfl) ?_
   refine l_op (want_y rfl rfl rfl (Bool.eq_false_iff.2 q71)) ?_
   refine o_call (v := Value.bool (decide (onP c d a))) (e_call (vals := [Value.agg (List.toArray [Value.int .i64 c.1, Value.int .i64 c.2]), Value.agg (List.toArray [Value.int .i64 d.1, Value.int .i64 d.2]), Value.agg (List.toArray [Value.int .i64 a.1, Value.int .i64 a.2])]) Try.func46 bd46_gm nm46_gm rfl) (on_ok w92 c d a (by assumption) (by assumption) (by assumption)) ?_
   intro w95 hb96
   replace hb96 := chg_below hb96 g19
   refine l_val (v := Value.bool (decide (onP c d a))) rfl (e_pick_f rfl (Bool.eq_false_iff.2 q71) rfl) ?_
   refine l_val (v := Value.bool (decide (onP c d a))) rfl (e_move rfl) ?_
   by_cases q77 : (decide (onP c d a)) = true
   ·
    refine l_skip (want_n rfl rfl rfl q77) (l_skip (want_n rfl rfl rfl q77) (l_skip (want_n rfl rfl rfl q77) (l_skip (want_n rfl rfl rfl q77) ?_)))
    refine l_val (v := Value.bool true) rfl (e_pick_t rfl q77 rfl) ?_
    refine l_val (v := Value.bool true) rfl (e_assign rfl) ?_
    refine l_nil ?_
    refine run_cond_t rfl rfl ?_
    refine run_seq ?_
    clear bx5
    clear bx10
    clear bx15
    clear bx20
    refine run_region rfl ?_
    refine l_val (v := Value.int .i64 2) rfl (e_assign rfl) ?_
    refine l_nil ?_
    refine run_ret (vs := [Value.int .i64 2]) Try.func36 (.tmp rfl .nil) ?_
    -- return 26
    have e0 : (2 : Int) = (meetP a b c d) := by
      first
        | with_reducible exact meetP_line (by assumption) (by assumption) (by assumption) (by assumption)
        | with_reducible exact meetP_cross (by assumption) (by assumption)
        | ((with_reducible first | refine meetP_touch ?_ ?_ (by first | exact o1 ‹_› | exact o2 ‹_› | exact o3 ‹_› | exact o4 ‹_›) | refine meetP_apart ?_ ?_ (o5 ‹_› ‹_› ‹_› ‹_›)) <;> first | assumption | (rintro ⟨_, _, _, _⟩; contradiction) | (rintro ⟨_, _⟩; contradiction))
    have C97 : Chg (inl []) _ _ _ _ := (ch2.n).seq ((ch7.n).seq ((ch12.n).seq ((ch17.n).seq ((ch21.n).seq ((hc26.n).seq ((ch27.n).seq ((hc30.n).seq ((hb90.n).seq ((hb93.n).seq (hb96.n))))))))))
    replace hbase := hbase.chg C97 (is_nl rfl)
    exact ⟨(congrArg (a₁ := 2) (fun (z0 : Int) => Ending.returned (Value.int .i64 z0)) e0), hbase.below⟩
   replace bx15 := bx15.chg hb96 (not_no _)
   refine l_val (v := Value.agg (List.toArray [Value.int .i64 c.1, Value.int .i64 c.2])) (want_y rfl rfl rfl (Bool.eq_false_iff.2 q77)) (e_load_bxN (ds := [Value.int .i64 c.1, Value.int .i64 c.2]) tp23_gm rfl bx15 rfl rfl) ?_
   replace bx20 := bx20.chg hb96 (not_no _)
   refine l_val (v := Value.agg (List.toArray [Value.int .i64 d.1, Value.int .i64 d.2])) (want_y rfl rfl rfl (Bool.eq_false_iff.2 q77)) (e_load_bxN (ds := [Value.int .i64 d.1, Value.int .i64 d.2]) tp23_gm rfl bx20 rfl rfl) ?_
   replace bx10 := (bx10.chg hb93 (not_no _)).chg hb96 (not_no _)
   refine l_val (v := Value.agg (List.toArray [Value.int .i64 b.1, Value.int .i64 b.2])) (want_y rfl rfl rfl (Bool.eq_false_iff.2 q77)) (e_load_bxN (ds := [Value.int .i64 b.1, Value.int .i64 b.2]) tp23_gm rfl bx10 rfl rfl) ?_
   refine l_op (want_y rfl rfl rfl (Bool.eq_false_iff.2 q77)) ?_
   refine o_call (v := Value.bool (decide (onP c d b))) (e_call (vals := [Value.agg (List.toArray [Value.int .i64 c.1, Value.int .i64 c.2]), Value.agg (List.toArray [Value.int .i64 d.1, Value.int .i64 d.2]), Value.agg (List.toArray [Value.int .i64 b.1, Value.int .i64 b.2])]) Try.func46 bd46_gm nm46_gm rfl) (on_ok w95 c d b (by assumption) (by assumption) (by assumption)) ?_
   intro w98 hb99
   replace hb99 := chg_below hb99 g19
   refine l_val (v := Value.bool (decide (onP c d b))) rfl (e_pick_f rfl (Bool.eq_false_iff.2 q77) rfl) ?_
   refine l_val (v := Value.bool (decide (onP c d b))) rfl (e_assign rfl) ?_
   refine l_nil ?_
   by_cases p7 : (decide (onP c d b)) = true
   ·
    refine run_cond_t rfl p7 ?_
    refine run_seq ?_
    clear bx5
    clear bx10
    clear bx15
    clear bx20
    refine run_region rfl ?_
    refine l_val (v := Value.int .i64 2) rfl (e_assign rfl) ?_
    refine l_nil ?_
    refine run_ret (vs := [Value.int .i64 2]) Try.func36 (.tmp rfl .nil) ?_
    -- return 27
    have e0 : (2 : Int) = (meetP a b c d) := by
      first
        | with_reducible exact meetP_line (by assumption) (by assumption) (by assumption) (by assumption)
        | with_reducible exact meetP_cross (by assumption) (by assumption)
        | ((with_reducible first | refine meetP_touch ?_ ?_ (by first | exact o1 ‹_› | exact o2 ‹_› | exact o3 ‹_› | exact o4 ‹_›) | refine meetP_apart ?_ ?_ (o5 ‹_› ‹_› ‹_› ‹_›)) <;> first | assumption | (rintro ⟨_, _, _, _⟩; contradiction) | (rintro ⟨_, _⟩; contradiction))
    have C100 : Chg (inl []) _ _ _ _ := (ch2.n).seq ((ch7.n).seq ((ch12.n).seq ((ch17.n).seq ((ch21.n).seq ((hc26.n).seq ((ch27.n).seq ((hc30.n).seq ((hb90.n).seq ((hb93.n).seq ((hb96.n).seq (hb99.n)))))))))))
    replace hbase := hbase.chg C100 (is_nl rfl)
    exact ⟨(congrArg (a₁ := 2) (fun (z0 : Int) => Ending.returned (Value.int .i64 z0)) e0), hbase.below⟩
   refine run_cond_f rfl (Bool.eq_false_iff.2 p7) ?_
   refine run_skip ?_
   refine run_inBlock ?_
   refine run_seq ?_
   clear bx5
   clear bx10
   clear bx15
   clear bx20
   refine run_region rfl ?_
   refine l_val (v := Value.int .i64 0) rfl (e_assign rfl) ?_
   refine l_nil ?_
   refine run_ret (vs := [Value.int .i64 0]) Try.func36 (.tmp rfl .nil) ?_
   -- return 28
   have e0 : (0 : Int) = (meetP a b c d) := by
     first
       | with_reducible exact meetP_line (by assumption) (by assumption) (by assumption) (by assumption)
       | with_reducible exact meetP_cross (by assumption) (by assumption)
       | ((with_reducible first | refine meetP_touch ?_ ?_ (by first | exact o1 ‹_› | exact o2 ‹_› | exact o3 ‹_› | exact o4 ‹_›) | refine meetP_apart ?_ ?_ (o5 ‹_› ‹_› ‹_› ‹_›)) <;> first | assumption | (rintro ⟨_, _, _, _⟩; contradiction) | (rintro ⟨_, _⟩; contradiction))
   have C101 : Chg (inl []) _ _ _ _ := (ch2.n).seq ((ch7.n).seq ((ch12.n).seq ((ch17.n).seq ((ch21.n).seq ((hc26.n).seq ((ch27.n).seq ((hc30.n).seq ((hb90.n).seq ((hb93.n).seq ((hb96.n).seq (hb99.n)))))))))))
   replace hbase := hbase.chg C101 (is_nl rfl)
   exact ⟨(congrArg (a₁ := 0) (fun (z0 : Int) => Ending.returned (Value.int .i64 z0)) e0), hbase.below⟩
  refine l_skip (want_n rfl rfl rfl (decide_eq_false q54)) ?_
  refine l_skip (want_n rfl rfl rfl (decide_eq_false q54)) ?_
  refine l_skip (want_n rfl rfl rfl (decide_eq_false q54)) ?_
  refine l_skip (want_n rfl rfl rfl (decide_eq_false q54)) ?_
  refine l_val (v := Value.bool false) rfl (e_pick_f rfl (decide_eq_false q54) rfl) ?_
  refine l_val (v := Value.bool false) rfl (e_assign rfl) ?_
  refine l_nil ?_
  refine run_cond_f rfl rfl ?_
  refine run_seq (run_region rfl ?_)
  replace bx5 := bx5.chg hc30 (not_no _)
  refine l_val (v := Value.agg (List.toArray [Value.int .i64 a.1, Value.int .i64 a.2])) rfl (e_load_bxN (ds := [Value.int .i64 a.1, Value.int .i64 a.2]) tp23_gm rfl bx5 rfl rfl) ?_
  replace bx10 := bx10.chg hc30 (not_no _)
  refine l_val (v := Value.agg (List.toArray [Value.int .i64 b.1, Value.int .i64 b.2])) rfl (e_load_bxN (ds := [Value.int .i64 b.1, Value.int .i64 b.2]) tp23_gm rfl bx10 rfl rfl) ?_
  replace bx15 := bx15.chg hc30 (not_no _)
  refine l_val (v := Value.agg (List.toArray [Value.int .i64 c.1, Value.int .i64 c.2])) rfl (e_load_bxN (ds := [Value.int .i64 c.1, Value.int .i64 c.2]) tp23_gm rfl bx15 rfl rfl) ?_
  refine l_op rfl ?_
  refine o_call (v := Value.bool (decide (onP a b c))) (e_call (vals := [Value.agg (List.toArray [Value.int .i64 a.1, Value.int .i64 a.2]), Value.agg (List.toArray [Value.int .i64 b.1, Value.int .i64 b.2]), Value.agg (List.toArray [Value.int .i64 c.1, Value.int .i64 c.2])]) Try.func46 bd46_gm nm46_gm rfl) (on_ok w29 a b c (by assumption) (by assumption) (by assumption)) ?_
  intro w102 hb103
  replace hb103 := chg_below hb103 g19
  refine l_val (v := Value.bool (decide (onP a b c))) rfl (e_move rfl) ?_
  by_cases q65 : (decide (onP a b c)) = true
  ·
   refine l_skip (want_n rfl rfl rfl q65) (l_skip (want_n rfl rfl rfl q65) (l_skip (want_n rfl rfl rfl q65) (l_skip (want_n rfl rfl rfl q65) ?_)))
   refine l_val (v := Value.bool true) rfl (e_pick_t rfl q65 rfl) ?_
   refine l_val (v := Value.bool true) rfl (e_move rfl) ?_
   refine l_skip (want_n rfl rfl rfl rfl) (l_skip (want_n rfl rfl rfl rfl) (l_skip (want_n rfl rfl rfl rfl) (l_skip (want_n rfl rfl rfl rfl) ?_)))
   refine l_val (v := Value.bool true) rfl (e_pick_t rfl rfl rfl) ?_
   refine l_val (v := Value.bool true) rfl (e_move rfl) ?_
   refine l_skip (want_n rfl rfl rfl rfl) (l_skip (want_n rfl rfl rfl rfl) (l_skip (want_n rfl rfl rfl rfl) (l_skip (want_n rfl rfl rfl rfl) ?_)))
   refine l_val (v := Value.bool true) rfl (e_pick_t rfl rfl rfl) ?_
   refine l_val (v := Value.bool true) rfl (e_assign rfl) ?_
   refine l_nil ?_
   refine run_cond_t rfl rfl ?_
   refine run_seq ?_
   clear bx5
   clear bx10
   clear bx15
   clear bx20
   refine run_region rfl ?_
   refine l_val (v := Value.int .i64 2) rfl (e_assign rfl) ?_
   refine l_nil ?_
   refine run_ret (vs := [Value.int .i64 2]) Try.func36 (.tmp rfl .nil) ?_
   -- return 29
   have e0 : (2 : Int) = (meetP a b c d) := by
     first
       | with_reducible exact meetP_line (by assumption) (by assumption) (by assumption) (by assumption)
       | with_reducible exact meetP_cross (by assumption) (by assumption)
       | ((with_reducible first | refine meetP_touch ?_ ?_ (by first | exact o1 ‹_› | exact o2 ‹_› | exact o3 ‹_› | exact o4 ‹_›) | refine meetP_apart ?_ ?_ (o5 ‹_› ‹_› ‹_› ‹_›)) <;> first | assumption | (rintro ⟨_, _, _, _⟩; contradiction) | (rintro ⟨_, _⟩; contradiction))
   have C104 : Chg (inl []) _ _ _ _ := (ch2.n).seq ((ch7.n).seq ((ch12.n).seq ((ch17.n).seq ((ch21.n).seq ((hc26.n).seq ((ch27.n).seq ((hc30.n).seq (hb103.n))))))))
   replace hbase := hbase.chg C104 (is_nl rfl)
   exact ⟨(congrArg (a₁ := 2) (fun (z0 : Int) => Ending.returned (Value.int .i64 z0)) e0), hbase.below⟩
  replace bx5 := bx5.chg hb103 (not_no _)
  refine l_val (v := Value.agg (List.toArray [Value.int .i64 a.1, Value.int .i64 a.2])) (want_y rfl rfl rfl (Bool.eq_false_iff.2 q65)) (e_load_bxN (ds := [Value.int .i64 a.1, Value.int .i64 a.2]) tp23_gm rfl bx5 rfl rfl) ?_
  replace bx10 := bx10.chg hb103 (not_no _)
  refine l_val (v := Value.agg (List.toArray [Value.int .i64 b.1, Value.int .i64 b.2])) (want_y rfl rfl rfl (Bool.eq_false_iff.2 q65)) (e_load_bxN (ds := [Value.int .i64 b.1, Value.int .i64 b.2]) tp23_gm rfl bx10 rfl rfl) ?_
  replace bx20 := (bx20.chg hc30 (not_no _)).chg hb103 (not_no _)
  refine l_val (v := Value.agg (List.toArray [Value.int .i64 d.1, Value.int .i64 d.2])) (want_y rfl rfl rfl (Bool.eq_false_iff.2 q65)) (e_load_bxN (ds := [Value.int .i64 d.1, Value.int .i64 d.2]) tp23_gm rfl bx20 rfl rfl) ?_
  refine l_op (want_y rfl rfl rfl (Bool.eq_false_iff.2 q65)) ?_
  refine o_call (v := Value.bool (decide (onP a b d))) (e_call (vals := [Value.agg (List.toArray [Value.int .i64 a.1, Value.int .i64 a.2]), Value.agg (List.toArray [Value.int .i64 b.1, Value.int .i64 b.2]), Value.agg (List.toArray [Value.int .i64 d.1, Value.int .i64 d.2])]) Try.func46 bd46_gm nm46_gm rfl) (on_ok w102 a b d (by assumption) (by assumption) (by assumption)) ?_
  intro w105 hb106
  replace hb106 := chg_below hb106 g19
  refine l_val (v := Value.bool (decide (onP a b d))) rfl (e_pick_f rfl (Bool.eq_false_iff.2 q65) rfl) ?_
  refine l_val (v := Value.bool (decide (onP a b d))) rfl (e_move rfl) ?_
  by_cases q71 : (decide (onP a b d)) = true
  ·
   refine l_skip (want_n rfl rfl rfl q71) (l_skip (want_n rfl rfl rfl q71) (l_skip (want_n rfl rfl rfl q71) (l_skip (want_n rfl rfl rfl q71) ?_)))
   refine l_val (v := Value.bool true) rfl (e_pick_t rfl q71 rfl) ?_
   refine l_val (v := Value.bool true) rfl (e_move rfl) ?_
   refine l_skip (want_n rfl rfl rfl rfl) (l_skip (want_n rfl rfl rfl rfl) (l_skip (want_n rfl rfl rfl rfl) (l_skip (want_n rfl rfl rfl rfl) ?_)))
   refine l_val (v := Value.bool true) rfl (e_pick_t rfl rfl rfl) ?_
   refine l_val (v := Value.bool true) rfl (e_assign rfl) ?_
   refine l_nil ?_
   refine run_cond_t rfl rfl ?_
   refine run_seq ?_
   clear bx5
   clear bx10
   clear bx15
   clear bx20
   refine run_region rfl ?_
   refine l_val (v := Value.int .i64 2) rfl (e_assign rfl) ?_
   refine l_nil ?_
   refine run_ret (vs := [Value.int .i64 2]) Try.func36 (.tmp rfl .nil) ?_
   -- return 30
   have e0 : (2 : Int) = (meetP a b c d) := by
     first
       | with_reducible exact meetP_line (by assumption) (by assumption) (by assumption) (by assumption)
       | with_reducible exact meetP_cross (by assumption) (by assumption)
       | ((with_reducible first | refine meetP_touch ?_ ?_ (by first | exact o1 ‹_› | exact o2 ‹_› | exact o3 ‹_› | exact o4 ‹_›) | refine meetP_apart ?_ ?_ (o5 ‹_› ‹_› ‹_› ‹_›)) <;> first | assumption | (rintro ⟨_, _, _, _⟩; contradiction) | (rintro ⟨_, _⟩; contradiction))
   have C107 : Chg (inl []) _ _ _ _ := (ch2.n).seq ((ch7.n).seq ((ch12.n).seq ((ch17.n).seq ((ch21.n).seq ((hc26.n).seq ((ch27.n).seq ((hc30.n).seq ((hb103.n).seq (hb106.n)))))))))
   replace hbase := hbase.chg C107 (is_nl rfl)
   exact ⟨(congrArg (a₁ := 2) (fun (z0 : Int) => Ending.returned (Value.int .i64 z0)) e0), hbase.below⟩
  replace bx15 := (bx15.chg hb103 (not_no _)).chg hb106 (not_no _)
  refine l_val (v := Value.agg (List.toArray [Value.int .i64 c.1, Value.int .i64 c.2])) (want_y rfl rfl rfl (Bool.eq_false_iff.2 q71)) (e_load_bxN (ds := [Value.int .i64 c.1, Value.int .i64 c.2]) tp23_gm rfl bx15 rfl rfl) ?_
  replace bx20 := bx20.chg hb106 (not_no _)
  refine l_val (v := Value.agg (List.toArray [Value.int .i64 d.1, Value.int .i64 d.2])) (want_y rfl rfl rfl (Bool.eq_false_iff.2 q71)) (e_load_bxN (ds := [Value.int .i64 d.1, Value.int .i64 d.2]) tp23_gm rfl bx20 rfl rfl) ?_
  replace bx5 := bx5.chg hb106 (not_no _)
  refine l_val (v := Value.agg (List.toArray [Value.int .i64 a.1, Value.int .i64 a.2])) (want_y rfl rfl rfl (Bool.eq_false_iff.2 q71)) (e_load_bxN (ds := [Value.int .i64 a.1, Value.int .i64 a.2]) tp23_gm rfl bx5 rfl rfl) ?_
  refine l_op (want_y rfl rfl rfl (Bool.eq_false_iff.2 q71)) ?_
  refine o_call (v := Value.bool (decide (onP c d a))) (e_call (vals := [Value.agg (List.toArray [Value.int .i64 c.1, Value.int .i64 c.2]), Value.agg (List.toArray [Value.int .i64 d.1, Value.int .i64 d.2]), Value.agg (List.toArray [Value.int .i64 a.1, Value.int .i64 a.2])]) Try.func46 bd46_gm nm46_gm rfl) (on_ok w105 c d a (by assumption) (by assumption) (by assumption)) ?_
  intro w108 hb109
  replace hb109 := chg_below hb109 g19
  refine l_val (v := Value.bool (decide (onP c d a))) rfl (e_pick_f rfl (Bool.eq_false_iff.2 q71) rfl) ?_
  refine l_val (v := Value.bool (decide (onP c d a))) rfl (e_move rfl) ?_
  by_cases q77 : (decide (onP c d a)) = true
  ·
   refine l_skip (want_n rfl rfl rfl q77) (l_skip (want_n rfl rfl rfl q77) (l_skip (want_n rfl rfl rfl q77) (l_skip (want_n rfl rfl rfl q77) ?_)))
   refine l_val (v := Value.bool true) rfl (e_pick_t rfl q77 rfl) ?_
   refine l_val (v := Value.bool true) rfl (e_assign rfl) ?_
   refine l_nil ?_
   refine run_cond_t rfl rfl ?_
   refine run_seq ?_
   clear bx5
   clear bx10
   clear bx15
   clear bx20
   refine run_region rfl ?_
   refine l_val (v := Value.int .i64 2) rfl (e_assign rfl) ?_
   refine l_nil ?_
   refine run_ret (vs := [Value.int .i64 2]) Try.func36 (.tmp rfl .nil) ?_
   -- return 31
   have e0 : (2 : Int) = (meetP a b c d) := by
     first
       | with_reducible exact meetP_line (by assumption) (by assumption) (by assumption) (by assumption)
       | with_reducible exact meetP_cross (by assumption) (by assumption)
       | ((with_reducible first | refine meetP_touch ?_ ?_ (by first | exact o1 ‹_› | exact o2 ‹_› | exact o3 ‹_› | exact o4 ‹_›) | refine meetP_apart ?_ ?_ (o5 ‹_› ‹_› ‹_› ‹_›)) <;> first | assumption | (rintro ⟨_, _, _, _⟩; contradiction) | (rintro ⟨_, _⟩; contradiction))
   have C110 : Chg (inl []) _ _ _ _ := (ch2.n).seq ((ch7.n).seq ((ch12.n).seq ((ch17.n).seq ((ch21.n).seq ((hc26.n).seq ((ch27.n).seq ((hc30.n).seq ((hb103.n).seq ((hb106.n).seq (hb109.n))))))))))
   replace hbase := hbase.chg C110 (is_nl rfl)
   exact ⟨(congrArg (a₁ := 2) (fun (z0 : Int) => Ending.returned (Value.int .i64 z0)) e0), hbase.below⟩
  replace bx15 := bx15.chg hb109 (not_no _)
  refine l_val (v := Value.agg (List.toArray [Value.int .i64 c.1, Value.int .i64 c.2])) (want_y rfl rfl rfl (Bool.eq_false_iff.2 q77)) (e_load_bxN (ds := [Value.int .i64 c.1, Value.int .i64 c.2]) tp23_gm rfl bx15 rfl rfl) ?_
  replace bx20 := bx20.chg hb109 (not_no _)
  refine l_val (v := Value.agg (List.toArray [Value.int .i64 d.1, Value.int .i64 d.2])) (want_y rfl rfl rfl (Bool.eq_false_iff.2 q77)) (e_load_bxN (ds := [Value.int .i64 d.1, Value.int .i64 d.2]) tp23_gm rfl bx20 rfl rfl) ?_
  replace bx10 := (bx10.chg hb106 (not_no _)).chg hb109 (not_no _)
  refine l_val (v := Value.agg (List.toArray [Value.int .i64 b.1, Value.int .i64 b.2])) (want_y rfl rfl rfl (Bool.eq_false_iff.2 q77)) (e_load_bxN (ds := [Value.int .i64 b.1, Value.int .i64 b.2]) tp23_gm rfl bx10 rfl rfl) ?_
  refine l_op (want_y rfl rfl rfl (Bool.eq_false_iff.2 q77)) ?_
  refine o_call (v := Value.bool (decide (onP c d b))) (e_call (vals := [Value.agg (List.toArray [Value.int .i64 c.1, Value.int .i64 c.2]), Value.agg (List.toArray [Value.int .i64 d.1, Value.int .i64 d.2]), Value.agg (List.toArray [Value.int .i64 b.1, Value.int .i64 b.2])]) Try.func46 bd46_gm nm46_gm rfl) (on_ok w108 c d b (by assumption) (by assumption) (by assumption)) ?_
  intro w111 hb112
  replace hb112 := chg_below hb112 g19
  refine l_val (v := Value.bool (decide (onP c d b))) rfl (e_pick_f rfl (Bool.eq_false_iff.2 q77) rfl) ?_
  refine l_val (v := Value.bool (decide (onP c d b))) rfl (e_assign rfl) ?_
  refine l_nil ?_
  by_cases p7 : (decide (onP c d b)) = true
  ·
   refine run_cond_t rfl p7 ?_
   refine run_seq ?_
   clear bx5
   clear bx10
   clear bx15
   clear bx20
   refine run_region rfl ?_
   refine l_val (v := Value.int .i64 2) rfl (e_assign rfl) ?_
   refine l_nil ?_
   refine run_ret (vs := [Value.int .i64 2]) Try.func36 (.tmp rfl .nil) ?_
   -- return 32
   have e0 : (2 : Int) = (meetP a b c d) := by
     first
       | with_reducible exact meetP_line (by assumption) (by assumption) (by assumption) (by assumption)
       | with_reducible exact meetP_cross (by assumption) (by assumption)
       | ((with_reducible first | refine meetP_touch ?_ ?_ (by first | exact o1 ‹_› | exact o2 ‹_› | exact o3 ‹_› | exact o4 ‹_›) | refine meetP_apart ?_ ?_ (o5 ‹_› ‹_› ‹_› ‹_›)) <;> first | assumption | (rintro ⟨_, _, _, _⟩; contradiction) | (rintro ⟨_, _⟩; contradiction))
   have C113 : Chg (inl []) _ _ _ _ := (ch2.n).seq ((ch7.n).seq ((ch12.n).seq ((ch17.n).seq ((ch21.n).seq ((hc26.n).seq ((ch27.n).seq ((hc30.n).seq ((hb103.n).seq ((hb106.n).seq ((hb109.n).seq (hb112.n)))))))))))
   replace hbase := hbase.chg C113 (is_nl rfl)
   exact ⟨(congrArg (a₁ := 2) (fun (z0 : Int) => Ending.returned (Value.int .i64 z0)) e0), hbase.below⟩
  refine run_cond_f rfl (Bool.eq_false_iff.2 p7) ?_
  refine run_skip ?_
  refine run_inBlock ?_
  refine run_seq ?_
  clear bx5
  clear bx10
  clear bx15
  clear bx20
  refine run_region rfl ?_
  refine l_val (v := Value.int .i64 0) rfl (e_assign rfl) ?_
  refine l_nil ?_
  refine run_ret (vs := [Value.int .i64 0]) Try.func36 (.tmp rfl .nil) ?_
  -- return 33
  have e0 : (0 : Int) = (meetP a b c d) := by
    first
      | with_reducible exact meetP_line (by assumption) (by assumption) (by assumption) (by assumption)
      | with_reducible exact meetP_cross (by assumption) (by assumption)
      | ((with_reducible first | refine meetP_touch ?_ ?_ (by first | exact o1 ‹_› | exact o2 ‹_› | exact o3 ‹_› | exact o4 ‹_›) | refine meetP_apart ?_ ?_ (o5 ‹_› ‹_› ‹_› ‹_›)) <;> first | assumption | (rintro ⟨_, _, _, _⟩; contradiction) | (rintro ⟨_, _⟩; contradiction))
  have C114 : Chg (inl []) _ _ _ _ := (ch2.n).seq ((ch7.n).seq ((ch12.n).seq ((ch17.n).seq ((ch21.n).seq ((hc26.n).seq ((ch27.n).seq ((hc30.n).seq ((hb103.n).seq ((hb106.n).seq ((hb109.n).seq (hb112.n)))))))))))
  replace hbase := hbase.chg C114 (is_nl rfl)
  exact ⟨(congrArg (a₁ := 0) (fun (z0 : Int) => Ending.returned (Value.int .i64 z0)) e0), hbase.below⟩
 refine l_skip (want_n rfl rfl rfl (decide_eq_false q32)) ?_
 refine l_skip (want_n rfl rfl rfl (decide_eq_false q32)) ?_
 refine l_val (v := Value.bool false) rfl (e_pick_f rfl (decide_eq_false q32) rfl) ?_
 refine l_val (v := Value.bool false) rfl (e_move rfl) ?_
 refine l_skip (want_n rfl rfl rfl rfl) (l_skip (want_n rfl rfl rfl rfl) ?_)
 refine l_val (v := Value.bool false) rfl (e_pick_f rfl rfl rfl) ?_
 refine l_val (v := Value.bool false) rfl (e_move rfl) ?_
 refine l_skip (want_n rfl rfl rfl rfl) (l_skip (want_n rfl rfl rfl rfl) ?_)
 refine l_val (v := Value.bool false) rfl (e_pick_f rfl rfl rfl) ?_
 refine l_val (v := Value.bool false) rfl (e_assign rfl) ?_
 refine l_nil ?_
 refine run_cond_f rfl rfl ?_
 refine run_seq (run_region rfl ?_)
 refine l_val (v := Value.int .i64 (trn a b c)) rfl (e_move rfl) ?_
 refine l_val (v := Value.int .i64 (trn a b d)) rfl (e_move rfl) ?_
 refine l_val (v := Value.int .i64 ((trn a b c) * (trn a b d))) rfl (e_mul (m := trn a b c) (n := trn a b d) rfl rfl (by omega)) ?_
 refine l_val (v := Value.bool (decide (((trn a b c) * (trn a b d)) < 0))) rfl (e_lss (m := (trn a b c) * (trn a b d)) (n := 0) rfl rfl) ?_
 refine l_val (v := Value.bool (decide (((trn a b c) * (trn a b d)) < 0))) rfl (e_move rfl) ?_
 by_cases q54 : ((trn a b c) * (trn a b d)) < 0
 ·
  refine l_val (v := Value.int .i64 (trn c d a)) (want_y rfl rfl rfl (decide_eq_true q54)) (e_move rfl) ?_
  refine l_val (v := Value.int .i64 (trn c d b)) (want_y rfl rfl rfl (decide_eq_true q54)) (e_move rfl) ?_
  refine l_val (v := Value.int .i64 ((trn c d a) * (trn c d b))) (want_y rfl rfl rfl (decide_eq_true q54)) (e_mul (m := trn c d a) (n := trn c d b) rfl rfl (by omega)) ?_
  refine l_val (v := Value.bool (decide (((trn c d a) * (trn c d b)) < 0))) (want_y rfl rfl rfl (decide_eq_true q54)) (e_lss (m := (trn c d a) * (trn c d b)) (n := 0) rfl rfl) ?_
  refine l_val (v := Value.bool (decide (((trn c d a) * (trn c d b)) < 0))) rfl (e_pick_t rfl (decide_eq_true q54) rfl) ?_
  refine l_val (v := Value.bool (decide (((trn c d a) * (trn c d b)) < 0))) rfl (e_assign rfl) ?_
  refine l_nil ?_
  by_cases p5 : ((trn c d a) * (trn c d b)) < 0
  ·
   refine run_cond_t rfl (decide_eq_true p5) ?_
   refine run_seq ?_
   clear bx5
   clear bx10
   clear bx15
   clear bx20
   refine run_region rfl ?_
   refine l_val (v := Value.int .i64 1) rfl (e_assign rfl) ?_
   refine l_nil ?_
   refine run_ret (vs := [Value.int .i64 1]) Try.func36 (.tmp rfl .nil) ?_
   -- return 34
   have e0 : (1 : Int) = (meetP a b c d) := by
     first
       | with_reducible exact meetP_line (by assumption) (by assumption) (by assumption) (by assumption)
       | with_reducible exact meetP_cross (by assumption) (by assumption)
       | ((with_reducible first | refine meetP_touch ?_ ?_ (by first | exact o1 ‹_› | exact o2 ‹_› | exact o3 ‹_› | exact o4 ‹_›) | refine meetP_apart ?_ ?_ (o5 ‹_› ‹_› ‹_› ‹_›)) <;> first | assumption | (rintro ⟨_, _, _, _⟩; contradiction) | (rintro ⟨_, _⟩; contradiction))
   have C115 : Chg (inl []) _ _ _ _ := (ch2.n).seq ((ch7.n).seq ((ch12.n).seq ((ch17.n).seq ((ch21.n).seq ((hc26.n).seq ((ch27.n).seq (hc30.n)))))))
   replace hbase := hbase.chg C115 (is_nl rfl)
   exact ⟨(congrArg (a₁ := 1) (fun (z0 : Int) => Ending.returned (Value.int .i64 z0)) e0), hbase.below⟩
  refine run_cond_f rfl (decide_eq_false p5) ?_
  refine run_seq (run_region rfl ?_)
  replace bx5 := bx5.chg hc30 (not_no _)
  refine l_val (v := Value.agg (List.toArray [Value.int .i64 a.1, Value.int .i64 a.2])) rfl (e_load_bxN (ds := [Value.int .i64 a.1, Value.int .i64 a.2]) tp23_gm rfl bx5 rfl rfl) ?_
  replace bx10 := bx10.chg hc30 (not_no _)
  refine l_val (v := Value.agg (List.toArray [Value.int .i64 b.1, Value.int .i64 b.2])) rfl (e_load_bxN (ds := [Value.int .i64 b.1, Value.int .i64 b.2]) tp23_gm rfl bx10 rfl rfl) ?_
  replace bx15 := bx15.chg hc30 (not_no _)
  refine l_val (v := Value.agg (List.toArray [Value.int .i64 c.1, Value.int .i64 c.2])) rfl (e_load_bxN (ds := [Value.int .i64 c.1, Value.int .i64 c.2]) tp23_gm rfl bx15 rfl rfl) ?_
  refine l_op rfl ?_
  refine o_call (v := Value.bool (decide (onP a b c))) (e_call (vals := [Value.agg (List.toArray [Value.int .i64 a.1, Value.int .i64 a.2]), Value.agg (List.toArray [Value.int .i64 b.1, Value.int .i64 b.2]), Value.agg (List.toArray [Value.int .i64 c.1, Value.int .i64 c.2])]) Try.func46 bd46_gm nm46_gm rfl) (on_ok w29 a b c (by assumption) (by assumption) (by assumption)) ?_
  intro w116 hb117
  replace hb117 := chg_below hb117 g19
  refine l_val (v := Value.bool (decide (onP a b c))) rfl (e_move rfl) ?_
  by_cases q65 : (decide (onP a b c)) = true
  ·
   refine l_skip (want_n rfl rfl rfl q65) (l_skip (want_n rfl rfl rfl q65) (l_skip (want_n rfl rfl rfl q65) (l_skip (want_n rfl rfl rfl q65) ?_)))
   refine l_val (v := Value.bool true) rfl (e_pick_t rfl q65 rfl) ?_
   refine l_val (v := Value.bool true) rfl (e_move rfl) ?_
   refine l_skip (want_n rfl rfl rfl rfl) (l_skip (want_n rfl rfl rfl rfl) (l_skip (want_n rfl rfl rfl rfl) (l_skip (want_n rfl rfl rfl rfl) ?_)))
   refine l_val (v := Value.bool true) rfl (e_pick_t rfl rfl rfl) ?_
   refine l_val (v := Value.bool true) rfl (e_move rfl) ?_
   refine l_skip (want_n rfl rfl rfl rfl) (l_skip (want_n rfl rfl rfl rfl) (l_skip (want_n rfl rfl rfl rfl) (l_skip (want_n rfl rfl rfl rfl) ?_)))
   refine l_val (v := Value.bool true) rfl (e_pick_t rfl rfl rfl) ?_
   refine l_val (v := Value.bool true) rfl (e_assign rfl) ?_
   refine l_nil ?_
   refine run_cond_t rfl rfl ?_
   refine run_seq ?_
   clear bx5
   clear bx10
   clear bx15
   clear bx20
   refine run_region rfl ?_
   refine l_val (v := Value.int .i64 2) rfl (e_assign rfl) ?_
   refine l_nil ?_
   refine run_ret (vs := [Value.int .i64 2]) Try.func36 (.tmp rfl .nil) ?_
   -- return 35
   have e0 : (2 : Int) = (meetP a b c d) := by
     first
       | with_reducible exact meetP_line (by assumption) (by assumption) (by assumption) (by assumption)
       | with_reducible exact meetP_cross (by assumption) (by assumption)
       | ((with_reducible first | refine meetP_touch ?_ ?_ (by first | exact o1 ‹_› | exact o2 ‹_› | exact o3 ‹_› | exact o4 ‹_›) | refine meetP_apart ?_ ?_ (o5 ‹_› ‹_› ‹_› ‹_›)) <;> first | assumption | (rintro ⟨_, _, _, _⟩; contradiction) | (rintro ⟨_, _⟩; contradiction))
   have C118 : Chg (inl []) _ _ _ _ := (ch2.n).seq ((ch7.n).seq ((ch12.n).seq ((ch17.n).seq ((ch21.n).seq ((hc26.n).seq ((ch27.n).seq ((hc30.n).seq (hb117.n))))))))
   replace hbase := hbase.chg C118 (is_nl rfl)
   exact ⟨(congrArg (a₁ := 2) (fun (z0 : Int) => Ending.returned (Value.int .i64 z0)) e0), hbase.below⟩
  replace bx5 := bx5.chg hb117 (not_no _)
  refine l_val (v := Value.agg (List.toArray [Value.int .i64 a.1, Value.int .i64 a.2])) (want_y rfl rfl rfl (Bool.eq_false_iff.2 q65)) (e_load_bxN (ds := [Value.int .i64 a.1, Value.int .i64 a.2]) tp23_gm rfl bx5 rfl rfl) ?_
  replace bx10 := bx10.chg hb117 (not_no _)
  refine l_val (v := Value.agg (List.toArray [Value.int .i64 b.1, Value.int .i64 b.2])) (want_y rfl rfl rfl (Bool.eq_false_iff.2 q65)) (e_load_bxN (ds := [Value.int .i64 b.1, Value.int .i64 b.2]) tp23_gm rfl bx10 rfl rfl) ?_
  replace bx20 := (bx20.chg hc30 (not_no _)).chg hb117 (not_no _)
  refine l_val (v := Value.agg (List.toArray [Value.int .i64 d.1, Value.int .i64 d.2])) (want_y rfl rfl rfl (Bool.eq_false_iff.2 q65)) (e_load_bxN (ds := [Value.int .i64 d.1, Value.int .i64 d.2]) tp23_gm rfl bx20 rfl rfl) ?_
  refine l_op (want_y rfl rfl rfl (Bool.eq_false_iff.2 q65)) ?_
  refine o_call (v := Value.bool (decide (onP a b d))) (e_call (vals := [Value.agg (List.toArray [Value.int .i64 a.1, Value.int .i64 a.2]), Value.agg (List.toArray [Value.int .i64 b.1, Value.int .i64 b.2]), Value.agg (List.toArray [Value.int .i64 d.1, Value.int .i64 d.2])]) Try.func46 bd46_gm nm46_gm rfl) (on_ok w116 a b d (by assumption) (by assumption) (by assumption)) ?_
  intro w119 hb120
  replace hb120 := chg_below hb120 g19
  refine l_val (v := Value.bool (decide (onP a b d))) rfl (e_pick_f rfl (Bool.eq_false_iff.2 q65) rfl) ?_
  refine l_val (v := Value.bool (decide (onP a b d))) rfl (e_move rfl) ?_
  by_cases q71 : (decide (onP a b d)) = true
  ·
   refine l_skip (want_n rfl rfl rfl q71) (l_skip (want_n rfl rfl rfl q71) (l_skip (want_n rfl rfl rfl q71) (l_skip (want_n rfl rfl rfl q71) ?_)))
   refine l_val (v := Value.bool true) rfl (e_pick_t rfl q71 rfl) ?_
   refine l_val (v := Value.bool true) rfl (e_move rfl) ?_
   refine l_skip (want_n rfl rfl rfl rfl) (l_skip (want_n rfl rfl rfl rfl) (l_skip (want_n rfl rfl rfl rfl) (l_skip (want_n rfl rfl rfl rfl) ?_)))
   refine l_val (v := Value.bool true) rfl (e_pick_t rfl rfl rfl) ?_
   refine l_val (v := Value.bool true) rfl (e_assign rfl) ?_
   refine l_nil ?_
   refine run_cond_t rfl rfl ?_
   refine run_seq ?_
   clear bx5
   clear bx10
   clear bx15
   clear bx20
   refine run_region rfl ?_
   refine l_val (v := Value.int .i64 2) rfl (e_assign rfl) ?_
   refine l_nil ?_
   refine run_ret (vs := [Value.int .i64 2]) Try.func36 (.tmp rfl .nil) ?_
   -- return 36
   have e0 : (2 : Int) = (meetP a b c d) := by
     first
       | with_reducible exact meetP_line (by assumption) (by assumption) (by assumption) (by assumption)
       | with_reducible exact meetP_cross (by assumption) (by assumption)
       | ((with_reducible first | refine meetP_touch ?_ ?_ (by first | exact o1 ‹_› | exact o2 ‹_› | exact o3 ‹_› | exact o4 ‹_›) | refine meetP_apart ?_ ?_ (o5 ‹_› ‹_› ‹_› ‹_›)) <;> first | assumption | (rintro ⟨_, _, _, _⟩; contradiction) | (rintro ⟨_, _⟩; contradiction))
   have C121 : Chg (inl []) _ _ _ _ := (ch2.n).seq ((ch7.n).seq ((ch12.n).seq ((ch17.n).seq ((ch21.n).seq ((hc26.n).seq ((ch27.n).seq ((hc30.n).seq ((hb117.n).seq (hb120.n)))))))))
   replace hbase := hbase.chg C121 (is_nl rfl)
   exact ⟨(congrArg (a₁ := 2) (fun (z0 : Int) => Ending.returned (Value.int .i64 z0)) e0), hbase.below⟩
  replace bx15 := (bx15.chg hb117 (not_no _)).chg hb120 (not_no _)
  refine l_val (v := Value.agg (List.toArray [Value.int .i64 c.1, Value.int .i64 c.2])) (want_y rfl rfl rfl (Bool.eq_false_iff.2 q71)) (e_load_bxN (ds := [Value.int .i64 c.1, Value.int .i64 c.2]) tp23_gm rfl bx15 rfl rfl) ?_
  replace bx20 := bx20.chg hb120 (not_no _)
  refine l_val (v := Value.agg (List.toArray [Value.int .i64 d.1, Value.int .i64 d.2])) (want_y rfl rfl rfl (Bool.eq_false_iff.2 q71)) (e_load_bxN (ds := [Value.int .i64 d.1, Value.int .i64 d.2]) tp23_gm rfl bx20 rfl rfl) ?_
  replace bx5 := bx5.chg hb120 (not_no _)
  refine l_val (v := Value.agg (List.toArray [Value.int .i64 a.1, Value.int .i64 a.2])) (want_y rfl rfl rfl (Bool.eq_false_iff.2 q71)) (e_load_bxN (ds := [Value.int .i64 a.1, Value.int .i64 a.2]) tp23_gm rfl bx5 rfl rfl) ?_
  refine l_op (want_y rfl rfl rfl (Bool.eq_false_iff.2 q71)) ?_
  refine o_call (v := Value.bool (decide (onP c d a))) (e_call (vals := [Value.agg (List.toArray [Value.int .i64 c.1, Value.int .i64 c.2]), Value.agg (List.toArray [Value.int .i64 d.1, Value.int .i64 d.2]), Value.agg (List.toArray [Value.int .i64 a.1, Value.int .i64 a.2])]) Try.func46 bd46_gm nm46_gm rfl) (on_ok w119 c d a (by assumption) (by assumption) (by assumption)) ?_
  intro w122 hb123
  replace hb123 := chg_below hb123 g19
  refine l_val (v := Value.bool (decide (onP c d a))) rfl (e_pick_f rfl (Bool.eq_false_iff.2 q71) rfl) ?_
  refine l_val (v := Value.bool (decide (onP c d a))) rfl (e_move rfl) ?_
  by_cases q77 : (decide (onP c d a)) = true
  ·
   refine l_skip (want_n rfl rfl rfl q77) (l_skip (want_n rfl rfl rfl q77) (l_skip (want_n rfl rfl rfl q77) (l_skip (want_n rfl rfl rfl q77) ?_)))
   refine l_val (v := Value.bool true) rfl (e_pick_t rfl q77 rfl) ?_
   refine l_val (v := Value.bool true) rfl (e_assign rfl) ?_
   refine l_nil ?_
   refine run_cond_t rfl rfl ?_
   refine run_seq ?_
   clear bx5
   clear bx10
   clear bx15
   clear bx20
   refine run_region rfl ?_
   refine l_val (v := Value.int .i64 2) rfl (e_assign rfl) ?_
   refine l_nil ?_
   refine run_ret (vs := [Value.int .i64 2]) Try.func36 (.tmp rfl .nil) ?_
   -- return 37
   have e0 : (2 : Int) = (meetP a b c d) := by
     first
       | with_reducible exact meetP_line (by assumption) (by assumption) (by assumption) (by assumption)
       | with_reducible exact meetP_cross (by assumption) (by assumption)
       | ((with_reducible first | refine meetP_touch ?_ ?_ (by first | exact o1 ‹_› | exact o2 ‹_› | exact o3 ‹_› | exact o4 ‹_›) | refine meetP_apart ?_ ?_ (o5 ‹_› ‹_› ‹_› ‹_›)) <;> first | assumption | (rintro ⟨_, _, _, _⟩; contradiction) | (rintro ⟨_, _⟩; contradiction))
   have C124 : Chg (inl []) _ _ _ _ := (ch2.n).seq ((ch7.n).seq ((ch12.n).seq ((ch17.n).seq ((ch21.n).seq ((hc26.n).seq ((ch27.n).seq ((hc30.n).seq ((hb117.n).seq ((hb120.n).seq (hb123.n))))))))))
   replace hbase := hbase.chg C124 (is_nl rfl)
   exact ⟨(congrArg (a₁ := 2) (fun (z0 : Int) => Ending.returned (Value.int .i64 z0)) e0), hbase.below⟩
  replace bx15 := bx15.chg hb123 (not_no _)
  refine l_val (v := Value.agg (List.toArray [Value.int .i64 c.1, Value.int .i64 c.2])) (want_y rfl rfl rfl (Bool.eq_false_iff.2 q77)) (e_load_bxN (ds := [Value.int .i64 c.1, Value.int .i64 c.2]) tp23_gm rfl bx15 rfl rfl) ?_
  replace bx20 := bx20.chg hb123 (not_no _)
  refine l_val (v := Value.agg (List.toArray [Value.int .i64 d.1, Value.int .i64 d.2])) (want_y rfl rfl rfl (Bool.eq_false_iff.2 q77)) (e_load_bxN (ds := [Value.int .i64 d.1, Value.int .i64 d.2]) tp23_gm rfl bx20 rfl rfl) ?_
  replace bx10 := (bx10.chg hb120 (not_no _)).chg hb123 (not_no _)
  refine l_val (v := Value.agg (List.toArray [Value.int .i64 b.1, Value.int .i64 b.2])) (want_y rfl rfl rfl (Bool.eq_false_iff.2 q77)) (e_load_bxN (ds := [Value.int .i64 b.1, Value.int .i64 b.2]) tp23_gm rfl bx10 rfl rfl) ?_
  refine l_op (want_y rfl rfl rfl (Bool.eq_false_iff.2 q77)) ?_
  refine o_call (v := Value.bool (decide (onP c d b))) (e_call (vals := [Value.agg (List.toArray [Value.int .i64 c.1, Value.int .i64 c.2]), Value.agg (List.toArray [Value.int .i64 d.1, Value.int .i64 d.2]), Value.agg (List.toArray [Value.int .i64 b.1, Value.int .i64 b.2])]) Try.func46 bd46_gm nm46_gm rfl) (on_ok w122 c d b (by assumption) (by assumption) (by assumption)) ?_
  intro w125 hb126
  replace hb126 := chg_below hb126 g19
  refine l_val (v := Value.bool (decide (onP c d b))) rfl (e_pick_f rfl (Bool.eq_false_iff.2 q77) rfl) ?_
  refine l_val (v := Value.bool (decide (onP c d b))) rfl (e_assign rfl) ?_
  refine l_nil ?_
  by_cases p7 : (decide (onP c d b)) = true
  ·
   refine run_cond_t rfl p7 ?_
   refine run_seq ?_
   clear bx5
   clear bx10
   clear bx15
   clear bx20
   refine run_region rfl ?_
   refine l_val (v := Value.int .i64 2) rfl (e_assign rfl) ?_
   refine l_nil ?_
   refine run_ret (vs := [Value.int .i64 2]) Try.func36 (.tmp rfl .nil) ?_
   -- return 38
   have e0 : (2 : Int) = (meetP a b c d) := by
     first
       | with_reducible exact meetP_line (by assumption) (by assumption) (by assumption) (by assumption)
       | with_reducible exact meetP_cross (by assumption) (by assumption)
       | ((with_reducible first | refine meetP_touch ?_ ?_ (by first | exact o1 ‹_› | exact o2 ‹_› | exact o3 ‹_› | exact o4 ‹_›) | refine meetP_apart ?_ ?_ (o5 ‹_› ‹_› ‹_› ‹_›)) <;> first | assumption | (rintro ⟨_, _, _, _⟩; contradiction) | (rintro ⟨_, _⟩; contradiction))
   have C127 : Chg (inl []) _ _ _ _ := (ch2.n).seq ((ch7.n).seq ((ch12.n).seq ((ch17.n).seq ((ch21.n).seq ((hc26.n).seq ((ch27.n).seq ((hc30.n).seq ((hb117.n).seq ((hb120.n).seq ((hb123.n).seq (hb126.n)))))))))))
   replace hbase := hbase.chg C127 (is_nl rfl)
   exact ⟨(congrArg (a₁ := 2) (fun (z0 : Int) => Ending.returned (Value.int .i64 z0)) e0), hbase.below⟩
  refine run_cond_f rfl (Bool.eq_false_iff.2 p7) ?_
  refine run_skip ?_
  refine run_inBlock ?_
  refine run_seq ?_
  clear bx5
  clear bx10
  clear bx15
  clear bx20
  refine run_region rfl ?_
  refine l_val (v := Value.int .i64 0) rfl (e_assign rfl) ?_
  refine l_nil ?_
  refine run_ret (vs := [Value.int .i64 0]) Try.func36 (.tmp rfl .nil) ?_
  -- return 39
  have e0 : (0 : Int) = (meetP a b c d) := by
    first
      | with_reducible exact meetP_line (by assumption) (by assumption) (by assumption) (by assumption)
      | with_reducible exact meetP_cross (by assumption) (by assumption)
      | ((with_reducible first | refine meetP_touch ?_ ?_ (by first | exact o1 ‹_› | exact o2 ‹_› | exact o3 ‹_› | exact o4 ‹_›) | refine meetP_apart ?_ ?_ (o5 ‹_› ‹_› ‹_› ‹_›)) <;> first | assumption | (rintro ⟨_, _, _, _⟩; contradiction) | (rintro ⟨_, _⟩; contradiction))
  have C128 : Chg (inl []) _ _ _ _ := (ch2.n).seq ((ch7.n).seq ((ch12.n).seq ((ch17.n).seq ((ch21.n).seq ((hc26.n).seq ((ch27.n).seq ((hc30.n).seq ((hb117.n).seq ((hb120.n).seq ((hb123.n).seq (hb126.n)))))))))))
  replace hbase := hbase.chg C128 (is_nl rfl)
  exact ⟨(congrArg (a₁ := 0) (fun (z0 : Int) => Ending.returned (Value.int .i64 z0)) e0), hbase.below⟩
 refine l_skip (want_n rfl rfl rfl (decide_eq_false q54)) ?_
 refine l_skip (want_n rfl rfl rfl (decide_eq_false q54)) ?_
 refine l_skip (want_n rfl rfl rfl (decide_eq_false q54)) ?_
 refine l_skip (want_n rfl rfl rfl (decide_eq_false q54)) ?_
 refine l_val (v := Value.bool false) rfl (e_pick_f rfl (decide_eq_false q54) rfl) ?_
 refine l_val (v := Value.bool false) rfl (e_assign rfl) ?_
 refine l_nil ?_
 refine run_cond_f rfl rfl ?_
 refine run_seq (run_region rfl ?_)
 replace bx5 := bx5.chg hc30 (not_no _)
 refine l_val (v := Value.agg (List.toArray [Value.int .i64 a.1, Value.int .i64 a.2])) rfl (e_load_bxN (ds := [Value.int .i64 a.1, Value.int .i64 a.2]) tp23_gm rfl bx5 rfl rfl) ?_
 replace bx10 := bx10.chg hc30 (not_no _)
 refine l_val (v := Value.agg (List.toArray [Value.int .i64 b.1, Value.int .i64 b.2])) rfl (e_load_bxN (ds := [Value.int .i64 b.1, Value.int .i64 b.2]) tp23_gm rfl bx10 rfl rfl) ?_
 replace bx15 := bx15.chg hc30 (not_no _)
 refine l_val (v := Value.agg (List.toArray [Value.int .i64 c.1, Value.int .i64 c.2])) rfl (e_load_bxN (ds := [Value.int .i64 c.1, Value.int .i64 c.2]) tp23_gm rfl bx15 rfl rfl) ?_
 refine l_op rfl ?_
 refine o_call (v := Value.bool (decide (onP a b c))) (e_call (vals := [Value.agg (List.toArray [Value.int .i64 a.1, Value.int .i64 a.2]), Value.agg (List.toArray [Value.int .i64 b.1, Value.int .i64 b.2]), Value.agg (List.toArray [Value.int .i64 c.1, Value.int .i64 c.2])]) Try.func46 bd46_gm nm46_gm rfl) (on_ok w29 a b c (by assumption) (by assumption) (by assumption)) ?_
 intro w129 hb130
 replace hb130 := chg_below hb130 g19
 refine l_val (v := Value.bool (decide (onP a b c))) rfl (e_move rfl) ?_
 by_cases q65 : (decide (onP a b c)) = true
 ·
  refine l_skip (want_n rfl rfl rfl q65) (l_skip (want_n rfl rfl rfl q65) (l_skip (want_n rfl rfl rfl q65) (l_skip (want_n rfl rfl rfl q65) ?_)))
  refine l_val (v := Value.bool true) rfl (e_pick_t rfl q65 rfl) ?_
  refine l_val (v := Value.bool true) rfl (e_move rfl) ?_
  refine l_skip (want_n rfl rfl rfl rfl) (l_skip (want_n rfl rfl rfl rfl) (l_skip (want_n rfl rfl rfl rfl) (l_skip (want_n rfl rfl rfl rfl) ?_)))
  refine l_val (v := Value.bool true) rfl (e_pick_t rfl rfl rfl) ?_
  refine l_val (v := Value.bool true) rfl (e_move rfl) ?_
  refine l_skip (want_n rfl rfl rfl rfl) (l_skip (want_n rfl rfl rfl rfl) (l_skip (want_n rfl rfl rfl rfl) (l_skip (want_n rfl rfl rfl rfl) ?_)))
  refine l_val (v := Value.bool true) rfl (e_pick_t rfl rfl rfl) ?_
  refine l_val (v := Value.bool true) rfl (e_assign rfl) ?_
  refine l_nil ?_
  refine run_cond_t rfl rfl ?_
  refine run_seq ?_
  clear bx5
  clear bx10
  clear bx15
  clear bx20
  refine run_region rfl ?_
  refine l_val (v := Value.int .i64 2) rfl (e_assign rfl) ?_
  refine l_nil ?_
  refine run_ret (vs := [Value.int .i64 2]) Try.func36 (.tmp rfl .nil) ?_
  -- return 40
  have e0 : (2 : Int) = (meetP a b c d) := by
    first
      | with_reducible exact meetP_line (by assumption) (by assumption) (by assumption) (by assumption)
      | with_reducible exact meetP_cross (by assumption) (by assumption)
      | ((with_reducible first | refine meetP_touch ?_ ?_ (by first | exact o1 ‹_› | exact o2 ‹_› | exact o3 ‹_› | exact o4 ‹_›) | refine meetP_apart ?_ ?_ (o5 ‹_› ‹_› ‹_› ‹_›)) <;> first | assumption | (rintro ⟨_, _, _, _⟩; contradiction) | (rintro ⟨_, _⟩; contradiction))
  have C131 : Chg (inl []) _ _ _ _ := (ch2.n).seq ((ch7.n).seq ((ch12.n).seq ((ch17.n).seq ((ch21.n).seq ((hc26.n).seq ((ch27.n).seq ((hc30.n).seq (hb130.n))))))))
  replace hbase := hbase.chg C131 (is_nl rfl)
  exact ⟨(congrArg (a₁ := 2) (fun (z0 : Int) => Ending.returned (Value.int .i64 z0)) e0), hbase.below⟩
 replace bx5 := bx5.chg hb130 (not_no _)
 refine l_val (v := Value.agg (List.toArray [Value.int .i64 a.1, Value.int .i64 a.2])) (want_y rfl rfl rfl (Bool.eq_false_iff.2 q65)) (e_load_bxN (ds := [Value.int .i64 a.1, Value.int .i64 a.2]) tp23_gm rfl bx5 rfl rfl) ?_
 replace bx10 := bx10.chg hb130 (not_no _)
 refine l_val (v := Value.agg (List.toArray [Value.int .i64 b.1, Value.int .i64 b.2])) (want_y rfl rfl rfl (Bool.eq_false_iff.2 q65)) (e_load_bxN (ds := [Value.int .i64 b.1, Value.int .i64 b.2]) tp23_gm rfl bx10 rfl rfl) ?_
 replace bx20 := (bx20.chg hc30 (not_no _)).chg hb130 (not_no _)
 refine l_val (v := Value.agg (List.toArray [Value.int .i64 d.1, Value.int .i64 d.2])) (want_y rfl rfl rfl (Bool.eq_false_iff.2 q65)) (e_load_bxN (ds := [Value.int .i64 d.1, Value.int .i64 d.2]) tp23_gm rfl bx20 rfl rfl) ?_
 refine l_op (want_y rfl rfl rfl (Bool.eq_false_iff.2 q65)) ?_
 refine o_call (v := Value.bool (decide (onP a b d))) (e_call (vals := [Value.agg (List.toArray [Value.int .i64 a.1, Value.int .i64 a.2]), Value.agg (List.toArray [Value.int .i64 b.1, Value.int .i64 b.2]), Value.agg (List.toArray [Value.int .i64 d.1, Value.int .i64 d.2])]) Try.func46 bd46_gm nm46_gm rfl) (on_ok w129 a b d (by assumption) (by assumption) (by assumption)) ?_
 intro w132 hb133
 replace hb133 := chg_below hb133 g19
 refine l_val (v := Value.bool (decide (onP a b d))) rfl (e_pick_f rfl (Bool.eq_false_iff.2 q65) rfl) ?_
 refine l_val (v := Value.bool (decide (onP a b d))) rfl (e_move rfl) ?_
 by_cases q71 : (decide (onP a b d)) = true
 ·
  refine l_skip (want_n rfl rfl rfl q71) (l_skip (want_n rfl rfl rfl q71) (l_skip (want_n rfl rfl rfl q71) (l_skip (want_n rfl rfl rfl q71) ?_)))
  refine l_val (v := Value.bool true) rfl (e_pick_t rfl q71 rfl) ?_
  refine l_val (v := Value.bool true) rfl (e_move rfl) ?_
  refine l_skip (want_n rfl rfl rfl rfl) (l_skip (want_n rfl rfl rfl rfl) (l_skip (want_n rfl rfl rfl rfl) (l_skip (want_n rfl rfl rfl rfl) ?_)))
  refine l_val (v := Value.bool true) rfl (e_pick_t rfl rfl rfl) ?_
  refine l_val (v := Value.bool true) rfl (e_assign rfl) ?_
  refine l_nil ?_
  refine run_cond_t rfl rfl ?_
  refine run_seq ?_
  clear bx5
  clear bx10
  clear bx15
  clear bx20
  refine run_region rfl ?_
  refine l_val (v := Value.int .i64 2) rfl (e_assign rfl) ?_
  refine l_nil ?_
  refine run_ret (vs := [Value.int .i64 2]) Try.func36 (.tmp rfl .nil) ?_
  -- return 41
  have e0 : (2 : Int) = (meetP a b c d) := by
    first
      | with_reducible exact meetP_line (by assumption) (by assumption) (by assumption) (by assumption)
      | with_reducible exact meetP_cross (by assumption) (by assumption)
      | ((with_reducible first | refine meetP_touch ?_ ?_ (by first | exact o1 ‹_› | exact o2 ‹_› | exact o3 ‹_› | exact o4 ‹_›) | refine meetP_apart ?_ ?_ (o5 ‹_› ‹_› ‹_› ‹_›)) <;> first | assumption | (rintro ⟨_, _, _, _⟩; contradiction) | (rintro ⟨_, _⟩; contradiction))
  have C134 : Chg (inl []) _ _ _ _ := (ch2.n).seq ((ch7.n).seq ((ch12.n).seq ((ch17.n).seq ((ch21.n).seq ((hc26.n).seq ((ch27.n).seq ((hc30.n).seq ((hb130.n).seq (hb133.n)))))))))
  replace hbase := hbase.chg C134 (is_nl rfl)
  exact ⟨(congrArg (a₁ := 2) (fun (z0 : Int) => Ending.returned (Value.int .i64 z0)) e0), hbase.below⟩
 replace bx15 := (bx15.chg hb130 (not_no _)).chg hb133 (not_no _)
 refine l_val (v := Value.agg (List.toArray [Value.int .i64 c.1, Value.int .i64 c.2])) (want_y rfl rfl rfl (Bool.eq_false_iff.2 q71)) (e_load_bxN (ds := [Value.int .i64 c.1, Value.int .i64 c.2]) tp23_gm rfl bx15 rfl rfl) ?_
 replace bx20 := bx20.chg hb133 (not_no _)
 refine l_val (v := Value.agg (List.toArray [Value.int .i64 d.1, Value.int .i64 d.2])) (want_y rfl rfl rfl (Bool.eq_false_iff.2 q71)) (e_load_bxN (ds := [Value.int .i64 d.1, Value.int .i64 d.2]) tp23_gm rfl bx20 rfl rfl) ?_
 replace bx5 := bx5.chg hb133 (not_no _)
 refine l_val (v := Value.agg (List.toArray [Value.int .i64 a.1, Value.int .i64 a.2])) (want_y rfl rfl rfl (Bool.eq_false_iff.2 q71)) (e_load_bxN (ds := [Value.int .i64 a.1, Value.int .i64 a.2]) tp23_gm rfl bx5 rfl rfl) ?_
 refine l_op (want_y rfl rfl rfl (Bool.eq_false_iff.2 q71)) ?_
 refine o_call (v := Value.bool (decide (onP c d a))) (e_call (vals := [Value.agg (List.toArray [Value.int .i64 c.1, Value.int .i64 c.2]), Value.agg (List.toArray [Value.int .i64 d.1, Value.int .i64 d.2]), Value.agg (List.toArray [Value.int .i64 a.1, Value.int .i64 a.2])]) Try.func46 bd46_gm nm46_gm rfl) (on_ok w132 c d a (by assumption) (by assumption) (by assumption)) ?_
 intro w135 hb136
 replace hb136 := chg_below hb136 g19
 refine l_val (v := Value.bool (decide (onP c d a))) rfl (e_pick_f rfl (Bool.eq_false_iff.2 q71) rfl) ?_
 refine l_val (v := Value.bool (decide (onP c d a))) rfl (e_move rfl) ?_
 by_cases q77 : (decide (onP c d a)) = true
 ·
  refine l_skip (want_n rfl rfl rfl q77) (l_skip (want_n rfl rfl rfl q77) (l_skip (want_n rfl rfl rfl q77) (l_skip (want_n rfl rfl rfl q77) ?_)))
  refine l_val (v := Value.bool true) rfl (e_pick_t rfl q77 rfl) ?_
  refine l_val (v := Value.bool true) rfl (e_assign rfl) ?_
  refine l_nil ?_
  refine run_cond_t rfl rfl ?_
  refine run_seq ?_
  clear bx5
  clear bx10
  clear bx15
  clear bx20
  refine run_region rfl ?_
  refine l_val (v := Value.int .i64 2) rfl (e_assign rfl) ?_
  refine l_nil ?_
  refine run_ret (vs := [Value.int .i64 2]) Try.func36 (.tmp rfl .nil) ?_
  -- return 42
  have e0 : (2 : Int) = (meetP a b c d) := by
    first
      | with_reducible exact meetP_line (by assumption) (by assumption) (by assumption) (by assumption)
      | with_reducible exact meetP_cross (by assumption) (by assumption)
      | ((with_reducible first | refine meetP_touch ?_ ?_ (by first | exact o1 ‹_› | exact o2 ‹_› | exact o3 ‹_› | exact o4 ‹_›) | refine meetP_apart ?_ ?_ (o5 ‹_› ‹_› ‹_› ‹_›)) <;> first | assumption | (rintro ⟨_, _, _, _⟩; contradiction) | (rintro ⟨_, _⟩; contradiction))
  have C137 : Chg (inl []) _ _ _ _ := (ch2.n).seq ((ch7.n).seq ((ch12.n).seq ((ch17.n).seq ((ch21.n).seq ((hc26.n).seq ((ch27.n).seq ((hc30.n).seq ((hb130.n).seq ((hb133.n).seq (hb136.n))))))))))
  replace hbase := hbase.chg C137 (is_nl rfl)
  exact ⟨(congrArg (a₁ := 2) (fun (z0 : Int) => Ending.returned (Value.int .i64 z0)) e0), hbase.below⟩
 replace bx15 := bx15.chg hb136 (not_no _)
 refine l_val (v := Value.agg (List.toArray [Value.int .i64 c.1, Value.int .i64 c.2])) (want_y rfl rfl rfl (Bool.eq_false_iff.2 q77)) (e_load_bxN (ds := [Value.int .i64 c.1, Value.int .i64 c.2]) tp23_gm rfl bx15 rfl rfl) ?_
 replace bx20 := bx20.chg hb136 (not_no _)
 refine l_val (v := Value.agg (List.toArray [Value.int .i64 d.1, Value.int .i64 d.2])) (want_y rfl rfl rfl (Bool.eq_false_iff.2 q77)) (e_load_bxN (ds := [Value.int .i64 d.1, Value.int .i64 d.2]) tp23_gm rfl bx20 rfl rfl) ?_
 replace bx10 := (bx10.chg hb133 (not_no _)).chg hb136 (not_no _)
 refine l_val (v := Value.agg (List.toArray [Value.int .i64 b.1, Value.int .i64 b.2])) (want_y rfl rfl rfl (Bool.eq_false_iff.2 q77)) (e_load_bxN (ds := [Value.int .i64 b.1, Value.int .i64 b.2]) tp23_gm rfl bx10 rfl rfl) ?_
 refine l_op (want_y rfl rfl rfl (Bool.eq_false_iff.2 q77)) ?_
 refine o_call (v := Value.bool (decide (onP c d b))) (e_call (vals := [Value.agg (List.toArray [Value.int .i64 c.1, Value.int .i64 c.2]), Value.agg (List.toArray [Value.int .i64 d.1, Value.int .i64 d.2]), Value.agg (List.toArray [Value.int .i64 b.1, Value.int .i64 b.2])]) Try.func46 bd46_gm nm46_gm rfl) (on_ok w135 c d b (by assumption) (by assumption) (by assumption)) ?_
 intro w138 hb139
 replace hb139 := chg_below hb139 g19
 refine l_val (v := Value.bool (decide (onP c d b))) rfl (e_pick_f rfl (Bool.eq_false_iff.2 q77) rfl) ?_
 refine l_val (v := Value.bool (decide (onP c d b))) rfl (e_assign rfl) ?_
 refine l_nil ?_
 by_cases p7 : (decide (onP c d b)) = true
 ·
  refine run_cond_t rfl p7 ?_
  refine run_seq ?_
  clear bx5
  clear bx10
  clear bx15
  clear bx20
  refine run_region rfl ?_
  refine l_val (v := Value.int .i64 2) rfl (e_assign rfl) ?_
  refine l_nil ?_
  refine run_ret (vs := [Value.int .i64 2]) Try.func36 (.tmp rfl .nil) ?_
  -- return 43
  have e0 : (2 : Int) = (meetP a b c d) := by
    first
      | with_reducible exact meetP_line (by assumption) (by assumption) (by assumption) (by assumption)
      | with_reducible exact meetP_cross (by assumption) (by assumption)
      | ((with_reducible first | refine meetP_touch ?_ ?_ (by first | exact o1 ‹_› | exact o2 ‹_› | exact o3 ‹_› | exact o4 ‹_›) | refine meetP_apart ?_ ?_ (o5 ‹_› ‹_› ‹_› ‹_›)) <;> first | assumption | (rintro ⟨_, _, _, _⟩; contradiction) | (rintro ⟨_, _⟩; contradiction))
  have C140 : Chg (inl []) _ _ _ _ := (ch2.n).seq ((ch7.n).seq ((ch12.n).seq ((ch17.n).seq ((ch21.n).seq ((hc26.n).seq ((ch27.n).seq ((hc30.n).seq ((hb130.n).seq ((hb133.n).seq ((hb136.n).seq (hb139.n)))))))))))
  replace hbase := hbase.chg C140 (is_nl rfl)
  exact ⟨(congrArg (a₁ := 2) (fun (z0 : Int) => Ending.returned (Value.int .i64 z0)) e0), hbase.below⟩
 refine run_cond_f rfl (Bool.eq_false_iff.2 p7) ?_
 refine run_skip ?_
 refine run_inBlock ?_
 refine run_seq ?_
 clear bx5
 clear bx10
 clear bx15
 clear bx20
 refine run_region rfl ?_
 refine l_val (v := Value.int .i64 0) rfl (e_assign rfl) ?_
 refine l_nil ?_
 refine run_ret (vs := [Value.int .i64 0]) Try.func36 (.tmp rfl .nil) ?_
 -- return 44
 have e0 : (0 : Int) = (meetP a b c d) := by
   first
     | with_reducible exact meetP_line (by assumption) (by assumption) (by assumption) (by assumption)
     | with_reducible exact meetP_cross (by assumption) (by assumption)
     | ((with_reducible first | refine meetP_touch ?_ ?_ (by first | exact o1 ‹_› | exact o2 ‹_› | exact o3 ‹_› | exact o4 ‹_›) | refine meetP_apart ?_ ?_ (o5 ‹_› ‹_› ‹_› ‹_›)) <;> first | assumption | (rintro ⟨_, _, _, _⟩; contradiction) | (rintro ⟨_, _⟩; contradiction))
 have C141 : Chg (inl []) _ _ _ _ := (ch2.n).seq ((ch7.n).seq ((ch12.n).seq ((ch17.n).seq ((ch21.n).seq ((hc26.n).seq ((ch27.n).seq ((hc30.n).seq ((hb130.n).seq ((hb133.n).seq ((hb136.n).seq (hb139.n)))))))))))
 replace hbase := hbase.chg C141 (is_nl rfl)
 exact ⟨(congrArg (a₁ := 0) (fun (z0 : Int) => Ending.returned (Value.int .i64 z0)) e0), hbase.below⟩

theorem Orient_ok (w0 : World) (a : (Int) × (Int)) (b : (Int) × (Int)) (c : (Int) × (Int)) :
    Calls Try.prog 13 #[Value.agg (List.toArray [Value.int .i64 a.1, Value.int .i64 a.2]), Value.agg (List.toArray [Value.int .i64 b.1, Value.int .i64 b.2]), Value.agg (List.toArray [Value.int .i64 c.1, Value.int .i64 c.2])] w0 (fun ee w => ee = .returned (Value.tuple (List.toArray [Value.int .i64 ((orientR a b c).1), Value.int .i64 ((orientR a b c).2)])) ∧ Bel w0.heap.size w0 w) := by
 refine calls_of_run Try.func13 rfl (Nat.le_of_ble_eq_true rfl) ?_
 have hbase := Base.start w0
 refine run_seq (run_region rfl (l_op rfl ?_))
 refine o_box c0 (is 1) (1, 0) rfl rfl ?_
 intro g4 w1 b3 ch2 bx5
 replace bx5 : Bx g4 (is 1) w1 b3 [Value.int .i64 a.1, Value.int .i64 a.2] := bx5
 refine l_op rfl ?_
 refine o_box g4 (is 2) (2, 0) rfl rfl ?_
 intro g9 w6 b8 ch7 bx10
 replace bx10 : Bx g9 (is 2) w6 b8 [Value.int .i64 b.1, Value.int .i64 b.2] := bx10
 refine l_op rfl ?_
 refine o_box g9 (is 3) (3, 0) rfl rfl ?_
 intro g14 w11 b13 ch12 bx15
 replace bx15 : Bx g14 (is 3) w11 b13 [Value.int .i64 c.1, Value.int .i64 c.2] := bx15
 refine l_val (v := Value.int .i64 0) rfl (e_assign rfl) ?_
 refine l_val (v := Value.int .i64 0) rfl (e_assign rfl) ?_
 refine l_nil (run_seq (run_seq (run_region rfl ?_)))
 replace bx5 := (bx5.chg ch7 (not_no _)).chg ch12 (not_no _)
 refine l_val (v := Value.agg (List.toArray [Value.int .i64 a.1, Value.int .i64 a.2])) rfl (e_load_bxN (ds := [Value.int .i64 a.1, Value.int .i64 a.2]) tp23_gm rfl bx5 rfl rfl) ?_
 replace bx10 := bx10.chg ch12 (not_no _)
 refine l_val (v := Value.agg (List.toArray [Value.int .i64 b.1, Value.int .i64 b.2])) rfl (e_load_bxN (ds := [Value.int .i64 b.1, Value.int .i64 b.2]) tp23_gm rfl bx10 rfl rfl) ?_
 refine l_val (v := Value.agg (List.toArray [Value.int .i64 c.1, Value.int .i64 c.2])) rfl (e_load_bxN (ds := [Value.int .i64 c.1, Value.int .i64 c.2]) tp23_gm rfl bx15 rfl rfl) ?_
 refine l_op rfl ?_
 refine o_buildSlice (α := (Int) × (Int)) g14 (is 4) (is 4) (4, 0) rfl [a, b, c] Try.underlying25 tp23_gm (by decide) (by decide) (vs := [(0, Value.agg (List.toArray [Value.int .i64 a.1, Value.int .i64 a.2])), (1, Value.agg (List.toArray [Value.int .i64 b.1, Value.int .i64 b.2])), (2, Value.agg (List.toArray [Value.int .i64 c.1, Value.int .i64 c.2]))]) rfl rfl (.cons rfl (.cons rfl (.cons rfl .nil))) ?_
 intro g16 w17 v18 ch19 o20
 refine l_op rfl ?_
 refine o_call (v := Value.bool (decide (okL ([a, b, c])))) (e_call (vals := [v18]) Try.func25 bd25_gm nm25_gm rfl) (GMay_ok w17 ([a, b, c]) v18 (o20.flat).ro) ?_
 intro w21 hb22
 replace hb22 := chg_below hb22 g16
 refine l_val (v := Value.bool (!(decide (okL ([a, b, c]))))) rfl (e_not (b := (decide (okL ([a, b, c])))) rfl) ?_
 refine l_nil ?_
 by_cases p1 : (decide (okL ([a, b, c]))) = true
 ·
  obtain ⟨h1, h2, h3⟩ := okL3.1 (of_decide_eq_true p1)
  have k1 := h1.bd
  have k2 := h2.bd
  have k3 := h3.bd
  refine run_cond_f rfl (congrArg Bool.not p1) ?_
  refine run_skip ?_
  refine run_seq ?_
  clear o20
  refine run_region rfl ?_
  replace bx5 := (bx5.chg ch19 (not_no _)).chg hb22 (not_no _)
  refine l_val (v := Value.agg (List.toArray [Value.int .i64 a.1, Value.int .i64 a.2])) rfl (e_load_bxN (ds := [Value.int .i64 a.1, Value.int .i64 a.2]) tp23_gm rfl bx5 rfl rfl) ?_
  replace bx10 := (bx10.chg ch19 (not_no _)).chg hb22 (not_no _)
  refine l_val (v := Value.agg (List.toArray [Value.int .i64 b.1, Value.int .i64 b.2])) rfl (e_load_bxN (ds := [Value.int .i64 b.1, Value.int .i64 b.2]) tp23_gm rfl bx10 rfl rfl) ?_
  replace bx15 := (bx15.chg ch19 (not_no _)).chg hb22 (not_no _)
  refine l_val (v := Value.agg (List.toArray [Value.int .i64 c.1, Value.int .i64 c.2])) rfl (e_load_bxN (ds := [Value.int .i64 c.1, Value.int .i64 c.2]) tp23_gm rfl bx15 rfl rfl) ?_
  refine l_op rfl ?_
  refine o_call (v := Value.int .i64 (trn a b c)) (e_call (vals := [Value.agg (List.toArray [Value.int .i64 a.1, Value.int .i64 a.2]), Value.agg (List.toArray [Value.int .i64 b.1, Value.int .i64 b.2]), Value.agg (List.toArray [Value.int .i64 c.1, Value.int .i64 c.2])]) Try.func35 bd35_gm nm35_gm rfl) (turn_ok w21 a b c (by assumption) (by assumption) (by assumption)) ?_
  intro w23 hb24
  replace hb24 := chg_below hb24 g16
  refine l_val (v := Value.int .i64 (trn a b c)) rfl (e_assign rfl) ?_
  refine l_val (v := Value.int .i64 0) rfl (e_assign rfl) ?_
  refine l_nil ?_
  refine run_ret (vs := [Value.int .i64 (trn a b c), Value.int .i64 0]) Try.func13 (.tmp rfl (.tmp rfl .nil)) ?_
  -- return 0
  have e0 : (trn a b c : Int) = ((orientR a b c).1) := by
    first
      | (simp only [orientR, if_neg hno]; done)
      | (simp only [orientR, if_pos (⟨h1, h2, h3⟩ : okP a ∧ okP b ∧ okP c)]; done)
  have e1 : (0 : Int) = ((orientR a b c).2) := by
    first
      | (simp only [orientR, if_neg hno]; done)
      | (simp only [orientR, if_pos (⟨h1, h2, h3⟩ : okP a ∧ okP b ∧ okP c)]; done)
  have C25 : Chg (inl []) _ _ _ _ := (ch2.n).seq ((ch7.n).seq ((ch12.n).seq ((ch19.n).seq ((hb22.n).seq (hb24.n)))))
  replace hbase := hbase.chg C25 (is_nl rfl)
  exact ⟨(congr2 (a := trn a b c) (b := 0) (fun (z0 : Int) (z1 : Int) => Ending.returned (Value.tuple (List.toArray [Value.int .i64 z0, Value.int .i64 z1]))) e0 e1), hbase.below⟩
 have hno : ¬ (okP a ∧ okP b ∧ okP c) := fun h => p1 (decide_eq_true (okL3.2 h))
 refine run_cond_t rfl (congrArg Bool.not (Bool.eq_false_iff.2 p1)) ?_
 refine run_seq ?_
 clear bx5
 clear bx10
 clear bx15
 clear o20
 refine run_region rfl ?_
 refine l_val (v := Value.int .i64 0) rfl (e_assign rfl) ?_
 refine l_val (v := Value.int .i64 1) rfl (e_assign rfl) ?_
 refine l_nil ?_
 refine run_ret (vs := [Value.int .i64 0, Value.int .i64 1]) Try.func13 (.tmp rfl (.tmp rfl .nil)) ?_
 -- return 1
 have e0 : (0 : Int) = ((orientR a b c).1) := by
   first
     | (simp only [orientR, if_neg hno]; done)
     | (simp only [orientR, if_pos (⟨h1, h2, h3⟩ : okP a ∧ okP b ∧ okP c)]; done)
 have e1 : (1 : Int) = ((orientR a b c).2) := by
   first
     | (simp only [orientR, if_neg hno]; done)
     | (simp only [orientR, if_pos (⟨h1, h2, h3⟩ : okP a ∧ okP b ∧ okP c)]; done)
 have C26 : Chg (inl []) _ _ _ _ := (ch2.n).seq ((ch7.n).seq ((ch12.n).seq ((ch19.n).seq (hb22.n))))
 replace hbase := hbase.chg C26 (is_nl rfl)
 exact ⟨(congr2 (a := 0) (b := 1) (fun (z0 : Int) (z1 : Int) => Ending.returned (Value.tuple (List.toArray [Value.int .i64 z0, Value.int .i64 z1]))) e0 e1), hbase.below⟩

theorem GOn_ok (w0 : World) (a : (Int) × (Int)) (b : (Int) × (Int)) (p : (Int) × (Int)) :
    Calls Try.prog 24 #[Value.agg (List.toArray [Value.int .i64 a.1, Value.int .i64 a.2]), Value.agg (List.toArray [Value.int .i64 b.1, Value.int .i64 b.2]), Value.agg (List.toArray [Value.int .i64 p.1, Value.int .i64 p.2])] w0 (fun ee w => ee = .returned (Value.tuple (List.toArray [Value.bool ((onR a b p).1), Value.int .i64 ((onR a b p).2)])) ∧ Bel w0.heap.size w0 w) := by
 refine calls_of_run Try.func24 rfl (Nat.le_of_ble_eq_true rfl) ?_
 have hbase := Base.start w0
 refine run_seq (run_region rfl (l_op rfl ?_))
 refine o_box c0 (is 1) (1, 0) rfl rfl ?_
 intro g4 w1 b3 ch2 bx5
 replace bx5 : Bx g4 (is 1) w1 b3 [Value.int .i64 a.1, Value.int .i64 a.2] := bx5
 refine l_op rfl ?_
 refine o_box g4 (is 2) (2, 0) rfl rfl ?_
 intro g9 w6 b8 ch7 bx10
 replace bx10 : Bx g9 (is 2) w6 b8 [Value.int .i64 b.1, Value.int .i64 b.2] := bx10
 refine l_op rfl ?_
 refine o_box g9 (is 3) (3, 0) rfl rfl ?_
 intro g14 w11 b13 ch12 bx15
 replace bx15 : Bx g14 (is 3) w11 b13 [Value.int .i64 p.1, Value.int .i64 p.2] := bx15
 refine l_val (v := Value.bool false) rfl (e_assign rfl) ?_
 refine l_val (v := Value.int .i64 0) rfl (e_assign rfl) ?_
 refine l_nil (run_seq (run_seq (run_region rfl ?_)))
 replace bx5 := (bx5.chg ch7 (not_no _)).chg ch12 (not_no _)
 refine l_val (v := Value.agg (List.toArray [Value.int .i64 a.1, Value.int .i64 a.2])) rfl (e_load_bxN (ds := [Value.int .i64 a.1, Value.int .i64 a.2]) tp23_gm rfl bx5 rfl rfl) ?_
 replace bx10 := bx10.chg ch12 (not_no _)
 refine l_val (v := Value.agg (List.toArray [Value.int .i64 b.1, Value.int .i64 b.2])) rfl (e_load_bxN (ds := [Value.int .i64 b.1, Value.int .i64 b.2]) tp23_gm rfl bx10 rfl rfl) ?_
 refine l_val (v := Value.agg (List.toArray [Value.int .i64 p.1, Value.int .i64 p.2])) rfl (e_load_bxN (ds := [Value.int .i64 p.1, Value.int .i64 p.2]) tp23_gm rfl bx15 rfl rfl) ?_
 refine l_op rfl ?_
 refine o_buildSlice (α := (Int) × (Int)) g14 (is 4) (is 4) (4, 0) rfl [a, b, p] Try.underlying25 tp23_gm (by decide) (by decide) (vs := [(0, Value.agg (List.toArray [Value.int .i64 a.1, Value.int .i64 a.2])), (1, Value.agg (List.toArray [Value.int .i64 b.1, Value.int .i64 b.2])), (2, Value.agg (List.toArray [Value.int .i64 p.1, Value.int .i64 p.2]))]) rfl rfl (.cons rfl (.cons rfl (.cons rfl .nil))) ?_
 intro g16 w17 v18 ch19 o20
 refine l_op rfl ?_
 refine o_call (v := Value.bool (decide (okL ([a, b, p])))) (e_call (vals := [v18]) Try.func25 bd25_gm nm25_gm rfl) (GMay_ok w17 ([a, b, p]) v18 (o20.flat).ro) ?_
 intro w21 hb22
 replace hb22 := chg_below hb22 g16
 refine l_val (v := Value.bool (!(decide (okL ([a, b, p]))))) rfl (e_not (b := (decide (okL ([a, b, p])))) rfl) ?_
 refine l_nil ?_
 by_cases p1 : (decide (okL ([a, b, p]))) = true
 ·
  obtain ⟨h1, h2, h3⟩ := okL3.1 (of_decide_eq_true p1)
  have k1 := h1.bd
  have k2 := h2.bd
  have k3 := h3.bd
  refine run_cond_f rfl (congrArg Bool.not p1) ?_
  refine run_skip ?_
  refine run_seq ?_
  clear o20
  refine run_region rfl ?_
  replace bx5 := (bx5.chg ch19 (not_no _)).chg hb22 (not_no _)
  refine l_val (v := Value.agg (List.toArray [Value.int .i64 a.1, Value.int .i64 a.2])) rfl (e_load_bxN (ds := [Value.int .i64 a.1, Value.int .i64 a.2]) tp23_gm rfl bx5 rfl rfl) ?_
  replace bx10 := (bx10.chg ch19 (not_no _)).chg hb22 (not_no _)
  refine l_val (v := Value.agg (List.toArray [Value.int .i64 b.1, Value.int .i64 b.2])) rfl (e_load_bxN (ds := [Value.int .i64 b.1, Value.int .i64 b.2]) tp23_gm rfl bx10 rfl rfl) ?_
  replace bx15 := (bx15.chg ch19 (not_no _)).chg hb22 (not_no _)
  refine l_val (v := Value.agg (List.toArray [Value.int .i64 p.1, Value.int .i64 p.2])) rfl (e_load_bxN (ds := [Value.int .i64 p.1, Value.int .i64 p.2]) tp23_gm rfl bx15 rfl rfl) ?_
  refine l_op rfl ?_
  refine o_call (v := Value.bool (decide (onP a b p))) (e_call (vals := [Value.agg (List.toArray [Value.int .i64 a.1, Value.int .i64 a.2]), Value.agg (List.toArray [Value.int .i64 b.1, Value.int .i64 b.2]), Value.agg (List.toArray [Value.int .i64 p.1, Value.int .i64 p.2])]) Try.func46 bd46_gm nm46_gm rfl) (on_ok w21 a b p (by assumption) (by assumption) (by assumption)) ?_
  intro w23 hb24
  replace hb24 := chg_below hb24 g16
  refine l_val (v := Value.bool (decide (onP a b p))) rfl (e_assign rfl) ?_
  refine l_val (v := Value.int .i64 0) rfl (e_assign rfl) ?_
  refine l_nil ?_
  refine run_ret (vs := [Value.bool (decide (onP a b p)), Value.int .i64 0]) Try.func24 (.tmp rfl (.tmp rfl .nil)) ?_
  -- return 0
  have e0 : ((decide (onP a b p)) : Bool) = ((onR a b p).1) := by
    first
      | (simp only [onR, if_neg hno]; done)
      | (simp only [onR, if_pos (⟨h1, h2, h3⟩ : okP a ∧ okP b ∧ okP p)]; done)
  have e1 : (0 : Int) = ((onR a b p).2) := by
    first
      | (simp only [onR, if_neg hno]; done)
      | (simp only [onR, if_pos (⟨h1, h2, h3⟩ : okP a ∧ okP b ∧ okP p)]; done)
  have C25 : Chg (inl []) _ _ _ _ := (ch2.n).seq ((ch7.n).seq ((ch12.n).seq ((ch19.n).seq ((hb22.n).seq (hb24.n)))))
  replace hbase := hbase.chg C25 (is_nl rfl)
  exact ⟨(congr2 (a := (decide (onP a b p))) (b := 0) (fun (z0 : Bool) (z1 : Int) => Ending.returned (Value.tuple (List.toArray [Value.bool z0, Value.int .i64 z1]))) e0 e1), hbase.below⟩
 have hno : ¬ (okP a ∧ okP b ∧ okP p) := fun h => p1 (decide_eq_true (okL3.2 h))
 refine run_cond_t rfl (congrArg Bool.not (Bool.eq_false_iff.2 p1)) ?_
 refine run_seq ?_
 clear bx5
 clear bx10
 clear bx15
 clear o20
 refine run_region rfl ?_
 refine l_val (v := Value.bool false) rfl (e_assign rfl) ?_
 refine l_val (v := Value.int .i64 1) rfl (e_assign rfl) ?_
 refine l_nil ?_
 refine run_ret (vs := [Value.bool false, Value.int .i64 1]) Try.func24 (.tmp rfl (.tmp rfl .nil)) ?_
 -- return 1
 have e0 : (false : Bool) = ((onR a b p).1) := by
   first
     | (simp only [onR, if_neg hno]; done)
     | (simp only [onR, if_pos (⟨h1, h2, h3⟩ : okP a ∧ okP b ∧ okP p)]; done)
 have e1 : (1 : Int) = ((onR a b p).2) := by
   first
     | (simp only [onR, if_neg hno]; done)
     | (simp only [onR, if_pos (⟨h1, h2, h3⟩ : okP a ∧ okP b ∧ okP p)]; done)
 have C26 : Chg (inl []) _ _ _ _ := (ch2.n).seq ((ch7.n).seq ((ch12.n).seq ((ch19.n).seq (hb22.n))))
 replace hbase := hbase.chg C26 (is_nl rfl)
 exact ⟨(congr2 (a := false) (b := 1) (fun (z0 : Bool) (z1 : Int) => Ending.returned (Value.tuple (List.toArray [Value.bool z0, Value.int .i64 z1]))) e0 e1), hbase.below⟩

theorem Meet_ok (w0 : World) (a : (Int) × (Int)) (b : (Int) × (Int)) (c : (Int) × (Int)) (d : (Int) × (Int)) :
    Calls Try.prog 15 #[Value.agg (List.toArray [Value.int .i64 a.1, Value.int .i64 a.2]), Value.agg (List.toArray [Value.int .i64 b.1, Value.int .i64 b.2]), Value.agg (List.toArray [Value.int .i64 c.1, Value.int .i64 c.2]), Value.agg (List.toArray [Value.int .i64 d.1, Value.int .i64 d.2])] w0 (fun ee w => ee = .returned (Value.tuple (List.toArray [Value.int .i64 ((meetR a b c d).1), Value.int .i64 ((meetR a b c d).2)])) ∧ Bel w0.heap.size w0 w) := by
 refine calls_of_run Try.func15 rfl (Nat.le_of_ble_eq_true rfl) ?_
 have hbase := Base.start w0
 refine run_seq (run_region rfl (l_op rfl ?_))
 refine o_box c0 (is 1) (1, 0) rfl rfl ?_
 intro g4 w1 b3 ch2 bx5
 replace bx5 : Bx g4 (is 1) w1 b3 [Value.int .i64 a.1, Value.int .i64 a.2] := bx5
 refine l_op rfl ?_
 refine o_box g4 (is 2) (2, 0) rfl rfl ?_
 intro g9 w6 b8 ch7 bx10
 replace bx10 : Bx g9 (is 2) w6 b8 [Value.int .i64 b.1, Value.int .i64 b.2] := bx10
 refine l_op rfl ?_
 refine o_box g9 (is 3) (3, 0) rfl rfl ?_
 intro g14 w11 b13 ch12 bx15
 replace bx15 : Bx g14 (is 3) w11 b13 [Value.int .i64 c.1, Value.int .i64 c.2] := bx15
 refine l_op rfl ?_
 refine o_box g14 (is 4) (4, 0) rfl rfl ?_
 intro g19 w16 b18 ch17 bx20
 replace bx20 : Bx g19 (is 4) w16 b18 [Value.int .i64 d.1, Value.int .i64 d.2] := bx20
 refine l_val (v := Value.int .i64 0) rfl (e_assign rfl) ?_
 refine l_val (v := Value.int .i64 0) rfl (e_assign rfl) ?_
 refine l_nil (run_seq (run_seq (run_region rfl ?_)))
 have C21 : Chg (inl []) _ _ _ _ := (ch7.n).seq ((ch12.n).seq (ch17.n))
 replace bx5 := bx5.chg C21 (is_nl rfl)
 refine l_val (v := Value.agg (List.toArray [Value.int .i64 a.1, Value.int .i64 a.2])) rfl (e_load_bxN (ds := [Value.int .i64 a.1, Value.int .i64 a.2]) tp23_gm rfl bx5 rfl rfl) ?_
 replace bx10 := (bx10.chg ch12 (not_no _)).chg ch17 (not_no _)
 refine l_val (v := Value.agg (List.toArray [Value.int .i64 b.1, Value.int .i64 b.2])) rfl (e_load_bxN (ds := [Value.int .i64 b.1, Value.int .i64 b.2]) tp23_gm rfl bx10 rfl rfl) ?_
 replace bx15 := bx15.chg ch17 (not_no _)
 refine l_val (v := Value.agg (List.toArray [Value.int .i64 c.1, Value.int .i64 c.2])) rfl (e_load_bxN (ds := [Value.int .i64 c.1, Value.int .i64 c.2]) tp23_gm rfl bx15 rfl rfl) ?_
 refine l_val (v := Value.agg (List.toArray [Value.int .i64 d.1, Value.int .i64 d.2])) rfl (e_load_bxN (ds := [Value.int .i64 d.1, Value.int .i64 d.2]) tp23_gm rfl bx20 rfl rfl) ?_
 refine l_op rfl ?_
 refine o_buildSlice (α := (Int) × (Int)) g19 (is 5) (is 5) (5, 0) rfl [a, b, c, d] Try.underlying25 tp23_gm (by decide) (by decide) (vs := [(0, Value.agg (List.toArray [Value.int .i64 a.1, Value.int .i64 a.2])), (1, Value.agg (List.toArray [Value.int .i64 b.1, Value.int .i64 b.2])), (2, Value.agg (List.toArray [Value.int .i64 c.1, Value.int .i64 c.2])), (3, Value.agg (List.toArray [Value.int .i64 d.1, Value.int .i64 d.2]))]) rfl rfl (.cons rfl (.cons rfl (.cons rfl (.cons rfl .nil)))) ?_
 intro g22 w23 v24 ch25 o26
 refine l_op rfl ?_
 refine o_call (v := Value.bool (decide (okL ([a, b, c, d])))) (e_call (vals := [v24]) Try.func25 bd25_gm nm25_gm rfl) (GMay_ok w23 ([a, b, c, d]) v24 (o26.flat).ro) ?_
 intro w27 hb28
 replace hb28 := chg_below hb28 g22
 refine l_val (v := Value.bool (!(decide (okL ([a, b, c, d]))))) rfl (e_not (b := (decide (okL ([a, b, c, d])))) rfl) ?_
 refine l_nil ?_
 by_cases p1 : (decide (okL ([a, b, c, d]))) = true
 ·
  obtain ⟨⟨h1, h2⟩, h3, h4⟩ := okL4.1 (of_decide_eq_true p1)
  have k1 := h1.bd
  have k2 := h2.bd
  have k3 := h3.bd
  have k4 := h4.bd
  refine run_cond_f rfl (congrArg Bool.not p1) ?_
  refine run_skip ?_
  refine run_seq ?_
  clear o26
  refine run_region rfl ?_
  replace bx5 := (bx5.chg ch25 (not_no _)).chg hb28 (not_no _)
  refine l_val (v := Value.agg (List.toArray [Value.int .i64 a.1, Value.int .i64 a.2])) rfl (e_load_bxN (ds := [Value.int .i64 a.1, Value.int .i64 a.2]) tp23_gm rfl bx5 rfl rfl) ?_
  replace bx10 := (bx10.chg ch25 (not_no _)).chg hb28 (not_no _)
  refine l_val (v := Value.agg (List.toArray [Value.int .i64 b.1, Value.int .i64 b.2])) rfl (e_load_bxN (ds := [Value.int .i64 b.1, Value.int .i64 b.2]) tp23_gm rfl bx10 rfl rfl) ?_
  replace bx15 := (bx15.chg ch25 (not_no _)).chg hb28 (not_no _)
  refine l_val (v := Value.agg (List.toArray [Value.int .i64 c.1, Value.int .i64 c.2])) rfl (e_load_bxN (ds := [Value.int .i64 c.1, Value.int .i64 c.2]) tp23_gm rfl bx15 rfl rfl) ?_
  replace bx20 := (bx20.chg ch25 (not_no _)).chg hb28 (not_no _)
  refine l_val (v := Value.agg (List.toArray [Value.int .i64 d.1, Value.int .i64 d.2])) rfl (e_load_bxN (ds := [Value.int .i64 d.1, Value.int .i64 d.2]) tp23_gm rfl bx20 rfl rfl) ?_
  refine l_op rfl ?_
  refine o_call (v := Value.int .i64 (meetP a b c d)) (e_call (vals := [Value.agg (List.toArray [Value.int .i64 a.1, Value.int .i64 a.2]), Value.agg (List.toArray [Value.int .i64 b.1, Value.int .i64 b.2]), Value.agg (List.toArray [Value.int .i64 c.1, Value.int .i64 c.2]), Value.agg (List.toArray [Value.int .i64 d.1, Value.int .i64 d.2])]) Try.func36 bd36_gm nm36_gm rfl) (meet_ok w27 a b c d (by assumption) (by assumption) (by assumption) (by assumption)) ?_
  intro w29 hb30
  replace hb30 := chg_below hb30 g22
  refine l_val (v := Value.int .i64 (meetP a b c d)) rfl (e_assign rfl) ?_
  refine l_val (v := Value.int .i64 0) rfl (e_assign rfl) ?_
  refine l_nil ?_
  refine run_ret (vs := [Value.int .i64 (meetP a b c d), Value.int .i64 0]) Try.func15 (.tmp rfl (.tmp rfl .nil)) ?_
  -- return 0
  have e0 : (meetP a b c d : Int) = ((meetR a b c d).1) := by
    first
      | (simp only [meetR, if_neg hno]; done)
      | (simp only [meetR, if_pos (⟨⟨h1, h2⟩, h3, h4⟩ : (okP a ∧ okP b) ∧ okP c ∧ okP d)]; done)
  have e1 : (0 : Int) = ((meetR a b c d).2) := by
    first
      | (simp only [meetR, if_neg hno]; done)
      | (simp only [meetR, if_pos (⟨⟨h1, h2⟩, h3, h4⟩ : (okP a ∧ okP b) ∧ okP c ∧ okP d)]; done)
  have C31 : Chg (inl []) _ _ _ _ := (ch2.n).seq ((ch7.n).seq ((ch12.n).seq ((ch17.n).seq ((ch25.n).seq ((hb28.n).seq (hb30.n))))))
  replace hbase := hbase.chg C31 (is_nl rfl)
  exact ⟨(congr2 (a := meetP a b c d) (b := 0) (fun (z0 : Int) (z1 : Int) => Ending.returned (Value.tuple (List.toArray [Value.int .i64 z0, Value.int .i64 z1]))) e0 e1), hbase.below⟩
 have hno : ¬ ((okP a ∧ okP b) ∧ okP c ∧ okP d) := fun h => p1 (decide_eq_true (okL4.2 h))
 refine run_cond_t rfl (congrArg Bool.not (Bool.eq_false_iff.2 p1)) ?_
 refine run_seq ?_
 clear bx5
 clear bx10
 clear bx15
 clear bx20
 clear o26
 refine run_region rfl ?_
 refine l_val (v := Value.int .i64 0) rfl (e_assign rfl) ?_
 refine l_val (v := Value.int .i64 1) rfl (e_assign rfl) ?_
 refine l_nil ?_
 refine run_ret (vs := [Value.int .i64 0, Value.int .i64 1]) Try.func15 (.tmp rfl (.tmp rfl .nil)) ?_
 -- return 1
 have e0 : (0 : Int) = ((meetR a b c d).1) := by
   first
     | (simp only [meetR, if_neg hno]; done)
     | (simp only [meetR, if_pos (⟨⟨h1, h2⟩, h3, h4⟩ : (okP a ∧ okP b) ∧ okP c ∧ okP d)]; done)
 have e1 : (1 : Int) = ((meetR a b c d).2) := by
   first
     | (simp only [meetR, if_neg hno]; done)
     | (simp only [meetR, if_pos (⟨⟨h1, h2⟩, h3, h4⟩ : (okP a ∧ okP b) ∧ okP c ∧ okP d)]; done)
 have C32 : Chg (inl []) _ _ _ _ := (ch2.n).seq ((ch7.n).seq ((ch12.n).seq ((ch17.n).seq ((ch25.n).seq (hb28.n)))))
 replace hbase := hbase.chg C32 (is_nl rfl)
 exact ⟨(congr2 (a := 0) (b := 1) (fun (z0 : Int) (z1 : Int) => Ending.returned (Value.tuple (List.toArray [Value.int .i64 z0, Value.int .i64 z1]))) e0 e1), hbase.below⟩
end TL
