import Derived.Test.YtifpjbjhkabhgaaTlGmA
import Derived.Test.YtifpjbjhkabhgaaTlGmM
import Derived.Test.YtifpjbjhkabhgaaTlGmR
import Derived.Test.YtifpjbjhkabhgaaTlGmB
import Derived.Test.YtifpjbjhkabhgaaTlGeomB
import Derived.Test.YtifpjbjhkabhgaaProg
import Derived.Test.YtifpjbjhkabhgaaTlNet2
import Derived.Test.YtifpjbjhkabhgaaTlEq
import Derived.Test.YtifpjbjhkabhgaaTlHold
import Derived.Test.YtifpjbjhkabhgaaTlDraw
import Derived.Test.YtifpjbjhkabhgaaTlMap
set_option linter.all false
set_option maxRecDepth 20000
namespace TL
open Go Go.Proofs
theorem mixed_gx : Try.prog.follows .mixedOrders = true := by kernel_rfl
theorem tp3_gx : Tp Try.prog 3 false 1 8 (.int .i64 0) := Tp.of (by kernel_rfl)
theorem tp23_gx : Tp Try.prog 23 true 2 16 (.agg #[.int .i64 0, .int .i64 0]) := Tp.of (by kernel_rfl)
theorem bd12_gx : Try.f12.body.isNone = false := rfl
theorem nm12_gx : (Try.f12.name == "runtime.NumGoroutine") = false := by decide +kernel
theorem bd14_gx : Try.f14.body.isNone = false := rfl
theorem nm14_gx : (Try.f14.name == "runtime.NumGoroutine") = false := by decide +kernel
theorem bd28_gx : Try.f28.body.isNone = false := rfl
theorem nm28_gx : (Try.f28.name == "runtime.NumGoroutine") = false := by decide +kernel

set_option maxHeartbeats 4000000 in
theorem GeomBoxes_ok (w0 : World) (ps : List ((Int) × (Int))) (ps_v : Value) (hps_v : Ro w0 ps_v ps) :
    Calls Try.prog 9 #[ps_v] w0 (fun ee w => ee = .returned (Value.bool true) ∧ RowKit.Below w0.heap.size w0 w) := by
 refine calls_of_run Try.func9 rfl (Nat.le_of_ble_eq_true rfl) ?_
 have hbase := Base.start w0
 have r_ps_v := hps_v.sl
 refine run_seq ?_
 refine run_region rfl ?_
 refine l_val (v := Value.bool false) rfl (e_assign rfl) ?_
 refine l_nil ?_
 refine run_seq ?_
 refine run_seq ?_
 refine run_region rfl ?_
 refine l_op rfl ?_
 refine o_call (v := Value.bool true) (e_call (vals := []) Try.func12 bd12_gx nm12_gx rfl) (begun2_ok w0 ) ?_
 intro w1 hb2
 replace hb2 := chg_below hb2 c0
 refine l_val (v := Value.bool false) rfl (e_not (b := true) rfl) ?_
 refine l_nil ?_
 refine run_cond_f rfl rfl ?_
 refine run_skip ?_
 refine run_seq ?_
 refine run_region rfl ?_
 refine l_val (v := ps_v) rfl (e_move rfl) ?_
 replace r_ps_v := r_ps_v.chg hb2 (not_no _)
 refine l_op rfl ?_
 refine o_call (v := Value.tuple (List.toArray [Value.agg (List.toArray [Value.int .i64 (((boxR ps).1).1), Value.int .i64 (((boxR ps).1).2)]), Value.agg (List.toArray [Value.int .i64 (((boxR ps).2.1).1), Value.int .i64 (((boxR ps).2.1).2)]), Value.int .i64 ((boxR ps).2.2)])) (e_call (vals := [ps_v]) Try.func28 bd28_gx nm28_gx rfl) (Box_ok w1 ps ps_v (r_ps_v).ro) ?_
 intro w3 hb4
 replace hb4 := chg_below hb4 c0
 refine l_val (v := Value.tuple (List.toArray [Value.agg (List.toArray [Value.int .i64 (((boxR ps).1).1), Value.int .i64 (((boxR ps).1).2)]), Value.agg (List.toArray [Value.int .i64 (((boxR ps).2.1).1), Value.int .i64 (((boxR ps).2.1).2)]), Value.int .i64 ((boxR ps).2.2)])) rfl (e_move rfl) ?_
 refine l_val (v := Value.agg (List.toArray [Value.int .i64 (((boxR ps).1).1), Value.int .i64 (((boxR ps).1).2)])) rfl (e_extract rfl rfl) ?_
 refine l_val (v := Value.agg (List.toArray [Value.int .i64 (((boxR ps).2.1).1), Value.int .i64 (((boxR ps).2.1).2)])) rfl (e_extract rfl rfl) ?_
 refine l_val (v := Value.int .i64 ((boxR ps).2.2)) rfl (e_extract rfl rfl) ?_
 refine l_op rfl ?_
 refine o_alloc c0 (is 1) (1, 0) rfl tp23_gx ?_
 intro g8 w5 b7 ch6 bx9
 replace bx9 : Bx g8 (is 1) w5 b7 [Value.int .i64 0, Value.int .i64 0] := bx9
 refine l_op rfl ?_
 refine o_alloc g8 (is 2) (2, 0) rfl tp23_gx ?_
 intro g13 w10 b12 ch11 bx14
 replace bx14 : Bx g13 (is 2) w10 b12 [Value.int .i64 0, Value.int .i64 0] := bx14
 refine l_op rfl ?_
 replace bx9 := bx9.chg ch11 (not_no _)
 refine o_store_bx (cs' := [Value.int .i64 (((boxR ps).1).1), Value.int .i64 (((boxR ps).1).2)]) tp23_gx rfl rfl bx9 rfl (Nat.le_of_ble_eq_true rfl) (AllOne.all (.cons rfl (.cons rfl .nil))) rfl ?_
 intro w15 ch16 bx17
 clear bx9
 refine l_op rfl ?_
 replace bx14 := bx14.chg ch16 (is_ne rfl)
 refine o_store_bx (cs' := [Value.int .i64 (((boxR ps).2.1).1), Value.int .i64 (((boxR ps).2.1).2)]) tp23_gx rfl rfl bx14 rfl (Nat.le_of_ble_eq_true rfl) (AllOne.all (.cons rfl (.cons rfl .nil))) rfl ?_
 intro w18 ch19 bx20
 clear bx14
 refine l_val (v := Value.int .i64 ((boxR ps).2.2)) rfl (e_assign rfl) ?_
 refine l_nil ?_
 refine run_seq ?_
 refine run_seq ?_
 refine run_region rfl ?_
 refine l_val (v := Value.int .i64 ((boxR ps).2.2)) rfl (e_move rfl) ?_
 refine l_val (v := Value.bool (!(decide (((boxR ps).2.2) = 0)))) rfl (e_neq (m := (boxR ps).2.2) (n := 0) rfl rfl) ?_
 refine l_val (v := Value.bool (!(decide (((boxR ps).2.2) = 0)))) rfl (e_move rfl) ?_
 by_cases q22 : ((boxR ps).2.2) = 0
 ·
  obtain ⟨hw, ⟨ha1, ha2⟩, ha3, ha4⟩ := box_law q22
  refine l_val (v := ps_v) (want_y rfl rfl rfl (congrArg Bool.not (decide_eq_true q22))) (e_move rfl) ?_
  have C21 : Chg (inl [1, 2]) _ _ _ _ := (hb4.n).seq ((ch6.n).seq ((ch11.n).seq ((ch16.l rfl).seq (ch19.l rfl))))
  replace r_ps_v := r_ps_v.chg C21 (is_nl rfl)
  have len22 := (r_ps_v).small
  refine l_val (v := Value.int .i64 (List.length ps : Int)) (want_y rfl rfl rfl (congrArg Bool.not (decide_eq_true q22))) (e_len Try.underlying25 rfl r_ps_v) ?_
  refine l_val (v := Value.bool (decide (300 < (List.length ps : Int)))) (want_y rfl rfl rfl (congrArg Bool.not (decide_eq_true q22))) (e_gtr (m := (List.length ps : Int)) (n := 300) rfl rfl) ?_
  refine l_val (v := Value.bool (decide (300 < (List.length ps : Int)))) rfl (e_pick_f rfl (congrArg Bool.not (decide_eq_true q22)) rfl) ?_
  refine l_nil ?_
  by_cases p4 : 300 < (List.length ps : Int)
  ·
   refine run_cond_t rfl (decide_eq_true p4) ?_
   refine run_seq ?_
   refine region_q g13 rfl mixed_gx (by kernel_rfl) ?_
   intro w24 ch23
   refine q_val (v := Value.int .i64 ((boxR ps).2.2)) rfl (fun w' hw' => e_move rfl) ?_
   refine q_val (v := Value.bool (decide (((boxR ps).2.2) = 0))) rfl (fun w' hw' => e_eql (m := (boxR ps).2.2) (n := 0) rfl rfl) ?_
   refine q_val (v := Value.bool (decide (((boxR ps).2.2) = 0))) rfl (fun w' hw' => e_move rfl) ?_
   refine q_skip (want_n rfl rfl rfl (decide_eq_true q22)) ?_
   refine q_skip (want_n rfl rfl rfl (decide_eq_true q22)) ?_
   refine q_skip (want_n rfl rfl rfl (decide_eq_true q22)) ?_
   refine q_skip (want_n rfl rfl rfl (decide_eq_true q22)) ?_
   refine q_skip (want_u rfl rfl rfl) ?_
   refine q_skip (want_u rfl rfl rfl) ?_
   refine q_skip (want_u rfl rfl rfl) ?_
   refine q_skip (want_n rfl rfl rfl (decide_eq_true q22)) ?_
   refine q_val (v := Value.bool true) rfl (fun w' hw' => e_pick_t rfl (decide_eq_true q22) rfl) ?_
   refine q_val (v := Value.bool true) rfl (fun w' hw' => e_assign rfl) ?_
   refine q_nil ?_
   intro w25 hc26
   replace hc26 := chg_below hc26 g13
   refine run_ret (vs := [Value.bool true]) Try.func9 (.tmp rfl .nil) ?_
   -- return 0
   have e0 : (true : Bool) = (true) := by
     first
       | rfl
       | exact decide_eq_true hn2
       | exact (decide_eq_true hn2).symm
       | (rw [hv4, hiE]; exact ha4.symm)
       | (rw [hv4, hiE]; exact ha4)
   have C27 : Chg (inl [1, 2]) _ _ _ _ := (hb2.n).seq ((hb4.n).seq ((ch6.n).seq ((ch11.n).seq ((ch16.l rfl).seq ((ch19.l rfl).seq ((ch23.n).seq (hc26.n)))))))
   replace hbase := hbase.chg C27 (is_nl rfl)
   exact ⟨(congrArg (a₁ := true) (fun (z0 : Bool) => Ending.returned (Value.bool z0)) e0), hbase.below⟩
  refine run_cond_f rfl (decide_eq_false p4) ?_
  refine run_skip ?_
  refine run_seq ?_
  refine run_region rfl ?_
  refine l_val (v := Value.bool false) rfl (e_assign rfl) ?_
  refine l_val (v := Value.bool false) rfl (e_assign rfl) ?_
  refine l_val (v := Value.bool false) rfl (e_assign rfl) ?_
  refine l_val (v := Value.bool false) rfl (e_assign rfl) ?_
  refine l_nil ?_
  refine run_seq ?_
  refine run_seq ?_
  refine run_region rfl ?_
  refine l_val (v := Value.int .i64 0) rfl (e_assign rfl) ?_
  refine l_nil ?_
  refine run_block ?_
  refine run_loop (σ := Bool × Bool × Bool × Bool × Nat × Cmap) (fun ⟨a, b, c, d, i, gq⟩ f w => Base w0 gq w ∧ f 0 = ps_v ∧ f 3 = Value.pointer (some ⟨b7, 0, none⟩) ∧ f 4 = Value.pointer (some ⟨b12, 0, none⟩) ∧ f 6 = Value.bool a ∧ f 7 = Value.bool b ∧ f 8 = Value.bool c ∧ f 9 = Value.bool d ∧ f 10 = Value.int .i64 (i : Int) ∧ Sl gq (is 0) w ps_v ps ∧ Bx gq (is 1) w b7 [Value.int .i64 (((boxR ps).1).1), Value.int .i64 (((boxR ps).1).2)] ∧ Bx gq (is 2) w b12 [Value.int .i64 (((boxR ps).2.1).1), Value.int .i64 (((boxR ps).2.1).2)] ∧ (i : Int) ≤ ((List.length ps : Int) : Int) ∧ (a = anK (fun z_ => decide (z_.1 = (boxR ps).1.1)) ps i ∧ b = anK (fun z_ => decide (z_.1 = (boxR ps).2.1.1)) ps i ∧ c = anK (fun z_ => decide (z_.2 = (boxR ps).1.2)) ps i ∧ d = anK (fun z_ => decide (z_.2 = (boxR ps).2.1.2)) ps i)) (fun ⟨a, b, c, d, i, gq⟩ => Int.toNat (((List.length ps : Int) : Int) - (i : Int))) (false, false, false, false, 0, g13) ?_ ?_
  have C28 : Chg (inl [1, 2]) _ _ _ _ := (hb2.n).seq ((hb4.n).seq ((ch6.n).seq ((ch11.n).seq ((ch16.l rfl).seq (ch19.l rfl)))))
  replace hbase := hbase.chg C28 (is_nl rfl)
  replace bx17 := bx17.chg ch19 (is_ne rfl)
  · exact ⟨hbase, rfl, rfl, rfl, rfl, rfl, rfl, rfl, rfl, r_ps_v, bx17, bx20, by omega, by exact ⟨rfl, rfl, rfl, rfl⟩⟩
  clear r_ps_v
  clear bx17
  clear bx20
  clear hbase
  rintro ⟨a, b, c, d, i, g31⟩ f29 w30 ⟨hbase, zs0, zs3, zs4, zs6, zs7, zs8, zs9, zs10, r_ps_v, bx17, bx20, hle_i, hinv⟩ back8
  obtain ⟨hv1, hv2, hv3, hv4⟩ := hinv
  refine run_seq ?_
  refine run_seq ?_
  refine run_region rfl ?_
  refine l_val (v := Value.int .i64 (i : Int)) rfl (e_move (by exact zs10)) ?_
  refine l_val (v := ps_v) rfl (e_move (by exact zs0)) ?_
  refine l_val (v := Value.int .i64 (List.length ps : Int)) rfl (e_len Try.underlying25 rfl r_ps_v) ?_
  refine l_val (v := Value.bool (decide ((i : Int) < (List.length ps : Int)))) rfl (e_lss (m := (i : Int)) (n := (List.length ps : Int)) rfl rfl) ?_
  refine l_nil ?_
  by_cases p8 : (i : Int) < (List.length ps : Int)
  ·
   refine run_cond_t rfl (decide_eq_true p8) ?_
   have hwi := hw i (by assumption)
   refine run_skip ?_
   refine run_seq ?_
   refine run_block ?_
   refine run_seq ?_
   refine run_region rfl ?_
   refine l_val (v := ps_v) rfl (e_move (by exact zs0)) ?_
   refine l_val (v := Value.int .i64 (i : Int)) rfl (e_move (by exact zs10)) ?_
   refine l_val (v := Value.pointer (some (eAddr ps_v 2 (Int.toNat (i : Int))))) rfl (e_indexAddr (α := (Int) × (Int)) (xs := ps) (v := ps_v) (i := (i : Int)) Try.underlying25 rfl rfl r_ps_v rfl (by omega) (by omega)) ?_
   refine l_val (v := Value.agg (List.toArray [Value.int .i64 ((gI ps (i : Int)).1), Value.int .i64 ((gI ps (i : Int)).2)])) rfl (e_load_elN (α := (Int) × (Int)) (xs := ps) (v := ps_v) (i := (i : Int)) tp23_gx rfl r_ps_v (by omega) (by omega) rfl) ?_
   refine l_op rfl ?_
   refine o_alloc g31 (is 3) (3, 0) rfl tp23_gx ?_
   intro g35 w32 b34 ch33 bx36
   replace bx36 : Bx g35 (is 3) w32 b34 [Value.int .i64 0, Value.int .i64 0] := bx36
   refine l_op rfl ?_
   refine o_store_bx (cs' := [Value.int .i64 ((gI ps (i : Int)).1), Value.int .i64 ((gI ps (i : Int)).2)]) tp23_gx rfl rfl bx36 rfl (Nat.le_of_ble_eq_true rfl) (AllOne.all (.cons rfl (.cons rfl .nil))) rfl ?_
   intro w37 ch38 bx39
   clear bx36
   refine l_nil ?_
   refine run_seq ?_
   refine run_seq ?_
   refine run_region rfl ?_
   refine l_val (v := Value.pointer (some ⟨b34, 0, none⟩)) rfl (e_fieldAddr Try.underlying23 rfl rfl rfl rfl) ?_
   refine l_val (v := Value.int .i64 ((gI ps (i : Int)).1)) rfl (e_load_bx1 tp3_gx rfl bx39 rfl) ?_
   refine l_val (v := Value.pointer (some ⟨b7, 0, none⟩)) rfl (e_fieldAddr Try.underlying23 rfl rfl (by exact zs3) rfl) ?_
   replace bx17 := (bx17.chg ch33 (not_no _)).chg ch38 (is_ne rfl)
   refine l_val (v := Value.int .i64 (((boxR ps).1).1)) rfl (e_load_bx1 tp3_gx rfl bx17 rfl) ?_
   refine l_val (v := Value.bool (decide (((gI ps (i : Int)).1) < (((boxR ps).1).1)))) rfl (e_lss (m := (gI ps (i : Int)).1) (n := ((boxR ps).1).1) rfl rfl) ?_
   refine l_val (v := Value.bool (decide (((gI ps (i : Int)).1) < (((boxR ps).1).1)))) rfl (e_move rfl) ?_
   have q54 : ¬ (((gI ps (i : Int)).1) < (((boxR ps).1).1)) := by first | exact hn1 | omega | (rw [hv1, hiE]; exact ha1) | (rw [hv2, hiE]; exact ha2) | (rw [hv3, hiE]; exact ha3)
   refine l_val (v := Value.pointer (some ⟨b34, 0, none⟩)) (want_y rfl rfl rfl (decide_eq_false q54)) (e_fieldAddr Try.underlying23 rfl rfl rfl rfl) ?_
   refine l_val (v := Value.int .i64 ((gI ps (i : Int)).1)) (want_y rfl rfl rfl (decide_eq_false q54)) (e_load_bx1 tp3_gx rfl bx39 rfl) ?_
   refine l_val (v := Value.pointer (some ⟨b12, 0, none⟩)) (want_y rfl rfl rfl (decide_eq_false q54)) (e_fieldAddr Try.underlying23 rfl rfl (by exact zs4) rfl) ?_
   replace bx20 := (bx20.chg ch33 (not_no _)).chg ch38 (is_ne rfl)
   refine l_val (v := Value.int .i64 (((boxR ps).2.1).1)) (want_y rfl rfl rfl (decide_eq_false q54)) (e_load_bx1 tp3_gx rfl bx20 rfl) ?_
   refine l_val (v := Value.bool (decide ((((boxR ps).2.1).1) < ((gI ps (i : Int)).1)))) (want_y rfl rfl rfl (decide_eq_false q54)) (e_gtr (m := (gI ps (i : Int)).1) (n := ((boxR ps).2.1).1) rfl rfl) ?_
   refine l_val (v := Value.bool (decide ((((boxR ps).2.1).1) < ((gI ps (i : Int)).1)))) rfl (e_pick_f rfl (decide_eq_false q54) rfl) ?_
   refine l_val (v := Value.bool (decide ((((boxR ps).2.1).1) < ((gI ps (i : Int)).1)))) rfl (e_move rfl) ?_
   have q61 : ¬ ((((boxR ps).2.1).1) < ((gI ps (i : Int)).1)) := by first | exact hn1 | omega | (rw [hv1, hiE]; exact ha1) | (rw [hv2, hiE]; exact ha2) | (rw [hv3, hiE]; exact ha3)
   refine l_val (v := Value.pointer (some ⟨b34, 1, none⟩)) (want_y rfl rfl rfl (decide_eq_false q61)) (e_fieldAddr Try.underlying23 rfl rfl rfl rfl) ?_
   refine l_val (v := Value.int .i64 ((gI ps (i : Int)).2)) (want_y rfl rfl rfl (decide_eq_false q61)) (e_load_bx1 tp3_gx rfl bx39 rfl) ?_
   refine l_val (v := Value.pointer (some ⟨b7, 1, none⟩)) (want_y rfl rfl rfl (decide_eq_false q61)) (e_fieldAddr Try.underlying23 rfl rfl (by exact zs3) rfl) ?_
   refine l_val (v := Value.int .i64 (((boxR ps).1).2)) (want_y rfl rfl rfl (decide_eq_false q61)) (e_load_bx1 tp3_gx rfl bx17 rfl) ?_
   refine l_val (v := Value.bool (decide (((gI ps (i : Int)).2) < (((boxR ps).1).2)))) (want_y rfl rfl rfl (decide_eq_false q61)) (e_lss (m := (gI ps (i : Int)).2) (n := ((boxR ps).1).2) rfl rfl) ?_
   refine l_val (v := Value.bool (decide (((gI ps (i : Int)).2) < (((boxR ps).1).2)))) rfl (e_pick_f rfl (decide_eq_false q61) rfl) ?_
   refine l_val (v := Value.bool (decide (((gI ps (i : Int)).2) < (((boxR ps).1).2)))) rfl (e_move rfl) ?_
   have q68 : ¬ (((gI ps (i : Int)).2) < (((boxR ps).1).2)) := by first | exact hn1 | omega | (rw [hv1, hiE]; exact ha1) | (rw [hv2, hiE]; exact ha2) | (rw [hv3, hiE]; exact ha3)
   refine l_val (v := Value.pointer (some ⟨b34, 1, none⟩)) (want_y rfl rfl rfl (decide_eq_false q68)) (e_fieldAddr Try.underlying23 rfl rfl rfl rfl) ?_
   refine l_val (v := Value.int .i64 ((gI ps (i : Int)).2)) (want_y rfl rfl rfl (decide_eq_false q68)) (e_load_bx1 tp3_gx rfl bx39 rfl) ?_
   refine l_val (v := Value.pointer (some ⟨b12, 1, none⟩)) (want_y rfl rfl rfl (decide_eq_false q68)) (e_fieldAddr Try.underlying23 rfl rfl (by exact zs4) rfl) ?_
   refine l_val (v := Value.int .i64 (((boxR ps).2.1).2)) (want_y rfl rfl rfl (decide_eq_false q68)) (e_load_bx1 tp3_gx rfl bx20 rfl) ?_
   refine l_val (v := Value.bool (decide ((((boxR ps).2.1).2) < ((gI ps (i : Int)).2)))) (want_y rfl rfl rfl (decide_eq_false q68)) (e_gtr (m := (gI ps (i : Int)).2) (n := ((boxR ps).2.1).2) rfl rfl) ?_
   refine l_val (v := Value.bool (decide ((((boxR ps).2.1).2) < ((gI ps (i : Int)).2)))) rfl (e_pick_f rfl (decide_eq_false q68) rfl) ?_
   refine l_nil ?_
   have p11 : ¬ ((((boxR ps).2.1).2) < ((gI ps (i : Int)).2)) := by first | exact hn1 | omega | (rw [hv1, hiE]; exact ha1) | (rw [hv2, hiE]; exact ha2) | (rw [hv3, hiE]; exact ha3)
   refine run_cond_f rfl (decide_eq_false p11) ?_
   refine run_skip ?_
   refine run_seq ?_
   refine run_region rfl ?_
   refine l_val (v := Value.bool a) rfl (e_move (by exact zs6)) ?_
   refine l_val (v := Value.bool a) rfl (e_move rfl) ?_
   by_cases q76 : a = true
   ·
    refine l_skip (want_n rfl rfl rfl q76) ?_
    refine l_skip (want_n rfl rfl rfl q76) ?_
    refine l_skip (want_n rfl rfl rfl q76) ?_
    refine l_skip (want_n rfl rfl rfl q76) ?_
    refine l_skip (want_n rfl rfl rfl q76) ?_
    refine l_val (v := Value.bool true) rfl (e_pick_t rfl q76 rfl) ?_
    refine l_val (v := Value.bool true) rfl (e_assign rfl) ?_
    refine l_nil ?_
    refine run_seq ?_
    refine run_region rfl ?_
    refine l_val (v := Value.bool b) rfl (e_move (by exact zs7)) ?_
    refine l_val (v := Value.bool b) rfl (e_move rfl) ?_
    by_cases q84 : b = true
    ·
     refine l_skip (want_n rfl rfl rfl q84) ?_
     refine l_skip (want_n rfl rfl rfl q84) ?_
     refine l_skip (want_n rfl rfl rfl q84) ?_
     refine l_skip (want_n rfl rfl rfl q84) ?_
     refine l_skip (want_n rfl rfl rfl q84) ?_
     refine l_val (v := Value.bool true) rfl (e_pick_t rfl q84 rfl) ?_
     refine l_val (v := Value.bool true) rfl (e_assign rfl) ?_
     refine l_nil ?_
     refine run_seq ?_
     refine run_region rfl ?_
     refine l_val (v := Value.bool c) rfl (e_move (by exact zs8)) ?_
     refine l_val (v := Value.bool c) rfl (e_move rfl) ?_
     by_cases q92 : c = true
     ·
      refine l_skip (want_n rfl rfl rfl q92) ?_
      refine l_skip (want_n rfl rfl rfl q92) ?_
      refine l_skip (want_n rfl rfl rfl q92) ?_
      refine l_skip (want_n rfl rfl rfl q92) ?_
      refine l_skip (want_n rfl rfl rfl q92) ?_
      refine l_val (v := Value.bool true) rfl (e_pick_t rfl q92 rfl) ?_
      refine l_val (v := Value.bool true) rfl (e_assign rfl) ?_
      refine l_nil ?_
      refine run_region rfl ?_
      refine l_val (v := Value.bool d) rfl (e_move (by exact zs9)) ?_
      refine l_val (v := Value.bool d) rfl (e_move rfl) ?_
      by_cases q100 : d = true
      ·
       refine l_skip (want_n rfl rfl rfl q100) ?_
       refine l_skip (want_n rfl rfl rfl q100) ?_
       refine l_skip (want_n rfl rfl rfl q100) ?_
       refine l_skip (want_n rfl rfl rfl q100) ?_
       refine l_skip (want_n rfl rfl rfl q100) ?_
       refine l_val (v := Value.bool true) rfl (e_pick_t rfl q100 rfl) ?_
       refine l_val (v := Value.bool true) rfl (e_assign rfl) ?_
       refine l_nil ?_
       refine run_inBlock ?_
       clear bx39
       refine run_region rfl ?_
       refine l_val (v := Value.int .i64 (i : Int)) rfl (e_move (by exact zs10)) ?_
       refine l_val (v := Value.int .i64 ((i : Int) + 1)) rfl (e_add (m := (i : Int)) (n := 1) rfl rfl (by omega)) ?_
       refine l_val (v := Value.int .i64 ((i : Int) + 1)) rfl (e_assign rfl) ?_
       refine l_nil ?_
       replace hbase := hbase.chg ch33 (not_no _)
       replace hbase := hbase.chg ch38 (is_ne rfl)
       replace r_ps_v := (r_ps_v.chg ch33 (not_no _)).chg ch38 (is_ne rfl)
       refine back8 (true, true, true, true, i + 1, g35) _ _ ⟨hbase, (by exact zs0), (by exact zs3), (by exact zs4), rfl, rfl, rfl, rfl, rfl, r_ps_v, bx17, bx20, by omega, ?_⟩ ?_
       · show true = anK (fun z_ => decide (z_.1 = (boxR ps).1.1)) ps (i + 1) ∧ true = anK (fun z_ => decide (z_.1 = (boxR ps).2.1.1)) ps (i + 1) ∧ true = anK (fun z_ => decide (z_.2 = (boxR ps).1.2)) ps (i + 1) ∧ true = anK (fun z_ => decide (z_.2 = (boxR ps).2.1.2)) ps (i + 1)
         exact ⟨(by first | (rw [anK, ← hv1, (show a = true by assumption)]; rfl) | (rw [anK, ← hv1, Bool.eq_false_iff.2 (show ¬ a = true by assumption)]; rfl)), (by first | (rw [anK, ← hv2, (show b = true by assumption)]; rfl) | (rw [anK, ← hv2, Bool.eq_false_iff.2 (show ¬ b = true by assumption)]; rfl)), (by first | (rw [anK, ← hv3, (show c = true by assumption)]; rfl) | (rw [anK, ← hv3, Bool.eq_false_iff.2 (show ¬ c = true by assumption)]; rfl)), (by first | (rw [anK, ← hv4, (show d = true by assumption)]; rfl) | (rw [anK, ← hv4, Bool.eq_false_iff.2 (show ¬ d = true by assumption)]; rfl))⟩
       · show Int.toNat (((List.length ps : Int) : Int) - ((i + 1) : Int)) < Int.toNat (((List.length ps : Int) : Int) - (i : Int))
         omega
      refine l_val (v := Value.pointer (some ⟨b34, 1, none⟩)) (want_y rfl rfl rfl (Bool.eq_false_iff.2 q100)) (e_fieldAddr Try.underlying23 rfl rfl rfl rfl) ?_
      refine l_val (v := Value.int .i64 ((gI ps (i : Int)).2)) (want_y rfl rfl rfl (Bool.eq_false_iff.2 q100)) (e_load_bx1 tp3_gx rfl bx39 rfl) ?_
      refine l_val (v := Value.pointer (some ⟨b12, 1, none⟩)) (want_y rfl rfl rfl (Bool.eq_false_iff.2 q100)) (e_fieldAddr Try.underlying23 rfl rfl (by exact zs4) rfl) ?_
      refine l_val (v := Value.int .i64 (((boxR ps).2.1).2)) (want_y rfl rfl rfl (Bool.eq_false_iff.2 q100)) (e_load_bx1 tp3_gx rfl bx20 rfl) ?_
      refine l_val (v := Value.bool (decide (((gI ps (i : Int)).2) = (((boxR ps).2.1).2)))) (want_y rfl rfl rfl (Bool.eq_false_iff.2 q100)) (e_eql (m := (gI ps (i : Int)).2) (n := ((boxR ps).2.1).2) rfl rfl) ?_
      refine l_val (v := Value.bool (decide (((gI ps (i : Int)).2) = (((boxR ps).2.1).2)))) rfl (e_pick_f rfl (Bool.eq_false_iff.2 q100) rfl) ?_
      refine l_val (v := Value.bool (decide (((gI ps (i : Int)).2) = (((boxR ps).2.1).2)))) rfl (e_assign rfl) ?_
      refine l_nil ?_
      refine run_inBlock ?_
      clear bx39
      refine run_region rfl ?_
      refine l_val (v := Value.int .i64 (i : Int)) rfl (e_move (by exact zs10)) ?_
      refine l_val (v := Value.int .i64 ((i : Int) + 1)) rfl (e_add (m := (i : Int)) (n := 1) rfl rfl (by omega)) ?_
      refine l_val (v := Value.int .i64 ((i : Int) + 1)) rfl (e_assign rfl) ?_
      refine l_nil ?_
      replace hbase := hbase.chg ch33 (not_no _)
      replace hbase := hbase.chg ch38 (is_ne rfl)
      replace r_ps_v := (r_ps_v.chg ch33 (not_no _)).chg ch38 (is_ne rfl)
      refine back8 (true, true, true, decide (((gI ps (i : Int)).2) = (((boxR ps).2.1).2)), i + 1, g35) _ _ ⟨hbase, (by exact zs0), (by exact zs3), (by exact zs4), rfl, rfl, rfl, rfl, rfl, r_ps_v, bx17, bx20, by omega, ?_⟩ ?_
      · show true = anK (fun z_ => decide (z_.1 = (boxR ps).1.1)) ps (i + 1) ∧ true = anK (fun z_ => decide (z_.1 = (boxR ps).2.1.1)) ps (i + 1) ∧ true = anK (fun z_ => decide (z_.2 = (boxR ps).1.2)) ps (i + 1) ∧ (decide (((gI ps (i : Int)).2) = (((boxR ps).2.1).2))) = anK (fun z_ => decide (z_.2 = (boxR ps).2.1.2)) ps (i + 1)
        exact ⟨(by first | (rw [anK, ← hv1, (show a = true by assumption)]; rfl) | (rw [anK, ← hv1, Bool.eq_false_iff.2 (show ¬ a = true by assumption)]; rfl)), (by first | (rw [anK, ← hv2, (show b = true by assumption)]; rfl) | (rw [anK, ← hv2, Bool.eq_false_iff.2 (show ¬ b = true by assumption)]; rfl)), (by first | (rw [anK, ← hv3, (show c = true by assumption)]; rfl) | (rw [anK, ← hv3, Bool.eq_false_iff.2 (show ¬ c = true by assumption)]; rfl)), (by first | (rw [anK, ← hv4, (show d = true by assumption)]; rfl) | (rw [anK, ← hv4, Bool.eq_false_iff.2 (show ¬ d = true by assumption)]; rfl))⟩
      · show Int.toNat (((List.length ps : Int) : Int) - ((i + 1) : Int)) < Int.toNat (((List.length ps : Int) : Int) - (i : Int))
        omega
     refine l_val (v := Value.pointer (some ⟨b34, 1, none⟩)) (want_y rfl rfl rfl (Bool.eq_false_iff.2 q92)) (e_fieldAddr Try.underlying23 rfl rfl rfl rfl) ?_
     refine l_val (v := Value.int .i64 ((gI ps (i : Int)).2)) (want_y rfl rfl rfl (Bool.eq_false_iff.2 q92)) (e_load_bx1 tp3_gx rfl bx39 rfl) ?_
     refine l_val (v := Value.pointer (some ⟨b7, 1, none⟩)) (want_y rfl rfl rfl (Bool.eq_false_iff.2 q92)) (e_fieldAddr Try.underlying23 rfl rfl (by exact zs3) rfl) ?_
     refine l_val (v := Value.int .i64 (((boxR ps).1).2)) (want_y rfl rfl rfl (Bool.eq_false_iff.2 q92)) (e_load_bx1 tp3_gx rfl bx17 rfl) ?_
     refine l_val (v := Value.bool (decide (((gI ps (i : Int)).2) = (((boxR ps).1).2)))) (want_y rfl rfl rfl (Bool.eq_false_iff.2 q92)) (e_eql (m := (gI ps (i : Int)).2) (n := ((boxR ps).1).2) rfl rfl) ?_
     refine l_val (v := Value.bool (decide (((gI ps (i : Int)).2) = (((boxR ps).1).2)))) rfl (e_pick_f rfl (Bool.eq_false_iff.2 q92) rfl) ?_
     refine l_val (v := Value.bool (decide (((gI ps (i : Int)).2) = (((boxR ps).1).2)))) rfl (e_assign rfl) ?_
     refine l_nil ?_
     refine run_region rfl ?_
     refine l_val (v := Value.bool d) rfl (e_move (by exact zs9)) ?_
     refine l_val (v := Value.bool d) rfl (e_move rfl) ?_
     by_cases q100 : d = true
     ·
      refine l_skip (want_n rfl rfl rfl q100) ?_
      refine l_skip (want_n rfl rfl rfl q100) ?_
      refine l_skip (want_n rfl rfl rfl q100) ?_
      refine l_skip (want_n rfl rfl rfl q100) ?_
      refine l_skip (want_n rfl rfl rfl q100) ?_
      refine l_val (v := Value.bool true) rfl (e_pick_t rfl q100 rfl) ?_
      refine l_val (v := Value.bool true) rfl (e_assign rfl) ?_
      refine l_nil ?_
      refine run_inBlock ?_
      clear bx39
      refine run_region rfl ?_
      refine l_val (v := Value.int .i64 (i : Int)) rfl (e_move (by exact zs10)) ?_
      refine l_val (v := Value.int .i64 ((i : Int) + 1)) rfl (e_add (m := (i : Int)) (n := 1) rfl rfl (by omega)) ?_
      refine l_val (v := Value.int .i64 ((i : Int) + 1)) rfl (e_assign rfl) ?_
      refine l_nil ?_
      replace hbase := hbase.chg ch33 (not_no _)
      replace hbase := hbase.chg ch38 (is_ne rfl)
      replace r_ps_v := (r_ps_v.chg ch33 (not_no _)).chg ch38 (is_ne rfl)
      refine back8 (true, true, decide (((gI ps (i : Int)).2) = (((boxR ps).1).2)), true, i + 1, g35) _ _ ⟨hbase, (by exact zs0), (by exact zs3), (by exact zs4), rfl, rfl, rfl, rfl, rfl, r_ps_v, bx17, bx20, by omega, ?_⟩ ?_
      · show true = anK (fun z_ => decide (z_.1 = (boxR ps).1.1)) ps (i + 1) ∧ true = anK (fun z_ => decide (z_.1 = (boxR ps).2.1.1)) ps (i + 1) ∧ (decide (((gI ps (i : Int)).2) = (((boxR ps).1).2))) = anK (fun z_ => decide (z_.2 = (boxR ps).1.2)) ps (i + 1) ∧ true = anK (fun z_ => decide (z_.2 = (boxR ps).2.1.2)) ps (i + 1)
        exact ⟨(by first | (rw [anK, ← hv1, (show a = true by assumption)]; rfl) | (rw [anK, ← hv1, Bool.eq_false_iff.2 (show ¬ a = true by assumption)]; rfl)), (by first | (rw [anK, ← hv2, (show b = true by assumption)]; rfl) | (rw [anK, ← hv2, Bool.eq_false_iff.2 (show ¬ b = true by assumption)]; rfl)), (by first | (rw [anK, ← hv3, (show c = true by assumption)]; rfl) | (rw [anK, ← hv3, Bool.eq_false_iff.2 (show ¬ c = true by assumption)]; rfl)), (by first | (rw [anK, ← hv4, (show d = true by assumption)]; rfl) | (rw [anK, ← hv4, Bool.eq_false_iff.2 (show ¬ d = true by assumption)]; rfl))⟩
      · show Int.toNat (((List.length ps : Int) : Int) - ((i + 1) : Int)) < Int.toNat (((List.length ps : Int) : Int) - (i : Int))
        omega
     refine l_val (v := Value.pointer (some ⟨b34, 1, none⟩)) (want_y rfl rfl rfl (Bool.eq_false_iff.2 q100)) (e_fieldAddr Try.underlying23 rfl rfl rfl rfl) ?_
     refine l_val (v := Value.int .i64 ((gI ps (i : Int)).2)) (want_y rfl rfl rfl (Bool.eq_false_iff.2 q100)) (e_load_bx1 tp3_gx rfl bx39 rfl) ?_
     refine l_val (v := Value.pointer (some ⟨b12, 1, none⟩)) (want_y rfl rfl rfl (Bool.eq_false_iff.2 q100)) (e_fieldAddr Try.underlying23 rfl rfl (by exact zs4) rfl) ?_
     refine l_val (v := Value.int .i64 (((boxR ps).2.1).2)) (want_y rfl rfl rfl (Bool.eq_false_iff.2 q100)) (e_load_bx1 tp3_gx rfl bx20 rfl) ?_
     refine l_val (v := Value.bool (decide (((gI ps (i : Int)).2) = (((boxR ps).2.1).2)))) (want_y rfl rfl rfl (Bool.eq_false_iff.2 q100)) (e_eql (m := (gI ps (i : Int)).2) (n := ((boxR ps).2.1).2) rfl rfl) ?_
     refine l_val (v := Value.bool (decide (((gI ps (i : Int)).2) = (((boxR ps).2.1).2)))) rfl (e_pick_f rfl (Bool.eq_false_iff.2 q100) rfl) ?_
     refine l_val (v := Value.bool (decide (((gI ps (i : Int)).2) = (((boxR ps).2.1).2)))) rfl (e_assign rfl) ?_
     refine l_nil ?_
     refine run_inBlock ?_
     clear bx39
     refine run_region rfl ?_
     refine l_val (v := Value.int .i64 (i : Int)) rfl (e_move (by exact zs10)) ?_
     refine l_val (v := Value.int .i64 ((i : Int) + 1)) rfl (e_add (m := (i : Int)) (n := 1) rfl rfl (by omega)) ?_
     refine l_val (v := Value.int .i64 ((i : Int) + 1)) rfl (e_assign rfl) ?_
     refine l_nil ?_
     replace hbase := hbase.chg ch33 (not_no _)
     replace hbase := hbase.chg ch38 (is_ne rfl)
     replace r_ps_v := (r_ps_v.chg ch33 (not_no _)).chg ch38 (is_ne rfl)
     refine back8 (true, true, decide (((gI ps (i : Int)).2) = (((boxR ps).1).2)), decide (((gI ps (i : Int)).2) = (((boxR ps).2.1).2)), i + 1, g35) _ _ ⟨hbase, (by exact zs0), (by exact zs3), (by exact zs4), rfl, rfl, rfl, rfl, rfl, r_ps_v, bx17, bx20, by omega, ?_⟩ ?_
     · show true = anK (fun z_ => decide (z_.1 = (boxR ps).1.1)) ps (i + 1) ∧ true = anK (fun z_ => decide (z_.1 = (boxR ps).2.1.1)) ps (i + 1) ∧ (decide (((gI ps (i : Int)).2) = (((boxR ps).1).2))) = anK (fun z_ => decide (z_.2 = (boxR ps).1.2)) ps (i + 1) ∧ (decide (((gI ps (i : Int)).2) = (((boxR ps).2.1).2))) = anK (fun z_ => decide (z_.2 = (boxR ps).2.1.2)) ps (i + 1)
       exact ⟨(by first | (rw [anK, ← hv1, (show a = true by assumption)]; rfl) | (rw [anK, ← hv1, Bool.eq_false_iff.2 (show ¬ a = true by assumption)]; rfl)), (by first | (rw [anK, ← hv2, (show b = true by assumption)]; rfl) | (rw [anK, ← hv2, Bool.eq_false_iff.2 (show ¬ b = true by assumption)]; rfl)), (by first | (rw [anK, ← hv3, (show c = true by assumption)]; rfl) | (rw [anK, ← hv3, Bool.eq_false_iff.2 (show ¬ c = true by assumption)]; rfl)), (by first | (rw [anK, ← hv4, (show d = true by assumption)]; rfl) | (rw [anK, ← hv4, Bool.eq_false_iff.2 (show ¬ d = true by assumption)]; rfl))⟩
     · show Int.toNat (((List.length ps : Int) : Int) - ((i + 1) : Int)) < Int.toNat (((List.length ps : Int) : Int) - (i : Int))
       omega
    refine l_val (v := Value.pointer (some ⟨b34, 0, none⟩)) (want_y rfl rfl rfl (Bool.eq_false_iff.2 q84)) (e_fieldAddr Try.underlying23 rfl rfl rfl rfl) ?_
    refine l_val (v := Value.int .i64 ((gI ps (i : Int)).1)) (want_y rfl rfl rfl (Bool.eq_false_iff.2 q84)) (e_load_bx1 tp3_gx rfl bx39 rfl) ?_
    refine l_val (v := Value.pointer (some ⟨b12, 0, none⟩)) (want_y rfl rfl rfl (Bool.eq_false_iff.2 q84)) (e_fieldAddr Try.underlying23 rfl rfl (by exact zs4) rfl) ?_
    refine l_val (v := Value.int .i64 (((boxR ps).2.1).1)) (want_y rfl rfl rfl (Bool.eq_false_iff.2 q84)) (e_load_bx1 tp3_gx rfl bx20 rfl) ?_
    refine l_val (v := Value.bool (decide (((gI ps (i : Int)).1) = (((boxR ps).2.1).1)))) (want_y rfl rfl rfl (Bool.eq_false_iff.2 q84)) (e_eql (m := (gI ps (i : Int)).1) (n := ((boxR ps).2.1).1) rfl rfl) ?_
    refine l_val (v := Value.bool (decide (((gI ps (i : Int)).1) = (((boxR ps).2.1).1)))) rfl (e_pick_f rfl (Bool.eq_false_iff.2 q84) rfl) ?_
    refine l_val (v := Value.bool (decide (((gI ps (i : Int)).1) = (((boxR ps).2.1).1)))) rfl (e_assign rfl) ?_
    refine l_nil ?_
    refine run_seq ?_
    refine run_region rfl ?_
    refine l_val (v := Value.bool c) rfl (e_move (by exact zs8)) ?_
    refine l_val (v := Value.bool c) rfl (e_move rfl) ?_
    by_cases q92 : c = true
    ·
     refine l_skip (want_n rfl rfl rfl q92) ?_
     refine l_skip (want_n rfl rfl rfl q92) ?_
     refine l_skip (want_n rfl rfl rfl q92) ?_
     refine l_skip (want_n rfl rfl rfl q92) ?_
     refine l_skip (want_n rfl rfl rfl q92) ?_
     refine l_val (v := Value.bool true) rfl (e_pick_t rfl q92 rfl) ?_
     refine l_val (v := Value.bool true) rfl (e_assign rfl) ?_
     refine l_nil ?_
     refine run_region rfl ?_
     refine l_val (v := Value.bool d) rfl (e_move (by exact zs9)) ?_
     refine l_val (v := Value.bool d) rfl (e_move rfl) ?_
     by_cases q100 : d = true
     ·
      refine l_skip (want_n rfl rfl rfl q100) ?_
      refine l_skip (want_n rfl rfl rfl q100) ?_
      refine l_skip (want_n rfl rfl rfl q100) ?_
      refine l_skip (want_n rfl rfl rfl q100) ?_
      refine l_skip (want_n rfl rfl rfl q100) ?_
      refine l_val (v := Value.bool true) rfl (e_pick_t rfl q100 rfl) ?_
      refine l_val (v := Value.bool true) rfl (e_assign rfl) ?_
      refine l_nil ?_
      refine run_inBlock ?_
      clear bx39
      refine run_region rfl ?_
      refine l_val (v := Value.int .i64 (i : Int)) rfl (e_move (by exact zs10)) ?_
      refine l_val (v := Value.int .i64 ((i : Int) + 1)) rfl (e_add (m := (i : Int)) (n := 1) rfl rfl (by omega)) ?_
      refine l_val (v := Value.int .i64 ((i : Int) + 1)) rfl (e_assign rfl) ?_
      refine l_nil ?_
      replace hbase := hbase.chg ch33 (not_no _)
      replace hbase := hbase.chg ch38 (is_ne rfl)
      replace r_ps_v := (r_ps_v.chg ch33 (not_no _)).chg ch38 (is_ne rfl)
      refine back8 (true, decide (((gI ps (i : Int)).1) = (((boxR ps).2.1).1)), true, true, i + 1, g35) _ _ ⟨hbase, (by exact zs0), (by exact zs3), (by exact zs4), rfl, rfl, rfl, rfl, rfl, r_ps_v, bx17, bx20, by omega, ?_⟩ ?_
      · show true = anK (fun z_ => decide (z_.1 = (boxR ps).1.1)) ps (i + 1) ∧ (decide (((gI ps (i : Int)).1) = (((boxR ps).2.1).1))) = anK (fun z_ => decide (z_.1 = (boxR ps).2.1.1)) ps (i + 1) ∧ true = anK (fun z_ => decide (z_.2 = (boxR ps).1.2)) ps (i + 1) ∧ true = anK (fun z_ => decide (z_.2 = (boxR ps).2.1.2)) ps (i + 1)
        exact ⟨(by first | (rw [anK, ← hv1, (show a = true by assumption)]; rfl) | (rw [anK, ← hv1, Bool.eq_false_iff.2 (show ¬ a = true by assumption)]; rfl)), (by first | (rw [anK, ← hv2, (show b = true by assumption)]; rfl) | (rw [anK, ← hv2, Bool.eq_false_iff.2 (show ¬ b = true by assumption)]; rfl)), (by first | (rw [anK, ← hv3, (show c = true by assumption)]; rfl) | (rw [anK, ← hv3, Bool.eq_false_iff.2 (show ¬ c = true by assumption)]; rfl)), (by first | (rw [anK, ← hv4, (show d = true by assumption)]; rfl) | (rw [anK, ← hv4, Bool.eq_false_iff.2 (show ¬ d = true by assumption)]; rfl))⟩
      · show Int.toNat (((List.length ps : Int) : Int) - ((i + 1) : Int)) < Int.toNat (((List.length ps : Int) : Int) - (i : Int))
        omega
     refine l_val (v := Value.pointer (some ⟨b34, 1, none⟩)) (want_y rfl rfl rfl (Bool.eq_false_iff.2 q100)) (e_fieldAddr Try.underlying23 rfl rfl rfl rfl) ?_
     refine l_val (v := Value.int .i64 ((gI ps (i : Int)).2)) (want_y rfl rfl rfl (Bool.eq_false_iff.2 q100)) (e_load_bx1 tp3_gx rfl bx39 rfl) ?_
     refine l_val (v := Value.pointer (some ⟨b12, 1, none⟩)) (want_y rfl rfl rfl (Bool.eq_false_iff.2 q100)) (e_fieldAddr Try.underlying23 rfl rfl (by exact zs4) rfl) ?_
     refine l_val (v := Value.int .i64 (((boxR ps).2.1).2)) (want_y rfl rfl rfl (Bool.eq_false_iff.2 q100)) (e_load_bx1 tp3_gx rfl bx20 rfl) ?_
     refine l_val (v := Value.bool (decide (((gI ps (i : Int)).2) = (((boxR ps).2.1).2)))) (want_y rfl rfl rfl (Bool.eq_false_iff.2 q100)) (e_eql (m := (gI ps (i : Int)).2) (n := ((boxR ps).2.1).2) rfl rfl) ?_
     refine l_val (v := Value.bool (decide (((gI ps (i : Int)).2) = (((boxR ps).2.1).2)))) rfl (e_pick_f rfl (Bool.eq_false_iff.2 q100) rfl) ?_
     refine l_val (v := Value.bool (decide (((gI ps (i : Int)).2) = (((boxR ps).2.1).2)))) rfl (e_assign rfl) ?_
     refine l_nil ?_
     refine run_inBlock ?_
     clear bx39
     refine run_region rfl ?_
     refine l_val (v := Value.int .i64 (i : Int)) rfl (e_move (by exact zs10)) ?_
     refine l_val (v := Value.int .i64 ((i : Int) + 1)) rfl (e_add (m := (i : Int)) (n := 1) rfl rfl (by omega)) ?_
     refine l_val (v := Value.int .i64 ((i : Int) + 1)) rfl (e_assign rfl) ?_
     refine l_nil ?_
     replace hbase := hbase.chg ch33 (not_no _)
     replace hbase := hbase.chg ch38 (is_ne rfl)
     replace r_ps_v := (r_ps_v.chg ch33 (not_no _)).chg ch38 (is_ne rfl)
     refine back8 (true, decide (((gI ps (i : Int)).1) = (((boxR ps).2.1).1)), true, decide (((gI ps (i : Int)).2) = (((boxR ps).2.1).2)), i + 1, g35) _ _ ⟨hbase, (by exact zs0), (by exact zs3), (by exact zs4), rfl, rfl, rfl, rfl, rfl, r_ps_v, bx17, bx20, by omega, ?_⟩ ?_
     · show true = anK (fun z_ => decide (z_.1 = (boxR ps).1.1)) ps (i + 1) ∧ (decide (((gI ps (i : Int)).1) = (((boxR ps).2.1).1))) = anK (fun z_ => decide (z_.1 = (boxR ps).2.1.1)) ps (i + 1) ∧ true = anK (fun z_ => decide (z_.2 = (boxR ps).1.2)) ps (i + 1) ∧ (decide (((gI ps (i : Int)).2) = (((boxR ps).2.1).2))) = anK (fun z_ => decide (z_.2 = (boxR ps).2.1.2)) ps (i + 1)
       exact ⟨(by first | (rw [anK, ← hv1, (show a = true by assumption)]; rfl) | (rw [anK, ← hv1, Bool.eq_false_iff.2 (show ¬ a = true by assumption)]; rfl)), (by first | (rw [anK, ← hv2, (show b = true by assumption)]; rfl) | (rw [anK, ← hv2, Bool.eq_false_iff.2 (show ¬ b = true by assumption)]; rfl)), (by first | (rw [anK, ← hv3, (show c = true by assumption)]; rfl) | (rw [anK, ← hv3, Bool.eq_false_iff.2 (show ¬ c = true by assumption)]; rfl)), (by first | (rw [anK, ← hv4, (show d = true by assumption)]; rfl) | (rw [anK, ← hv4, Bool.eq_false_iff.2 (show ¬ d = true by assumption)]; rfl))⟩
     · show Int.toNat (((List.length ps : Int) : Int) - ((i + 1) : Int)) < Int.toNat (((List.length ps : Int) : Int) - (i : Int))
       omega
    refine l_val (v := Value.pointer (some ⟨b34, 1, none⟩)) (want_y rfl rfl rfl (Bool.eq_false_iff.2 q92)) (e_fieldAddr Try.underlying23 rfl rfl rfl rfl) ?_
    refine l_val (v := Value.int .i64 ((gI ps (i : Int)).2)) (want_y rfl rfl rfl (Bool.eq_false_iff.2 q92)) (e_load_bx1 tp3_gx rfl bx39 rfl) ?_
    refine l_val (v := Value.pointer (some ⟨b7, 1, none⟩)) (want_y rfl rfl rfl (Bool.eq_false_iff.2 q92)) (e_fieldAddr Try.underlying23 rfl rfl (by exact zs3) rfl) ?_
    refine l_val (v := Value.int .i64 (((boxR ps).1).2)) (want_y rfl rfl rfl (Bool.eq_false_iff.2 q92)) (e_load_bx1 tp3_gx rfl bx17 rfl) ?_
    refine l_val (v := Value.bool (decide (((gI ps (i : Int)).2) = (((boxR ps).1).2)))) (want_y rfl rfl rfl (Bool.eq_false_iff.2 q92)) (e_eql (m := (gI ps (i : Int)).2) (n := ((boxR ps).1).2) rfl rfl) ?_
    refine l_val (v := Value.bool (decide (((gI ps (i : Int)).2) = (((boxR ps).1).2)))) rfl (e_pick_f rfl (Bool.eq_false_iff.2 q92) rfl) ?_
    refine l_val (v := Value.bool (decide (((gI ps (i : Int)).2) = (((boxR ps).1).2)))) rfl (e_assign rfl) ?_
    refine l_nil ?_
    refine run_region rfl ?_
    refine l_val (v := Value.bool d) rfl (e_move (by exact zs9)) ?_
    refine l_val (v := Value.bool d) rfl (e_move rfl) ?_
    by_cases q100 : d = true
    ·
     refine l_skip (want_n rfl rfl rfl q100) ?_
     refine l_skip (want_n rfl rfl rfl q100) ?_
     refine l_skip (want_n rfl rfl rfl q100) ?_
     refine l_skip (want_n rfl rfl rfl q100) ?_
     refine l_skip (want_n rfl rfl rfl q100) ?_
     refine l_val (v := Value.bool true) rfl (e_pick_t rfl q100 rfl) ?_
     refine l_val (v := Value.bool true) rfl (e_assign rfl) ?_
     refine l_nil ?_
     refine run_inBlock ?_
     clear bx39
     refine run_region rfl ?_
     refine l_val (v := Value.int .i64 (i : Int)) rfl (e_move (by exact zs10)) ?_
     refine l_val (v := Value.int .i64 ((i : Int) + 1)) rfl (e_add (m := (i : Int)) (n := 1) rfl rfl (by omega)) ?_
     refine l_val (v := Value.int .i64 ((i : Int) + 1)) rfl (e_assign rfl) ?_
     refine l_nil ?_
     replace hbase := hbase.chg ch33 (not_no _)
     replace hbase := hbase.chg ch38 (is_ne rfl)
     replace r_ps_v := (r_ps_v.chg ch33 (not_no _)).chg ch38 (is_ne rfl)
     refine back8 (true, decide (((gI ps (i : Int)).1) = (((boxR ps).2.1).1)), decide (((gI ps (i : Int)).2) = (((boxR ps).1).2)), true, i + 1, g35) _ _ ⟨hbase, (by exact zs0), (by exact zs3), (by exact zs4), rfl, rfl, rfl, rfl, rfl, r_ps_v, bx17, bx20, by omega, ?_⟩ ?_
     · show true = anK (fun z_ => decide (z_.1 = (boxR ps).1.1)) ps (i + 1) ∧ (decide (((gI ps (i : Int)).1) = (((boxR ps).2.1).1))) = anK (fun z_ => decide (z_.1 = (boxR ps).2.1.1)) ps (i + 1) ∧ (decide (((gI ps (i : Int)).2) = (((boxR ps).1).2))) = anK (fun z_ => decide (z_.2 = (boxR ps).1.2)) ps (i + 1) ∧ true = anK (fun z_ => decide (z_.2 = (boxR ps).2.1.2)) ps (i + 1)
       exact ⟨(by first | (rw [anK, ← hv1, (show a = true by assumption)]; rfl) | (rw [anK, ← hv1, Bool.eq_false_iff.2 (show ¬ a = true by assumption)]; rfl)), (by first | (rw [anK, ← hv2, (show b = true by assumption)]; rfl) | (rw [anK, ← hv2, Bool.eq_false_iff.2 (show ¬ b = true by assumption)]; rfl)), (by first | (rw [anK, ← hv3, (show c = true by assumption)]; rfl) | (rw [anK, ← hv3, Bool.eq_false_iff.2 (show ¬ c = true by assumption)]; rfl)), (by first | (rw [anK, ← hv4, (show d = true by assumption)]; rfl) | (rw [anK, ← hv4, Bool.eq_false_iff.2 (show ¬ d = true by assumption)]; rfl))⟩
     · show Int.toNat (((List.length ps : Int) : Int) - ((i + 1) : Int)) < Int.toNat (((List.length ps : Int) : Int) - (i : Int))
       omega
    refine l_val (v := Value.pointer (some ⟨b34, 1, none⟩)) (want_y rfl rfl rfl (Bool.eq_false_iff.2 q100)) (e_fieldAddr Try.underlying23 rfl rfl rfl rfl) ?_
    refine l_val (v := Value.int .i64 ((gI ps (i : Int)).2)) (want_y rfl rfl rfl (Bool.eq_false_iff.2 q100)) (e_load_bx1 tp3_gx rfl bx39 rfl) ?_
    refine l_val (v := Value.pointer (some ⟨b12, 1, none⟩)) (want_y rfl rfl rfl (Bool.eq_false_iff.2 q100)) (e_fieldAddr Try.underlying23 rfl rfl (by exact zs4) rfl) ?_
    refine l_val (v := Value.int .i64 (((boxR ps).2.1).2)) (want_y rfl rfl rfl (Bool.eq_false_iff.2 q100)) (e_load_bx1 tp3_gx rfl bx20 rfl) ?_
    refine l_val (v := Value.bool (decide (((gI ps (i : Int)).2) = (((boxR ps).2.1).2)))) (want_y rfl rfl rfl (Bool.eq_false_iff.2 q100)) (e_eql (m := (gI ps (i : Int)).2) (n := ((boxR ps).2.1).2) rfl rfl) ?_
    refine l_val (v := Value.bool (decide (((gI ps (i : Int)).2) = (((boxR ps).2.1).2)))) rfl (e_pick_f rfl (Bool.eq_false_iff.2 q100) rfl) ?_
    refine l_val (v := Value.bool (decide (((gI ps (i : Int)).2) = (((boxR ps).2.1).2)))) rfl (e_assign rfl) ?_
    refine l_nil ?_
    refine run_inBlock ?_
    clear bx39
    refine run_region rfl ?_
    refine l_val (v := Value.int .i64 (i : Int)) rfl (e_move (by exact zs10)) ?_
    refine l_val (v := Value.int .i64 ((i : Int) + 1)) rfl (e_add (m := (i : Int)) (n := 1) rfl rfl (by omega)) ?_
    refine l_val (v := Value.int .i64 ((i : Int) + 1)) rfl (e_assign rfl) ?_
    refine l_nil ?_
    replace hbase := hbase.chg ch33 (not_no _)
    replace hbase := hbase.chg ch38 (is_ne rfl)
    replace r_ps_v := (r_ps_v.chg ch33 (not_no _)).chg ch38 (is_ne rfl)
    refine back8 (true, decide (((gI ps (i : Int)).1) = (((boxR ps).2.1).1)), decide (((gI ps (i : Int)).2) = (((boxR ps).1).2)), decide (((gI ps (i : Int)).2) = (((boxR ps).2.1).2)), i + 1, g35) _ _ ⟨hbase, (by exact zs0), (by exact zs3), (by exact zs4), rfl, rfl, rfl, rfl, rfl, r_ps_v, bx17, bx20, by omega, ?_⟩ ?_
    · show true = anK (fun z_ => decide (z_.1 = (boxR ps).1.1)) ps (i + 1) ∧ (decide (((gI ps (i : Int)).1) = (((boxR ps).2.1).1))) = anK (fun z_ => decide (z_.1 = (boxR ps).2.1.1)) ps (i + 1) ∧ (decide (((gI ps (i : Int)).2) = (((boxR ps).1).2))) = anK (fun z_ => decide (z_.2 = (boxR ps).1.2)) ps (i + 1) ∧ (decide (((gI ps (i : Int)).2) = (((boxR ps).2.1).2))) = anK (fun z_ => decide (z_.2 = (boxR ps).2.1.2)) ps (i + 1)
      exact ⟨(by first | (rw [anK, ← hv1, (show a = true by assumption)]; rfl) | (rw [anK, ← hv1, Bool.eq_false_iff.2 (show ¬ a = true by assumption)]; rfl)), (by first | (rw [anK, ← hv2, (show b = true by assumption)]; rfl) | (rw [anK, ← hv2, Bool.eq_false_iff.2 (show ¬ b = true by assumption)]; rfl)), (by first | (rw [anK, ← hv3, (show c = true by assumption)]; rfl) | (rw [anK, ← hv3, Bool.eq_false_iff.2 (show ¬ c = true by assumption)]; rfl)), (by first | (rw [anK, ← hv4, (show d = true by assumption)]; rfl) | (rw [anK, ← hv4, Bool.eq_false_iff.2 (show ¬ d = true by assumption)]; rfl))⟩
    · show Int.toNat (((List.length ps : Int) : Int) - ((i + 1) : Int)) < Int.toNat (((List.length ps : Int) : Int) - (i : Int))
      omega
   refine l_val (v := Value.pointer (some ⟨b34, 0, none⟩)) (want_y rfl rfl rfl (Bool.eq_false_iff.2 q76)) (e_fieldAddr Try.underlying23 rfl rfl rfl rfl) ?_
   refine l_val (v := Value.int .i64 ((gI ps (i : Int)).1)) (want_y rfl rfl rfl (Bool.eq_false_iff.2 q76)) (e_load_bx1 tp3_gx rfl bx39 rfl) ?_
   refine l_val (v := Value.pointer (some ⟨b7, 0, none⟩)) (want_y rfl rfl rfl (Bool.eq_false_iff.2 q76)) (e_fieldAddr Try.underlying23 rfl rfl (by exact zs3) rfl) ?_
   refine l_val (v := Value.int .i64 (((boxR ps).1).1)) (want_y rfl rfl rfl (Bool.eq_false_iff.2 q76)) (e_load_bx1 tp3_gx rfl bx17 rfl) ?_
   refine l_val (v := Value.bool (decide (((gI ps (i : Int)).1) = (((boxR ps).1).1)))) (want_y rfl rfl rfl (Bool.eq_false_iff.2 q76)) (e_eql (m := (gI ps (i : Int)).1) (n := ((boxR ps).1).1) rfl rfl) ?_
   refine l_val (v := Value.bool (decide (((gI ps (i : Int)).1) = (((boxR ps).1).1)))) rfl (e_pick_f rfl (Bool.eq_false_iff.2 q76) rfl) ?_
   refine l_val (v := Value.bool (decide (((gI ps (i : Int)).1) = (((boxR ps).1).1)))) rfl (e_assign rfl) ?_
   refine l_nil ?_
   refine run_seq ?_
   refine run_region rfl ?_
   refine l_val (v := Value.bool b) rfl (e_move (by exact zs7)) ?_
   refine l_val (v := Value.bool b) rfl (e_move rfl) ?_
   by_cases q84 : b = true
   ·
    refine l_skip (want_n rfl rfl rfl q84) ?_
    refine l_skip (want_n rfl rfl rfl q84) ?_
    refine l_skip (want_n rfl rfl rfl q84) ?_
    refine l_skip (want_n rfl rfl rfl q84) ?_
    refine l_skip (want_n rfl rfl rfl q84) ?_
    refine l_val (v := Value.bool true) rfl (e_pick_t rfl q84 rfl) ?_
    refine l_val (v := Value.bool true) rfl (e_assign rfl) ?_
    refine l_nil ?_
    refine run_seq ?_
    refine run_region rfl ?_
    refine l_val (v := Value.bool c) rfl (e_move (by exact zs8)) ?_
    refine l_val (v := Value.bool c) rfl (e_move rfl) ?_
    by_cases q92 : c = true
    ·
     refine l_skip (want_n rfl rfl rfl q92) ?_
     refine l_skip (want_n rfl rfl rfl q92) ?_
     refine l_skip (want_n rfl rfl rfl q92) ?_
     refine l_skip (want_n rfl rfl rfl q92) ?_
     refine l_skip (want_n rfl rfl rfl q92) ?_
     refine l_val (v := Value.bool true) rfl (e_pick_t rfl q92 rfl) ?_
     refine l_val (v := Value.bool true) rfl (e_assign rfl) ?_
     refine l_nil ?_
     refine run_region rfl ?_
     refine l_val (v := Value.bool d) rfl (e_move (by exact zs9)) ?_
     refine l_val (v := Value.bool d) rfl (e_move rfl) ?_
     by_cases q100 : d = true
     ·
      refine l_skip (want_n rfl rfl rfl q100) ?_
      refine l_skip (want_n rfl rfl rfl q100) ?_
      refine l_skip (want_n rfl rfl rfl q100) ?_
      refine l_skip (want_n rfl rfl rfl q100) ?_
      refine l_skip (want_n rfl rfl rfl q100) ?_
      refine l_val (v := Value.bool true) rfl (e_pick_t rfl q100 rfl) ?_
      refine l_val (v := Value.bool true) rfl (e_assign rfl) ?_
      refine l_nil ?_
      refine run_inBlock ?_
      clear bx39
      refine run_region rfl ?_
      refine l_val (v := Value.int .i64 (i : Int)) rfl (e_move (by exact zs10)) ?_
      refine l_val (v := Value.int .i64 ((i : Int) + 1)) rfl (e_add (m := (i : Int)) (n := 1) rfl rfl (by omega)) ?_
      refine l_val (v := Value.int .i64 ((i : Int) + 1)) rfl (e_assign rfl) ?_
      refine l_nil ?_
      replace hbase := hbase.chg ch33 (not_no _)
      replace hbase := hbase.chg ch38 (is_ne rfl)
      replace r_ps_v := (r_ps_v.chg ch33 (not_no _)).chg ch38 (is_ne rfl)
      refine back8 (decide (((gI ps (i : Int)).1) = (((boxR ps).1).1)), true, true, true, i + 1, g35) _ _ ⟨hbase, (by exact zs0), (by exact zs3), (by exact zs4), rfl, rfl, rfl, rfl, rfl, r_ps_v, bx17, bx20, by omega, ?_⟩ ?_
      · show (decide (((gI ps (i : Int)).1) = (((boxR ps).1).1))) = anK (fun z_ => decide (z_.1 = (boxR ps).1.1)) ps (i + 1) ∧ true = anK (fun z_ => decide (z_.1 = (boxR ps).2.1.1)) ps (i + 1) ∧ true = anK (fun z_ => decide (z_.2 = (boxR ps).1.2)) ps (i + 1) ∧ true = anK (fun z_ => decide (z_.2 = (boxR ps).2.1.2)) ps (i + 1)
        exact ⟨(by first | (rw [anK, ← hv1, (show a = true by assumption)]; rfl) | (rw [anK, ← hv1, Bool.eq_false_iff.2 (show ¬ a = true by assumption)]; rfl)), (by first | (rw [anK, ← hv2, (show b = true by assumption)]; rfl) | (rw [anK, ← hv2, Bool.eq_false_iff.2 (show ¬ b = true by assumption)]; rfl)), (by first | (rw [anK, ← hv3, (show c = true by assumption)]; rfl) | (rw [anK, ← hv3, Bool.eq_false_iff.2 (show ¬ c = true by assumption)]; rfl)), (by first | (rw [anK, ← hv4, (show d = true by assumption)]; rfl) | (rw [anK, ← hv4, Bool.eq_false_iff.2 (show ¬ d = true by assumption)]; rfl))⟩
      · show Int.toNat (((List.length ps : Int) : Int) - ((i + 1) : Int)) < Int.toNat (((List.length ps : Int) : Int) - (i : Int))
        omega
     refine l_val (v := Value.pointer (some ⟨b34, 1, none⟩)) (want_y rfl rfl rfl (Bool.eq_false_iff.2 q100)) (e_fieldAddr Try.underlying23 rfl rfl rfl rfl) ?_
     refine l_val (v := Value.int .i64 ((gI ps (i : Int)).2)) (want_y rfl rfl rfl (Bool.eq_false_iff.2 q100)) (e_load_bx1 tp3_gx rfl bx39 rfl) ?_
     refine l_val (v := Value.pointer (some ⟨b12, 1, none⟩)) (want_y rfl rfl rfl (Bool.eq_false_iff.2 q100)) (e_fieldAddr Try.underlying23 rfl rfl (by exact zs4) rfl) ?_
     refine l_val (v := Value.int .i64 (((boxR ps).2.1).2)) (want_y rfl rfl rfl (Bool.eq_false_iff.2 q100)) (e_load_bx1 tp3_gx rfl bx20 rfl) ?_
     refine l_val (v := Value.bool (decide (((gI ps (i : Int)).2) = (((boxR ps).2.1).2)))) (want_y rfl rfl rfl (Bool.eq_false_iff.2 q100)) (e_eql (m := (gI ps (i : Int)).2) (n := ((boxR ps).2.1).2) rfl rfl) ?_
     refine l_val (v := Value.bool (decide (((gI ps (i : Int)).2) = (((boxR ps).2.1).2)))) rfl (e_pick_f rfl (Bool.eq_false_iff.2 q100) rfl) ?_
     refine l_val (v := Value.bool (decide (((gI ps (i : Int)).2) = (((boxR ps).2.1).2)))) rfl (e_assign rfl) ?_
     refine l_nil ?_
     refine run_inBlock ?_
     clear bx39
     refine run_region rfl ?_
     refine l_val (v := Value.int .i64 (i : Int)) rfl (e_move (by exact zs10)) ?_
     refine l_val (v := Value.int .i64 ((i : Int) + 1)) rfl (e_add (m := (i : Int)) (n := 1) rfl rfl (by omega)) ?_
     refine l_val (v := Value.int .i64 ((i : Int) + 1)) rfl (e_assign rfl) ?_
     refine l_nil ?_
     replace hbase := hbase.chg ch33 (not_no _)
     replace hbase := hbase.chg ch38 (is_ne rfl)
     replace r_ps_v := (r_ps_v.chg ch33 (not_no _)).chg ch38 (is_ne rfl)
     refine back8 (decide (((gI ps (i : Int)).1) = (((boxR ps).1).1)), true, true, decide (((gI ps (i : Int)).2) = (((boxR ps).2.1).2)), i + 1, g35) _ _ ⟨hbase, (by exact zs0), (by exact zs3), (by exact zs4), rfl, rfl, rfl, rfl, rfl, r_ps_v, bx17, bx20, by omega, ?_⟩ ?_
     · show (decide (((gI ps (i : Int)).1) = (((boxR ps).1).1))) = anK (fun z_ => decide (z_.1 = (boxR ps).1.1)) ps (i + 1) ∧ true = anK (fun z_ => decide (z_.1 = (boxR ps).2.1.1)) ps (i + 1) ∧ true = anK (fun z_ => decide (z_.2 = (boxR ps).1.2)) ps (i + 1) ∧ (decide (((gI ps (i : Int)).2) = (((boxR ps).2.1).2))) = anK (fun z_ => decide (z_.2 = (boxR ps).2.1.2)) ps (i + 1)
       exact ⟨(by first | (rw [anK, ← hv1, (show a = true by assumption)]; rfl) | (rw [anK, ← hv1, Bool.eq_false_iff.2 (show ¬ a = true by assumption)]; rfl)), (by first | (rw [anK, ← hv2, (show b = true by assumption)]; rfl) | (rw [anK, ← hv2, Bool.eq_false_iff.2 (show ¬ b = true by assumption)]; rfl)), (by first | (rw [anK, ← hv3, (show c = true by assumption)]; rfl) | (rw [anK, ← hv3, Bool.eq_false_iff.2 (show ¬ c = true by assumption)]; rfl)), (by first | (rw [anK, ← hv4, (show d = true by assumption)]; rfl) | (rw [anK, ← hv4, Bool.eq_false_iff.2 (show ¬ d = true by assumption)]; rfl))⟩
     · show Int.toNat (((List.length ps : Int) : Int) - ((i + 1) : Int)) < Int.toNat (((List.length ps : Int) : Int) - (i : Int))
       omega
    refine l_val (v := Value.pointer (some ⟨b34, 1, none⟩)) (want_y rfl rfl rfl (Bool.eq_false_iff.2 q92)) (e_fieldAddr Try.underlying23 rfl rfl rfl rfl) ?_
    refine l_val (v := Value.int .i64 ((gI ps (i : Int)).2)) (want_y rfl rfl rfl (Bool.eq_false_iff.2 q92)) (e_load_bx1 tp3_gx rfl bx39 rfl) ?_
    refine l_val (v := Value.pointer (some ⟨b7, 1, none⟩)) (want_y rfl rfl rfl (Bool.eq_false_iff.2 q92)) (e_fieldAddr Try.underlying23 rfl rfl (by exact zs3) rfl) ?_
    refine l_val (v := Value.int .i64 (((boxR ps).1).2)) (want_y rfl rfl rfl (Bool.eq_false_iff.2 q92)) (e_load_bx1 tp3_gx rfl bx17 rfl) ?_
    refine l_val (v := Value.bool (decide (((gI ps (i : Int)).2) = (((boxR ps).1).2)))) (want_y rfl rfl rfl (Bool.eq_false_iff.2 q92)) (e_eql (m := (gI ps (i : Int)).2) (n := ((boxR ps).1).2) rfl rfl) ?_
    refine l_val (v := Value.bool (decide (((gI ps (i : Int)).2) = (((boxR ps).1).2)))) rfl (e_pick_f rfl (Bool.eq_false_iff.2 q92) rfl) ?_
    refine l_val (v := Value.bool (decide (((gI ps (i : Int)).2) = (((boxR ps).1).2)))) rfl (e_assign rfl) ?_
    refine l_nil ?_
    refine run_region rfl ?_
    refine l_val (v := Value.bool d) rfl (e_move (by exact zs9)) ?_
    refine l_val (v := Value.bool d) rfl (e_move rfl) ?_
    by_cases q100 : d = true
    ·
     refine l_skip (want_n rfl rfl rfl q100) ?_
     refine l_skip (want_n rfl rfl rfl q100) ?_
     refine l_skip (want_n rfl rfl rfl q100) ?_
     refine l_skip (want_n rfl rfl rfl q100) ?_
     refine l_skip (want_n rfl rfl rfl q100) ?_
     refine l_val (v := Value.bool true) rfl (e_pick_t rfl q100 rfl) ?_
     refine l_val (v := Value.bool true) rfl (e_assign rfl) ?_
     refine l_nil ?_
     refine run_inBlock ?_
     clear bx39
     refine run_region rfl ?_
     refine l_val (v := Value.int .i64 (i : Int)) rfl (e_move (by exact zs10)) ?_
     refine l_val (v := Value.int .i64 ((i : Int) + 1)) rfl (e_add (m := (i : Int)) (n := 1) rfl rfl (by omega)) ?_
     refine l_val (v := Value.int .i64 ((i : Int) + 1)) rfl (e_assign rfl) ?_
     refine l_nil ?_
     replace hbase := hbase.chg ch33 (not_no _)
     replace hbase := hbase.chg ch38 (is_ne rfl)
     replace r_ps_v := (r_ps_v.chg ch33 (not_no _)).chg ch38 (is_ne rfl)
     refine back8 (decide (((gI ps (i : Int)).1) = (((boxR ps).1).1)), true, decide (((gI ps (i : Int)).2) = (((boxR ps).1).2)), true, i + 1, g35) _ _ ⟨hbase, (by exact zs0), (by exact zs3), (by exact zs4), rfl, rfl, rfl, rfl, rfl, r_ps_v, bx17, bx20, by omega, ?_⟩ ?_
     · show (decide (((gI ps (i : Int)).1) = (((boxR ps).1).1))) = anK (fun z_ => decide (z_.1 = (boxR ps).1.1)) ps (i + 1) ∧ true = anK (fun z_ => decide (z_.1 = (boxR ps).2.1.1)) ps (i + 1) ∧ (decide (((gI ps (i : Int)).2) = (((boxR ps).1).2))) = anK (fun z_ => decide (z_.2 = (boxR ps).1.2)) ps (i + 1) ∧ true = anK (fun z_ => decide (z_.2 = (boxR ps).2.1.2)) ps (i + 1)
       exact ⟨(by first | (rw [anK, ← hv1, (show a = true by assumption)]; rfl) | (rw [anK, ← hv1, Bool.eq_false_iff.2 (show ¬ a = true by assumption)]; rfl)), (by first | (rw [anK, ← hv2, (show b = true by assumption)]; rfl) | (rw [anK, ← hv2, Bool.eq_false_iff.2 (show ¬ b = true by assumption)]; rfl)), (by first | (rw [anK, ← hv3, (show c = true by assumption)]; rfl) | (rw [anK, ← hv3, Bool.eq_false_iff.2 (show ¬ c = true by assumption)]; rfl)), (by first | (rw [anK, ← hv4, (show d = true by assumption)]; rfl) | (rw [anK, ← hv4, Bool.eq_false_iff.2 (show ¬ d = true by assumption)]; rfl))⟩
     · show Int.toNat (((List.length ps : Int) : Int) - ((i + 1) : Int)) < Int.toNat (((List.length ps : Int) : Int) - (i : Int))
       omega
    refine l_val (v := Value.pointer (some ⟨b34, 1, none⟩)) (want_y rfl rfl rfl (Bool.eq_false_iff.2 q100)) (e_fieldAddr Try.underlying23 rfl rfl rfl rfl) ?_
    refine l_val (v := Value.int .i64 ((gI ps (i : Int)).2)) (want_y rfl rfl rfl (Bool.eq_false_iff.2 q100)) (e_load_bx1 tp3_gx rfl bx39 rfl) ?_
    refine l_val (v := Value.pointer (some ⟨b12, 1, none⟩)) (want_y rfl rfl rfl (Bool.eq_false_iff.2 q100)) (e_fieldAddr Try.underlying23 rfl rfl (by exact zs4) rfl) ?_
    refine l_val (v := Value.int .i64 (((boxR ps).2.1).2)) (want_y rfl rfl rfl (Bool.eq_false_iff.2 q100)) (e_load_bx1 tp3_gx rfl bx20 rfl) ?_
    refine l_val (v := Value.bool (decide (((gI ps (i : Int)).2) = (((boxR ps).2.1).2)))) (want_y rfl rfl rfl (Bool.eq_false_iff.2 q100)) (e_eql (m := (gI ps (i : Int)).2) (n := ((boxR ps).2.1).2) rfl rfl) ?_
    refine l_val (v := Value.bool (decide (((gI ps (i : Int)).2) = (((boxR ps).2.1).2)))) rfl (e_pick_f rfl (Bool.eq_false_iff.2 q100) rfl) ?_
    refine l_val (v := Value.bool (decide (((gI ps (i : Int)).2) = (((boxR ps).2.1).2)))) rfl (e_assign rfl) ?_
    refine l_nil ?_
    refine run_inBlock ?_
    clear bx39
    refine run_region rfl ?_
    refine l_val (v := Value.int .i64 (i : Int)) rfl (e_move (by exact zs10)) ?_
    refine l_val (v := Value.int .i64 ((i : Int) + 1)) rfl (e_add (m := (i : Int)) (n := 1) rfl rfl (by omega)) ?_
    refine l_val (v := Value.int .i64 ((i : Int) + 1)) rfl (e_assign rfl) ?_
    refine l_nil ?_
    replace hbase := hbase.chg ch33 (not_no _)
    replace hbase := hbase.chg ch38 (is_ne rfl)
    replace r_ps_v := (r_ps_v.chg ch33 (not_no _)).chg ch38 (is_ne rfl)
    refine back8 (decide (((gI ps (i : Int)).1) = (((boxR ps).1).1)), true, decide (((gI ps (i : Int)).2) = (((boxR ps).1).2)), decide (((gI ps (i : Int)).2) = (((boxR ps).2.1).2)), i + 1, g35) _ _ ⟨hbase, (by exact zs0), (by exact zs3), (by exact zs4), rfl, rfl, rfl, rfl, rfl, r_ps_v, bx17, bx20, by omega, ?_⟩ ?_
    · show (decide (((gI ps (i : Int)).1) = (((boxR ps).1).1))) = anK (fun z_ => decide (z_.1 = (boxR ps).1.1)) ps (i + 1) ∧ true = anK (fun z_ => decide (z_.1 = (boxR ps).2.1.1)) ps (i + 1) ∧ (decide (((gI ps (i : Int)).2) = (((boxR ps).1).2))) = anK (fun z_ => decide (z_.2 = (boxR ps).1.2)) ps (i + 1) ∧ (decide (((gI ps (i : Int)).2) = (((boxR ps).2.1).2))) = anK (fun z_ => decide (z_.2 = (boxR ps).2.1.2)) ps (i + 1)
      exact ⟨(by first | (rw [anK, ← hv1, (show a = true by assumption)]; rfl) | (rw [anK, ← hv1, Bool.eq_false_iff.2 (show ¬ a = true by assumption)]; rfl)), (by first | (rw [anK, ← hv2, (show b = true by assumption)]; rfl) | (rw [anK, ← hv2, Bool.eq_false_iff.2 (show ¬ b = true by assumption)]; rfl)), (by first | (rw [anK, ← hv3, (show c = true by assumption)]; rfl) | (rw [anK, ← hv3, Bool.eq_false_iff.2 (show ¬ c = true by assumption)]; rfl)), (by first | (rw [anK, ← hv4, (show d = true by assumption)]; rfl) | (rw [anK, ← hv4, Bool.eq_false_iff.2 (show ¬ d = true by assumption)]; rfl))⟩
    · show Int.toNat (((List.length ps : Int) : Int) - ((i + 1) : Int)) < Int.toNat (((List.length ps : Int) : Int) - (i : Int))
      omega
   refine l_val (v := Value.pointer (some ⟨b34, 0, none⟩)) (want_y rfl rfl rfl (Bool.eq_false_iff.2 q84)) (e_fieldAddr Try.underlying23 rfl rfl rfl rfl) ?_
   refine l_val (v := Value.int .i64 ((gI ps (i : Int)).1)) (want_y rfl rfl rfl (Bool.eq_false_iff.2 q84)) (e_load_bx1 tp3_gx rfl bx39 rfl) ?_
   refine l_val (v := Value.pointer (some ⟨b12, 0, none⟩)) (want_y rfl rfl rfl (Bool.eq_false_iff.2 q84)) (e_fieldAddr Try.underlying23 rfl rfl (by exact zs4) rfl) ?_
   refine l_val (v := Value.int .i64 (((boxR ps).2.1).1)) (want_y rfl rfl rfl (Bool.eq_false_iff.2 q84)) (e_load_bx1 tp3_gx rfl bx20 rfl) ?_
   refine l_val (v := Value.bool (decide (((gI ps (i : Int)).1) = (((boxR ps).2.1).1)))) (want_y rfl rfl rfl (Bool.eq_false_iff.2 q84)) (e_eql (m := (gI ps (i : Int)).1) (n := ((boxR ps).2.1).1) rfl rfl) ?_
   refine l_val (v := Value.bool (decide (((gI ps (i : Int)).1) = (((boxR ps).2.1).1)))) rfl (e_pick_f rfl (Bool.eq_false_iff.2 q84) rfl) ?_
   refine l_val (v := Value.bool (decide (((gI ps (i : Int)).1) = (((boxR ps).2.1).1)))) rfl (e_assign rfl) ?_
   refine l_nil ?_
   refine run_seq ?_
   refine run_region rfl ?_
   refine l_val (v := Value.bool c) rfl (e_move (by exact zs8)) ?_
   refine l_val (v := Value.bool c) rfl (e_move rfl) ?_
   by_cases q92 : c = true
   ·
    refine l_skip (want_n rfl rfl rfl q92) ?_
    refine l_skip (want_n rfl rfl rfl q92) ?_
    refine l_skip (want_n rfl rfl rfl q92) ?_
    refine l_skip (want_n rfl rfl rfl q92) ?_
    refine l_skip (want_n rfl rfl rfl q92) ?_
    refine l_val (v := Value.bool true) rfl (e_pick_t rfl q92 rfl) ?_
    refine l_val (v := Value.bool true) rfl (e_assign rfl) ?_
    refine l_nil ?_
    refine run_region rfl ?_
    refine l_val (v := Value.bool d) rfl (e_move (by exact zs9)) ?_
    refine l_val (v := Value.bool d) rfl (e_move rfl) ?_
    by_cases q100 : d = true
    ·
     refine l_skip (want_n rfl rfl rfl q100) ?_
     refine l_skip (want_n rfl rfl rfl q100) ?_
     refine l_skip (want_n rfl rfl rfl q100) ?_
     refine l_skip (want_n rfl rfl rfl q100) ?_
     refine l_skip (want_n rfl rfl rfl q100) ?_
     refine l_val (v := Value.bool true) rfl (e_pick_t rfl q100 rfl) ?_
     refine l_val (v := Value.bool true) rfl (e_assign rfl) ?_
     refine l_nil ?_
     refine run_inBlock ?_
     clear bx39
     refine run_region rfl ?_
     refine l_val (v := Value.int .i64 (i : Int)) rfl (e_move (by exact zs10)) ?_
     refine l_val (v := Value.int .i64 ((i : Int) + 1)) rfl (e_add (m := (i : Int)) (n := 1) rfl rfl (by omega)) ?_
     refine l_val (v := Value.int .i64 ((i : Int) + 1)) rfl (e_assign rfl) ?_
     refine l_nil ?_
     replace hbase := hbase.chg ch33 (not_no _)
     replace hbase := hbase.chg ch38 (is_ne rfl)
     replace r_ps_v := (r_ps_v.chg ch33 (not_no _)).chg ch38 (is_ne rfl)
     refine back8 (decide (((gI ps (i : Int)).1) = (((boxR ps).1).1)), decide (((gI ps (i : Int)).1) = (((boxR ps).2.1).1)), true, true, i + 1, g35) _ _ ⟨hbase, (by exact zs0), (by exact zs3), (by exact zs4), rfl, rfl, rfl, rfl, rfl, r_ps_v, bx17, bx20, by omega, ?_⟩ ?_
     · show (decide (((gI ps (i : Int)).1) = (((boxR ps).1).1))) = anK (fun z_ => decide (z_.1 = (boxR ps).1.1)) ps (i + 1) ∧ (decide (((gI ps (i : Int)).1) = (((boxR ps).2.1).1))) = anK (fun z_ => decide (z_.1 = (boxR ps).2.1.1)) ps (i + 1) ∧ true = anK (fun z_ => decide (z_.2 = (boxR ps).1.2)) ps (i + 1) ∧ true = anK (fun z_ => decide (z_.2 = (boxR ps).2.1.2)) ps (i + 1)
       exact ⟨(by first | (rw [anK, ← hv1, (show a = true by assumption)]; rfl) | (rw [anK, ← hv1, Bool.eq_false_iff.2 (show ¬ a = true by assumption)]; rfl)), (by first | (rw [anK, ← hv2, (show b = true by assumption)]; rfl) | (rw [anK, ← hv2, Bool.eq_false_iff.2 (show ¬ b = true by assumption)]; rfl)), (by first | (rw [anK, ← hv3, (show c = true by assumption)]; rfl) | (rw [anK, ← hv3, Bool.eq_false_iff.2 (show ¬ c = true by assumption)]; rfl)), (by first | (rw [anK, ← hv4, (show d = true by assumption)]; rfl) | (rw [anK, ← hv4, Bool.eq_false_iff.2 (show ¬ d = true by assumption)]; rfl))⟩
     · show Int.toNat (((List.length ps : Int) : Int) - ((i + 1) : Int)) < Int.toNat (((List.length ps : Int) : Int) - (i : Int))
       omega
    refine l_val (v := Value.pointer (some ⟨b34, 1, none⟩)) (want_y rfl rfl rfl (Bool.eq_false_iff.2 q100)) (e_fieldAddr Try.underlying23 rfl rfl rfl rfl) ?_
    refine l_val (v := Value.int .i64 ((gI ps (i : Int)).2)) (want_y rfl rfl rfl (Bool.eq_false_iff.2 q100)) (e_load_bx1 tp3_gx rfl bx39 rfl) ?_
    refine l_val (v := Value.pointer (some ⟨b12, 1, none⟩)) (want_y rfl rfl rfl (Bool.eq_false_iff.2 q100)) (e_fieldAddr Try.underlying23 rfl rfl (by exact zs4) rfl) ?_
    refine l_val (v := Value.int .i64 (((boxR ps).2.1).2)) (want_y rfl rfl rfl (Bool.eq_false_iff.2 q100)) (e_load_bx1 tp3_gx rfl bx20 rfl) ?_
    refine l_val (v := Value.bool (decide (((gI ps (i : Int)).2) = (((boxR ps).2.1).2)))) (want_y rfl rfl rfl (Bool.eq_false_iff.2 q100)) (e_eql (m := (gI ps (i : Int)).2) (n := ((boxR ps).2.1).2) rfl rfl) ?_
    refine l_val (v := Value.bool (decide (((gI ps (i : Int)).2) = (((boxR ps).2.1).2)))) rfl (e_pick_f rfl (Bool.eq_false_iff.2 q100) rfl) ?_
    refine l_val (v := Value.bool (decide (((gI ps (i : Int)).2) = (((boxR ps).2.1).2)))) rfl (e_assign rfl) ?_
    refine l_nil ?_
    refine run_inBlock ?_
    clear bx39
    refine run_region rfl ?_
    refine l_val (v := Value.int .i64 (i : Int)) rfl (e_move (by exact zs10)) ?_
    refine l_val (v := Value.int .i64 ((i : Int) + 1)) rfl (e_add (m := (i : Int)) (n := 1) rfl rfl (by omega)) ?_
    refine l_val (v := Value.int .i64 ((i : Int) + 1)) rfl (e_assign rfl) ?_
    refine l_nil ?_
    replace hbase := hbase.chg ch33 (not_no _)
    replace hbase := hbase.chg ch38 (is_ne rfl)
    replace r_ps_v := (r_ps_v.chg ch33 (not_no _)).chg ch38 (is_ne rfl)
    refine back8 (decide (((gI ps (i : Int)).1) = (((boxR ps).1).1)), decide (((gI ps (i : Int)).1) = (((boxR ps).2.1).1)), true, decide (((gI ps (i : Int)).2) = (((boxR ps).2.1).2)), i + 1, g35) _ _ ⟨hbase, (by exact zs0), (by exact zs3), (by exact zs4), rfl, rfl, rfl, rfl, rfl, r_ps_v, bx17, bx20, by omega, ?_⟩ ?_
    · show (decide (((gI ps (i : Int)).1) = (((boxR ps).1).1))) = anK (fun z_ => decide (z_.1 = (boxR ps).1.1)) ps (i + 1) ∧ (decide (((gI ps (i : Int)).1) = (((boxR ps).2.1).1))) = anK (fun z_ => decide (z_.1 = (boxR ps).2.1.1)) ps (i + 1) ∧ true = anK (fun z_ => decide (z_.2 = (boxR ps).1.2)) ps (i + 1) ∧ (decide (((gI ps (i : Int)).2) = (((boxR ps).2.1).2))) = anK (fun z_ => decide (z_.2 = (boxR ps).2.1.2)) ps (i + 1)
      exact ⟨(by first | (rw [anK, ← hv1, (show a = true by assumption)]; rfl) | (rw [anK, ← hv1, Bool.eq_false_iff.2 (show ¬ a = true by assumption)]; rfl)), (by first | (rw [anK, ← hv2, (show b = true by assumption)]; rfl) | (rw [anK, ← hv2, Bool.eq_false_iff.2 (show ¬ b = true by assumption)]; rfl)), (by first | (rw [anK, ← hv3, (show c = true by assumption)]; rfl) | (rw [anK, ← hv3, Bool.eq_false_iff.2 (show ¬ c = true by assumption)]; rfl)), (by first | (rw [anK, ← hv4, (show d = true by assumption)]; rfl) | (rw [anK, ← hv4, Bool.eq_false_iff.2 (show ¬ d = true by assumption)]; rfl))⟩
    · show Int.toNat (((List.length ps : Int) : Int) - ((i + 1) : Int)) < Int.toNat (((List.length ps : Int) : Int) - (i : Int))
      omega
   refine l_val (v := Value.pointer (some ⟨b34, 1, none⟩)) (want_y rfl rfl rfl (Bool.eq_false_iff.2 q92)) (e_fieldAddr Try.underlying23 rfl rfl rfl rfl) ?_
   refine l_val (v := Value.int .i64 ((gI ps (i : Int)).2)) (want_y rfl rfl rfl (Bool.eq_false_iff.2 q92)) (e_load_bx1 tp3_gx rfl bx39 rfl) ?_
   refine l_val (v := Value.pointer (some ⟨b7, 1, none⟩)) (want_y rfl rfl rfl (Bool.eq_false_iff.2 q92)) (e_fieldAddr Try.underlying23 rfl rfl (by exact zs3) rfl) ?_
   refine l_val (v := Value.int .i64 (((boxR ps).1).2)) (want_y rfl rfl rfl (Bool.eq_false_iff.2 q92)) (e_load_bx1 tp3_gx rfl bx17 rfl) ?_
   refine l_val (v := Value.bool (decide (((gI ps (i : Int)).2) = (((boxR ps).1).2)))) (want_y rfl rfl rfl (Bool.eq_false_iff.2 q92)) (e_eql (m := (gI ps (i : Int)).2) (n := ((boxR ps).1).2) rfl rfl) ?_
   refine l_val (v := Value.bool (decide (((gI ps (i : Int)).2) = (((boxR ps).1).2)))) rfl (e_pick_f rfl (Bool.eq_false_iff.2 q92) rfl) ?_
   refine l_val (v := Value.bool (decide (((gI ps (i : Int)).2) = (((boxR ps).1).2)))) rfl (e_assign rfl) ?_
   refine l_nil ?_
   refine run_region rfl ?_
   refine l_val (v := Value.bool d) rfl (e_move (by exact zs9)) ?_
   refine l_val (v := Value.bool d) rfl (e_move rfl) ?_
   by_cases q100 : d = true
   ·
    refine l_skip (want_n rfl rfl rfl q100) ?_
    refine l_skip (want_n rfl rfl rfl q100) ?_
    refine l_skip (want_n rfl rfl rfl q100) ?_
    refine l_skip (want_n rfl rfl rfl q100) ?_
    refine l_skip (want_n rfl rfl rfl q100) ?_
    refine l_val (v := Value.bool true) rfl (e_pick_t rfl q100 rfl) ?_
    refine l_val (v := Value.bool true) rfl (e_assign rfl) ?_
    refine l_nil ?_
    refine run_inBlock ?_
    clear bx39
    refine run_region rfl ?_
    refine l_val (v := Value.int .i64 (i : Int)) rfl (e_move (by exact zs10)) ?_
    refine l_val (v := Value.int .i64 ((i : Int) + 1)) rfl (e_add (m := (i : Int)) (n := 1) rfl rfl (by omega)) ?_
    refine l_val (v := Value.int .i64 ((i : Int) + 1)) rfl (e_assign rfl) ?_
    refine l_nil ?_
    replace hbase := hbase.chg ch33 (not_no _)
    replace hbase := hbase.chg ch38 (is_ne rfl)
    replace r_ps_v := (r_ps_v.chg ch33 (not_no _)).chg ch38 (is_ne rfl)
    refine back8 (decide (((gI ps (i : Int)).1) = (((boxR ps).1).1)), decide (((gI ps (i : Int)).1) = (((boxR ps).2.1).1)), decide (((gI ps (i : Int)).2) = (((boxR ps).1).2)), true, i + 1, g35) _ _ ⟨hbase, (by exact zs0), (by exact zs3), (by exact zs4), rfl, rfl, rfl, rfl, rfl, r_ps_v, bx17, bx20, by omega, ?_⟩ ?_
    · show (decide (((gI ps (i : Int)).1) = (((boxR ps).1).1))) = anK (fun z_ => decide (z_.1 = (boxR ps).1.1)) ps (i + 1) ∧ (decide (((gI ps (i : Int)).1) = (((boxR ps).2.1).1))) = anK (fun z_ => decide (z_.1 = (boxR ps).2.1.1)) ps (i + 1) ∧ (decide (((gI ps (i : Int)).2) = (((boxR ps).1).2))) = anK (fun z_ => decide (z_.2 = (boxR ps).1.2)) ps (i + 1) ∧ true = anK (fun z_ => decide (z_.2 = (boxR ps).2.1.2)) ps (i + 1)
      exact ⟨(by first | (rw [anK, ← hv1, (show a = true by assumption)]; rfl) | (rw [anK, ← hv1, Bool.eq_false_iff.2 (show ¬ a = true by assumption)]; rfl)), (by first | (rw [anK, ← hv2, (show b = true by assumption)]; rfl) | (rw [anK, ← hv2, Bool.eq_false_iff.2 (show ¬ b = true by assumption)]; rfl)), (by first | (rw [anK, ← hv3, (show c = true by assumption)]; rfl) | (rw [anK, ← hv3, Bool.eq_false_iff.2 (show ¬ c = true by assumption)]; rfl)), (by first | (rw [anK, ← hv4, (show d = true by assumption)]; rfl) | (rw [anK, ← hv4, Bool.eq_false_iff.2 (show ¬ d = true by assumption)]; rfl))⟩
    · show Int.toNat (((List.length ps : Int) : Int) - ((i + 1) : Int)) < Int.toNat (((List.length ps : Int) : Int) - (i : Int))
      omega
   refine l_val (v := Value.pointer (some ⟨b34, 1, none⟩)) (want_y rfl rfl rfl (Bool.eq_false_iff.2 q100)) (e_fieldAddr Try.underlying23 rfl rfl rfl rfl) ?_
   refine l_val (v := Value.int .i64 ((gI ps (i : Int)).2)) (want_y rfl rfl rfl (Bool.eq_false_iff.2 q100)) (e_load_bx1 tp3_gx rfl bx39 rfl) ?_
   refine l_val (v := Value.pointer (some ⟨b12, 1, none⟩)) (want_y rfl rfl rfl (Bool.eq_false_iff.2 q100)) (e_fieldAddr Try.underlying23 rfl rfl (by exact zs4) rfl) ?_
   refine l_val (v := Value.int .i64 (((boxR ps).2.1).2)) (want_y rfl rfl rfl (Bool.eq_false_iff.2 q100)) (e_load_bx1 tp3_gx rfl bx20 rfl) ?_
   refine l_val (v := Value.bool (decide (((gI ps (i : Int)).2) = (((boxR ps).2.1).2)))) (want_y rfl rfl rfl (Bool.eq_false_iff.2 q100)) (e_eql (m := (gI ps (i : Int)).2) (n := ((boxR ps).2.1).2) rfl rfl) ?_
   refine l_val (v := Value.bool (decide (((gI ps (i : Int)).2) = (((boxR ps).2.1).2)))) rfl (e_pick_f rfl (Bool.eq_false_iff.2 q100) rfl) ?_
   refine l_val (v := Value.bool (decide (((gI ps (i : Int)).2) = (((boxR ps).2.1).2)))) rfl (e_assign rfl) ?_
   refine l_nil ?_
   refine run_inBlock ?_
   clear bx39
   refine run_region rfl ?_
   refine l_val (v := Value.int .i64 (i : Int)) rfl (e_move (by exact zs10)) ?_
   refine l_val (v := Value.int .i64 ((i : Int) + 1)) rfl (e_add (m := (i : Int)) (n := 1) rfl rfl (by omega)) ?_
   refine l_val (v := Value.int .i64 ((i : Int) + 1)) rfl (e_assign rfl) ?_
   refine l_nil ?_
   replace hbase := hbase.chg ch33 (not_no _)
   replace hbase := hbase.chg ch38 (is_ne rfl)
   replace r_ps_v := (r_ps_v.chg ch33 (not_no _)).chg ch38 (is_ne rfl)
   refine back8 (decide (((gI ps (i : Int)).1) = (((boxR ps).1).1)), decide (((gI ps (i : Int)).1) = (((boxR ps).2.1).1)), decide (((gI ps (i : Int)).2) = (((boxR ps).1).2)), decide (((gI ps (i : Int)).2) = (((boxR ps).2.1).2)), i + 1, g35) _ _ ⟨hbase, (by exact zs0), (by exact zs3), (by exact zs4), rfl, rfl, rfl, rfl, rfl, r_ps_v, bx17, bx20, by omega, ?_⟩ ?_
   · show (decide (((gI ps (i : Int)).1) = (((boxR ps).1).1))) = anK (fun z_ => decide (z_.1 = (boxR ps).1.1)) ps (i + 1) ∧ (decide (((gI ps (i : Int)).1) = (((boxR ps).2.1).1))) = anK (fun z_ => decide (z_.1 = (boxR ps).2.1.1)) ps (i + 1) ∧ (decide (((gI ps (i : Int)).2) = (((boxR ps).1).2))) = anK (fun z_ => decide (z_.2 = (boxR ps).1.2)) ps (i + 1) ∧ (decide (((gI ps (i : Int)).2) = (((boxR ps).2.1).2))) = anK (fun z_ => decide (z_.2 = (boxR ps).2.1.2)) ps (i + 1)
     exact ⟨(by first | (rw [anK, ← hv1, (show a = true by assumption)]; rfl) | (rw [anK, ← hv1, Bool.eq_false_iff.2 (show ¬ a = true by assumption)]; rfl)), (by first | (rw [anK, ← hv2, (show b = true by assumption)]; rfl) | (rw [anK, ← hv2, Bool.eq_false_iff.2 (show ¬ b = true by assumption)]; rfl)), (by first | (rw [anK, ← hv3, (show c = true by assumption)]; rfl) | (rw [anK, ← hv3, Bool.eq_false_iff.2 (show ¬ c = true by assumption)]; rfl)), (by first | (rw [anK, ← hv4, (show d = true by assumption)]; rfl) | (rw [anK, ← hv4, Bool.eq_false_iff.2 (show ¬ d = true by assumption)]; rfl))⟩
   · show Int.toNat (((List.length ps : Int) : Int) - ((i + 1) : Int)) < Int.toNat (((List.length ps : Int) : Int) - (i : Int))
     omega
  refine run_cond_f rfl (decide_eq_false p8) ?_
  refine run_exit rfl ?_
  refine run_seq ?_
  clear bx17
  clear bx20
  have hiE : i = ps.length := by omega
  refine run_region rfl ?_
  refine l_val (v := Value.bool a) rfl (e_move (by exact zs6)) ?_
  refine l_val (v := Value.bool a) rfl (e_move rfl) ?_
  have q108 : a = true := by first | exact hn1 | omega | (rw [hv1, hiE]; exact ha1) | (rw [hv2, hiE]; exact ha2) | (rw [hv3, hiE]; exact ha3)
  refine l_val (v := Value.bool b) (want_y rfl rfl rfl q108) (e_move (by exact zs7)) ?_
  refine l_val (v := Value.bool b) rfl (e_pick_t rfl q108 rfl) ?_
  refine l_val (v := Value.bool b) rfl (e_move rfl) ?_
  have q111 : b = true := by first | exact hn1 | omega | (rw [hv1, hiE]; exact ha1) | (rw [hv2, hiE]; exact ha2) | (rw [hv3, hiE]; exact ha3)
  refine l_val (v := Value.bool c) (want_y rfl rfl rfl q111) (e_move (by exact zs8)) ?_
  refine l_val (v := Value.bool c) rfl (e_pick_t rfl q111 rfl) ?_
  refine l_val (v := Value.bool c) rfl (e_move rfl) ?_
  have q114 : c = true := by first | exact hn1 | omega | (rw [hv1, hiE]; exact ha1) | (rw [hv2, hiE]; exact ha2) | (rw [hv3, hiE]; exact ha3)
  refine l_val (v := Value.bool d) (want_y rfl rfl rfl q114) (e_move (by exact zs9)) ?_
  refine l_val (v := Value.bool d) rfl (e_pick_t rfl q114 rfl) ?_
  refine l_val (v := Value.bool d) rfl (e_assign rfl) ?_
  refine l_nil ?_
  refine run_ret (vs := [Value.bool d]) Try.func9 (.tmp rfl .nil) ?_
  -- return 1
  have e0 : (d : Bool) = (true) := by
    first
      | rfl
      | exact decide_eq_true hn2
      | exact (decide_eq_true hn2).symm
      | (rw [hv4, hiE]; exact ha4.symm)
      | (rw [hv4, hiE]; exact ha4)
  exact ⟨(congrArg (a₁ := d) (fun (z0 : Bool) => Ending.returned (Value.bool z0)) e0), hbase.below⟩
 obtain ⟨hn1, hn2⟩ := box_no q22
 refine l_skip (want_n rfl rfl rfl (congrArg Bool.not (decide_eq_false q22))) ?_
 refine l_skip (want_n rfl rfl rfl (congrArg Bool.not (decide_eq_false q22))) ?_
 refine l_skip (want_n rfl rfl rfl (congrArg Bool.not (decide_eq_false q22))) ?_
 refine l_val (v := Value.bool true) rfl (e_pick_t rfl (congrArg Bool.not (decide_eq_false q22)) rfl) ?_
 refine l_nil ?_
 refine run_cond_t rfl rfl ?_
 refine run_seq ?_
 refine region_q g13 rfl mixed_gx (by kernel_rfl) ?_
 intro w41 ch40
 refine q_val (v := Value.int .i64 ((boxR ps).2.2)) rfl (fun w' hw' => e_move rfl) ?_
 refine q_val (v := Value.bool (decide (((boxR ps).2.2) = 0))) rfl (fun w' hw' => e_eql (m := (boxR ps).2.2) (n := 0) rfl rfl) ?_
 refine q_val (v := Value.bool (decide (((boxR ps).2.2) = 0))) rfl (fun w' hw' => e_move rfl) ?_
 replace bx17 := (bx17.chg ch19 (is_ne rfl)).chg ch40 (not_no _)
 refine q_val (v := Value.agg (List.toArray [Value.int .i64 (((boxR ps).1).1), Value.int .i64 (((boxR ps).1).2)])) (want_y rfl rfl rfl (decide_eq_false q22)) (fun w' hw' => e_load_bxN (ds := [Value.int .i64 (((boxR ps).1).1), Value.int .i64 (((boxR ps).1).2)]) tp23_gx rfl (bx17.bel hw') rfl rfl) ?_
 refine q_call (v := Value.agg (List.toArray [Value.int .i64 0, Value.int .i64 0])) (want_y rfl rfl rfl (decide_eq_false q22)) (fun w' hw' => e_call (vals := [Value.int .i64 0, Value.int .i64 0]) Try.func14 bd14_gx nm14_gx rfl) (fun w' hw' => (pt_ok w' 0 0).mono fun e w2 h2 => ⟨h2.1, hw'.trans (h2.2.mono hw'.size)⟩) ?_
 refine q_val (v := Value.bool (decide (((boxR ps).1) = (0, 0)))) (want_y rfl rfl rfl (decide_eq_false q22)) (fun w' hw' => e_eql_struct (bs := [decide ((((boxR ps).1).1) = 0), decide ((((boxR ps).1).2) = 0)]) Try.underlying23 (by kernel_rfl) (by kernel_rfl) rfl rfl (.cons (by decide +kernel) tp3_gx rfl rfl (.int Try.underlying3) (.cons (by decide +kernel) tp3_gx rfl rfl (.int Try.underlying3) .nil)) (by simp [Prod.ext_iff, Bool.decide_and, Bool.and_assoc])) ?_
 refine q_val (v := Value.bool (decide (((boxR ps).1) = (0, 0)))) (want_y rfl rfl rfl (decide_eq_false q22)) (fun w' hw' => e_move rfl) ?_
 have q33 : ((boxR ps).1) = (0, 0) := by first | exact hn1 | omega | (rw [hv1, hiE]; exact ha1) | (rw [hv2, hiE]; exact ha2) | (rw [hv3, hiE]; exact ha3)
 replace bx20 := bx20.chg ch40 (not_no _)
 refine q_val (v := Value.agg (List.toArray [Value.int .i64 (((boxR ps).2.1).1), Value.int .i64 (((boxR ps).2.1).2)])) (want_y rfl rfl rfl (decide_eq_true q33)) (fun w' hw' => e_load_bxN (ds := [Value.int .i64 (((boxR ps).2.1).1), Value.int .i64 (((boxR ps).2.1).2)]) tp23_gx rfl (bx20.bel hw') rfl rfl) ?_
 refine q_call (v := Value.agg (List.toArray [Value.int .i64 0, Value.int .i64 0])) (want_y rfl rfl rfl (decide_eq_true q33)) (fun w' hw' => e_call (vals := [Value.int .i64 0, Value.int .i64 0]) Try.func14 bd14_gx nm14_gx rfl) (fun w' hw' => (pt_ok w' 0 0).mono fun e w2 h2 => ⟨h2.1, hw'.trans (h2.2.mono hw'.size)⟩) ?_
 refine q_val (v := Value.bool (decide (((boxR ps).2.1) = (0, 0)))) (want_y rfl rfl rfl (decide_eq_true q33)) (fun w' hw' => e_eql_struct (bs := [decide ((((boxR ps).2.1).1) = 0), decide ((((boxR ps).2.1).2) = 0)]) Try.underlying23 (by kernel_rfl) (by kernel_rfl) rfl rfl (.cons (by decide +kernel) tp3_gx rfl rfl (.int Try.underlying3) (.cons (by decide +kernel) tp3_gx rfl rfl (.int Try.underlying3) .nil)) (by simp [Prod.ext_iff, Bool.decide_and, Bool.and_assoc])) ?_
 refine q_val (v := Value.bool (decide (((boxR ps).2.1) = (0, 0)))) (want_y rfl rfl rfl (decide_eq_false q22)) (fun w' hw' => e_pick_t rfl (decide_eq_true q33) rfl) ?_
 refine q_val (v := Value.bool (decide (((boxR ps).2.1) = (0, 0)))) rfl (fun w' hw' => e_pick_f rfl (decide_eq_false q22) rfl) ?_
 refine q_val (v := Value.bool (decide (((boxR ps).2.1) = (0, 0)))) rfl (fun w' hw' => e_assign rfl) ?_
 refine q_nil ?_
 intro w42 hc43
 replace hc43 := chg_below hc43 g13
 refine run_ret (vs := [Value.bool (decide (((boxR ps).2.1) = (0, 0)))]) Try.func9 (.tmp rfl .nil) ?_
 -- return 2
 have e0 : (decide (((boxR ps).2.1) = (0, 0)) : Bool) = (true) := by
   first
     | rfl
     | exact decide_eq_true hn2
     | exact (decide_eq_true hn2).symm
     | (rw [hv4, hiE]; exact ha4.symm)
     | (rw [hv4, hiE]; exact ha4)
 have C44 : Chg (inl [1, 2]) _ _ _ _ := (hb2.n).seq ((hb4.n).seq ((ch6.n).seq ((ch11.n).seq ((ch16.l rfl).seq ((ch19.l rfl).seq ((ch40.n).seq (hc43.n)))))))
 replace hbase := hbase.chg C44 (is_nl rfl)
 exact ⟨(congrArg (a₁ := decide (((boxR ps).2.1) = (0, 0))) (fun (z0 : Bool) => Ending.returned (Value.bool z0)) e0), hbase.below⟩
end TL
