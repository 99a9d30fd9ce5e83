import Derived.Test.YtifpjbjhkabhgaaTlGmA
import Derived.Test.YtifpjbjhkabhgaaTlGmM
import Derived.Test.YtifpjbjhkabhgaaTlGmR
import Derived.Test.YtifpjbjhkabhgaaTlGmB
import Derived.Test.YtifpjbjhkabhgaaTlGmD
import Derived.Test.YtifpjbjhkabhgaaTlGeomA
import Derived.Test.YtifpjbjhkabhgaaTlGeomB
import Derived.Test.YtifpjbjhkabhgaaProg
import Derived.Test.YtifpjbjhkabhgaaTlNet2
import Derived.Test.YtifpjbjhkabhgaaTlEq
import Derived.Test.YtifpjbjhkabhgaaTlHold
import Derived.Test.YtifpjbjhkabhgaaTlDraw
import Derived.Test.YtifpjbjhkabhgaaTlMap
set_option linter.all false
set_option maxRecDepth 20000
namespace TL
open Go Go.Proofs
theorem mixed_gs : Try.prog.follows .mixedOrders = true := by kernel_rfl
theorem tp23_gs : Tp Try.prog 23 true 2 16 (.agg #[.int .i64 0, .int .i64 0]) := Tp.of (by kernel_rfl)
theorem bd12_gs : Try.f12.body.isNone = false := rfl
theorem nm12_gs : (Try.f12.name == "runtime.NumGoroutine") = false := by decide +kernel
theorem bd16_gs : Try.f16.body.isNone = false := rfl
theorem nm16_gs : (Try.f16.name == "runtime.NumGoroutine") = false := by decide +kernel
theorem bd21_gs : Try.f21.body.isNone = false := rfl
theorem nm21_gs : (Try.f21.name == "runtime.NumGoroutine") = false := by decide +kernel

set_option maxHeartbeats 4000000 in
theorem GeomAreas_ok (w0 : World) (ps : List ((Int) × (Int))) (ps_v : Value) (hps_v : Ro w0 ps_v ps) (at_ : Int) :
    Calls Try.prog 5 #[ps_v, Value.int .i64 at_] w0 (fun ee w => ee = .returned (Value.bool true) ∧ RowKit.Below w0.heap.size w0 w) := by
 refine calls_of_run Try.func5 rfl (Nat.le_of_ble_eq_true rfl) ?_
 have hbase := Base.start w0
 have r_ps_v := hps_v.sl
 refine run_seq ?_
 refine run_region rfl ?_
 refine l_val (v := Value.bool false) rfl (e_assign rfl) ?_
 refine l_nil ?_
 refine run_seq ?_
 refine run_seq ?_
 refine run_region rfl ?_
 refine l_op rfl ?_
 refine o_call (v := Value.bool true) (e_call (vals := []) Try.func12 bd12_gs nm12_gs rfl) (begun2_ok w0 ) ?_
 intro w1 hb2
 replace hb2 := chg_below hb2 c0
 refine l_val (v := Value.bool false) rfl (e_not (b := true) rfl) ?_
 refine l_nil ?_
 refine run_cond_f rfl rfl ?_
 refine run_skip ?_
 refine run_seq ?_
 refine run_seq ?_
 refine run_region rfl ?_
 refine l_val (v := ps_v) rfl (e_move rfl) ?_
 replace r_ps_v := r_ps_v.chg hb2 (not_no _)
 have len3 := (r_ps_v).small
 refine l_val (v := Value.int .i64 (List.length ps : Int)) rfl (e_len Try.underlying25 rfl r_ps_v) ?_
 refine l_val (v := Value.bool (decide ((List.length ps : Int) < 3))) rfl (e_lss (m := (List.length ps : Int)) (n := 3) rfl rfl) ?_
 refine l_val (v := Value.bool (decide ((List.length ps : Int) < 3))) rfl (e_move rfl) ?_
 by_cases q22 : (List.length ps : Int) < 3
 ·
  refine l_skip (want_n rfl rfl rfl (decide_eq_true q22)) ?_
  refine l_skip (want_n rfl rfl rfl (decide_eq_true q22)) ?_
  refine l_skip (want_n rfl rfl rfl (decide_eq_true q22)) ?_
  refine l_val (v := Value.bool true) rfl (e_pick_t rfl (decide_eq_true q22) rfl) ?_
  refine l_val (v := Value.bool true) rfl (e_move rfl) ?_
  refine l_skip (want_n rfl rfl rfl rfl) ?_
  refine l_skip (want_n rfl rfl rfl rfl) ?_
  refine l_skip (want_n rfl rfl rfl rfl) ?_
  refine l_val (v := Value.bool true) rfl (e_pick_t rfl rfl rfl) ?_
  refine l_val (v := Value.bool true) rfl (e_move rfl) ?_
  refine l_skip (want_n rfl rfl rfl rfl) ?_
  refine l_skip (want_n rfl rfl rfl rfl) ?_
  refine l_val (v := Value.bool true) rfl (e_pick_t rfl rfl rfl) ?_
  refine l_val (v := Value.bool true) rfl (e_move rfl) ?_
  refine l_skip (want_n rfl rfl rfl rfl) ?_
  refine l_skip (want_n rfl rfl rfl rfl) ?_
  refine l_skip (want_n rfl rfl rfl rfl) ?_
  refine l_skip (want_n rfl rfl rfl rfl) ?_
  refine l_skip (want_n rfl rfl rfl rfl) ?_
  refine l_val (v := Value.bool true) rfl (e_pick_t rfl rfl rfl) ?_
  refine l_nil ?_
  refine run_cond_t rfl rfl ?_
  refine run_seq ?_
  refine run_region rfl ?_
  refine l_val (v := Value.bool true) rfl (e_assign rfl) ?_
  refine l_nil ?_
  refine run_ret (vs := [Value.bool true]) Try.func5 (.tmp rfl .nil) ?_
  -- return 0
  have e0 : (true : Bool) = (true) := by
    first
      | rfl
      | exact decide_eq_true l3
      | exact (decide_eq_true l3).symm
  replace hbase := hbase.chg hb2 (not_no _)
  exact ⟨(congrArg (a₁ := true) (fun (z0 : Bool) => Ending.returned (Value.bool z0)) e0), hbase.below⟩
 refine l_val (v := ps_v) (want_y rfl rfl rfl (decide_eq_false q22)) (e_move rfl) ?_
 refine l_val (v := Value.int .i64 (List.length ps : Int)) (want_y rfl rfl rfl (decide_eq_false q22)) (e_len Try.underlying25 rfl r_ps_v) ?_
 refine l_val (v := Value.bool (decide (100 < (List.length ps : Int)))) (want_y rfl rfl rfl (decide_eq_false q22)) (e_gtr (m := (List.length ps : Int)) (n := 100) rfl rfl) ?_
 refine l_val (v := Value.bool (decide (100 < (List.length ps : Int)))) rfl (e_pick_f rfl (decide_eq_false q22) rfl) ?_
 refine l_val (v := Value.bool (decide (100 < (List.length ps : Int)))) rfl (e_move rfl) ?_
 by_cases q27 : 100 < (List.length ps : Int)
 ·
  refine l_skip (want_n rfl rfl rfl (decide_eq_true q27)) ?_
  refine l_skip (want_n rfl rfl rfl (decide_eq_true q27)) ?_
  refine l_skip (want_n rfl rfl rfl (decide_eq_true q27)) ?_
  refine l_val (v := Value.bool true) rfl (e_pick_t rfl (decide_eq_true q27) rfl) ?_
  refine l_val (v := Value.bool true) rfl (e_move rfl) ?_
  refine l_skip (want_n rfl rfl rfl rfl) ?_
  refine l_skip (want_n rfl rfl rfl rfl) ?_
  refine l_val (v := Value.bool true) rfl (e_pick_t rfl rfl rfl) ?_
  refine l_val (v := Value.bool true) rfl (e_move rfl) ?_
  refine l_skip (want_n rfl rfl rfl rfl) ?_
  refine l_skip (want_n rfl rfl rfl rfl) ?_
  refine l_skip (want_n rfl rfl rfl rfl) ?_
  refine l_skip (want_n rfl rfl rfl rfl) ?_
  refine l_skip (want_n rfl rfl rfl rfl) ?_
  refine l_val (v := Value.bool true) rfl (e_pick_t rfl rfl rfl) ?_
  refine l_nil ?_
  refine run_cond_t rfl rfl ?_
  refine run_seq ?_
  refine run_region rfl ?_
  refine l_val (v := Value.bool true) rfl (e_assign rfl) ?_
  refine l_nil ?_
  refine run_ret (vs := [Value.bool true]) Try.func5 (.tmp rfl .nil) ?_
  -- return 1
  have e0 : (true : Bool) = (true) := by
    first
      | rfl
      | exact decide_eq_true l3
      | exact (decide_eq_true l3).symm
  replace hbase := hbase.chg hb2 (not_no _)
  exact ⟨(congrArg (a₁ := true) (fun (z0 : Bool) => Ending.returned (Value.bool z0)) e0), hbase.below⟩
 refine l_val (v := ps_v) (want_y rfl rfl rfl (decide_eq_false q27)) (e_move rfl) ?_
 refine l_op (want_y rfl rfl rfl (decide_eq_false q27)) ?_
 refine o_call (v := Value.int .i64 (errS ps)) (e_call (vals := [ps_v]) Try.func16 bd16_gs nm16_gs rfl) (err_ok w1 ps ps_v (r_ps_v).ro) ?_
 intro w4 hb5
 replace hb5 := chg_below hb5 c0
 refine l_val (v := Value.bool (!(decide ((errS ps) = 0)))) (want_y rfl rfl rfl (decide_eq_false q27)) (e_neq (m := errS ps) (n := 0) rfl rfl) ?_
 refine l_val (v := Value.bool (!(decide ((errS ps) = 0)))) rfl (e_pick_f rfl (decide_eq_false q27) rfl) ?_
 refine l_val (v := Value.bool (!(decide ((errS ps) = 0)))) rfl (e_move rfl) ?_
 by_cases q32 : (errS ps) = 0
 ·
  refine l_val (v := Value.int .i64 at_) (want_y rfl rfl rfl (congrArg Bool.not (decide_eq_true q32))) (e_move rfl) ?_
  refine l_val (v := Value.bool (decide (at_ < 1))) (want_y rfl rfl rfl (congrArg Bool.not (decide_eq_true q32))) (e_lss (m := at_) (n := 1) rfl rfl) ?_
  refine l_val (v := Value.bool (decide (at_ < 1))) rfl (e_pick_f rfl (congrArg Bool.not (decide_eq_true q32)) rfl) ?_
  refine l_val (v := Value.bool (decide (at_ < 1))) rfl (e_move rfl) ?_
  by_cases q36 : at_ < 1
  ·
   refine l_skip (want_n rfl rfl rfl (decide_eq_true q36)) ?_
   refine l_skip (want_n rfl rfl rfl (decide_eq_true q36)) ?_
   refine l_skip (want_n rfl rfl rfl (decide_eq_true q36)) ?_
   refine l_skip (want_n rfl rfl rfl (decide_eq_true q36)) ?_
   refine l_skip (want_n rfl rfl rfl (decide_eq_true q36)) ?_
   refine l_val (v := Value.bool true) rfl (e_pick_t rfl (decide_eq_true q36) rfl) ?_
   refine l_nil ?_
   refine run_cond_t rfl rfl ?_
   refine run_seq ?_
   refine run_region rfl ?_
   refine l_val (v := Value.bool true) rfl (e_assign rfl) ?_
   refine l_nil ?_
   refine run_ret (vs := [Value.bool true]) Try.func5 (.tmp rfl .nil) ?_
   -- return 2
   have e0 : (true : Bool) = (true) := by
     first
       | rfl
       | exact decide_eq_true l3
       | exact (decide_eq_true l3).symm
   replace hbase := hbase.chg hb2 (not_no _)
   replace hbase := hbase.chg hb5 (not_no _)
   exact ⟨(congrArg (a₁ := true) (fun (z0 : Bool) => Ending.returned (Value.bool z0)) e0), hbase.below⟩
  refine l_val (v := Value.int .i64 at_) (want_y rfl rfl rfl (decide_eq_false q36)) (e_move rfl) ?_
  refine l_val (v := ps_v) (want_y rfl rfl rfl (decide_eq_false q36)) (e_move rfl) ?_
  replace r_ps_v := r_ps_v.chg hb5 (not_no _)
  refine l_val (v := Value.int .i64 (List.length ps : Int)) (want_y rfl rfl rfl (decide_eq_false q36)) (e_len Try.underlying25 rfl r_ps_v) ?_
  refine l_val (v := Value.int .i64 ((List.length ps : Int) - 2)) (want_y rfl rfl rfl (decide_eq_false q36)) (e_sub (m := (List.length ps : Int)) (n := 2) rfl rfl (by omega)) ?_
  refine l_val (v := Value.bool (decide (((List.length ps : Int) - 2) < at_))) (want_y rfl rfl rfl (decide_eq_false q36)) (e_gtr (m := at_) (n := (List.length ps : Int) - 2) rfl rfl) ?_
  refine l_val (v := Value.bool (decide (((List.length ps : Int) - 2) < at_))) rfl (e_pick_f rfl (decide_eq_false q36) rfl) ?_
  refine l_nil ?_
  by_cases p3 : ((List.length ps : Int) - 2) < at_
  ·
   refine run_cond_t rfl (decide_eq_true p3) ?_
   refine run_seq ?_
   refine run_region rfl ?_
   refine l_val (v := Value.bool true) rfl (e_assign rfl) ?_
   refine l_nil ?_
   refine run_ret (vs := [Value.bool true]) Try.func5 (.tmp rfl .nil) ?_
   -- return 3
   have e0 : (true : Bool) = (true) := by
     first
       | rfl
       | exact decide_eq_true l3
       | exact (decide_eq_true l3).symm
   replace hbase := hbase.chg hb2 (not_no _)
   replace hbase := hbase.chg hb5 (not_no _)
   exact ⟨(congrArg (a₁ := true) (fun (z0 : Bool) => Ending.returned (Value.bool z0)) e0), hbase.below⟩
  refine run_cond_f rfl (decide_eq_false p3) ?_
  refine run_skip ?_
  refine run_seq ?_
  have hok := errS_ok (by assumption)
  have hab := area_abs
  refine run_region rfl ?_
  refine l_val (v := Value.slice none 0 0) rfl (e_assign rfl) ?_
  refine l_nil ?_
  refine run_seq ?_
  refine run_seq ?_
  refine run_region rfl ?_
  refine l_val (v := ps_v) rfl (e_move rfl) ?_
  refine l_val (v := Value.int .i64 (List.length ps : Int)) rfl (e_len Try.underlying25 rfl r_ps_v) ?_
  refine l_val (v := Value.int .i64 ((List.length ps : Int) - 1)) rfl (e_sub (m := (List.length ps : Int)) (n := 1) rfl rfl (by omega)) ?_
  refine l_val (v := Value.int .i64 ((List.length ps : Int) - 1)) rfl (e_assign rfl) ?_
  refine l_nil ?_
  refine run_block ?_
  refine run_loop (σ := Value × (List ((Int) × (Int))) × Int × Cmap) (fun ⟨back_v, back, i, gq⟩ f w => Base w0 gq w ∧ f 0 = ps_v ∧ f 1 = Value.int .i64 at_ ∧ f 5 = back_v ∧ f 6 = Value.int .i64 i ∧ Sl gq (is 0) w ps_v ps ∧ Ow gq (is 2) (is 2) w back_v back ∧ (back = (List.drop (Int.toNat (i + 1)) ps).reverse ∧ -1 ≤ i ∧ i < (ps.length : Int))) (fun ⟨back_v, back, i, gq⟩ => Int.toNat (i + 1)) (Value.slice none 0 0, [], (List.length ps : Int) - 1, c0) ?_ ?_
  replace hbase := hbase.chg hb2 (not_no _)
  replace hbase := hbase.chg hb5 (not_no _)
  · exact ⟨hbase, rfl, rfl, rfl, rfl, r_ps_v, Ow.nil, by exact ⟨back_start ps, by omega, by omega⟩⟩
  clear r_ps_v
  clear hbase
  rintro ⟨back_v, back, i, g8⟩ f6 w7 ⟨hbase, zs0, zs1, zs5, zs6, r_ps_v, o_back, hinv⟩ back7
  have hbl : (back.length : Int) ≤ ps.length := by rw [hinv.1]; simp <;> omega
  have hi1 := hinv.2.1
  have hi2 := hinv.2.2
  refine run_seq ?_
  refine run_seq ?_
  refine run_region rfl ?_
  refine l_val (v := Value.int .i64 i) rfl (e_move (by exact zs6)) ?_
  refine l_val (v := Value.bool (decide (0 ≤ i))) rfl (e_geq (m := i) (n := 0) rfl rfl) ?_
  refine l_nil ?_
  by_cases p7 : 0 ≤ i
  ·
   refine run_cond_t rfl (decide_eq_true p7) ?_
   refine run_skip ?_
   refine run_seq ?_
   refine run_block ?_
   refine run_region rfl ?_
   refine l_val (v := back_v) rfl (e_move (by exact zs5)) ?_
   refine l_val (v := ps_v) rfl (e_move (by exact zs0)) ?_
   refine l_val (v := Value.int .i64 i) rfl (e_move (by exact zs6)) ?_
   refine l_val (v := Value.pointer (some (eAddr ps_v 2 (Int.toNat i)))) rfl (e_indexAddr (α := (Int) × (Int)) (xs := ps) (v := ps_v) (i := i) Try.underlying25 rfl rfl r_ps_v rfl (by omega) (by omega)) ?_
   refine l_val (v := Value.agg (List.toArray [Value.int .i64 ((gI ps i).1), Value.int .i64 ((gI ps i).2)])) rfl (e_load_elN (α := (Int) × (Int)) (xs := ps) (v := ps_v) (i := i) tp23_gs rfl r_ps_v (by omega) (by omega) rfl) ?_
   refine l_op rfl ?_
   refine o_buildSlice (α := (Int) × (Int)) g8 (is 1) (is 1) (1, 0) rfl [(gI ps i)] Try.underlying25 tp23_gs (by decide) (by decide) (vs := [(0, Value.agg (List.toArray [Value.int .i64 ((gI ps i).1), Value.int .i64 ((gI ps i).2)]))]) rfl rfl (.cons rfl .nil) ?_
   intro g9 w10 v11 ch12 o13
   refine l_op rfl ?_
   replace o_back := o_back.chg ch12 (not_no _) (not_no _)
   refine o_append (α := (Int) × (Int)) (xs := back) (ys := ([(gI ps i)])) g9 (J := is 2) (S := is 2) (2, 0) rfl Try.underlying25 tp23_gs (by decide) rfl rfl rfl o_back o13.flat (by decide) (by first | omega | (simp; done) | (simp; omega)) ?_
   intro g14 w15 v16 ch17 o18
   clear o_back
   refine l_val (v := v16) rfl (e_assign rfl) ?_
   refine l_nil ?_
   refine run_inBlock ?_
   clear o13
   refine run_region rfl ?_
   refine l_val (v := Value.int .i64 i) rfl (e_move (by exact zs6)) ?_
   refine l_val (v := Value.int .i64 (i - 1)) rfl (e_sub (m := i) (n := 1) rfl rfl (by omega)) ?_
   refine l_val (v := Value.int .i64 (i - 1)) rfl (e_assign rfl) ?_
   refine l_nil ?_
   replace hbase := hbase.chg ch12 (not_no _)
   replace hbase := hbase.chg ch17 (is_ne rfl)
   replace r_ps_v := (r_ps_v.chg ch12 (not_no _)).chg ch17 (is_ne rfl)
   refine back7 (v16, (back ++ [(gI ps i)]), i - 1, g14) _ _ ⟨hbase, (by exact zs0), (by exact zs1), rfl, rfl, r_ps_v, o18, ?_⟩ ?_
   · show (back ++ [(gI ps i)]) = (List.drop (Int.toNat ((i - 1) + 1)) ps).reverse ∧ -1 ≤ (i - 1) ∧ (i - 1) < (ps.length : Int)
     exact back_next hinv (by assumption)
   · show Int.toNat ((i - 1) + 1) < Int.toNat (i + 1)
     omega
  refine run_cond_f rfl (decide_eq_false p7) ?_
  refine run_exit rfl ?_
  refine run_seq ?_
  have hbk : back = ps.reverse := back_done hinv (by assumption)
  obtain ⟨l1, l2, l3⟩ := areas_law hok (by omega) (at_ := at_.toNat) (by omega) (by omega)
  rw [← hbk] at l1
  have hn1 := area_abs ps
  refine run_region rfl ?_
  refine l_val (v := ps_v) rfl (e_move (by exact zs0)) ?_
  refine l_op rfl ?_
  refine o_call (v := Value.tuple (List.toArray [Value.int .i64 ((areaR ps).1), Value.int .i64 ((areaR ps).2)])) (e_call (vals := [ps_v]) Try.func21 bd21_gs nm21_gs rfl) (Area_ok w7 ps ps_v (r_ps_v).ro) ?_
  intro w19 hb20
  replace hb20 := chg_below hb20 g8
  refine l_val (v := Value.tuple (List.toArray [Value.int .i64 ((areaR ps).1), Value.int .i64 ((areaR ps).2)])) rfl (e_move rfl) ?_
  refine l_val (v := Value.int .i64 ((areaR ps).1)) rfl (e_extract rfl rfl) ?_
  refine l_val (v := Value.int .i64 ((areaR ps).2)) rfl (e_extract rfl rfl) ?_
  refine l_val (v := Value.int .i64 ((areaR ps).1)) rfl (e_assign rfl) ?_
  refine l_val (v := Value.int .i64 ((areaR ps).2)) rfl (e_assign rfl) ?_
  refine l_nil ?_
  refine run_seq ?_
  refine run_region rfl ?_
  refine l_val (v := back_v) rfl (e_move (by exact zs5)) ?_
  replace o_back := o_back.chg hb20 (not_no _) (not_no _)
  refine l_op rfl ?_
  refine o_call (v := Value.tuple (List.toArray [Value.int .i64 ((areaR back).1), Value.int .i64 ((areaR back).2)])) (e_call (vals := [back_v]) Try.func21 bd21_gs nm21_gs rfl) (Area_ok w19 back back_v (o_back.flat).ro) ?_
  intro w21 hb22
  replace hb22 := chg_below hb22 g8
  refine l_val (v := Value.tuple (List.toArray [Value.int .i64 ((areaR back).1), Value.int .i64 ((areaR back).2)])) rfl (e_move rfl) ?_
  refine l_val (v := Value.int .i64 ((areaR back).1)) rfl (e_extract rfl rfl) ?_
  refine l_val (v := Value.int .i64 ((areaR back).2)) rfl (e_extract rfl rfl) ?_
  refine l_val (v := Value.int .i64 ((areaR back).1)) rfl (e_assign rfl) ?_
  refine l_val (v := Value.int .i64 ((areaR back).2)) rfl (e_assign rfl) ?_
  refine l_nil ?_
  refine run_seq ?_
  clear o_back
  refine run_region_x g8 [0, 1, 2, 4, 5, 6, 9, 10, 11, 12, 13] mixed_gs ?_
  intro w24 ch23
  refine x_pure (v := ps_v) 0 rfl (by kernel_rfl) (by kernel_rfl) rfl (fun w => e_move (by exact zs0)) ?_
  refine x_pure (v := Value.int .i64 at_) 1 rfl (by kernel_rfl) (by kernel_rfl) rfl (fun w => e_move (by exact zs1)) ?_
  have C25 : Chg (inl []) _ _ _ _ := (hb20.n).seq ((hb22.n).seq (ch23.n))
  replace r_ps_v := r_ps_v.chg C25 (is_nl rfl)
  refine x_pure (v := (subV ps_v 2 (Int.toNat at_) (Int.toNat ps.length))) 2 rfl (by kernel_rfl) (by kernel_rfl) rfl (fun w => e_slice (α := (Int) × (Int)) (xs := ps) (v := ps_v) (l := at_) (h := ps.length) Try.underlying25 rfl rfl r_ps_v (.inl (congrArg some rfl)) (.inr ⟨rfl, rfl⟩) (by omega) (by omega) (by omega)) ?_
  have r27 := sl_sub r_ps_v (show Int.toNat at_ ≤ Int.toNat ps.length by omega) (show Int.toNat ps.length ≤ List.length _ by omega)
  rw [show (List.drop (Int.toNat at_) (List.take (Int.toNat ps.length) ps)) = List.drop (Int.toNat at_) ps by simp] at r27
  refine x_pure (v := ps_v) 4 rfl (by kernel_rfl) (by kernel_rfl) rfl (fun w => e_move (by exact zs0)) ?_
  refine x_pure (v := Value.int .i64 at_) 5 rfl (by kernel_rfl) (by kernel_rfl) rfl (fun w => e_move (by exact zs1)) ?_
  refine x_pure (v := (subV ps_v 2 (Int.toNat 0) (Int.toNat at_))) 6 rfl (by kernel_rfl) (by kernel_rfl) rfl (fun w => e_slice (α := (Int) × (Int)) (xs := ps) (v := ps_v) (l := 0) (h := at_) Try.underlying25 rfl rfl r_ps_v (.inr ⟨rfl, rfl⟩) (.inl (congrArg some rfl)) (by omega) (by omega) (by omega)) ?_
  have r29 := sl_sub r_ps_v (show Int.toNat 0 ≤ Int.toNat at_ by omega) (show Int.toNat at_ ≤ List.length _ by omega)
  rw [show (List.drop (Int.toNat 0) (List.take (Int.toNat at_) ps)) = List.take (Int.toNat at_) ps by simp] at r29
  refine x_one 3 rfl (by kernel_rfl) rfl ?_
  refine o_append (α := (Int) × (Int)) (xs := ([])) (ys := (List.drop (Int.toNat at_) ps)) g8 (J := is 3) (S := is 3) (3, 0) rfl Try.underlying25 tp23_gs (by decide) rfl rfl rfl Ow.nil r27 (by decide) (by first | omega | (simp; done) | (simp; omega)) ?_
  intro g30 w31 v32 ch33 o34
  replace o34 : Ow g30 (is 3) (is 3) w31 v32 (List.drop (Int.toNat at_) ps) := o34
  refine x_one 7 rfl (by kernel_rfl) rfl ?_
  replace r29 := r29.chg ch33 (is_ne rfl)
  refine o_append (α := (Int) × (Int)) (xs := (List.drop (Int.toNat at_) ps)) (ys := (List.take (Int.toNat at_) ps)) g30 (J := is 3) (S := is 3) (3, 0) rfl Try.underlying25 tp23_gs (by decide) rfl rfl rfl o34 r29 (by decide) (by first | omega | (simp; done) | (simp; omega)) ?_
  intro g35 w36 v37 ch38 o39
  clear o34
  refine x_one 8 rfl (by kernel_rfl) rfl ?_
  refine o_call (v := Value.tuple (List.toArray [Value.int .i64 ((areaR (List.drop (Int.toNat at_) ps ++ List.take (Int.toNat at_) ps)).1), Value.int .i64 ((areaR (List.drop (Int.toNat at_) ps ++ List.take (Int.toNat at_) ps)).2)])) (e_call (vals := [v37]) Try.func21 bd21_gs nm21_gs rfl) (Area_ok w36 (List.drop (Int.toNat at_) ps ++ List.take (Int.toNat at_) ps) v37 (o39.flat).ro) ?_
  intro w40 hb41
  replace hb41 := chg_below hb41 g35
  refine x_pure (v := Value.tuple (List.toArray [Value.int .i64 ((areaR (List.drop (Int.toNat at_) ps ++ List.take (Int.toNat at_) ps)).1), Value.int .i64 ((areaR (List.drop (Int.toNat at_) ps ++ List.take (Int.toNat at_) ps)).2)])) 9 rfl (by kernel_rfl) (by kernel_rfl) rfl (fun w => e_move rfl) ?_
  refine x_pure (v := Value.int .i64 ((areaR (List.drop (Int.toNat at_) ps ++ List.take (Int.toNat at_) ps)).1)) 10 rfl (by kernel_rfl) (by kernel_rfl) rfl (fun w => e_extract rfl rfl) ?_
  refine x_pure (v := Value.int .i64 ((areaR (List.drop (Int.toNat at_) ps ++ List.take (Int.toNat at_) ps)).2)) 11 rfl (by kernel_rfl) (by kernel_rfl) rfl (fun w => e_extract rfl rfl) ?_
  refine x_pure (v := Value.int .i64 ((areaR (List.drop (Int.toNat at_) ps ++ List.take (Int.toNat at_) ps)).1)) 12 rfl (by kernel_rfl) (by kernel_rfl) rfl (fun w => e_assign rfl) ?_
  refine x_pure (v := Value.int .i64 ((areaR (List.drop (Int.toNat at_) ps ++ List.take (Int.toNat at_) ps)).2)) 13 rfl (by kernel_rfl) (by kernel_rfl) rfl (fun w => e_assign rfl) ?_
  refine x_nil (by kernel_rfl) ?_
  refine run_seq ?_
  clear r27
  clear r29
  clear o39
  refine run_region rfl ?_
  refine l_val (v := ps_v) rfl (e_move (by exact zs0)) ?_
  refine l_val (v := Value.int .i64 at_) rfl (e_move (by exact zs1)) ?_
  refine l_val (v := Value.int .i64 (at_ + 1)) rfl (e_add (m := at_) (n := 1) rfl rfl (by omega)) ?_
  have C42 : Chg (inl [3]) _ _ _ _ := (ch33.l rfl).seq ((ch38.l rfl).seq (hb41.n))
  replace r_ps_v := r_ps_v.chg C42 (is_nl rfl)
  refine l_val (v := (subV ps_v 2 (Int.toNat 0) (Int.toNat (at_ + 1)))) rfl (e_slice (α := (Int) × (Int)) (xs := ps) (v := ps_v) (l := 0) (h := at_ + 1) Try.underlying25 rfl rfl r_ps_v (.inr ⟨rfl, rfl⟩) (.inl (congrArg some rfl)) (by omega) (by omega) (by omega)) ?_
  have r44 := sl_sub r_ps_v (show Int.toNat 0 ≤ Int.toNat (at_ + 1) by omega) (show Int.toNat (at_ + 1) ≤ List.length _ by omega)
  rw [show (List.drop (Int.toNat 0) (List.take (Int.toNat (at_ + 1)) ps)) = List.take (Int.toNat at_ + 1) ps by (rw [show Int.toNat (at_ + 1) = Int.toNat at_ + 1 by omega]; first | rfl | simp)] at r44
  refine l_op rfl ?_
  refine o_call (v := Value.tuple (List.toArray [Value.int .i64 ((areaR (List.take (Int.toNat at_ + 1) ps)).1), Value.int .i64 ((areaR (List.take (Int.toNat at_ + 1) ps)).2)])) (e_call (vals := [(subV ps_v 2 (Int.toNat 0) (Int.toNat (at_ + 1)))]) Try.func21 bd21_gs nm21_gs rfl) (Area_ok w40 (List.take (Int.toNat at_ + 1) ps) (subV ps_v 2 (Int.toNat 0) (Int.toNat (at_ + 1))) (r44).ro) ?_
  intro w45 hb46
  replace hb46 := chg_below hb46 g35
  refine l_val (v := Value.tuple (List.toArray [Value.int .i64 ((areaR (List.take (Int.toNat at_ + 1) ps)).1), Value.int .i64 ((areaR (List.take (Int.toNat at_ + 1) ps)).2)])) rfl (e_move rfl) ?_
  refine l_val (v := Value.int .i64 ((areaR (List.take (Int.toNat at_ + 1) ps)).1)) rfl (e_extract rfl rfl) ?_
  refine l_val (v := Value.int .i64 ((areaR (List.take (Int.toNat at_ + 1) ps)).2)) rfl (e_extract rfl rfl) ?_
  refine l_val (v := Value.int .i64 ((areaR (List.take (Int.toNat at_ + 1) ps)).1)) rfl (e_assign rfl) ?_
  refine l_val (v := Value.int .i64 ((areaR (List.take (Int.toNat at_ + 1) ps)).2)) rfl (e_assign rfl) ?_
  refine l_nil ?_
  refine run_seq ?_
  clear r44
  refine region_midh (σ := Cmap) (fun gq f w => Base w0 gq w ∧ f 7 = Value.int .i64 ((areaR ps).1) ∧ f 9 = Value.int .i64 ((areaR back).1) ∧ f 11 = Value.int .i64 ((areaR (List.drop (Int.toNat at_) ps ++ List.take (Int.toNat at_) ps)).1) ∧ f 13 = Value.int .i64 ((areaR (List.take (Int.toNat at_ + 1) ps)).1) ∧ f 15 = Value.int .i64 ((areaR (List.drop (Int.toNat at_) ps ++ [(gI ps 0)])).1) ∧ Sl gq (is 0) w ps_v ps) g35 (inl [4]) mixed_gs ?_ ?_
  ·
   intro mid
   intro w48 ch47
   refine h_take (v := ps_v) 0 rfl (by kernel_rfl) (by kernel_rfl) rfl (Chg.refl _ _ _) (fun w' hw' => e_move (by exact zs0)) ?_
   refine h_take (v := Value.int .i64 at_) 1 rfl (by kernel_rfl) (by kernel_rfl) rfl (Chg.refl _ _ _) (fun w' hw' => e_move (by exact zs1)) ?_
   replace r_ps_v := (r_ps_v.chg hb46 (not_no _)).chg ch47 (not_no _)
   refine h_take (v := (subV ps_v 2 (Int.toNat at_) (Int.toNat ps.length))) 2 rfl (by kernel_rfl) (by kernel_rfl) rfl (Chg.refl _ _ _) (fun w' hw' => e_slice (α := (Int) × (Int)) (xs := ps) (v := ps_v) (l := at_) (h := ps.length) Try.underlying25 rfl rfl r_ps_v (.inl (congrArg some rfl)) (.inr ⟨rfl, rfl⟩) (by omega) (by omega) (by omega)) ?_
   have r50 := sl_sub r_ps_v (show Int.toNat at_ ≤ Int.toNat ps.length by omega) (show Int.toNat ps.length ≤ List.length _ by omega)
   rw [show (List.drop (Int.toNat at_) (List.take (Int.toNat ps.length) ps)) = List.drop (Int.toNat at_) ps by simp] at r50
   refine h_take (v := ps_v) 4 rfl (by kernel_rfl) (by kernel_rfl) rfl (Chg.refl _ _ _) (fun w' hw' => e_move (by exact zs0)) ?_
   refine h_many 3 [5] (by kernel_rfl) ⟨h_of 3 rfl (by kernel_rfl) rfl ?_, h_of 5 rfl (by kernel_rfl) rfl ?_, trivial⟩
   ·
    refine o_append (α := (Int) × (Int)) (xs := ([])) (ys := (List.drop (Int.toNat at_) ps)) g35 (J := is 4) (S := is 4) (4, 0) rfl Try.underlying25 tp23_gs (by decide) rfl rfl rfl Ow.nil r50 (by decide) (by first | omega | (simp; done) | (simp; omega)) ?_
    intro g51 w52 v53 ch54 o55
    replace o55 : Ow g51 (is 4) (is 4) w52 v53 (List.drop (Int.toNat at_) ps) := o55
    have hs56 : Chg (inl [4]) _ _ _ _ := ch54.l rfl
    refine ⟨hs56.same, ?_⟩
    refine h_one 5 rfl (by kernel_rfl) rfl ?_
    refine o_of_val (v := Value.pointer (some (eAddr ps_v 2 (Int.toNat 0)))) (e_indexAddr (α := (Int) × (Int)) (xs := ps) (v := ps_v) (i := 0) Try.underlying25 rfl rfl (r_ps_v.chg hs56 (is_nl rfl)) rfl (by omega) (by omega)) ?_
    refine ⟨hs56.same, ?_⟩
    refine h_take (v := Value.agg (List.toArray [Value.int .i64 ((gI ps 0).1), Value.int .i64 ((gI ps 0).2)])) 6 rfl (by kernel_rfl) (by kernel_rfl) rfl hs56.same (fun w' hw' => e_load_elN (α := (Int) × (Int)) (xs := ps) (v := ps_v) (i := 0) tp23_gs rfl (r_ps_v.chg hw' (is_nl rfl)) (by omega) (by omega) rfl) ?_
    refine h_one 7 rfl (by kernel_rfl) rfl ?_
    refine o_buildSlice (α := (Int) × (Int)) g51 (is 5) (is 5) (5, 0) rfl [(gI ps 0)] Try.underlying25 tp23_gs (by decide) (by decide) (vs := [(0, Value.agg (List.toArray [Value.int .i64 ((gI ps 0).1), Value.int .i64 ((gI ps 0).2)]))]) rfl rfl (.cons rfl .nil) ?_
    intro g57 w58 v59 ch60 o61
    have hs62 := hs56.seq (ch60.n)
    refine ⟨hs62.same, ?_⟩
    refine h_one 8 rfl (by kernel_rfl) rfl ?_
    replace o55 := o55.chg ch60 (not_no _) (not_no _)
    refine o_append (α := (Int) × (Int)) (xs := (List.drop (Int.toNat at_) ps)) (ys := ([(gI ps 0)])) g57 (J := is 4) (S := is 4) (4, 0) rfl Try.underlying25 tp23_gs (by decide) rfl rfl rfl o55 o61.flat (by decide) (by first | omega | (simp; done) | (simp; omega)) ?_
    intro g63 w64 v65 ch66 o67
    clear o55
    have hs68 := hs62.seq (ch66.l rfl)
    refine ⟨hs68.same, ?_⟩
    refine h_one 9 rfl (by kernel_rfl) rfl ?_
    refine o_call (v := Value.tuple (List.toArray [Value.int .i64 ((areaR (List.drop (Int.toNat at_) ps ++ [(gI ps 0)])).1), Value.int .i64 ((areaR (List.drop (Int.toNat at_) ps ++ [(gI ps 0)])).2)])) (e_call (vals := [v65]) Try.func21 bd21_gs nm21_gs rfl) (Area_ok w64 (List.drop (Int.toNat at_) ps ++ [(gI ps 0)]) v65 (o67.flat).ro) ?_
    intro w69 hb70
    replace hb70 := chg_below hb70 g63
    have hs71 := hs68.seq (hb70.n)
    refine ⟨hs71.same, ?_⟩
    refine h_take (v := Value.tuple (List.toArray [Value.int .i64 ((areaR (List.drop (Int.toNat at_) ps ++ [(gI ps 0)])).1), Value.int .i64 ((areaR (List.drop (Int.toNat at_) ps ++ [(gI ps 0)])).2)])) 10 rfl (by kernel_rfl) (by kernel_rfl) rfl hs71.same (fun w' hw' => e_move rfl) ?_
    refine h_take (v := Value.int .i64 ((areaR (List.drop (Int.toNat at_) ps ++ [(gI ps 0)])).1)) 11 rfl (by kernel_rfl) (by kernel_rfl) rfl hs71.same (fun w' hw' => e_extract rfl rfl) ?_
    refine h_take (v := Value.int .i64 ((areaR (List.drop (Int.toNat at_) ps ++ [(gI ps 0)])).2)) 12 rfl (by kernel_rfl) (by kernel_rfl) rfl hs71.same (fun w' hw' => e_extract rfl rfl) ?_
    refine h_take (v := Value.int .i64 ((areaR (List.drop (Int.toNat at_) ps ++ [(gI ps 0)])).1)) 13 rfl (by kernel_rfl) (by kernel_rfl) rfl hs71.same (fun w' hw' => e_assign rfl) ?_
    refine h_take (v := Value.int .i64 ((areaR (List.drop (Int.toNat at_) ps ++ [(gI ps 0)])).2)) 14 rfl (by kernel_rfl) (by kernel_rfl) rfl hs71.same (fun w' hw' => e_assign rfl) ?_
    refine h_nil (by kernel_rfl) ?_
    have C72 : Chg (inl [3, 4]) _ _ _ _ := (hb20.n).seq ((hb22.n).seq ((ch23.n).seq ((ch33.l rfl).seq ((ch38.l rfl).seq ((hb41.n).seq ((hb46.n).seq ((ch47.n).seq ((ch54.l rfl).seq ((ch60.n).seq ((ch66.l rfl).seq (hb70.n)))))))))))
    replace hbase := hbase.chg C72 (is_nl rfl)
    exact mid (g63) _ _ ⟨hbase, rfl, rfl, rfl, rfl, rfl, (r_ps_v.chg hs71 (is_nl rfl))⟩
   ·
    refine o_of_val (v := Value.pointer (some (eAddr ps_v 2 (Int.toNat 0)))) (e_indexAddr (α := (Int) × (Int)) (xs := ps) (v := ps_v) (i := 0) Try.underlying25 rfl rfl r_ps_v rfl (by omega) (by omega)) ?_
    refine ⟨(Chg.refl _ _ _), ?_⟩
    refine h_take (v := Value.agg (List.toArray [Value.int .i64 ((gI ps 0).1), Value.int .i64 ((gI ps 0).2)])) 6 rfl (by kernel_rfl) (by kernel_rfl) rfl (Chg.refl _ _ _) (fun w' hw' => e_load_elN (α := (Int) × (Int)) (xs := ps) (v := ps_v) (i := 0) tp23_gs rfl (r_ps_v.chg hw' (is_nl rfl)) (by omega) (by omega) rfl) ?_
    refine h_many 3 [7] (by kernel_rfl) ⟨h_of 3 rfl (by kernel_rfl) rfl ?_, h_of 7 rfl (by kernel_rfl) rfl ?_, trivial⟩
    ·
     refine o_append (α := (Int) × (Int)) (xs := ([])) (ys := (List.drop (Int.toNat at_) ps)) g35 (J := is 4) (S := is 4) (4, 0) rfl Try.underlying25 tp23_gs (by decide) rfl rfl rfl Ow.nil r50 (by decide) (by first | omega | (simp; done) | (simp; omega)) ?_
     intro g73 w74 v75 ch76 o77
     replace o77 : Ow g73 (is 4) (is 4) w74 v75 (List.drop (Int.toNat at_) ps) := o77
     have hs78 : Chg (inl [4]) _ _ _ _ := ch76.l rfl
     refine ⟨hs78.same, ?_⟩
     refine h_one 7 rfl (by kernel_rfl) rfl ?_
     refine o_buildSlice (α := (Int) × (Int)) g73 (is 5) (is 5) (5, 0) rfl [(gI ps 0)] Try.underlying25 tp23_gs (by decide) (by decide) (vs := [(0, Value.agg (List.toArray [Value.int .i64 ((gI ps 0).1), Value.int .i64 ((gI ps 0).2)]))]) rfl rfl (.cons rfl .nil) ?_
     intro g79 w80 v81 ch82 o83
     have hs84 := hs78.seq (ch82.n)
     refine ⟨hs84.same, ?_⟩
     refine h_one 8 rfl (by kernel_rfl) rfl ?_
     replace o77 := o77.chg ch82 (not_no _) (not_no _)
     refine o_append (α := (Int) × (Int)) (xs := (List.drop (Int.toNat at_) ps)) (ys := ([(gI ps 0)])) g79 (J := is 4) (S := is 4) (4, 0) rfl Try.underlying25 tp23_gs (by decide) rfl rfl rfl o77 o83.flat (by decide) (by first | omega | (simp; done) | (simp; omega)) ?_
     intro g85 w86 v87 ch88 o89
     clear o77
     have hs90 := hs84.seq (ch88.l rfl)
     refine ⟨hs90.same, ?_⟩
     refine h_one 9 rfl (by kernel_rfl) rfl ?_
     refine o_call (v := Value.tuple (List.toArray [Value.int .i64 ((areaR (List.drop (Int.toNat at_) ps ++ [(gI ps 0)])).1), Value.int .i64 ((areaR (List.drop (Int.toNat at_) ps ++ [(gI ps 0)])).2)])) (e_call (vals := [v87]) Try.func21 bd21_gs nm21_gs rfl) (Area_ok w86 (List.drop (Int.toNat at_) ps ++ [(gI ps 0)]) v87 (o89.flat).ro) ?_
     intro w91 hb92
     replace hb92 := chg_below hb92 g85
     have hs93 := hs90.seq (hb92.n)
     refine ⟨hs93.same, ?_⟩
     refine h_take (v := Value.tuple (List.toArray [Value.int .i64 ((areaR (List.drop (Int.toNat at_) ps ++ [(gI ps 0)])).1), Value.int .i64 ((areaR (List.drop (Int.toNat at_) ps ++ [(gI ps 0)])).2)])) 10 rfl (by kernel_rfl) (by kernel_rfl) rfl hs93.same (fun w' hw' => e_move rfl) ?_
     refine h_take (v := Value.int .i64 ((areaR (List.drop (Int.toNat at_) ps ++ [(gI ps 0)])).1)) 11 rfl (by kernel_rfl) (by kernel_rfl) rfl hs93.same (fun w' hw' => e_extract rfl rfl) ?_
     refine h_take (v := Value.int .i64 ((areaR (List.drop (Int.toNat at_) ps ++ [(gI ps 0)])).2)) 12 rfl (by kernel_rfl) (by kernel_rfl) rfl hs93.same (fun w' hw' => e_extract rfl rfl) ?_
     refine h_take (v := Value.int .i64 ((areaR (List.drop (Int.toNat at_) ps ++ [(gI ps 0)])).1)) 13 rfl (by kernel_rfl) (by kernel_rfl) rfl hs93.same (fun w' hw' => e_assign rfl) ?_
     refine h_take (v := Value.int .i64 ((areaR (List.drop (Int.toNat at_) ps ++ [(gI ps 0)])).2)) 14 rfl (by kernel_rfl) (by kernel_rfl) rfl hs93.same (fun w' hw' => e_assign rfl) ?_
     refine h_nil (by kernel_rfl) ?_
     have C94 : Chg (inl [3, 4]) _ _ _ _ := (hb20.n).seq ((hb22.n).seq ((ch23.n).seq ((ch33.l rfl).seq ((ch38.l rfl).seq ((hb41.n).seq ((hb46.n).seq ((ch47.n).seq ((ch76.l rfl).seq ((ch82.n).seq ((ch88.l rfl).seq (hb92.n)))))))))))
     replace hbase := hbase.chg C94 (is_nl rfl)
     exact mid (g85) _ _ ⟨hbase, rfl, rfl, rfl, rfl, rfl, (r_ps_v.chg hs93 (is_nl rfl))⟩
    ·
     refine o_buildSlice (α := (Int) × (Int)) g35 (is 5) (is 5) (5, 0) rfl [(gI ps 0)] Try.underlying25 tp23_gs (by decide) (by decide) (vs := [(0, Value.agg (List.toArray [Value.int .i64 ((gI ps 0).1), Value.int .i64 ((gI ps 0).2)]))]) rfl rfl (.cons rfl .nil) ?_
     intro g95 w96 v97 ch98 o99
     have hs100 : Chg (inl [4]) _ _ _ _ := ch98.n
     refine ⟨hs100.same, ?_⟩
     refine h_one 3 rfl (by kernel_rfl) rfl ?_
     refine o_append (α := (Int) × (Int)) (xs := ([])) (ys := (List.drop (Int.toNat at_) ps)) g95 (J := is 4) (S := is 4) (4, 0) rfl Try.underlying25 tp23_gs (by decide) rfl rfl rfl Ow.nil (r50.chg hs100 (is_nl rfl)) (by decide) (by first | omega | (simp; done) | (simp; omega)) ?_
     intro g101 w102 v103 ch104 o105
     replace o105 : Ow g101 (is 4) (is 4) w102 v103 (List.drop (Int.toNat at_) ps) := o105
     have hs106 := hs100.seq (ch104.l rfl)
     refine ⟨hs106.same, ?_⟩
     refine h_one 8 rfl (by kernel_rfl) rfl ?_
     replace o99 := o99.chg ch104 (is_ne rfl) (is_ne rfl)
     refine o_append (α := (Int) × (Int)) (xs := (List.drop (Int.toNat at_) ps)) (ys := ([(gI ps 0)])) g101 (J := is 4) (S := is 4) (4, 0) rfl Try.underlying25 tp23_gs (by decide) rfl rfl rfl o105 o99.flat (by decide) (by first | omega | (simp; done) | (simp; omega)) ?_
     intro g107 w108 v109 ch110 o111
     clear o105
     have hs112 := hs106.seq (ch110.l rfl)
     refine ⟨hs112.same, ?_⟩
     refine h_one 9 rfl (by kernel_rfl) rfl ?_
     refine o_call (v := Value.tuple (List.toArray [Value.int .i64 ((areaR (List.drop (Int.toNat at_) ps ++ [(gI ps 0)])).1), Value.int .i64 ((areaR (List.drop (Int.toNat at_) ps ++ [(gI ps 0)])).2)])) (e_call (vals := [v109]) Try.func21 bd21_gs nm21_gs rfl) (Area_ok w108 (List.drop (Int.toNat at_) ps ++ [(gI ps 0)]) v109 (o111.flat).ro) ?_
     intro w113 hb114
     replace hb114 := chg_below hb114 g107
     have hs115 := hs112.seq (hb114.n)
     refine ⟨hs115.same, ?_⟩
     refine h_take (v := Value.tuple (List.toArray [Value.int .i64 ((areaR (List.drop (Int.toNat at_) ps ++ [(gI ps 0)])).1), Value.int .i64 ((areaR (List.drop (Int.toNat at_) ps ++ [(gI ps 0)])).2)])) 10 rfl (by kernel_rfl) (by kernel_rfl) rfl hs115.same (fun w' hw' => e_move rfl) ?_
     refine h_take (v := Value.int .i64 ((areaR (List.drop (Int.toNat at_) ps ++ [(gI ps 0)])).1)) 11 rfl (by kernel_rfl) (by kernel_rfl) rfl hs115.same (fun w' hw' => e_extract rfl rfl) ?_
     refine h_take (v := Value.int .i64 ((areaR (List.drop (Int.toNat at_) ps ++ [(gI ps 0)])).2)) 12 rfl (by kernel_rfl) (by kernel_rfl) rfl hs115.same (fun w' hw' => e_extract rfl rfl) ?_
     refine h_take (v := Value.int .i64 ((areaR (List.drop (Int.toNat at_) ps ++ [(gI ps 0)])).1)) 13 rfl (by kernel_rfl) (by kernel_rfl) rfl hs115.same (fun w' hw' => e_assign rfl) ?_
     refine h_take (v := Value.int .i64 ((areaR (List.drop (Int.toNat at_) ps ++ [(gI ps 0)])).2)) 14 rfl (by kernel_rfl) (by kernel_rfl) rfl hs115.same (fun w' hw' => e_assign rfl) ?_
     refine h_nil (by kernel_rfl) ?_
     have C116 : Chg (inl [3, 4]) _ _ _ _ := (hb20.n).seq ((hb22.n).seq ((ch23.n).seq ((ch33.l rfl).seq ((ch38.l rfl).seq ((hb41.n).seq ((hb46.n).seq ((ch47.n).seq ((ch98.n).seq ((ch104.l rfl).seq ((ch110.l rfl).seq (hb114.n)))))))))))
     replace hbase := hbase.chg C116 (is_nl rfl)
     exact mid (g107) _ _ ⟨hbase, rfl, rfl, rfl, rfl, rfl, (r_ps_v.chg hs115 (is_nl rfl))⟩
  clear r_ps_v
  clear hbase
  rintro g119 f117 w118 ⟨hbase, zs7, zs9, zs11, zs13, zs15, r_ps_v⟩
  refine run_seq ?_
  have ho1 := area_abs (List.take (Int.toNat at_ + 1) ps)
  have ho2 := area_abs (List.drop (Int.toNat at_) ps ++ [gI ps 0])
  refine run_region rfl ?_
  refine l_val (v := Value.int .i64 ((areaR back).1)) rfl (e_move (by exact zs9)) ?_
  refine l_val (v := Value.int .i64 ((areaR ps).1)) rfl (e_move (by exact zs7)) ?_
  refine l_val (v := Value.int .i64 (-((areaR ps).1))) rfl (e_neg (m := (areaR ps).1) rfl (by omega)) ?_
  refine l_val (v := Value.bool (decide (((areaR back).1) = (-((areaR ps).1))))) rfl (e_eql (m := (areaR back).1) (n := -((areaR ps).1)) rfl rfl) ?_
  refine l_val (v := Value.bool (decide (((areaR back).1) = (-((areaR ps).1))))) rfl (e_move rfl) ?_
  have q104 : ((areaR back).1) = (-((areaR ps).1)) := by first | exact l1 | exact l2
  refine l_val (v := Value.int .i64 ((areaR (List.drop (Int.toNat at_) ps ++ List.take (Int.toNat at_) ps)).1)) (want_y rfl rfl rfl (decide_eq_true q104)) (e_move (by exact zs11)) ?_
  refine l_val (v := Value.int .i64 ((areaR ps).1)) (want_y rfl rfl rfl (decide_eq_true q104)) (e_move (by exact zs7)) ?_
  refine l_val (v := Value.bool (decide (((areaR (List.drop (Int.toNat at_) ps ++ List.take (Int.toNat at_) ps)).1) = ((areaR ps).1)))) (want_y rfl rfl rfl (decide_eq_true q104)) (e_eql (m := (areaR (List.drop (Int.toNat at_) ps ++ List.take (Int.toNat at_) ps)).1) (n := (areaR ps).1) rfl rfl) ?_
  refine l_val (v := Value.bool (decide (((areaR (List.drop (Int.toNat at_) ps ++ List.take (Int.toNat at_) ps)).1) = ((areaR ps).1)))) rfl (e_pick_t rfl (decide_eq_true q104) rfl) ?_
  refine l_val (v := Value.bool (decide (((areaR (List.drop (Int.toNat at_) ps ++ List.take (Int.toNat at_) ps)).1) = ((areaR ps).1)))) rfl (e_move rfl) ?_
  have q109 : ((areaR (List.drop (Int.toNat at_) ps ++ List.take (Int.toNat at_) ps)).1) = ((areaR ps).1) := by first | exact l1 | exact l2
  refine l_val (v := Value.int .i64 ((areaR (List.take (Int.toNat at_ + 1) ps)).1)) (want_y rfl rfl rfl (decide_eq_true q109)) (e_move (by exact zs13)) ?_
  refine l_val (v := Value.int .i64 ((areaR (List.drop (Int.toNat at_) ps ++ [(gI ps 0)])).1)) (want_y rfl rfl rfl (decide_eq_true q109)) (e_move (by exact zs15)) ?_
  refine l_val (v := Value.int .i64 (((areaR (List.take (Int.toNat at_ + 1) ps)).1) + ((areaR (List.drop (Int.toNat at_) ps ++ [(gI ps 0)])).1))) (want_y rfl rfl rfl (decide_eq_true q109)) (e_add (m := (areaR (List.take (Int.toNat at_ + 1) ps)).1) (n := (areaR (List.drop (Int.toNat at_) ps ++ [(gI ps 0)])).1) rfl rfl (by omega)) ?_
  refine l_val (v := Value.int .i64 ((areaR ps).1)) (want_y rfl rfl rfl (decide_eq_true q109)) (e_move (by exact zs7)) ?_
  refine l_val (v := Value.bool (decide ((((areaR (List.take (Int.toNat at_ + 1) ps)).1) + ((areaR (List.drop (Int.toNat at_) ps ++ [(gI ps 0)])).1)) = ((areaR ps).1)))) (want_y rfl rfl rfl (decide_eq_true q109)) (e_eql (m := ((areaR (List.take (Int.toNat at_ + 1) ps)).1) + ((areaR (List.drop (Int.toNat at_) ps ++ [(gI ps 0)])).1)) (n := (areaR ps).1) rfl rfl) ?_
  refine l_val (v := Value.bool (decide ((((areaR (List.take (Int.toNat at_ + 1) ps)).1) + ((areaR (List.drop (Int.toNat at_) ps ++ [(gI ps 0)])).1)) = ((areaR ps).1)))) rfl (e_pick_t rfl (decide_eq_true q109) rfl) ?_
  refine l_val (v := Value.bool (decide ((((areaR (List.take (Int.toNat at_ + 1) ps)).1) + ((areaR (List.drop (Int.toNat at_) ps ++ [(gI ps 0)])).1)) = ((areaR ps).1)))) rfl (e_assign rfl) ?_
  refine l_nil ?_
  refine run_ret (vs := [Value.bool (decide ((((areaR (List.take (Int.toNat at_ + 1) ps)).1) + ((areaR (List.drop (Int.toNat at_) ps ++ [(gI ps 0)])).1)) = ((areaR ps).1)))]) Try.func5 (.tmp rfl .nil) ?_
  -- return 4
  have e0 : (decide ((((areaR (List.take (Int.toNat at_ + 1) ps)).1) + ((areaR (List.drop (Int.toNat at_) ps ++ [(gI ps 0)])).1)) = ((areaR ps).1)) : Bool) = (true) := by
    first
      | rfl
      | exact decide_eq_true l3
      | exact (decide_eq_true l3).symm
  exact ⟨(congrArg (a₁ := decide ((((areaR (List.take (Int.toNat at_ + 1) ps)).1) + ((areaR (List.drop (Int.toNat at_) ps ++ [(gI ps 0)])).1)) = ((areaR ps).1))) (fun (z0 : Bool) => Ending.returned (Value.bool z0)) e0), hbase.below⟩
 refine l_skip (want_n rfl rfl rfl (congrArg Bool.not (decide_eq_false q32))) ?_
 refine l_skip (want_n rfl rfl rfl (congrArg Bool.not (decide_eq_false q32))) ?_
 refine l_val (v := Value.bool true) rfl (e_pick_t rfl (congrArg Bool.not (decide_eq_false q32)) rfl) ?_
 refine l_val (v := Value.bool true) rfl (e_move rfl) ?_
 refine l_skip (want_n rfl rfl rfl rfl) ?_
 refine l_skip (want_n rfl rfl rfl rfl) ?_
 refine l_skip (want_n rfl rfl rfl rfl) ?_
 refine l_skip (want_n rfl rfl rfl rfl) ?_
 refine l_skip (want_n rfl rfl rfl rfl) ?_
 refine l_val (v := Value.bool true) rfl (e_pick_t rfl rfl rfl) ?_
 refine l_nil ?_
 refine run_cond_t rfl rfl ?_
 refine run_seq ?_
 refine run_region rfl ?_
 refine l_val (v := Value.bool true) rfl (e_assign rfl) ?_
 refine l_nil ?_
 refine run_ret (vs := [Value.bool true]) Try.func5 (.tmp rfl .nil) ?_
 -- return 5
 have e0 : (true : Bool) = (true) := by
   first
     | rfl
     | exact decide_eq_true l3
     | exact (decide_eq_true l3).symm
 replace hbase := hbase.chg hb2 (not_no _)
 replace hbase := hbase.chg hb5 (not_no _)
 exact ⟨(congrArg (a₁ := true) (fun (z0 : Bool) => Ending.returned (Value.bool z0)) e0), hbase.below⟩
end TL
