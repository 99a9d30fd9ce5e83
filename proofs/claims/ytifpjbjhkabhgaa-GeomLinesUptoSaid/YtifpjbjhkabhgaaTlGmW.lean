import Derived.Test.YtifpjbjhkabhgaaTlGmA
import Derived.Test.YtifpjbjhkabhgaaTlGmN
import Derived.Test.YtifpjbjhkabhgaaTlGmV
import Derived.Test.YtifpjbjhkabhgaaTlGeomX
import Derived.Test.YtifpjbjhkabhgaaTlGeomF
import Derived.Test.YtifpjbjhkabhgaaProg
import Derived.Test.YtifpjbjhkabhgaaTlNet2
import Derived.Test.YtifpjbjhkabhgaaTlEq
import Derived.Test.YtifpjbjhkabhgaaTlHold
import Derived.Test.YtifpjbjhkabhgaaTlDraw
import Derived.Test.YtifpjbjhkabhgaaTlMap
set_option linter.all false
set_option maxRecDepth 20000
namespace TL
open Go Go.Proofs
theorem mixed_gw : Try.prog.follows .mixedOrders = true := by kernel_rfl
theorem tp23_gw : Tp Try.prog 23 true 2 16 (.agg #[.int .i64 0, .int .i64 0]) := Tp.of (by kernel_rfl)
theorem bd23_gw : Try.f23.body.isNone = false := rfl
theorem nm23_gw : (Try.f23.name == "runtime.NumGoroutine") = false := by decide +kernel
theorem bd27_gw : Try.f27.body.isNone = false := rfl
theorem nm27_gw : (Try.f27.name == "runtime.NumGoroutine") = false := by decide +kernel
theorem bd53_gw : Try.f53.body.isNone = false := rfl
theorem nm53_gw : (Try.f53.name == "runtime.NumGoroutine") = false := by decide +kernel
theorem bd54_gw : Try.f54.body.isNone = false := rfl
theorem nm54_gw : (Try.f54.name == "runtime.NumGoroutine") = false := by decide +kernel
theorem bd62_gw : Try.f62.body.isNone = false := rfl
theorem nm62_gw : (Try.f62.name == "runtime.NumGoroutine") = false := by decide +kernel

set_option maxHeartbeats 8000000 in
theorem Beyond_ok (w0 : World) (p : List ((Int) × (Int))) (p_v : Value) (hp_v : Ro w0 p_v p) (q : List ((Int) × (Int))) (q_v : Value) (hq_v : Ro w0 q_v q) (but : List ((Int) × (Int))) (but_v : Value) (hbut_v : Ro w0 but_v but) (hp : okL p) (hq : okL q) (hp0 : 0 < p.length) (hq0 : 0 < q.length) (hbut : ∀ x ∈ but, bdP x) (hbl : but.length ≤ 1000000) :
    Calls Try.prog 54 #[p_v, q_v, but_v] w0 (fun ee w => ee = .returned (Value.bool (decide (beyP p q but))) ∧ RowKit.Below w0.heap.size w0 w) := by
 refine calls_of_run Try.func54 rfl (Nat.le_of_ble_eq_true rfl) ?_
 have hbase := Base.start w0
 have r_p_v := hp_v.sl
 have r_q_v := hq_v.sl
 have r_but_v := hbut_v.sl
 have hlp1 := hp.1
 have hlq1 := hq.1
 have hsp := segS_len (p := p) hp0
 have hsq := segS_len (p := q) hq0
 refine run_seq (run_region rfl ?_)
 refine l_val (v := Value.bool false) rfl (e_assign rfl) ?_
 refine l_nil (run_seq (run_region rfl ?_))
 refine l_val (v := p_v) rfl (e_move rfl) ?_
 refine l_op rfl ?_
 refine o_callx (e_call (vals := [p_v]) Try.func62 bd62_gw nm62_gw rfl) (D2segments_ok w0 p p_v (r_p_v).ro (by omega) (by omega)) ?_
 rintro ⟨d2, v4⟩ w1 ⟨fr3, o5⟩
 obtain ⟨g6, hg6⟩ : ∃ q, q = glue w0.heap.size c0 d2 (fun n => if n = 1 then 1 else 0) := ⟨_, rfl⟩
 have ch7 := chg_glue fr3.below c0 d2 (fun n => if n = 1 then 1 else 0)
 rw [← hg6] at ch7
 replace o5 := o5.glue (γ := c0) (ren := (fun n => if n = 1 then 1 else 0)) (k := 1) fr3.col rfl rfl
 rw [← hg6] at o5
 clear hg6
 refine l_val (v := q_v) rfl (e_move rfl) ?_
 replace r_q_v := r_q_v.chg ch7 (not_no _)
 refine l_op rfl ?_
 refine o_callx (e_call (vals := [q_v]) Try.func62 bd62_gw nm62_gw rfl) (D2segments_ok w1 q q_v (r_q_v).ro (by omega) (by omega)) ?_
 rintro ⟨d9, v11⟩ w8 ⟨fr10, o12⟩
 obtain ⟨g13, hg13⟩ : ∃ q, q = glue w1.heap.size g6 d9 (fun n => if n = 1 then 2 else 0) := ⟨_, rfl⟩
 have ch14 := chg_glue fr10.below g6 d9 (fun n => if n = 1 then 2 else 0)
 rw [← hg13] at ch14
 replace o12 := o12.glue (γ := g6) (ren := (fun n => if n = 1 then 2 else 0)) (k := 2) fr10.col rfl rfl
 rw [← hg13] at o12
 clear hg13
 refine l_val (v := v4) rfl (e_assign rfl) ?_
 refine l_val (v := v11) rfl (e_assign rfl) ?_
 refine l_nil (run_seq (run_seq (run_region rfl ?_)))
 refine l_val (v := Value.int .i64 0) rfl (e_assign rfl) ?_
 refine l_nil ?_
 refine run_block ?_
 refine run_loop (σ := Nat × Cmap) (fun ⟨i, gq⟩ f w => Base w0 gq w ∧ f 2 = but_v ∧ f 7 = v4 ∧ f 8 = v11 ∧ f 9 = Value.int .i64 (i : Int) ∧ Sl gq (is 0) w p_v p ∧ Sl gq (is 0) w q_v q ∧ Sl gq (is 0) w but_v but ∧ Ow gq (is 1) (is 1) w v4 (segS p) ∧ Ow gq (is 2) (is 2) w v11 (segS q) ∧ (i : Int) ≤ ((List.length (segS p) : Int) : Int) ∧ (∀ j_ : Nat, j_ < i → ∀ t_ ∈ segS q, ¬ byX but (gI (segS p) (j_ : Int)) t_)) (fun ⟨i, gq⟩ => Int.toNat (((List.length (segS p) : Int) : Int) - (i : Int))) (0, g13) ?_ ?_
 replace hbase := hbase.chg ch7 (not_no _)
 replace hbase := hbase.chg ch14 (not_no _)
 replace r_p_v := (r_p_v.chg ch7 (not_no _)).chg ch14 (not_no _)
 replace r_q_v := r_q_v.chg ch14 (not_no _)
 replace r_but_v := (r_but_v.chg ch7 (not_no _)).chg ch14 (not_no _)
 replace o5 := o5.chg ch14 (not_no _) (not_no _)
 · exact ⟨hbase, rfl, rfl, rfl, rfl, r_p_v, r_q_v, r_but_v, o5, o12, by omega, by intro j hj; omega⟩
 clear r_p_v
 clear r_q_v
 clear r_but_v
 clear o5
 clear o12
 clear hbase
 rintro ⟨i, g17⟩ f15 w16 ⟨hbase, zs2, zs7, zs8, zs9, r_p_v, r_q_v, r_but_v, o5, o12, hle_i, hinv⟩ back3
 refine run_seq (run_seq (run_region rfl ?_))
 refine l_val (v := Value.int .i64 (i : Int)) rfl (e_move (by exact zs9)) ?_
 refine l_val (v := v4) rfl (e_move (by exact zs7)) ?_
 have len18 := (o5.flat).small
 refine l_val (v := Value.int .i64 (List.length (segS p) : Int)) rfl (e_len Try.underlying68 rfl o5.flat) ?_
 refine l_val (v := Value.bool (decide ((i : Int) < (List.length (segS p) : Int)))) rfl (e_lss (m := (i : Int)) (n := (List.length (segS p) : Int)) rfl rfl) ?_
 refine l_nil ?_
 by_cases p3 : (i : Int) < (List.length (segS p) : Int)
 ·
  refine run_cond_t rfl (decide_eq_true p3) ?_
  obtain ⟨hsb1, hsb2⟩ := seg_bd (p := p) (i := i) hp hp0 (by assumption)
  refine run_skip ?_
  refine run_seq ?_
  refine run_block ?_
  refine run_seq (run_region rfl ?_)
  refine l_val (v := Value.int .i64 0) rfl (e_assign rfl) ?_
  refine l_nil ?_
  refine run_block ?_
  refine run_loop (σ := Nat × Cmap) (fun ⟨k, gq⟩ f w => Base w0 gq w ∧ f 2 = but_v ∧ f 7 = v4 ∧ f 8 = v11 ∧ f 9 = Value.int .i64 (i : Int) ∧ f 10 = Value.int .i64 (k : Int) ∧ Sl gq (is 0) w p_v p ∧ Sl gq (is 0) w q_v q ∧ Sl gq (is 0) w but_v but ∧ Ow gq (is 1) (is 1) w v4 (segS p) ∧ Ow gq (is 2) (is 2) w v11 (segS q) ∧ (k : Int) ≤ ((List.length (segS q) : Int) : Int) ∧ (∀ j_ : Nat, j_ < k → ¬ byX but (gI (segS p) (i : Int)) (gI (segS q) (j_ : Int)))) (fun ⟨k, gq⟩ => Int.toNat (((List.length (segS q) : Int) : Int) - (k : Int))) (0, g17) ?_ ?_
  · exact ⟨hbase, (by exact zs2), (by exact zs7), (by exact zs8), (by exact zs9), rfl, r_p_v, r_q_v, r_but_v, o5, o12, by omega, by intro j hj; omega⟩
  clear r_p_v
  clear r_q_v
  clear r_but_v
  clear o5
  clear o12
  clear hbase
  rintro ⟨k, g21⟩ f19 w20 ⟨hbase, zs2, zs7, zs8, zs9, zs10, r_p_v, r_q_v, r_but_v, o5, o12, hle_k, hrow⟩ back6
  refine run_seq (run_seq (run_region rfl ?_))
  refine l_val (v := Value.int .i64 (k : Int)) rfl (e_move (by exact zs10)) ?_
  refine l_val (v := v11) rfl (e_move (by exact zs8)) ?_
  have len22 := (o12.flat).small
  refine l_val (v := Value.int .i64 (List.length (segS q) : Int)) rfl (e_len Try.underlying68 rfl o12.flat) ?_
  refine l_val (v := Value.bool (decide ((k : Int) < (List.length (segS q) : Int)))) rfl (e_lss (m := (k : Int)) (n := (List.length (segS q) : Int)) rfl rfl) ?_
  refine l_nil ?_
  by_cases p6 : (k : Int) < (List.length (segS q) : Int)
  ·
   refine run_cond_t rfl (decide_eq_true p6) ?_
   obtain ⟨htb1, htb2⟩ := seg_bd (p := q) (i := k) hq hq0 (by assumption)
   have hrm := ref_meet hsb1 hsb2 htb1 htb2
   refine run_skip ?_
   refine run_seq ?_
   refine run_block ?_
   refine run_seq ?_
   refine region_q g21 rfl mixed_gw (by kernel_rfl) ?_
   intro w24 ch23
   refine q_val (v := v4) rfl (fun w' hw' => e_move (by exact zs7)) ?_
   refine q_val (v := Value.int .i64 (i : Int)) rfl (fun w' hw' => e_move (by exact zs9)) ?_
   replace o5 := o5.chg ch23 (not_no _) (not_no _)
   refine q_val (v := Value.pointer (some (eAddr v4 4 (Int.toNat (i : Int))))) rfl (fun w' hw' => e_indexAddr (α := ((Int) × (Int)) × ((Int) × (Int))) (xs := segS p) (v := v4) (i := (i : Int)) Try.underlying68 rfl rfl (o5.flat.bel hw') rfl (by omega) (by omega)) ?_
   refine q_val (v := Value.pointer (some ⟨(eAddr v4 4 (Int.toNat (i : Int))).block, (eAddr v4 4 (Int.toNat (i : Int))).off + 0, none⟩)) rfl (fun w' hw' => e_indexAddr_el Try.underlying70 rfl rfl rfl (by decide) (by decide) rfl) ?_
   refine q_val (v := Value.agg (List.toArray [Value.int .i64 (((gI (segS p) (i : Int)).1).1), Value.int .i64 (((gI (segS p) (i : Int)).1).2)])) rfl (fun w' hw' => e_load_elFN (α := ((Int) × (Int)) × ((Int) × (Int))) (xs := segS p) (v := v4) (i := (i : Int)) (q := 0) (ds := [Value.int .i64 (((gI (segS p) (i : Int)).1).1), Value.int .i64 (((gI (segS p) (i : Int)).1).2)]) tp23_gw rfl (o5.flat.bel hw') (by omega) (by omega) rfl (by decide) rfl) ?_
   refine q_val (v := v4) rfl (fun w' hw' => e_move (by exact zs7)) ?_
   refine q_val (v := Value.int .i64 (i : Int)) rfl (fun w' hw' => e_move (by exact zs9)) ?_
   refine q_val (v := Value.pointer (some (eAddr v4 4 (Int.toNat (i : Int))))) rfl (fun w' hw' => e_indexAddr (α := ((Int) × (Int)) × ((Int) × (Int))) (xs := segS p) (v := v4) (i := (i : Int)) Try.underlying68 rfl rfl (o5.flat.bel hw') rfl (by omega) (by omega)) ?_
   refine q_val (v := Value.pointer (some ⟨(eAddr v4 4 (Int.toNat (i : Int))).block, (eAddr v4 4 (Int.toNat (i : Int))).off + 2, none⟩)) rfl (fun w' hw' => e_indexAddr_el Try.underlying70 rfl rfl rfl (by decide) (by decide) rfl) ?_
   refine q_val (v := Value.agg (List.toArray [Value.int .i64 (((gI (segS p) (i : Int)).2).1), Value.int .i64 (((gI (segS p) (i : Int)).2).2)])) rfl (fun w' hw' => e_load_elFN (α := ((Int) × (Int)) × ((Int) × (Int))) (xs := segS p) (v := v4) (i := (i : Int)) (q := 2) (ds := [Value.int .i64 (((gI (segS p) (i : Int)).2).1), Value.int .i64 (((gI (segS p) (i : Int)).2).2)]) tp23_gw rfl (o5.flat.bel hw') (by omega) (by omega) rfl (by decide) rfl) ?_
   refine q_val (v := v11) rfl (fun w' hw' => e_move (by exact zs8)) ?_
   refine q_val (v := Value.int .i64 (k : Int)) rfl (fun w' hw' => e_move (by exact zs10)) ?_
   replace o12 := o12.chg ch23 (not_no _) (not_no _)
   refine q_val (v := Value.pointer (some (eAddr v11 4 (Int.toNat (k : Int))))) rfl (fun w' hw' => e_indexAddr (α := ((Int) × (Int)) × ((Int) × (Int))) (xs := segS q) (v := v11) (i := (k : Int)) Try.underlying68 rfl rfl (o12.flat.bel hw') rfl (by omega) (by omega)) ?_
   refine q_val (v := Value.pointer (some ⟨(eAddr v11 4 (Int.toNat (k : Int))).block, (eAddr v11 4 (Int.toNat (k : Int))).off + 0, none⟩)) rfl (fun w' hw' => e_indexAddr_el Try.underlying70 rfl rfl rfl (by decide) (by decide) rfl) ?_
   refine q_val (v := Value.agg (List.toArray [Value.int .i64 (((gI (segS q) (k : Int)).1).1), Value.int .i64 (((gI (segS q) (k : Int)).1).2)])) rfl (fun w' hw' => e_load_elFN (α := ((Int) × (Int)) × ((Int) × (Int))) (xs := segS q) (v := v11) (i := (k : Int)) (q := 0) (ds := [Value.int .i64 (((gI (segS q) (k : Int)).1).1), Value.int .i64 (((gI (segS q) (k : Int)).1).2)]) tp23_gw rfl (o12.flat.bel hw') (by omega) (by omega) rfl (by decide) rfl) ?_
   refine q_val (v := v11) rfl (fun w' hw' => e_move (by exact zs8)) ?_
   refine q_val (v := Value.int .i64 (k : Int)) rfl (fun w' hw' => e_move (by exact zs10)) ?_
   refine q_val (v := Value.pointer (some (eAddr v11 4 (Int.toNat (k : Int))))) rfl (fun w' hw' => e_indexAddr (α := ((Int) × (Int)) × ((Int) × (Int))) (xs := segS q) (v := v11) (i := (k : Int)) Try.underlying68 rfl rfl (o12.flat.bel hw') rfl (by omega) (by omega)) ?_
   refine q_val (v := Value.pointer (some ⟨(eAddr v11 4 (Int.toNat (k : Int))).block, (eAddr v11 4 (Int.toNat (k : Int))).off + 2, none⟩)) rfl (fun w' hw' => e_indexAddr_el Try.underlying70 rfl rfl rfl (by decide) (by decide) rfl) ?_
   refine q_val (v := Value.agg (List.toArray [Value.int .i64 (((gI (segS q) (k : Int)).2).1), Value.int .i64 (((gI (segS q) (k : Int)).2).2)])) rfl (fun w' hw' => e_load_elFN (α := ((Int) × (Int)) × ((Int) × (Int))) (xs := segS q) (v := v11) (i := (k : Int)) (q := 2) (ds := [Value.int .i64 (((gI (segS q) (k : Int)).2).1), Value.int .i64 (((gI (segS q) (k : Int)).2).2)]) tp23_gw rfl (o12.flat.bel hw') (by omega) (by omega) rfl (by decide) rfl) ?_
   refine q_call (v := Value.int .i64 (refM ((gI (segS p) (i : Int)).1) ((gI (segS p) (i : Int)).2) ((gI (segS q) (k : Int)).1) ((gI (segS q) (k : Int)).2))) rfl (fun w' hw' => e_call (vals := [Value.agg (List.toArray [Value.int .i64 (((gI (segS p) (i : Int)).1).1), Value.int .i64 (((gI (segS p) (i : Int)).1).2)]), Value.agg (List.toArray [Value.int .i64 (((gI (segS p) (i : Int)).2).1), Value.int .i64 (((gI (segS p) (i : Int)).2).2)]), Value.agg (List.toArray [Value.int .i64 (((gI (segS q) (k : Int)).1).1), Value.int .i64 (((gI (segS q) (k : Int)).1).2)]), Value.agg (List.toArray [Value.int .i64 (((gI (segS q) (k : Int)).2).1), Value.int .i64 (((gI (segS q) (k : Int)).2).2)])]) Try.func23 bd23_gw nm23_gw rfl) (fun w' hw' => (D2Meet_ok w' ((gI (segS p) (i : Int)).1) ((gI (segS p) (i : Int)).2) ((gI (segS q) (k : Int)).1) ((gI (segS q) (k : Int)).2) (by assumption) (by assumption) (by assumption) (by assumption)).mono fun e w2 h2 => ⟨h2.1, hw'.trans (h2.2.mono hw'.size)⟩) ?_
   refine q_val (v := Value.int .i64 (refM ((gI (segS p) (i : Int)).1) ((gI (segS p) (i : Int)).2) ((gI (segS q) (k : Int)).1) ((gI (segS q) (k : Int)).2))) rfl (fun w' hw' => e_assign rfl) ?_
   refine q_nil ?_
   intro w25 hc26
   replace hc26 := chg_below hc26 g21
   refine run_seq (run_seq (run_region rfl ?_))
   refine l_val (v := Value.int .i64 (refM ((gI (segS p) (i : Int)).1) ((gI (segS p) (i : Int)).2) ((gI (segS q) (k : Int)).1) ((gI (segS q) (k : Int)).2))) rfl (e_move rfl) ?_
   refine l_val (v := Value.bool (decide ((refM ((gI (segS p) (i : Int)).1) ((gI (segS p) (i : Int)).2) ((gI (segS q) (k : Int)).1) ((gI (segS q) (k : Int)).2)) = 3))) rfl (e_eql (m := refM ((gI (segS p) (i : Int)).1) ((gI (segS p) (i : Int)).2) ((gI (segS q) (k : Int)).1) ((gI (segS q) (k : Int)).2)) (n := 3) rfl rfl) ?_
   refine l_nil ?_
   by_cases p9 : (refM ((gI (segS p) (i : Int)).1) ((gI (segS p) (i : Int)).2) ((gI (segS q) (k : Int)).1) ((gI (segS q) (k : Int)).2)) = 3
   ·
    refine run_cond_t rfl (decide_eq_true p9) ?_
    refine run_seq ?_
    clear o5
    clear o12
    refine run_region rfl ?_
    refine l_val (v := Value.bool true) rfl (e_assign rfl) ?_
    refine l_nil ?_
    refine run_ret (vs := [Value.bool true]) Try.func54 (.tmp rfl .nil) ?_
    -- return 0
    have e0 : (true : Bool) = (decide (beyP p q but)) := by
      first
        | exact bey_no hinv (by assumption)
        | exact bey_yes (i := i) (k := k) (by assumption) (by assumption) (by first | exact bx3 (by rw [← hrm]; assumption) | exact bx1 (by rw [← hrm]; assumption) (by assumption) hone.2 hone.1 (by assumption) | exact bx2 (by rw [← hrm]; assumption) (by rw [← hrm]; assumption) (by assumption) (by assumption) (by assumption) (by assumption))
    replace hbase := hbase.chg ch23 (not_no _)
    replace hbase := hbase.chg hc26 (not_no _)
    exact ⟨(congrArg (a₁ := true) (fun (z0 : Bool) => Ending.returned (Value.bool z0)) e0), hbase.below⟩
   refine run_cond_f rfl (decide_eq_false p9) ?_
   refine run_skip ?_
   refine run_seq (run_seq (run_region rfl ?_))
   refine l_val (v := Value.int .i64 (refM ((gI (segS p) (i : Int)).1) ((gI (segS p) (i : Int)).2) ((gI (segS q) (k : Int)).1) ((gI (segS q) (k : Int)).2))) rfl (e_move rfl) ?_
   refine l_val (v := Value.bool (decide ((refM ((gI (segS p) (i : Int)).1) ((gI (segS p) (i : Int)).2) ((gI (segS q) (k : Int)).1) ((gI (segS q) (k : Int)).2)) = 0))) rfl (e_eql (m := refM ((gI (segS p) (i : Int)).1) ((gI (segS p) (i : Int)).2) ((gI (segS q) (k : Int)).1) ((gI (segS q) (k : Int)).2)) (n := 0) rfl rfl) ?_
   refine l_nil ?_
   by_cases p11 : (refM ((gI (segS p) (i : Int)).1) ((gI (segS p) (i : Int)).2) ((gI (segS q) (k : Int)).1) ((gI (segS q) (k : Int)).2)) = 0
   ·
    refine run_cond_t rfl (decide_eq_true p11) ?_
    refine run_exit rfl ?_
    refine run_region rfl ?_
    refine l_val (v := Value.int .i64 (k : Int)) rfl (e_move (by exact zs10)) ?_
    refine l_val (v := Value.int .i64 ((k : Int) + 1)) rfl (e_add (m := (k : Int)) (n := 1) rfl rfl (by omega)) ?_
    refine l_val (v := Value.int .i64 ((k : Int) + 1)) rfl (e_assign rfl) ?_
    refine l_nil ?_
    replace hbase := hbase.chg ch23 (not_no _)
    replace hbase := hbase.chg hc26 (not_no _)
    replace r_p_v := (r_p_v.chg ch23 (not_no _)).chg hc26 (not_no _)
    replace r_q_v := (r_q_v.chg ch23 (not_no _)).chg hc26 (not_no _)
    replace r_but_v := (r_but_v.chg ch23 (not_no _)).chg hc26 (not_no _)
    replace o5 := o5.chg hc26 (not_no _) (not_no _)
    replace o12 := o12.chg hc26 (not_no _) (not_no _)
    refine back6 (k + 1, g21) _ _ ⟨hbase, (by exact zs2), (by exact zs7), (by exact zs8), (by exact zs9), rfl, r_p_v, r_q_v, r_but_v, o5, o12, by omega, ?_⟩ ?_
    · show ∀ j_ : Nat, j_ < (k + 1) → ¬ byX but (gI (segS p) (i : Int)) (gI (segS q) (j_ : Int))
      intro j hj
      by_cases e0 : j = k
      · subst e0
        first
          | exact bx0 (by rw [← hrm]; assumption)
          | exact bx1' (by rw [← hrm]; assumption) (by assumption) hone.2 hone.1 (by assumption)
          | exact bx2' (by rw [← hrm]; assumption) (by rw [← hrm]; assumption) (by omega) hge
      · exact hrow j (by omega)
    · show Int.toNat (((List.length (segS q) : Int) : Int) - ((k + 1) : Int)) < Int.toNat (((List.length (segS q) : Int) : Int) - (k : Int))
      omega
   refine run_cond_f rfl (decide_eq_false p11) ?_
   refine run_skip ?_
   refine run_seq (run_seq (run_region rfl ?_))
   refine l_val (v := Value.int .i64 (refM ((gI (segS p) (i : Int)).1) ((gI (segS p) (i : Int)).2) ((gI (segS q) (k : Int)).1) ((gI (segS q) (k : Int)).2))) rfl (e_move rfl) ?_
   refine l_val (v := Value.bool (decide ((refM ((gI (segS p) (i : Int)).1) ((gI (segS p) (i : Int)).2) ((gI (segS q) (k : Int)).1) ((gI (segS q) (k : Int)).2)) = 1))) rfl (e_eql (m := refM ((gI (segS p) (i : Int)).1) ((gI (segS p) (i : Int)).2) ((gI (segS q) (k : Int)).1) ((gI (segS q) (k : Int)).2)) (n := 1) rfl rfl) ?_
   refine l_nil ?_
   by_cases p12 : (refM ((gI (segS p) (i : Int)).1) ((gI (segS p) (i : Int)).2) ((gI (segS q) (k : Int)).1) ((gI (segS q) (k : Int)).2)) = 1
   ·
    refine run_cond_t rfl (decide_eq_true p12) ?_
    refine run_seq (run_region rfl ?_)
    refine l_val (v := Value.bool false) rfl (e_assign rfl) ?_
    refine l_nil (run_seq (run_seq (run_region rfl ?_)))
    refine l_val (v := Value.int .i64 0) rfl (e_assign rfl) ?_
    refine l_nil ?_
    refine run_block ?_
    refine run_loop (σ := Bool × Nat × Cmap) (fun ⟨one, j, gq⟩ f w => Base w0 gq w ∧ f 2 = but_v ∧ f 7 = v4 ∧ f 8 = v11 ∧ f 9 = Value.int .i64 (i : Int) ∧ f 10 = Value.int .i64 (k : Int) ∧ f 12 = Value.bool one ∧ f 13 = Value.int .i64 (j : Int) ∧ Sl gq (is 0) w p_v p ∧ Sl gq (is 0) w q_v q ∧ Sl gq (is 0) w but_v but ∧ Ow gq (is 1) (is 1) w v4 (segS p) ∧ Ow gq (is 2) (is 2) w v11 (segS q) ∧ (j : Int) ≤ ((List.length but : Int) : Int) ∧ (one = oneK (gI (segS p) (i : Int)) (gI (segS q) (k : Int)) but j ∧ j ≤ but.length)) (fun ⟨one, j, gq⟩ => Int.toNat (((List.length but : Int) : Int) - (j : Int))) (false, 0, g21) ?_ ?_
    replace hbase := hbase.chg ch23 (not_no _)
    replace hbase := hbase.chg hc26 (not_no _)
    replace r_p_v := (r_p_v.chg ch23 (not_no _)).chg hc26 (not_no _)
    replace r_q_v := (r_q_v.chg ch23 (not_no _)).chg hc26 (not_no _)
    replace r_but_v := (r_but_v.chg ch23 (not_no _)).chg hc26 (not_no _)
    replace o5 := o5.chg hc26 (not_no _) (not_no _)
    replace o12 := o12.chg hc26 (not_no _) (not_no _)
    · exact ⟨hbase, (by exact zs2), (by exact zs7), (by exact zs8), (by exact zs9), (by exact zs10), rfl, rfl, r_p_v, r_q_v, r_but_v, o5, o12, by omega, by exact ⟨rfl, by omega⟩⟩
    clear r_p_v
    clear r_q_v
    clear r_but_v
    clear o5
    clear o12
    clear hbase
    rintro ⟨one, j, g29⟩ f27 w28 ⟨hbase, zs2, zs7, zs8, zs9, zs10, zs12, zs13, r_p_v, r_q_v, r_but_v, o5, o12, hle_j, hone⟩ back15
    refine run_seq (run_seq (run_region rfl ?_))
    refine l_val (v := Value.int .i64 (j : Int)) rfl (e_move (by exact zs13)) ?_
    refine l_val (v := but_v) rfl (e_move (by exact zs2)) ?_
    have len30 := (r_but_v).small
    refine l_val (v := Value.int .i64 (List.length but : Int)) rfl (e_len Try.underlying25 rfl r_but_v) ?_
    refine l_val (v := Value.bool (decide ((j : Int) < (List.length but : Int)))) rfl (e_lss (m := (j : Int)) (n := (List.length but : Int)) rfl rfl) ?_
    refine l_nil ?_
    by_cases p15 : (j : Int) < (List.length but : Int)
    ·
     refine run_cond_t rfl (decide_eq_true p15) ?_
     have hbx := hbut _ (gI_mem (xs := but) (i := (j : Int)) (by omega) (by assumption))
     refine run_skip ?_
     refine run_seq ?_
     refine run_block ?_
     refine region_q g29 rfl mixed_gw (by kernel_rfl) ?_
     intro w32 ch31
     refine q_val (v := Value.bool one) rfl (fun w' hw' => e_move (by exact zs12)) ?_
     refine q_val (v := Value.bool one) rfl (fun w' hw' => e_move rfl) ?_
     by_cases q66 : one = true
     ·
      refine q_skip (want_n rfl rfl rfl q66) ?_
      refine q_skip (want_n rfl rfl rfl q66) ?_
      refine q_skip (want_n rfl rfl rfl q66) ?_
      refine q_skip (want_n rfl rfl rfl q66) ?_
      refine q_skip (want_n rfl rfl rfl q66) ?_
      refine q_skip (want_n rfl rfl rfl q66) ?_
      refine q_skip (want_n rfl rfl rfl q66) ?_
      refine q_skip (want_n rfl rfl rfl q66) ?_
      refine q_skip (want_n rfl rfl rfl q66) ?_
      refine q_skip (want_n rfl rfl rfl q66) ?_
      refine q_skip (want_n rfl rfl rfl q66) ?_
      refine q_skip (want_n rfl rfl rfl q66) ?_
      refine q_skip (want_n rfl rfl rfl q66) ?_
      refine q_skip (want_n rfl rfl rfl q66) ?_
      refine q_skip (want_n rfl rfl rfl q66) ?_
      refine q_skip (want_n rfl rfl rfl q66) ?_
      refine q_skip (want_u rfl rfl rfl) ?_
      refine q_skip (want_u rfl rfl rfl) ?_
      refine q_skip (want_u rfl rfl rfl) ?_
      refine q_skip (want_u rfl rfl rfl) ?_
      refine q_skip (want_u rfl rfl rfl) ?_
      refine q_skip (want_u rfl rfl rfl) ?_
      refine q_skip (want_u rfl rfl rfl) ?_
      refine q_skip (want_u rfl rfl rfl) ?_
      refine q_skip (want_u rfl rfl rfl) ?_
      refine q_skip (want_u rfl rfl rfl) ?_
      refine q_skip (want_u rfl rfl rfl) ?_
      refine q_skip (want_u rfl rfl rfl) ?_
      refine q_skip (want_u rfl rfl rfl) ?_
      refine q_skip (want_u rfl rfl rfl) ?_
      refine q_skip (want_u rfl rfl rfl) ?_
      refine q_skip (want_n rfl rfl rfl q66) ?_
      refine q_val (v := Value.bool true) rfl (fun w' hw' => e_pick_t rfl q66 rfl) ?_
      refine q_val (v := Value.bool true) rfl (fun w' hw' => e_assign rfl) ?_
      refine q_nil ?_
      intro w33 hc34
      replace hc34 := chg_below hc34 g29
      refine run_inBlock ?_
      refine run_region rfl ?_
      refine l_val (v := Value.int .i64 (j : Int)) rfl (e_move (by exact zs13)) ?_
      refine l_val (v := Value.int .i64 ((j : Int) + 1)) rfl (e_add (m := (j : Int)) (n := 1) rfl rfl (by omega)) ?_
      refine l_val (v := Value.int .i64 ((j : Int) + 1)) rfl (e_assign rfl) ?_
      refine l_nil ?_
      replace hbase := hbase.chg ch31 (not_no _)
      replace hbase := hbase.chg hc34 (not_no _)
      replace r_p_v := (r_p_v.chg ch31 (not_no _)).chg hc34 (not_no _)
      replace r_q_v := (r_q_v.chg ch31 (not_no _)).chg hc34 (not_no _)
      replace r_but_v := (r_but_v.chg ch31 (not_no _)).chg hc34 (not_no _)
      replace o5 := (o5.chg ch31 (not_no _) (not_no _)).chg hc34 (not_no _) (not_no _)
      replace o12 := (o12.chg ch31 (not_no _) (not_no _)).chg hc34 (not_no _) (not_no _)
      refine back15 (true, j + 1, g29) _ _ ⟨hbase, (by exact zs2), (by exact zs7), (by exact zs8), (by exact zs9), (by exact zs10), rfl, rfl, r_p_v, r_q_v, r_but_v, o5, o12, by omega, ?_⟩ ?_
      · show true = oneK (gI (segS p) (i : Int)) (gI (segS q) (k : Int)) but (j + 1) ∧ (j + 1) ≤ but.length
        refine ⟨?_, by omega⟩
        first
          | exact one_t hone.1 (by assumption)
          | exact one_2 hone.1 (by assumption) (by assumption)
          | exact one_f hone.1 (by assumption) (by assumption)
      · show Int.toNat (((List.length but : Int) : Int) - ((j + 1) : Int)) < Int.toNat (((List.length but : Int) : Int) - (j : Int))
        omega
     refine q_val (v := v4) (want_y rfl rfl rfl (Bool.eq_false_iff.2 q66)) (fun w' hw' => e_move (by exact zs7)) ?_
     refine q_val (v := Value.int .i64 (i : Int)) (want_y rfl rfl rfl (Bool.eq_false_iff.2 q66)) (fun w' hw' => e_move (by exact zs9)) ?_
     replace o5 := o5.chg ch31 (not_no _) (not_no _)
     refine q_val (v := Value.pointer (some (eAddr v4 4 (Int.toNat (i : Int))))) (want_y rfl rfl rfl (Bool.eq_false_iff.2 q66)) (fun w' hw' => e_indexAddr (α := ((Int) × (Int)) × ((Int) × (Int))) (xs := segS p) (v := v4) (i := (i : Int)) Try.underlying68 rfl rfl (o5.flat.bel hw') rfl (by omega) (by omega)) ?_
     refine q_val (v := Value.pointer (some ⟨(eAddr v4 4 (Int.toNat (i : Int))).block, (eAddr v4 4 (Int.toNat (i : Int))).off + 0, none⟩)) (want_y rfl rfl rfl (Bool.eq_false_iff.2 q66)) (fun w' hw' => e_indexAddr_el Try.underlying70 rfl rfl rfl (by decide) (by decide) rfl) ?_
     refine q_val (v := Value.agg (List.toArray [Value.int .i64 (((gI (segS p) (i : Int)).1).1), Value.int .i64 (((gI (segS p) (i : Int)).1).2)])) (want_y rfl rfl rfl (Bool.eq_false_iff.2 q66)) (fun w' hw' => e_load_elFN (α := ((Int) × (Int)) × ((Int) × (Int))) (xs := segS p) (v := v4) (i := (i : Int)) (q := 0) (ds := [Value.int .i64 (((gI (segS p) (i : Int)).1).1), Value.int .i64 (((gI (segS p) (i : Int)).1).2)]) tp23_gw rfl (o5.flat.bel hw') (by omega) (by omega) rfl (by decide) rfl) ?_
     refine q_val (v := v4) (want_y rfl rfl rfl (Bool.eq_false_iff.2 q66)) (fun w' hw' => e_move (by exact zs7)) ?_
     refine q_val (v := Value.int .i64 (i : Int)) (want_y rfl rfl rfl (Bool.eq_false_iff.2 q66)) (fun w' hw' => e_move (by exact zs9)) ?_
     refine q_val (v := Value.pointer (some (eAddr v4 4 (Int.toNat (i : Int))))) (want_y rfl rfl rfl (Bool.eq_false_iff.2 q66)) (fun w' hw' => e_indexAddr (α := ((Int) × (Int)) × ((Int) × (Int))) (xs := segS p) (v := v4) (i := (i : Int)) Try.underlying68 rfl rfl (o5.flat.bel hw') rfl (by omega) (by omega)) ?_
     refine q_val (v := Value.pointer (some ⟨(eAddr v4 4 (Int.toNat (i : Int))).block, (eAddr v4 4 (Int.toNat (i : Int))).off + 2, none⟩)) (want_y rfl rfl rfl (Bool.eq_false_iff.2 q66)) (fun w' hw' => e_indexAddr_el Try.underlying70 rfl rfl rfl (by decide) (by decide) rfl) ?_
     refine q_val (v := Value.agg (List.toArray [Value.int .i64 (((gI (segS p) (i : Int)).2).1), Value.int .i64 (((gI (segS p) (i : Int)).2).2)])) (want_y rfl rfl rfl (Bool.eq_false_iff.2 q66)) (fun w' hw' => e_load_elFN (α := ((Int) × (Int)) × ((Int) × (Int))) (xs := segS p) (v := v4) (i := (i : Int)) (q := 2) (ds := [Value.int .i64 (((gI (segS p) (i : Int)).2).1), Value.int .i64 (((gI (segS p) (i : Int)).2).2)]) tp23_gw rfl (o5.flat.bel hw') (by omega) (by omega) rfl (by decide) rfl) ?_
     refine q_val (v := but_v) (want_y rfl rfl rfl (Bool.eq_false_iff.2 q66)) (fun w' hw' => e_move (by exact zs2)) ?_
     refine q_val (v := Value.int .i64 (j : Int)) (want_y rfl rfl rfl (Bool.eq_false_iff.2 q66)) (fun w' hw' => e_move (by exact zs13)) ?_
     replace r_but_v := r_but_v.chg ch31 (not_no _)
     refine q_val (v := Value.pointer (some (eAddr but_v 2 (Int.toNat (j : Int))))) (want_y rfl rfl rfl (Bool.eq_false_iff.2 q66)) (fun w' hw' => e_indexAddr (α := (Int) × (Int)) (xs := but) (v := but_v) (i := (j : Int)) Try.underlying25 rfl rfl (r_but_v.bel hw') rfl (by omega) (by omega)) ?_
     refine q_val (v := Value.agg (List.toArray [Value.int .i64 ((gI but (j : Int)).1), Value.int .i64 ((gI but (j : Int)).2)])) (want_y rfl rfl rfl (Bool.eq_false_iff.2 q66)) (fun w' hw' => e_load_elN (α := (Int) × (Int)) (xs := but) (v := but_v) (i := (j : Int)) tp23_gw rfl (r_but_v.bel hw') (by omega) (by omega) rfl) ?_
     refine q_call (v := Value.bool (decide (onP ((gI (segS p) (i : Int)).1) ((gI (segS p) (i : Int)).2) (gI but (j : Int))))) (want_y rfl rfl rfl (Bool.eq_false_iff.2 q66)) (fun w' hw' => e_call (vals := [Value.agg (List.toArray [Value.int .i64 (((gI (segS p) (i : Int)).1).1), Value.int .i64 (((gI (segS p) (i : Int)).1).2)]), Value.agg (List.toArray [Value.int .i64 (((gI (segS p) (i : Int)).2).1), Value.int .i64 (((gI (segS p) (i : Int)).2).2)]), Value.agg (List.toArray [Value.int .i64 ((gI but (j : Int)).1), Value.int .i64 ((gI but (j : Int)).2)])]) Try.func27 bd27_gw nm27_gw rfl) (fun w' hw' => (D2On_ok w' ((gI (segS p) (i : Int)).1) ((gI (segS p) (i : Int)).2) (gI but (j : Int)) (by assumption) (by assumption) (by assumption)).mono fun e w2 h2 => ⟨h2.1, hw'.trans (h2.2.mono hw'.size)⟩) ?_
     refine q_val (v := Value.bool (decide (onP ((gI (segS p) (i : Int)).1) ((gI (segS p) (i : Int)).2) (gI but (j : Int))))) (want_y rfl rfl rfl (Bool.eq_false_iff.2 q66)) (fun w' hw' => e_move rfl) ?_
     by_cases q82 : (decide (onP ((gI (segS p) (i : Int)).1) ((gI (segS p) (i : Int)).2) (gI but (j : Int)))) = true
     ·
      refine q_val (v := v11) (want_y rfl rfl rfl q82) (fun w' hw' => e_move (by exact zs8)) ?_
      refine q_val (v := Value.int .i64 (k : Int)) (want_y rfl rfl rfl q82) (fun w' hw' => e_move (by exact zs10)) ?_
      replace o12 := o12.chg ch31 (not_no _) (not_no _)
      refine q_val (v := Value.pointer (some (eAddr v11 4 (Int.toNat (k : Int))))) (want_y rfl rfl rfl q82) (fun w' hw' => e_indexAddr (α := ((Int) × (Int)) × ((Int) × (Int))) (xs := segS q) (v := v11) (i := (k : Int)) Try.underlying68 rfl rfl (o12.flat.bel hw') rfl (by omega) (by omega)) ?_
      refine q_val (v := Value.pointer (some ⟨(eAddr v11 4 (Int.toNat (k : Int))).block, (eAddr v11 4 (Int.toNat (k : Int))).off + 0, none⟩)) (want_y rfl rfl rfl q82) (fun w' hw' => e_indexAddr_el Try.underlying70 rfl rfl rfl (by decide) (by decide) rfl) ?_
      refine q_val (v := Value.agg (List.toArray [Value.int .i64 (((gI (segS q) (k : Int)).1).1), Value.int .i64 (((gI (segS q) (k : Int)).1).2)])) (want_y rfl rfl rfl q82) (fun w' hw' => e_load_elFN (α := ((Int) × (Int)) × ((Int) × (Int))) (xs := segS q) (v := v11) (i := (k : Int)) (q := 0) (ds := [Value.int .i64 (((gI (segS q) (k : Int)).1).1), Value.int .i64 (((gI (segS q) (k : Int)).1).2)]) tp23_gw rfl (o12.flat.bel hw') (by omega) (by omega) rfl (by decide) rfl) ?_
      refine q_val (v := v11) (want_y rfl rfl rfl q82) (fun w' hw' => e_move (by exact zs8)) ?_
      refine q_val (v := Value.int .i64 (k : Int)) (want_y rfl rfl rfl q82) (fun w' hw' => e_move (by exact zs10)) ?_
      refine q_val (v := Value.pointer (some (eAddr v11 4 (Int.toNat (k : Int))))) (want_y rfl rfl rfl q82) (fun w' hw' => e_indexAddr (α := ((Int) × (Int)) × ((Int) × (Int))) (xs := segS q) (v := v11) (i := (k : Int)) Try.underlying68 rfl rfl (o12.flat.bel hw') rfl (by omega) (by omega)) ?_
      refine q_val (v := Value.pointer (some ⟨(eAddr v11 4 (Int.toNat (k : Int))).block, (eAddr v11 4 (Int.toNat (k : Int))).off + 2, none⟩)) (want_y rfl rfl rfl q82) (fun w' hw' => e_indexAddr_el Try.underlying70 rfl rfl rfl (by decide) (by decide) rfl) ?_
      refine q_val (v := Value.agg (List.toArray [Value.int .i64 (((gI (segS q) (k : Int)).2).1), Value.int .i64 (((gI (segS q) (k : Int)).2).2)])) (want_y rfl rfl rfl q82) (fun w' hw' => e_load_elFN (α := ((Int) × (Int)) × ((Int) × (Int))) (xs := segS q) (v := v11) (i := (k : Int)) (q := 2) (ds := [Value.int .i64 (((gI (segS q) (k : Int)).2).1), Value.int .i64 (((gI (segS q) (k : Int)).2).2)]) tp23_gw rfl (o12.flat.bel hw') (by omega) (by omega) rfl (by decide) rfl) ?_
      refine q_val (v := but_v) (want_y rfl rfl rfl q82) (fun w' hw' => e_move (by exact zs2)) ?_
      refine q_val (v := Value.int .i64 (j : Int)) (want_y rfl rfl rfl q82) (fun w' hw' => e_move (by exact zs13)) ?_
      refine q_val (v := Value.pointer (some (eAddr but_v 2 (Int.toNat (j : Int))))) (want_y rfl rfl rfl q82) (fun w' hw' => e_indexAddr (α := (Int) × (Int)) (xs := but) (v := but_v) (i := (j : Int)) Try.underlying25 rfl rfl (r_but_v.bel hw') rfl (by omega) (by omega)) ?_
      refine q_val (v := Value.agg (List.toArray [Value.int .i64 ((gI but (j : Int)).1), Value.int .i64 ((gI but (j : Int)).2)])) (want_y rfl rfl rfl q82) (fun w' hw' => e_load_elN (α := (Int) × (Int)) (xs := but) (v := but_v) (i := (j : Int)) tp23_gw rfl (r_but_v.bel hw') (by omega) (by omega) rfl) ?_
      refine q_call (v := Value.bool (decide (onP ((gI (segS q) (k : Int)).1) ((gI (segS q) (k : Int)).2) (gI but (j : Int))))) (want_y rfl rfl rfl q82) (fun w' hw' => e_call (vals := [Value.agg (List.toArray [Value.int .i64 (((gI (segS q) (k : Int)).1).1), Value.int .i64 (((gI (segS q) (k : Int)).1).2)]), Value.agg (List.toArray [Value.int .i64 (((gI (segS q) (k : Int)).2).1), Value.int .i64 (((gI (segS q) (k : Int)).2).2)]), Value.agg (List.toArray [Value.int .i64 ((gI but (j : Int)).1), Value.int .i64 ((gI but (j : Int)).2)])]) Try.func27 bd27_gw nm27_gw rfl) (fun w' hw' => (D2On_ok w' ((gI (segS q) (k : Int)).1) ((gI (segS q) (k : Int)).2) (gI but (j : Int)) (by assumption) (by assumption) (by assumption)).mono fun e w2 h2 => ⟨h2.1, hw'.trans (h2.2.mono hw'.size)⟩) ?_
      refine q_val (v := Value.bool (decide (onP ((gI (segS q) (k : Int)).1) ((gI (segS q) (k : Int)).2) (gI but (j : Int))))) (want_y rfl rfl rfl (Bool.eq_false_iff.2 q66)) (fun w' hw' => e_pick_t rfl q82 rfl) ?_
      refine q_val (v := Value.bool (decide (onP ((gI (segS q) (k : Int)).1) ((gI (segS q) (k : Int)).2) (gI but (j : Int))))) rfl (fun w' hw' => e_pick_f rfl (Bool.eq_false_iff.2 q66) rfl) ?_
      refine q_val (v := Value.bool (decide (onP ((gI (segS q) (k : Int)).1) ((gI (segS q) (k : Int)).2) (gI but (j : Int))))) rfl (fun w' hw' => e_assign rfl) ?_
      refine q_nil ?_
      intro w35 hc36
      replace hc36 := chg_below hc36 g29
      refine run_inBlock ?_
      refine run_region rfl ?_
      refine l_val (v := Value.int .i64 (j : Int)) rfl (e_move (by exact zs13)) ?_
      refine l_val (v := Value.int .i64 ((j : Int) + 1)) rfl (e_add (m := (j : Int)) (n := 1) rfl rfl (by omega)) ?_
      refine l_val (v := Value.int .i64 ((j : Int) + 1)) rfl (e_assign rfl) ?_
      refine l_nil ?_
      replace hbase := hbase.chg ch31 (not_no _)
      replace hbase := hbase.chg hc36 (not_no _)
      replace r_p_v := (r_p_v.chg ch31 (not_no _)).chg hc36 (not_no _)
      replace r_q_v := (r_q_v.chg ch31 (not_no _)).chg hc36 (not_no _)
      replace r_but_v := r_but_v.chg hc36 (not_no _)
      replace o5 := o5.chg hc36 (not_no _) (not_no _)
      replace o12 := o12.chg hc36 (not_no _) (not_no _)
      refine back15 ((decide (onP ((gI (segS q) (k : Int)).1) ((gI (segS q) (k : Int)).2) (gI but (j : Int)))), j + 1, g29) _ _ ⟨hbase, (by exact zs2), (by exact zs7), (by exact zs8), (by exact zs9), (by exact zs10), rfl, rfl, r_p_v, r_q_v, r_but_v, o5, o12, by omega, ?_⟩ ?_
      · show (decide (onP ((gI (segS q) (k : Int)).1) ((gI (segS q) (k : Int)).2) (gI but (j : Int)))) = oneK (gI (segS p) (i : Int)) (gI (segS q) (k : Int)) but (j + 1) ∧ (j + 1) ≤ but.length
        refine ⟨?_, by omega⟩
        first
          | exact one_t hone.1 (by assumption)
          | exact one_2 hone.1 (by assumption) (by assumption)
          | exact one_f hone.1 (by assumption) (by assumption)
      · show Int.toNat (((List.length but : Int) : Int) - ((j + 1) : Int)) < Int.toNat (((List.length but : Int) : Int) - (j : Int))
        omega
     refine q_skip (want_n rfl rfl rfl (Bool.eq_false_iff.2 q82)) ?_
     refine q_skip (want_n rfl rfl rfl (Bool.eq_false_iff.2 q82)) ?_
     refine q_skip (want_n rfl rfl rfl (Bool.eq_false_iff.2 q82)) ?_
     refine q_skip (want_n rfl rfl rfl (Bool.eq_false_iff.2 q82)) ?_
     refine q_skip (want_n rfl rfl rfl (Bool.eq_false_iff.2 q82)) ?_
     refine q_skip (want_n rfl rfl rfl (Bool.eq_false_iff.2 q82)) ?_
     refine q_skip (want_n rfl rfl rfl (Bool.eq_false_iff.2 q82)) ?_
     refine q_skip (want_n rfl rfl rfl (Bool.eq_false_iff.2 q82)) ?_
     refine q_skip (want_n rfl rfl rfl (Bool.eq_false_iff.2 q82)) ?_
     refine q_skip (want_n rfl rfl rfl (Bool.eq_false_iff.2 q82)) ?_
     refine q_skip (want_n rfl rfl rfl (Bool.eq_false_iff.2 q82)) ?_
     refine q_skip (want_n rfl rfl rfl (Bool.eq_false_iff.2 q82)) ?_
     refine q_skip (want_n rfl rfl rfl (Bool.eq_false_iff.2 q82)) ?_
     refine q_skip (want_n rfl rfl rfl (Bool.eq_false_iff.2 q82)) ?_
     refine q_skip (want_n rfl rfl rfl (Bool.eq_false_iff.2 q82)) ?_
     refine q_val (v := Value.bool false) (want_y rfl rfl rfl (Bool.eq_false_iff.2 q66)) (fun w' hw' => e_pick_f rfl (Bool.eq_false_iff.2 q82) rfl) ?_
     refine q_val (v := Value.bool false) rfl (fun w' hw' => e_pick_f rfl (Bool.eq_false_iff.2 q66) rfl) ?_
     refine q_val (v := Value.bool false) rfl (fun w' hw' => e_assign rfl) ?_
     refine q_nil ?_
     intro w37 hc38
     replace hc38 := chg_below hc38 g29
     refine run_inBlock ?_
     refine run_region rfl ?_
     refine l_val (v := Value.int .i64 (j : Int)) rfl (e_move (by exact zs13)) ?_
     refine l_val (v := Value.int .i64 ((j : Int) + 1)) rfl (e_add (m := (j : Int)) (n := 1) rfl rfl (by omega)) ?_
     refine l_val (v := Value.int .i64 ((j : Int) + 1)) rfl (e_assign rfl) ?_
     refine l_nil ?_
     replace hbase := hbase.chg ch31 (not_no _)
     replace hbase := hbase.chg hc38 (not_no _)
     replace r_p_v := (r_p_v.chg ch31 (not_no _)).chg hc38 (not_no _)
     replace r_q_v := (r_q_v.chg ch31 (not_no _)).chg hc38 (not_no _)
     replace r_but_v := r_but_v.chg hc38 (not_no _)
     replace o5 := o5.chg hc38 (not_no _) (not_no _)
     replace o12 := (o12.chg ch31 (not_no _) (not_no _)).chg hc38 (not_no _) (not_no _)
     refine back15 (false, j + 1, g29) _ _ ⟨hbase, (by exact zs2), (by exact zs7), (by exact zs8), (by exact zs9), (by exact zs10), rfl, rfl, r_p_v, r_q_v, r_but_v, o5, o12, by omega, ?_⟩ ?_
     · show false = oneK (gI (segS p) (i : Int)) (gI (segS q) (k : Int)) but (j + 1) ∧ (j + 1) ≤ but.length
       refine ⟨?_, by omega⟩
       first
         | exact one_t hone.1 (by assumption)
         | exact one_2 hone.1 (by assumption) (by assumption)
         | exact one_f hone.1 (by assumption) (by assumption)
     · show Int.toNat (((List.length but : Int) : Int) - ((j + 1) : Int)) < Int.toNat (((List.length but : Int) : Int) - (j : Int))
       omega
    refine run_cond_f rfl (decide_eq_false p15) ?_
    refine run_exit rfl ?_
    refine run_seq (run_seq (run_region rfl ?_))
    refine l_val (v := Value.bool one) rfl (e_move (by exact zs12)) ?_
    refine l_val (v := Value.bool (!one)) rfl (e_not (b := one) rfl) ?_
    refine l_nil ?_
    by_cases p18 : one = true
    ·
     refine run_cond_f rfl (congrArg Bool.not p18) ?_
     refine run_skip ?_
     refine run_exit rfl ?_
     refine run_region rfl ?_
     refine l_val (v := Value.int .i64 (k : Int)) rfl (e_move (by exact zs10)) ?_
     refine l_val (v := Value.int .i64 ((k : Int) + 1)) rfl (e_add (m := (k : Int)) (n := 1) rfl rfl (by omega)) ?_
     refine l_val (v := Value.int .i64 ((k : Int) + 1)) rfl (e_assign rfl) ?_
     refine l_nil ?_
     refine back6 (k + 1, g29) _ _ ⟨hbase, (by exact zs2), (by exact zs7), (by exact zs8), (by exact zs9), rfl, r_p_v, r_q_v, r_but_v, o5, o12, by omega, ?_⟩ ?_
     · show ∀ j_ : Nat, j_ < (k + 1) → ¬ byX but (gI (segS p) (i : Int)) (gI (segS q) (j_ : Int))
       intro j hj
       by_cases e0 : j = k
       · subst e0
         first
           | exact bx0 (by rw [← hrm]; assumption)
           | exact bx1' (by rw [← hrm]; assumption) (by assumption) hone.2 hone.1 (by assumption)
           | exact bx2' (by rw [← hrm]; assumption) (by rw [← hrm]; assumption) (by omega) hge
       · exact hrow j (by omega)
     · show Int.toNat (((List.length (segS q) : Int) : Int) - ((k + 1) : Int)) < Int.toNat (((List.length (segS q) : Int) : Int) - (k : Int))
       omega
    refine run_cond_t rfl (congrArg Bool.not (Bool.eq_false_iff.2 p18)) ?_
    refine run_seq ?_
    clear o5
    clear o12
    refine run_region rfl ?_
    refine l_val (v := Value.bool true) rfl (e_assign rfl) ?_
    refine l_nil ?_
    refine run_ret (vs := [Value.bool true]) Try.func54 (.tmp rfl .nil) ?_
    -- return 1
    have e0 : (true : Bool) = (decide (beyP p q but)) := by
      first
        | exact bey_no hinv (by assumption)
        | exact bey_yes (i := i) (k := k) (by assumption) (by assumption) (by first | exact bx3 (by rw [← hrm]; assumption) | exact bx1 (by rw [← hrm]; assumption) (by assumption) hone.2 hone.1 (by assumption) | exact bx2 (by rw [← hrm]; assumption) (by rw [← hrm]; assumption) (by assumption) (by assumption) (by assumption) (by assumption))
    exact ⟨(congrArg (a₁ := true) (fun (z0 : Bool) => Ending.returned (Value.bool z0)) e0), hbase.below⟩
   refine run_cond_f rfl (decide_eq_false p12) ?_
   refine run_skip ?_
   refine run_seq ?_
   refine run_region_x g21 [0, 1, 2, 3, 4, 5, 6, 7, 8, 9, 10, 11, 12, 13, 14, 15, 16, 17, 18, 19, 21] mixed_gw ?_
   intro w40 ch39
   refine x_pure (v := v4) 0 rfl (by kernel_rfl) (by kernel_rfl) rfl (fun w => e_move (by exact zs7)) ?_
   refine x_pure (v := Value.int .i64 (i : Int)) 1 rfl (by kernel_rfl) (by kernel_rfl) rfl (fun w => e_move (by exact zs9)) ?_
   replace o5 := (o5.chg hc26 (not_no _) (not_no _)).chg ch39 (not_no _) (not_no _)
   refine x_val (v := Value.pointer (some (eAddr v4 4 (Int.toNat (i : Int))))) 2 [1, 0, 5, 6, 10, 11, 15, 16, 7, 12, 17, 8, 13, 18, 9, 14, 19] rfl (by kernel_rfl) (by kernel_rfl) rfl (e_indexAddr (α := ((Int) × (Int)) × ((Int) × (Int))) (xs := segS p) (v := v4) (i := (i : Int)) Try.underlying68 rfl rfl o5.flat rfl (by omega) (by omega)) ?_
   refine x_val (v := Value.pointer (some ⟨(eAddr v4 4 (Int.toNat (i : Int))).block, (eAddr v4 4 (Int.toNat (i : Int))).off + 0, none⟩)) 3 [2, 1, 0, 5, 6, 10, 11, 15, 16, 7, 12, 17, 8, 13, 18, 9, 14, 19] rfl (by kernel_rfl) (by kernel_rfl) rfl (e_indexAddr_el Try.underlying70 rfl rfl rfl (by decide) (by decide) rfl) ?_
   refine x_val (v := Value.agg (List.toArray [Value.int .i64 (((gI (segS p) (i : Int)).1).1), Value.int .i64 (((gI (segS p) (i : Int)).1).2)])) 4 [3, 2, 1, 0, 5, 6, 10, 11, 15, 16, 7, 12, 17, 8, 13, 18, 9, 14, 19] rfl (by kernel_rfl) (by kernel_rfl) rfl (e_load_elFN (α := ((Int) × (Int)) × ((Int) × (Int))) (xs := segS p) (v := v4) (i := (i : Int)) (q := 0) (ds := [Value.int .i64 (((gI (segS p) (i : Int)).1).1), Value.int .i64 (((gI (segS p) (i : Int)).1).2)]) tp23_gw rfl o5.flat (by omega) (by omega) rfl (by decide) rfl) ?_
   refine x_pure (v := v4) 5 rfl (by kernel_rfl) (by kernel_rfl) rfl (fun w => e_move (by exact zs7)) ?_
   refine x_pure (v := Value.int .i64 (i : Int)) 6 rfl (by kernel_rfl) (by kernel_rfl) rfl (fun w => e_move (by exact zs9)) ?_
   refine x_val (v := Value.pointer (some (eAddr v4 4 (Int.toNat (i : Int))))) 7 [6, 5, 4, 3, 2, 1, 0, 10, 11, 15, 16, 12, 17, 13, 18, 14, 19] rfl (by kernel_rfl) (by kernel_rfl) rfl (e_indexAddr (α := ((Int) × (Int)) × ((Int) × (Int))) (xs := segS p) (v := v4) (i := (i : Int)) Try.underlying68 rfl rfl o5.flat rfl (by omega) (by omega)) ?_
   refine x_val (v := Value.pointer (some ⟨(eAddr v4 4 (Int.toNat (i : Int))).block, (eAddr v4 4 (Int.toNat (i : Int))).off + 2, none⟩)) 8 [7, 6, 5, 4, 3, 2, 1, 0, 10, 11, 15, 16, 12, 17, 13, 18, 14, 19] rfl (by kernel_rfl) (by kernel_rfl) rfl (e_indexAddr_el Try.underlying70 rfl rfl rfl (by decide) (by decide) rfl) ?_
   refine x_val (v := Value.agg (List.toArray [Value.int .i64 (((gI (segS p) (i : Int)).2).1), Value.int .i64 (((gI (segS p) (i : Int)).2).2)])) 9 [8, 7, 6, 5, 4, 3, 2, 1, 0, 10, 11, 15, 16, 12, 17, 13, 18, 14, 19] rfl (by kernel_rfl) (by kernel_rfl) rfl (e_load_elFN (α := ((Int) × (Int)) × ((Int) × (Int))) (xs := segS p) (v := v4) (i := (i : Int)) (q := 2) (ds := [Value.int .i64 (((gI (segS p) (i : Int)).2).1), Value.int .i64 (((gI (segS p) (i : Int)).2).2)]) tp23_gw rfl o5.flat (by omega) (by omega) rfl (by decide) rfl) ?_
   refine x_pure (v := v11) 10 rfl (by kernel_rfl) (by kernel_rfl) rfl (fun w => e_move (by exact zs8)) ?_
   refine x_pure (v := Value.int .i64 (k : Int)) 11 rfl (by kernel_rfl) (by kernel_rfl) rfl (fun w => e_move (by exact zs10)) ?_
   replace o12 := (o12.chg hc26 (not_no _) (not_no _)).chg ch39 (not_no _) (not_no _)
   refine x_val (v := Value.pointer (some (eAddr v11 4 (Int.toNat (k : Int))))) 12 [11, 10, 9, 8, 7, 6, 5, 4, 3, 2, 1, 0, 15, 16, 17, 18, 19] rfl (by kernel_rfl) (by kernel_rfl) rfl (e_indexAddr (α := ((Int) × (Int)) × ((Int) × (Int))) (xs := segS q) (v := v11) (i := (k : Int)) Try.underlying68 rfl rfl o12.flat rfl (by omega) (by omega)) ?_
   refine x_val (v := Value.pointer (some ⟨(eAddr v11 4 (Int.toNat (k : Int))).block, (eAddr v11 4 (Int.toNat (k : Int))).off + 0, none⟩)) 13 [12, 11, 10, 9, 8, 7, 6, 5, 4, 3, 2, 1, 0, 15, 16, 17, 18, 19] rfl (by kernel_rfl) (by kernel_rfl) rfl (e_indexAddr_el Try.underlying70 rfl rfl rfl (by decide) (by decide) rfl) ?_
   refine x_val (v := Value.agg (List.toArray [Value.int .i64 (((gI (segS q) (k : Int)).1).1), Value.int .i64 (((gI (segS q) (k : Int)).1).2)])) 14 [13, 12, 11, 10, 9, 8, 7, 6, 5, 4, 3, 2, 1, 0, 15, 16, 17, 18, 19] rfl (by kernel_rfl) (by kernel_rfl) rfl (e_load_elFN (α := ((Int) × (Int)) × ((Int) × (Int))) (xs := segS q) (v := v11) (i := (k : Int)) (q := 0) (ds := [Value.int .i64 (((gI (segS q) (k : Int)).1).1), Value.int .i64 (((gI (segS q) (k : Int)).1).2)]) tp23_gw rfl o12.flat (by omega) (by omega) rfl (by decide) rfl) ?_
   refine x_pure (v := v11) 15 rfl (by kernel_rfl) (by kernel_rfl) rfl (fun w => e_move (by exact zs8)) ?_
   refine x_pure (v := Value.int .i64 (k : Int)) 16 rfl (by kernel_rfl) (by kernel_rfl) rfl (fun w => e_move (by exact zs10)) ?_
   refine x_val (v := Value.pointer (some (eAddr v11 4 (Int.toNat (k : Int))))) 17 [16, 15, 14, 13, 12, 11, 10, 9, 8, 7, 6, 5, 4, 3, 2, 1, 0] rfl (by kernel_rfl) (by kernel_rfl) rfl (e_indexAddr (α := ((Int) × (Int)) × ((Int) × (Int))) (xs := segS q) (v := v11) (i := (k : Int)) Try.underlying68 rfl rfl o12.flat rfl (by omega) (by omega)) ?_
   refine x_val (v := Value.pointer (some ⟨(eAddr v11 4 (Int.toNat (k : Int))).block, (eAddr v11 4 (Int.toNat (k : Int))).off + 2, none⟩)) 18 [17, 16, 15, 14, 13, 12, 11, 10, 9, 8, 7, 6, 5, 4, 3, 2, 1, 0] rfl (by kernel_rfl) (by kernel_rfl) rfl (e_indexAddr_el Try.underlying70 rfl rfl rfl (by decide) (by decide) rfl) ?_
   refine x_val (v := Value.agg (List.toArray [Value.int .i64 (((gI (segS q) (k : Int)).2).1), Value.int .i64 (((gI (segS q) (k : Int)).2).2)])) 19 [18, 17, 16, 15, 14, 13, 12, 11, 10, 9, 8, 7, 6, 5, 4, 3, 2, 1, 0] rfl (by kernel_rfl) (by kernel_rfl) rfl (e_load_elFN (α := ((Int) × (Int)) × ((Int) × (Int))) (xs := segS q) (v := v11) (i := (k : Int)) (q := 2) (ds := [Value.int .i64 (((gI (segS q) (k : Int)).2).1), Value.int .i64 (((gI (segS q) (k : Int)).2).2)]) tp23_gw rfl o12.flat (by omega) (by omega) rfl (by decide) rfl) ?_
   refine x_one 20 rfl (by kernel_rfl) rfl ?_
   refine o_buildSlice (α := (Int) × (Int)) g21 (is 3) (is 3) (3, 0) rfl ([((gI (segS p) (i : Int)).1), ((gI (segS p) (i : Int)).2), ((gI (segS q) (k : Int)).1), ((gI (segS q) (k : Int)).2)] : List ((Int) × (Int))) Try.underlying25 tp23_gw (by decide) (by decide) (vs := [(0, Value.agg (List.toArray [Value.int .i64 (((gI (segS p) (i : Int)).1).1), Value.int .i64 (((gI (segS p) (i : Int)).1).2)])), (1, Value.agg (List.toArray [Value.int .i64 (((gI (segS p) (i : Int)).2).1), Value.int .i64 (((gI (segS p) (i : Int)).2).2)])), (2, Value.agg (List.toArray [Value.int .i64 (((gI (segS q) (k : Int)).1).1), Value.int .i64 (((gI (segS q) (k : Int)).1).2)])), (3, Value.agg (List.toArray [Value.int .i64 (((gI (segS q) (k : Int)).2).1), Value.int .i64 (((gI (segS q) (k : Int)).2).2)]))]) rfl rfl (.cons rfl (.cons rfl (.cons rfl (.cons rfl .nil)))) ?_
   intro g41 w42 v43 ch44 o45
   refine x_pure (v := v43) 21 rfl (by kernel_rfl) (by kernel_rfl) rfl (fun w => e_assign rfl) ?_
   refine x_nil (by kernel_rfl) ?_
   refine run_seq (run_region rfl ?_)
   refine l_val (v := Value.int .i64 0) rfl (e_assign rfl) ?_
   refine l_nil ?_
   refine run_block ?_
   refine run_loop (σ := Nat × Cmap) (fun ⟨w_, gq⟩ f w => Base w0 gq w ∧ f 2 = but_v ∧ f 7 = v4 ∧ f 8 = v11 ∧ f 9 = Value.int .i64 (i : Int) ∧ f 10 = Value.int .i64 (k : Int) ∧ f 14 = v43 ∧ f 15 = Value.int .i64 (w_ : Int) ∧ Sl gq (is 0) w p_v p ∧ Sl gq (is 0) w q_v q ∧ Sl gq (is 0) w but_v but ∧ Ow gq (is 1) (is 1) w v4 (segS p) ∧ Ow gq (is 2) (is 2) w v11 (segS q) ∧ Ow gq (is 3) (is 3) w v43 ([((gI (segS p) (i : Int)).1), ((gI (segS p) (i : Int)).2), ((gI (segS q) (k : Int)).1), ((gI (segS q) (k : Int)).2)] : List ((Int) × (Int))) ∧ (w_ : Int) ≤ (4 : Int) ∧ (goodE but (gI (segS p) (i : Int)) (gI (segS q) (k : Int)) w_)) (fun ⟨w_, gq⟩ => 4 - w_) (0, g41) ?_ ?_
   have C46 : Chg (inl []) _ _ _ _ := (ch23.n).seq ((hc26.n).seq ((ch39.n).seq (ch44.n)))
   replace hbase := hbase.chg C46 (is_nl rfl)
   replace r_p_v := r_p_v.chg C46 (is_nl rfl)
   replace r_q_v := r_q_v.chg C46 (is_nl rfl)
   replace r_but_v := r_but_v.chg C46 (is_nl rfl)
   replace o5 := o5.chg ch44 (not_no _) (not_no _)
   replace o12 := o12.chg ch44 (not_no _) (not_no _)
   · exact ⟨hbase, (by exact zs2), (by exact zs7), (by exact zs8), (by exact zs9), (by exact zs10), rfl, rfl, r_p_v, r_q_v, r_but_v, o5, o12, o45, by omega, by intro j hj; omega⟩
   clear r_p_v
   clear r_q_v
   clear r_but_v
   clear o5
   clear o12
   clear o45
   clear hbase
   rintro ⟨w_, g49⟩ f47 w48 ⟨hbase, zs2, zs7, zs8, zs9, zs10, zs14, zs15, r_p_v, r_q_v, r_but_v, o5, o12, o45, hle_w_, hge⟩ back22
   refine run_seq (run_seq (run_region rfl ?_))
   refine l_val (v := Value.int .i64 (w_ : Int)) rfl (e_move (by exact zs15)) ?_
   refine l_val (v := Value.bool (decide ((w_ : Int) < 4))) rfl (e_lss (m := (w_ : Int)) (n := 4) rfl rfl) ?_
   refine l_nil ?_
   by_cases p22 : (w_ : Int) < 4
   ·
    refine run_cond_t rfl (decide_eq_true p22) ?_
    have hbe := four_bd hsb1 hsb2 htb1 htb2 (i := w_) (by assumption)
    refine run_skip ?_
    refine run_seq ?_
    refine run_block ?_
    refine run_seq ?_
    refine region_q g49 rfl mixed_gw (by kernel_rfl) ?_
    intro w51 ch50
    refine q_val (v := v4) rfl (fun w' hw' => e_move (by exact zs7)) ?_
    refine q_val (v := Value.int .i64 (i : Int)) rfl (fun w' hw' => e_move (by exact zs9)) ?_
    replace o5 := o5.chg ch50 (not_no _) (not_no _)
    refine q_val (v := Value.pointer (some (eAddr v4 4 (Int.toNat (i : Int))))) rfl (fun w' hw' => e_indexAddr (α := ((Int) × (Int)) × ((Int) × (Int))) (xs := segS p) (v := v4) (i := (i : Int)) Try.underlying68 rfl rfl (o5.flat.bel hw') rfl (by omega) (by omega)) ?_
    refine q_val (v := Value.pointer (some ⟨(eAddr v4 4 (Int.toNat (i : Int))).block, (eAddr v4 4 (Int.toNat (i : Int))).off + 0, none⟩)) rfl (fun w' hw' => e_indexAddr_el Try.underlying70 rfl rfl rfl (by decide) (by decide) rfl) ?_
    refine q_val (v := Value.agg (List.toArray [Value.int .i64 (((gI (segS p) (i : Int)).1).1), Value.int .i64 (((gI (segS p) (i : Int)).1).2)])) rfl (fun w' hw' => e_load_elFN (α := ((Int) × (Int)) × ((Int) × (Int))) (xs := segS p) (v := v4) (i := (i : Int)) (q := 0) (ds := [Value.int .i64 (((gI (segS p) (i : Int)).1).1), Value.int .i64 (((gI (segS p) (i : Int)).1).2)]) tp23_gw rfl (o5.flat.bel hw') (by omega) (by omega) rfl (by decide) rfl) ?_
    refine q_val (v := v4) rfl (fun w' hw' => e_move (by exact zs7)) ?_
    refine q_val (v := Value.int .i64 (i : Int)) rfl (fun w' hw' => e_move (by exact zs9)) ?_
    refine q_val (v := Value.pointer (some (eAddr v4 4 (Int.toNat (i : Int))))) rfl (fun w' hw' => e_indexAddr (α := ((Int) × (Int)) × ((Int) × (Int))) (xs := segS p) (v := v4) (i := (i : Int)) Try.underlying68 rfl rfl (o5.flat.bel hw') rfl (by omega) (by omega)) ?_
    refine q_val (v := Value.pointer (some ⟨(eAddr v4 4 (Int.toNat (i : Int))).block, (eAddr v4 4 (Int.toNat (i : Int))).off + 2, none⟩)) rfl (fun w' hw' => e_indexAddr_el Try.underlying70 rfl rfl rfl (by decide) (by decide) rfl) ?_
    refine q_val (v := Value.agg (List.toArray [Value.int .i64 (((gI (segS p) (i : Int)).2).1), Value.int .i64 (((gI (segS p) (i : Int)).2).2)])) rfl (fun w' hw' => e_load_elFN (α := ((Int) × (Int)) × ((Int) × (Int))) (xs := segS p) (v := v4) (i := (i : Int)) (q := 2) (ds := [Value.int .i64 (((gI (segS p) (i : Int)).2).1), Value.int .i64 (((gI (segS p) (i : Int)).2).2)]) tp23_gw rfl (o5.flat.bel hw') (by omega) (by omega) rfl (by decide) rfl) ?_
    refine q_val (v := v43) rfl (fun w' hw' => e_move (by exact zs14)) ?_
    refine q_val (v := Value.int .i64 (w_ : Int)) rfl (fun w' hw' => e_move (by exact zs15)) ?_
    replace o45 := o45.chg ch50 (not_no _) (not_no _)
    refine q_val (v := Value.pointer (some (eAddr v43 2 (Int.toNat (w_ : Int))))) rfl (fun w' hw' => e_indexAddr (α := (Int) × (Int)) (xs := ([((gI (segS p) (i : Int)).1), ((gI (segS p) (i : Int)).2), ((gI (segS q) (k : Int)).1), ((gI (segS q) (k : Int)).2)] : List ((Int) × (Int)))) (v := v43) (i := (w_ : Int)) Try.underlying25 rfl rfl (o45.flat.bel hw') rfl (by omega) (by first | omega | (simp only [List.length_set, List.length_append, List.length_cons, List.length_nil, List.length_replicate, List.length_map, List.length_take, List.length_drop]; omega) | (simp; done) | (simp; omega))) ?_
    refine q_val (v := Value.agg (List.toArray [Value.int .i64 ((gI ([((gI (segS p) (i : Int)).1), ((gI (segS p) (i : Int)).2), ((gI (segS q) (k : Int)).1), ((gI (segS q) (k : Int)).2)] : List ((Int) × (Int))) (w_ : Int)).1), Value.int .i64 ((gI ([((gI (segS p) (i : Int)).1), ((gI (segS p) (i : Int)).2), ((gI (segS q) (k : Int)).1), ((gI (segS q) (k : Int)).2)] : List ((Int) × (Int))) (w_ : Int)).2)])) rfl (fun w' hw' => e_load_elN (α := (Int) × (Int)) (xs := ([((gI (segS p) (i : Int)).1), ((gI (segS p) (i : Int)).2), ((gI (segS q) (k : Int)).1), ((gI (segS q) (k : Int)).2)] : List ((Int) × (Int)))) (v := v43) (i := (w_ : Int)) tp23_gw rfl (o45.flat.bel hw') (by omega) (by first | omega | (simp only [List.length_set, List.length_append, List.length_cons, List.length_nil, List.length_replicate, List.length_map, List.length_take, List.length_drop]; omega) | (simp; done) | (simp; omega)) rfl) ?_
    refine q_call (v := Value.bool (decide (onP ((gI (segS p) (i : Int)).1) ((gI (segS p) (i : Int)).2) (gI ([((gI (segS p) (i : Int)).1), ((gI (segS p) (i : Int)).2), ((gI (segS q) (k : Int)).1), ((gI (segS q) (k : Int)).2)] : List ((Int) × (Int))) (w_ : Int))))) rfl (fun w' hw' => e_call (vals := [Value.agg (List.toArray [Value.int .i64 (((gI (segS p) (i : Int)).1).1), Value.int .i64 (((gI (segS p) (i : Int)).1).2)]), Value.agg (List.toArray [Value.int .i64 (((gI (segS p) (i : Int)).2).1), Value.int .i64 (((gI (segS p) (i : Int)).2).2)]), Value.agg (List.toArray [Value.int .i64 ((gI ([((gI (segS p) (i : Int)).1), ((gI (segS p) (i : Int)).2), ((gI (segS q) (k : Int)).1), ((gI (segS q) (k : Int)).2)] : List ((Int) × (Int))) (w_ : Int)).1), Value.int .i64 ((gI ([((gI (segS p) (i : Int)).1), ((gI (segS p) (i : Int)).2), ((gI (segS q) (k : Int)).1), ((gI (segS q) (k : Int)).2)] : List ((Int) × (Int))) (w_ : Int)).2)])]) Try.func27 bd27_gw nm27_gw rfl) (fun w' hw' => (D2On_ok w' ((gI (segS p) (i : Int)).1) ((gI (segS p) (i : Int)).2) (gI ([((gI (segS p) (i : Int)).1), ((gI (segS p) (i : Int)).2), ((gI (segS q) (k : Int)).1), ((gI (segS q) (k : Int)).2)] : List ((Int) × (Int))) (w_ : Int)) (by assumption) (by assumption) (by assumption)).mono fun e w2 h2 => ⟨h2.1, hw'.trans (h2.2.mono hw'.size)⟩) ?_
    refine q_val (v := Value.bool (decide (onP ((gI (segS p) (i : Int)).1) ((gI (segS p) (i : Int)).2) (gI ([((gI (segS p) (i : Int)).1), ((gI (segS p) (i : Int)).2), ((gI (segS q) (k : Int)).1), ((gI (segS q) (k : Int)).2)] : List ((Int) × (Int))) (w_ : Int))))) rfl (fun w' hw' => e_move rfl) ?_
    by_cases q142 : (decide (onP ((gI (segS p) (i : Int)).1) ((gI (segS p) (i : Int)).2) (gI ([((gI (segS p) (i : Int)).1), ((gI (segS p) (i : Int)).2), ((gI (segS q) (k : Int)).1), ((gI (segS q) (k : Int)).2)] : List ((Int) × (Int))) (w_ : Int)))) = true
    ·
     refine q_val (v := v11) (want_y rfl rfl rfl q142) (fun w' hw' => e_move (by exact zs8)) ?_
     refine q_val (v := Value.int .i64 (k : Int)) (want_y rfl rfl rfl q142) (fun w' hw' => e_move (by exact zs10)) ?_
     replace o12 := o12.chg ch50 (not_no _) (not_no _)
     refine q_val (v := Value.pointer (some (eAddr v11 4 (Int.toNat (k : Int))))) (want_y rfl rfl rfl q142) (fun w' hw' => e_indexAddr (α := ((Int) × (Int)) × ((Int) × (Int))) (xs := segS q) (v := v11) (i := (k : Int)) Try.underlying68 rfl rfl (o12.flat.bel hw') rfl (by omega) (by omega)) ?_
     refine q_val (v := Value.pointer (some ⟨(eAddr v11 4 (Int.toNat (k : Int))).block, (eAddr v11 4 (Int.toNat (k : Int))).off + 0, none⟩)) (want_y rfl rfl rfl q142) (fun w' hw' => e_indexAddr_el Try.underlying70 rfl rfl rfl (by decide) (by decide) rfl) ?_
     refine q_val (v := Value.agg (List.toArray [Value.int .i64 (((gI (segS q) (k : Int)).1).1), Value.int .i64 (((gI (segS q) (k : Int)).1).2)])) (want_y rfl rfl rfl q142) (fun w' hw' => e_load_elFN (α := ((Int) × (Int)) × ((Int) × (Int))) (xs := segS q) (v := v11) (i := (k : Int)) (q := 0) (ds := [Value.int .i64 (((gI (segS q) (k : Int)).1).1), Value.int .i64 (((gI (segS q) (k : Int)).1).2)]) tp23_gw rfl (o12.flat.bel hw') (by omega) (by omega) rfl (by decide) rfl) ?_
     refine q_val (v := v11) (want_y rfl rfl rfl q142) (fun w' hw' => e_move (by exact zs8)) ?_
     refine q_val (v := Value.int .i64 (k : Int)) (want_y rfl rfl rfl q142) (fun w' hw' => e_move (by exact zs10)) ?_
     refine q_val (v := Value.pointer (some (eAddr v11 4 (Int.toNat (k : Int))))) (want_y rfl rfl rfl q142) (fun w' hw' => e_indexAddr (α := ((Int) × (Int)) × ((Int) × (Int))) (xs := segS q) (v := v11) (i := (k : Int)) Try.underlying68 rfl rfl (o12.flat.bel hw') rfl (by omega) (by omega)) ?_
     refine q_val (v := Value.pointer (some ⟨(eAddr v11 4 (Int.toNat (k : Int))).block, (eAddr v11 4 (Int.toNat (k : Int))).off + 2, none⟩)) (want_y rfl rfl rfl q142) (fun w' hw' => e_indexAddr_el Try.underlying70 rfl rfl rfl (by decide) (by decide) rfl) ?_
     refine q_val (v := Value.agg (List.toArray [Value.int .i64 (((gI (segS q) (k : Int)).2).1), Value.int .i64 (((gI (segS q) (k : Int)).2).2)])) (want_y rfl rfl rfl q142) (fun w' hw' => e_load_elFN (α := ((Int) × (Int)) × ((Int) × (Int))) (xs := segS q) (v := v11) (i := (k : Int)) (q := 2) (ds := [Value.int .i64 (((gI (segS q) (k : Int)).2).1), Value.int .i64 (((gI (segS q) (k : Int)).2).2)]) tp23_gw rfl (o12.flat.bel hw') (by omega) (by omega) rfl (by decide) rfl) ?_
     refine q_val (v := v43) (want_y rfl rfl rfl q142) (fun w' hw' => e_move (by exact zs14)) ?_
     refine q_val (v := Value.int .i64 (w_ : Int)) (want_y rfl rfl rfl q142) (fun w' hw' => e_move (by exact zs15)) ?_
     refine q_val (v := Value.pointer (some (eAddr v43 2 (Int.toNat (w_ : Int))))) (want_y rfl rfl rfl q142) (fun w' hw' => e_indexAddr (α := (Int) × (Int)) (xs := ([((gI (segS p) (i : Int)).1), ((gI (segS p) (i : Int)).2), ((gI (segS q) (k : Int)).1), ((gI (segS q) (k : Int)).2)] : List ((Int) × (Int)))) (v := v43) (i := (w_ : Int)) Try.underlying25 rfl rfl (o45.flat.bel hw') rfl (by omega) (by first | omega | (simp only [List.length_set, List.length_append, List.length_cons, List.length_nil, List.length_replicate, List.length_map, List.length_take, List.length_drop]; omega) | (simp; done) | (simp; omega))) ?_
     refine q_val (v := Value.agg (List.toArray [Value.int .i64 ((gI ([((gI (segS p) (i : Int)).1), ((gI (segS p) (i : Int)).2), ((gI (segS q) (k : Int)).1), ((gI (segS q) (k : Int)).2)] : List ((Int) × (Int))) (w_ : Int)).1), Value.int .i64 ((gI ([((gI (segS p) (i : Int)).1), ((gI (segS p) (i : Int)).2), ((gI (segS q) (k : Int)).1), ((gI (segS q) (k : Int)).2)] : List ((Int) × (Int))) (w_ : Int)).2)])) (want_y rfl rfl rfl q142) (fun w' hw' => e_load_elN (α := (Int) × (Int)) (xs := ([((gI (segS p) (i : Int)).1), ((gI (segS p) (i : Int)).2), ((gI (segS q) (k : Int)).1), ((gI (segS q) (k : Int)).2)] : List ((Int) × (Int)))) (v := v43) (i := (w_ : Int)) tp23_gw rfl (o45.flat.bel hw') (by omega) (by first | omega | (simp only [List.length_set, List.length_append, List.length_cons, List.length_nil, List.length_replicate, List.length_map, List.length_take, List.length_drop]; omega) | (simp; done) | (simp; omega)) rfl) ?_
     refine q_call (v := Value.bool (decide (onP ((gI (segS q) (k : Int)).1) ((gI (segS q) (k : Int)).2) (gI ([((gI (segS p) (i : Int)).1), ((gI (segS p) (i : Int)).2), ((gI (segS q) (k : Int)).1), ((gI (segS q) (k : Int)).2)] : List ((Int) × (Int))) (w_ : Int))))) (want_y rfl rfl rfl q142) (fun w' hw' => e_call (vals := [Value.agg (List.toArray [Value.int .i64 (((gI (segS q) (k : Int)).1).1), Value.int .i64 (((gI (segS q) (k : Int)).1).2)]), Value.agg (List.toArray [Value.int .i64 (((gI (segS q) (k : Int)).2).1), Value.int .i64 (((gI (segS q) (k : Int)).2).2)]), Value.agg (List.toArray [Value.int .i64 ((gI ([((gI (segS p) (i : Int)).1), ((gI (segS p) (i : Int)).2), ((gI (segS q) (k : Int)).1), ((gI (segS q) (k : Int)).2)] : List ((Int) × (Int))) (w_ : Int)).1), Value.int .i64 ((gI ([((gI (segS p) (i : Int)).1), ((gI (segS p) (i : Int)).2), ((gI (segS q) (k : Int)).1), ((gI (segS q) (k : Int)).2)] : List ((Int) × (Int))) (w_ : Int)).2)])]) Try.func27 bd27_gw nm27_gw rfl) (fun w' hw' => (D2On_ok w' ((gI (segS q) (k : Int)).1) ((gI (segS q) (k : Int)).2) (gI ([((gI (segS p) (i : Int)).1), ((gI (segS p) (i : Int)).2), ((gI (segS q) (k : Int)).1), ((gI (segS q) (k : Int)).2)] : List ((Int) × (Int))) (w_ : Int)) (by assumption) (by assumption) (by assumption)).mono fun e w2 h2 => ⟨h2.1, hw'.trans (h2.2.mono hw'.size)⟩) ?_
     refine q_val (v := Value.bool (decide (onP ((gI (segS q) (k : Int)).1) ((gI (segS q) (k : Int)).2) (gI ([((gI (segS p) (i : Int)).1), ((gI (segS p) (i : Int)).2), ((gI (segS q) (k : Int)).1), ((gI (segS q) (k : Int)).2)] : List ((Int) × (Int))) (w_ : Int))))) rfl (fun w' hw' => e_pick_t rfl q142 rfl) ?_
     refine q_val (v := Value.bool (decide (onP ((gI (segS q) (k : Int)).1) ((gI (segS q) (k : Int)).2) (gI ([((gI (segS p) (i : Int)).1), ((gI (segS p) (i : Int)).2), ((gI (segS q) (k : Int)).1), ((gI (segS q) (k : Int)).2)] : List ((Int) × (Int))) (w_ : Int))))) rfl (fun w' hw' => e_move rfl) ?_
     by_cases q159 : (decide (onP ((gI (segS q) (k : Int)).1) ((gI (segS q) (k : Int)).2) (gI ([((gI (segS p) (i : Int)).1), ((gI (segS p) (i : Int)).2), ((gI (segS q) (k : Int)).1), ((gI (segS q) (k : Int)).2)] : List ((Int) × (Int))) (w_ : Int)))) = true
     ·
      refine q_val (v := but_v) (want_y rfl rfl rfl q159) (fun w' hw' => e_move (by exact zs2)) ?_
      refine q_val (v := v43) (want_y rfl rfl rfl q159) (fun w' hw' => e_move (by exact zs14)) ?_
      refine q_val (v := Value.int .i64 (w_ : Int)) (want_y rfl rfl rfl q159) (fun w' hw' => e_move (by exact zs15)) ?_
      refine q_val (v := Value.pointer (some (eAddr v43 2 (Int.toNat (w_ : Int))))) (want_y rfl rfl rfl q159) (fun w' hw' => e_indexAddr (α := (Int) × (Int)) (xs := ([((gI (segS p) (i : Int)).1), ((gI (segS p) (i : Int)).2), ((gI (segS q) (k : Int)).1), ((gI (segS q) (k : Int)).2)] : List ((Int) × (Int)))) (v := v43) (i := (w_ : Int)) Try.underlying25 rfl rfl (o45.flat.bel hw') rfl (by omega) (by first | omega | (simp only [List.length_set, List.length_append, List.length_cons, List.length_nil, List.length_replicate, List.length_map, List.length_take, List.length_drop]; omega) | (simp; done) | (simp; omega))) ?_
      refine q_val (v := Value.agg (List.toArray [Value.int .i64 ((gI ([((gI (segS p) (i : Int)).1), ((gI (segS p) (i : Int)).2), ((gI (segS q) (k : Int)).1), ((gI (segS q) (k : Int)).2)] : List ((Int) × (Int))) (w_ : Int)).1), Value.int .i64 ((gI ([((gI (segS p) (i : Int)).1), ((gI (segS p) (i : Int)).2), ((gI (segS q) (k : Int)).1), ((gI (segS q) (k : Int)).2)] : List ((Int) × (Int))) (w_ : Int)).2)])) (want_y rfl rfl rfl q159) (fun w' hw' => e_load_elN (α := (Int) × (Int)) (xs := ([((gI (segS p) (i : Int)).1), ((gI (segS p) (i : Int)).2), ((gI (segS q) (k : Int)).1), ((gI (segS q) (k : Int)).2)] : List ((Int) × (Int)))) (v := v43) (i := (w_ : Int)) tp23_gw rfl (o45.flat.bel hw') (by omega) (by first | omega | (simp only [List.length_set, List.length_append, List.length_cons, List.length_nil, List.length_replicate, List.length_map, List.length_take, List.length_drop]; omega) | (simp; done) | (simp; omega)) rfl) ?_
      replace r_but_v := r_but_v.chg ch50 (not_no _)
      refine q_call (v := Value.bool (decide ((gI ([((gI (segS p) (i : Int)).1), ((gI (segS p) (i : Int)).2), ((gI (segS q) (k : Int)).1), ((gI (segS q) (k : Int)).2)] : List ((Int) × (Int))) (w_ : Int)) ∈ but))) (want_y rfl rfl rfl q159) (fun w' hw' => e_call (vals := [but_v, Value.agg (List.toArray [Value.int .i64 ((gI ([((gI (segS p) (i : Int)).1), ((gI (segS p) (i : Int)).2), ((gI (segS q) (k : Int)).1), ((gI (segS q) (k : Int)).2)] : List ((Int) × (Int))) (w_ : Int)).1), Value.int .i64 ((gI ([((gI (segS p) (i : Int)).1), ((gI (segS p) (i : Int)).2), ((gI (segS q) (k : Int)).1), ((gI (segS q) (k : Int)).2)] : List ((Int) × (Int))) (w_ : Int)).2)])]) Try.func53 bd53_gw nm53_gw rfl) (fun w' hw' => (has_ok w' but but_v ((r_but_v.bel hw')).ro (gI ([((gI (segS p) (i : Int)).1), ((gI (segS p) (i : Int)).2), ((gI (segS q) (k : Int)).1), ((gI (segS q) (k : Int)).2)] : List ((Int) × (Int))) (w_ : Int))).mono fun e w2 h2 => ⟨h2.1, hw'.trans (h2.2.mono hw'.size)⟩) ?_
      refine q_val (v := Value.bool (!(decide ((gI ([((gI (segS p) (i : Int)).1), ((gI (segS p) (i : Int)).2), ((gI (segS q) (k : Int)).1), ((gI (segS q) (k : Int)).2)] : List ((Int) × (Int))) (w_ : Int)) ∈ but)))) (want_y rfl rfl rfl q159) (fun w' hw' => e_not (b := (decide ((gI ([((gI (segS p) (i : Int)).1), ((gI (segS p) (i : Int)).2), ((gI (segS q) (k : Int)).1), ((gI (segS q) (k : Int)).2)] : List ((Int) × (Int))) (w_ : Int)) ∈ but))) rfl) ?_
      refine q_val (v := Value.bool (!(decide ((gI ([((gI (segS p) (i : Int)).1), ((gI (segS p) (i : Int)).2), ((gI (segS q) (k : Int)).1), ((gI (segS q) (k : Int)).2)] : List ((Int) × (Int))) (w_ : Int)) ∈ but)))) rfl (fun w' hw' => e_pick_t rfl q159 rfl) ?_
      refine q_nil ?_
      intro w52 hc53
      replace hc53 := chg_below hc53 g49
      by_cases p24 : (decide ((gI ([((gI (segS p) (i : Int)).1), ((gI (segS p) (i : Int)).2), ((gI (segS q) (k : Int)).1), ((gI (segS q) (k : Int)).2)] : List ((Int) × (Int))) (w_ : Int)) ∈ but)) = true
      ·
       refine run_cond_f rfl (congrArg Bool.not p24) ?_
       refine run_skip ?_
       refine run_inBlock ?_
       refine run_region rfl ?_
       refine l_val (v := Value.int .i64 (w_ : Int)) rfl (e_move (by exact zs15)) ?_
       refine l_val (v := Value.int .i64 ((w_ : Int) + 1)) rfl (e_add (m := (w_ : Int)) (n := 1) rfl rfl (by omega)) ?_
       refine l_val (v := Value.int .i64 ((w_ : Int) + 1)) rfl (e_assign rfl) ?_
       refine l_nil ?_
       replace hbase := hbase.chg ch50 (not_no _)
       replace hbase := hbase.chg hc53 (not_no _)
       replace r_p_v := (r_p_v.chg ch50 (not_no _)).chg hc53 (not_no _)
       replace r_q_v := (r_q_v.chg ch50 (not_no _)).chg hc53 (not_no _)
       replace r_but_v := r_but_v.chg hc53 (not_no _)
       replace o5 := o5.chg hc53 (not_no _) (not_no _)
       replace o12 := o12.chg hc53 (not_no _) (not_no _)
       replace o45 := o45.chg hc53 (not_no _) (not_no _)
       refine back22 (w_ + 1, g49) _ _ ⟨hbase, (by exact zs2), (by exact zs7), (by exact zs8), (by exact zs9), (by exact zs10), (by exact zs14), rfl, r_p_v, r_q_v, r_but_v, o5, o12, o45, by omega, ?_⟩ ?_
       · show goodE but (gI (segS p) (i : Int)) (gI (segS q) (k : Int)) (w_ + 1)
         first
           | exact hge.a (by assumption)
           | exact hge.b (by assumption)
           | exact hge.c (by assumption)
       · show 4 - (w_ + 1) < 4 - w_
         omega
      refine run_cond_t rfl (congrArg Bool.not (Bool.eq_false_iff.2 p24)) ?_
      refine run_seq ?_
      clear o5
      clear o12
      clear o45
      refine run_region rfl ?_
      refine l_val (v := Value.bool true) rfl (e_assign rfl) ?_
      refine l_nil ?_
      refine run_ret (vs := [Value.bool true]) Try.func54 (.tmp rfl .nil) ?_
      -- return 2
      have e0 : (true : Bool) = (decide (beyP p q but)) := by
        first
          | exact bey_no hinv (by assumption)
          | exact bey_yes (i := i) (k := k) (by assumption) (by assumption) (by first | exact bx3 (by rw [← hrm]; assumption) | exact bx1 (by rw [← hrm]; assumption) (by assumption) hone.2 hone.1 (by assumption) | exact bx2 (by rw [← hrm]; assumption) (by rw [← hrm]; assumption) (by assumption) (by assumption) (by assumption) (by assumption))
      replace hbase := hbase.chg ch50 (not_no _)
      replace hbase := hbase.chg hc53 (not_no _)
      exact ⟨(congrArg (a₁ := true) (fun (z0 : Bool) => Ending.returned (Value.bool z0)) e0), hbase.below⟩
     refine q_skip (want_n rfl rfl rfl (Bool.eq_false_iff.2 q159)) ?_
     refine q_skip (want_n rfl rfl rfl (Bool.eq_false_iff.2 q159)) ?_
     refine q_skip (want_n rfl rfl rfl (Bool.eq_false_iff.2 q159)) ?_
     refine q_skip (want_n rfl rfl rfl (Bool.eq_false_iff.2 q159)) ?_
     refine q_skip (want_n rfl rfl rfl (Bool.eq_false_iff.2 q159)) ?_
     refine q_skip (want_n rfl rfl rfl (Bool.eq_false_iff.2 q159)) ?_
     refine q_skip (want_n rfl rfl rfl (Bool.eq_false_iff.2 q159)) ?_
     refine q_val (v := Value.bool false) rfl (fun w' hw' => e_pick_f rfl (Bool.eq_false_iff.2 q159) rfl) ?_
     refine q_nil ?_
     intro w54 hc55
     replace hc55 := chg_below hc55 g49
     refine run_cond_f rfl rfl ?_
     refine run_skip ?_
     refine run_inBlock ?_
     refine run_region rfl ?_
     refine l_val (v := Value.int .i64 (w_ : Int)) rfl (e_move (by exact zs15)) ?_
     refine l_val (v := Value.int .i64 ((w_ : Int) + 1)) rfl (e_add (m := (w_ : Int)) (n := 1) rfl rfl (by omega)) ?_
     refine l_val (v := Value.int .i64 ((w_ : Int) + 1)) rfl (e_assign rfl) ?_
     refine l_nil ?_
     replace hbase := hbase.chg ch50 (not_no _)
     replace hbase := hbase.chg hc55 (not_no _)
     replace r_p_v := (r_p_v.chg ch50 (not_no _)).chg hc55 (not_no _)
     replace r_q_v := (r_q_v.chg ch50 (not_no _)).chg hc55 (not_no _)
     replace r_but_v := (r_but_v.chg ch50 (not_no _)).chg hc55 (not_no _)
     replace o5 := o5.chg hc55 (not_no _) (not_no _)
     replace o12 := o12.chg hc55 (not_no _) (not_no _)
     replace o45 := o45.chg hc55 (not_no _) (not_no _)
     refine back22 (w_ + 1, g49) _ _ ⟨hbase, (by exact zs2), (by exact zs7), (by exact zs8), (by exact zs9), (by exact zs10), (by exact zs14), rfl, r_p_v, r_q_v, r_but_v, o5, o12, o45, by omega, ?_⟩ ?_
     · show goodE but (gI (segS p) (i : Int)) (gI (segS q) (k : Int)) (w_ + 1)
       first
         | exact hge.a (by assumption)
         | exact hge.b (by assumption)
         | exact hge.c (by assumption)
     · show 4 - (w_ + 1) < 4 - w_
       omega
    refine q_skip (want_n rfl rfl rfl (Bool.eq_false_iff.2 q142)) ?_
    refine q_skip (want_n rfl rfl rfl (Bool.eq_false_iff.2 q142)) ?_
    refine q_skip (want_n rfl rfl rfl (Bool.eq_false_iff.2 q142)) ?_
    refine q_skip (want_n rfl rfl rfl (Bool.eq_false_iff.2 q142)) ?_
    refine q_skip (want_n rfl rfl rfl (Bool.eq_false_iff.2 q142)) ?_
    refine q_skip (want_n rfl rfl rfl (Bool.eq_false_iff.2 q142)) ?_
    refine q_skip (want_n rfl rfl rfl (Bool.eq_false_iff.2 q142)) ?_
    refine q_skip (want_n rfl rfl rfl (Bool.eq_false_iff.2 q142)) ?_
    refine q_skip (want_n rfl rfl rfl (Bool.eq_false_iff.2 q142)) ?_
    refine q_skip (want_n rfl rfl rfl (Bool.eq_false_iff.2 q142)) ?_
    refine q_skip (want_n rfl rfl rfl (Bool.eq_false_iff.2 q142)) ?_
    refine q_skip (want_n rfl rfl rfl (Bool.eq_false_iff.2 q142)) ?_
    refine q_skip (want_n rfl rfl rfl (Bool.eq_false_iff.2 q142)) ?_
    refine q_skip (want_n rfl rfl rfl (Bool.eq_false_iff.2 q142)) ?_
    refine q_skip (want_n rfl rfl rfl (Bool.eq_false_iff.2 q142)) ?_
    refine q_val (v := Value.bool false) rfl (fun w' hw' => e_pick_f rfl (Bool.eq_false_iff.2 q142) rfl) ?_
    refine q_val (v := Value.bool false) rfl (fun w' hw' => e_move rfl) ?_
    refine q_skip (want_n rfl rfl rfl rfl) ?_
    refine q_skip (want_n rfl rfl rfl rfl) ?_
    refine q_skip (want_n rfl rfl rfl rfl) ?_
    refine q_skip (want_n rfl rfl rfl rfl) ?_
    refine q_skip (want_n rfl rfl rfl rfl) ?_
    refine q_skip (want_n rfl rfl rfl rfl) ?_
    refine q_skip (want_n rfl rfl rfl rfl) ?_
    refine q_val (v := Value.bool false) rfl (fun w' hw' => e_pick_f rfl rfl rfl) ?_
    refine q_nil ?_
    intro w56 hc57
    replace hc57 := chg_below hc57 g49
    refine run_cond_f rfl rfl ?_
    refine run_skip ?_
    refine run_inBlock ?_
    refine run_region rfl ?_
    refine l_val (v := Value.int .i64 (w_ : Int)) rfl (e_move (by exact zs15)) ?_
    refine l_val (v := Value.int .i64 ((w_ : Int) + 1)) rfl (e_add (m := (w_ : Int)) (n := 1) rfl rfl (by omega)) ?_
    refine l_val (v := Value.int .i64 ((w_ : Int) + 1)) rfl (e_assign rfl) ?_
    refine l_nil ?_
    replace hbase := hbase.chg ch50 (not_no _)
    replace hbase := hbase.chg hc57 (not_no _)
    replace r_p_v := (r_p_v.chg ch50 (not_no _)).chg hc57 (not_no _)
    replace r_q_v := (r_q_v.chg ch50 (not_no _)).chg hc57 (not_no _)
    replace r_but_v := (r_but_v.chg ch50 (not_no _)).chg hc57 (not_no _)
    replace o5 := o5.chg hc57 (not_no _) (not_no _)
    replace o12 := (o12.chg ch50 (not_no _) (not_no _)).chg hc57 (not_no _) (not_no _)
    replace o45 := o45.chg hc57 (not_no _) (not_no _)
    refine back22 (w_ + 1, g49) _ _ ⟨hbase, (by exact zs2), (by exact zs7), (by exact zs8), (by exact zs9), (by exact zs10), (by exact zs14), rfl, r_p_v, r_q_v, r_but_v, o5, o12, o45, by omega, ?_⟩ ?_
    · show goodE but (gI (segS p) (i : Int)) (gI (segS q) (k : Int)) (w_ + 1)
      first
        | exact hge.a (by assumption)
        | exact hge.b (by assumption)
        | exact hge.c (by assumption)
    · show 4 - (w_ + 1) < 4 - w_
      omega
   refine run_cond_f rfl (decide_eq_false p22) ?_
   refine run_exit rfl ?_
   refine run_inBlock ?_
   clear o45
   refine run_region rfl ?_
   refine l_val (v := Value.int .i64 (k : Int)) rfl (e_move (by exact zs10)) ?_
   refine l_val (v := Value.int .i64 ((k : Int) + 1)) rfl (e_add (m := (k : Int)) (n := 1) rfl rfl (by omega)) ?_
   refine l_val (v := Value.int .i64 ((k : Int) + 1)) rfl (e_assign rfl) ?_
   refine l_nil ?_
   refine back6 (k + 1, g49) _ _ ⟨hbase, (by exact zs2), (by exact zs7), (by exact zs8), (by exact zs9), rfl, r_p_v, r_q_v, r_but_v, o5, o12, by omega, ?_⟩ ?_
   · show ∀ j_ : Nat, j_ < (k + 1) → ¬ byX but (gI (segS p) (i : Int)) (gI (segS q) (j_ : Int))
     intro j hj
     by_cases e0 : j = k
     · subst e0
       first
         | exact bx0 (by rw [← hrm]; assumption)
         | exact bx1' (by rw [← hrm]; assumption) (by assumption) hone.2 hone.1 (by assumption)
         | exact bx2' (by rw [← hrm]; assumption) (by rw [← hrm]; assumption) (by omega) hge
     · exact hrow j (by omega)
   · show Int.toNat (((List.length (segS q) : Int) : Int) - ((k + 1) : Int)) < Int.toNat (((List.length (segS q) : Int) : Int) - (k : Int))
     omega
  refine run_cond_f rfl (decide_eq_false p6) ?_
  refine run_exit rfl ?_
  refine run_inBlock ?_
  refine run_region rfl ?_
  refine l_val (v := Value.int .i64 (i : Int)) rfl (e_move (by exact zs9)) ?_
  refine l_val (v := Value.int .i64 ((i : Int) + 1)) rfl (e_add (m := (i : Int)) (n := 1) rfl rfl (by omega)) ?_
  refine l_val (v := Value.int .i64 ((i : Int) + 1)) rfl (e_assign rfl) ?_
  refine l_nil ?_
  refine back3 (i + 1, g21) _ _ ⟨hbase, (by exact zs2), (by exact zs7), (by exact zs8), rfl, r_p_v, r_q_v, r_but_v, o5, o12, by omega, ?_⟩ ?_
  · show ∀ j_ : Nat, j_ < (i + 1) → ∀ t_ ∈ segS q, ¬ byX but (gI (segS p) (j_ : Int)) t_
    intro j hj
    by_cases e0 : j = i
    · subst e0; exact bey_row hrow (by assumption)
    · exact hinv j (by omega)
  · show Int.toNat (((List.length (segS p) : Int) : Int) - ((i + 1) : Int)) < Int.toNat (((List.length (segS p) : Int) : Int) - (i : Int))
    omega
 refine run_cond_f rfl (decide_eq_false p3) ?_
 refine run_exit rfl ?_
 refine run_seq ?_
 clear o5
 clear o12
 refine run_region rfl ?_
 refine l_val (v := Value.bool false) rfl (e_assign rfl) ?_
 refine l_nil ?_
 refine run_ret (vs := [Value.bool false]) Try.func54 (.tmp rfl .nil) ?_
 -- return 3
 have e0 : (false : Bool) = (decide (beyP p q but)) := by
   first
     | exact bey_no hinv (by assumption)
     | exact bey_yes (i := i) (k := k) (by assumption) (by assumption) (by first | exact bx3 (by rw [← hrm]; assumption) | exact bx1 (by rw [← hrm]; assumption) (by assumption) hone.2 hone.1 (by assumption) | exact bx2 (by rw [← hrm]; assumption) (by rw [← hrm]; assumption) (by assumption) (by assumption) (by assumption) (by assumption))
 exact ⟨(congrArg (a₁ := false) (fun (z0 : Bool) => Ending.returned (Value.bool z0)) e0), hbase.below⟩

set_option maxHeartbeats 4000000 in
theorem D2Apart_ok (w0 : World) (p : List ((Int) × (Int))) (p_v : Value) (hp_v : Ro w0 p_v p) (q : List ((Int) × (Int))) (q_v : Value) (hq_v : Ro w0 q_v q) (hp : okL p) (hq : okL q) (hp0 : 0 < p.length) (hq0 : 0 < q.length) :
    Calls Try.prog 34 #[p_v, q_v] w0 (fun ee w => ee = .returned (Value.bool (decide (appP p q))) ∧ RowKit.Below w0.heap.size w0 w) := by
 refine calls_of_run Try.func34 rfl (Nat.le_of_ble_eq_true rfl) ?_
 have hbase := Base.start w0
 have r_p_v := hp_v.sl
 have r_q_v := hq_v.sl
 have hb0 := (hp.2 _ (gI_mem (xs := p) (i := 0) (by omega) (by omega))).bd
 have hbl := (hp.2 _ (gI_mem (xs := p) (i := (p.length : Int) - 1) (by omega) (by omega))).bd
 refine run_seq (run_region rfl ?_)
 refine l_val (v := Value.bool false) rfl (e_assign rfl) ?_
 refine l_nil (run_seq ?_)
 refine run_region_x c0 [0, 1, 2, 3, 4, 5, 6, 7, 8, 10] mixed_gw ?_
 intro w2 ch1
 refine x_pure (v := p_v) 0 rfl (by kernel_rfl) (by kernel_rfl) rfl (fun w => e_move rfl) ?_
 replace r_p_v := r_p_v.chg ch1 (not_no _)
 refine x_val (v := Value.pointer (some (eAddr p_v 2 (Int.toNat 0)))) 1 [0, 3, 4, 5, 6, 7, 8] rfl (by kernel_rfl) (by kernel_rfl) rfl (e_indexAddr (α := (Int) × (Int)) (xs := p) (v := p_v) (i := 0) Try.underlying25 rfl rfl r_p_v rfl (by omega) (by omega)) ?_
 refine x_val (v := Value.agg (List.toArray [Value.int .i64 ((gI p 0).1), Value.int .i64 ((gI p 0).2)])) 2 [1, 0, 3, 4, 5, 6, 7, 8] rfl (by kernel_rfl) (by kernel_rfl) rfl (e_load_elN (α := (Int) × (Int)) (xs := p) (v := p_v) (i := 0) tp23_gw rfl r_p_v (by omega) (by omega) rfl) ?_
 refine x_pure (v := p_v) 3 rfl (by kernel_rfl) (by kernel_rfl) rfl (fun w => e_move rfl) ?_
 refine x_pure (v := p_v) 4 rfl (by kernel_rfl) (by kernel_rfl) rfl (fun w => e_move rfl) ?_
 have len3 := (r_p_v).small
 refine x_pure (v := Value.int .i64 (List.length p : Int)) 5 rfl (by kernel_rfl) (by kernel_rfl) rfl (fun w => e_len Try.underlying25 rfl r_p_v) ?_
 refine x_pure (v := Value.int .i64 ((List.length p : Int) - 1)) 6 rfl (by kernel_rfl) (by kernel_rfl) rfl (fun w => e_sub (m := (List.length p : Int)) (n := 1) rfl rfl (by omega)) ?_
 refine x_val (v := Value.pointer (some (eAddr p_v 2 (Int.toNat ((List.length p : Int) - 1))))) 7 [6, 5, 4, 3, 2, 1, 0] rfl (by kernel_rfl) (by kernel_rfl) rfl (e_indexAddr (α := (Int) × (Int)) (xs := p) (v := p_v) (i := (List.length p : Int) - 1) Try.underlying25 rfl rfl r_p_v rfl (by omega) (by omega)) ?_
 refine x_val (v := Value.agg (List.toArray [Value.int .i64 ((gI p ((List.length p : Int) - 1)).1), Value.int .i64 ((gI p ((List.length p : Int) - 1)).2)])) 8 [7, 6, 5, 4, 3, 2, 1, 0] rfl (by kernel_rfl) (by kernel_rfl) rfl (e_load_elN (α := (Int) × (Int)) (xs := p) (v := p_v) (i := (List.length p : Int) - 1) tp23_gw rfl r_p_v (by omega) (by omega) rfl) ?_
 refine x_one 9 rfl (by kernel_rfl) rfl ?_
 refine o_buildSlice (α := (Int) × (Int)) c0 (is 1) (is 1) (1, 0) rfl ([(gI p 0), (gI p ((List.length p : Int) - 1))] : List ((Int) × (Int))) Try.underlying25 tp23_gw (by decide) (by decide) (vs := [(0, Value.agg (List.toArray [Value.int .i64 ((gI p 0).1), Value.int .i64 ((gI p 0).2)])), (1, Value.agg (List.toArray [Value.int .i64 ((gI p ((List.length p : Int) - 1)).1), Value.int .i64 ((gI p ((List.length p : Int) - 1)).2)]))]) rfl rfl (.cons rfl (.cons rfl .nil)) ?_
 intro g4 w5 v6 ch7 o8
 refine x_pure (v := v6) 10 rfl (by kernel_rfl) (by kernel_rfl) rfl (fun w => e_assign rfl) ?_
 refine x_nil (by kernel_rfl) ?_
 refine run_seq ?_
 refine run_region_x g4 [0, 1, 2, 3, 4, 5, 6, 7, 8, 10] mixed_gw ?_
 intro w10 ch9
 refine x_pure (v := q_v) 0 rfl (by kernel_rfl) (by kernel_rfl) rfl (fun w => e_move rfl) ?_
 have C11 : Chg (inl []) _ _ _ _ := (ch1.n).seq ((ch7.n).seq (ch9.n))
 replace r_q_v := r_q_v.chg C11 (is_nl rfl)
 refine x_val (v := Value.pointer (some (eAddr q_v 2 (Int.toNat 0)))) 1 [0, 3, 4, 5, 6, 7, 8] rfl (by kernel_rfl) (by kernel_rfl) rfl (e_indexAddr (α := (Int) × (Int)) (xs := q) (v := q_v) (i := 0) Try.underlying25 rfl rfl r_q_v rfl (by omega) (by omega)) ?_
 refine x_val (v := Value.agg (List.toArray [Value.int .i64 ((gI q 0).1), Value.int .i64 ((gI q 0).2)])) 2 [1, 0, 3, 4, 5, 6, 7, 8] rfl (by kernel_rfl) (by kernel_rfl) rfl (e_load_elN (α := (Int) × (Int)) (xs := q) (v := q_v) (i := 0) tp23_gw rfl r_q_v (by omega) (by omega) rfl) ?_
 refine x_pure (v := q_v) 3 rfl (by kernel_rfl) (by kernel_rfl) rfl (fun w => e_move rfl) ?_
 refine x_pure (v := q_v) 4 rfl (by kernel_rfl) (by kernel_rfl) rfl (fun w => e_move rfl) ?_
 have len12 := (r_q_v).small
 refine x_pure (v := Value.int .i64 (List.length q : Int)) 5 rfl (by kernel_rfl) (by kernel_rfl) rfl (fun w => e_len Try.underlying25 rfl r_q_v) ?_
 refine x_pure (v := Value.int .i64 ((List.length q : Int) - 1)) 6 rfl (by kernel_rfl) (by kernel_rfl) rfl (fun w => e_sub (m := (List.length q : Int)) (n := 1) rfl rfl (by omega)) ?_
 refine x_val (v := Value.pointer (some (eAddr q_v 2 (Int.toNat ((List.length q : Int) - 1))))) 7 [6, 5, 4, 3, 2, 1, 0] rfl (by kernel_rfl) (by kernel_rfl) rfl (e_indexAddr (α := (Int) × (Int)) (xs := q) (v := q_v) (i := (List.length q : Int) - 1) Try.underlying25 rfl rfl r_q_v rfl (by omega) (by omega)) ?_
 refine x_val (v := Value.agg (List.toArray [Value.int .i64 ((gI q ((List.length q : Int) - 1)).1), Value.int .i64 ((gI q ((List.length q : Int) - 1)).2)])) 8 [7, 6, 5, 4, 3, 2, 1, 0] rfl (by kernel_rfl) (by kernel_rfl) rfl (e_load_elN (α := (Int) × (Int)) (xs := q) (v := q_v) (i := (List.length q : Int) - 1) tp23_gw rfl r_q_v (by omega) (by omega) rfl) ?_
 refine x_one 9 rfl (by kernel_rfl) rfl ?_
 refine o_buildSlice (α := (Int) × (Int)) g4 (is 2) (is 2) (2, 0) rfl ([(gI q 0), (gI q ((List.length q : Int) - 1))] : List ((Int) × (Int))) Try.underlying25 tp23_gw (by decide) (by decide) (vs := [(0, Value.agg (List.toArray [Value.int .i64 ((gI q 0).1), Value.int .i64 ((gI q 0).2)])), (1, Value.agg (List.toArray [Value.int .i64 ((gI q ((List.length q : Int) - 1)).1), Value.int .i64 ((gI q ((List.length q : Int) - 1)).2)]))]) rfl rfl (.cons rfl (.cons rfl .nil)) ?_
 intro g13 w14 v15 ch16 o17
 refine x_pure (v := v15) 10 rfl (by kernel_rfl) (by kernel_rfl) rfl (fun w => e_assign rfl) ?_
 refine x_nil (by kernel_rfl) ?_
 refine run_seq (run_region rfl ?_)
 refine l_val (v := Value.slice none 0 0) rfl (e_assign rfl) ?_
 refine l_nil (run_seq (run_seq (run_region rfl ?_)))
 refine l_val (v := Value.int .i64 0) rfl (e_assign rfl) ?_
 refine l_nil ?_
 refine run_block ?_
 refine run_loop0 ?_
 refine run_seq (run_seq (run_region rfl ?_))
 refine l_val (v := Value.int .i64 0) rfl (e_move rfl) ?_
 refine l_val (v := Value.bool true) rfl (e_lss (m := 0) (n := 2) rfl rfl) ?_
 refine l_nil ?_
 refine run_cond_t rfl rfl ?_
 refine run_skip ?_
 refine run_seq ?_
 refine run_block ?_
 refine run_seq (run_region rfl ?_)
 refine l_val (v := v15) rfl (e_move rfl) ?_
 refine l_val (v := v6) rfl (e_move rfl) ?_
 refine l_val (v := Value.int .i64 0) rfl (e_move rfl) ?_
 replace o8 := (o8.chg ch9 (not_no _) (not_no _)).chg ch16 (not_no _) (not_no _)
 refine l_val (v := Value.pointer (some (eAddr v6 2 (Int.toNat 0)))) rfl (e_indexAddr (α := (Int) × (Int)) (xs := ([(gI p 0), (gI p ((List.length p : Int) - 1))] : List ((Int) × (Int)))) (v := v6) (i := 0) Try.underlying25 rfl rfl o8.flat rfl (by omega) (by first | omega | (simp only [List.length_set, List.length_append, List.length_cons, List.length_nil, List.length_replicate, List.length_map, List.length_take, List.length_drop]; omega) | (simp; done) | (simp; omega))) ?_
 refine l_val (v := Value.agg (List.toArray [Value.int .i64 ((gI p 0).1), Value.int .i64 ((gI p 0).2)])) rfl (e_load_elN (α := (Int) × (Int)) (xs := ([(gI p 0), (gI p ((List.length p : Int) - 1))] : List ((Int) × (Int)))) (v := v6) (i := 0) tp23_gw rfl o8.flat (by omega) (by first | omega | (simp only [List.length_set, List.length_append, List.length_cons, List.length_nil, List.length_replicate, List.length_map, List.length_take, List.length_drop]; omega) | (simp; done) | (simp; omega)) rfl) ?_
 refine l_op rfl ?_
 refine o_call (v := Value.bool (decide ((gI p 0) ∈ ([(gI q 0), (gI q ((List.length q : Int) - 1))] : List ((Int) × (Int)))))) (e_call (vals := [v15, Value.agg (List.toArray [Value.int .i64 ((gI p 0).1), Value.int .i64 ((gI p 0).2)])]) Try.func53 bd53_gw nm53_gw rfl) (has_ok w14 ([(gI q 0), (gI q ((List.length q : Int) - 1))] : List ((Int) × (Int))) v15 (o17.flat).ro (gI p 0)) ?_
 intro w18 hb19
 replace hb19 := chg_below hb19 g13
 refine l_nil ?_
 by_cases p7 : (decide ((gI p 0) ∈ ([(gI q 0), (gI q ((List.length q : Int) - 1))] : List ((Int) × (Int))))) = true
 ·
  refine run_cond_t rfl p7 ?_
  refine run_region rfl ?_
  refine l_val (v := Value.slice none 0 0) rfl (e_move rfl) ?_
  refine l_val (v := v6) rfl (e_move rfl) ?_
  refine l_val (v := Value.int .i64 0) rfl (e_move rfl) ?_
  replace o8 := o8.chg hb19 (not_no _) (not_no _)
  refine l_val (v := Value.pointer (some (eAddr v6 2 (Int.toNat 0)))) rfl (e_indexAddr (α := (Int) × (Int)) (xs := ([(gI p 0), (gI p ((List.length p : Int) - 1))] : List ((Int) × (Int)))) (v := v6) (i := 0) Try.underlying25 rfl rfl o8.flat rfl (by omega) (by first | omega | (simp only [List.length_set, List.length_append, List.length_cons, List.length_nil, List.length_replicate, List.length_map, List.length_take, List.length_drop]; omega) | (simp; done) | (simp; omega))) ?_
  refine l_val (v := Value.agg (List.toArray [Value.int .i64 ((gI p 0).1), Value.int .i64 ((gI p 0).2)])) rfl (e_load_elN (α := (Int) × (Int)) (xs := ([(gI p 0), (gI p ((List.length p : Int) - 1))] : List ((Int) × (Int)))) (v := v6) (i := 0) tp23_gw rfl o8.flat (by omega) (by first | omega | (simp only [List.length_set, List.length_append, List.length_cons, List.length_nil, List.length_replicate, List.length_map, List.length_take, List.length_drop]; omega) | (simp; done) | (simp; omega)) rfl) ?_
  refine l_op rfl ?_
  refine o_buildSlice (α := (Int) × (Int)) g13 (is 3) (is 3) (3, 0) rfl ([(gI p 0)] : List ((Int) × (Int))) Try.underlying25 tp23_gw (by decide) (by decide) (vs := [(0, Value.agg (List.toArray [Value.int .i64 ((gI p 0).1), Value.int .i64 ((gI p 0).2)]))]) rfl rfl (.cons rfl .nil) ?_
  intro g20 w21 v22 ch23 o24
  refine l_op rfl ?_
  refine o_append (α := (Int) × (Int)) (xs := ([])) (ys := ([(gI p 0)] : List ((Int) × (Int)))) g20 (J := is 4) (S := is 4) (4, 0) rfl Try.underlying25 tp23_gw (by decide) rfl rfl rfl Ow.nil o24.flat (by decide) (by first | omega | (simp; done) | (simp; omega)) ?_
  intro g25 w26 v27 ch28 o29
  replace o29 : Ow g25 (is 4) (is 4) w26 v27 ([(gI p 0)] : List ((Int) × (Int))) := o29
  replace o29 : Ow g25 (is 4) (is 4) w26 v27 (([(gI p 0)] : List ((Int) × (Int))) : List ((Int) × (Int))) := o29
  refine l_val (v := v27) rfl (e_assign rfl) ?_
  refine l_nil ?_
  refine run_inBlock ?_
  clear o24
  refine run_region rfl ?_
  refine l_val (v := Value.int .i64 0) rfl (e_move rfl) ?_
  refine l_val (v := Value.int .i64 1) rfl (e_add (m := 0) (n := 1) rfl rfl (by omega)) ?_
  refine l_val (v := Value.int .i64 1) rfl (e_assign rfl) ?_
  refine l_nil ?_
  refine run_inLoop ?_
  refine run_seq (run_seq (run_region rfl ?_))
  refine l_val (v := Value.int .i64 1) rfl (e_move rfl) ?_
  refine l_val (v := Value.bool true) rfl (e_lss (m := 1) (n := 2) rfl rfl) ?_
  refine l_nil ?_
  refine run_cond_t rfl rfl ?_
  refine run_skip ?_
  refine run_seq ?_
  refine run_block ?_
  refine run_seq (run_region rfl ?_)
  refine l_val (v := v15) rfl (e_move rfl) ?_
  refine l_val (v := v6) rfl (e_move rfl) ?_
  refine l_val (v := Value.int .i64 1) rfl (e_move rfl) ?_
  replace o8 := (o8.chg ch23 (not_no _) (not_no _)).chg ch28 (is_ne rfl) (is_ne rfl)
  refine l_val (v := Value.pointer (some (eAddr v6 2 (Int.toNat 1)))) rfl (e_indexAddr (α := (Int) × (Int)) (xs := ([(gI p 0), (gI p ((List.length p : Int) - 1))] : List ((Int) × (Int)))) (v := v6) (i := 1) Try.underlying25 rfl rfl o8.flat rfl (by omega) (by first | omega | (simp only [List.length_set, List.length_append, List.length_cons, List.length_nil, List.length_replicate, List.length_map, List.length_take, List.length_drop]; omega) | (simp; done) | (simp; omega))) ?_
  refine l_val (v := Value.agg (List.toArray [Value.int .i64 ((gI p ((List.length p : Int) - 1)).1), Value.int .i64 ((gI p ((List.length p : Int) - 1)).2)])) rfl (e_load_elN (α := (Int) × (Int)) (xs := ([(gI p 0), (gI p ((List.length p : Int) - 1))] : List ((Int) × (Int)))) (v := v6) (i := 1) tp23_gw rfl o8.flat (by omega) (by first | omega | (simp only [List.length_set, List.length_append, List.length_cons, List.length_nil, List.length_replicate, List.length_map, List.length_take, List.length_drop]; omega) | (simp; done) | (simp; omega)) rfl) ?_
  have C30 : Chg (inl [4]) _ _ _ _ := (hb19.n).seq ((ch23.n).seq (ch28.l rfl))
  replace o17 := o17.chg C30 (is_nl rfl) (is_nl rfl)
  refine l_op rfl ?_
  refine o_call (v := Value.bool (decide ((gI p ((List.length p : Int) - 1)) ∈ ([(gI q 0), (gI q ((List.length q : Int) - 1))] : List ((Int) × (Int)))))) (e_call (vals := [v15, Value.agg (List.toArray [Value.int .i64 ((gI p ((List.length p : Int) - 1)).1), Value.int .i64 ((gI p ((List.length p : Int) - 1)).2)])]) Try.func53 bd53_gw nm53_gw rfl) (has_ok w26 ([(gI q 0), (gI q ((List.length q : Int) - 1))] : List ((Int) × (Int))) v15 (o17.flat).ro (gI p ((List.length p : Int) - 1))) ?_
  intro w31 hb32
  replace hb32 := chg_below hb32 g25
  refine l_nil ?_
  by_cases p7_33 : (decide ((gI p ((List.length p : Int) - 1)) ∈ ([(gI q 0), (gI q ((List.length q : Int) - 1))] : List ((Int) × (Int))))) = true
  ·
   refine run_cond_t rfl p7_33 ?_
   refine run_region rfl ?_
   refine l_val (v := v27) rfl (e_move rfl) ?_
   refine l_val (v := v6) rfl (e_move rfl) ?_
   refine l_val (v := Value.int .i64 1) rfl (e_move rfl) ?_
   replace o8 := o8.chg hb32 (not_no _) (not_no _)
   refine l_val (v := Value.pointer (some (eAddr v6 2 (Int.toNat 1)))) rfl (e_indexAddr (α := (Int) × (Int)) (xs := ([(gI p 0), (gI p ((List.length p : Int) - 1))] : List ((Int) × (Int)))) (v := v6) (i := 1) Try.underlying25 rfl rfl o8.flat rfl (by omega) (by first | omega | (simp only [List.length_set, List.length_append, List.length_cons, List.length_nil, List.length_replicate, List.length_map, List.length_take, List.length_drop]; omega) | (simp; done) | (simp; omega))) ?_
   refine l_val (v := Value.agg (List.toArray [Value.int .i64 ((gI p ((List.length p : Int) - 1)).1), Value.int .i64 ((gI p ((List.length p : Int) - 1)).2)])) rfl (e_load_elN (α := (Int) × (Int)) (xs := ([(gI p 0), (gI p ((List.length p : Int) - 1))] : List ((Int) × (Int)))) (v := v6) (i := 1) tp23_gw rfl o8.flat (by omega) (by first | omega | (simp only [List.length_set, List.length_append, List.length_cons, List.length_nil, List.length_replicate, List.length_map, List.length_take, List.length_drop]; omega) | (simp; done) | (simp; omega)) rfl) ?_
   refine l_op rfl ?_
   refine o_buildSlice (α := (Int) × (Int)) g25 (is 3) (is 3) (3, 0) rfl ([(gI p ((List.length p : Int) - 1))] : List ((Int) × (Int))) Try.underlying25 tp23_gw (by decide) (by decide) (vs := [(0, Value.agg (List.toArray [Value.int .i64 ((gI p ((List.length p : Int) - 1)).1), Value.int .i64 ((gI p ((List.length p : Int) - 1)).2)]))]) rfl rfl (.cons rfl .nil) ?_
   intro g34 w35 v36 ch37 o38
   refine l_op rfl ?_
   replace o29 := (o29.chg hb32 (not_no _) (not_no _)).chg ch37 (not_no _) (not_no _)
   refine o_append (α := (Int) × (Int)) (xs := ([(gI p 0)] : List ((Int) × (Int)))) (ys := ([(gI p ((List.length p : Int) - 1))] : List ((Int) × (Int)))) g34 (J := is 4) (S := is 4) (4, 0) rfl Try.underlying25 tp23_gw (by decide) rfl rfl rfl o29 o38.flat (by decide) (by first | omega | (simp; done) | (simp; omega)) ?_
   intro g39 w40 v41 ch42 o43
   clear o29
   replace o43 : Ow g39 (is 4) (is 4) w40 v41 ([(gI p 0), (gI p ((List.length p : Int) - 1))] : List ((Int) × (Int))) := o43
   refine l_val (v := v41) rfl (e_assign rfl) ?_
   refine l_nil ?_
   refine run_inBlock ?_
   clear o38
   refine run_region rfl ?_
   refine l_val (v := Value.int .i64 1) rfl (e_move rfl) ?_
   refine l_val (v := Value.int .i64 2) rfl (e_add (m := 1) (n := 1) rfl rfl (by omega)) ?_
   refine l_val (v := Value.int .i64 2) rfl (e_assign rfl) ?_
   refine l_nil ?_
   refine run_inLoop ?_
   refine run_seq (run_seq (run_region rfl ?_))
   refine l_val (v := Value.int .i64 2) rfl (e_move rfl) ?_
   refine l_val (v := Value.bool false) rfl (e_lss (m := 2) (n := 2) rfl rfl) ?_
   refine l_nil ?_
   refine run_cond_f rfl rfl ?_
   refine run_exit rfl ?_
   refine run_seq ?_
   clear o8
   clear o17
   refine run_region rfl ?_
   refine l_val (v := p_v) rfl (e_move rfl) ?_
   refine l_val (v := q_v) rfl (e_move rfl) ?_
   refine l_val (v := v41) rfl (e_move rfl) ?_
   have C44 : Chg (inl [4]) _ _ _ _ := (ch7.n).seq ((ch9.n).seq ((ch16.n).seq ((hb19.n).seq ((ch23.n).seq ((ch28.l rfl).seq ((hb32.n).seq ((ch37.n).seq (ch42.l rfl))))))))
   replace r_p_v := r_p_v.chg C44 (is_nl rfl)
   have C45 : Chg (inl [4]) _ _ _ _ := (ch16.n).seq ((hb19.n).seq ((ch23.n).seq ((ch28.l rfl).seq ((hb32.n).seq ((ch37.n).seq (ch42.l rfl))))))
   replace r_q_v := r_q_v.chg C45 (is_nl rfl)
   refine l_op rfl ?_
   refine o_call (v := Value.bool (decide (beyP p q ([(gI p 0), (gI p ((List.length p : Int) - 1))] : List ((Int) × (Int)))))) (e_call (vals := [p_v, q_v, v41]) Try.func54 bd54_gw nm54_gw rfl) (Beyond_ok w40 p p_v (r_p_v).ro q q_v (r_q_v).ro ([(gI p 0), (gI p ((List.length p : Int) - 1))] : List ((Int) × (Int))) v41 (o43.flat).ro (by first | assumption | (simp; done) | (intro x hx; simp only [List.not_mem_nil] at hx; done) | (intro x hx; simp only [List.mem_cons, List.not_mem_nil, or_false] at hx; first | (rcases hx with rfl | rfl <;> assumption) | (subst hx; assumption))) (by first | assumption | (simp; done) | (intro x hx; simp only [List.not_mem_nil] at hx; done) | (intro x hx; simp only [List.mem_cons, List.not_mem_nil, or_false] at hx; first | (rcases hx with rfl | rfl <;> assumption) | (subst hx; assumption))) (by first | assumption | (simp; done) | (intro x hx; simp only [List.not_mem_nil] at hx; done) | (intro x hx; simp only [List.mem_cons, List.not_mem_nil, or_false] at hx; first | (rcases hx with rfl | rfl <;> assumption) | (subst hx; assumption))) (by first | assumption | (simp; done) | (intro x hx; simp only [List.not_mem_nil] at hx; done) | (intro x hx; simp only [List.mem_cons, List.not_mem_nil, or_false] at hx; first | (rcases hx with rfl | rfl <;> assumption) | (subst hx; assumption))) (by first | assumption | (simp; done) | (intro x hx; simp only [List.not_mem_nil] at hx; done) | (intro x hx; simp only [List.mem_cons, List.not_mem_nil, or_false] at hx; first | (rcases hx with rfl | rfl <;> assumption) | (subst hx; assumption))) (by first | assumption | (simp; done) | (intro x hx; simp only [List.not_mem_nil] at hx; done) | (intro x hx; simp only [List.mem_cons, List.not_mem_nil, or_false] at hx; first | (rcases hx with rfl | rfl <;> assumption) | (subst hx; assumption)))) ?_
   intro w46 hb47
   replace hb47 := chg_below hb47 g39
   refine l_val (v := Value.bool (!(decide (beyP p q ([(gI p 0), (gI p ((List.length p : Int) - 1))] : List ((Int) × (Int))))))) rfl (e_not (b := (decide (beyP p q ([(gI p 0), (gI p ((List.length p : Int) - 1))] : List ((Int) × (Int)))))) rfl) ?_
   refine l_val (v := Value.bool (!(decide (beyP p q ([(gI p 0), (gI p ((List.length p : Int) - 1))] : List ((Int) × (Int))))))) rfl (e_assign rfl) ?_
   refine l_nil ?_
   refine run_ret (vs := [Value.bool (!(decide (beyP p q ([(gI p 0), (gI p ((List.length p : Int) - 1))] : List ((Int) × (Int))))))]) Try.func34 (.tmp rfl .nil) ?_
   -- return 0
   have e0 : (!(decide (beyP p q ([(gI p 0), (gI p ((List.length p : Int) - 1))] : List ((Int) × (Int))))) : Bool) = (decide (appP p q)) := by
     exact app_bey hp hq hp0 hq0 (both_mem (by first | (rw [if_pos (show gI p 0 ∈ [gI q 0, gI q ((q.length : Int) - 1)] from of_decide_eq_true (by assumption)), if_pos (show gI p ((p.length : Int) - 1) ∈ [gI q 0, gI q ((q.length : Int) - 1)] from of_decide_eq_true (by assumption))]; rfl) | (rw [if_pos (show gI p 0 ∈ [gI q 0, gI q ((q.length : Int) - 1)] from of_decide_eq_true (by assumption)), if_neg (fun h : gI p ((p.length : Int) - 1) ∈ [gI q 0, gI q ((q.length : Int) - 1)] => absurd (decide_eq_true h) (by assumption))]; rfl) | (rw [if_neg (fun h : gI p 0 ∈ [gI q 0, gI q ((q.length : Int) - 1)] => absurd (decide_eq_true h) (by assumption)), if_pos (show gI p ((p.length : Int) - 1) ∈ [gI q 0, gI q ((q.length : Int) - 1)] from of_decide_eq_true (by assumption))]; rfl) | (rw [if_neg (fun h : gI p 0 ∈ [gI q 0, gI q ((q.length : Int) - 1)] => absurd (decide_eq_true h) (by assumption)), if_neg (fun h : gI p ((p.length : Int) - 1) ∈ [gI q 0, gI q ((q.length : Int) - 1)] => absurd (decide_eq_true h) (by assumption))]; rfl)))
   have C48 : Chg (inl [4]) _ _ _ _ := (ch1.n).seq ((ch7.n).seq ((ch9.n).seq ((ch16.n).seq ((hb19.n).seq ((ch23.n).seq ((ch28.l rfl).seq ((hb32.n).seq ((ch37.n).seq ((ch42.l rfl).seq (hb47.n))))))))))
   replace hbase := hbase.chg C48 (is_nl rfl)
   exact ⟨(congrArg (a₁ := !(decide (beyP p q ([(gI p 0), (gI p ((List.length p : Int) - 1))] : List ((Int) × (Int)))))) (fun (z0 : Bool) => Ending.returned (Value.bool z0)) e0), hbase.below⟩
  refine run_cond_f rfl (Bool.eq_false_iff.2 p7_33) ?_
  refine run_skip ?_
  refine run_inBlock ?_
  refine run_region rfl ?_
  refine l_val (v := Value.int .i64 1) rfl (e_move rfl) ?_
  refine l_val (v := Value.int .i64 2) rfl (e_add (m := 1) (n := 1) rfl rfl (by omega)) ?_
  refine l_val (v := Value.int .i64 2) rfl (e_assign rfl) ?_
  refine l_nil ?_
  refine run_inLoop ?_
  refine run_seq (run_seq (run_region rfl ?_))
  refine l_val (v := Value.int .i64 2) rfl (e_move rfl) ?_
  refine l_val (v := Value.bool false) rfl (e_lss (m := 2) (n := 2) rfl rfl) ?_
  refine l_nil ?_
  refine run_cond_f rfl rfl ?_
  refine run_exit rfl ?_
  refine run_seq ?_
  clear o8
  clear o17
  refine run_region rfl ?_
  refine l_val (v := p_v) rfl (e_move rfl) ?_
  refine l_val (v := q_v) rfl (e_move rfl) ?_
  refine l_val (v := v27) rfl (e_move rfl) ?_
  have C49 : Chg (inl [4]) _ _ _ _ := (ch7.n).seq ((ch9.n).seq ((ch16.n).seq ((hb19.n).seq ((ch23.n).seq ((ch28.l rfl).seq (hb32.n))))))
  replace r_p_v := r_p_v.chg C49 (is_nl rfl)
  have C50 : Chg (inl [4]) _ _ _ _ := (ch16.n).seq ((hb19.n).seq ((ch23.n).seq ((ch28.l rfl).seq (hb32.n))))
  replace r_q_v := r_q_v.chg C50 (is_nl rfl)
  replace o29 := o29.chg hb32 (not_no _) (not_no _)
  refine l_op rfl ?_
  refine o_call (v := Value.bool (decide (beyP p q ([(gI p 0)] : List ((Int) × (Int)))))) (e_call (vals := [p_v, q_v, v27]) Try.func54 bd54_gw nm54_gw rfl) (Beyond_ok w31 p p_v (r_p_v).ro q q_v (r_q_v).ro ([(gI p 0)] : List ((Int) × (Int))) v27 (o29.flat).ro (by first | assumption | (simp; done) | (intro x hx; simp only [List.not_mem_nil] at hx; done) | (intro x hx; simp only [List.mem_cons, List.not_mem_nil, or_false] at hx; first | (rcases hx with rfl | rfl <;> assumption) | (subst hx; assumption))) (by first | assumption | (simp; done) | (intro x hx; simp only [List.not_mem_nil] at hx; done) | (intro x hx; simp only [List.mem_cons, List.not_mem_nil, or_false] at hx; first | (rcases hx with rfl | rfl <;> assumption) | (subst hx; assumption))) (by first | assumption | (simp; done) | (intro x hx; simp only [List.not_mem_nil] at hx; done) | (intro x hx; simp only [List.mem_cons, List.not_mem_nil, or_false] at hx; first | (rcases hx with rfl | rfl <;> assumption) | (subst hx; assumption))) (by first | assumption | (simp; done) | (intro x hx; simp only [List.not_mem_nil] at hx; done) | (intro x hx; simp only [List.mem_cons, List.not_mem_nil, or_false] at hx; first | (rcases hx with rfl | rfl <;> assumption) | (subst hx; assumption))) (by first | assumption | (simp; done) | (intro x hx; simp only [List.not_mem_nil] at hx; done) | (intro x hx; simp only [List.mem_cons, List.not_mem_nil, or_false] at hx; first | (rcases hx with rfl | rfl <;> assumption) | (subst hx; assumption))) (by first | assumption | (simp; done) | (intro x hx; simp only [List.not_mem_nil] at hx; done) | (intro x hx; simp only [List.mem_cons, List.not_mem_nil, or_false] at hx; first | (rcases hx with rfl | rfl <;> assumption) | (subst hx; assumption)))) ?_
  intro w51 hb52
  replace hb52 := chg_below hb52 g25
  refine l_val (v := Value.bool (!(decide (beyP p q ([(gI p 0)] : List ((Int) × (Int))))))) rfl (e_not (b := (decide (beyP p q ([(gI p 0)] : List ((Int) × (Int)))))) rfl) ?_
  refine l_val (v := Value.bool (!(decide (beyP p q ([(gI p 0)] : List ((Int) × (Int))))))) rfl (e_assign rfl) ?_
  refine l_nil ?_
  refine run_ret (vs := [Value.bool (!(decide (beyP p q ([(gI p 0)] : List ((Int) × (Int))))))]) Try.func34 (.tmp rfl .nil) ?_
  -- return 1
  have e0 : (!(decide (beyP p q ([(gI p 0)] : List ((Int) × (Int))))) : Bool) = (decide (appP p q)) := by
    exact app_bey hp hq hp0 hq0 (both_mem (by first | (rw [if_pos (show gI p 0 ∈ [gI q 0, gI q ((q.length : Int) - 1)] from of_decide_eq_true (by assumption)), if_pos (show gI p ((p.length : Int) - 1) ∈ [gI q 0, gI q ((q.length : Int) - 1)] from of_decide_eq_true (by assumption))]; rfl) | (rw [if_pos (show gI p 0 ∈ [gI q 0, gI q ((q.length : Int) - 1)] from of_decide_eq_true (by assumption)), if_neg (fun h : gI p ((p.length : Int) - 1) ∈ [gI q 0, gI q ((q.length : Int) - 1)] => absurd (decide_eq_true h) (by assumption))]; rfl) | (rw [if_neg (fun h : gI p 0 ∈ [gI q 0, gI q ((q.length : Int) - 1)] => absurd (decide_eq_true h) (by assumption)), if_pos (show gI p ((p.length : Int) - 1) ∈ [gI q 0, gI q ((q.length : Int) - 1)] from of_decide_eq_true (by assumption))]; rfl) | (rw [if_neg (fun h : gI p 0 ∈ [gI q 0, gI q ((q.length : Int) - 1)] => absurd (decide_eq_true h) (by assumption)), if_neg (fun h : gI p ((p.length : Int) - 1) ∈ [gI q 0, gI q ((q.length : Int) - 1)] => absurd (decide_eq_true h) (by assumption))]; rfl)))
  have C53 : Chg (inl [4]) _ _ _ _ := (ch1.n).seq ((ch7.n).seq ((ch9.n).seq ((ch16.n).seq ((hb19.n).seq ((ch23.n).seq ((ch28.l rfl).seq ((hb32.n).seq (hb52.n))))))))
  replace hbase := hbase.chg C53 (is_nl rfl)
  exact ⟨(congrArg (a₁ := !(decide (beyP p q ([(gI p 0)] : List ((Int) × (Int)))))) (fun (z0 : Bool) => Ending.returned (Value.bool z0)) e0), hbase.below⟩
 refine run_cond_f rfl (Bool.eq_false_iff.2 p7) ?_
 refine run_skip ?_
 refine run_inBlock ?_
 refine run_region rfl ?_
 refine l_val (v := Value.int .i64 0) rfl (e_move rfl) ?_
 refine l_val (v := Value.int .i64 1) rfl (e_add (m := 0) (n := 1) rfl rfl (by omega)) ?_
 refine l_val (v := Value.int .i64 1) rfl (e_assign rfl) ?_
 refine l_nil ?_
 refine run_inLoop ?_
 refine run_seq (run_seq (run_region rfl ?_))
 refine l_val (v := Value.int .i64 1) rfl (e_move rfl) ?_
 refine l_val (v := Value.bool true) rfl (e_lss (m := 1) (n := 2) rfl rfl) ?_
 refine l_nil ?_
 refine run_cond_t rfl rfl ?_
 refine run_skip ?_
 refine run_seq ?_
 refine run_block ?_
 refine run_seq (run_region rfl ?_)
 refine l_val (v := v15) rfl (e_move rfl) ?_
 refine l_val (v := v6) rfl (e_move rfl) ?_
 refine l_val (v := Value.int .i64 1) rfl (e_move rfl) ?_
 replace o8 := o8.chg hb19 (not_no _) (not_no _)
 refine l_val (v := Value.pointer (some (eAddr v6 2 (Int.toNat 1)))) rfl (e_indexAddr (α := (Int) × (Int)) (xs := ([(gI p 0), (gI p ((List.length p : Int) - 1))] : List ((Int) × (Int)))) (v := v6) (i := 1) Try.underlying25 rfl rfl o8.flat rfl (by omega) (by first | omega | (simp only [List.length_set, List.length_append, List.length_cons, List.length_nil, List.length_replicate, List.length_map, List.length_take, List.length_drop]; omega) | (simp; done) | (simp; omega))) ?_
 refine l_val (v := Value.agg (List.toArray [Value.int .i64 ((gI p ((List.length p : Int) - 1)).1), Value.int .i64 ((gI p ((List.length p : Int) - 1)).2)])) rfl (e_load_elN (α := (Int) × (Int)) (xs := ([(gI p 0), (gI p ((List.length p : Int) - 1))] : List ((Int) × (Int)))) (v := v6) (i := 1) tp23_gw rfl o8.flat (by omega) (by first | omega | (simp only [List.length_set, List.length_append, List.length_cons, List.length_nil, List.length_replicate, List.length_map, List.length_take, List.length_drop]; omega) | (simp; done) | (simp; omega)) rfl) ?_
 replace o17 := o17.chg hb19 (not_no _) (not_no _)
 refine l_op rfl ?_
 refine o_call (v := Value.bool (decide ((gI p ((List.length p : Int) - 1)) ∈ ([(gI q 0), (gI q ((List.length q : Int) - 1))] : List ((Int) × (Int)))))) (e_call (vals := [v15, Value.agg (List.toArray [Value.int .i64 ((gI p ((List.length p : Int) - 1)).1), Value.int .i64 ((gI p ((List.length p : Int) - 1)).2)])]) Try.func53 bd53_gw nm53_gw rfl) (has_ok w18 ([(gI q 0), (gI q ((List.length q : Int) - 1))] : List ((Int) × (Int))) v15 (o17.flat).ro (gI p ((List.length p : Int) - 1))) ?_
 intro w54 hb55
 replace hb55 := chg_below hb55 g13
 refine l_nil ?_
 by_cases p7_56 : (decide ((gI p ((List.length p : Int) - 1)) ∈ ([(gI q 0), (gI q ((List.length q : Int) - 1))] : List ((Int) × (Int))))) = true
 ·
  refine run_cond_t rfl p7_56 ?_
  refine run_region rfl ?_
  refine l_val (v := Value.slice none 0 0) rfl (e_move rfl) ?_
  refine l_val (v := v6) rfl (e_move rfl) ?_
  refine l_val (v := Value.int .i64 1) rfl (e_move rfl) ?_
  replace o8 := o8.chg hb55 (not_no _) (not_no _)
  refine l_val (v := Value.pointer (some (eAddr v6 2 (Int.toNat 1)))) rfl (e_indexAddr (α := (Int) × (Int)) (xs := ([(gI p 0), (gI p ((List.length p : Int) - 1))] : List ((Int) × (Int)))) (v := v6) (i := 1) Try.underlying25 rfl rfl o8.flat rfl (by omega) (by first | omega | (simp only [List.length_set, List.length_append, List.length_cons, List.length_nil, List.length_replicate, List.length_map, List.length_take, List.length_drop]; omega) | (simp; done) | (simp; omega))) ?_
  refine l_val (v := Value.agg (List.toArray [Value.int .i64 ((gI p ((List.length p : Int) - 1)).1), Value.int .i64 ((gI p ((List.length p : Int) - 1)).2)])) rfl (e_load_elN (α := (Int) × (Int)) (xs := ([(gI p 0), (gI p ((List.length p : Int) - 1))] : List ((Int) × (Int)))) (v := v6) (i := 1) tp23_gw rfl o8.flat (by omega) (by first | omega | (simp only [List.length_set, List.length_append, List.length_cons, List.length_nil, List.length_replicate, List.length_map, List.length_take, List.length_drop]; omega) | (simp; done) | (simp; omega)) rfl) ?_
  refine l_op rfl ?_
  refine o_buildSlice (α := (Int) × (Int)) g13 (is 3) (is 3) (3, 0) rfl ([(gI p ((List.length p : Int) - 1))] : List ((Int) × (Int))) Try.underlying25 tp23_gw (by decide) (by decide) (vs := [(0, Value.agg (List.toArray [Value.int .i64 ((gI p ((List.length p : Int) - 1)).1), Value.int .i64 ((gI p ((List.length p : Int) - 1)).2)]))]) rfl rfl (.cons rfl .nil) ?_
  intro g57 w58 v59 ch60 o61
  refine l_op rfl ?_
  refine o_append (α := (Int) × (Int)) (xs := ([])) (ys := ([(gI p ((List.length p : Int) - 1))] : List ((Int) × (Int)))) g57 (J := is 4) (S := is 4) (4, 0) rfl Try.underlying25 tp23_gw (by decide) rfl rfl rfl Ow.nil o61.flat (by decide) (by first | omega | (simp; done) | (simp; omega)) ?_
  intro g62 w63 v64 ch65 o66
  replace o66 : Ow g62 (is 4) (is 4) w63 v64 ([(gI p ((List.length p : Int) - 1))] : List ((Int) × (Int))) := o66
  replace o66 : Ow g62 (is 4) (is 4) w63 v64 (([(gI p ((List.length p : Int) - 1))] : List ((Int) × (Int))) : List ((Int) × (Int))) := o66
  refine l_val (v := v64) rfl (e_assign rfl) ?_
  refine l_nil ?_
  refine run_inBlock ?_
  clear o61
  refine run_region rfl ?_
  refine l_val (v := Value.int .i64 1) rfl (e_move rfl) ?_
  refine l_val (v := Value.int .i64 2) rfl (e_add (m := 1) (n := 1) rfl rfl (by omega)) ?_
  refine l_val (v := Value.int .i64 2) rfl (e_assign rfl) ?_
  refine l_nil ?_
  refine run_inLoop ?_
  refine run_seq (run_seq (run_region rfl ?_))
  refine l_val (v := Value.int .i64 2) rfl (e_move rfl) ?_
  refine l_val (v := Value.bool false) rfl (e_lss (m := 2) (n := 2) rfl rfl) ?_
  refine l_nil ?_
  refine run_cond_f rfl rfl ?_
  refine run_exit rfl ?_
  refine run_seq ?_
  clear o8
  clear o17
  refine run_region rfl ?_
  refine l_val (v := p_v) rfl (e_move rfl) ?_
  refine l_val (v := q_v) rfl (e_move rfl) ?_
  refine l_val (v := v64) rfl (e_move rfl) ?_
  have C67 : Chg (inl [4]) _ _ _ _ := (ch7.n).seq ((ch9.n).seq ((ch16.n).seq ((hb19.n).seq ((hb55.n).seq ((ch60.n).seq (ch65.l rfl))))))
  replace r_p_v := r_p_v.chg C67 (is_nl rfl)
  have C68 : Chg (inl [4]) _ _ _ _ := (ch16.n).seq ((hb19.n).seq ((hb55.n).seq ((ch60.n).seq (ch65.l rfl))))
  replace r_q_v := r_q_v.chg C68 (is_nl rfl)
  refine l_op rfl ?_
  refine o_call (v := Value.bool (decide (beyP p q ([(gI p ((List.length p : Int) - 1))] : List ((Int) × (Int)))))) (e_call (vals := [p_v, q_v, v64]) Try.func54 bd54_gw nm54_gw rfl) (Beyond_ok w63 p p_v (r_p_v).ro q q_v (r_q_v).ro ([(gI p ((List.length p : Int) - 1))] : List ((Int) × (Int))) v64 (o66.flat).ro (by first | assumption | (simp; done) | (intro x hx; simp only [List.not_mem_nil] at hx; done) | (intro x hx; simp only [List.mem_cons, List.not_mem_nil, or_false] at hx; first | (rcases hx with rfl | rfl <;> assumption) | (subst hx; assumption))) (by first | assumption | (simp; done) | (intro x hx; simp only [List.not_mem_nil] at hx; done) | (intro x hx; simp only [List.mem_cons, List.not_mem_nil, or_false] at hx; first | (rcases hx with rfl | rfl <;> assumption) | (subst hx; assumption))) (by first | assumption | (simp; done) | (intro x hx; simp only [List.not_mem_nil] at hx; done) | (intro x hx; simp only [List.mem_cons, List.not_mem_nil, or_false] at hx; first | (rcases hx with rfl | rfl <;> assumption) | (subst hx; assumption))) (by first | assumption | (simp; done) | (intro x hx; simp only [List.not_mem_nil] at hx; done) | (intro x hx; simp only [List.mem_cons, List.not_mem_nil, or_false] at hx; first | (rcases hx with rfl | rfl <;> assumption) | (subst hx; assumption))) (by first | assumption | (simp; done) | (intro x hx; simp only [List.not_mem_nil] at hx; done) | (intro x hx; simp only [List.mem_cons, List.not_mem_nil, or_false] at hx; first | (rcases hx with rfl | rfl <;> assumption) | (subst hx; assumption))) (by first | assumption | (simp; done) | (intro x hx; simp only [List.not_mem_nil] at hx; done) | (intro x hx; simp only [List.mem_cons, List.not_mem_nil, or_false] at hx; first | (rcases hx with rfl | rfl <;> assumption) | (subst hx; assumption)))) ?_
  intro w69 hb70
  replace hb70 := chg_below hb70 g62
  refine l_val (v := Value.bool (!(decide (beyP p q ([(gI p ((List.length p : Int) - 1))] : List ((Int) × (Int))))))) rfl (e_not (b := (decide (beyP p q ([(gI p ((List.length p : Int) - 1))] : List ((Int) × (Int)))))) rfl) ?_
  refine l_val (v := Value.bool (!(decide (beyP p q ([(gI p ((List.length p : Int) - 1))] : List ((Int) × (Int))))))) rfl (e_assign rfl) ?_
  refine l_nil ?_
  refine run_ret (vs := [Value.bool (!(decide (beyP p q ([(gI p ((List.length p : Int) - 1))] : List ((Int) × (Int))))))]) Try.func34 (.tmp rfl .nil) ?_
  -- return 2
  have e0 : (!(decide (beyP p q ([(gI p ((List.length p : Int) - 1))] : List ((Int) × (Int))))) : Bool) = (decide (appP p q)) := by
    exact app_bey hp hq hp0 hq0 (both_mem (by first | (rw [if_pos (show gI p 0 ∈ [gI q 0, gI q ((q.length : Int) - 1)] from of_decide_eq_true (by assumption)), if_pos (show gI p ((p.length : Int) - 1) ∈ [gI q 0, gI q ((q.length : Int) - 1)] from of_decide_eq_true (by assumption))]; rfl) | (rw [if_pos (show gI p 0 ∈ [gI q 0, gI q ((q.length : Int) - 1)] from of_decide_eq_true (by assumption)), if_neg (fun h : gI p ((p.length : Int) - 1) ∈ [gI q 0, gI q ((q.length : Int) - 1)] => absurd (decide_eq_true h) (by assumption))]; rfl) | (rw [if_neg (fun h : gI p 0 ∈ [gI q 0, gI q ((q.length : Int) - 1)] => absurd (decide_eq_true h) (by assumption)), if_pos (show gI p ((p.length : Int) - 1) ∈ [gI q 0, gI q ((q.length : Int) - 1)] from of_decide_eq_true (by assumption))]; rfl) | (rw [if_neg (fun h : gI p 0 ∈ [gI q 0, gI q ((q.length : Int) - 1)] => absurd (decide_eq_true h) (by assumption)), if_neg (fun h : gI p ((p.length : Int) - 1) ∈ [gI q 0, gI q ((q.length : Int) - 1)] => absurd (decide_eq_true h) (by assumption))]; rfl)))
  have C71 : Chg (inl [4]) _ _ _ _ := (ch1.n).seq ((ch7.n).seq ((ch9.n).seq ((ch16.n).seq ((hb19.n).seq ((hb55.n).seq ((ch60.n).seq ((ch65.l rfl).seq (hb70.n))))))))
  replace hbase := hbase.chg C71 (is_nl rfl)
  exact ⟨(congrArg (a₁ := !(decide (beyP p q ([(gI p ((List.length p : Int) - 1))] : List ((Int) × (Int)))))) (fun (z0 : Bool) => Ending.returned (Value.bool z0)) e0), hbase.below⟩
 refine run_cond_f rfl (Bool.eq_false_iff.2 p7_56) ?_
 refine run_skip ?_
 refine run_inBlock ?_
 refine run_region rfl ?_
 refine l_val (v := Value.int .i64 1) rfl (e_move rfl) ?_
 refine l_val (v := Value.int .i64 2) rfl (e_add (m := 1) (n := 1) rfl rfl (by omega)) ?_
 refine l_val (v := Value.int .i64 2) rfl (e_assign rfl) ?_
 refine l_nil ?_
 refine run_inLoop ?_
 refine run_seq (run_seq (run_region rfl ?_))
 refine l_val (v := Value.int .i64 2) rfl (e_move rfl) ?_
 refine l_val (v := Value.bool false) rfl (e_lss (m := 2) (n := 2) rfl rfl) ?_
 refine l_nil ?_
 refine run_cond_f rfl rfl ?_
 refine run_exit rfl ?_
 refine run_seq ?_
 clear o8
 clear o17
 refine run_region rfl ?_
 refine l_val (v := p_v) rfl (e_move rfl) ?_
 refine l_val (v := q_v) rfl (e_move rfl) ?_
 refine l_val (v := Value.slice none 0 0) rfl (e_move rfl) ?_
 have C72 : Chg (inl []) _ _ _ _ := (ch7.n).seq ((ch9.n).seq ((ch16.n).seq ((hb19.n).seq (hb55.n))))
 replace r_p_v := r_p_v.chg C72 (is_nl rfl)
 have C73 : Chg (inl []) _ _ _ _ := (ch16.n).seq ((hb19.n).seq (hb55.n))
 replace r_q_v := r_q_v.chg C73 (is_nl rfl)
 refine l_op rfl ?_
 refine o_call (v := Value.bool (decide (beyP p q ([])))) (e_call (vals := [p_v, q_v, Value.slice none 0 0]) Try.func54 bd54_gw nm54_gw rfl) (Beyond_ok w54 p p_v (r_p_v).ro q q_v (r_q_v).ro ([]) (Value.slice none 0 0) (Sl.nil (γ := c0) (S := any)) (by first | assumption | (simp; done) | (intro x hx; simp only [List.not_mem_nil] at hx; done) | (intro x hx; simp only [List.mem_cons, List.not_mem_nil, or_false] at hx; first | (rcases hx with rfl | rfl <;> assumption) | (subst hx; assumption))) (by first | assumption | (simp; done) | (intro x hx; simp only [List.not_mem_nil] at hx; done) | (intro x hx; simp only [List.mem_cons, List.not_mem_nil, or_false] at hx; first | (rcases hx with rfl | rfl <;> assumption) | (subst hx; assumption))) (by first | assumption | (simp; done) | (intro x hx; simp only [List.not_mem_nil] at hx; done) | (intro x hx; simp only [List.mem_cons, List.not_mem_nil, or_false] at hx; first | (rcases hx with rfl | rfl <;> assumption) | (subst hx; assumption))) (by first | assumption | (simp; done) | (intro x hx; simp only [List.not_mem_nil] at hx; done) | (intro x hx; simp only [List.mem_cons, List.not_mem_nil, or_false] at hx; first | (rcases hx with rfl | rfl <;> assumption) | (subst hx; assumption))) (by first | assumption | (simp; done) | (intro x hx; simp only [List.not_mem_nil] at hx; done) | (intro x hx; simp only [List.mem_cons, List.not_mem_nil, or_false] at hx; first | (rcases hx with rfl | rfl <;> assumption) | (subst hx; assumption))) (by first | assumption | (simp; done) | (intro x hx; simp only [List.not_mem_nil] at hx; done) | (intro x hx; simp only [List.mem_cons, List.not_mem_nil, or_false] at hx; first | (rcases hx with rfl | rfl <;> assumption) | (subst hx; assumption)))) ?_
 intro w74 hb75
 replace hb75 := chg_below hb75 g13
 refine l_val (v := Value.bool (!(decide (beyP p q ([]))))) rfl (e_not (b := (decide (beyP p q ([])))) rfl) ?_
 refine l_val (v := Value.bool (!(decide (beyP p q ([]))))) rfl (e_assign rfl) ?_
 refine l_nil ?_
 refine run_ret (vs := [Value.bool (!(decide (beyP p q ([]))))]) Try.func34 (.tmp rfl .nil) ?_
 -- return 3
 have e0 : (!(decide (beyP p q ([]))) : Bool) = (decide (appP p q)) := by
   exact app_bey hp hq hp0 hq0 (both_mem (by first | (rw [if_pos (show gI p 0 ∈ [gI q 0, gI q ((q.length : Int) - 1)] from of_decide_eq_true (by assumption)), if_pos (show gI p ((p.length : Int) - 1) ∈ [gI q 0, gI q ((q.length : Int) - 1)] from of_decide_eq_true (by assumption))]; rfl) | (rw [if_pos (show gI p 0 ∈ [gI q 0, gI q ((q.length : Int) - 1)] from of_decide_eq_true (by assumption)), if_neg (fun h : gI p ((p.length : Int) - 1) ∈ [gI q 0, gI q ((q.length : Int) - 1)] => absurd (decide_eq_true h) (by assumption))]; rfl) | (rw [if_neg (fun h : gI p 0 ∈ [gI q 0, gI q ((q.length : Int) - 1)] => absurd (decide_eq_true h) (by assumption)), if_pos (show gI p ((p.length : Int) - 1) ∈ [gI q 0, gI q ((q.length : Int) - 1)] from of_decide_eq_true (by assumption))]; rfl) | (rw [if_neg (fun h : gI p 0 ∈ [gI q 0, gI q ((q.length : Int) - 1)] => absurd (decide_eq_true h) (by assumption)), if_neg (fun h : gI p ((p.length : Int) - 1) ∈ [gI q 0, gI q ((q.length : Int) - 1)] => absurd (decide_eq_true h) (by assumption))]; rfl)))
 have C76 : Chg (inl []) _ _ _ _ := (ch1.n).seq ((ch7.n).seq ((ch9.n).seq ((ch16.n).seq ((hb19.n).seq ((hb55.n).seq (hb75.n))))))
 replace hbase := hbase.chg C76 (is_nl rfl)
 exact ⟨(congrArg (a₁ := !(decide (beyP p q ([])))) (fun (z0 : Bool) => Ending.returned (Value.bool z0)) e0), hbase.below⟩
end TL
