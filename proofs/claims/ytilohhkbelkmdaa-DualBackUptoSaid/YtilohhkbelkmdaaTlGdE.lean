import Derived.Test.YtilohhkbelkmdaaTlGdA
import Derived.Test.YtilohhkbelkmdaaTlGenO
import Derived.Test.YtilohhkbelkmdaaTlGdC
import Derived.Test.YtilohhkbelkmdaaTlP3
import Derived.Test.YtilohhkbelkmdaaProg
set_option linter.all false
set_option maxRecDepth 20000
namespace TL
open Go Go.Proofs
theorem mixed_de : Try.prog.follows .mixedOrders = true := by kernel_rfl
theorem tp3_de : Tp Try.prog 3 false 1 8 (.int .i64 0) := Tp.of (by kernel_rfl)
theorem tp22_de : Tp Try.prog 22 false 1 24 (.slice none 0 0) := Tp.of (by kernel_rfl)
theorem tp24_de : Tp Try.prog 24 true 2 32 (.agg #[.int .i64 0, .slice none 0 0]) := Tp.of (by kernel_rfl)
theorem tp60_de : Tp Try.prog 60 true 2 16 (.agg #[.int .i64 0, .int .i64 0]) := Tp.of (by kernel_rfl)
theorem bd47_de : Try.f47.body.isNone = false := rfl
theorem nm47_de : (Try.f47.name == "runtime.NumGoroutine") = false := by decide +kernel
theorem bd54_de : Try.f54.body.isNone = false := rfl
theorem nm54_de : (Try.f54.name == "runtime.NumGoroutine") = false := by decide +kernel
theorem bd67_de : Try.f67.body.isNone = false := rfl
theorem nm67_de : (Try.f67.name == "runtime.NumGoroutine") = false := by decide +kernel
theorem bd68_de : Try.f68.body.isNone = false := rfl
theorem nm68_de : (Try.f68.name == "runtime.NumGoroutine") = false := by decide +kernel
set_option maxHeartbeats 1000000 in
theorem Hop_ok (w0 : World) (g : (Int) × (List ((Int) × (Int)))) (g_v : Value) (hg_v : Ro w0 g_v g.2) (r : List (List Int)) (r_v : Value) (hr_v : Ro w0 r_v r) (from_ : Int) (to : Int) :
    Calls Try.prog 25 #[Value.agg (List.toArray [Value.int .i64 g.1, g_v]), r_v, Value.int .i64 from_, Value.int .i64 to] w0 (fun ee w => ∃ xx : Cmap × Value, ee = .returned ((fun ⟨δ, rv0⟩ => Value.tuple (List.toArray [rv0, Value.int .i64 ((hopR g r from_ to).2)])) xx) ∧ (fun (⟨δ, rv0⟩ : Cmap × Value) (w : World) => Fresh w0 δ w ∧ Ow δ (is 1) (is 1) w rv0 ((hopR g r from_ to).1)) xx w) := by
 refine calls_of_run Try.func25 rfl (Nat.le_of_ble_eq_true rfl) ?_
 have hbase := Base.start w0
 have r_g_v := hg_v.sl
 have r_r_v := hr_v.sl
 refine run_seq (run_region rfl (l_op rfl ?_))
 refine o_box c0 (is 1) (1, 0) rfl rfl ?_
 intro g4 w1 b3 ch2 bx5
 replace bx5 : Bx g4 (is 1) w1 b3 [Value.int .i64 g.1, g_v] := bx5
 refine l_val (v := Value.slice none 0 0) rfl (e_assign rfl) ?_
 refine l_val (v := Value.int .i64 0) rfl (e_assign rfl) ?_
 refine l_nil (run_seq (run_region rfl ?_))
 refine l_val (v := Value.agg (List.toArray [Value.int .i64 g.1, g_v])) rfl (e_load_bxN (ds := [Value.int .i64 g.1, g_v]) tp24_de rfl bx5 rfl rfl) ?_
 refine l_val (v := r_v) rfl (e_move rfl) ?_
 replace r_g_v := r_g_v.chg ch2 (not_no _)
 replace r_r_v := r_r_v.chg ch2 (not_no _)
 refine l_op rfl ?_
 refine o_callx (e_call (vals := [Value.agg (List.toArray [Value.int .i64 g.1, g_v]), r_v]) Try.func47 bd47_de nm47_de rfl) (Faces_ok w1 g g_v (r_g_v).ro r r_v (r_r_v).ro) ?_
 rintro ⟨d7, v9⟩ w6 ⟨fr8, o10⟩
 obtain ⟨g11, hg11⟩ : ∃ q, q = glue w1.heap.size g4 d7 (fun n => if n = 1 then 2 else 0) := ⟨_, rfl⟩
 have ch12 := chg_glue fr8.below g4 d7 (fun n => if n = 1 then 2 else 0)
 rw [← hg11] at ch12
 replace o10 := o10.glue (γ := g4) (ren := (fun n => if n = 1 then 2 else 0)) (k := 2) fr8.col rfl rfl
 rw [← hg11] at o10
 clear hg11
 refine l_val (v := Value.tuple (List.toArray [v9, Value.int .i64 ((facesR g r).2)])) rfl (e_move rfl) ?_
 refine l_val (v := v9) rfl (e_extract rfl rfl) ?_
 refine l_val (v := Value.int .i64 ((facesR g r).2)) rfl (e_extract rfl rfl) ?_
 refine l_val (v := v9) rfl (e_assign rfl) ?_
 refine l_val (v := Value.int .i64 ((facesR g r).2)) rfl (e_assign rfl) ?_
 refine l_nil (run_seq ?_)
 refine run_block ?_
 refine run_seq (run_region rfl ?_)
 refine l_val (v := Value.int .i64 ((facesR g r).2)) rfl (e_move rfl) ?_
 refine l_val (v := Value.bool (!(decide (((facesR g r).2) = 0)))) rfl (e_neq (m := (facesR g r).2) (n := 0) rfl rfl) ?_
 refine l_val (v := Value.bool (!(decide (((facesR g r).2) = 0)))) rfl (e_assign rfl) ?_
 refine l_nil ?_
 by_cases p2 : ((facesR g r).2) = 0
 ·
  obtain ⟨hm, hrp⟩ := rmay_ok (facesR_may p2)
  have hm0 := hm
  obtain ⟨hm1, hm2, hm3, hm4⟩ := hm0
  have hrl := hrp.1
  have hFe := facesR_yes (rmay_yes hm hrp)
  have hOe := ofR_yes (rmay_yes hm hrp)
  have hFl := facesR_len g r hm hrp
  have hol0 : ((ofR g r).1.length : Int) = 2 * (g.2.length : Int) := by rw [hOe]; exact ofS_len g r
  refine run_cond_f rfl (congrArg Bool.not (decide_eq_true p2)) ?_
  refine run_seq (run_region rfl ?_)
  refine l_val (v := Value.int .i64 from_) rfl (e_move rfl) ?_
  refine l_val (v := Value.bool (decide (from_ < 0))) rfl (e_lss (m := from_) (n := 0) rfl rfl) ?_
  refine l_val (v := Value.bool (decide (from_ < 0))) rfl (e_move rfl) ?_
  by_cases q32 : from_ < 0
  ·
   refine l_skip (want_n rfl rfl rfl (decide_eq_true q32)) ?_
   refine l_skip (want_n rfl rfl rfl (decide_eq_true q32)) ?_
   refine l_skip (want_n rfl rfl rfl (decide_eq_true q32)) ?_
   refine l_skip (want_n rfl rfl rfl (decide_eq_true q32)) ?_
   refine l_val (v := Value.bool true) rfl (e_pick_t rfl (decide_eq_true q32) rfl) ?_
   refine l_val (v := Value.bool true) rfl (e_move rfl) ?_
   refine l_skip (want_n rfl rfl rfl rfl) (l_skip (want_n rfl rfl rfl rfl) ?_)
   refine l_val (v := Value.bool true) rfl (e_pick_t rfl rfl rfl) ?_
   refine l_val (v := Value.bool true) rfl (e_move rfl) ?_
   refine l_skip (want_n rfl rfl rfl rfl) (l_skip (want_n rfl rfl rfl rfl) (l_skip (want_n rfl rfl rfl rfl) (l_skip (want_n rfl rfl rfl rfl) ?_)))
   refine l_val (v := Value.bool true) rfl (e_pick_t rfl rfl rfl) ?_
   refine l_val (v := Value.bool true) rfl (e_assign rfl) ?_
   refine l_nil ?_
   refine run_cond_t rfl rfl ?_
   refine run_seq ?_
   clear bx5
   clear o10
   refine run_region rfl ?_
   refine l_val (v := Value.slice none 0 0) rfl (e_assign rfl) ?_
   refine l_val (v := Value.int .i64 2) rfl (e_assign rfl) ?_
   refine l_nil ?_
   refine run_ret (vs := [Value.slice none 0 0, Value.int .i64 2]) Try.func25 (.tmp rfl (.tmp rfl .nil)) ?_
   -- return 0
   replace hbase := hbase.chg ch2 (not_no _)
   replace hbase := hbase.chg ch12 (not_no _)
   have e0 : ([] : List Int) = ((hopR g r from_ to).1) := by
     first
       | (rw [hopR_no (by assumption)]; done)
       | (rw [hopR_bd (by assumption) (by omega)]; done)
       | (rw [hopR_none (by assumption) (by omega) (by assumption)]; done)
       | (have hft : f_ = to := (by first | assumption | (symm; assumption) | omega)
          subst hft
          rw [hopR_yes (by assumption) (by omega) (by assumption)]
          first | done | exact hh.done hP)
   have e1 : (2 : Int) = ((hopR g r from_ to).2) := by
     first
       | (rw [hopR_no (by assumption)]; done)
       | (rw [hopR_bd (by assumption) (by omega)]; done)
       | (rw [hopR_none (by assumption) (by omega) (by assumption)]; done)
       | (have hft : f_ = to := (by first | assumption | (symm; assumption) | omega)
          subst hft
          rw [hopR_yes (by assumption) (by omega) (by assumption)]
          first | done | exact hh.done hP)
   exact ⟨(fin w0 g11 (fun n => 0), (Value.slice none 0 0)), (congr2 (a := []) (b := 2) (fun (z0 : List Int) (z1 : Int) => Ending.returned (Value.tuple (List.toArray [Value.slice none 0 0, Value.int .i64 z1]))) e0 e1), hbase.fresh _, (e0 ▸ Ow.nil)⟩
  refine l_val (v := Value.int .i64 from_) (want_y rfl rfl rfl (decide_eq_false q32)) (e_move rfl) ?_
  refine l_val (v := v9) (want_y rfl rfl rfl (decide_eq_false q32)) (e_move rfl) ?_
  have len13 := (o10.sl).small
  refine l_val (v := Value.int .i64 (List.length ((facesR g r).1) : Int)) (want_y rfl rfl rfl (decide_eq_false q32)) (e_len Try.underlying25 rfl o10.sl) ?_
  refine l_val (v := Value.bool (decide ((List.length ((facesR g r).1) : Int) ≤ from_))) (want_y rfl rfl rfl (decide_eq_false q32)) (e_geq (m := from_) (n := (List.length ((facesR g r).1) : Int)) rfl rfl) ?_
  refine l_val (v := Value.bool (decide ((List.length ((facesR g r).1) : Int) ≤ from_))) rfl (e_pick_f rfl (decide_eq_false q32) rfl) ?_
  refine l_val (v := Value.bool (decide ((List.length ((facesR g r).1) : Int) ≤ from_))) rfl (e_move rfl) ?_
  by_cases q38 : (List.length ((facesR g r).1) : Int) ≤ from_
  ·
   refine l_skip (want_n rfl rfl rfl (decide_eq_true q38)) ?_
   refine l_skip (want_n rfl rfl rfl (decide_eq_true q38)) ?_
   refine l_val (v := Value.bool true) rfl (e_pick_t rfl (decide_eq_true q38) rfl) ?_
   refine l_val (v := Value.bool true) rfl (e_move rfl) ?_
   refine l_skip (want_n rfl rfl rfl rfl) (l_skip (want_n rfl rfl rfl rfl) (l_skip (want_n rfl rfl rfl rfl) (l_skip (want_n rfl rfl rfl rfl) ?_)))
   refine l_val (v := Value.bool true) rfl (e_pick_t rfl rfl rfl) ?_
   refine l_val (v := Value.bool true) rfl (e_assign rfl) ?_
   refine l_nil ?_
   refine run_cond_t rfl rfl ?_
   refine run_seq ?_
   clear bx5
   clear o10
   refine run_region rfl ?_
   refine l_val (v := Value.slice none 0 0) rfl (e_assign rfl) ?_
   refine l_val (v := Value.int .i64 2) rfl (e_assign rfl) ?_
   refine l_nil ?_
   refine run_ret (vs := [Value.slice none 0 0, Value.int .i64 2]) Try.func25 (.tmp rfl (.tmp rfl .nil)) ?_
   -- return 1
   replace hbase := hbase.chg ch2 (not_no _)
   replace hbase := hbase.chg ch12 (not_no _)
   have e0 : ([] : List Int) = ((hopR g r from_ to).1) := by
     first
       | (rw [hopR_no (by assumption)]; done)
       | (rw [hopR_bd (by assumption) (by omega)]; done)
       | (rw [hopR_none (by assumption) (by omega) (by assumption)]; done)
       | (have hft : f_ = to := (by first | assumption | (symm; assumption) | omega)
          subst hft
          rw [hopR_yes (by assumption) (by omega) (by assumption)]
          first | done | exact hh.done hP)
   have e1 : (2 : Int) = ((hopR g r from_ to).2) := by
     first
       | (rw [hopR_no (by assumption)]; done)
       | (rw [hopR_bd (by assumption) (by omega)]; done)
       | (rw [hopR_none (by assumption) (by omega) (by assumption)]; done)
       | (have hft : f_ = to := (by first | assumption | (symm; assumption) | omega)
          subst hft
          rw [hopR_yes (by assumption) (by omega) (by assumption)]
          first | done | exact hh.done hP)
   exact ⟨(fin w0 g11 (fun n => 0), (Value.slice none 0 0)), (congr2 (a := []) (b := 2) (fun (z0 : List Int) (z1 : Int) => Ending.returned (Value.tuple (List.toArray [Value.slice none 0 0, Value.int .i64 z1]))) e0 e1), hbase.fresh _, (e0 ▸ Ow.nil)⟩
  refine l_val (v := Value.int .i64 to) (want_y rfl rfl rfl (decide_eq_false q38)) (e_move rfl) ?_
  refine l_val (v := Value.bool (decide (to < 0))) (want_y rfl rfl rfl (decide_eq_false q38)) (e_lss (m := to) (n := 0) rfl rfl) ?_
  refine l_val (v := Value.bool (decide (to < 0))) rfl (e_pick_f rfl (decide_eq_false q38) rfl) ?_
  refine l_val (v := Value.bool (decide (to < 0))) rfl (e_move rfl) ?_
  by_cases q42 : to < 0
  ·
   refine l_skip (want_n rfl rfl rfl (decide_eq_true q42)) ?_
   refine l_skip (want_n rfl rfl rfl (decide_eq_true q42)) ?_
   refine l_skip (want_n rfl rfl rfl (decide_eq_true q42)) ?_
   refine l_skip (want_n rfl rfl rfl (decide_eq_true q42)) ?_
   refine l_val (v := Value.bool true) rfl (e_pick_t rfl (decide_eq_true q42) rfl) ?_
   refine l_val (v := Value.bool true) rfl (e_assign rfl) ?_
   refine l_nil ?_
   refine run_cond_t rfl rfl ?_
   refine run_seq ?_
   clear bx5
   clear o10
   refine run_region rfl ?_
   refine l_val (v := Value.slice none 0 0) rfl (e_assign rfl) ?_
   refine l_val (v := Value.int .i64 2) rfl (e_assign rfl) ?_
   refine l_nil ?_
   refine run_ret (vs := [Value.slice none 0 0, Value.int .i64 2]) Try.func25 (.tmp rfl (.tmp rfl .nil)) ?_
   -- return 2
   replace hbase := hbase.chg ch2 (not_no _)
   replace hbase := hbase.chg ch12 (not_no _)
   have e0 : ([] : List Int) = ((hopR g r from_ to).1) := by
     first
       | (rw [hopR_no (by assumption)]; done)
       | (rw [hopR_bd (by assumption) (by omega)]; done)
       | (rw [hopR_none (by assumption) (by omega) (by assumption)]; done)
       | (have hft : f_ = to := (by first | assumption | (symm; assumption) | omega)
          subst hft
          rw [hopR_yes (by assumption) (by omega) (by assumption)]
          first | done | exact hh.done hP)
   have e1 : (2 : Int) = ((hopR g r from_ to).2) := by
     first
       | (rw [hopR_no (by assumption)]; done)
       | (rw [hopR_bd (by assumption) (by omega)]; done)
       | (rw [hopR_none (by assumption) (by omega) (by assumption)]; done)
       | (have hft : f_ = to := (by first | assumption | (symm; assumption) | omega)
          subst hft
          rw [hopR_yes (by assumption) (by omega) (by assumption)]
          first | done | exact hh.done hP)
   exact ⟨(fin w0 g11 (fun n => 0), (Value.slice none 0 0)), (congr2 (a := []) (b := 2) (fun (z0 : List Int) (z1 : Int) => Ending.returned (Value.tuple (List.toArray [Value.slice none 0 0, Value.int .i64 z1]))) e0 e1), hbase.fresh _, (e0 ▸ Ow.nil)⟩
  refine l_val (v := Value.int .i64 to) (want_y rfl rfl rfl (decide_eq_false q42)) (e_move rfl) ?_
  refine l_val (v := v9) (want_y rfl rfl rfl (decide_eq_false q42)) (e_move rfl) ?_
  refine l_val (v := Value.int .i64 (List.length ((facesR g r).1) : Int)) (want_y rfl rfl rfl (decide_eq_false q42)) (e_len Try.underlying25 rfl o10.sl) ?_
  refine l_val (v := Value.bool (decide ((List.length ((facesR g r).1) : Int) ≤ to))) (want_y rfl rfl rfl (decide_eq_false q42)) (e_geq (m := to) (n := (List.length ((facesR g r).1) : Int)) rfl rfl) ?_
  refine l_val (v := Value.bool (decide ((List.length ((facesR g r).1) : Int) ≤ to))) rfl (e_pick_f rfl (decide_eq_false q42) rfl) ?_
  refine l_val (v := Value.bool (decide ((List.length ((facesR g r).1) : Int) ≤ to))) rfl (e_assign rfl) ?_
  refine l_nil ?_
  by_cases p4 : (List.length ((facesR g r).1) : Int) ≤ to
  ·
   refine run_cond_t rfl (decide_eq_true p4) ?_
   refine run_seq ?_
   clear bx5
   clear o10
   refine run_region rfl ?_
   refine l_val (v := Value.slice none 0 0) rfl (e_assign rfl) ?_
   refine l_val (v := Value.int .i64 2) rfl (e_assign rfl) ?_
   refine l_nil ?_
   refine run_ret (vs := [Value.slice none 0 0, Value.int .i64 2]) Try.func25 (.tmp rfl (.tmp rfl .nil)) ?_
   -- return 3
   replace hbase := hbase.chg ch2 (not_no _)
   replace hbase := hbase.chg ch12 (not_no _)
   have e0 : ([] : List Int) = ((hopR g r from_ to).1) := by
     first
       | (rw [hopR_no (by assumption)]; done)
       | (rw [hopR_bd (by assumption) (by omega)]; done)
       | (rw [hopR_none (by assumption) (by omega) (by assumption)]; done)
       | (have hft : f_ = to := (by first | assumption | (symm; assumption) | omega)
          subst hft
          rw [hopR_yes (by assumption) (by omega) (by assumption)]
          first | done | exact hh.done hP)
   have e1 : (2 : Int) = ((hopR g r from_ to).2) := by
     first
       | (rw [hopR_no (by assumption)]; done)
       | (rw [hopR_bd (by assumption) (by omega)]; done)
       | (rw [hopR_none (by assumption) (by omega) (by assumption)]; done)
       | (have hft : f_ = to := (by first | assumption | (symm; assumption) | omega)
          subst hft
          rw [hopR_yes (by assumption) (by omega) (by assumption)]
          first | done | exact hh.done hP)
   exact ⟨(fin w0 g11 (fun n => 0), (Value.slice none 0 0)), (congr2 (a := []) (b := 2) (fun (z0 : List Int) (z1 : Int) => Ending.returned (Value.tuple (List.toArray [Value.slice none 0 0, Value.int .i64 z1]))) e0 e1), hbase.fresh _, (e0 ▸ Ow.nil)⟩
  refine run_cond_f rfl (decide_eq_false p4) ?_
  refine run_skip ?_
  refine run_inBlock ?_
  refine run_seq (run_region rfl ?_)
  replace bx5 := bx5.chg ch12 (not_no _)
  refine l_val (v := Value.agg (List.toArray [Value.int .i64 g.1, g_v])) rfl (e_load_bxN (ds := [Value.int .i64 g.1, g_v]) tp24_de rfl bx5 rfl rfl) ?_
  refine l_val (v := r_v) rfl (e_move rfl) ?_
  replace r_g_v := r_g_v.chg ch12 (not_no _)
  replace r_r_v := r_r_v.chg ch12 (not_no _)
  refine l_op rfl ?_
  refine o_callx (e_call (vals := [Value.agg (List.toArray [Value.int .i64 g.1, g_v]), r_v]) Try.func54 bd54_de nm54_de rfl) (ROf_ok w6 g g_v (r_g_v).ro r r_v (r_r_v).ro) ?_
  rintro ⟨d15, v17⟩ w14 ⟨fr16, o18⟩
  obtain ⟨g19, hg19⟩ : ∃ q, q = glue w6.heap.size g11 d15 (fun n => if n = 1 then 3 else 0) := ⟨_, rfl⟩
  have ch20 := chg_glue fr16.below g11 d15 (fun n => if n = 1 then 3 else 0)
  rw [← hg19] at ch20
  replace o18 := o18.glue (γ := g11) (ren := (fun n => if n = 1 then 3 else 0)) (k := 3) fr16.col rfl rfl
  rw [← hg19] at o18
  clear hg19
  refine l_val (v := Value.tuple (List.toArray [v17, Value.int .i64 ((ofR g r).2)])) rfl (e_move rfl) ?_
  refine l_val (v := v17) rfl (e_extract rfl rfl) ?_
  refine l_val (v := Value.int .i64 ((ofR g r).2)) rfl (e_extract rfl rfl) ?_
  refine l_val (v := v17) rfl (e_assign rfl) ?_
  refine l_val (v := Value.int .i64 ((ofR g r).2)) rfl (e_assign rfl) ?_
  refine l_nil (run_seq (run_region rfl ?_))
  replace bx5 := bx5.chg ch20 (not_no _)
  refine l_val (v := Value.agg (List.toArray [Value.int .i64 g.1, g_v])) rfl (e_load_bxN (ds := [Value.int .i64 g.1, g_v]) tp24_de rfl bx5 rfl rfl) ?_
  refine l_val (v := v17) rfl (e_move rfl) ?_
  refine l_val (v := v9) rfl (e_move rfl) ?_
  replace o10 := o10.chg ch20 (not_no _)
  refine l_val (v := Value.int .i64 (List.length ((facesR g r).1) : Int)) rfl (e_len Try.underlying25 rfl o10.sl) ?_
  refine l_val (v := Value.int .i64 to) rfl (e_move rfl) ?_
  refine l_op rfl ?_
  refine o_buildSlice (α := Int) g19 (is 4) (is 4) (4, 0) rfl [to] Try.underlying27 tp3_de (by decide) (by decide) (vs := [(0, Value.int .i64 to)]) rfl rfl (.cons rfl .nil) ?_
  intro g21 w22 v23 ch24 o25
  replace r_g_v := (r_g_v.chg ch20 (not_no _)).chg ch24 (not_no _)
  replace o18 := o18.chg ch24 (not_no _) (not_no _)
  refine l_op rfl ?_
  refine o_callx (e_call (vals := [Value.agg (List.toArray [Value.int .i64 g.1, g_v]), v17, Value.int .i64 (List.length ((facesR g r).1) : Int), v23]) Try.func68 bd68_de nm68_de rfl) (fars_ok w22 g g_v (r_g_v).ro ((ofR g r).1) v17 (o18.flat).ro (List.length ((facesR g r).1) : Int) ([to]) v23 (o25.flat).ro (by exact hm) (by exact of_in hm hrp) (by omega) (by simpa using ⟨by omega, by omega⟩) (by simp)) ?_
  rintro ⟨d27, v29⟩ w26 ⟨fr28, o30⟩
  obtain ⟨g31, hg31⟩ : ∃ q, q = glue w22.heap.size g21 d27 (fun n => if n = 1 then 5 else 0) := ⟨_, rfl⟩
  have ch32 := chg_glue fr28.below g21 d27 (fun n => if n = 1 then 5 else 0)
  rw [← hg31] at ch32
  replace o30 := o30.glue (γ := g21) (ren := (fun n => if n = 1 then 5 else 0)) (k := 5) fr28.col rfl rfl
  rw [← hg31] at o30
  clear hg31
  refine l_val (v := v29) rfl (e_assign rfl) ?_
  refine l_nil (run_seq (run_seq ?_))
  clear o10
  clear o25
  have hP : FarP g.2.length (ofR g r).1 ((facesR g r).1.length : Int) [to] (farS g.2.length (ofR g r).1 ((facesR g r).1.length : Int) [to]) := far_ok (by omega) (of_in hm hrp) (by simpa using ⟨by omega, by omega⟩)
  have hfl := hP.len
  have hof := of_in hm hrp
  refine run_region rfl ?_
  refine l_val (v := v29) rfl (e_move rfl) ?_
  refine l_val (v := Value.int .i64 from_) rfl (e_move rfl) ?_
  refine l_val (v := Value.pointer (some (eAddr v29 1 (Int.toNat from_)))) rfl (e_indexAddr (α := Int) (xs := farS g.2.length ((ofR g r).1) (List.length ((facesR g r).1) : Int) ([to])) (v := v29) (i := from_) Try.underlying27 rfl rfl o30.flat rfl (by omega) (by first | omega | (simp only [List.length_set, List.length_append, List.length_cons, List.length_nil, List.length_replicate, List.length_map, List.length_take, List.length_drop]; omega) | (simp; done) | (simp; omega))) ?_
  refine l_val (v := Value.int .i64 (gI (farS g.2.length ((ofR g r).1) (List.length ((facesR g r).1) : Int) ([to])) from_)) rfl (e_load_el1 (α := Int) (xs := farS g.2.length ((ofR g r).1) (List.length ((facesR g r).1) : Int) ([to])) (v := v29) (i := from_) tp3_de rfl o30.flat (by omega) (by first | omega | (simp only [List.length_set, List.length_append, List.length_cons, List.length_nil, List.length_replicate, List.length_map, List.length_take, List.length_drop]; omega) | (simp; done) | (simp; omega)) (by decide) rfl) ?_
  refine l_val (v := Value.bool (decide ((gI (farS g.2.length ((ofR g r).1) (List.length ((facesR g r).1) : Int) ([to])) from_) < 0))) rfl (e_lss (m := (gI (farS g.2.length ((ofR g r).1) (List.length ((facesR g r).1) : Int) ([to])) from_)) (n := 0) rfl rfl) ?_
  refine l_nil ?_
  by_cases p8 : (gI (farS g.2.length ((ofR g r).1) (List.length ((facesR g r).1) : Int) ([to])) from_) < 0
  ·
   refine run_cond_t rfl (decide_eq_true p8) ?_
   refine run_seq ?_
   clear bx5
   clear o18
   clear o30
   refine run_region rfl ?_
   refine l_val (v := Value.slice none 0 0) rfl (e_assign rfl) ?_
   refine l_val (v := Value.int .i64 14) rfl (e_assign rfl) ?_
   refine l_nil ?_
   refine run_ret (vs := [Value.slice none 0 0, Value.int .i64 14]) Try.func25 (.tmp rfl (.tmp rfl .nil)) ?_
   -- return 4
   have C33 : Chg (inl []) _ _ _ _ := (ch2.n).seq ((ch12.n).seq ((ch20.n).seq ((ch24.n).seq (ch32.n))))
   replace hbase := hbase.chg C33 (is_nl rfl)
   have e0 : ([] : List Int) = ((hopR g r from_ to).1) := by
     first
       | (rw [hopR_no (by assumption)]; done)
       | (rw [hopR_bd (by assumption) (by omega)]; done)
       | (rw [hopR_none (by assumption) (by omega) (by assumption)]; done)
       | (have hft : f_ = to := (by first | assumption | (symm; assumption) | omega)
          subst hft
          rw [hopR_yes (by assumption) (by omega) (by assumption)]
          first | done | exact hh.done hP)
   have e1 : (14 : Int) = ((hopR g r from_ to).2) := by
     first
       | (rw [hopR_no (by assumption)]; done)
       | (rw [hopR_bd (by assumption) (by omega)]; done)
       | (rw [hopR_none (by assumption) (by omega) (by assumption)]; done)
       | (have hft : f_ = to := (by first | assumption | (symm; assumption) | omega)
          subst hft
          rw [hopR_yes (by assumption) (by omega) (by assumption)]
          first | done | exact hh.done hP)
   exact ⟨(fin w0 g31 (fun n => 0), (Value.slice none 0 0)), (congr2 (a := []) (b := 14) (fun (z0 : List Int) (z1 : Int) => Ending.returned (Value.tuple (List.toArray [Value.slice none 0 0, Value.int .i64 z1]))) e0 e1), hbase.fresh _, (e0 ▸ Ow.nil)⟩
  refine run_cond_f rfl (decide_eq_false p8) ?_
  refine run_skip ?_
  refine run_seq (run_region rfl ?_)
  refine l_val (v := Value.slice none 0 0) rfl (e_assign rfl) ?_
  refine l_nil (run_seq (run_seq (run_region rfl ?_)))
  refine l_val (v := Value.int .i64 from_) rfl (e_move rfl) ?_
  refine l_val (v := Value.int .i64 from_) rfl (e_assign rfl) ?_
  refine l_nil ?_
  refine run_block ?_
  refine run_loop (σ := Value × (List Int) × Int × Cmap) (fun ⟨l_v, l, f_, gq⟩ f w => Base w0 gq w ∧ f 3 = Value.int .i64 to ∧ f 4 = Value.pointer (some ⟨b3, 0, none⟩) ∧ f 12 = v17 ∧ f 14 = v29 ∧ f 15 = l_v ∧ f 16 = Value.int .i64 f_ ∧ Sl gq (is 0) w g_v g.2 ∧ Sl gq (is 0) w r_v r ∧ Bx gq (is 1) w b3 [Value.int .i64 g.1, g_v] ∧ Ow gq (is 3) (is 3) w v17 ((ofR g r).1) ∧ Ow gq (is 5) (is 5) w v29 (farS g.2.length ((ofR g r).1) (List.length ((facesR g r).1) : Int) ([to])) ∧ Ow gq (is 8) (is 8) w l_v l ∧ (HopInv l f_ g.2.length (ofR g r).1 ((facesR g r).1.length : Int) (farS g.2.length (ofR g r).1 ((facesR g r).1.length : Int) [to]) from_ to)) (fun ⟨l_v, l, f_, gq⟩ => Int.toNat (gI (farS g.2.length (ofR g r).1 ((facesR g r).1.length : Int) [to]) f_)) (Value.slice none 0 0, [], from_, g31) ?_ ?_
  have C34 : Chg (inl []) _ _ _ _ := (ch2.n).seq ((ch12.n).seq ((ch20.n).seq ((ch24.n).seq (ch32.n))))
  replace hbase := hbase.chg C34 (is_nl rfl)
  replace r_g_v := r_g_v.chg ch32 (not_no _)
  have C35 : Chg (inl []) _ _ _ _ := (ch20.n).seq ((ch24.n).seq (ch32.n))
  replace r_r_v := r_r_v.chg C35 (is_nl rfl)
  replace bx5 := (bx5.chg ch24 (not_no _)).chg ch32 (not_no _)
  replace o18 := o18.chg ch32 (not_no _) (not_no _)
  · exact ⟨hbase, rfl, rfl, rfl, rfl, rfl, rfl, r_g_v, r_r_v, bx5, o18, o30, Ow.nil, by exact HopInv.start (by omega) (by omega) p8⟩
  clear r_g_v
  clear r_r_v
  clear bx5
  clear o18
  clear o30
  clear hbase
  rintro ⟨l_v, l, f_, g38⟩ f36 w37 ⟨hbase, zs3, zs4, zs12, zs14, zs15, zs16, r_g_v, r_r_v, bx5, o18, o30, o_l, hh⟩ back12
  obtain ⟨hf1, hf2⟩ := hh.rng
  obtain ⟨hf3, hf4⟩ := hh.pos
  have hf5 := hh.len
  have hfb := hP.top (by omega) hf1 hf2
  have hfb2 := hP.top (f := from_) (by omega) (by omega) (by omega)
  refine run_seq (run_seq (run_region rfl ?_))
  refine l_val (v := Value.int .i64 f_) rfl (e_move (by exact zs16)) ?_
  refine l_val (v := Value.int .i64 to) rfl (e_move (by exact zs3)) ?_
  refine l_val (v := Value.bool (!(decide (f_ = to)))) rfl (e_neq (m := f_) (n := to) rfl rfl) ?_
  refine l_nil ?_
  by_cases p12 : f_ = to
  ·
   refine run_cond_f rfl (congrArg Bool.not (decide_eq_true p12)) ?_
   refine run_exit rfl ?_
   refine run_seq ?_
   clear bx5
   clear o18
   clear o30
   refine run_region rfl ?_
   refine l_val (v := l_v) rfl (e_move (by exact zs15)) ?_
   refine l_val (v := l_v) rfl (e_assign rfl) ?_
   refine l_val (v := Value.int .i64 0) rfl (e_assign rfl) ?_
   refine l_nil ?_
   refine run_ret (vs := [l_v, Value.int .i64 0]) Try.func25 (.tmp rfl (.tmp rfl .nil)) ?_
   -- return 5
   have e0 : (l : List Int) = ((hopR g r from_ to).1) := by
     first
       | (rw [hopR_no (by assumption)]; done)
       | (rw [hopR_bd (by assumption) (by omega)]; done)
       | (rw [hopR_none (by assumption) (by omega) (by assumption)]; done)
       | (have hft : f_ = to := (by first | assumption | (symm; assumption) | omega)
          subst hft
          rw [hopR_yes (by assumption) (by omega) (by assumption)]
          first | done | exact hh.done hP)
   have e1 : (0 : Int) = ((hopR g r from_ to).2) := by
     first
       | (rw [hopR_no (by assumption)]; done)
       | (rw [hopR_bd (by assumption) (by omega)]; done)
       | (rw [hopR_none (by assumption) (by omega) (by assumption)]; done)
       | (have hft : f_ = to := (by first | assumption | (symm; assumption) | omega)
          subst hft
          rw [hopR_yes (by assumption) (by omega) (by assumption)]
          first | done | exact hh.done hP)
   exact ⟨(fin w0 g38 (fun n => if n = 8 then 1 else 0), l_v), (congr2 (a := l) (b := 0) (fun (z0 : List Int) (z1 : Int) => Ending.returned (Value.tuple (List.toArray [l_v, Value.int .i64 z1]))) e0 e1), hbase.fresh _, (e0 ▸ (o_l.glue (γ := c0) (ren := (fun n => if n = 8 then 1 else 0)) (k := 1) hbase.col rfl rfl))⟩
  refine run_cond_t rfl (congrArg Bool.not (decide_eq_false p12)) ?_
  obtain ⟨e0, he0, hst⟩ := step_ex hP hf1 hf2 hf3 (by assumption)
  refine run_skip ?_
  refine run_block ?_
  refine run_seq (run_region rfl ?_)
  refine l_val (v := Value.pointer (some ⟨b3, 1, none⟩)) rfl (e_fieldAddr Try.underlying24 rfl rfl (by exact zs4) rfl) ?_
  refine l_val (v := g_v) rfl (e_load_bx1 tp22_de rfl bx5 rfl) ?_
  have len39 := (r_g_v).small
  refine l_val (v := Value.int .i64 (List.length g.2 : Int)) rfl (e_len Try.underlying22 rfl r_g_v) ?_
  refine l_val (v := Value.int .i64 0) rfl (e_move rfl) ?_
  refine l_nil ?_
  refine run_block ?_
  refine run_loop (σ := Nat × Cmap) (fun ⟨e, gq⟩ f w => Base w0 gq w ∧ f 3 = Value.int .i64 to ∧ f 4 = Value.pointer (some ⟨b3, 0, none⟩) ∧ f 12 = v17 ∧ f 14 = v29 ∧ f 15 = l_v ∧ f 16 = Value.int .i64 f_ ∧ f 72 = Value.int .i64 (List.length g.2 : Int) ∧ f 73 = Value.int .i64 (e : Int) ∧ Sl gq (is 0) w g_v g.2 ∧ Sl gq (is 0) w r_v r ∧ Bx gq (is 1) w b3 [Value.int .i64 g.1, g_v] ∧ Ow gq (is 3) (is 3) w v17 ((ofR g r).1) ∧ Ow gq (is 5) (is 5) w v29 (farS g.2.length ((ofR g r).1) (List.length ((facesR g r).1) : Int) ([to])) ∧ Ow gq (is 8) (is 8) w l_v l ∧ (e : Int) ≤ ((List.length g.2 : Int) : Int) ∧ (∀ j : Nat, j < e → ¬ stepP (ofR g r).1 (farS g.2.length (ofR g r).1 ((facesR g r).1.length : Int) [to]) f_ (j : Int))) (fun ⟨e, gq⟩ => Int.toNat (((List.length g.2 : Int) : Int) - (e : Int))) (0, g38) ?_ ?_
  · exact ⟨hbase, (by exact zs3), (by exact zs4), (by exact zs12), (by exact zs14), (by exact zs15), (by exact zs16), rfl, rfl, r_g_v, r_r_v, bx5, o18, o30, o_l, by omega, by intro j hj; omega⟩
  clear r_g_v
  clear r_r_v
  clear bx5
  clear o18
  clear o30
  clear o_l
  clear hbase
  rintro ⟨e, g42⟩ f40 w41 ⟨hbase, zs3, zs4, zs12, zs14, zs15, zs16, zs72, zs73, r_g_v, r_r_v, bx5, o18, o30, o_l, hle_e, hno⟩ back14
  refine run_seq (run_region rfl ?_)
  refine l_val (v := Value.bool (decide ((e : Int) < (List.length g.2 : Int)))) rfl (e_lss (m := (e : Int)) (n := (List.length g.2 : Int)) (by exact zs73) (by exact zs72)) ?_
  refine l_nil (run_seq ?_)
  by_cases p14 : (e : Int) < (List.length g.2 : Int)
  ·
   refine run_cond_t rfl (decide_eq_true p14) ?_
   obtain ⟨⟨hes1, hes2⟩, hes3, hes4⟩ := hof.ends (e := e) (by omega)
   refine run_skip ?_
   refine run_seq ?_
   refine run_block ?_
   refine run_seq (run_region rfl ?_)
   refine l_val (v := Value.int .i64 (e : Int)) rfl (e_move (by exact zs73)) ?_
   refine l_val (v := Value.int .i64 (e : Int)) rfl (e_assign rfl) ?_
   refine l_nil (run_seq (run_region rfl ?_))
   refine l_val (v := v17) rfl (e_move (by exact zs12)) ?_
   refine l_val (v := Value.int .i64 (e : Int)) rfl (e_move rfl) ?_
   refine l_op rfl ?_
   refine o_call (v := Value.agg (List.toArray [Value.int .i64 ((endsS ((ofR g r).1) (e : Int)).1), Value.int .i64 ((endsS ((ofR g r).1) (e : Int)).2)])) (e_call (vals := [v17, Value.int .i64 (e : Int)]) Try.func67 bd67_de nm67_de rfl) (ends_ok w41 ((ofR g r).1) v17 (o18.flat).ro (e : Int) (by omega) (by omega)) ?_
   intro w43 hb44
   replace hb44 := chg_below hb44 g42
   refine l_op rfl ?_
   refine o_alloc g42 (is 6) (6, 0) rfl tp60_de ?_
   intro g48 w45 b47 ch46 bx49
   replace bx49 : Bx g48 (is 6) w45 b47 [Value.int .i64 0, Value.int .i64 0] := bx49
   refine l_op rfl ?_
   refine o_store_bx (cs' := [Value.int .i64 ((endsS ((ofR g r).1) (e : Int)).1), Value.int .i64 ((endsS ((ofR g r).1) (e : Int)).2)]) tp60_de rfl rfl bx49 rfl (Nat.le_of_ble_eq_true rfl) (AllOne.all (.cons rfl (.cons rfl .nil))) rfl ?_
   intro w50 ch51 bx52
   clear bx49
   refine l_nil (run_seq (run_seq (run_region rfl ?_)))
   refine l_val (v := Value.pointer (some ⟨b47, 1, none⟩)) rfl (e_indexAddr_arr Try.underlying60 rfl rfl rfl (by decide) (by decide) rfl) ?_
   refine l_val (v := Value.int .i64 ((endsS ((ofR g r).1) (e : Int)).2)) rfl (e_load_bx1 tp3_de rfl bx52 rfl) ?_
   refine l_val (v := Value.int .i64 f_) rfl (e_move (by exact zs16)) ?_
   refine l_val (v := Value.bool (decide (((endsS ((ofR g r).1) (e : Int)).2) = f_))) rfl (e_eql (m := (endsS ((ofR g r).1) (e : Int)).2) (n := f_) rfl rfl) ?_
   refine l_nil ?_
   by_cases p17 : ((endsS ((ofR g r).1) (e : Int)).2) = f_
   ·
    refine run_cond_t rfl (decide_eq_true p17) ?_
    refine run_region rfl ?_
    refine l_val (v := Value.pointer (some ⟨b47, 1, none⟩)) rfl (e_indexAddr_arr Try.underlying60 rfl rfl rfl (by decide) (by decide) rfl) ?_
    refine l_val (v := Value.int .i64 ((endsS ((ofR g r).1) (e : Int)).2)) rfl (e_load_bx1 tp3_de rfl bx52 rfl) ?_
    refine l_val (v := Value.pointer (some ⟨b47, 0, none⟩)) rfl (e_indexAddr_arr Try.underlying60 rfl rfl rfl (by decide) (by decide) rfl) ?_
    refine l_val (v := Value.int .i64 ((endsS ((ofR g r).1) (e : Int)).1)) rfl (e_load_bx1 tp3_de rfl bx52 rfl) ?_
    refine l_val (v := Value.pointer (some ⟨b47, 0, none⟩)) rfl (e_indexAddr_arr Try.underlying60 rfl rfl rfl (by decide) (by decide) rfl) ?_
    refine l_op rfl ?_
    refine o_store_bx (cs' := [Value.int .i64 ((endsS ((ofR g r).1) (e : Int)).2), Value.int .i64 ((endsS ((ofR g r).1) (e : Int)).2)]) tp3_de rfl rfl bx52 rfl (Nat.le_of_ble_eq_true rfl) (AllOne.all (.cons rfl .nil)) rfl ?_
    intro w53 ch54 bx55
    clear bx52
    refine l_val (v := Value.pointer (some ⟨b47, 1, none⟩)) rfl (e_indexAddr_arr Try.underlying60 rfl rfl rfl (by decide) (by decide) rfl) ?_
    refine l_op rfl ?_
    refine o_store_bx (cs' := [Value.int .i64 ((endsS ((ofR g r).1) (e : Int)).2), Value.int .i64 ((endsS ((ofR g r).1) (e : Int)).1)]) tp3_de rfl rfl bx55 rfl (Nat.le_of_ble_eq_true rfl) (AllOne.all (.cons rfl .nil)) rfl ?_
    intro w56 ch57 bx58
    clear bx55
    refine l_nil (run_seq ?_)
    refine region_q g48 rfl mixed_de (by kernel_rfl) ?_
    intro w60 ch59
    refine q_val (v := Value.pointer (some ⟨b47, 0, none⟩)) rfl (fun w' hw' => e_indexAddr_arr Try.underlying60 rfl rfl rfl (by decide) (by decide) rfl) ?_
    replace bx58 := bx58.chg ch59 (not_no _)
    refine q_val (v := Value.int .i64 ((endsS ((ofR g r).1) (e : Int)).2)) rfl (fun w' hw' => e_load_bx1 tp3_de rfl (bx58.bel hw') rfl) ?_
    refine q_val (v := Value.int .i64 f_) rfl (fun w' hw' => e_move (by exact zs16)) ?_
    refine q_val (v := Value.bool (decide (((endsS ((ofR g r).1) (e : Int)).2) = f_))) rfl (fun w' hw' => e_eql (m := (endsS ((ofR g r).1) (e : Int)).2) (n := f_) rfl rfl) ?_
    refine q_val (v := Value.bool (decide (((endsS ((ofR g r).1) (e : Int)).2) = f_))) rfl (fun w' hw' => e_move rfl) ?_
    refine q_val (v := v29) (want_y rfl rfl rfl (decide_eq_true p17)) (fun w' hw' => e_move (by exact zs14)) ?_
    refine q_val (v := Value.pointer (some ⟨b47, 1, none⟩)) (want_y rfl rfl rfl (decide_eq_true p17)) (fun w' hw' => e_indexAddr_arr Try.underlying60 rfl rfl rfl (by decide) (by decide) rfl) ?_
    refine q_val (v := Value.int .i64 ((endsS ((ofR g r).1) (e : Int)).1)) (want_y rfl rfl rfl (decide_eq_true p17)) (fun w' hw' => e_load_bx1 tp3_de rfl (bx58.bel hw') rfl) ?_
    have C61 : Chg (inl [6]) _ _ _ _ := (hb44.n).seq ((ch46.n).seq ((ch51.l rfl).seq ((ch54.l rfl).seq ((ch57.l rfl).seq (ch59.n)))))
    replace o30 := o30.chg C61 (is_nl rfl) (is_nl rfl)
    refine q_val (v := Value.pointer (some (eAddr v29 1 (Int.toNat ((endsS ((ofR g r).1) (e : Int)).1))))) (want_y rfl rfl rfl (decide_eq_true p17)) (fun w' hw' => e_indexAddr (α := Int) (xs := farS g.2.length ((ofR g r).1) (List.length ((facesR g r).1) : Int) ([to])) (v := v29) (i := (endsS ((ofR g r).1) (e : Int)).1) Try.underlying27 rfl rfl (o30.flat.bel hw') rfl (by omega) (by first | omega | (simp only [List.length_set, List.length_append, List.length_cons, List.length_nil, List.length_replicate, List.length_map, List.length_take, List.length_drop]; omega) | (simp; done) | (simp; omega))) ?_
    refine q_val (v := Value.int .i64 (gI (farS g.2.length ((ofR g r).1) (List.length ((facesR g r).1) : Int) ([to])) ((endsS ((ofR g r).1) (e : Int)).1))) (want_y rfl rfl rfl (decide_eq_true p17)) (fun w' hw' => e_load_el1 (α := Int) (xs := farS g.2.length ((ofR g r).1) (List.length ((facesR g r).1) : Int) ([to])) (v := v29) (i := (endsS ((ofR g r).1) (e : Int)).1) tp3_de rfl (o30.flat.bel hw') (by omega) (by first | omega | (simp only [List.length_set, List.length_append, List.length_cons, List.length_nil, List.length_replicate, List.length_map, List.length_take, List.length_drop]; omega) | (simp; done) | (simp; omega)) (by decide) rfl) ?_
    refine q_val (v := v29) (want_y rfl rfl rfl (decide_eq_true p17)) (fun w' hw' => e_move (by exact zs14)) ?_
    refine q_val (v := Value.int .i64 f_) (want_y rfl rfl rfl (decide_eq_true p17)) (fun w' hw' => e_move (by exact zs16)) ?_
    refine q_val (v := Value.pointer (some (eAddr v29 1 (Int.toNat f_)))) (want_y rfl rfl rfl (decide_eq_true p17)) (fun w' hw' => e_indexAddr (α := Int) (xs := farS g.2.length ((ofR g r).1) (List.length ((facesR g r).1) : Int) ([to])) (v := v29) (i := f_) Try.underlying27 rfl rfl (o30.flat.bel hw') rfl (by omega) (by first | omega | (simp only [List.length_set, List.length_append, List.length_cons, List.length_nil, List.length_replicate, List.length_map, List.length_take, List.length_drop]; omega) | (simp; done) | (simp; omega))) ?_
    refine q_val (v := Value.int .i64 (gI (farS g.2.length ((ofR g r).1) (List.length ((facesR g r).1) : Int) ([to])) f_)) (want_y rfl rfl rfl (decide_eq_true p17)) (fun w' hw' => e_load_el1 (α := Int) (xs := farS g.2.length ((ofR g r).1) (List.length ((facesR g r).1) : Int) ([to])) (v := v29) (i := f_) tp3_de rfl (o30.flat.bel hw') (by omega) (by first | omega | (simp only [List.length_set, List.length_append, List.length_cons, List.length_nil, List.length_replicate, List.length_map, List.length_take, List.length_drop]; omega) | (simp; done) | (simp; omega)) (by decide) rfl) ?_
    refine q_val (v := Value.int .i64 ((gI (farS g.2.length ((ofR g r).1) (List.length ((facesR g r).1) : Int) ([to])) f_) - 1)) (want_y rfl rfl rfl (decide_eq_true p17)) (fun w' hw' => e_sub (m := (gI (farS g.2.length ((ofR g r).1) (List.length ((facesR g r).1) : Int) ([to])) f_)) (n := 1) rfl rfl (by omega)) ?_
    refine q_val (v := Value.bool (decide ((gI (farS g.2.length ((ofR g r).1) (List.length ((facesR g r).1) : Int) ([to])) ((endsS ((ofR g r).1) (e : Int)).1)) = ((gI (farS g.2.length ((ofR g r).1) (List.length ((facesR g r).1) : Int) ([to])) f_) - 1)))) (want_y rfl rfl rfl (decide_eq_true p17)) (fun w' hw' => e_eql (m := (gI (farS g.2.length ((ofR g r).1) (List.length ((facesR g r).1) : Int) ([to])) ((endsS ((ofR g r).1) (e : Int)).1))) (n := (gI (farS g.2.length ((ofR g r).1) (List.length ((facesR g r).1) : Int) ([to])) f_) - 1) rfl rfl) ?_
    refine q_val (v := Value.bool (decide ((gI (farS g.2.length ((ofR g r).1) (List.length ((facesR g r).1) : Int) ([to])) ((endsS ((ofR g r).1) (e : Int)).1)) = ((gI (farS g.2.length ((ofR g r).1) (List.length ((facesR g r).1) : Int) ([to])) f_) - 1)))) rfl (fun w' hw' => e_pick_t rfl (decide_eq_true p17) rfl) ?_
    refine q_nil ?_
    intro w62 hc63
    replace hc63 := chg_below hc63 g48
    by_cases p19 : (gI (farS g.2.length ((ofR g r).1) (List.length ((facesR g r).1) : Int) ([to])) ((endsS ((ofR g r).1) (e : Int)).1)) = ((gI (farS g.2.length ((ofR g r).1) (List.length ((facesR g r).1) : Int) ([to])) f_) - 1)
    ·
     refine run_cond_t rfl (decide_eq_true p19) ?_
     refine run_seq (run_region rfl ?_)
     refine l_val (v := l_v) rfl (e_move (by exact zs15)) ?_
     refine l_val (v := Value.int .i64 (e : Int)) rfl (e_move rfl) ?_
     refine l_op rfl ?_
     refine o_buildSlice (α := Int) g48 (is 7) (is 7) (7, 0) rfl [(e : Int)] Try.underlying27 tp3_de (by decide) (by decide) (vs := [(0, Value.int .i64 (e : Int))]) rfl rfl (.cons rfl .nil) ?_
     intro g64 w65 v66 ch67 o68
     refine l_op rfl ?_
     have C69 : Chg (inl [6]) _ _ _ _ := (hb44.n).seq ((ch46.n).seq ((ch51.l rfl).seq ((ch54.l rfl).seq ((ch57.l rfl).seq ((ch59.n).seq ((hc63.n).seq (ch67.n)))))))
     replace o_l := o_l.chg C69 (is_nl rfl) (is_nl rfl)
     refine o_append (α := Int) (xs := l) (ys := ([(e : Int)])) g64 (J := is 8) (S := is 8) (8, 0) rfl Try.underlying27 tp3_de (by decide) rfl rfl rfl o_l o68.flat (by decide) (by first | omega | (simp; done) | (simp; omega)) ?_
     intro g70 w71 v72 ch73 o74
     clear o_l
     refine l_val (v := v72) rfl (e_assign rfl) ?_
     refine l_nil (run_seq ?_)
     clear o68
     refine run_region rfl ?_
     refine l_val (v := Value.pointer (some ⟨b47, 1, none⟩)) rfl (e_indexAddr_arr Try.underlying60 rfl rfl rfl (by decide) (by decide) rfl) ?_
     have C75 : Chg (inl [8]) _ _ _ _ := (hc63.n).seq ((ch67.n).seq (ch73.l rfl))
     replace bx58 := bx58.chg C75 (is_nl rfl)
     refine l_val (v := Value.int .i64 ((endsS ((ofR g r).1) (e : Int)).1)) rfl (e_load_bx1 tp3_de rfl bx58 rfl) ?_
     refine l_val (v := Value.int .i64 ((endsS ((ofR g r).1) (e : Int)).1)) rfl (e_assign rfl) ?_
     refine l_nil ?_
     refine run_exit rfl ?_
     refine run_inBlock ?_
     have C76 : Chg (inl [6, 8]) _ _ _ _ := (hb44.n).seq ((ch46.n).seq ((ch51.l rfl).seq ((ch54.l rfl).seq ((ch57.l rfl).seq ((ch59.n).seq ((hc63.n).seq ((ch67.n).seq (ch73.l rfl))))))))
     replace hbase := hbase.chg C76 (is_nl rfl)
     replace r_g_v := r_g_v.chg C76 (is_nl rfl)
     replace r_r_v := r_r_v.chg C76 (is_nl rfl)
     replace bx5 := bx5.chg C76 (is_nl rfl)
     replace o18 := o18.chg C76 (is_nl rfl) (is_nl rfl)
     replace o30 := o30.chg C75 (is_nl rfl) (is_nl rfl)
     refine back12 (v72, (l ++ [(e : Int)]), (endsS ((ofR g r).1) (e : Int)).1, g70) _ _ ⟨hbase, (by exact zs3), (by exact zs4), (by exact zs12), (by exact zs14), rfl, rfl, r_g_v, r_r_v, bx5, o18, o30, o74, ?_⟩ ?_
     · show HopInv (l ++ [(e : Int)]) ((endsS ((ofR g r).1) (e : Int)).1) g.2.length (ofR g r).1 ((facesR g r).1.length : Int) (farS g.2.length (ofR g r).1 ((facesR g r).1.length : Int) [to]) from_ to
       first
         | (have h7 := stepL (of := (ofR g r).1) (far := (farS g.2.length (ofR g r).1 ((facesR g r).1.length : Int) [to])) (e := (e : Int)) (f := f_) (by assumption) (by assumption)
            obtain ⟨hs9, he9⟩ := h7
            have h9 := (hh.next hof hP (by assumption) (by assumption) hs9 hno).1
            rw [he9] at h9
            exact h9)
         | (have h7 := stepR (of := (ofR g r).1) (far := (farS g.2.length (ofR g r).1 ((facesR g r).1.length : Int) [to])) (e := (e : Int)) (f := f_) (by assumption) (by assumption) (by assumption)
            obtain ⟨hs9, he9⟩ := h7
            have h9 := (hh.next hof hP (by assumption) (by assumption) hs9 hno).1
            rw [he9] at h9
            exact h9)
         | exact absurd hst (hno e0 (by omega))
     · show Int.toNat (gI (farS g.2.length (ofR g r).1 ((facesR g r).1.length : Int) [to]) ((endsS ((ofR g r).1) (e : Int)).1)) < Int.toNat (gI (farS g.2.length (ofR g r).1 ((facesR g r).1.length : Int) [to]) f_)
       first
         | (have h7 := stepL (of := (ofR g r).1) (far := (farS g.2.length (ofR g r).1 ((facesR g r).1.length : Int) [to])) (e := (e : Int)) (f := f_) (by assumption) (by assumption)
            obtain ⟨hs9, he9⟩ := h7
            have h9 := (hh.next hof hP (by assumption) (by assumption) hs9 hno).2
            rw [he9] at h9
            have h8 := ((hh.next hof hP (by assumption) (by assumption) hs9 hno).1).pos.1
            rw [he9] at h8
            omega)
         | (have h7 := stepR (of := (ofR g r).1) (far := (farS g.2.length (ofR g r).1 ((facesR g r).1.length : Int) [to])) (e := (e : Int)) (f := f_) (by assumption) (by assumption) (by assumption)
            obtain ⟨hs9, he9⟩ := h7
            have h9 := (hh.next hof hP (by assumption) (by assumption) hs9 hno).2
            rw [he9] at h9
            have h8 := ((hh.next hof hP (by assumption) (by assumption) hs9 hno).1).pos.1
            rw [he9] at h8
            omega)
         | exact absurd hst (hno e0 (by omega))
    refine run_cond_f rfl (decide_eq_false p19) ?_
    refine run_skip ?_
    refine run_inBlock ?_
    clear bx58
    refine run_region rfl ?_
    refine l_val (v := Value.int .i64 ((e : Int) + 1)) rfl (e_add (m := (e : Int)) (n := 1) (by exact zs73) rfl (by omega)) ?_
    refine l_val (v := Value.int .i64 ((e : Int) + 1)) rfl (e_move rfl) ?_
    refine l_nil ?_
    have C77 : Chg (inl [6]) _ _ _ _ := (hb44.n).seq ((ch46.n).seq ((ch51.l rfl).seq ((ch54.l rfl).seq ((ch57.l rfl).seq ((ch59.n).seq (hc63.n))))))
    replace hbase := hbase.chg C77 (is_nl rfl)
    replace r_g_v := r_g_v.chg C77 (is_nl rfl)
    replace r_r_v := r_r_v.chg C77 (is_nl rfl)
    replace bx5 := bx5.chg C77 (is_nl rfl)
    replace o18 := o18.chg C77 (is_nl rfl) (is_nl rfl)
    replace o30 := o30.chg hc63 (not_no _) (not_no _)
    replace o_l := o_l.chg C77 (is_nl rfl) (is_nl rfl)
    refine back14 (e + 1, g48) _ _ ⟨hbase, (by exact zs3), (by exact zs4), (by exact zs12), (by exact zs14), (by exact zs15), (by exact zs16), (by exact zs72), rfl, r_g_v, r_r_v, bx5, o18, o30, o_l, by omega, ?_⟩ ?_
    · show ∀ j : Nat, j < (e + 1) → ¬ stepP (ofR g r).1 (farS g.2.length (ofR g r).1 ((facesR g r).1.length : Int) [to]) f_ (j : Int)
      intro j hj
      by_cases e9 : j = e
      · subst e9
        first
          | exact stepNL (by assumption) (by assumption)
          | exact stepNR (by assumption) (by assumption)
          | exact stepNN (by assumption) (by assumption)
      · exact hno j (by omega)
    · show Int.toNat (((List.length g.2 : Int) : Int) - ((e + 1) : Int)) < Int.toNat (((List.length g.2 : Int) : Int) - (e : Int))
      omega
   refine run_cond_f rfl (decide_eq_false p17) ?_
   refine run_skip ?_
   refine run_seq ?_
   refine region_q g48 rfl mixed_de (by kernel_rfl) ?_
   intro w79 ch78
   refine q_val (v := Value.pointer (some ⟨b47, 0, none⟩)) rfl (fun w' hw' => e_indexAddr_arr Try.underlying60 rfl rfl rfl (by decide) (by decide) rfl) ?_
   replace bx52 := bx52.chg ch78 (not_no _)
   refine q_val (v := Value.int .i64 ((endsS ((ofR g r).1) (e : Int)).1)) rfl (fun w' hw' => e_load_bx1 tp3_de rfl (bx52.bel hw') rfl) ?_
   refine q_val (v := Value.int .i64 f_) rfl (fun w' hw' => e_move (by exact zs16)) ?_
   refine q_val (v := Value.bool (decide (((endsS ((ofR g r).1) (e : Int)).1) = f_))) rfl (fun w' hw' => e_eql (m := (endsS ((ofR g r).1) (e : Int)).1) (n := f_) rfl rfl) ?_
   refine q_val (v := Value.bool (decide (((endsS ((ofR g r).1) (e : Int)).1) = f_))) rfl (fun w' hw' => e_move rfl) ?_
   by_cases q93 : ((endsS ((ofR g r).1) (e : Int)).1) = f_
   ·
    refine q_val (v := v29) (want_y rfl rfl rfl (decide_eq_true q93)) (fun w' hw' => e_move (by exact zs14)) ?_
    refine q_val (v := Value.pointer (some ⟨b47, 1, none⟩)) (want_y rfl rfl rfl (decide_eq_true q93)) (fun w' hw' => e_indexAddr_arr Try.underlying60 rfl rfl rfl (by decide) (by decide) rfl) ?_
    refine q_val (v := Value.int .i64 ((endsS ((ofR g r).1) (e : Int)).2)) (want_y rfl rfl rfl (decide_eq_true q93)) (fun w' hw' => e_load_bx1 tp3_de rfl (bx52.bel hw') rfl) ?_
    have C80 : Chg (inl [6]) _ _ _ _ := (hb44.n).seq ((ch46.n).seq ((ch51.l rfl).seq (ch78.n)))
    replace o30 := o30.chg C80 (is_nl rfl) (is_nl rfl)
    refine q_val (v := Value.pointer (some (eAddr v29 1 (Int.toNat ((endsS ((ofR g r).1) (e : Int)).2))))) (want_y rfl rfl rfl (decide_eq_true q93)) (fun w' hw' => e_indexAddr (α := Int) (xs := farS g.2.length ((ofR g r).1) (List.length ((facesR g r).1) : Int) ([to])) (v := v29) (i := (endsS ((ofR g r).1) (e : Int)).2) Try.underlying27 rfl rfl (o30.flat.bel hw') rfl (by omega) (by first | omega | (simp only [List.length_set, List.length_append, List.length_cons, List.length_nil, List.length_replicate, List.length_map, List.length_take, List.length_drop]; omega) | (simp; done) | (simp; omega))) ?_
    refine q_val (v := Value.int .i64 (gI (farS g.2.length ((ofR g r).1) (List.length ((facesR g r).1) : Int) ([to])) ((endsS ((ofR g r).1) (e : Int)).2))) (want_y rfl rfl rfl (decide_eq_true q93)) (fun w' hw' => e_load_el1 (α := Int) (xs := farS g.2.length ((ofR g r).1) (List.length ((facesR g r).1) : Int) ([to])) (v := v29) (i := (endsS ((ofR g r).1) (e : Int)).2) tp3_de rfl (o30.flat.bel hw') (by omega) (by first | omega | (simp only [List.length_set, List.length_append, List.length_cons, List.length_nil, List.length_replicate, List.length_map, List.length_take, List.length_drop]; omega) | (simp; done) | (simp; omega)) (by decide) rfl) ?_
    refine q_val (v := v29) (want_y rfl rfl rfl (decide_eq_true q93)) (fun w' hw' => e_move (by exact zs14)) ?_
    refine q_val (v := Value.int .i64 f_) (want_y rfl rfl rfl (decide_eq_true q93)) (fun w' hw' => e_move (by exact zs16)) ?_
    refine q_val (v := Value.pointer (some (eAddr v29 1 (Int.toNat f_)))) (want_y rfl rfl rfl (decide_eq_true q93)) (fun w' hw' => e_indexAddr (α := Int) (xs := farS g.2.length ((ofR g r).1) (List.length ((facesR g r).1) : Int) ([to])) (v := v29) (i := f_) Try.underlying27 rfl rfl (o30.flat.bel hw') rfl (by omega) (by first | omega | (simp only [List.length_set, List.length_append, List.length_cons, List.length_nil, List.length_replicate, List.length_map, List.length_take, List.length_drop]; omega) | (simp; done) | (simp; omega))) ?_
    refine q_val (v := Value.int .i64 (gI (farS g.2.length ((ofR g r).1) (List.length ((facesR g r).1) : Int) ([to])) f_)) (want_y rfl rfl rfl (decide_eq_true q93)) (fun w' hw' => e_load_el1 (α := Int) (xs := farS g.2.length ((ofR g r).1) (List.length ((facesR g r).1) : Int) ([to])) (v := v29) (i := f_) tp3_de rfl (o30.flat.bel hw') (by omega) (by first | omega | (simp only [List.length_set, List.length_append, List.length_cons, List.length_nil, List.length_replicate, List.length_map, List.length_take, List.length_drop]; omega) | (simp; done) | (simp; omega)) (by decide) rfl) ?_
    refine q_val (v := Value.int .i64 ((gI (farS g.2.length ((ofR g r).1) (List.length ((facesR g r).1) : Int) ([to])) f_) - 1)) (want_y rfl rfl rfl (decide_eq_true q93)) (fun w' hw' => e_sub (m := (gI (farS g.2.length ((ofR g r).1) (List.length ((facesR g r).1) : Int) ([to])) f_)) (n := 1) rfl rfl (by omega)) ?_
    refine q_val (v := Value.bool (decide ((gI (farS g.2.length ((ofR g r).1) (List.length ((facesR g r).1) : Int) ([to])) ((endsS ((ofR g r).1) (e : Int)).2)) = ((gI (farS g.2.length ((ofR g r).1) (List.length ((facesR g r).1) : Int) ([to])) f_) - 1)))) (want_y rfl rfl rfl (decide_eq_true q93)) (fun w' hw' => e_eql (m := (gI (farS g.2.length ((ofR g r).1) (List.length ((facesR g r).1) : Int) ([to])) ((endsS ((ofR g r).1) (e : Int)).2))) (n := (gI (farS g.2.length ((ofR g r).1) (List.length ((facesR g r).1) : Int) ([to])) f_) - 1) rfl rfl) ?_
    refine q_val (v := Value.bool (decide ((gI (farS g.2.length ((ofR g r).1) (List.length ((facesR g r).1) : Int) ([to])) ((endsS ((ofR g r).1) (e : Int)).2)) = ((gI (farS g.2.length ((ofR g r).1) (List.length ((facesR g r).1) : Int) ([to])) f_) - 1)))) rfl (fun w' hw' => e_pick_t rfl (decide_eq_true q93) rfl) ?_
    refine q_nil ?_
    intro w81 hc82
    replace hc82 := chg_below hc82 g48
    by_cases p19 : (gI (farS g.2.length ((ofR g r).1) (List.length ((facesR g r).1) : Int) ([to])) ((endsS ((ofR g r).1) (e : Int)).2)) = ((gI (farS g.2.length ((ofR g r).1) (List.length ((facesR g r).1) : Int) ([to])) f_) - 1)
    ·
     refine run_cond_t rfl (decide_eq_true p19) ?_
     refine run_seq (run_region rfl ?_)
     refine l_val (v := l_v) rfl (e_move (by exact zs15)) ?_
     refine l_val (v := Value.int .i64 (e : Int)) rfl (e_move rfl) ?_
     refine l_op rfl ?_
     refine o_buildSlice (α := Int) g48 (is 7) (is 7) (7, 0) rfl [(e : Int)] Try.underlying27 tp3_de (by decide) (by decide) (vs := [(0, Value.int .i64 (e : Int))]) rfl rfl (.cons rfl .nil) ?_
     intro g83 w84 v85 ch86 o87
     refine l_op rfl ?_
     have C88 : Chg (inl [6]) _ _ _ _ := (hb44.n).seq ((ch46.n).seq ((ch51.l rfl).seq ((ch78.n).seq ((hc82.n).seq (ch86.n)))))
     replace o_l := o_l.chg C88 (is_nl rfl) (is_nl rfl)
     refine o_append (α := Int) (xs := l) (ys := ([(e : Int)])) g83 (J := is 8) (S := is 8) (8, 0) rfl Try.underlying27 tp3_de (by decide) rfl rfl rfl o_l o87.flat (by decide) (by first | omega | (simp; done) | (simp; omega)) ?_
     intro g89 w90 v91 ch92 o93
     clear o_l
     refine l_val (v := v91) rfl (e_assign rfl) ?_
     refine l_nil (run_seq ?_)
     clear o87
     refine run_region rfl ?_
     refine l_val (v := Value.pointer (some ⟨b47, 1, none⟩)) rfl (e_indexAddr_arr Try.underlying60 rfl rfl rfl (by decide) (by decide) rfl) ?_
     have C94 : Chg (inl [8]) _ _ _ _ := (hc82.n).seq ((ch86.n).seq (ch92.l rfl))
     replace bx52 := bx52.chg C94 (is_nl rfl)
     refine l_val (v := Value.int .i64 ((endsS ((ofR g r).1) (e : Int)).2)) rfl (e_load_bx1 tp3_de rfl bx52 rfl) ?_
     refine l_val (v := Value.int .i64 ((endsS ((ofR g r).1) (e : Int)).2)) rfl (e_assign rfl) ?_
     refine l_nil ?_
     refine run_exit rfl ?_
     refine run_inBlock ?_
     have C95 : Chg (inl [6, 8]) _ _ _ _ := (hb44.n).seq ((ch46.n).seq ((ch51.l rfl).seq ((ch78.n).seq ((hc82.n).seq ((ch86.n).seq (ch92.l rfl))))))
     replace hbase := hbase.chg C95 (is_nl rfl)
     replace r_g_v := r_g_v.chg C95 (is_nl rfl)
     replace r_r_v := r_r_v.chg C95 (is_nl rfl)
     replace bx5 := bx5.chg C95 (is_nl rfl)
     replace o18 := o18.chg C95 (is_nl rfl) (is_nl rfl)
     replace o30 := o30.chg C94 (is_nl rfl) (is_nl rfl)
     refine back12 (v91, (l ++ [(e : Int)]), (endsS ((ofR g r).1) (e : Int)).2, g89) _ _ ⟨hbase, (by exact zs3), (by exact zs4), (by exact zs12), (by exact zs14), rfl, rfl, r_g_v, r_r_v, bx5, o18, o30, o93, ?_⟩ ?_
     · show HopInv (l ++ [(e : Int)]) ((endsS ((ofR g r).1) (e : Int)).2) g.2.length (ofR g r).1 ((facesR g r).1.length : Int) (farS g.2.length (ofR g r).1 ((facesR g r).1.length : Int) [to]) from_ to
       first
         | (have h7 := stepL (of := (ofR g r).1) (far := (farS g.2.length (ofR g r).1 ((facesR g r).1.length : Int) [to])) (e := (e : Int)) (f := f_) (by assumption) (by assumption)
            obtain ⟨hs9, he9⟩ := h7
            have h9 := (hh.next hof hP (by assumption) (by assumption) hs9 hno).1
            rw [he9] at h9
            exact h9)
         | (have h7 := stepR (of := (ofR g r).1) (far := (farS g.2.length (ofR g r).1 ((facesR g r).1.length : Int) [to])) (e := (e : Int)) (f := f_) (by assumption) (by assumption) (by assumption)
            obtain ⟨hs9, he9⟩ := h7
            have h9 := (hh.next hof hP (by assumption) (by assumption) hs9 hno).1
            rw [he9] at h9
            exact h9)
         | exact absurd hst (hno e0 (by omega))
     · show Int.toNat (gI (farS g.2.length (ofR g r).1 ((facesR g r).1.length : Int) [to]) ((endsS ((ofR g r).1) (e : Int)).2)) < Int.toNat (gI (farS g.2.length (ofR g r).1 ((facesR g r).1.length : Int) [to]) f_)
       first
         | (have h7 := stepL (of := (ofR g r).1) (far := (farS g.2.length (ofR g r).1 ((facesR g r).1.length : Int) [to])) (e := (e : Int)) (f := f_) (by assumption) (by assumption)
            obtain ⟨hs9, he9⟩ := h7
            have h9 := (hh.next hof hP (by assumption) (by assumption) hs9 hno).2
            rw [he9] at h9
            have h8 := ((hh.next hof hP (by assumption) (by assumption) hs9 hno).1).pos.1
            rw [he9] at h8
            omega)
         | (have h7 := stepR (of := (ofR g r).1) (far := (farS g.2.length (ofR g r).1 ((facesR g r).1.length : Int) [to])) (e := (e : Int)) (f := f_) (by assumption) (by assumption) (by assumption)
            obtain ⟨hs9, he9⟩ := h7
            have h9 := (hh.next hof hP (by assumption) (by assumption) hs9 hno).2
            rw [he9] at h9
            have h8 := ((hh.next hof hP (by assumption) (by assumption) hs9 hno).1).pos.1
            rw [he9] at h8
            omega)
         | exact absurd hst (hno e0 (by omega))
    refine run_cond_f rfl (decide_eq_false p19) ?_
    refine run_skip ?_
    refine run_inBlock ?_
    clear bx52
    refine run_region rfl ?_
    refine l_val (v := Value.int .i64 ((e : Int) + 1)) rfl (e_add (m := (e : Int)) (n := 1) (by exact zs73) rfl (by omega)) ?_
    refine l_val (v := Value.int .i64 ((e : Int) + 1)) rfl (e_move rfl) ?_
    refine l_nil ?_
    have C96 : Chg (inl [6]) _ _ _ _ := (hb44.n).seq ((ch46.n).seq ((ch51.l rfl).seq ((ch78.n).seq (hc82.n))))
    replace hbase := hbase.chg C96 (is_nl rfl)
    replace r_g_v := r_g_v.chg C96 (is_nl rfl)
    replace r_r_v := r_r_v.chg C96 (is_nl rfl)
    replace bx5 := bx5.chg C96 (is_nl rfl)
    replace o18 := o18.chg C96 (is_nl rfl) (is_nl rfl)
    replace o30 := o30.chg hc82 (not_no _) (not_no _)
    replace o_l := o_l.chg C96 (is_nl rfl) (is_nl rfl)
    refine back14 (e + 1, g48) _ _ ⟨hbase, (by exact zs3), (by exact zs4), (by exact zs12), (by exact zs14), (by exact zs15), (by exact zs16), (by exact zs72), rfl, r_g_v, r_r_v, bx5, o18, o30, o_l, by omega, ?_⟩ ?_
    · show ∀ j : Nat, j < (e + 1) → ¬ stepP (ofR g r).1 (farS g.2.length (ofR g r).1 ((facesR g r).1.length : Int) [to]) f_ (j : Int)
      intro j hj
      by_cases e9 : j = e
      · subst e9
        first
          | exact stepNL (by assumption) (by assumption)
          | exact stepNR (by assumption) (by assumption)
          | exact stepNN (by assumption) (by assumption)
      · exact hno j (by omega)
    · show Int.toNat (((List.length g.2 : Int) : Int) - ((e + 1) : Int)) < Int.toNat (((List.length g.2 : Int) : Int) - (e : Int))
      omega
   refine q_skip (want_n rfl rfl rfl (decide_eq_false q93)) ?_
   refine q_skip (want_n rfl rfl rfl (decide_eq_false q93)) ?_
   refine q_skip (want_n rfl rfl rfl (decide_eq_false q93)) ?_
   refine q_skip (want_n rfl rfl rfl (decide_eq_false q93)) ?_
   refine q_skip (want_n rfl rfl rfl (decide_eq_false q93)) ?_
   refine q_skip (want_n rfl rfl rfl (decide_eq_false q93)) ?_
   refine q_skip (want_n rfl rfl rfl (decide_eq_false q93)) ?_
   refine q_skip (want_n rfl rfl rfl (decide_eq_false q93)) ?_
   refine q_skip (want_n rfl rfl rfl (decide_eq_false q93)) ?_
   refine q_skip (want_n rfl rfl rfl (decide_eq_false q93)) ?_
   refine q_skip (want_n rfl rfl rfl (decide_eq_false q93)) ?_
   refine q_val (v := Value.bool false) rfl (fun w' hw' => e_pick_f rfl (decide_eq_false q93) rfl) ?_
   refine q_nil ?_
   intro w97 hc98
   replace hc98 := chg_below hc98 g48
   refine run_cond_f rfl rfl ?_
   refine run_skip ?_
   refine run_inBlock ?_
   clear bx52
   refine run_region rfl ?_
   refine l_val (v := Value.int .i64 ((e : Int) + 1)) rfl (e_add (m := (e : Int)) (n := 1) (by exact zs73) rfl (by omega)) ?_
   refine l_val (v := Value.int .i64 ((e : Int) + 1)) rfl (e_move rfl) ?_
   refine l_nil ?_
   have C99 : Chg (inl [6]) _ _ _ _ := (hb44.n).seq ((ch46.n).seq ((ch51.l rfl).seq ((ch78.n).seq (hc98.n))))
   replace hbase := hbase.chg C99 (is_nl rfl)
   replace r_g_v := r_g_v.chg C99 (is_nl rfl)
   replace r_r_v := r_r_v.chg C99 (is_nl rfl)
   replace bx5 := bx5.chg C99 (is_nl rfl)
   replace o18 := o18.chg C99 (is_nl rfl) (is_nl rfl)
   replace o30 := o30.chg C99 (is_nl rfl) (is_nl rfl)
   replace o_l := o_l.chg C99 (is_nl rfl) (is_nl rfl)
   refine back14 (e + 1, g48) _ _ ⟨hbase, (by exact zs3), (by exact zs4), (by exact zs12), (by exact zs14), (by exact zs15), (by exact zs16), (by exact zs72), rfl, r_g_v, r_r_v, bx5, o18, o30, o_l, by omega, ?_⟩ ?_
   · show ∀ j : Nat, j < (e + 1) → ¬ stepP (ofR g r).1 (farS g.2.length (ofR g r).1 ((facesR g r).1.length : Int) [to]) f_ (j : Int)
     intro j hj
     by_cases e9 : j = e
     · subst e9
       first
         | exact stepNL (by assumption) (by assumption)
         | exact stepNR (by assumption) (by assumption)
         | exact stepNN (by assumption) (by assumption)
     · exact hno j (by omega)
   · show Int.toNat (((List.length g.2 : Int) : Int) - ((e + 1) : Int)) < Int.toNat (((List.length g.2 : Int) : Int) - (e : Int))
     omega
  refine run_cond_f rfl (decide_eq_false p14) ?_
  refine run_exit rfl ?_
  refine run_inBlock ?_
  refine back12 (l_v, l, f_, g42) _ _ ⟨hbase, (by exact zs3), (by exact zs4), (by exact zs12), (by exact zs14), (by exact zs15), (by exact zs16), r_g_v, r_r_v, bx5, o18, o30, o_l, ?_⟩ ?_
  · show HopInv l f_ g.2.length (ofR g r).1 ((facesR g r).1.length : Int) (farS g.2.length (ofR g r).1 ((facesR g r).1.length : Int) [to]) from_ to
    first
      | (have h7 := stepL (of := (ofR g r).1) (far := (farS g.2.length (ofR g r).1 ((facesR g r).1.length : Int) [to])) (e := (e : Int)) (f := f_) (by assumption) (by assumption)
         obtain ⟨hs9, he9⟩ := h7
         have h9 := (hh.next hof hP (by assumption) (by assumption) hs9 hno).1
         rw [he9] at h9
         exact h9)
      | (have h7 := stepR (of := (ofR g r).1) (far := (farS g.2.length (ofR g r).1 ((facesR g r).1.length : Int) [to])) (e := (e : Int)) (f := f_) (by assumption) (by assumption) (by assumption)
         obtain ⟨hs9, he9⟩ := h7
         have h9 := (hh.next hof hP (by assumption) (by assumption) hs9 hno).1
         rw [he9] at h9
         exact h9)
      | exact absurd hst (hno e0 (by omega))
  · show Int.toNat (gI (farS g.2.length (ofR g r).1 ((facesR g r).1.length : Int) [to]) f_) < Int.toNat (gI (farS g.2.length (ofR g r).1 ((facesR g r).1.length : Int) [to]) f_)
    first
      | (have h7 := stepL (of := (ofR g r).1) (far := (farS g.2.length (ofR g r).1 ((facesR g r).1.length : Int) [to])) (e := (e : Int)) (f := f_) (by assumption) (by assumption)
         obtain ⟨hs9, he9⟩ := h7
         have h9 := (hh.next hof hP (by assumption) (by assumption) hs9 hno).2
         rw [he9] at h9
         have h8 := ((hh.next hof hP (by assumption) (by assumption) hs9 hno).1).pos.1
         rw [he9] at h8
         omega)
      | (have h7 := stepR (of := (ofR g r).1) (far := (farS g.2.length (ofR g r).1 ((facesR g r).1.length : Int) [to])) (e := (e : Int)) (f := f_) (by assumption) (by assumption) (by assumption)
         obtain ⟨hs9, he9⟩ := h7
         have h9 := (hh.next hof hP (by assumption) (by assumption) hs9 hno).2
         rw [he9] at h9
         have h8 := ((hh.next hof hP (by assumption) (by assumption) hs9 hno).1).pos.1
         rw [he9] at h8
         omega)
      | exact absurd hst (hno e0 (by omega))
 refine run_cond_t rfl (congrArg Bool.not (decide_eq_false p2)) ?_
 refine run_seq ?_
 clear bx5
 clear o10
 refine run_region rfl ?_
 refine l_val (v := Value.int .i64 ((facesR g r).2)) rfl (e_move rfl) ?_
 refine l_val (v := Value.slice none 0 0) rfl (e_assign rfl) ?_
 refine l_val (v := Value.int .i64 ((facesR g r).2)) rfl (e_assign rfl) ?_
 refine l_nil ?_
 refine run_ret (vs := [Value.slice none 0 0, Value.int .i64 ((facesR g r).2)]) Try.func25 (.tmp rfl (.tmp rfl .nil)) ?_
 -- return 6
 replace hbase := hbase.chg ch2 (not_no _)
 replace hbase := hbase.chg ch12 (not_no _)
 have e0 : ([] : List Int) = ((hopR g r from_ to).1) := by
   first
     | (rw [hopR_no (by assumption)]; done)
     | (rw [hopR_bd (by assumption) (by omega)]; done)
     | (rw [hopR_none (by assumption) (by omega) (by assumption)]; done)
     | (have hft : f_ = to := (by first | assumption | (symm; assumption) | omega)
        subst hft
        rw [hopR_yes (by assumption) (by omega) (by assumption)]
        first | done | exact hh.done hP)
 have e1 : ((facesR g r).2 : Int) = ((hopR g r from_ to).2) := by
   first
     | (rw [hopR_no (by assumption)]; done)
     | (rw [hopR_bd (by assumption) (by omega)]; done)
     | (rw [hopR_none (by assumption) (by omega) (by assumption)]; done)
     | (have hft : f_ = to := (by first | assumption | (symm; assumption) | omega)
        subst hft
        rw [hopR_yes (by assumption) (by omega) (by assumption)]
        first | done | exact hh.done hP)
 exact ⟨(fin w0 g11 (fun n => 0), (Value.slice none 0 0)), (congr2 (a := []) (b := (facesR g r).2) (fun (z0 : List Int) (z1 : Int) => Ending.returned (Value.tuple (List.toArray [Value.slice none 0 0, Value.int .i64 z1]))) e0 e1), hbase.fresh _, (e0 ▸ Ow.nil)⟩
end TL
