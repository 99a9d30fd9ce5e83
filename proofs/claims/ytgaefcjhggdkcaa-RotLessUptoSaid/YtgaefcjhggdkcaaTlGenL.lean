import Derived.Test.YtgaefcjhggdkcaaTlGenA
import Derived.Test.YtgaefcjhggdkcaaTlGenC
import Derived.Test.YtgaefcjhggdkcaaTlGenD
import Derived.Test.YtgaefcjhggdkcaaTlGenX
import Derived.Test.YtgaefcjhggdkcaaTlGenY
import Derived.Test.YtgaefcjhggdkcaaTlGenZ
import Derived.Test.YtgaefcjhggdkcaaTlGenV
import Derived.Test.YtgaefcjhggdkcaaTlGenO
import Derived.Test.YtgaefcjhggdkcaaTlLess2
import Derived.Test.YtgaefcjhggdkcaaProg
import Derived.Test.YtgaefcjhggdkcaaTlNet2
import Derived.Test.YtgaefcjhggdkcaaTlEq
import Derived.Test.YtgaefcjhggdkcaaTlHold
import Derived.Test.YtgaefcjhggdkcaaTlDraw
import Derived.Test.YtgaefcjhggdkcaaTlMap
set_option linter.all false
set_option maxRecDepth 20000
namespace TL
open Go Go.Proofs
theorem mixed_l : Try.prog.follows .mixedOrders = true := by kernel_rfl
theorem tp3_l : Tp Try.prog 3 false 1 8 (.int .i64 0) := Tp.of (by kernel_rfl)
theorem tp24_l : Tp Try.prog 24 true 2 32 (.agg #[.int .i64 0, .slice none 0 0]) := Tp.of (by kernel_rfl)
theorem bd9_l : Try.f9.body.isNone = false := rfl
theorem nm9_l : (Try.f9.name == "runtime.NumGoroutine") = false := by decide +kernel
theorem bd11_l : Try.f11.body.isNone = false := rfl
theorem nm11_l : (Try.f11.name == "runtime.NumGoroutine") = false := by decide +kernel
theorem bd12_l : Try.f12.body.isNone = false := rfl
theorem nm12_l : (Try.f12.name == "runtime.NumGoroutine") = false := by decide +kernel
theorem bd34_l : Try.f34.body.isNone = false := rfl
theorem nm34_l : (Try.f34.name == "runtime.NumGoroutine") = false := by decide +kernel

set_option maxHeartbeats 4000000 in
theorem RotLess_ok (w0 : World) (g : (Int) × (List ((Int) × (Int)))) (g_v : Value) (hg_v : Ro w0 g_v g.2) (r : List (List Int)) (r_v : Value) (hr_v : Ro w0 r_v r) (keep : List Int) (keep_v : Value) (hkeep_v : Ro w0 keep_v keep) (hb : (r.length : Int) ≤ 1048576 ∧ ∀ l_ ∈ r, l_.length ≤ 1048576) :
    Calls Try.prog 6 #[Value.agg (List.toArray [Value.int .i64 g.1, g_v]), r_v, keep_v] w0 (fun ee w => ee = .returned (Value.bool true) ∧ RowKit.Below w0.heap.size w0 w) := by
 refine calls_of_run Try.func6 rfl (Nat.le_of_ble_eq_true rfl) ?_
 have hbase := Base.start w0
 have r_g_v := hg_v.sl
 have r_r_v := hr_v.sl
 have r_keep_v := hkeep_v.sl
 refine run_seq ?_
 refine run_region rfl ?_
 refine l_op rfl ?_
 refine o_box c0 (is 1) (1, 0) rfl rfl ?_
 intro g4 w1 b3 ch2 bx5
 replace bx5 : Bx g4 (is 1) w1 b3 [Value.int .i64 g.1, g_v] := bx5
 refine l_val (v := Value.bool false) rfl (e_assign rfl) ?_
 refine l_nil ?_
 refine run_seq ?_
 refine run_seq ?_
 refine run_region rfl ?_
 refine l_op rfl ?_
 refine o_call (v := Value.bool true) (e_call (vals := []) Try.func9 bd9_l nm9_l rfl) (begun9_ok w1 ) ?_
 intro w6 hb7
 replace hb7 := chg_below hb7 g4
 refine l_val (v := Value.bool false) rfl (e_not (b := true) rfl) ?_
 refine l_nil ?_
 refine run_cond_f rfl rfl ?_
 refine run_skip ?_
 refine run_seq ?_
 refine run_seq ?_
 refine run_region rfl ?_
 replace bx5 := bx5.chg hb7 (not_no _)
 refine l_val (v := Value.agg (List.toArray [Value.int .i64 g.1, g_v])) rfl (e_load_bxN (ds := [Value.int .i64 g.1, g_v]) tp24_l rfl bx5 rfl rfl) ?_
 refine l_val (v := r_v) rfl (e_move rfl) ?_
 replace r_g_v := (r_g_v.chg ch2 (not_no _)).chg hb7 (not_no _)
 replace r_r_v := (r_r_v.chg ch2 (not_no _)).chg hb7 (not_no _)
 refine l_op rfl ?_
 refine o_call (v := Value.bool (decide ((g.2.length ≤ 300 ∧ (g.1 ≤ 300 ∨ ¬ MayP g)) ∧ g.1 ≤ 200 ∧ r.length + r.flatten.length ≤ 1000))) (e_call (vals := [Value.agg (List.toArray [Value.int .i64 g.1, g_v]), r_v]) Try.func12 bd12_l nm12_l rfl) (Light9_ok w6 g g_v (r_g_v).ro r r_v (r_r_v).ro (by assumption)) ?_
 intro w8 hb9
 replace hb9 := chg_below hb9 g4
 refine l_val (v := Value.bool (!(decide ((g.2.length ≤ 300 ∧ (g.1 ≤ 300 ∨ ¬ MayP g)) ∧ g.1 ≤ 200 ∧ r.length + r.flatten.length ≤ 1000)))) rfl (e_not (b := (decide ((g.2.length ≤ 300 ∧ (g.1 ≤ 300 ∨ ¬ MayP g)) ∧ g.1 ≤ 200 ∧ r.length + r.flatten.length ≤ 1000))) rfl) ?_
 refine l_val (v := Value.bool (!(decide ((g.2.length ≤ 300 ∧ (g.1 ≤ 300 ∨ ¬ MayP g)) ∧ g.1 ≤ 200 ∧ r.length + r.flatten.length ≤ 1000)))) rfl (e_move rfl) ?_
 by_cases q20 : (decide ((g.2.length ≤ 300 ∧ (g.1 ≤ 300 ∨ ¬ MayP g)) ∧ g.1 ≤ 200 ∧ r.length + r.flatten.length ≤ 1000)) = true
 ·
  refine l_val (v := keep_v) (want_y rfl rfl rfl (congrArg Bool.not q20)) (e_move rfl) ?_
  have C10 : Chg (inl []) _ _ _ _ := (ch2.n).seq ((hb7.n).seq (hb9.n))
  replace r_keep_v := r_keep_v.chg C10 (is_nl rfl)
  have len11 := (r_keep_v).small
  refine l_val (v := Value.int .i64 (List.length keep : Int)) (want_y rfl rfl rfl (congrArg Bool.not q20)) (e_len Try.underlying35 rfl r_keep_v) ?_
  refine l_val (v := Value.bool (decide (300 < (List.length keep : Int)))) (want_y rfl rfl rfl (congrArg Bool.not q20)) (e_gtr (m := (List.length keep : Int)) (n := 300) rfl rfl) ?_
  refine l_val (v := Value.bool (decide (300 < (List.length keep : Int)))) rfl (e_pick_f rfl (congrArg Bool.not q20) rfl) ?_
  refine l_nil ?_
  by_cases p3 : 300 < (List.length keep : Int)
  ·
   refine run_cond_t rfl (decide_eq_true p3) ?_
   refine run_seq ?_
   clear bx5
   refine run_region rfl ?_
   refine l_val (v := Value.bool true) rfl (e_assign rfl) ?_
   refine l_nil ?_
   refine run_ret (vs := [Value.bool true]) Try.func6 (.tmp rfl .nil) ?_
   -- return 0
   have e0 : (true : Bool) = (true) := by
     first
       | rfl
       | exact decide_eq_true hnn
       | exact (decide_eq_true hnn).symm
       | (rw [hb2]; rfl)
   replace hbase := hbase.chg C10 (is_nl rfl)
   exact ⟨(congrArg (a₁ := true) (fun (z0 : Bool) => Ending.returned (Value.bool z0)) e0), hbase.below⟩
  refine run_cond_f rfl (decide_eq_false p3) ?_
  refine run_skip ?_
  refine run_seq ?_
  refine run_region rfl ?_
  replace bx5 := bx5.chg hb9 (not_no _)
  refine l_val (v := Value.agg (List.toArray [Value.int .i64 g.1, g_v])) rfl (e_load_bxN (ds := [Value.int .i64 g.1, g_v]) tp24_l rfl bx5 rfl rfl) ?_
  refine l_val (v := r_v) rfl (e_move rfl) ?_
  refine l_val (v := keep_v) rfl (e_move rfl) ?_
  replace r_g_v := r_g_v.chg hb9 (not_no _)
  replace r_r_v := r_r_v.chg hb9 (not_no _)
  refine l_op rfl ?_
  refine o_callx (e_call (vals := [Value.agg (List.toArray [Value.int .i64 g.1, g_v]), r_v, keep_v]) Try.func34 bd34_l nm34_l rfl) (RSub_ok w8 g g_v (r_g_v).ro r r_v (r_r_v).ro keep keep_v (r_keep_v).ro) ?_
  rintro ⟨d13, v15, v17⟩ w12 ⟨fr14, o16, o18⟩
  obtain ⟨g19, hg19⟩ : ∃ q, q = glue w8.heap.size g4 d13 (fun n => if n = 1 then 2 else if n = 2 then 3 else 0) := ⟨_, rfl⟩
  have ch20 := chg_glue fr14.below g4 d13 (fun n => if n = 1 then 2 else if n = 2 then 3 else 0)
  rw [← hg19] at ch20
  replace o16 := o16.glue (γ := g4) (ren := (fun n => if n = 1 then 2 else if n = 2 then 3 else 0)) (k := 2) fr14.col rfl rfl
  rw [← hg19] at o16
  replace o18 := o18.glue (γ := g4) (ren := (fun n => if n = 1 then 2 else if n = 2 then 3 else 0)) (k := 3) fr14.col rfl rfl
  rw [← hg19] at o18
  clear hg19
  refine l_val (v := Value.tuple (List.toArray [Value.agg (List.toArray [Value.int .i64 (((rsubR g r keep).1).1), v15]), v17, Value.int .i64 ((rsubR g r keep).2.2)])) rfl (e_move rfl) ?_
  refine l_val (v := Value.agg (List.toArray [Value.int .i64 (((rsubR g r keep).1).1), v15])) rfl (e_extract rfl rfl) ?_
  refine l_val (v := v17) rfl (e_extract rfl rfl) ?_
  refine l_val (v := Value.int .i64 ((rsubR g r keep).2.2)) rfl (e_extract rfl rfl) ?_
  refine l_op rfl ?_
  refine o_alloc g19 (is 4) (4, 0) rfl tp24_l ?_
  intro g24 w21 b23 ch22 bx25
  replace bx25 : Bx g24 (is 4) w21 b23 [Value.int .i64 0, Value.slice none 0 0] := bx25
  refine l_op rfl ?_
  replace o16 := o16.chg ch22 (not_no _) (not_no _)
  refine o_store_bx (cs' := [Value.int .i64 (((rsubR g r keep).1).1), v15]) tp24_l rfl rfl bx25 rfl (Nat.le_of_ble_eq_true rfl) (AllOne.all (.cons rfl (.cons (sl_one o16.flat) .nil))) rfl ?_
  intro w26 ch27 bx28
  clear bx25
  refine l_val (v := v17) rfl (e_assign rfl) ?_
  refine l_val (v := Value.int .i64 ((rsubR g r keep).2.2)) rfl (e_assign rfl) ?_
  refine l_nil ?_
  refine run_seq ?_
  refine run_seq ?_
  refine run_region rfl ?_
  refine l_val (v := Value.int .i64 ((rsubR g r keep).2.2)) rfl (e_move rfl) ?_
  refine l_val (v := Value.bool (!(decide (((rsubR g r keep).2.2) = 0)))) rfl (e_neq (m := (rsubR g r keep).2.2) (n := 0) rfl rfl) ?_
  refine l_nil ?_
  by_cases p6 : ((rsubR g r keep).2.2) = 0
  ·
   obtain ⟨hz, hle, hnn⟩ := less_genus p6
   refine run_cond_f rfl (congrArg Bool.not (decide_eq_true p6)) ?_
   refine run_skip ?_
   refine run_seq ?_
   refine run_region rfl ?_
   have C29 : Chg (inl [4]) _ _ _ _ := (ch20.n).seq ((ch22.n).seq (ch27.l rfl))
   replace bx5 := bx5.chg C29 (is_nl rfl)
   refine l_val (v := Value.agg (List.toArray [Value.int .i64 g.1, g_v])) rfl (e_load_bxN (ds := [Value.int .i64 g.1, g_v]) tp24_l rfl bx5 rfl rfl) ?_
   refine l_val (v := r_v) rfl (e_move rfl) ?_
   replace r_g_v := r_g_v.chg C29 (is_nl rfl)
   replace r_r_v := r_r_v.chg C29 (is_nl rfl)
   refine l_op rfl ?_
   refine o_call (v := Value.tuple (List.toArray [Value.int .i64 ((genusR g r).1), Value.int .i64 ((genusR g r).2)])) (e_call (vals := [Value.agg (List.toArray [Value.int .i64 g.1, g_v]), r_v]) Try.func11 bd11_l nm11_l rfl) (Genus_ok w26 g g_v (r_g_v).ro r r_v (r_r_v).ro) ?_
   intro w30 hb31
   replace hb31 := chg_below hb31 g24
   refine l_val (v := Value.tuple (List.toArray [Value.int .i64 ((genusR g r).1), Value.int .i64 ((genusR g r).2)])) rfl (e_move rfl) ?_
   refine l_val (v := Value.int .i64 ((genusR g r).1)) rfl (e_extract rfl rfl) ?_
   refine l_val (v := Value.int .i64 ((genusR g r).2)) rfl (e_extract rfl rfl) ?_
   refine l_val (v := Value.int .i64 ((genusR g r).1)) rfl (e_assign rfl) ?_
   refine l_val (v := Value.int .i64 ((genusR g r).2)) rfl (e_assign rfl) ?_
   refine l_nil ?_
   refine run_seq ?_
   clear bx5
   refine run_region rfl ?_
   replace bx28 := bx28.chg hb31 (not_no _)
   refine l_val (v := Value.agg (List.toArray [Value.int .i64 (((rsubR g r keep).1).1), v15])) rfl (e_load_bxN (ds := [Value.int .i64 (((rsubR g r keep).1).1), v15]) tp24_l rfl bx28 rfl rfl) ?_
   refine l_val (v := v17) rfl (e_move rfl) ?_
   replace o16 := (o16.chg ch27 (is_ne rfl) (is_ne rfl)).chg hb31 (not_no _) (not_no _)
   have C32 : Chg (inl [4]) _ _ _ _ := (ch22.n).seq ((ch27.l rfl).seq (hb31.n))
   replace o18 := o18.chg C32 (is_nl rfl)
   refine l_op rfl ?_
   refine o_call (v := Value.tuple (List.toArray [Value.int .i64 ((genusR ((rsubR g r keep).1) ((rsubR g r keep).2.1)).1), Value.int .i64 ((genusR ((rsubR g r keep).1) ((rsubR g r keep).2.1)).2)])) (e_call (vals := [Value.agg (List.toArray [Value.int .i64 (((rsubR g r keep).1).1), v15]), v17]) Try.func11 bd11_l nm11_l rfl) (Genus_ok w30 ((rsubR g r keep).1) v15 (o16.flat).ro ((rsubR g r keep).2.1) v17 (o18.sl).ro) ?_
   intro w33 hb34
   replace hb34 := chg_below hb34 g24
   refine l_val (v := Value.tuple (List.toArray [Value.int .i64 ((genusR ((rsubR g r keep).1) ((rsubR g r keep).2.1)).1), Value.int .i64 ((genusR ((rsubR g r keep).1) ((rsubR g r keep).2.1)).2)])) rfl (e_move rfl) ?_
   refine l_val (v := Value.int .i64 ((genusR ((rsubR g r keep).1) ((rsubR g r keep).2.1)).1)) rfl (e_extract rfl rfl) ?_
   refine l_val (v := Value.int .i64 ((genusR ((rsubR g r keep).1) ((rsubR g r keep).2.1)).2)) rfl (e_extract rfl rfl) ?_
   refine l_val (v := Value.int .i64 ((genusR ((rsubR g r keep).1) ((rsubR g r keep).2.1)).1)) rfl (e_assign rfl) ?_
   refine l_val (v := Value.int .i64 ((genusR ((rsubR g r keep).1) ((rsubR g r keep).2.1)).2)) rfl (e_assign rfl) ?_
   refine l_nil ?_
   refine run_seq ?_
   clear o16
   clear o18
   clear bx28
   refine run_region rfl ?_
   refine l_val (v := Value.int .i64 ((genusR ((rsubR g r keep).1) ((rsubR g r keep).2.1)).2)) rfl (e_move rfl) ?_
   refine l_val (v := Value.bool (decide (((genusR ((rsubR g r keep).1) ((rsubR g r keep).2.1)).2) = 0))) rfl (e_eql (m := (genusR ((rsubR g r keep).1) ((rsubR g r keep).2.1)).2) (n := 0) rfl rfl) ?_
   refine l_val (v := Value.bool (decide (((genusR ((rsubR g r keep).1) ((rsubR g r keep).2.1)).2) = 0))) rfl (e_move rfl) ?_
   have q57 : ((genusR ((rsubR g r keep).1) ((rsubR g r keep).2.1)).2) = 0 := by first | exact hz | exact hle | exact hb1
   refine l_val (v := Value.int .i64 ((genusR ((rsubR g r keep).1) ((rsubR g r keep).2.1)).1)) (want_y rfl rfl rfl (decide_eq_true q57)) (e_move rfl) ?_
   refine l_val (v := Value.int .i64 ((genusR g r).1)) (want_y rfl rfl rfl (decide_eq_true q57)) (e_move rfl) ?_
   refine l_val (v := Value.bool (decide (((genusR ((rsubR g r keep).1) ((rsubR g r keep).2.1)).1) ≤ ((genusR g r).1)))) (want_y rfl rfl rfl (decide_eq_true q57)) (e_leq (m := (genusR ((rsubR g r keep).1) ((rsubR g r keep).2.1)).1) (n := (genusR g r).1) rfl rfl) ?_
   refine l_val (v := Value.bool (decide (((genusR ((rsubR g r keep).1) ((rsubR g r keep).2.1)).1) ≤ ((genusR g r).1)))) rfl (e_pick_t rfl (decide_eq_true q57) rfl) ?_
   refine l_val (v := Value.bool (decide (((genusR ((rsubR g r keep).1) ((rsubR g r keep).2.1)).1) ≤ ((genusR g r).1)))) rfl (e_move rfl) ?_
   have q62 : ((genusR ((rsubR g r keep).1) ((rsubR g r keep).2.1)).1) ≤ ((genusR g r).1) := by first | exact hz | exact hle | exact hb1
   refine l_val (v := Value.int .i64 ((genusR ((rsubR g r keep).1) ((rsubR g r keep).2.1)).1)) (want_y rfl rfl rfl (decide_eq_true q62)) (e_move rfl) ?_
   refine l_val (v := Value.bool (decide (0 ≤ ((genusR ((rsubR g r keep).1) ((rsubR g r keep).2.1)).1)))) (want_y rfl rfl rfl (decide_eq_true q62)) (e_geq (m := (genusR ((rsubR g r keep).1) ((rsubR g r keep).2.1)).1) (n := 0) rfl rfl) ?_
   refine l_val (v := Value.bool (decide (0 ≤ ((genusR ((rsubR g r keep).1) ((rsubR g r keep).2.1)).1)))) rfl (e_pick_t rfl (decide_eq_true q62) rfl) ?_
   refine l_val (v := Value.bool (decide (0 ≤ ((genusR ((rsubR g r keep).1) ((rsubR g r keep).2.1)).1)))) rfl (e_assign rfl) ?_
   refine l_nil ?_
   refine run_ret (vs := [Value.bool (decide (0 ≤ ((genusR ((rsubR g r keep).1) ((rsubR g r keep).2.1)).1)))]) Try.func6 (.tmp rfl .nil) ?_
   -- return 1
   have e0 : (decide (0 ≤ ((genusR ((rsubR g r keep).1) ((rsubR g r keep).2.1)).1)) : Bool) = (true) := by
     first
       | rfl
       | exact decide_eq_true hnn
       | exact (decide_eq_true hnn).symm
       | (rw [hb2]; rfl)
   have C35 : Chg (inl [4]) _ _ _ _ := (ch2.n).seq ((hb7.n).seq ((hb9.n).seq ((ch20.n).seq ((ch22.n).seq ((ch27.l rfl).seq ((hb31.n).seq (hb34.n)))))))
   replace hbase := hbase.chg C35 (is_nl rfl)
   exact ⟨(congrArg (a₁ := decide (0 ≤ ((genusR ((rsubR g r keep).1) ((rsubR g r keep).2.1)).1))) (fun (z0 : Bool) => Ending.returned (Value.bool z0)) e0), hbase.below⟩
  obtain ⟨hb1, hb2⟩ := rsubR_bad p6
  refine run_cond_t rfl (congrArg Bool.not (decide_eq_false p6)) ?_
  refine run_seq ?_
  clear bx5
  refine run_region rfl ?_
  refine l_val (v := Value.pointer (some ⟨b23, 0, none⟩)) rfl (e_fieldAddr Try.underlying24 rfl rfl rfl rfl) ?_
  refine l_val (v := Value.int .i64 (((rsubR g r keep).1).1)) rfl (e_load_bx1 tp3_l rfl bx28 rfl) ?_
  refine l_val (v := Value.bool (decide ((((rsubR g r keep).1).1) = 0))) rfl (e_eql (m := ((rsubR g r keep).1).1) (n := 0) rfl rfl) ?_
  refine l_val (v := Value.bool (decide ((((rsubR g r keep).1).1) = 0))) rfl (e_move rfl) ?_
  have q38 : (((rsubR g r keep).1).1) = 0 := by first | exact hz | exact hle | exact hb1
  refine l_val (v := v17) (want_y rfl rfl rfl (decide_eq_true q38)) (e_move rfl) ?_
  replace o18 := (o18.chg ch22 (not_no _)).chg ch27 (is_ne rfl)
  have len36 := (o18.sl).small
  refine l_val (v := Value.int .i64 (List.length ((rsubR g r keep).2.1) : Int)) (want_y rfl rfl rfl (decide_eq_true q38)) (e_len Try.underlying26 rfl o18.sl) ?_
  refine l_val (v := Value.bool (decide ((List.length ((rsubR g r keep).2.1) : Int) = 0))) (want_y rfl rfl rfl (decide_eq_true q38)) (e_eql (m := (List.length ((rsubR g r keep).2.1) : Int)) (n := 0) rfl rfl) ?_
  refine l_val (v := Value.bool (decide ((List.length ((rsubR g r keep).2.1) : Int) = 0))) rfl (e_pick_t rfl (decide_eq_true q38) rfl) ?_
  refine l_val (v := Value.bool (decide ((List.length ((rsubR g r keep).2.1) : Int) = 0))) rfl (e_assign rfl) ?_
  refine l_nil ?_
  refine run_ret (vs := [Value.bool (decide ((List.length ((rsubR g r keep).2.1) : Int) = 0))]) Try.func6 (.tmp rfl .nil) ?_
  -- return 2
  have e0 : (decide ((List.length ((rsubR g r keep).2.1) : Int) = 0) : Bool) = (true) := by
    first
      | rfl
      | exact decide_eq_true hnn
      | exact (decide_eq_true hnn).symm
      | (rw [hb2]; rfl)
  have C37 : Chg (inl [4]) _ _ _ _ := (ch2.n).seq ((hb7.n).seq ((hb9.n).seq ((ch20.n).seq ((ch22.n).seq (ch27.l rfl)))))
  replace hbase := hbase.chg C37 (is_nl rfl)
  exact ⟨(congrArg (a₁ := decide ((List.length ((rsubR g r keep).2.1) : Int) = 0)) (fun (z0 : Bool) => Ending.returned (Value.bool z0)) e0), hbase.below⟩
 refine l_skip (want_n rfl rfl rfl (congrArg Bool.not (Bool.eq_false_iff.2 q20))) ?_
 refine l_skip (want_n rfl rfl rfl (congrArg Bool.not (Bool.eq_false_iff.2 q20))) ?_
 refine l_skip (want_n rfl rfl rfl (congrArg Bool.not (Bool.eq_false_iff.2 q20))) ?_
 refine l_val (v := Value.bool true) rfl (e_pick_t rfl (congrArg Bool.not (Bool.eq_false_iff.2 q20)) rfl) ?_
 refine l_nil ?_
 refine run_cond_t rfl rfl ?_
 refine run_seq ?_
 clear bx5
 refine run_region rfl ?_
 refine l_val (v := Value.bool true) rfl (e_assign rfl) ?_
 refine l_nil ?_
 refine run_ret (vs := [Value.bool true]) Try.func6 (.tmp rfl .nil) ?_
 -- return 3
 have e0 : (true : Bool) = (true) := by
   first
     | rfl
     | exact decide_eq_true hnn
     | exact (decide_eq_true hnn).symm
     | (rw [hb2]; rfl)
 have C38 : Chg (inl []) _ _ _ _ := (ch2.n).seq ((hb7.n).seq (hb9.n))
 replace hbase := hbase.chg C38 (is_nl rfl)
 exact ⟨(congrArg (a₁ := true) (fun (z0 : Bool) => Ending.returned (Value.bool z0)) e0), hbase.below⟩
end TL
