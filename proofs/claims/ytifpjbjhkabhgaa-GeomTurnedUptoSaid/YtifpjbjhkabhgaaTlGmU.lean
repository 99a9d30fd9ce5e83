import Derived.Test.YtifpjbjhkabhgaaTlGmA
import Derived.Test.YtifpjbjhkabhgaaTlGmM
import Derived.Test.YtifpjbjhkabhgaaTlGmR
import Derived.Test.YtifpjbjhkabhgaaTlGmB
import Derived.Test.YtifpjbjhkabhgaaTlGmP
import Derived.Test.YtifpjbjhkabhgaaTlGeomS
import Derived.Test.YtifpjbjhkabhgaaTlGeomA
import Derived.Test.YtifpjbjhkabhgaaProg
import Derived.Test.YtifpjbjhkabhgaaTlNet2
import Derived.Test.YtifpjbjhkabhgaaTlEq
import Derived.Test.YtifpjbjhkabhgaaTlHold
import Derived.Test.YtifpjbjhkabhgaaTlDraw
import Derived.Test.YtifpjbjhkabhgaaTlMap
set_option linter.all false
set_option maxRecDepth 20000
namespace TL
open Go Go.Proofs
theorem mixed_gu : Try.prog.follows .mixedOrders = true := by kernel_rfl
theorem tp23_gu : Tp Try.prog 23 true 2 16 (.agg #[.int .i64 0, .int .i64 0]) := Tp.of (by kernel_rfl)
theorem bd12_gu : Try.f12.body.isNone = false := rfl
theorem nm12_gu : (Try.f12.name == "runtime.NumGoroutine") = false := by decide +kernel
theorem bd29_gu : Try.f29.body.isNone = false := rfl
theorem nm29_gu : (Try.f29.name == "runtime.NumGoroutine") = false := by decide +kernel
theorem bd30_gu : Try.f30.body.isNone = false := rfl
theorem nm30_gu : (Try.f30.name == "runtime.NumGoroutine") = false := by decide +kernel

set_option maxHeartbeats 4000000 in
theorem GeomTurned_ok (w0 : World) (p : List ((Int) × (Int))) (p_v : Value) (hp_v : Ro w0 p_v p) (q : List ((Int) × (Int))) (q_v : Value) (hq_v : Ro w0 q_v q) :
    Calls Try.prog 10 #[p_v, q_v] w0 (fun ee w => ee = .returned (Value.bool true) ∧ RowKit.Below w0.heap.size w0 w) := by
 refine calls_of_run Try.func10 rfl (Nat.le_of_ble_eq_true rfl) ?_
 have hbase := Base.start w0
 have r_p_v := hp_v.sl
 have r_q_v := hq_v.sl
 refine run_seq ?_
 refine run_region rfl ?_
 refine l_val (v := Value.bool false) rfl (e_assign rfl) ?_
 refine l_nil ?_
 refine run_seq ?_
 refine run_seq ?_
 refine run_region rfl ?_
 refine l_op rfl ?_
 refine o_call (v := Value.bool true) (e_call (vals := []) Try.func12 bd12_gu nm12_gu rfl) (begun2_ok w0 ) ?_
 intro w1 hb2
 replace hb2 := chg_below hb2 c0
 refine l_val (v := Value.bool false) rfl (e_not (b := true) rfl) ?_
 refine l_nil ?_
 refine run_cond_f rfl rfl ?_
 refine run_skip ?_
 refine run_seq ?_
 refine run_seq ?_
 refine run_region rfl ?_
 refine l_val (v := p_v) rfl (e_move rfl) ?_
 replace r_p_v := r_p_v.chg hb2 (not_no _)
 have len3 := (r_p_v).small
 refine l_val (v := Value.int .i64 (List.length p : Int)) rfl (e_len Try.underlying25 rfl r_p_v) ?_
 refine l_val (v := Value.bool (decide (30 < (List.length p : Int)))) rfl (e_gtr (m := (List.length p : Int)) (n := 30) rfl rfl) ?_
 refine l_val (v := Value.bool (decide (30 < (List.length p : Int)))) rfl (e_move rfl) ?_
 by_cases q20 : 30 < (List.length p : Int)
 ·
  refine l_skip (want_n rfl rfl rfl (decide_eq_true q20)) ?_
  refine l_skip (want_n rfl rfl rfl (decide_eq_true q20)) ?_
  refine l_skip (want_n rfl rfl rfl (decide_eq_true q20)) ?_
  refine l_val (v := Value.bool true) rfl (e_pick_t rfl (decide_eq_true q20) rfl) ?_
  refine l_nil ?_
  refine run_cond_t rfl rfl ?_
  refine run_seq ?_
  refine run_region rfl ?_
  refine l_val (v := Value.bool true) rfl (e_assign rfl) ?_
  refine l_nil ?_
  refine run_ret (vs := [Value.bool true]) Try.func10 (.tmp rfl .nil) ?_
  -- return 0
  have e0 : (true : Bool) = (true) := by
    first
      | rfl
      | exact decide_eq_true (by rw [s2])
      | exact (decide_eq_true (by rw [s2])).symm
  replace hbase := hbase.chg hb2 (not_no _)
  exact ⟨(congrArg (a₁ := true) (fun (z0 : Bool) => Ending.returned (Value.bool z0)) e0), hbase.below⟩
 refine l_val (v := q_v) (want_y rfl rfl rfl (decide_eq_false q20)) (e_move rfl) ?_
 replace r_q_v := r_q_v.chg hb2 (not_no _)
 have len4 := (r_q_v).small
 refine l_val (v := Value.int .i64 (List.length q : Int)) (want_y rfl rfl rfl (decide_eq_false q20)) (e_len Try.underlying25 rfl r_q_v) ?_
 refine l_val (v := Value.bool (decide (30 < (List.length q : Int)))) (want_y rfl rfl rfl (decide_eq_false q20)) (e_gtr (m := (List.length q : Int)) (n := 30) rfl rfl) ?_
 refine l_val (v := Value.bool (decide (30 < (List.length q : Int)))) rfl (e_pick_f rfl (decide_eq_false q20) rfl) ?_
 refine l_nil ?_
 by_cases p3 : 30 < (List.length q : Int)
 ·
  refine run_cond_t rfl (decide_eq_true p3) ?_
  refine run_seq ?_
  refine run_region rfl ?_
  refine l_val (v := Value.bool true) rfl (e_assign rfl) ?_
  refine l_nil ?_
  refine run_ret (vs := [Value.bool true]) Try.func10 (.tmp rfl .nil) ?_
  -- return 1
  have e0 : (true : Bool) = (true) := by
    first
      | rfl
      | exact decide_eq_true (by rw [s2])
      | exact (decide_eq_true (by rw [s2])).symm
  replace hbase := hbase.chg hb2 (not_no _)
  exact ⟨(congrArg (a₁ := true) (fun (z0 : Bool) => Ending.returned (Value.bool z0)) e0), hbase.below⟩
 refine run_cond_f rfl (decide_eq_false p3) ?_
 refine run_skip ?_
 refine run_seq ?_
 refine run_region rfl ?_
 refine l_val (v := Value.slice none 0 0) rfl (e_assign rfl) ?_
 refine l_nil ?_
 refine run_seq ?_
 refine run_seq ?_
 refine run_region rfl ?_
 refine l_val (v := p_v) rfl (e_move rfl) ?_
 refine l_val (v := Value.int .i64 (List.length p : Int)) rfl (e_len Try.underlying25 rfl r_p_v) ?_
 refine l_val (v := Value.int .i64 ((List.length p : Int) - 1)) rfl (e_sub (m := (List.length p : Int)) (n := 1) rfl rfl (by omega)) ?_
 refine l_val (v := Value.int .i64 ((List.length p : Int) - 1)) rfl (e_assign rfl) ?_
 refine l_nil ?_
 refine run_block ?_
 refine run_loop (σ := Value × (List ((Int) × (Int))) × Int × Cmap) (fun ⟨back_v, back, i, gq⟩ f w => Base w0 gq w ∧ f 0 = p_v ∧ f 1 = q_v ∧ f 5 = back_v ∧ f 6 = Value.int .i64 i ∧ Sl gq (is 0) w p_v p ∧ Sl gq (is 0) w q_v q ∧ Ow gq (is 2) (is 2) w back_v back ∧ (back = (List.drop (Int.toNat (i + 1)) p).reverse ∧ -1 ≤ i ∧ i < (p.length : Int))) (fun ⟨back_v, back, i, gq⟩ => Int.toNat (i + 1)) (Value.slice none 0 0, [], (List.length p : Int) - 1, c0) ?_ ?_
 replace hbase := hbase.chg hb2 (not_no _)
 · exact ⟨hbase, rfl, rfl, rfl, rfl, r_p_v, r_q_v, Ow.nil, by exact ⟨back_start p, by omega, by omega⟩⟩
 clear r_p_v
 clear r_q_v
 clear hbase
 rintro ⟨back_v, back, i, g7⟩ f5 w6 ⟨hbase, zs0, zs1, zs5, zs6, r_p_v, r_q_v, o_back, hinv⟩ back7
 have hbl : (back.length : Int) ≤ p.length := by rw [hinv.1]; simp <;> omega
 have hi1 := hinv.2.1
 have hi2 := hinv.2.2
 refine run_seq ?_
 refine run_seq ?_
 refine run_region rfl ?_
 refine l_val (v := Value.int .i64 i) rfl (e_move (by exact zs6)) ?_
 refine l_val (v := Value.bool (decide (0 ≤ i))) rfl (e_geq (m := i) (n := 0) rfl rfl) ?_
 refine l_nil ?_
 by_cases p7 : 0 ≤ i
 ·
  refine run_cond_t rfl (decide_eq_true p7) ?_
  refine run_skip ?_
  refine run_seq ?_
  refine run_block ?_
  refine run_region rfl ?_
  refine l_val (v := back_v) rfl (e_move (by exact zs5)) ?_
  refine l_val (v := p_v) rfl (e_move (by exact zs0)) ?_
  refine l_val (v := Value.int .i64 i) rfl (e_move (by exact zs6)) ?_
  refine l_val (v := Value.pointer (some (eAddr p_v 2 (Int.toNat i)))) rfl (e_indexAddr (α := (Int) × (Int)) (xs := p) (v := p_v) (i := i) Try.underlying25 rfl rfl r_p_v rfl (by omega) (by omega)) ?_
  refine l_val (v := Value.agg (List.toArray [Value.int .i64 ((gI p i).1), Value.int .i64 ((gI p i).2)])) rfl (e_load_elN (α := (Int) × (Int)) (xs := p) (v := p_v) (i := i) tp23_gu rfl r_p_v (by omega) (by omega) rfl) ?_
  refine l_op rfl ?_
  refine o_buildSlice (α := (Int) × (Int)) g7 (is 1) (is 1) (1, 0) rfl [(gI p i)] Try.underlying25 tp23_gu (by decide) (by decide) (vs := [(0, Value.agg (List.toArray [Value.int .i64 ((gI p i).1), Value.int .i64 ((gI p i).2)]))]) rfl rfl (.cons rfl .nil) ?_
  intro g8 w9 v10 ch11 o12
  refine l_op rfl ?_
  replace o_back := o_back.chg ch11 (not_no _) (not_no _)
  refine o_append (α := (Int) × (Int)) (xs := back) (ys := ([(gI p i)])) g8 (J := is 2) (S := is 2) (2, 0) rfl Try.underlying25 tp23_gu (by decide) rfl rfl rfl o_back o12.flat (by decide) (by first | omega | (simp; done) | (simp; omega)) ?_
  intro g13 w14 v15 ch16 o17
  clear o_back
  refine l_val (v := v15) rfl (e_assign rfl) ?_
  refine l_nil ?_
  refine run_inBlock ?_
  clear o12
  refine run_region rfl ?_
  refine l_val (v := Value.int .i64 i) rfl (e_move (by exact zs6)) ?_
  refine l_val (v := Value.int .i64 (i - 1)) rfl (e_sub (m := i) (n := 1) rfl rfl (by omega)) ?_
  refine l_val (v := Value.int .i64 (i - 1)) rfl (e_assign rfl) ?_
  refine l_nil ?_
  replace hbase := hbase.chg ch11 (not_no _)
  replace hbase := hbase.chg ch16 (is_ne rfl)
  replace r_p_v := (r_p_v.chg ch11 (not_no _)).chg ch16 (is_ne rfl)
  replace r_q_v := (r_q_v.chg ch11 (not_no _)).chg ch16 (is_ne rfl)
  refine back7 (v15, (back ++ [(gI p i)]), i - 1, g13) _ _ ⟨hbase, (by exact zs0), (by exact zs1), rfl, rfl, r_p_v, r_q_v, o17, ?_⟩ ?_
  · show (back ++ [(gI p i)]) = (List.drop (Int.toNat ((i - 1) + 1)) p).reverse ∧ -1 ≤ (i - 1) ∧ (i - 1) < (p.length : Int)
    exact back_next hinv (by assumption)
  · show Int.toNat ((i - 1) + 1) < Int.toNat (i + 1)
    omega
 refine run_cond_f rfl (decide_eq_false p7) ?_
 refine run_exit rfl ?_
 refine run_seq ?_
 have hbk : back = p.reverse := back_done hinv (by assumption)
 have s1 := sim_turn (p := p)
 have s2 := apt_turn (p := p) (q := q)
 rw [← hbk] at s1 s2
 refine run_region rfl ?_
 refine l_val (v := p_v) rfl (e_move (by exact zs0)) ?_
 refine l_op rfl ?_
 refine o_call (v := Value.tuple (List.toArray [Value.bool ((simR p).1), Value.int .i64 ((simR p).2)])) (e_call (vals := [p_v]) Try.func29 bd29_gu nm29_gu rfl) (Simple_ok w6 p p_v (r_p_v).ro (by omega)) ?_
 intro w18 hb19
 replace hb19 := chg_below hb19 g7
 refine l_val (v := Value.tuple (List.toArray [Value.bool ((simR p).1), Value.int .i64 ((simR p).2)])) rfl (e_move rfl) ?_
 refine l_val (v := Value.bool ((simR p).1)) rfl (e_extract rfl rfl) ?_
 refine l_val (v := Value.int .i64 ((simR p).2)) rfl (e_extract rfl rfl) ?_
 refine l_val (v := Value.bool ((simR p).1)) rfl (e_assign rfl) ?_
 refine l_val (v := Value.int .i64 ((simR p).2)) rfl (e_assign rfl) ?_
 refine l_nil ?_
 refine run_seq ?_
 refine run_region rfl ?_
 refine l_val (v := back_v) rfl (e_move (by exact zs5)) ?_
 replace o_back := o_back.chg hb19 (not_no _) (not_no _)
 refine l_op rfl ?_
 refine o_call (v := Value.tuple (List.toArray [Value.bool ((simR back).1), Value.int .i64 ((simR back).2)])) (e_call (vals := [back_v]) Try.func29 bd29_gu nm29_gu rfl) (Simple_ok w18 back back_v (o_back.flat).ro (by omega)) ?_
 intro w20 hb21
 replace hb21 := chg_below hb21 g7
 refine l_val (v := Value.tuple (List.toArray [Value.bool ((simR back).1), Value.int .i64 ((simR back).2)])) rfl (e_move rfl) ?_
 refine l_val (v := Value.bool ((simR back).1)) rfl (e_extract rfl rfl) ?_
 refine l_val (v := Value.int .i64 ((simR back).2)) rfl (e_extract rfl rfl) ?_
 refine l_val (v := Value.bool ((simR back).1)) rfl (e_assign rfl) ?_
 refine l_val (v := Value.int .i64 ((simR back).2)) rfl (e_assign rfl) ?_
 refine l_nil ?_
 refine run_seq ?_
 refine run_region rfl ?_
 refine l_val (v := p_v) rfl (e_move (by exact zs0)) ?_
 refine l_val (v := q_v) rfl (e_move (by exact zs1)) ?_
 replace r_p_v := (r_p_v.chg hb19 (not_no _)).chg hb21 (not_no _)
 replace r_q_v := (r_q_v.chg hb19 (not_no _)).chg hb21 (not_no _)
 refine l_op rfl ?_
 refine o_call (v := Value.tuple (List.toArray [Value.bool ((aptR p q).1), Value.int .i64 ((aptR p q).2)])) (e_call (vals := [p_v, q_v]) Try.func30 bd30_gu nm30_gu rfl) (Apart_ok w20 p p_v (r_p_v).ro q q_v (r_q_v).ro) ?_
 intro w22 hb23
 replace hb23 := chg_below hb23 g7
 refine l_val (v := Value.tuple (List.toArray [Value.bool ((aptR p q).1), Value.int .i64 ((aptR p q).2)])) rfl (e_move rfl) ?_
 refine l_val (v := Value.bool ((aptR p q).1)) rfl (e_extract rfl rfl) ?_
 refine l_val (v := Value.int .i64 ((aptR p q).2)) rfl (e_extract rfl rfl) ?_
 refine l_val (v := Value.bool ((aptR p q).1)) rfl (e_assign rfl) ?_
 refine l_val (v := Value.int .i64 ((aptR p q).2)) rfl (e_assign rfl) ?_
 refine l_nil ?_
 refine run_seq ?_
 refine run_region rfl ?_
 refine l_val (v := q_v) rfl (e_move (by exact zs1)) ?_
 refine l_val (v := back_v) rfl (e_move (by exact zs5)) ?_
 replace r_q_v := r_q_v.chg hb23 (not_no _)
 replace o_back := (o_back.chg hb21 (not_no _) (not_no _)).chg hb23 (not_no _) (not_no _)
 refine l_op rfl ?_
 refine o_call (v := Value.tuple (List.toArray [Value.bool ((aptR q back).1), Value.int .i64 ((aptR q back).2)])) (e_call (vals := [q_v, back_v]) Try.func30 bd30_gu nm30_gu rfl) (Apart_ok w22 q q_v (r_q_v).ro back back_v (o_back.flat).ro) ?_
 intro w24 hb25
 replace hb25 := chg_below hb25 g7
 refine l_val (v := Value.tuple (List.toArray [Value.bool ((aptR q back).1), Value.int .i64 ((aptR q back).2)])) rfl (e_move rfl) ?_
 refine l_val (v := Value.bool ((aptR q back).1)) rfl (e_extract rfl rfl) ?_
 refine l_val (v := Value.int .i64 ((aptR q back).2)) rfl (e_extract rfl rfl) ?_
 refine l_val (v := Value.bool ((aptR q back).1)) rfl (e_assign rfl) ?_
 refine l_val (v := Value.int .i64 ((aptR q back).2)) rfl (e_assign rfl) ?_
 refine l_nil ?_
 refine run_seq ?_
 clear o_back
 refine run_region rfl ?_
 refine l_val (v := Value.bool ((simR p).1)) rfl (e_move rfl) ?_
 refine l_val (v := Value.bool ((simR back).1)) rfl (e_move rfl) ?_
 refine l_val (v := Value.bool (decide (((simR p).1) = ((simR back).1)))) rfl (e_eql_bool Try.underlying4 rfl rfl) ?_
 refine l_val (v := Value.bool (decide (((simR p).1) = ((simR back).1)))) rfl (e_move rfl) ?_
 have q64 : ((simR p).1) = ((simR back).1) := by first | (rw [s1]; done) | (rw [s2]; done)
 refine l_val (v := Value.int .i64 ((simR p).2)) (want_y rfl rfl rfl (decide_eq_true q64)) (e_move rfl) ?_
 refine l_val (v := Value.int .i64 ((simR back).2)) (want_y rfl rfl rfl (decide_eq_true q64)) (e_move rfl) ?_
 refine l_val (v := Value.bool (decide (((simR p).2) = ((simR back).2)))) (want_y rfl rfl rfl (decide_eq_true q64)) (e_eql (m := (simR p).2) (n := (simR back).2) rfl rfl) ?_
 refine l_val (v := Value.bool (decide (((simR p).2) = ((simR back).2)))) rfl (e_pick_t rfl (decide_eq_true q64) rfl) ?_
 refine l_val (v := Value.bool (decide (((simR p).2) = ((simR back).2)))) rfl (e_move rfl) ?_
 have q69 : ((simR p).2) = ((simR back).2) := by first | (rw [s1]; done) | (rw [s2]; done)
 refine l_val (v := Value.bool ((aptR p q).1)) (want_y rfl rfl rfl (decide_eq_true q69)) (e_move rfl) ?_
 refine l_val (v := Value.bool ((aptR q back).1)) (want_y rfl rfl rfl (decide_eq_true q69)) (e_move rfl) ?_
 refine l_val (v := Value.bool (decide (((aptR p q).1) = ((aptR q back).1)))) (want_y rfl rfl rfl (decide_eq_true q69)) (e_eql_bool Try.underlying4 rfl rfl) ?_
 refine l_val (v := Value.bool (decide (((aptR p q).1) = ((aptR q back).1)))) rfl (e_pick_t rfl (decide_eq_true q69) rfl) ?_
 refine l_val (v := Value.bool (decide (((aptR p q).1) = ((aptR q back).1)))) rfl (e_move rfl) ?_
 have q74 : ((aptR p q).1) = ((aptR q back).1) := by first | (rw [s1]; done) | (rw [s2]; done)
 refine l_val (v := Value.int .i64 ((aptR p q).2)) (want_y rfl rfl rfl (decide_eq_true q74)) (e_move rfl) ?_
 refine l_val (v := Value.int .i64 ((aptR q back).2)) (want_y rfl rfl rfl (decide_eq_true q74)) (e_move rfl) ?_
 refine l_val (v := Value.bool (decide (((aptR p q).2) = ((aptR q back).2)))) (want_y rfl rfl rfl (decide_eq_true q74)) (e_eql (m := (aptR p q).2) (n := (aptR q back).2) rfl rfl) ?_
 refine l_val (v := Value.bool (decide (((aptR p q).2) = ((aptR q back).2)))) rfl (e_pick_t rfl (decide_eq_true q74) rfl) ?_
 refine l_val (v := Value.bool (decide (((aptR p q).2) = ((aptR q back).2)))) rfl (e_assign rfl) ?_
 refine l_nil ?_
 refine run_ret (vs := [Value.bool (decide (((aptR p q).2) = ((aptR q back).2)))]) Try.func10 (.tmp rfl .nil) ?_
 -- return 2
 have e0 : (decide (((aptR p q).2) = ((aptR q back).2)) : Bool) = (true) := by
   first
     | rfl
     | exact decide_eq_true (by rw [s2])
     | exact (decide_eq_true (by rw [s2])).symm
 have C26 : Chg (inl []) _ _ _ _ := (hb19.n).seq ((hb21.n).seq ((hb23.n).seq (hb25.n)))
 replace hbase := hbase.chg C26 (is_nl rfl)
 exact ⟨(congrArg (a₁ := decide (((aptR p q).2) = ((aptR q back).2))) (fun (z0 : Bool) => Ending.returned (Value.bool z0)) e0), hbase.below⟩
end TL
