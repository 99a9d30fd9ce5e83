import Derived.Test.YtilohhkbelkmdaaTlGenA
import Derived.Test.YtilohhkbelkmdaaProg
import Derived.Test.YtilohhkbelkmdaaTlP3
set_option linter.all false
set_option maxRecDepth 20000
namespace TL
open Go Go.Proofs
theorem mixed_d : Try.prog.follows .mixedOrders = true := by kernel_rfl
theorem tp3_d : Tp Try.prog 3 false 1 8 (.int .i64 0) := Tp.of (by kernel_rfl)
theorem tp22_d : Tp Try.prog 22 false 1 24 (.slice none 0 0) := Tp.of (by kernel_rfl)
theorem tp60_d : Tp Try.prog 60 true 2 16 (.agg #[.int .i64 0, .int .i64 0]) := Tp.of (by kernel_rfl)
theorem rSame_ok (w0 : World) (a : (Int) × (List ((Int) × (Int)))) (a_v : Value) (ha_v : Ro w0 a_v a.2) (b : (Int) × (List ((Int) × (Int)))) (b_v : Value) (hb_v : Ro w0 b_v b.2) :
    Calls Try.prog 33 #[Value.agg (List.toArray [Value.int .i64 a.1, a_v]), Value.agg (List.toArray [Value.int .i64 b.1, b_v])] w0 (fun ee w => ee = .returned (Value.bool (decide (a = b))) ∧ Bel w0.heap.size w0 w) := by
 refine calls_of_run Try.func33 rfl (Nat.le_of_ble_eq_true rfl) ?_
 have hbase := Base.start w0
 have r_a_v := ha_v.sl
 have r_b_v := hb_v.sl
 refine run_seq (run_region rfl (l_op rfl ?_))
 refine o_box c0 (is 1) (1, 0) rfl rfl ?_
 intro g4 w1 b3 ch2 bx5
 replace bx5 : Bx g4 (is 1) w1 b3 [Value.int .i64 a.1, a_v] := bx5
 refine l_op rfl ?_
 refine o_box g4 (is 2) (2, 0) rfl rfl ?_
 intro g9 w6 b8 ch7 bx10
 replace bx10 : Bx g9 (is 2) w6 b8 [Value.int .i64 b.1, b_v] := bx10
 refine l_val (v := Value.bool false) rfl (e_assign rfl) ?_
 refine l_nil (run_seq (run_seq (run_region rfl ?_)))
 refine l_val (v := Value.pointer (some ⟨b3, 0, none⟩)) rfl (e_fieldAddr Try.underlying24 rfl rfl rfl rfl) ?_
 replace bx5 := bx5.chg ch7 (not_no _)
 refine l_val (v := Value.int .i64 a.1) rfl (e_load_bx1 tp3_d rfl bx5 rfl) ?_
 refine l_val (v := Value.pointer (some ⟨b8, 0, none⟩)) rfl (e_fieldAddr Try.underlying24 rfl rfl rfl rfl) ?_
 refine l_val (v := Value.int .i64 b.1) rfl (e_load_bx1 tp3_d rfl bx10 rfl) ?_
 refine l_val (v := Value.bool (!(decide (a.1 = b.1)))) rfl (e_neq (m := a.1) (n := b.1) rfl rfl) ?_
 refine l_val (v := Value.bool (!(decide (a.1 = b.1)))) rfl (e_move rfl) ?_
 by_cases q11 : a.1 = b.1
 ·
  refine l_val (v := Value.pointer (some ⟨b3, 1, none⟩)) (want_y rfl rfl rfl (congrArg Bool.not (decide_eq_true q11))) (e_fieldAddr Try.underlying24 rfl rfl rfl rfl) ?_
  refine l_val (v := a_v) (want_y rfl rfl rfl (congrArg Bool.not (decide_eq_true q11))) (e_load_bx1 tp22_d rfl bx5 rfl) ?_
  replace r_a_v := (r_a_v.chg ch2 (not_no _)).chg ch7 (not_no _)
  have len11 := (r_a_v).small
  refine l_val (v := Value.int .i64 (List.length a.2 : Int)) (want_y rfl rfl rfl (congrArg Bool.not (decide_eq_true q11))) (e_len Try.underlying22 rfl r_a_v) ?_
  refine l_val (v := Value.pointer (some ⟨b8, 1, none⟩)) (want_y rfl rfl rfl (congrArg Bool.not (decide_eq_true q11))) (e_fieldAddr Try.underlying24 rfl rfl rfl rfl) ?_
  refine l_val (v := b_v) (want_y rfl rfl rfl (congrArg Bool.not (decide_eq_true q11))) (e_load_bx1 tp22_d rfl bx10 rfl) ?_
  replace r_b_v := (r_b_v.chg ch2 (not_no _)).chg ch7 (not_no _)
  have len12 := (r_b_v).small
  refine l_val (v := Value.int .i64 (List.length b.2 : Int)) (want_y rfl rfl rfl (congrArg Bool.not (decide_eq_true q11))) (e_len Try.underlying22 rfl r_b_v) ?_
  refine l_val (v := Value.bool (!(decide ((List.length a.2 : Int) = (List.length b.2 : Int))))) (want_y rfl rfl rfl (congrArg Bool.not (decide_eq_true q11))) (e_neq (m := (List.length a.2 : Int)) (n := (List.length b.2 : Int)) rfl rfl) ?_
  refine l_val (v := Value.bool (!(decide ((List.length a.2 : Int) = (List.length b.2 : Int))))) rfl (e_pick_f rfl (congrArg Bool.not (decide_eq_true q11)) rfl) ?_
  refine l_nil ?_
  by_cases p1 : (List.length a.2 : Int) = (List.length b.2 : Int)
  ·
   refine run_cond_f rfl (congrArg Bool.not (decide_eq_true p1)) ?_
   refine run_skip ?_
   refine run_seq (run_seq (run_region rfl ?_))
   refine l_val (v := Value.int .i64 0) rfl (e_assign rfl) ?_
   refine l_nil ?_
   refine run_block ?_
   refine run_loop (σ := Nat × Cmap) (fun ⟨k, gq⟩ f w => Base w0 gq w ∧ f 2 = Value.pointer (some ⟨b3, 0, none⟩) ∧ f 3 = Value.pointer (some ⟨b8, 0, none⟩) ∧ f 5 = Value.int .i64 (k : Int) ∧ Sl gq (is 0) w a_v a.2 ∧ Sl gq (is 0) w b_v b.2 ∧ Bx gq (is 1) w b3 [Value.int .i64 a.1, a_v] ∧ Bx gq (is 2) w b8 [Value.int .i64 b.1, b_v] ∧ (k : Int) ≤ ((List.length a.2 : Int) : Int) ∧ (List.take k a.2 = List.take k b.2)) (fun ⟨k, gq⟩ => Int.toNat (((List.length a.2 : Int) : Int) - (k : Int))) (0, g9) ?_ ?_
   replace hbase := hbase.chg ch2 (not_no _)
   replace hbase := hbase.chg ch7 (not_no _)
   · exact ⟨hbase, rfl, rfl, rfl, r_a_v, r_b_v, bx5, bx10, by omega, by simp⟩
   clear r_a_v
   clear r_b_v
   clear bx5
   clear bx10
   clear hbase
   rintro ⟨k, g15⟩ f13 w14 ⟨hbase, zs2, zs3, zs5, r_a_v, r_b_v, bx5, bx10, hle_k, hinv⟩ back4
   refine run_seq (run_seq (run_region rfl ?_))
   refine l_val (v := Value.int .i64 (k : Int)) rfl (e_move (by exact zs5)) ?_
   refine l_val (v := Value.pointer (some ⟨b3, 1, none⟩)) rfl (e_fieldAddr Try.underlying24 rfl rfl (by exact zs2) rfl) ?_
   refine l_val (v := a_v) rfl (e_load_bx1 tp22_d rfl bx5 rfl) ?_
   refine l_val (v := Value.int .i64 (List.length a.2 : Int)) rfl (e_len Try.underlying22 rfl r_a_v) ?_
   refine l_val (v := Value.bool (decide ((k : Int) < (List.length a.2 : Int)))) rfl (e_lss (m := (k : Int)) (n := (List.length a.2 : Int)) rfl rfl) ?_
   refine l_nil ?_
   by_cases p4 : (k : Int) < (List.length a.2 : Int)
   ·
    refine run_cond_t rfl (decide_eq_true p4) ?_
    refine run_skip ?_
    refine run_seq ?_
    refine run_block ?_
    refine run_seq ?_
    refine region_q g15 rfl mixed_d (by kernel_rfl) ?_
    intro w17 ch16
    refine q_val (v := Value.pointer (some ⟨b3, 1, none⟩)) rfl (fun w' hw' => e_fieldAddr Try.underlying24 rfl rfl (by exact zs2) rfl) ?_
    replace bx5 := bx5.chg ch16 (not_no _)
    refine q_val (v := a_v) rfl (fun w' hw' => e_load_bx1 tp22_d rfl (bx5.bel hw') rfl) ?_
    refine q_val (v := Value.int .i64 (k : Int)) rfl (fun w' hw' => e_move (by exact zs5)) ?_
    replace r_a_v := r_a_v.chg ch16 (not_no _)
    refine q_val (v := Value.pointer (some (eAddr a_v 2 (Int.toNat (k : Int))))) rfl (fun w' hw' => e_indexAddr (α := (Int) × (Int)) (xs := a.2) (v := a_v) (i := (k : Int)) Try.underlying22 rfl rfl (r_a_v.bel hw') rfl (by omega) (by omega)) ?_
    refine q_val (v := Value.agg (List.toArray [Value.int .i64 ((gI a.2 (k : Int)).1), Value.int .i64 ((gI a.2 (k : Int)).2)])) rfl (fun w' hw' => e_load_elN (α := (Int) × (Int)) (xs := a.2) (v := a_v) (i := (k : Int)) tp60_d rfl (r_a_v.bel hw') (by omega) (by omega) rfl) ?_
    refine q_val (v := Value.pointer (some ⟨b8, 1, none⟩)) rfl (fun w' hw' => e_fieldAddr Try.underlying24 rfl rfl (by exact zs3) rfl) ?_
    replace bx10 := bx10.chg ch16 (not_no _)
    refine q_val (v := b_v) rfl (fun w' hw' => e_load_bx1 tp22_d rfl (bx10.bel hw') rfl) ?_
    refine q_val (v := Value.int .i64 (k : Int)) rfl (fun w' hw' => e_move (by exact zs5)) ?_
    replace r_b_v := r_b_v.chg ch16 (not_no _)
    refine q_val (v := Value.pointer (some (eAddr b_v 2 (Int.toNat (k : Int))))) rfl (fun w' hw' => e_indexAddr (α := (Int) × (Int)) (xs := b.2) (v := b_v) (i := (k : Int)) Try.underlying22 rfl rfl (r_b_v.bel hw') rfl (by omega) (by omega)) ?_
    refine q_val (v := Value.agg (List.toArray [Value.int .i64 ((gI b.2 (k : Int)).1), Value.int .i64 ((gI b.2 (k : Int)).2)])) rfl (fun w' hw' => e_load_elN (α := (Int) × (Int)) (xs := b.2) (v := b_v) (i := (k : Int)) tp60_d rfl (r_b_v.bel hw') (by omega) (by omega) rfl) ?_
    refine q_val (v := Value.bool (!(decide ((gI a.2 (k : Int)) = (gI b.2 (k : Int)))))) rfl (fun w' hw' => e_neq_pair (a := (gI a.2 (k : Int))) (b := (gI b.2 (k : Int))) Try.underlying60 Try.underlying3 tp3_d (by kernel_rfl) rfl rfl) ?_
    refine q_nil ?_
    intro w18 hc19
    replace hc19 := chg_below hc19 g15
    by_cases p6 : (gI a.2 (k : Int)) = (gI b.2 (k : Int))
    ·
     refine run_cond_f rfl (congrArg Bool.not (decide_eq_true p6)) ?_
     refine run_skip ?_
     refine run_inBlock ?_
     refine run_region rfl ?_
     refine l_val (v := Value.int .i64 (k : Int)) rfl (e_move (by exact zs5)) ?_
     refine l_val (v := Value.int .i64 ((k : Int) + 1)) rfl (e_add (m := (k : Int)) (n := 1) rfl rfl (by omega)) ?_
     refine l_val (v := Value.int .i64 ((k : Int) + 1)) rfl (e_assign rfl) ?_
     refine l_nil ?_
     replace hbase := hbase.chg ch16 (not_no _)
     replace hbase := hbase.chg hc19 (not_no _)
     replace r_a_v := r_a_v.chg hc19 (not_no _)
     replace r_b_v := r_b_v.chg hc19 (not_no _)
     replace bx5 := bx5.chg hc19 (not_no _)
     replace bx10 := bx10.chg hc19 (not_no _)
     refine back4 (k + 1, g15) _ _ ⟨hbase, (by exact zs2), (by exact zs3), rfl, r_a_v, r_b_v, bx5, bx10, by omega, ?_⟩ ?_
     · show List.take (k + 1) a.2 = List.take (k + 1) b.2
       rw [take_succ_gI (by assumption), take_succ_gI (by omega), hinv]; simp_all
     · show Int.toNat (((List.length a.2 : Int) : Int) - ((k + 1) : Int)) < Int.toNat (((List.length a.2 : Int) : Int) - (k : Int))
       omega
    refine run_cond_t rfl (congrArg Bool.not (decide_eq_false p6)) ?_
    refine run_seq ?_
    clear bx5
    clear bx10
    refine run_region rfl ?_
    refine l_val (v := Value.bool false) rfl (e_assign rfl) ?_
    refine l_nil ?_
    refine run_ret (vs := [Value.bool false]) Try.func33 (.tmp rfl .nil) ?_
    -- return 0
    have e0 : (false : Bool) = (decide (a = b)) := by
      first
        | (have e := hinv; rw [List.take_of_length_le (by omega), List.take_of_length_le (by omega)] at e; exact (decide_eq_true (Prod.ext (by assumption) e)).symm)
        | (refine (decide_eq_false fun h => ?_).symm; subst h; simp_all; done)
        | (refine (decide_eq_false fun h => ?_).symm; subst h; omega)
    replace hbase := hbase.chg ch16 (not_no _)
    replace hbase := hbase.chg hc19 (not_no _)
    exact ⟨(congrArg (a₁ := false) (fun (z0 : Bool) => Ending.returned (Value.bool z0)) e0), hbase.below⟩
   refine run_cond_f rfl (decide_eq_false p4) ?_
   refine run_exit rfl ?_
   refine run_seq ?_
   clear bx5
   clear bx10
   refine run_region rfl ?_
   refine l_val (v := Value.bool true) rfl (e_assign rfl) ?_
   refine l_nil ?_
   refine run_ret (vs := [Value.bool true]) Try.func33 (.tmp rfl .nil) ?_
   -- return 1
   have e0 : (true : Bool) = (decide (a = b)) := by
     first
       | (have e := hinv; rw [List.take_of_length_le (by omega), List.take_of_length_le (by omega)] at e; exact (decide_eq_true (Prod.ext (by assumption) e)).symm)
       | (refine (decide_eq_false fun h => ?_).symm; subst h; simp_all; done)
       | (refine (decide_eq_false fun h => ?_).symm; subst h; omega)
   exact ⟨(congrArg (a₁ := true) (fun (z0 : Bool) => Ending.returned (Value.bool z0)) e0), hbase.below⟩
  refine run_cond_t rfl (congrArg Bool.not (decide_eq_false p1)) ?_
  refine run_seq ?_
  clear bx5
  clear bx10
  refine run_region rfl ?_
  refine l_val (v := Value.bool false) rfl (e_assign rfl) ?_
  refine l_nil ?_
  refine run_ret (vs := [Value.bool false]) Try.func33 (.tmp rfl .nil) ?_
  -- return 2
  have e0 : (false : Bool) = (decide (a = b)) := by
    first
      | (have e := hinv; rw [List.take_of_length_le (by omega), List.take_of_length_le (by omega)] at e; exact (decide_eq_true (Prod.ext (by assumption) e)).symm)
      | (refine (decide_eq_false fun h => ?_).symm; subst h; simp_all; done)
      | (refine (decide_eq_false fun h => ?_).symm; subst h; omega)
  replace hbase := hbase.chg ch2 (not_no _)
  replace hbase := hbase.chg ch7 (not_no _)
  exact ⟨(congrArg (a₁ := false) (fun (z0 : Bool) => Ending.returned (Value.bool z0)) e0), hbase.below⟩
 refine l_skip (want_n rfl rfl rfl (congrArg Bool.not (decide_eq_false q11))) ?_
 refine l_skip (want_n rfl rfl rfl (congrArg Bool.not (decide_eq_false q11))) ?_
 refine l_skip (want_n rfl rfl rfl (congrArg Bool.not (decide_eq_false q11))) ?_
 refine l_skip (want_n rfl rfl rfl (congrArg Bool.not (decide_eq_false q11))) ?_
 refine l_skip (want_n rfl rfl rfl (congrArg Bool.not (decide_eq_false q11))) ?_
 refine l_skip (want_n rfl rfl rfl (congrArg Bool.not (decide_eq_false q11))) ?_
 refine l_skip (want_n rfl rfl rfl (congrArg Bool.not (decide_eq_false q11))) ?_
 refine l_val (v := Value.bool true) rfl (e_pick_t rfl (congrArg Bool.not (decide_eq_false q11)) rfl) ?_
 refine l_nil ?_
 refine run_cond_t rfl rfl ?_
 refine run_seq ?_
 clear bx5
 clear bx10
 refine run_region rfl ?_
 refine l_val (v := Value.bool false) rfl (e_assign rfl) ?_
 refine l_nil ?_
 refine run_ret (vs := [Value.bool false]) Try.func33 (.tmp rfl .nil) ?_
 -- return 3
 have e0 : (false : Bool) = (decide (a = b)) := by
   first
     | (have e := hinv; rw [List.take_of_length_le (by omega), List.take_of_length_le (by omega)] at e; exact (decide_eq_true (Prod.ext (by assumption) e)).symm)
     | (refine (decide_eq_false fun h => ?_).symm; subst h; simp_all; done)
     | (refine (decide_eq_false fun h => ?_).symm; subst h; omega)
 replace hbase := hbase.chg ch2 (not_no _)
 replace hbase := hbase.chg ch7 (not_no _)
 exact ⟨(congrArg (a₁ := false) (fun (z0 : Bool) => Ending.returned (Value.bool z0)) e0), hbase.below⟩
end TL
