import Derived.Test.YtifpjbjhkabhgaaTlHold
import Derived.Test.YtifpjbjhkabhgaaTlNest
import Derived.Test.YtifpjbjhkabhgaaTlEq
import Derived.Test.YtifpjbjhkabhgaaTlGeomR
import Derived.Test.YtifpjbjhkabhgaaTlConv
import Derived.Test.YtifpjbjhkabhgaaProg
import Derived.Test.YtifpjbjhkabhgaaTlNet2
import Derived.Test.YtifpjbjhkabhgaaTlEq
import Derived.Test.YtifpjbjhkabhgaaTlHold
import Derived.Test.YtifpjbjhkabhgaaTlDraw
import Derived.Test.YtifpjbjhkabhgaaTlMap
set_option linter.all false
set_option maxRecDepth 20000
namespace TL
open Go Go.Proofs
theorem mixed_ga : Try.prog.follows .mixedOrders = true := by kernel_rfl
theorem tp3_ga : Tp Try.prog 3 false 1 8 (.int .i64 0) := Tp.of (by kernel_rfl)
theorem tp23_ga : Tp Try.prog 23 true 2 16 (.agg #[.int .i64 0, .int .i64 0]) := Tp.of (by kernel_rfl)
theorem bd35_ga : Try.f35.body.isNone = false := rfl
theorem nm35_ga : (Try.f35.name == "runtime.NumGoroutine") = false := by decide +kernel
theorem bd40_ga : Try.f40.body.isNone = false := rfl
theorem nm40_ga : (Try.f40.name == "runtime.NumGoroutine") = false := by decide +kernel
theorem bd41_ga : Try.f41.body.isNone = false := rfl
theorem nm41_ga : (Try.f41.name == "runtime.NumGoroutine") = false := by decide +kernel
theorem bd42_ga : Try.f42.body.isNone = false := rfl
theorem nm42_ga : (Try.f42.name == "runtime.NumGoroutine") = false := by decide +kernel
theorem bd44_ga : Try.f44.body.isNone = false := rfl
theorem nm44_ga : (Try.f44.name == "runtime.NumGoroutine") = false := by decide +kernel
theorem bd47_ga : Try.f47.body.isNone = false := rfl
theorem nm47_ga : (Try.f47.name == "runtime.NumGoroutine") = false := by decide +kernel
theorem bd59_ga : Try.f59.body.isNone = false := rfl
theorem nm59_ga : (Try.f59.name == "runtime.NumGoroutine") = false := by decide +kernel

theorem pt_ok (w0 : World) (x : Int) (y : Int) :
    Calls Try.prog 14 #[Value.int .i64 x, Value.int .i64 y] w0 (fun ee w => ee = .returned (Value.agg (List.toArray [Value.int .i64 x, Value.int .i64 y])) ∧ Bel w0.heap.size w0 w) := by
 refine calls_of_run Try.func14 rfl (Nat.le_of_ble_eq_true rfl) ?_
 have hbase := Base.start w0
 refine run_seq (run_region rfl (l_op rfl ?_))
 refine o_alloc c0 (is 1) (1, 0) rfl tp23_ga ?_
 intro g4 w1 b3 ch2 bx5
 replace bx5 : Bx g4 (is 1) w1 b3 [Value.int .i64 0, Value.int .i64 0] := bx5
 refine l_nil (run_seq (run_region rfl ?_))
 refine l_val (v := Value.int .i64 x) rfl (e_move rfl) ?_
 refine l_val (v := Value.int .i64 y) rfl (e_move rfl) ?_
 refine l_val (v := Value.agg (List.toArray [Value.int .i64 x, Value.int .i64 y])) rfl (e_build (vs := [(0, Value.int .i64 x), (1, Value.int .i64 y)]) rfl (by kernel_rfl)) ?_
 refine l_op rfl ?_
 refine o_store_bx (cs' := [Value.int .i64 x, Value.int .i64 y]) tp23_ga rfl rfl bx5 rfl (Nat.le_of_ble_eq_true rfl) (AllOne.all (.cons rfl (.cons rfl .nil))) rfl ?_
 intro w6 ch7 bx8
 clear bx5
 refine l_nil ?_
 refine run_ret (vs := [Value.agg (List.toArray [Value.int .i64 x, Value.int .i64 y])]) Try.func14 (.cell rfl (load_bxN (ds := [Value.int .i64 x, Value.int .i64 y]) tp23_ga bx8 rfl rfl) .nil) ?_
 -- return 0
 have e0 : ((x, y) : (Int) × (Int)) = ((x, y)) := by
   rfl
 replace hbase := hbase.chg ch2 (not_no _)
 replace hbase := hbase.chg ch7 (is_ne rfl)
 exact ⟨(congrArg (a₁ := (x, y)) (fun (z0 : (Int) × (Int)) => Ending.returned (Value.agg (List.toArray [Value.int .i64 z0.1, Value.int .i64 z0.2]))) e0), hbase.below⟩

theorem isNaN_ok (w0 : World) (x : Int) :
    Calls Try.prog 59 #[Value.int .i64 x] w0 (fun ee w => ee = .returned (Value.bool false) ∧ Bel w0.heap.size w0 w) := by
 refine calls_of_run Try.func59 rfl (Nat.le_of_ble_eq_true rfl) ?_
 have hbase := Base.start w0
 refine run_seq (run_region rfl ?_)
 refine l_val (v := Value.bool false) rfl (e_assign rfl) ?_
 refine l_nil (run_seq (run_region rfl ?_))
 refine l_val (v := Value.int .i64 x) rfl (e_move rfl) ?_
 refine l_val (v := Value.int .i64 x) rfl (e_move rfl) ?_
 refine l_val (v := Value.bool (!(decide (x = x)))) rfl (e_neq (m := x) (n := x) rfl rfl) ?_
 refine l_val (v := Value.bool (!(decide (x = x)))) rfl (e_assign rfl) ?_
 refine l_nil ?_
 refine run_ret (vs := [Value.bool (!(decide (x = x)))]) Try.func59 (.tmp rfl .nil) ?_
 -- return 0
 have e0 : (!(decide (x = x)) : Bool) = (false) := by
   simp
 exact ⟨(congrArg (a₁ := !(decide (x = x))) (fun (z0 : Bool) => Ending.returned (Value.bool z0)) e0), hbase.below⟩

theorem Compare_ok (w0 : World) (x : Int) (y : Int) :
    Calls Try.prog 42 #[Value.int .i64 x, Value.int .i64 y] w0 (fun ee w => ee = .returned (Value.int .i64 (cmpI x y)) ∧ Bel w0.heap.size w0 w) := by
 refine calls_of_run Try.func42 rfl (Nat.le_of_ble_eq_true rfl) ?_
 have hbase := Base.start w0
 refine run_seq (run_region rfl ?_)
 refine l_val (v := Value.int .i64 0) rfl (e_assign rfl) ?_
 refine l_nil (run_seq (run_region rfl ?_))
 refine l_val (v := Value.int .i64 x) rfl (e_move rfl) ?_
 refine l_op rfl ?_
 refine o_call (v := Value.bool false) (e_call (vals := [Value.int .i64 x]) Try.func59 bd59_ga nm59_ga rfl) (isNaN_ok w0 x) ?_
 intro w1 hb2
 replace hb2 := chg_below hb2 c0
 refine l_val (v := Value.bool false) rfl (e_assign rfl) ?_
 refine l_nil (run_seq (run_region rfl ?_))
 refine l_val (v := Value.int .i64 y) rfl (e_move rfl) ?_
 refine l_op rfl ?_
 refine o_call (v := Value.bool false) (e_call (vals := [Value.int .i64 y]) Try.func59 bd59_ga nm59_ga rfl) (isNaN_ok w1 y) ?_
 intro w3 hb4
 replace hb4 := chg_below hb4 c0
 refine l_val (v := Value.bool false) rfl (e_assign rfl) ?_
 refine l_nil (run_seq (run_seq (run_region rfl ?_)))
 refine l_val (v := Value.bool false) rfl (e_move rfl) ?_
 refine l_nil ?_
 refine run_cond_f rfl rfl ?_
 refine run_skip ?_
 refine run_seq (run_seq (run_region rfl ?_))
 refine l_val (v := Value.bool false) rfl (e_move rfl) ?_
 refine l_nil ?_
 refine run_cond_f rfl rfl ?_
 refine run_skip ?_
 refine run_seq (run_seq (run_region rfl ?_))
 refine l_val (v := Value.int .i64 x) rfl (e_move rfl) ?_
 refine l_val (v := Value.int .i64 y) rfl (e_move rfl) ?_
 refine l_val (v := Value.bool (decide (x < y))) rfl (e_lss (m := x) (n := y) rfl rfl) ?_
 refine l_nil ?_
 by_cases p9 : x < y
 ·
  refine run_cond_t rfl (decide_eq_true p9) ?_
  refine run_seq (run_region rfl ?_)
  refine l_val (v := Value.int .i64 (-1)) rfl (e_assign rfl) ?_
  refine l_nil ?_
  refine run_ret (vs := [Value.int .i64 (-1)]) Try.func42 (.tmp rfl .nil) ?_
  -- return 0
  have e0 : (-1 : Int) = (cmpI x y) := by
    unfold cmpI
    first
      | (rw [if_pos (by assumption)]; done)
      | (rw [if_neg (by assumption), if_pos (by assumption)]; done)
      | (rw [if_neg (by assumption), if_neg (by assumption)]; done)
  replace hbase := hbase.chg hb2 (not_no _)
  replace hbase := hbase.chg hb4 (not_no _)
  exact ⟨(congrArg (a₁ := -1) (fun (z0 : Int) => Ending.returned (Value.int .i64 z0)) e0), hbase.below⟩
 refine run_cond_f rfl (decide_eq_false p9) ?_
 refine run_skip ?_
 refine run_seq (run_seq (run_region rfl ?_))
 refine l_val (v := Value.int .i64 x) rfl (e_move rfl) ?_
 refine l_val (v := Value.int .i64 y) rfl (e_move rfl) ?_
 refine l_val (v := Value.bool (decide (y < x))) rfl (e_gtr (m := x) (n := y) rfl rfl) ?_
 refine l_nil ?_
 by_cases p11 : y < x
 ·
  refine run_cond_t rfl (decide_eq_true p11) ?_
  refine run_seq (run_region rfl ?_)
  refine l_val (v := Value.int .i64 1) rfl (e_assign rfl) ?_
  refine l_nil ?_
  refine run_ret (vs := [Value.int .i64 1]) Try.func42 (.tmp rfl .nil) ?_
  -- return 1
  have e0 : (1 : Int) = (cmpI x y) := by
    unfold cmpI
    first
      | (rw [if_pos (by assumption)]; done)
      | (rw [if_neg (by assumption), if_pos (by assumption)]; done)
      | (rw [if_neg (by assumption), if_neg (by assumption)]; done)
  replace hbase := hbase.chg hb2 (not_no _)
  replace hbase := hbase.chg hb4 (not_no _)
  exact ⟨(congrArg (a₁ := 1) (fun (z0 : Int) => Ending.returned (Value.int .i64 z0)) e0), hbase.below⟩
 refine run_cond_f rfl (decide_eq_false p11) ?_
 refine run_skip ?_
 refine run_seq (run_region rfl ?_)
 refine l_val (v := Value.int .i64 0) rfl (e_assign rfl) ?_
 refine l_nil ?_
 refine run_ret (vs := [Value.int .i64 0]) Try.func42 (.tmp rfl .nil) ?_
 -- return 2
 have e0 : (0 : Int) = (cmpI x y) := by
   unfold cmpI
   first
     | (rw [if_pos (by assumption)]; done)
     | (rw [if_neg (by assumption), if_pos (by assumption)]; done)
     | (rw [if_neg (by assumption), if_neg (by assumption)]; done)
 replace hbase := hbase.chg hb2 (not_no _)
 replace hbase := hbase.chg hb4 (not_no _)
 exact ⟨(congrArg (a₁ := 0) (fun (z0 : Int) => Ending.returned (Value.int .i64 z0)) e0), hbase.below⟩

theorem Or_ok (w0 : World) (vals : List Int) (vals_v : Value) (hvals_v : Ro w0 vals_v vals) :
    Calls Try.prog 41 #[vals_v] w0 (fun ee w => ee = .returned (Value.int .i64 (orL vals)) ∧ Bel w0.heap.size w0 w) := by
 refine calls_of_run Try.func41 rfl (Nat.le_of_ble_eq_true rfl) ?_
 have hbase := Base.start w0
 have r_vals_v := hvals_v.sl
 refine run_seq (run_region rfl ?_)
 refine l_val (v := Value.int .i64 0) rfl (e_assign rfl) ?_
 refine l_nil (run_seq (run_region rfl ?_))
 refine l_val (v := Value.int .i64 0) rfl (e_assign rfl) ?_
 refine l_nil (run_seq (run_seq (run_region rfl ?_)))
 refine l_val (v := vals_v) rfl (e_move rfl) ?_
 have len1 := (r_vals_v).small
 refine l_val (v := Value.int .i64 (List.length vals : Int)) rfl (e_len Try.underlying34 rfl r_vals_v) ?_
 refine l_val (v := Value.int .i64 0) rfl (e_move rfl) ?_
 refine l_nil ?_
 refine run_block ?_
 refine run_loop (σ := Nat × Cmap) (fun ⟨k, gq⟩ f w => Base w0 gq w ∧ f 3 = Value.int .i64 0 ∧ f 6 = vals_v ∧ f 7 = Value.int .i64 (List.length vals : Int) ∧ f 8 = Value.int .i64 (k : Int) ∧ Sl gq (is 0) w vals_v vals ∧ (k : Int) ≤ ((List.length vals : Int) : Int) ∧ (∀ j : Nat, j < k → gI vals (j : Int) = 0)) (fun ⟨k, gq⟩ => Int.toNat (((List.length vals : Int) : Int) - (k : Int))) (0, c0) ?_ ?_
 · exact ⟨hbase, rfl, rfl, rfl, rfl, r_vals_v, by omega, by intro j hj; omega⟩
 clear r_vals_v
 clear hbase
 rintro ⟨k, g4⟩ f2 w3 ⟨hbase, zs3, zs6, zs7, zs8, r_vals_v, hle_k, hinv⟩ back3
 refine run_seq (run_region rfl ?_)
 refine l_val (v := Value.bool (decide ((k : Int) < (List.length vals : Int)))) rfl (e_lss (m := (k : Int)) (n := (List.length vals : Int)) (by exact zs8) (by exact zs7)) ?_
 refine l_nil (run_seq ?_)
 by_cases p3 : (k : Int) < (List.length vals : Int)
 ·
  refine run_cond_t rfl (decide_eq_true p3) ?_
  refine run_skip ?_
  refine run_seq ?_
  refine run_block ?_
  refine run_seq (run_region rfl ?_)
  refine l_val (v := Value.pointer (some (eAddr vals_v 1 (Int.toNat (k : Int))))) rfl (e_indexAddr (α := Int) (xs := vals) (v := vals_v) (i := (k : Int)) Try.underlying34 rfl (by exact zs6) r_vals_v (by exact zs8) (by omega) (by omega)) ?_
  refine l_val (v := Value.int .i64 (gI vals (k : Int))) rfl (e_load_el1 (α := Int) (xs := vals) (v := vals_v) (i := (k : Int)) tp3_ga rfl r_vals_v (by omega) (by omega) (by decide) rfl) ?_
  refine l_val (v := Value.int .i64 (gI vals (k : Int))) rfl (e_assign rfl) ?_
  refine l_nil (run_seq (run_region rfl ?_))
  refine l_val (v := Value.int .i64 (gI vals (k : Int))) rfl (e_move rfl) ?_
  refine l_val (v := Value.int .i64 0) rfl (e_move (by exact zs3)) ?_
  refine l_val (v := Value.bool (!(decide ((gI vals (k : Int)) = 0)))) rfl (e_neq (m := (gI vals (k : Int))) (n := 0) rfl rfl) ?_
  refine l_nil ?_
  by_cases p5 : (gI vals (k : Int)) = 0
  ·
   refine run_cond_f rfl (congrArg Bool.not (decide_eq_true p5)) ?_
   refine run_skip ?_
   refine run_inBlock ?_
   refine run_region rfl ?_
   refine l_val (v := Value.int .i64 ((k : Int) + 1)) rfl (e_add (m := (k : Int)) (n := 1) (by exact zs8) rfl (by omega)) ?_
   refine l_val (v := Value.int .i64 ((k : Int) + 1)) rfl (e_move rfl) ?_
   refine l_nil ?_
   refine back3 (k + 1, g4) _ _ ⟨hbase, (by exact zs3), (by exact zs6), (by exact zs7), rfl, r_vals_v, by omega, ?_⟩ ?_
   · show ∀ j : Nat, j < (k + 1) → gI vals (j : Int) = 0
     intro j hj
     by_cases e0 : j = k
     · subst e0; assumption
     · exact hinv j (by omega)
   · show Int.toNat (((List.length vals : Int) : Int) - ((k + 1) : Int)) < Int.toNat (((List.length vals : Int) : Int) - (k : Int))
     omega
  refine run_cond_t rfl (congrArg Bool.not (decide_eq_false p5)) ?_
  refine run_seq (run_region rfl ?_)
  refine l_val (v := Value.int .i64 (gI vals (k : Int))) rfl (e_move rfl) ?_
  refine l_val (v := Value.int .i64 (gI vals (k : Int))) rfl (e_assign rfl) ?_
  refine l_nil ?_
  refine run_ret (vs := [Value.int .i64 (gI vals (k : Int))]) Try.func41 (.tmp rfl .nil) ?_
  -- return 0
  have e0 : ((gI vals (k : Int)) : Int) = (orL vals) := by
    first
      | exact orL_take hinv (by assumption) (by assumption)
      | exact orL_none hinv (by assumption)
  exact ⟨(congrArg (a₁ := (gI vals (k : Int))) (fun (z0 : Int) => Ending.returned (Value.int .i64 z0)) e0), hbase.below⟩
 refine run_cond_f rfl (decide_eq_false p3) ?_
 refine run_exit rfl ?_
 refine run_seq (run_region rfl ?_)
 refine l_val (v := Value.int .i64 0) rfl (e_move (by exact zs3)) ?_
 refine l_val (v := Value.int .i64 0) rfl (e_assign rfl) ?_
 refine l_nil ?_
 refine run_ret (vs := [Value.int .i64 0]) Try.func41 (.tmp rfl .nil) ?_
 -- return 1
 have e0 : (0 : Int) = (orL vals) := by
   first
     | exact orL_take hinv (by assumption) (by assumption)
     | exact orL_none hinv (by assumption)
 exact ⟨(congrArg (a₁ := 0) (fun (z0 : Int) => Ending.returned (Value.int .i64 z0)) e0), hbase.below⟩

theorem minus_ok (w0 : World) (b : (Int) × (Int)) (a : (Int) × (Int)) (hb : bdP b) (ha : bdP a) :
    Calls Try.prog 40 #[Value.agg (List.toArray [Value.int .i64 b.1, Value.int .i64 b.2]), Value.agg (List.toArray [Value.int .i64 a.1, Value.int .i64 a.2])] w0 (fun ee w => ee = .returned (Value.agg (List.toArray [Value.int .i64 ((mns b a).1), Value.int .i64 ((mns b a).2)])) ∧ Bel w0.heap.size w0 w) := by
 refine calls_of_run Try.func40 rfl (Nat.le_of_ble_eq_true rfl) ?_
 have hbase := Base.start w0
 unfold bdP at hb ha
 refine run_seq (run_region rfl (l_op rfl ?_))
 refine o_box c0 (is 1) (1, 0) rfl rfl ?_
 intro g4 w1 b3 ch2 bx5
 replace bx5 : Bx g4 (is 1) w1 b3 [Value.int .i64 b.1, Value.int .i64 b.2] := bx5
 refine l_op rfl ?_
 refine o_box g4 (is 2) (2, 0) rfl rfl ?_
 intro g9 w6 b8 ch7 bx10
 replace bx10 : Bx g9 (is 2) w6 b8 [Value.int .i64 a.1, Value.int .i64 a.2] := bx10
 refine l_op rfl ?_
 refine o_alloc g9 (is 3) (3, 0) rfl tp23_ga ?_
 intro g14 w11 b13 ch12 bx15
 replace bx15 : Bx g14 (is 3) w11 b13 [Value.int .i64 0, Value.int .i64 0] := bx15
 refine l_nil (run_seq (run_region rfl ?_))
 refine l_val (v := Value.pointer (some ⟨b3, 0, none⟩)) rfl (e_fieldAddr Try.underlying23 rfl rfl rfl rfl) ?_
 replace bx5 := (bx5.chg ch7 (not_no _)).chg ch12 (not_no _)
 refine l_val (v := Value.int .i64 b.1) rfl (e_load_bx1 tp3_ga rfl bx5 rfl) ?_
 refine l_val (v := Value.pointer (some ⟨b8, 0, none⟩)) rfl (e_fieldAddr Try.underlying23 rfl rfl rfl rfl) ?_
 replace bx10 := bx10.chg ch12 (not_no _)
 refine l_val (v := Value.int .i64 a.1) rfl (e_load_bx1 tp3_ga rfl bx10 rfl) ?_
 refine l_val (v := Value.int .i64 (b.1 - a.1)) rfl (e_sub (m := b.1) (n := a.1) rfl rfl (by omega)) ?_
 refine l_val (v := Value.pointer (some ⟨b3, 1, none⟩)) rfl (e_fieldAddr Try.underlying23 rfl rfl rfl rfl) ?_
 refine l_val (v := Value.int .i64 b.2) rfl (e_load_bx1 tp3_ga rfl bx5 rfl) ?_
 refine l_val (v := Value.pointer (some ⟨b8, 1, none⟩)) rfl (e_fieldAddr Try.underlying23 rfl rfl rfl rfl) ?_
 refine l_val (v := Value.int .i64 a.2) rfl (e_load_bx1 tp3_ga rfl bx10 rfl) ?_
 refine l_val (v := Value.int .i64 (b.2 - a.2)) rfl (e_sub (m := b.2) (n := a.2) rfl rfl (by omega)) ?_
 refine l_val (v := Value.agg (List.toArray [Value.int .i64 (b.1 - a.1), Value.int .i64 (b.2 - a.2)])) rfl (e_build (vs := [(0, Value.int .i64 (b.1 - a.1)), (1, Value.int .i64 (b.2 - a.2))]) rfl (by kernel_rfl)) ?_
 refine l_op rfl ?_
 refine o_store_bx (cs' := [Value.int .i64 (b.1 - a.1), Value.int .i64 (b.2 - a.2)]) tp23_ga rfl rfl bx15 rfl (Nat.le_of_ble_eq_true rfl) (AllOne.all (.cons rfl (.cons rfl .nil))) rfl ?_
 intro w16 ch17 bx18
 clear bx15
 refine l_nil ?_
 refine run_ret (vs := [Value.agg (List.toArray [Value.int .i64 (b.1 - a.1), Value.int .i64 (b.2 - a.2)])]) Try.func40 (.cell rfl (load_bxN (ds := [Value.int .i64 (b.1 - a.1), Value.int .i64 (b.2 - a.2)]) tp23_ga bx18 rfl rfl) .nil) ?_
 -- return 0
 have e0 : ((b.1 - a.1, b.2 - a.2) : (Int) × (Int)) = (mns b a) := by
   rfl
 have C19 : Chg (inl [3]) _ _ _ _ := (ch2.n).seq ((ch7.n).seq ((ch12.n).seq (ch17.l rfl)))
 replace hbase := hbase.chg C19 (is_nl rfl)
 exact ⟨(congrArg (a₁ := (b.1 - a.1, b.2 - a.2)) (fun (z0 : (Int) × (Int)) => Ending.returned (Value.agg (List.toArray [Value.int .i64 z0.1, Value.int .i64 z0.2]))) e0), hbase.below⟩

theorem cross_ok (w0 : World) (a : (Int) × (Int)) (b : (Int) × (Int)) (ha : bdW a) (hb : bdW b) :
    Calls Try.prog 44 #[Value.agg (List.toArray [Value.int .i64 a.1, Value.int .i64 a.2]), Value.agg (List.toArray [Value.int .i64 b.1, Value.int .i64 b.2])] w0 (fun ee w => ee = .returned (Value.int .i64 (crs a b)) ∧ Bel w0.heap.size w0 w) := by
 refine calls_of_run Try.func44 rfl (Nat.le_of_ble_eq_true rfl) ?_
 have hbase := Base.start w0
 unfold bdW at hb ha
 have h1 := mul_bd ha.1 hb.2
 have h2 := mul_bd ha.2 hb.1
 refine run_seq (run_region rfl (l_op rfl ?_))
 refine o_box c0 (is 1) (1, 0) rfl rfl ?_
 intro g4 w1 b3 ch2 bx5
 replace bx5 : Bx g4 (is 1) w1 b3 [Value.int .i64 a.1, Value.int .i64 a.2] := bx5
 refine l_op rfl ?_
 refine o_box g4 (is 2) (2, 0) rfl rfl ?_
 intro g9 w6 b8 ch7 bx10
 replace bx10 : Bx g9 (is 2) w6 b8 [Value.int .i64 b.1, Value.int .i64 b.2] := bx10
 refine l_val (v := Value.int .i64 0) rfl (e_assign rfl) ?_
 refine l_nil (run_seq (run_region rfl ?_))
 refine l_val (v := Value.pointer (some ⟨b3, 0, none⟩)) rfl (e_fieldAddr Try.underlying23 rfl rfl rfl rfl) ?_
 replace bx5 := bx5.chg ch7 (not_no _)
 refine l_val (v := Value.int .i64 a.1) rfl (e_load_bx1 tp3_ga rfl bx5 rfl) ?_
 refine l_val (v := Value.pointer (some ⟨b8, 1, none⟩)) rfl (e_fieldAddr Try.underlying23 rfl rfl rfl rfl) ?_
 refine l_val (v := Value.int .i64 b.2) rfl (e_load_bx1 tp3_ga rfl bx10 rfl) ?_
 refine l_val (v := Value.int .i64 (a.1 * b.2)) rfl (e_mul (m := a.1) (n := b.2) rfl rfl (by omega)) ?_
 refine l_val (v := Value.pointer (some ⟨b3, 1, none⟩)) rfl (e_fieldAddr Try.underlying23 rfl rfl rfl rfl) ?_
 refine l_val (v := Value.int .i64 a.2) rfl (e_load_bx1 tp3_ga rfl bx5 rfl) ?_
 refine l_val (v := Value.pointer (some ⟨b8, 0, none⟩)) rfl (e_fieldAddr Try.underlying23 rfl rfl rfl rfl) ?_
 refine l_val (v := Value.int .i64 b.1) rfl (e_load_bx1 tp3_ga rfl bx10 rfl) ?_
 refine l_val (v := Value.int .i64 (a.2 * b.1)) rfl (e_mul (m := a.2) (n := b.1) rfl rfl (by omega)) ?_
 refine l_val (v := Value.int .i64 ((a.1 * b.2) - (a.2 * b.1))) rfl (e_sub (m := a.1 * b.2) (n := a.2 * b.1) rfl rfl (by omega)) ?_
 refine l_val (v := Value.int .i64 ((a.1 * b.2) - (a.2 * b.1))) rfl (e_assign rfl) ?_
 refine l_nil ?_
 refine run_ret (vs := [Value.int .i64 ((a.1 * b.2) - (a.2 * b.1))]) Try.func44 (.tmp rfl .nil) ?_
 -- return 0
 have e0 : ((a.1 * b.2) - (a.2 * b.1) : Int) = (crs a b) := by
   rfl
 replace hbase := hbase.chg ch2 (not_no _)
 replace hbase := hbase.chg ch7 (not_no _)
 exact ⟨(congrArg (a₁ := (a.1 * b.2) - (a.2 * b.1)) (fun (z0 : Int) => Ending.returned (Value.int .i64 z0)) e0), hbase.below⟩

theorem turn_ok (w0 : World) (a : (Int) × (Int)) (b : (Int) × (Int)) (c : (Int) × (Int)) (ha : bdP a) (hb : bdP b) (hc : bdP c) :
    Calls Try.prog 35 #[Value.agg (List.toArray [Value.int .i64 a.1, Value.int .i64 a.2]), Value.agg (List.toArray [Value.int .i64 b.1, Value.int .i64 b.2]), Value.agg (List.toArray [Value.int .i64 c.1, Value.int .i64 c.2])] w0 (fun ee w => ee = .returned (Value.int .i64 (trn a b c)) ∧ Bel w0.heap.size w0 w) := by
 refine calls_of_run Try.func35 rfl (Nat.le_of_ble_eq_true rfl) ?_
 have hbase := Base.start w0
 have hba := bdW_mns ha hb
 have hca := bdW_mns ha hc
 refine run_seq (run_region rfl (l_op rfl ?_))
 refine o_box c0 (is 1) (1, 0) rfl rfl ?_
 intro g4 w1 b3 ch2 bx5
 replace bx5 : Bx g4 (is 1) w1 b3 [Value.int .i64 a.1, Value.int .i64 a.2] := bx5
 refine l_op rfl ?_
 refine o_box g4 (is 2) (2, 0) rfl rfl ?_
 intro g9 w6 b8 ch7 bx10
 replace bx10 : Bx g9 (is 2) w6 b8 [Value.int .i64 b.1, Value.int .i64 b.2] := bx10
 refine l_op rfl ?_
 refine o_box g9 (is 3) (3, 0) rfl rfl ?_
 intro g14 w11 b13 ch12 bx15
 replace bx15 : Bx g14 (is 3) w11 b13 [Value.int .i64 c.1, Value.int .i64 c.2] := bx15
 refine l_val (v := Value.int .i64 0) rfl (e_assign rfl) ?_
 refine l_nil (run_seq ?_)
 refine region_q g14 rfl mixed_ga (by kernel_rfl) ?_
 intro w17 ch16
 replace bx10 := (bx10.chg ch12 (not_no _)).chg ch16 (not_no _)
 refine q_val (v := Value.agg (List.toArray [Value.int .i64 b.1, Value.int .i64 b.2])) rfl (fun w' hw' => e_load_bxN (ds := [Value.int .i64 b.1, Value.int .i64 b.2]) tp23_ga rfl (bx10.bel hw') rfl rfl) ?_
 have C18 : Chg (inl []) _ _ _ _ := (ch7.n).seq ((ch12.n).seq (ch16.n))
 replace bx5 := bx5.chg C18 (is_nl rfl)
 refine q_val (v := Value.agg (List.toArray [Value.int .i64 a.1, Value.int .i64 a.2])) rfl (fun w' hw' => e_load_bxN (ds := [Value.int .i64 a.1, Value.int .i64 a.2]) tp23_ga rfl (bx5.bel hw') rfl rfl) ?_
 refine q_call (v := Value.agg (List.toArray [Value.int .i64 ((mns b a).1), Value.int .i64 ((mns b a).2)])) rfl (fun w' hw' => e_call (vals := [Value.agg (List.toArray [Value.int .i64 b.1, Value.int .i64 b.2]), Value.agg (List.toArray [Value.int .i64 a.1, Value.int .i64 a.2])]) Try.func40 bd40_ga nm40_ga rfl) (fun w' hw' => (minus_ok w' b a (by assumption) (by assumption)).mono fun e w2 h2 => ⟨h2.1, hw'.trans (h2.2.mono hw'.size)⟩) ?_
 replace bx15 := bx15.chg ch16 (not_no _)
 refine q_val (v := Value.agg (List.toArray [Value.int .i64 c.1, Value.int .i64 c.2])) rfl (fun w' hw' => e_load_bxN (ds := [Value.int .i64 c.1, Value.int .i64 c.2]) tp23_ga rfl (bx15.bel hw') rfl rfl) ?_
 refine q_val (v := Value.agg (List.toArray [Value.int .i64 a.1, Value.int .i64 a.2])) rfl (fun w' hw' => e_load_bxN (ds := [Value.int .i64 a.1, Value.int .i64 a.2]) tp23_ga rfl (bx5.bel hw') rfl rfl) ?_
 refine q_call (v := Value.agg (List.toArray [Value.int .i64 ((mns c a).1), Value.int .i64 ((mns c a).2)])) rfl (fun w' hw' => e_call (vals := [Value.agg (List.toArray [Value.int .i64 c.1, Value.int .i64 c.2]), Value.agg (List.toArray [Value.int .i64 a.1, Value.int .i64 a.2])]) Try.func40 bd40_ga nm40_ga rfl) (fun w' hw' => (minus_ok w' c a (by assumption) (by assumption)).mono fun e w2 h2 => ⟨h2.1, hw'.trans (h2.2.mono hw'.size)⟩) ?_
 refine q_call (v := Value.int .i64 (crs (mns b a) (mns c a))) rfl (fun w' hw' => e_call (vals := [Value.agg (List.toArray [Value.int .i64 ((mns b a).1), Value.int .i64 ((mns b a).2)]), Value.agg (List.toArray [Value.int .i64 ((mns c a).1), Value.int .i64 ((mns c a).2)])]) Try.func44 bd44_ga nm44_ga rfl) (fun w' hw' => (cross_ok w' (mns b a) (mns c a) (by assumption) (by assumption)).mono fun e w2 h2 => ⟨h2.1, hw'.trans (h2.2.mono hw'.size)⟩) ?_
 refine q_call (v := Value.int .i64 (cmpI (crs (mns b a) (mns c a)) 0)) rfl (fun w' hw' => e_call (vals := [Value.int .i64 (crs (mns b a) (mns c a)), Value.int .i64 0]) Try.func42 bd42_ga nm42_ga rfl) (fun w' hw' => (Compare_ok w' (crs (mns b a) (mns c a)) 0).mono fun e w2 h2 => ⟨h2.1, hw'.trans (h2.2.mono hw'.size)⟩) ?_
 refine q_val (v := Value.int .i64 (cmpI (crs (mns b a) (mns c a)) 0)) rfl (fun w' hw' => e_assign rfl) ?_
 refine q_nil ?_
 intro w19 hc20
 replace hc20 := chg_below hc20 g14
 refine run_ret (vs := [Value.int .i64 (cmpI (crs (mns b a) (mns c a)) 0)]) Try.func35 (.tmp rfl .nil) ?_
 -- return 0
 have e0 : (cmpI (crs (mns b a) (mns c a)) 0 : Int) = (trn a b c) := by
   rfl
 have C21 : Chg (inl []) _ _ _ _ := (ch2.n).seq ((ch7.n).seq ((ch12.n).seq ((ch16.n).seq (hc20.n))))
 replace hbase := hbase.chg C21 (is_nl rfl)
 exact ⟨(congrArg (a₁ := cmpI (crs (mns b a) (mns c a)) 0) (fun (z0 : Int) => Ending.returned (Value.int .i64 z0)) e0), hbase.below⟩

theorem may_ok (w0 : World) (p : (Int) × (Int)) :
    Calls Try.prog 47 #[Value.agg (List.toArray [Value.int .i64 p.1, Value.int .i64 p.2])] w0 (fun ee w => ee = .returned (Value.bool (decide (okP p))) ∧ Bel w0.heap.size w0 w) := by
 refine calls_of_run Try.func47 rfl (Nat.le_of_ble_eq_true rfl) ?_
 have hbase := Base.start w0
 refine run_seq (run_region rfl (l_op rfl ?_))
 refine o_box c0 (is 1) (1, 0) rfl rfl ?_
 intro g4 w1 b3 ch2 bx5
 replace bx5 : Bx g4 (is 1) w1 b3 [Value.int .i64 p.1, Value.int .i64 p.2] := bx5
 refine l_val (v := Value.bool false) rfl (e_assign rfl) ?_
 refine l_nil (run_seq (run_region rfl ?_))
 refine l_val (v := Value.pointer (some ⟨b3, 0, none⟩)) rfl (e_fieldAddr Try.underlying23 rfl rfl rfl rfl) ?_
 refine l_val (v := Value.int .i64 p.1) rfl (e_load_bx1 tp3_ga rfl bx5 rfl) ?_
 refine l_val (v := Value.bool (decide ((-1048576) ≤ p.1))) rfl (e_geq (m := p.1) (n := -1048576) rfl rfl) ?_
 refine l_val (v := Value.bool (decide ((-1048576) ≤ p.1))) rfl (e_move rfl) ?_
 by_cases q6 : (-1048576) ≤ p.1
 ·
  refine l_val (v := Value.pointer (some ⟨b3, 0, none⟩)) (want_y rfl rfl rfl (decide_eq_true q6)) (e_fieldAddr Try.underlying23 rfl rfl rfl rfl) ?_
  refine l_val (v := Value.int .i64 p.1) (want_y rfl rfl rfl (decide_eq_true q6)) (e_load_bx1 tp3_ga rfl bx5 rfl) ?_
  refine l_val (v := Value.bool (decide (p.1 ≤ 1048576))) (want_y rfl rfl rfl (decide_eq_true q6)) (e_leq (m := p.1) (n := 1048576) rfl rfl) ?_
  refine l_val (v := Value.bool (decide (p.1 ≤ 1048576))) rfl (e_pick_t rfl (decide_eq_true q6) rfl) ?_
  refine l_val (v := Value.bool (decide (p.1 ≤ 1048576))) rfl (e_move rfl) ?_
  by_cases q11 : p.1 ≤ 1048576
  ·
   refine l_val (v := Value.pointer (some ⟨b3, 1, none⟩)) (want_y rfl rfl rfl (decide_eq_true q11)) (e_fieldAddr Try.underlying23 rfl rfl rfl rfl) ?_
   refine l_val (v := Value.int .i64 p.2) (want_y rfl rfl rfl (decide_eq_true q11)) (e_load_bx1 tp3_ga rfl bx5 rfl) ?_
   refine l_val (v := Value.bool (decide ((-1048576) ≤ p.2))) (want_y rfl rfl rfl (decide_eq_true q11)) (e_geq (m := p.2) (n := -1048576) rfl rfl) ?_
   refine l_val (v := Value.bool (decide ((-1048576) ≤ p.2))) rfl (e_pick_t rfl (decide_eq_true q11) rfl) ?_
   refine l_val (v := Value.bool (decide ((-1048576) ≤ p.2))) rfl (e_move rfl) ?_
   by_cases q16 : (-1048576) ≤ p.2
   ·
    refine l_val (v := Value.pointer (some ⟨b3, 1, none⟩)) (want_y rfl rfl rfl (decide_eq_true q16)) (e_fieldAddr Try.underlying23 rfl rfl rfl rfl) ?_
    refine l_val (v := Value.int .i64 p.2) (want_y rfl rfl rfl (decide_eq_true q16)) (e_load_bx1 tp3_ga rfl bx5 rfl) ?_
    refine l_val (v := Value.bool (decide (p.2 ≤ 1048576))) (want_y rfl rfl rfl (decide_eq_true q16)) (e_leq (m := p.2) (n := 1048576) rfl rfl) ?_
    refine l_val (v := Value.bool (decide (p.2 ≤ 1048576))) rfl (e_pick_t rfl (decide_eq_true q16) rfl) ?_
    refine l_val (v := Value.bool (decide (p.2 ≤ 1048576))) rfl (e_assign rfl) ?_
    refine l_nil ?_
    refine run_ret (vs := [Value.bool (decide (p.2 ≤ 1048576))]) Try.func47 (.tmp rfl .nil) ?_
    -- return 0
    have e0 : (decide (p.2 ≤ 1048576) : Bool) = (decide (okP p)) := by
      first
        | exact (decide_eq_false (by unfold okP; omega)).symm
        | exact (decide_eq_true (by unfold okP; omega)).symm
        | (rw [decide_eq_decide]; unfold okP; omega)
    replace hbase := hbase.chg ch2 (not_no _)
    exact ⟨(congrArg (a₁ := decide (p.2 ≤ 1048576)) (fun (z0 : Bool) => Ending.returned (Value.bool z0)) e0), hbase.below⟩
   refine l_skip (want_n rfl rfl rfl (decide_eq_false q16)) ?_
   refine l_skip (want_n rfl rfl rfl (decide_eq_false q16)) ?_
   refine l_skip (want_n rfl rfl rfl (decide_eq_false q16)) ?_
   refine l_val (v := Value.bool false) rfl (e_pick_f rfl (decide_eq_false q16) rfl) ?_
   refine l_val (v := Value.bool false) rfl (e_assign rfl) ?_
   refine l_nil ?_
   refine run_ret (vs := [Value.bool false]) Try.func47 (.tmp rfl .nil) ?_
   -- return 1
   have e0 : (false : Bool) = (decide (okP p)) := by
     first
       | exact (decide_eq_false (by unfold okP; omega)).symm
       | exact (decide_eq_true (by unfold okP; omega)).symm
       | (rw [decide_eq_decide]; unfold okP; omega)
   replace hbase := hbase.chg ch2 (not_no _)
   exact ⟨(congrArg (a₁ := false) (fun (z0 : Bool) => Ending.returned (Value.bool z0)) e0), hbase.below⟩
  refine l_skip (want_n rfl rfl rfl (decide_eq_false q11)) ?_
  refine l_skip (want_n rfl rfl rfl (decide_eq_false q11)) ?_
  refine l_skip (want_n rfl rfl rfl (decide_eq_false q11)) ?_
  refine l_val (v := Value.bool false) rfl (e_pick_f rfl (decide_eq_false q11) rfl) ?_
  refine l_val (v := Value.bool false) rfl (e_move rfl) ?_
  refine l_skip (want_n rfl rfl rfl rfl) (l_skip (want_n rfl rfl rfl rfl) (l_skip (want_n rfl rfl rfl rfl) ?_))
  refine l_val (v := Value.bool false) rfl (e_pick_f rfl rfl rfl) ?_
  refine l_val (v := Value.bool false) rfl (e_assign rfl) ?_
  refine l_nil ?_
  refine run_ret (vs := [Value.bool false]) Try.func47 (.tmp rfl .nil) ?_
  -- return 2
  have e0 : (false : Bool) = (decide (okP p)) := by
    first
      | exact (decide_eq_false (by unfold okP; omega)).symm
      | exact (decide_eq_true (by unfold okP; omega)).symm
      | (rw [decide_eq_decide]; unfold okP; omega)
  replace hbase := hbase.chg ch2 (not_no _)
  exact ⟨(congrArg (a₁ := false) (fun (z0 : Bool) => Ending.returned (Value.bool z0)) e0), hbase.below⟩
 refine l_skip (want_n rfl rfl rfl (decide_eq_false q6)) ?_
 refine l_skip (want_n rfl rfl rfl (decide_eq_false q6)) ?_
 refine l_skip (want_n rfl rfl rfl (decide_eq_false q6)) ?_
 refine l_val (v := Value.bool false) rfl (e_pick_f rfl (decide_eq_false q6) rfl) ?_
 refine l_val (v := Value.bool false) rfl (e_move rfl) ?_
 refine l_skip (want_n rfl rfl rfl rfl) (l_skip (want_n rfl rfl rfl rfl) (l_skip (want_n rfl rfl rfl rfl) ?_))
 refine l_val (v := Value.bool false) rfl (e_pick_f rfl rfl rfl) ?_
 refine l_val (v := Value.bool false) rfl (e_move rfl) ?_
 refine l_skip (want_n rfl rfl rfl rfl) (l_skip (want_n rfl rfl rfl rfl) (l_skip (want_n rfl rfl rfl rfl) ?_))
 refine l_val (v := Value.bool false) rfl (e_pick_f rfl rfl rfl) ?_
 refine l_val (v := Value.bool false) rfl (e_assign rfl) ?_
 refine l_nil ?_
 refine run_ret (vs := [Value.bool false]) Try.func47 (.tmp rfl .nil) ?_
 -- return 3
 have e0 : (false : Bool) = (decide (okP p)) := by
   first
     | exact (decide_eq_false (by unfold okP; omega)).symm
     | exact (decide_eq_true (by unfold okP; omega)).symm
     | (rw [decide_eq_decide]; unfold okP; omega)
 replace hbase := hbase.chg ch2 (not_no _)
 exact ⟨(congrArg (a₁ := false) (fun (z0 : Bool) => Ending.returned (Value.bool z0)) e0), hbase.below⟩

theorem GMay_ok (w0 : World) (ps : List ((Int) × (Int))) (ps_v : Value) (hps_v : Ro w0 ps_v ps) :
    Calls Try.prog 25 #[ps_v] w0 (fun ee w => ee = .returned (Value.bool (decide (okL ps))) ∧ Bel w0.heap.size w0 w) := by
 refine calls_of_run Try.func25 rfl (Nat.le_of_ble_eq_true rfl) ?_
 have hbase := Base.start w0
 have r_ps_v := hps_v.sl
 refine run_seq (run_region rfl ?_)
 refine l_val (v := Value.bool false) rfl (e_assign rfl) ?_
 refine l_nil (run_seq (run_seq (run_region rfl ?_)))
 refine l_val (v := ps_v) rfl (e_move rfl) ?_
 have len1 := (r_ps_v).small
 refine l_val (v := Value.int .i64 (List.length ps : Int)) rfl (e_len Try.underlying25 rfl r_ps_v) ?_
 refine l_val (v := Value.bool (decide (4096 < (List.length ps : Int)))) rfl (e_gtr (m := (List.length ps : Int)) (n := 4096) rfl rfl) ?_
 refine l_nil ?_
 by_cases p1 : 4096 < (List.length ps : Int)
 ·
  refine run_cond_t rfl (decide_eq_true p1) ?_
  refine run_seq (run_region rfl ?_)
  refine l_val (v := Value.bool false) rfl (e_assign rfl) ?_
  refine l_nil ?_
  refine run_ret (vs := [Value.bool false]) Try.func25 (.tmp rfl .nil) ?_
  -- return 0
  have e0 : (false : Bool) = (decide (okL ps)) := by
    first
      | exact (decide_eq_false (fun h => by have := h.1; omega)).symm
      | exact (decide_eq_true ⟨by omega, okL_gI (fun j hj => hinv j (by omega))⟩).symm
      | (refine (decide_eq_false (fun h => ?_)).symm
         have h1 := h.2 _ (gI_mem (xs := ps) (i := (k : Int)) (by omega) (by omega))
         simp_all; done)
  exact ⟨(congrArg (a₁ := false) (fun (z0 : Bool) => Ending.returned (Value.bool z0)) e0), hbase.below⟩
 refine run_cond_f rfl (decide_eq_false p1) ?_
 refine run_skip ?_
 refine run_seq (run_seq (run_region rfl ?_))
 refine l_val (v := ps_v) rfl (e_move rfl) ?_
 refine l_val (v := Value.int .i64 (List.length ps : Int)) rfl (e_len Try.underlying25 rfl r_ps_v) ?_
 refine l_val (v := Value.int .i64 0) rfl (e_move rfl) ?_
 refine l_nil ?_
 refine run_block ?_
 refine run_loop (σ := Nat × Cmap) (fun ⟨k, gq⟩ f w => Base w0 gq w ∧ f 8 = ps_v ∧ f 9 = Value.int .i64 (List.length ps : Int) ∧ f 10 = Value.int .i64 (k : Int) ∧ Sl gq (is 0) w ps_v ps ∧ (k : Int) ≤ ((List.length ps : Int) : Int) ∧ (∀ j : Nat, j < k → okP (gI ps (j : Int)))) (fun ⟨k, gq⟩ => Int.toNat (((List.length ps : Int) : Int) - (k : Int))) (0, c0) ?_ ?_
 · exact ⟨hbase, rfl, rfl, rfl, r_ps_v, by omega, by intro j hj; omega⟩
 clear r_ps_v
 clear hbase
 rintro ⟨k, g4⟩ f2 w3 ⟨hbase, zs8, zs9, zs10, r_ps_v, hle_k, hinv⟩ back4
 refine run_seq (run_region rfl ?_)
 refine l_val (v := Value.bool (decide ((k : Int) < (List.length ps : Int)))) rfl (e_lss (m := (k : Int)) (n := (List.length ps : Int)) (by exact zs10) (by exact zs9)) ?_
 refine l_nil (run_seq ?_)
 by_cases p4 : (k : Int) < (List.length ps : Int)
 ·
  refine run_cond_t rfl (decide_eq_true p4) ?_
  refine run_skip ?_
  refine run_seq ?_
  refine run_block ?_
  refine run_seq (run_region rfl ?_)
  refine l_val (v := Value.pointer (some (eAddr ps_v 2 (Int.toNat (k : Int))))) rfl (e_indexAddr (α := (Int) × (Int)) (xs := ps) (v := ps_v) (i := (k : Int)) Try.underlying25 rfl (by exact zs8) r_ps_v (by exact zs10) (by omega) (by omega)) ?_
  refine l_val (v := Value.agg (List.toArray [Value.int .i64 ((gI ps (k : Int)).1), Value.int .i64 ((gI ps (k : Int)).2)])) rfl (e_load_elN (α := (Int) × (Int)) (xs := ps) (v := ps_v) (i := (k : Int)) tp23_ga rfl r_ps_v (by omega) (by omega) rfl) ?_
  refine l_op rfl ?_
  refine o_alloc g4 (is 1) (1, 0) rfl tp23_ga ?_
  intro g8 w5 b7 ch6 bx9
  replace bx9 : Bx g8 (is 1) w5 b7 [Value.int .i64 0, Value.int .i64 0] := bx9
  refine l_op rfl ?_
  refine o_store_bx (cs' := [Value.int .i64 ((gI ps (k : Int)).1), Value.int .i64 ((gI ps (k : Int)).2)]) tp23_ga rfl rfl bx9 rfl (Nat.le_of_ble_eq_true rfl) (AllOne.all (.cons rfl (.cons rfl .nil))) rfl ?_
  intro w10 ch11 bx12
  clear bx9
  refine l_nil (run_seq (run_region rfl ?_))
  refine l_val (v := Value.agg (List.toArray [Value.int .i64 ((gI ps (k : Int)).1), Value.int .i64 ((gI ps (k : Int)).2)])) rfl (e_load_bxN (ds := [Value.int .i64 ((gI ps (k : Int)).1), Value.int .i64 ((gI ps (k : Int)).2)]) tp23_ga rfl bx12 rfl rfl) ?_
  refine l_op rfl ?_
  refine o_call (v := Value.bool (decide (okP (gI ps (k : Int))))) (e_call (vals := [Value.agg (List.toArray [Value.int .i64 ((gI ps (k : Int)).1), Value.int .i64 ((gI ps (k : Int)).2)])]) Try.func47 bd47_ga nm47_ga rfl) (may_ok w10 (gI ps (k : Int))) ?_
  intro w13 hb14
  replace hb14 := chg_below hb14 g8
  refine l_val (v := Value.bool (!(decide (okP (gI ps (k : Int)))))) rfl (e_not (b := (decide (okP (gI ps (k : Int))))) rfl) ?_
  refine l_nil ?_
  by_cases p6 : (decide (okP (gI ps (k : Int)))) = true
  ·
   refine run_cond_f rfl (congrArg Bool.not p6) ?_
   refine run_skip ?_
   refine run_inBlock ?_
   clear bx12
   refine run_region rfl ?_
   refine l_val (v := Value.int .i64 ((k : Int) + 1)) rfl (e_add (m := (k : Int)) (n := 1) (by exact zs10) rfl (by omega)) ?_
   refine l_val (v := Value.int .i64 ((k : Int) + 1)) rfl (e_move rfl) ?_
   refine l_nil ?_
   have C15 : Chg (inl [1]) _ _ _ _ := (ch6.n).seq ((ch11.l rfl).seq (hb14.n))
   replace hbase := hbase.chg C15 (is_nl rfl)
   replace r_ps_v := r_ps_v.chg C15 (is_nl rfl)
   refine back4 (k + 1, g8) _ _ ⟨hbase, (by exact zs8), (by exact zs9), rfl, r_ps_v, by omega, ?_⟩ ?_
   · show ∀ j : Nat, j < (k + 1) → okP (gI ps (j : Int))
     intro j hj
     by_cases e0 : j = k
     · subst e0; simpa using of_decide_eq_true (by assumption)
     · exact hinv j (by omega)
   · show Int.toNat (((List.length ps : Int) : Int) - ((k + 1) : Int)) < Int.toNat (((List.length ps : Int) : Int) - (k : Int))
     omega
  refine run_cond_t rfl (congrArg Bool.not (Bool.eq_false_iff.2 p6)) ?_
  refine run_seq ?_
  clear bx12
  refine run_region rfl ?_
  refine l_val (v := Value.bool false) rfl (e_assign rfl) ?_
  refine l_nil ?_
  refine run_ret (vs := [Value.bool false]) Try.func25 (.tmp rfl .nil) ?_
  -- return 1
  have e0 : (false : Bool) = (decide (okL ps)) := by
    first
      | exact (decide_eq_false (fun h => by have := h.1; omega)).symm
      | exact (decide_eq_true ⟨by omega, okL_gI (fun j hj => hinv j (by omega))⟩).symm
      | (refine (decide_eq_false (fun h => ?_)).symm
         have h1 := h.2 _ (gI_mem (xs := ps) (i := (k : Int)) (by omega) (by omega))
         simp_all; done)
  have C16 : Chg (inl [1]) _ _ _ _ := (ch6.n).seq ((ch11.l rfl).seq (hb14.n))
  replace hbase := hbase.chg C16 (is_nl rfl)
  exact ⟨(congrArg (a₁ := false) (fun (z0 : Bool) => Ending.returned (Value.bool z0)) e0), hbase.below⟩
 refine run_cond_f rfl (decide_eq_false p4) ?_
 refine run_exit rfl ?_
 refine run_seq (run_region rfl ?_)
 refine l_val (v := Value.bool true) rfl (e_assign rfl) ?_
 refine l_nil ?_
 refine run_ret (vs := [Value.bool true]) Try.func25 (.tmp rfl .nil) ?_
 -- return 2
 have e0 : (true : Bool) = (decide (okL ps)) := by
   first
     | exact (decide_eq_false (fun h => by have := h.1; omega)).symm
     | exact (decide_eq_true ⟨by omega, okL_gI (fun j hj => hinv j (by omega))⟩).symm
     | (refine (decide_eq_false (fun h => ?_)).symm
        have h1 := h.2 _ (gI_mem (xs := ps) (i := (k : Int)) (by omega) (by omega))
        simp_all; done)
 exact ⟨(congrArg (a₁ := true) (fun (z0 : Bool) => Ending.returned (Value.bool z0)) e0), hbase.below⟩

theorem on_ok (w0 : World) (a : (Int) × (Int)) (b : (Int) × (Int)) (p : (Int) × (Int)) (ha : bdP a) (hb : bdP b) (hp : bdP p) :
    Calls Try.prog 46 #[Value.agg (List.toArray [Value.int .i64 a.1, Value.int .i64 a.2]), Value.agg (List.toArray [Value.int .i64 b.1, Value.int .i64 b.2]), Value.agg (List.toArray [Value.int .i64 p.1, Value.int .i64 p.2])] w0 (fun ee w => ee = .returned (Value.bool (decide (onP a b p))) ∧ Bel w0.heap.size w0 w) := by
 refine calls_of_run Try.func46 rfl (Nat.le_of_ble_eq_true rfl) ?_
 have hbase := Base.start w0
 refine run_seq (run_region rfl (l_op rfl ?_))
 refine o_box c0 (is 1) (1, 0) rfl rfl ?_
 intro g4 w1 b3 ch2 bx5
 replace bx5 : Bx g4 (is 1) w1 b3 [Value.int .i64 a.1, Value.int .i64 a.2] := bx5
 refine l_op rfl ?_
 refine o_box g4 (is 2) (2, 0) rfl rfl ?_
 intro g9 w6 b8 ch7 bx10
 replace bx10 : Bx g9 (is 2) w6 b8 [Value.int .i64 b.1, Value.int .i64 b.2] := bx10
 refine l_op rfl ?_
 refine o_box g9 (is 3) (3, 0) rfl rfl ?_
 intro g14 w11 b13 ch12 bx15
 replace bx15 : Bx g14 (is 3) w11 b13 [Value.int .i64 p.1, Value.int .i64 p.2] := bx15
 refine l_val (v := Value.bool false) rfl (e_assign rfl) ?_
 refine l_nil (run_seq (run_region rfl ?_))
 replace bx5 := (bx5.chg ch7 (not_no _)).chg ch12 (not_no _)
 refine l_val (v := Value.agg (List.toArray [Value.int .i64 a.1, Value.int .i64 a.2])) rfl (e_load_bxN (ds := [Value.int .i64 a.1, Value.int .i64 a.2]) tp23_ga rfl bx5 rfl rfl) ?_
 replace bx10 := bx10.chg ch12 (not_no _)
 refine l_val (v := Value.agg (List.toArray [Value.int .i64 b.1, Value.int .i64 b.2])) rfl (e_load_bxN (ds := [Value.int .i64 b.1, Value.int .i64 b.2]) tp23_ga rfl bx10 rfl rfl) ?_
 refine l_val (v := Value.agg (List.toArray [Value.int .i64 p.1, Value.int .i64 p.2])) rfl (e_load_bxN (ds := [Value.int .i64 p.1, Value.int .i64 p.2]) tp23_ga rfl bx15 rfl rfl) ?_
 refine l_op rfl ?_
 refine o_call (v := Value.int .i64 (trn a b p)) (e_call (vals := [Value.agg (List.toArray [Value.int .i64 a.1, Value.int .i64 a.2]), Value.agg (List.toArray [Value.int .i64 b.1, Value.int .i64 b.2]), Value.agg (List.toArray [Value.int .i64 p.1, Value.int .i64 p.2])]) Try.func35 bd35_ga nm35_ga rfl) (turn_ok w11 a b p (by assumption) (by assumption) (by assumption)) ?_
 intro w16 hb17
 replace hb17 := chg_below hb17 g14
 refine l_val (v := Value.bool (decide ((trn a b p) = 0))) rfl (e_eql (m := trn a b p) (n := 0) rfl rfl) ?_
 refine l_val (v := Value.bool (decide ((trn a b p) = 0))) rfl (e_move rfl) ?_
 by_cases q12 : (trn a b p) = 0
 ·
  refine l_val (v := Value.pointer (some ⟨b13, 0, none⟩)) (want_y rfl rfl rfl (decide_eq_true q12)) (e_fieldAddr Try.underlying23 rfl rfl rfl rfl) ?_
  replace bx15 := bx15.chg hb17 (not_no _)
  refine l_val (v := Value.int .i64 p.1) (want_y rfl rfl rfl (decide_eq_true q12)) (e_load_bx1 tp3_ga rfl bx15 rfl) ?_
  refine l_val (v := Value.pointer (some ⟨b3, 0, none⟩)) (want_y rfl rfl rfl (decide_eq_true q12)) (e_fieldAddr Try.underlying23 rfl rfl rfl rfl) ?_
  replace bx5 := bx5.chg hb17 (not_no _)
  refine l_val (v := Value.int .i64 a.1) (want_y rfl rfl rfl (decide_eq_true q12)) (e_load_bx1 tp3_ga rfl bx5 rfl) ?_
  refine l_val (v := Value.pointer (some ⟨b8, 0, none⟩)) (want_y rfl rfl rfl (decide_eq_true q12)) (e_fieldAddr Try.underlying23 rfl rfl rfl rfl) ?_
  replace bx10 := bx10.chg hb17 (not_no _)
  refine l_val (v := Value.int .i64 b.1) (want_y rfl rfl rfl (decide_eq_true q12)) (e_load_bx1 tp3_ga rfl bx10 rfl) ?_
  refine l_val (v := Value.int .i64 (min a.1 b.1)) (want_y rfl rfl rfl (decide_eq_true q12)) (e_min rfl rfl) ?_
  refine l_val (v := Value.bool (decide ((min a.1 b.1) ≤ p.1))) (want_y rfl rfl rfl (decide_eq_true q12)) (e_geq (m := p.1) (n := min a.1 b.1) rfl rfl) ?_
  refine l_val (v := Value.bool (decide ((min a.1 b.1) ≤ p.1))) rfl (e_pick_t rfl (decide_eq_true q12) rfl) ?_
  refine l_val (v := Value.bool (decide ((min a.1 b.1) ≤ p.1))) rfl (e_move rfl) ?_
  by_cases q22 : (min a.1 b.1) ≤ p.1
  ·
   refine l_val (v := Value.pointer (some ⟨b13, 0, none⟩)) (want_y rfl rfl rfl (decide_eq_true q22)) (e_fieldAddr Try.underlying23 rfl rfl rfl rfl) ?_
   refine l_val (v := Value.int .i64 p.1) (want_y rfl rfl rfl (decide_eq_true q22)) (e_load_bx1 tp3_ga rfl bx15 rfl) ?_
   refine l_val (v := Value.pointer (some ⟨b3, 0, none⟩)) (want_y rfl rfl rfl (decide_eq_true q22)) (e_fieldAddr Try.underlying23 rfl rfl rfl rfl) ?_
   refine l_val (v := Value.int .i64 a.1) (want_y rfl rfl rfl (decide_eq_true q22)) (e_load_bx1 tp3_ga rfl bx5 rfl) ?_
   refine l_val (v := Value.pointer (some ⟨b8, 0, none⟩)) (want_y rfl rfl rfl (decide_eq_true q22)) (e_fieldAddr Try.underlying23 rfl rfl rfl rfl) ?_
   refine l_val (v := Value.int .i64 b.1) (want_y rfl rfl rfl (decide_eq_true q22)) (e_load_bx1 tp3_ga rfl bx10 rfl) ?_
   refine l_val (v := Value.int .i64 (max a.1 b.1)) (want_y rfl rfl rfl (decide_eq_true q22)) (e_max rfl rfl) ?_
   refine l_val (v := Value.bool (decide (p.1 ≤ (max a.1 b.1)))) (want_y rfl rfl rfl (decide_eq_true q22)) (e_leq (m := p.1) (n := max a.1 b.1) rfl rfl) ?_
   refine l_val (v := Value.bool (decide (p.1 ≤ (max a.1 b.1)))) rfl (e_pick_t rfl (decide_eq_true q22) rfl) ?_
   refine l_val (v := Value.bool (decide (p.1 ≤ (max a.1 b.1)))) rfl (e_move rfl) ?_
   by_cases q32 : p.1 ≤ (max a.1 b.1)
   ·
    refine l_val (v := Value.pointer (some ⟨b13, 1, none⟩)) (want_y rfl rfl rfl (decide_eq_true q32)) (e_fieldAddr Try.underlying23 rfl rfl rfl rfl) ?_
    refine l_val (v := Value.int .i64 p.2) (want_y rfl rfl rfl (decide_eq_true q32)) (e_load_bx1 tp3_ga rfl bx15 rfl) ?_
    refine l_val (v := Value.pointer (some ⟨b3, 1, none⟩)) (want_y rfl rfl rfl (decide_eq_true q32)) (e_fieldAddr Try.underlying23 rfl rfl rfl rfl) ?_
    refine l_val (v := Value.int .i64 a.2) (want_y rfl rfl rfl (decide_eq_true q32)) (e_load_bx1 tp3_ga rfl bx5 rfl) ?_
    refine l_val (v := Value.pointer (some ⟨b8, 1, none⟩)) (want_y rfl rfl rfl (decide_eq_true q32)) (e_fieldAddr Try.underlying23 rfl rfl rfl rfl) ?_
    refine l_val (v := Value.int .i64 b.2) (want_y rfl rfl rfl (decide_eq_true q32)) (e_load_bx1 tp3_ga rfl bx10 rfl) ?_
    refine l_val (v := Value.int .i64 (min a.2 b.2)) (want_y rfl rfl rfl (decide_eq_true q32)) (e_min rfl rfl) ?_
    refine l_val (v := Value.bool (decide ((min a.2 b.2) ≤ p.2))) (want_y rfl rfl rfl (decide_eq_true q32)) (e_geq (m := p.2) (n := min a.2 b.2) rfl rfl) ?_
    refine l_val (v := Value.bool (decide ((min a.2 b.2) ≤ p.2))) rfl (e_pick_t rfl (decide_eq_true q32) rfl) ?_
    refine l_val (v := Value.bool (decide ((min a.2 b.2) ≤ p.2))) rfl (e_move rfl) ?_
    by_cases q42 : (min a.2 b.2) ≤ p.2
    ·
     refine l_val (v := Value.pointer (some ⟨b13, 1, none⟩)) (want_y rfl rfl rfl (decide_eq_true q42)) (e_fieldAddr Try.underlying23 rfl rfl rfl rfl) ?_
     refine l_val (v := Value.int .i64 p.2) (want_y rfl rfl rfl (decide_eq_true q42)) (e_load_bx1 tp3_ga rfl bx15 rfl) ?_
     refine l_val (v := Value.pointer (some ⟨b3, 1, none⟩)) (want_y rfl rfl rfl (decide_eq_true q42)) (e_fieldAddr Try.underlying23 rfl rfl rfl rfl) ?_
     refine l_val (v := Value.int .i64 a.2) (want_y rfl rfl rfl (decide_eq_true q42)) (e_load_bx1 tp3_ga rfl bx5 rfl) ?_
     refine l_val (v := Value.pointer (some ⟨b8, 1, none⟩)) (want_y rfl rfl rfl (decide_eq_true q42)) (e_fieldAddr Try.underlying23 rfl rfl rfl rfl) ?_
     refine l_val (v := Value.int .i64 b.2) (want_y rfl rfl rfl (decide_eq_true q42)) (e_load_bx1 tp3_ga rfl bx10 rfl) ?_
     refine l_val (v := Value.int .i64 (max a.2 b.2)) (want_y rfl rfl rfl (decide_eq_true q42)) (e_max rfl rfl) ?_
     refine l_val (v := Value.bool (decide (p.2 ≤ (max a.2 b.2)))) (want_y rfl rfl rfl (decide_eq_true q42)) (e_leq (m := p.2) (n := max a.2 b.2) rfl rfl) ?_
     refine l_val (v := Value.bool (decide (p.2 ≤ (max a.2 b.2)))) rfl (e_pick_t rfl (decide_eq_true q42) rfl) ?_
     refine l_val (v := Value.bool (decide (p.2 ≤ (max a.2 b.2)))) rfl (e_assign rfl) ?_
     refine l_nil ?_
     refine run_ret (vs := [Value.bool (decide (p.2 ≤ (max a.2 b.2)))]) Try.func46 (.tmp rfl .nil) ?_
     -- return 0
     have e0 : (decide (p.2 ≤ (max a.2 b.2)) : Bool) = (decide (onP a b p)) := by
       first
         | exact (decide_eq_false (by unfold onP boxP; omega)).symm
         | exact (decide_eq_true (by unfold onP boxP; omega)).symm
         | (rw [decide_eq_decide]; unfold onP boxP; omega)
     have C18 : Chg (inl []) _ _ _ _ := (ch2.n).seq ((ch7.n).seq ((ch12.n).seq (hb17.n)))
     replace hbase := hbase.chg C18 (is_nl rfl)
     exact ⟨(congrArg (a₁ := decide (p.2 ≤ (max a.2 b.2))) (fun (z0 : Bool) => Ending.returned (Value.bool z0)) e0), hbase.below⟩
    refine l_skip (want_n rfl rfl rfl (decide_eq_false q42)) ?_
    refine l_skip (want_n rfl rfl rfl (decide_eq_false q42)) ?_
    refine l_skip (want_n rfl rfl rfl (decide_eq_false q42)) ?_
    refine l_skip (want_n rfl rfl rfl (decide_eq_false q42)) ?_
    refine l_skip (want_n rfl rfl rfl (decide_eq_false q42)) ?_
    refine l_skip (want_n rfl rfl rfl (decide_eq_false q42)) ?_
    refine l_skip (want_n rfl rfl rfl (decide_eq_false q42)) ?_
    refine l_skip (want_n rfl rfl rfl (decide_eq_false q42)) ?_
    refine l_val (v := Value.bool false) rfl (e_pick_f rfl (decide_eq_false q42) rfl) ?_
    refine l_val (v := Value.bool false) rfl (e_assign rfl) ?_
    refine l_nil ?_
    refine run_ret (vs := [Value.bool false]) Try.func46 (.tmp rfl .nil) ?_
    -- return 1
    have e0 : (false : Bool) = (decide (onP a b p)) := by
      first
        | exact (decide_eq_false (by unfold onP boxP; omega)).symm
        | exact (decide_eq_true (by unfold onP boxP; omega)).symm
        | (rw [decide_eq_decide]; unfold onP boxP; omega)
    have C19 : Chg (inl []) _ _ _ _ := (ch2.n).seq ((ch7.n).seq ((ch12.n).seq (hb17.n)))
    replace hbase := hbase.chg C19 (is_nl rfl)
    exact ⟨(congrArg (a₁ := false) (fun (z0 : Bool) => Ending.returned (Value.bool z0)) e0), hbase.below⟩
   refine l_skip (want_n rfl rfl rfl (decide_eq_false q32)) ?_
   refine l_skip (want_n rfl rfl rfl (decide_eq_false q32)) ?_
   refine l_skip (want_n rfl rfl rfl (decide_eq_false q32)) ?_
   refine l_skip (want_n rfl rfl rfl (decide_eq_false q32)) ?_
   refine l_skip (want_n rfl rfl rfl (decide_eq_false q32)) ?_
   refine l_skip (want_n rfl rfl rfl (decide_eq_false q32)) ?_
   refine l_skip (want_n rfl rfl rfl (decide_eq_false q32)) ?_
   refine l_skip (want_n rfl rfl rfl (decide_eq_false q32)) ?_
   refine l_val (v := Value.bool false) rfl (e_pick_f rfl (decide_eq_false q32) rfl) ?_
   refine l_val (v := Value.bool false) rfl (e_move rfl) ?_
   refine l_skip (want_n rfl rfl rfl rfl) (l_skip (want_n rfl rfl rfl rfl) (l_skip (want_n rfl rfl rfl rfl) (l_skip (want_n rfl rfl rfl rfl) (l_skip (want_n rfl rfl rfl rfl) (l_skip (want_n rfl rfl rfl rfl) (l_skip (want_n rfl rfl rfl rfl) (l_skip (want_n rfl rfl rfl rfl) ?_)))))))
   refine l_val (v := Value.bool false) rfl (e_pick_f rfl rfl rfl) ?_
   refine l_val (v := Value.bool false) rfl (e_assign rfl) ?_
   refine l_nil ?_
   refine run_ret (vs := [Value.bool false]) Try.func46 (.tmp rfl .nil) ?_
   -- return 2
   have e0 : (false : Bool) = (decide (onP a b p)) := by
     first
       | exact (decide_eq_false (by unfold onP boxP; omega)).symm
       | exact (decide_eq_true (by unfold onP boxP; omega)).symm
       | (rw [decide_eq_decide]; unfold onP boxP; omega)
   have C20 : Chg (inl []) _ _ _ _ := (ch2.n).seq ((ch7.n).seq ((ch12.n).seq (hb17.n)))
   replace hbase := hbase.chg C20 (is_nl rfl)
   exact ⟨(congrArg (a₁ := false) (fun (z0 : Bool) => Ending.returned (Value.bool z0)) e0), hbase.below⟩
  refine l_skip (want_n rfl rfl rfl (decide_eq_false q22)) ?_
  refine l_skip (want_n rfl rfl rfl (decide_eq_false q22)) ?_
  refine l_skip (want_n rfl rfl rfl (decide_eq_false q22)) ?_
  refine l_skip (want_n rfl rfl rfl (decide_eq_false q22)) ?_
  refine l_skip (want_n rfl rfl rfl (decide_eq_false q22)) ?_
  refine l_skip (want_n rfl rfl rfl (decide_eq_false q22)) ?_
  refine l_skip (want_n rfl rfl rfl (decide_eq_false q22)) ?_
  refine l_skip (want_n rfl rfl rfl (decide_eq_false q22)) ?_
  refine l_val (v := Value.bool false) rfl (e_pick_f rfl (decide_eq_false q22) rfl) ?_
  refine l_val (v := Value.bool false) rfl (e_move rfl) ?_
  refine l_skip (want_n rfl rfl rfl rfl) (l_skip (want_n rfl rfl rfl rfl) (l_skip (want_n rfl rfl rfl rfl) (l_skip (want_n rfl rfl rfl rfl) (l_skip (want_n rfl rfl rfl rfl) (l_skip (want_n rfl rfl rfl rfl) (l_skip (want_n rfl rfl rfl rfl) (l_skip (want_n rfl rfl rfl rfl) ?_)))))))
  refine l_val (v := Value.bool false) rfl (e_pick_f rfl rfl rfl) ?_
  refine l_val (v := Value.bool false) rfl (e_move rfl) ?_
  refine l_skip (want_n rfl rfl rfl rfl) (l_skip (want_n rfl rfl rfl rfl) (l_skip (want_n rfl rfl rfl rfl) (l_skip (want_n rfl rfl rfl rfl) (l_skip (want_n rfl rfl rfl rfl) (l_skip (want_n rfl rfl rfl rfl) (l_skip (want_n rfl rfl rfl rfl) (l_skip (want_n rfl rfl rfl rfl) ?_)))))))
  refine l_val (v := Value.bool false) rfl (e_pick_f rfl rfl rfl) ?_
  refine l_val (v := Value.bool false) rfl (e_assign rfl) ?_
  refine l_nil ?_
  refine run_ret (vs := [Value.bool false]) Try.func46 (.tmp rfl .nil) ?_
  -- return 3
  have e0 : (false : Bool) = (decide (onP a b p)) := by
    first
      | exact (decide_eq_false (by unfold onP boxP; omega)).symm
      | exact (decide_eq_true (by unfold onP boxP; omega)).symm
      | (rw [decide_eq_decide]; unfold onP boxP; omega)
  have C21 : Chg (inl []) _ _ _ _ := (ch2.n).seq ((ch7.n).seq ((ch12.n).seq (hb17.n)))
  replace hbase := hbase.chg C21 (is_nl rfl)
  exact ⟨(congrArg (a₁ := false) (fun (z0 : Bool) => Ending.returned (Value.bool z0)) e0), hbase.below⟩
 refine l_skip (want_n rfl rfl rfl (decide_eq_false q12)) ?_
 refine l_skip (want_n rfl rfl rfl (decide_eq_false q12)) ?_
 refine l_skip (want_n rfl rfl rfl (decide_eq_false q12)) ?_
 refine l_skip (want_n rfl rfl rfl (decide_eq_false q12)) ?_
 refine l_skip (want_n rfl rfl rfl (decide_eq_false q12)) ?_
 refine l_skip (want_n rfl rfl rfl (decide_eq_false q12)) ?_
 refine l_skip (want_n rfl rfl rfl (decide_eq_false q12)) ?_
 refine l_skip (want_n rfl rfl rfl (decide_eq_false q12)) ?_
 refine l_val (v := Value.bool false) rfl (e_pick_f rfl (decide_eq_false q12) rfl) ?_
 refine l_val (v := Value.bool false) rfl (e_move rfl) ?_
 refine l_skip (want_n rfl rfl rfl rfl) (l_skip (want_n rfl rfl rfl rfl) (l_skip (want_n rfl rfl rfl rfl) (l_skip (want_n rfl rfl rfl rfl) (l_skip (want_n rfl rfl rfl rfl) (l_skip (want_n rfl rfl rfl rfl) (l_skip (want_n rfl rfl rfl rfl) (l_skip (want_n rfl rfl rfl rfl) ?_)))))))
 refine l_val (v := Value.bool false) rfl (e_pick_f rfl rfl rfl) ?_
 refine l_val (v := Value.bool false) rfl (e_move rfl) ?_
 refine l_skip (want_n rfl rfl rfl rfl) (l_skip (want_n rfl rfl rfl rfl) (l_skip (want_n rfl rfl rfl rfl) (l_skip (want_n rfl rfl rfl rfl) (l_skip (want_n rfl rfl rfl rfl) (l_skip (want_n rfl rfl rfl rfl) (l_skip (want_n rfl rfl rfl rfl) (l_skip (want_n rfl rfl rfl rfl) ?_)))))))
 refine l_val (v := Value.bool false) rfl (e_pick_f rfl rfl rfl) ?_
 refine l_val (v := Value.bool false) rfl (e_move rfl) ?_
 refine l_skip (want_n rfl rfl rfl rfl) (l_skip (want_n rfl rfl rfl rfl) (l_skip (want_n rfl rfl rfl rfl) (l_skip (want_n rfl rfl rfl rfl) (l_skip (want_n rfl rfl rfl rfl) (l_skip (want_n rfl rfl rfl rfl) (l_skip (want_n rfl rfl rfl rfl) (l_skip (want_n rfl rfl rfl rfl) ?_)))))))
 refine l_val (v := Value.bool false) rfl (e_pick_f rfl rfl rfl) ?_
 refine l_val (v := Value.bool false) rfl (e_assign rfl) ?_
 refine l_nil ?_
 refine run_ret (vs := [Value.bool false]) Try.func46 (.tmp rfl .nil) ?_
 -- return 4
 have e0 : (false : Bool) = (decide (onP a b p)) := by
   first
     | exact (decide_eq_false (by unfold onP boxP; omega)).symm
     | exact (decide_eq_true (by unfold onP boxP; omega)).symm
     | (rw [decide_eq_decide]; unfold onP boxP; omega)
 have C22 : Chg (inl []) _ _ _ _ := (ch2.n).seq ((ch7.n).seq ((ch12.n).seq (hb17.n)))
 replace hbase := hbase.chg C22 (is_nl rfl)
 exact ⟨(congrArg (a₁ := false) (fun (z0 : Bool) => Ending.returned (Value.bool z0)) e0), hbase.below⟩

theorem order_ok (w0 : World) (a : (Int) × (Int)) (b : (Int) × (Int)) :
    Calls Try.prog 63 #[Value.agg (List.toArray [Value.int .i64 a.1, Value.int .i64 a.2]), Value.agg (List.toArray [Value.int .i64 b.1, Value.int .i64 b.2])] w0 (fun ee w => ee = .returned (Value.int .i64 (ordP a b)) ∧ Bel w0.heap.size w0 w) := by
 refine calls_of_run Try.func63 rfl (Nat.le_of_ble_eq_true rfl) ?_
 have hbase := Base.start w0
 refine run_seq (run_region rfl (l_op rfl ?_))
 refine o_box c0 (is 1) (1, 0) rfl rfl ?_
 intro g4 w1 b3 ch2 bx5
 replace bx5 : Bx g4 (is 1) w1 b3 [Value.int .i64 a.1, Value.int .i64 a.2] := bx5
 refine l_op rfl ?_
 refine o_box g4 (is 2) (2, 0) rfl rfl ?_
 intro g9 w6 b8 ch7 bx10
 replace bx10 : Bx g9 (is 2) w6 b8 [Value.int .i64 b.1, Value.int .i64 b.2] := bx10
 refine l_val (v := Value.int .i64 0) rfl (e_assign rfl) ?_
 refine l_nil (run_seq ?_)
 refine run_region_h g9 (inl []) mixed_ga ?_
 intro w12 ch11
 refine h_take (v := Value.pointer (some ⟨b3, 0, none⟩)) 0 rfl (by kernel_rfl) (by kernel_rfl) rfl (Chg.refl _ _ _) (fun w' hw' => e_fieldAddr Try.underlying23 rfl rfl rfl rfl) ?_
 replace bx5 := (bx5.chg ch7 (not_no _)).chg ch11 (not_no _)
 refine h_take (v := Value.int .i64 a.1) 1 rfl (by kernel_rfl) (by kernel_rfl) rfl (Chg.refl _ _ _) (fun w' hw' => e_load_bx1 tp3_ga rfl (bx5.chg hw' (is_nl rfl)) rfl) ?_
 refine h_take (v := Value.pointer (some ⟨b8, 0, none⟩)) 2 rfl (by kernel_rfl) (by kernel_rfl) rfl (Chg.refl _ _ _) (fun w' hw' => e_fieldAddr Try.underlying23 rfl rfl rfl rfl) ?_
 replace bx10 := bx10.chg ch11 (not_no _)
 refine h_take (v := Value.int .i64 b.1) 3 rfl (by kernel_rfl) (by kernel_rfl) rfl (Chg.refl _ _ _) (fun w' hw' => e_load_bx1 tp3_ga rfl (bx10.chg hw' (is_nl rfl)) rfl) ?_
 refine h_take (v := Value.pointer (some ⟨b3, 1, none⟩)) 5 rfl (by kernel_rfl) (by kernel_rfl) rfl (Chg.refl _ _ _) (fun w' hw' => e_fieldAddr Try.underlying23 rfl rfl rfl rfl) ?_
 refine h_take (v := Value.int .i64 a.2) 6 rfl (by kernel_rfl) (by kernel_rfl) rfl (Chg.refl _ _ _) (fun w' hw' => e_load_bx1 tp3_ga rfl (bx5.chg hw' (is_nl rfl)) rfl) ?_
 refine h_take (v := Value.pointer (some ⟨b8, 1, none⟩)) 7 rfl (by kernel_rfl) (by kernel_rfl) rfl (Chg.refl _ _ _) (fun w' hw' => e_fieldAddr Try.underlying23 rfl rfl rfl rfl) ?_
 refine h_take (v := Value.int .i64 b.2) 8 rfl (by kernel_rfl) (by kernel_rfl) rfl (Chg.refl _ _ _) (fun w' hw' => e_load_bx1 tp3_ga rfl (bx10.chg hw' (is_nl rfl)) rfl) ?_
 refine h_one 4 rfl (by kernel_rfl) rfl ?_
 refine o_call (v := Value.int .i64 (cmpI a.1 b.1)) (e_call (vals := [Value.int .i64 a.1, Value.int .i64 b.1]) Try.func42 bd42_ga nm42_ga rfl) (Compare_ok w12 a.1 b.1) ?_
 intro w13 hb14
 replace hb14 := chg_below hb14 g9
 have hs15 : Chg (inl []) _ _ _ _ := hb14.n
 refine ⟨hs15.same, ?_⟩
 refine h_one 9 rfl (by kernel_rfl) rfl ?_
 refine o_call (v := Value.int .i64 (cmpI a.2 b.2)) (e_call (vals := [Value.int .i64 a.2, Value.int .i64 b.2]) Try.func42 bd42_ga nm42_ga rfl) (Compare_ok w13 a.2 b.2) ?_
 intro w16 hb17
 replace hb17 := chg_below hb17 g9
 have hs18 := hs15.seq (hb17.n)
 refine ⟨hs18.same, ?_⟩
 refine h_one 10 rfl (by kernel_rfl) rfl ?_
 refine o_buildSlice (α := Int) g9 (is 3) (is 3) (3, 0) rfl [cmpI a.1 b.1, cmpI a.2 b.2] Try.underlying34 tp3_ga (by decide) (by decide) (vs := [(0, Value.int .i64 (cmpI a.1 b.1)), (1, Value.int .i64 (cmpI a.2 b.2))]) rfl rfl (.cons rfl (.cons rfl .nil)) ?_
 intro g19 w20 v21 ch22 o23
 have hs24 := hs18.seq (ch22.n)
 refine ⟨hs24.same, ?_⟩
 refine h_one 11 rfl (by kernel_rfl) rfl ?_
 refine o_call (v := Value.int .i64 (orL ([cmpI a.1 b.1, cmpI a.2 b.2]))) (e_call (vals := [v21]) Try.func41 bd41_ga nm41_ga rfl) (Or_ok w20 ([cmpI a.1 b.1, cmpI a.2 b.2]) v21 (o23.flat).ro) ?_
 intro w25 hb26
 replace hb26 := chg_below hb26 g19
 have hs27 := hs24.seq (hb26.n)
 refine ⟨hs27.same, ?_⟩
 refine h_take (v := Value.int .i64 (orL ([cmpI a.1 b.1, cmpI a.2 b.2]))) 12 rfl (by kernel_rfl) (by kernel_rfl) rfl hs27.same (fun w' hw' => e_assign rfl) ?_
 refine h_nil (by kernel_rfl) ?_
 refine run_ret (vs := [Value.int .i64 (orL ([cmpI a.1 b.1, cmpI a.2 b.2]))]) Try.func63 (.tmp rfl .nil) ?_
 -- return 0
 have e0 : (orL ([cmpI a.1 b.1, cmpI a.2 b.2]) : Int) = (ordP a b) := by
   exact (ordP_orL _ _).symm
 have C28 : Chg (inl []) _ _ _ _ := (ch2.n).seq ((ch7.n).seq ((ch11.n).seq ((hb14.n).seq ((hb17.n).seq ((ch22.n).seq (hb26.n))))))
 replace hbase := hbase.chg C28 (is_nl rfl)
 exact ⟨(congrArg (a₁ := orL ([cmpI a.1 b.1, cmpI a.2 b.2])) (fun (z0 : Int) => Ending.returned (Value.int .i64 z0)) e0), hbase.below⟩

theorem half_ok (w0 : World) (p : (Int) × (Int)) :
    Calls Try.prog 43 #[Value.agg (List.toArray [Value.int .i64 p.1, Value.int .i64 p.2])] w0 (fun ee w => ee = .returned (Value.int .i64 (halfS p)) ∧ Bel w0.heap.size w0 w) := by
 refine calls_of_run Try.func43 rfl (Nat.le_of_ble_eq_true rfl) ?_
 have hbase := Base.start w0
 refine run_seq (run_region rfl (l_op rfl ?_))
 refine o_box c0 (is 1) (1, 0) rfl rfl ?_
 intro g4 w1 b3 ch2 bx5
 replace bx5 : Bx g4 (is 1) w1 b3 [Value.int .i64 p.1, Value.int .i64 p.2] := bx5
 refine l_val (v := Value.int .i64 0) rfl (e_assign rfl) ?_
 refine l_nil (run_seq (run_seq (run_region rfl ?_)))
 refine l_val (v := Value.pointer (some ⟨b3, 0, none⟩)) rfl (e_fieldAddr Try.underlying23 rfl rfl rfl rfl) ?_
 refine l_val (v := Value.int .i64 p.1) rfl (e_load_bx1 tp3_ga rfl bx5 rfl) ?_
 refine l_val (v := Value.bool (decide (0 < p.1))) rfl (e_gtr (m := p.1) (n := 0) rfl rfl) ?_
 refine l_val (v := Value.bool (decide (0 < p.1))) rfl (e_move rfl) ?_
 by_cases q6 : 0 < p.1
 ·
  refine l_skip (want_n rfl rfl rfl (decide_eq_true q6)) ?_
  refine l_skip (want_n rfl rfl rfl (decide_eq_true q6)) ?_
  refine l_skip (want_n rfl rfl rfl (decide_eq_true q6)) ?_
  refine l_skip (want_n rfl rfl rfl (decide_eq_true q6)) ?_
  refine l_skip (want_u rfl rfl rfl) ?_
  refine l_skip (want_u rfl rfl rfl) ?_
  refine l_skip (want_u rfl rfl rfl) ?_
  refine l_skip (want_n rfl rfl rfl (decide_eq_true q6)) ?_
  refine l_val (v := Value.bool true) rfl (e_pick_t rfl (decide_eq_true q6) rfl) ?_
  refine l_nil ?_
  refine run_cond_t rfl rfl ?_
  refine run_seq ?_
  clear bx5
  refine run_region rfl ?_
  refine l_val (v := Value.int .i64 0) rfl (e_assign rfl) ?_
  refine l_nil ?_
  refine run_ret (vs := [Value.int .i64 0]) Try.func43 (.tmp rfl .nil) ?_
  -- return 0
  have e0 : (0 : Int) = (halfS p) := by
    unfold halfS
    first
      | (rw [if_pos (by omega)]; done)
      | (rw [if_neg (by omega)]; done)
  replace hbase := hbase.chg ch2 (not_no _)
  exact ⟨(congrArg (a₁ := 0) (fun (z0 : Int) => Ending.returned (Value.int .i64 z0)) e0), hbase.below⟩
 refine l_val (v := Value.pointer (some ⟨b3, 0, none⟩)) (want_y rfl rfl rfl (decide_eq_false q6)) (e_fieldAddr Try.underlying23 rfl rfl rfl rfl) ?_
 refine l_val (v := Value.int .i64 p.1) (want_y rfl rfl rfl (decide_eq_false q6)) (e_load_bx1 tp3_ga rfl bx5 rfl) ?_
 refine l_val (v := Value.bool (decide (p.1 = 0))) (want_y rfl rfl rfl (decide_eq_false q6)) (e_eql (m := p.1) (n := 0) rfl rfl) ?_
 refine l_val (v := Value.bool (decide (p.1 = 0))) (want_y rfl rfl rfl (decide_eq_false q6)) (e_move rfl) ?_
 by_cases q10 : p.1 = 0
 ·
  refine l_val (v := Value.pointer (some ⟨b3, 1, none⟩)) (want_y rfl rfl rfl (decide_eq_true q10)) (e_fieldAddr Try.underlying23 rfl rfl rfl rfl) ?_
  refine l_val (v := Value.int .i64 p.2) (want_y rfl rfl rfl (decide_eq_true q10)) (e_load_bx1 tp3_ga rfl bx5 rfl) ?_
  refine l_val (v := Value.bool (decide (0 < p.2))) (want_y rfl rfl rfl (decide_eq_true q10)) (e_gtr (m := p.2) (n := 0) rfl rfl) ?_
  refine l_val (v := Value.bool (decide (0 < p.2))) (want_y rfl rfl rfl (decide_eq_false q6)) (e_pick_t rfl (decide_eq_true q10) rfl) ?_
  refine l_val (v := Value.bool (decide (0 < p.2))) rfl (e_pick_f rfl (decide_eq_false q6) rfl) ?_
  refine l_nil ?_
  by_cases p1 : 0 < p.2
  ·
   refine run_cond_t rfl (decide_eq_true p1) ?_
   refine run_seq ?_
   clear bx5
   refine run_region rfl ?_
   refine l_val (v := Value.int .i64 0) rfl (e_assign rfl) ?_
   refine l_nil ?_
   refine run_ret (vs := [Value.int .i64 0]) Try.func43 (.tmp rfl .nil) ?_
   -- return 1
   have e0 : (0 : Int) = (halfS p) := by
     unfold halfS
     first
       | (rw [if_pos (by omega)]; done)
       | (rw [if_neg (by omega)]; done)
   replace hbase := hbase.chg ch2 (not_no _)
   exact ⟨(congrArg (a₁ := 0) (fun (z0 : Int) => Ending.returned (Value.int .i64 z0)) e0), hbase.below⟩
  refine run_cond_f rfl (decide_eq_false p1) ?_
  refine run_skip ?_
  refine run_seq ?_
  clear bx5
  refine run_region rfl ?_
  refine l_val (v := Value.int .i64 1) rfl (e_assign rfl) ?_
  refine l_nil ?_
  refine run_ret (vs := [Value.int .i64 1]) Try.func43 (.tmp rfl .nil) ?_
  -- return 2
  have e0 : (1 : Int) = (halfS p) := by
    unfold halfS
    first
      | (rw [if_pos (by omega)]; done)
      | (rw [if_neg (by omega)]; done)
  replace hbase := hbase.chg ch2 (not_no _)
  exact ⟨(congrArg (a₁ := 1) (fun (z0 : Int) => Ending.returned (Value.int .i64 z0)) e0), hbase.below⟩
 refine l_skip (want_n rfl rfl rfl (decide_eq_false q10)) ?_
 refine l_skip (want_n rfl rfl rfl (decide_eq_false q10)) ?_
 refine l_skip (want_n rfl rfl rfl (decide_eq_false q10)) ?_
 refine l_val (v := Value.bool false) (want_y rfl rfl rfl (decide_eq_false q6)) (e_pick_f rfl (decide_eq_false q10) rfl) ?_
 refine l_val (v := Value.bool false) rfl (e_pick_f rfl (decide_eq_false q6) rfl) ?_
 refine l_nil ?_
 refine run_cond_f rfl rfl ?_
 refine run_skip ?_
 refine run_seq ?_
 clear bx5
 refine run_region rfl ?_
 refine l_val (v := Value.int .i64 1) rfl (e_assign rfl) ?_
 refine l_nil ?_
 refine run_ret (vs := [Value.int .i64 1]) Try.func43 (.tmp rfl .nil) ?_
 -- return 3
 have e0 : (1 : Int) = (halfS p) := by
   unfold halfS
   first
     | (rw [if_pos (by omega)]; done)
     | (rw [if_neg (by omega)]; done)
 replace hbase := hbase.chg ch2 (not_no _)
 exact ⟨(congrArg (a₁ := 1) (fun (z0 : Int) => Ending.returned (Value.int .i64 z0)) e0), hbase.below⟩
end TL
