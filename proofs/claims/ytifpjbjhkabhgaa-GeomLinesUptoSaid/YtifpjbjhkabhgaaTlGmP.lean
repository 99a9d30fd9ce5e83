import Derived.Test.YtifpjbjhkabhgaaTlGmA
import Derived.Test.YtifpjbjhkabhgaaTlGmM
import Derived.Test.YtifpjbjhkabhgaaTlGmR
import Derived.Test.YtifpjbjhkabhgaaTlGeomS
import Derived.Test.YtifpjbjhkabhgaaProg
import Derived.Test.YtifpjbjhkabhgaaTlNet2
import Derived.Test.YtifpjbjhkabhgaaTlEq
import Derived.Test.YtifpjbjhkabhgaaTlHold
import Derived.Test.YtifpjbjhkabhgaaTlDraw
import Derived.Test.YtifpjbjhkabhgaaTlMap
set_option linter.all false
set_option maxRecDepth 20000
namespace TL
open Go Go.Proofs
theorem mixed_gp : Try.prog.follows .mixedOrders = true := by kernel_rfl
theorem tp3_gp : Tp Try.prog 3 false 1 8 (.int .i64 0) := Tp.of (by kernel_rfl)
theorem tp23_gp : Tp Try.prog 23 true 2 16 (.agg #[.int .i64 0, .int .i64 0]) := Tp.of (by kernel_rfl)
theorem tp70_gp : Tp Try.prog 70 true 4 32 (.agg #[.int .i64 0, .int .i64 0, .int .i64 0, .int .i64 0]) := Tp.of (by kernel_rfl)
theorem bd25_gp : Try.f25.body.isNone = false := rfl
theorem nm25_gp : (Try.f25.name == "runtime.NumGoroutine") = false := by decide +kernel
theorem bd36_gp : Try.f36.body.isNone = false := rfl
theorem nm36_gp : (Try.f36.name == "runtime.NumGoroutine") = false := by decide +kernel
theorem bd46_gp : Try.f46.body.isNone = false := rfl
theorem nm46_gp : (Try.f46.name == "runtime.NumGoroutine") = false := by decide +kernel
theorem bd51_gp : Try.f51.body.isNone = false := rfl
theorem nm51_gp : (Try.f51.name == "runtime.NumGoroutine") = false := by decide +kernel
theorem bd52_gp : Try.f52.body.isNone = false := rfl
theorem nm52_gp : (Try.f52.name == "runtime.NumGoroutine") = false := by decide +kernel
theorem bd61_gp : Try.f61.body.isNone = false := rfl
theorem nm61_gp : (Try.f61.name == "runtime.NumGoroutine") = false := by decide +kernel

theorem end_ok (w0 : World) (ps : List ((Int) × (Int))) (ps_v : Value) (hps_v : Ro w0 ps_v ps) (p : (Int) × (Int)) (h0 : 0 < ps.length) :
    Calls Try.prog 61 #[ps_v, Value.agg (List.toArray [Value.int .i64 p.1, Value.int .i64 p.2])] w0 (fun ee w => ee = .returned (Value.bool (decide (endP ps p))) ∧ RowKit.Below w0.heap.size w0 w) := by
 refine calls_of_run Try.func61 rfl (Nat.le_of_ble_eq_true rfl) ?_
 have hbase := Base.start w0
 have r_ps_v := hps_v.sl
 refine run_seq (run_region rfl (l_op rfl ?_))
 refine o_box c0 (is 1) (1, 0) rfl rfl ?_
 intro g4 w1 b3 ch2 bx5
 replace bx5 : Bx g4 (is 1) w1 b3 [Value.int .i64 p.1, Value.int .i64 p.2] := bx5
 refine l_val (v := Value.bool false) rfl (e_assign rfl) ?_
 refine l_nil (run_seq ?_)
 refine region_q g4 rfl mixed_gp (by kernel_rfl) ?_
 intro w7 ch6
 replace bx5 := bx5.chg ch6 (not_no _)
 refine q_val (v := Value.agg (List.toArray [Value.int .i64 p.1, Value.int .i64 p.2])) rfl (fun w' hw' => e_load_bxN (ds := [Value.int .i64 p.1, Value.int .i64 p.2]) tp23_gp rfl (bx5.bel hw') rfl rfl) ?_
 refine q_val (v := ps_v) rfl (fun w' hw' => e_move rfl) ?_
 replace r_ps_v := (r_ps_v.chg ch2 (not_no _)).chg ch6 (not_no _)
 refine q_val (v := Value.pointer (some (eAddr ps_v 2 (Int.toNat 0)))) rfl (fun w' hw' => e_indexAddr (α := (Int) × (Int)) (xs := ps) (v := ps_v) (i := 0) Try.underlying25 rfl rfl (r_ps_v.bel hw') rfl (by omega) (by omega)) ?_
 refine q_val (v := Value.agg (List.toArray [Value.int .i64 ((gI ps 0).1), Value.int .i64 ((gI ps 0).2)])) rfl (fun w' hw' => e_load_elN (α := (Int) × (Int)) (xs := ps) (v := ps_v) (i := 0) tp23_gp rfl (r_ps_v.bel hw') (by omega) (by omega) rfl) ?_
 refine q_val (v := Value.bool (decide (p = (gI ps 0)))) rfl (fun w' hw' => e_eql_struct (bs := [decide (p.1 = ((gI ps 0).1)), decide (p.2 = ((gI ps 0).2))]) Try.underlying23 (by kernel_rfl) (by kernel_rfl) rfl rfl (.cons (by decide +kernel) tp3_gp rfl rfl (.int Try.underlying3) (.cons (by decide +kernel) tp3_gp rfl rfl (.int Try.underlying3) .nil)) (by simp [Prod.ext_iff, Bool.decide_and, Bool.and_assoc])) ?_
 refine q_val (v := Value.bool (decide (p = (gI ps 0)))) rfl (fun w' hw' => e_move rfl) ?_
 by_cases q10 : p = (gI ps 0)
 ·
  refine q_skip (want_n rfl rfl rfl (decide_eq_true q10)) ?_
  refine q_skip (want_n rfl rfl rfl (decide_eq_true q10)) ?_
  refine q_skip (want_n rfl rfl rfl (decide_eq_true q10)) ?_
  refine q_skip (want_n rfl rfl rfl (decide_eq_true q10)) ?_
  refine q_skip (want_n rfl rfl rfl (decide_eq_true q10)) ?_
  refine q_skip (want_n rfl rfl rfl (decide_eq_true q10)) ?_
  refine q_skip (want_n rfl rfl rfl (decide_eq_true q10)) ?_
  refine q_skip (want_n rfl rfl rfl (decide_eq_true q10)) ?_
  refine q_val (v := Value.bool true) rfl (fun w' hw' => e_pick_t rfl (decide_eq_true q10) rfl) ?_
  refine q_val (v := Value.bool true) rfl (fun w' hw' => e_assign rfl) ?_
  refine q_nil ?_
  intro w8 hc9
  replace hc9 := chg_below hc9 g4
  refine run_ret (vs := [Value.bool true]) Try.func61 (.tmp rfl .nil) ?_
  -- return 0
  have e0 : (true : Bool) = (decide (endP ps p)) := by
    first
      | exact (decide_eq_true (.inl (by assumption))).symm
      | (rw [decide_eq_decide]; exact ⟨fun h => .inr h, fun h => h.resolve_left (by assumption)⟩)
  have C10 : Chg (inl []) _ _ _ _ := (ch2.n).seq ((ch6.n).seq (hc9.n))
  replace hbase := hbase.chg C10 (is_nl rfl)
  exact ⟨(congrArg (a₁ := true) (fun (z0 : Bool) => Ending.returned (Value.bool z0)) e0), hbase.below⟩
 refine q_val (v := Value.agg (List.toArray [Value.int .i64 p.1, Value.int .i64 p.2])) (want_y rfl rfl rfl (decide_eq_false q10)) (fun w' hw' => e_load_bxN (ds := [Value.int .i64 p.1, Value.int .i64 p.2]) tp23_gp rfl (bx5.bel hw') rfl rfl) ?_
 refine q_val (v := ps_v) (want_y rfl rfl rfl (decide_eq_false q10)) (fun w' hw' => e_move rfl) ?_
 refine q_val (v := ps_v) (want_y rfl rfl rfl (decide_eq_false q10)) (fun w' hw' => e_move rfl) ?_
 have len11 := (r_ps_v).small
 refine q_val (v := Value.int .i64 (List.length ps : Int)) (want_y rfl rfl rfl (decide_eq_false q10)) (fun w' hw' => e_len Try.underlying25 rfl (r_ps_v.bel hw')) ?_
 refine q_val (v := Value.int .i64 ((List.length ps : Int) - 1)) (want_y rfl rfl rfl (decide_eq_false q10)) (fun w' hw' => e_sub (m := (List.length ps : Int)) (n := 1) rfl rfl (by omega)) ?_
 refine q_val (v := Value.pointer (some (eAddr ps_v 2 (Int.toNat ((List.length ps : Int) - 1))))) (want_y rfl rfl rfl (decide_eq_false q10)) (fun w' hw' => e_indexAddr (α := (Int) × (Int)) (xs := ps) (v := ps_v) (i := (List.length ps : Int) - 1) Try.underlying25 rfl rfl (r_ps_v.bel hw') rfl (by omega) (by omega)) ?_
 refine q_val (v := Value.agg (List.toArray [Value.int .i64 ((gI ps ((List.length ps : Int) - 1)).1), Value.int .i64 ((gI ps ((List.length ps : Int) - 1)).2)])) (want_y rfl rfl rfl (decide_eq_false q10)) (fun w' hw' => e_load_elN (α := (Int) × (Int)) (xs := ps) (v := ps_v) (i := (List.length ps : Int) - 1) tp23_gp rfl (r_ps_v.bel hw') (by omega) (by omega) rfl) ?_
 refine q_val (v := Value.bool (decide (p = (gI ps ((List.length ps : Int) - 1))))) (want_y rfl rfl rfl (decide_eq_false q10)) (fun w' hw' => e_eql_struct (bs := [decide (p.1 = ((gI ps ((List.length ps : Int) - 1)).1)), decide (p.2 = ((gI ps ((List.length ps : Int) - 1)).2))]) Try.underlying23 (by kernel_rfl) (by kernel_rfl) rfl rfl (.cons (by decide +kernel) tp3_gp rfl rfl (.int Try.underlying3) (.cons (by decide +kernel) tp3_gp rfl rfl (.int Try.underlying3) .nil)) (by simp [Prod.ext_iff, Bool.decide_and, Bool.and_assoc])) ?_
 refine q_val (v := Value.bool (decide (p = (gI ps ((List.length ps : Int) - 1))))) rfl (fun w' hw' => e_pick_f rfl (decide_eq_false q10) rfl) ?_
 refine q_val (v := Value.bool (decide (p = (gI ps ((List.length ps : Int) - 1))))) rfl (fun w' hw' => e_assign rfl) ?_
 refine q_nil ?_
 intro w12 hc13
 replace hc13 := chg_below hc13 g4
 refine run_ret (vs := [Value.bool (decide (p = (gI ps ((List.length ps : Int) - 1))))]) Try.func61 (.tmp rfl .nil) ?_
 -- return 1
 have e0 : (decide (p = (gI ps ((List.length ps : Int) - 1))) : Bool) = (decide (endP ps p)) := by
   first
     | exact (decide_eq_true (.inl (by assumption))).symm
     | (rw [decide_eq_decide]; exact ⟨fun h => .inr h, fun h => h.resolve_left (by assumption)⟩)
 have C14 : Chg (inl []) _ _ _ _ := (ch2.n).seq ((ch6.n).seq (hc13.n))
 replace hbase := hbase.chg C14 (is_nl rfl)
 exact ⟨(congrArg (a₁ := decide (p = (gI ps ((List.length ps : Int) - 1)))) (fun (z0 : Bool) => Ending.returned (Value.bool z0)) e0), hbase.below⟩

theorem ends_ok (w0 : World) (p : List ((Int) × (Int))) (p_v : Value) (hp_v : Ro w0 p_v p) (q : List ((Int) × (Int))) (q_v : Value) (hq_v : Ro w0 q_v q) (s : ((Int) × (Int)) × ((Int) × (Int))) (t : ((Int) × (Int)) × ((Int) × (Int))) (hp0 : 0 < p.length) (hq0 : 0 < q.length) (hp : okL p) (hs : bdP s.1 ∧ bdP s.2) (ht : bdP t.1 ∧ bdP t.2) :
    Calls Try.prog 52 #[p_v, q_v, Value.agg (List.toArray [Value.int .i64 s.1.1, Value.int .i64 s.1.2, Value.int .i64 s.2.1, Value.int .i64 s.2.2]), Value.agg (List.toArray [Value.int .i64 t.1.1, Value.int .i64 t.1.2, Value.int .i64 t.2.1, Value.int .i64 t.2.2])] w0 (fun ee w => ee = .returned (Value.bool (decide (endsP p q s t))) ∧ RowKit.Below w0.heap.size w0 w) := by
 refine calls_of_run Try.func52 rfl (Nat.le_of_ble_eq_true rfl) ?_
 have hbase := Base.start w0
 have r_p_v := hp_v.sl
 have r_q_v := hq_v.sl
 obtain ⟨hs1, hs2⟩ := hs
 obtain ⟨ht1, ht2⟩ := ht
 have hb0 := (hp.2 _ (gI_mem (xs := p) (i := 0) (by omega) (by omega))).bd
 have hbl := (hp.2 _ (gI_mem (xs := p) (i := (p.length : Int) - 1) (by omega) (by omega))).bd
 refine run_seq (run_region rfl (l_op rfl ?_))
 refine o_box c0 (is 1) (1, 0) rfl rfl ?_
 intro g4 w1 b3 ch2 bx5
 replace bx5 : Bx g4 (is 1) w1 b3 [Value.int .i64 s.1.1, Value.int .i64 s.1.2, Value.int .i64 s.2.1, Value.int .i64 s.2.2] := bx5
 refine l_op rfl ?_
 refine o_box g4 (is 2) (2, 0) rfl rfl ?_
 intro g9 w6 b8 ch7 bx10
 replace bx10 : Bx g9 (is 2) w6 b8 [Value.int .i64 t.1.1, Value.int .i64 t.1.2, Value.int .i64 t.2.1, Value.int .i64 t.2.2] := bx10
 refine l_val (v := Value.bool false) rfl (e_assign rfl) ?_
 refine l_nil (run_seq (run_seq ?_))
 refine run_region_x g9 [0, 1, 2, 3, 4, 5, 6, 7, 8, 10, 11] mixed_gp ?_
 intro w12 ch11
 refine x_pure (v := p_v) 0 rfl (by kernel_rfl) (by kernel_rfl) rfl (fun w => e_move rfl) ?_
 have C13 : Chg (inl []) _ _ _ _ := (ch2.n).seq ((ch7.n).seq (ch11.n))
 replace r_p_v := r_p_v.chg C13 (is_nl rfl)
 refine x_val (v := Value.pointer (some (eAddr p_v 2 (Int.toNat 0)))) 1 [0, 3, 4, 11, 5, 6, 7, 8] rfl (by kernel_rfl) (by kernel_rfl) rfl (e_indexAddr (α := (Int) × (Int)) (xs := p) (v := p_v) (i := 0) Try.underlying25 rfl rfl r_p_v rfl (by omega) (by omega)) ?_
 refine x_val (v := Value.agg (List.toArray [Value.int .i64 ((gI p 0).1), Value.int .i64 ((gI p 0).2)])) 2 [1, 0, 3, 4, 11, 5, 6, 7, 8] rfl (by kernel_rfl) (by kernel_rfl) rfl (e_load_elN (α := (Int) × (Int)) (xs := p) (v := p_v) (i := 0) tp23_gp rfl r_p_v (by omega) (by omega) rfl) ?_
 refine x_pure (v := p_v) 3 rfl (by kernel_rfl) (by kernel_rfl) rfl (fun w => e_move rfl) ?_
 refine x_pure (v := p_v) 4 rfl (by kernel_rfl) (by kernel_rfl) rfl (fun w => e_move rfl) ?_
 have len14 := (r_p_v).small
 refine x_pure (v := Value.int .i64 (List.length p : Int)) 5 rfl (by kernel_rfl) (by kernel_rfl) rfl (fun w => e_len Try.underlying25 rfl r_p_v) ?_
 refine x_pure (v := Value.int .i64 ((List.length p : Int) - 1)) 6 rfl (by kernel_rfl) (by kernel_rfl) rfl (fun w => e_sub (m := (List.length p : Int)) (n := 1) rfl rfl (by omega)) ?_
 refine x_val (v := Value.pointer (some (eAddr p_v 2 (Int.toNat ((List.length p : Int) - 1))))) 7 [6, 5, 4, 3, 2, 1, 0, 11] rfl (by kernel_rfl) (by kernel_rfl) rfl (e_indexAddr (α := (Int) × (Int)) (xs := p) (v := p_v) (i := (List.length p : Int) - 1) Try.underlying25 rfl rfl r_p_v rfl (by omega) (by omega)) ?_
 refine x_val (v := Value.agg (List.toArray [Value.int .i64 ((gI p ((List.length p : Int) - 1)).1), Value.int .i64 ((gI p ((List.length p : Int) - 1)).2)])) 8 [7, 6, 5, 4, 3, 2, 1, 0, 11] rfl (by kernel_rfl) (by kernel_rfl) rfl (e_load_elN (α := (Int) × (Int)) (xs := p) (v := p_v) (i := (List.length p : Int) - 1) tp23_gp rfl r_p_v (by omega) (by omega) rfl) ?_
 refine x_pure (v := Value.int .i64 0) 11 rfl (by kernel_rfl) (by kernel_rfl) rfl (fun w => e_move rfl) ?_
 refine x_one 9 rfl (by kernel_rfl) rfl ?_
 refine o_buildSlice (α := (Int) × (Int)) g9 (is 3) (is 3) (3, 0) rfl ([(gI p 0), (gI p ((List.length p : Int) - 1))] : List ((Int) × (Int))) Try.underlying25 tp23_gp (by decide) (by decide) (vs := [(0, Value.agg (List.toArray [Value.int .i64 ((gI p 0).1), Value.int .i64 ((gI p 0).2)])), (1, Value.agg (List.toArray [Value.int .i64 ((gI p ((List.length p : Int) - 1)).1), Value.int .i64 ((gI p ((List.length p : Int) - 1)).2)]))]) rfl rfl (.cons rfl (.cons rfl .nil)) ?_
 intro g15 w16 v17 ch18 o19
 have len20 := (o19.flat).small
 refine x_pure (v := Value.int .i64 2) 10 rfl (by kernel_rfl) (by kernel_rfl) rfl (fun w => e_len (α := (Int) × (Int)) (xs := ([(gI p 0), (gI p ((List.length p : Int) - 1))] : List ((Int) × (Int)))) Try.underlying25 rfl o19.flat) ?_
 refine x_nil (by kernel_rfl) ?_
 refine run_block ?_
 refine run_loop (σ := Nat × Cmap) (fun ⟨i, gq⟩ f w => Base w0 gq w ∧ f 1 = q_v ∧ f 6 = Value.pointer (some ⟨b3, 0, none⟩) ∧ f 7 = Value.pointer (some ⟨b8, 0, none⟩) ∧ f 20 = v17 ∧ f 21 = Value.int .i64 2 ∧ f 22 = Value.int .i64 (i : Int) ∧ Sl gq (is 0) w p_v p ∧ Sl gq (is 0) w q_v q ∧ Bx gq (is 1) w b3 [Value.int .i64 s.1.1, Value.int .i64 s.1.2, Value.int .i64 s.2.1, Value.int .i64 s.2.2] ∧ Bx gq (is 2) w b8 [Value.int .i64 t.1.1, Value.int .i64 t.1.2, Value.int .i64 t.2.1, Value.int .i64 t.2.2] ∧ Ow gq (is 3) (is 3) w v17 ([(gI p 0), (gI p ((List.length p : Int) - 1))] : List ((Int) × (Int))) ∧ (i : Int) ≤ (2 : Int) ∧ (∀ j : Nat, j < i → ¬ endX q s t (gI [gI p 0, gI p ((p.length : Int) - 1)] (j : Int)))) (fun ⟨i, gq⟩ => 2 - i) (0, g15) ?_ ?_
 have C21 : Chg (inl []) _ _ _ _ := (ch2.n).seq ((ch7.n).seq ((ch11.n).seq (ch18.n)))
 replace hbase := hbase.chg C21 (is_nl rfl)
 replace r_p_v := r_p_v.chg ch18 (not_no _)
 replace r_q_v := r_q_v.chg C21 (is_nl rfl)
 have C22 : Chg (inl []) _ _ _ _ := (ch7.n).seq ((ch11.n).seq (ch18.n))
 replace bx5 := bx5.chg C22 (is_nl rfl)
 replace bx10 := (bx10.chg ch11 (not_no _)).chg ch18 (not_no _)
 · exact ⟨hbase, rfl, rfl, rfl, rfl, rfl, rfl, r_p_v, r_q_v, bx5, bx10, o19, by omega, by intro j hj; omega⟩
 clear r_p_v
 clear r_q_v
 clear bx5
 clear bx10
 clear o19
 clear hbase
 rintro ⟨i, g25⟩ f23 w24 ⟨hbase, zs1, zs6, zs7, zs20, zs21, zs22, r_p_v, r_q_v, bx5, bx10, o19, hle_i, hinv⟩ back2
 refine run_seq (run_region rfl ?_)
 refine l_val (v := Value.bool (decide ((i : Int) < 2))) rfl (e_lss (m := (i : Int)) (n := 2) (by exact zs22) (by exact zs21)) ?_
 refine l_nil (run_seq ?_)
 by_cases p2 : (i : Int) < 2
 ·
  refine run_cond_t rfl (decide_eq_true p2) ?_
  have hbi := two_bd hp hp0 (i := i) (by assumption)
  refine run_skip ?_
  refine run_seq ?_
  refine run_block ?_
  refine run_seq (run_region rfl ?_)
  refine l_val (v := Value.pointer (some (eAddr v17 2 (Int.toNat (i : Int))))) rfl (e_indexAddr (α := (Int) × (Int)) (xs := ([(gI p 0), (gI p ((List.length p : Int) - 1))] : List ((Int) × (Int)))) (v := v17) (i := (i : Int)) Try.underlying25 rfl (by exact zs20) o19.flat (by exact zs22) (by omega) (by first | omega | (simp only [List.length_set, List.length_append, List.length_cons, List.length_nil, List.length_replicate, List.length_map, List.length_take, List.length_drop]; omega) | (simp; done) | (simp; omega))) ?_
  refine l_val (v := Value.agg (List.toArray [Value.int .i64 ((gI ([(gI p 0), (gI p ((List.length p : Int) - 1))] : List ((Int) × (Int))) (i : Int)).1), Value.int .i64 ((gI ([(gI p 0), (gI p ((List.length p : Int) - 1))] : List ((Int) × (Int))) (i : Int)).2)])) rfl (e_load_elN (α := (Int) × (Int)) (xs := ([(gI p 0), (gI p ((List.length p : Int) - 1))] : List ((Int) × (Int)))) (v := v17) (i := (i : Int)) tp23_gp rfl o19.flat (by omega) (by first | omega | (simp only [List.length_set, List.length_append, List.length_cons, List.length_nil, List.length_replicate, List.length_map, List.length_take, List.length_drop]; omega) | (simp; done) | (simp; omega)) rfl) ?_
  refine l_op rfl ?_
  refine o_alloc g25 (is 4) (4, 0) rfl tp23_gp ?_
  intro g29 w26 b28 ch27 bx30
  replace bx30 : Bx g29 (is 4) w26 b28 [Value.int .i64 0, Value.int .i64 0] := bx30
  refine l_op rfl ?_
  refine o_store_bx (cs' := [Value.int .i64 ((gI ([(gI p 0), (gI p ((List.length p : Int) - 1))] : List ((Int) × (Int))) (i : Int)).1), Value.int .i64 ((gI ([(gI p 0), (gI p ((List.length p : Int) - 1))] : List ((Int) × (Int))) (i : Int)).2)]) tp23_gp rfl rfl bx30 rfl (Nat.le_of_ble_eq_true rfl) (AllOne.all (.cons rfl (.cons rfl .nil))) rfl ?_
  intro w31 ch32 bx33
  clear bx30
  refine l_nil (run_seq (run_region rfl ?_))
  refine l_val (v := q_v) rfl (e_move (by exact zs1)) ?_
  refine l_val (v := Value.agg (List.toArray [Value.int .i64 ((gI ([(gI p 0), (gI p ((List.length p : Int) - 1))] : List ((Int) × (Int))) (i : Int)).1), Value.int .i64 ((gI ([(gI p 0), (gI p ((List.length p : Int) - 1))] : List ((Int) × (Int))) (i : Int)).2)])) rfl (e_load_bxN (ds := [Value.int .i64 ((gI ([(gI p 0), (gI p ((List.length p : Int) - 1))] : List ((Int) × (Int))) (i : Int)).1), Value.int .i64 ((gI ([(gI p 0), (gI p ((List.length p : Int) - 1))] : List ((Int) × (Int))) (i : Int)).2)]) tp23_gp rfl bx33 rfl rfl) ?_
  replace r_q_v := (r_q_v.chg ch27 (not_no _)).chg ch32 (is_ne rfl)
  refine l_op rfl ?_
  refine o_call (v := Value.bool (decide (endP q (gI ([(gI p 0), (gI p ((List.length p : Int) - 1))] : List ((Int) × (Int))) (i : Int))))) (e_call (vals := [q_v, Value.agg (List.toArray [Value.int .i64 ((gI ([(gI p 0), (gI p ((List.length p : Int) - 1))] : List ((Int) × (Int))) (i : Int)).1), Value.int .i64 ((gI ([(gI p 0), (gI p ((List.length p : Int) - 1))] : List ((Int) × (Int))) (i : Int)).2)])]) Try.func61 bd61_gp nm61_gp rfl) (end_ok w31 q q_v (r_q_v).ro (gI ([(gI p 0), (gI p ((List.length p : Int) - 1))] : List ((Int) × (Int))) (i : Int)) (by assumption)) ?_
  intro w34 hb35
  replace hb35 := chg_below hb35 g29
  refine l_val (v := Value.bool (decide (endP q (gI ([(gI p 0), (gI p ((List.length p : Int) - 1))] : List ((Int) × (Int))) (i : Int))))) rfl (e_move rfl) ?_
  by_cases q29 : (decide (endP q (gI ([(gI p 0), (gI p ((List.length p : Int) - 1))] : List ((Int) × (Int))) (i : Int)))) = true
  ·
   refine l_val (v := Value.pointer (some ⟨b3, 0, none⟩)) (want_y rfl rfl rfl q29) (e_indexAddr_arr Try.underlying70 rfl (by exact zs6) rfl (by decide) (by decide) rfl) ?_
   have C36 : Chg (inl [4]) _ _ _ _ := (ch27.n).seq ((ch32.l rfl).seq (hb35.n))
   replace bx5 := bx5.chg C36 (is_nl rfl)
   refine l_val (v := Value.agg (List.toArray [Value.int .i64 s.1.1, Value.int .i64 s.1.2])) (want_y rfl rfl rfl q29) (e_load_bxN (ds := [Value.int .i64 s.1.1, Value.int .i64 s.1.2]) tp23_gp rfl bx5 rfl rfl) ?_
   refine l_val (v := Value.pointer (some ⟨b3, 2, none⟩)) (want_y rfl rfl rfl q29) (e_indexAddr_arr Try.underlying70 rfl (by exact zs6) rfl (by decide) (by decide) rfl) ?_
   refine l_val (v := Value.agg (List.toArray [Value.int .i64 s.2.1, Value.int .i64 s.2.2])) (want_y rfl rfl rfl q29) (e_load_bxN (ds := [Value.int .i64 s.2.1, Value.int .i64 s.2.2]) tp23_gp rfl bx5 rfl rfl) ?_
   replace bx33 := bx33.chg hb35 (not_no _)
   refine l_val (v := Value.agg (List.toArray [Value.int .i64 ((gI ([(gI p 0), (gI p ((List.length p : Int) - 1))] : List ((Int) × (Int))) (i : Int)).1), Value.int .i64 ((gI ([(gI p 0), (gI p ((List.length p : Int) - 1))] : List ((Int) × (Int))) (i : Int)).2)])) (want_y rfl rfl rfl q29) (e_load_bxN (ds := [Value.int .i64 ((gI ([(gI p 0), (gI p ((List.length p : Int) - 1))] : List ((Int) × (Int))) (i : Int)).1), Value.int .i64 ((gI ([(gI p 0), (gI p ((List.length p : Int) - 1))] : List ((Int) × (Int))) (i : Int)).2)]) tp23_gp rfl bx33 rfl rfl) ?_
   refine l_op (want_y rfl rfl rfl q29) ?_
   refine o_call (v := Value.bool (decide (onP s.1 s.2 (gI ([(gI p 0), (gI p ((List.length p : Int) - 1))] : List ((Int) × (Int))) (i : Int))))) (e_call (vals := [Value.agg (List.toArray [Value.int .i64 s.1.1, Value.int .i64 s.1.2]), Value.agg (List.toArray [Value.int .i64 s.2.1, Value.int .i64 s.2.2]), Value.agg (List.toArray [Value.int .i64 ((gI ([(gI p 0), (gI p ((List.length p : Int) - 1))] : List ((Int) × (Int))) (i : Int)).1), Value.int .i64 ((gI ([(gI p 0), (gI p ((List.length p : Int) - 1))] : List ((Int) × (Int))) (i : Int)).2)])]) Try.func46 bd46_gp nm46_gp rfl) (on_ok w34 s.1 s.2 (gI ([(gI p 0), (gI p ((List.length p : Int) - 1))] : List ((Int) × (Int))) (i : Int)) (by assumption) (by assumption) (by assumption)) ?_
   intro w37 hb38
   replace hb38 := chg_below hb38 g29
   refine l_val (v := Value.bool (decide (onP s.1 s.2 (gI ([(gI p 0), (gI p ((List.length p : Int) - 1))] : List ((Int) × (Int))) (i : Int))))) rfl (e_pick_t rfl q29 rfl) ?_
   refine l_val (v := Value.bool (decide (onP s.1 s.2 (gI ([(gI p 0), (gI p ((List.length p : Int) - 1))] : List ((Int) × (Int))) (i : Int))))) rfl (e_move rfl) ?_
   by_cases q37 : (decide (onP s.1 s.2 (gI ([(gI p 0), (gI p ((List.length p : Int) - 1))] : List ((Int) × (Int))) (i : Int)))) = true
   ·
    refine l_val (v := Value.pointer (some ⟨b8, 0, none⟩)) (want_y rfl rfl rfl q37) (e_indexAddr_arr Try.underlying70 rfl (by exact zs7) rfl (by decide) (by decide) rfl) ?_
    have C39 : Chg (inl [4]) _ _ _ _ := (ch27.n).seq ((ch32.l rfl).seq ((hb35.n).seq (hb38.n)))
    replace bx10 := bx10.chg C39 (is_nl rfl)
    refine l_val (v := Value.agg (List.toArray [Value.int .i64 t.1.1, Value.int .i64 t.1.2])) (want_y rfl rfl rfl q37) (e_load_bxN (ds := [Value.int .i64 t.1.1, Value.int .i64 t.1.2]) tp23_gp rfl bx10 rfl rfl) ?_
    refine l_val (v := Value.pointer (some ⟨b8, 2, none⟩)) (want_y rfl rfl rfl q37) (e_indexAddr_arr Try.underlying70 rfl (by exact zs7) rfl (by decide) (by decide) rfl) ?_
    refine l_val (v := Value.agg (List.toArray [Value.int .i64 t.2.1, Value.int .i64 t.2.2])) (want_y rfl rfl rfl q37) (e_load_bxN (ds := [Value.int .i64 t.2.1, Value.int .i64 t.2.2]) tp23_gp rfl bx10 rfl rfl) ?_
    replace bx33 := bx33.chg hb38 (not_no _)
    refine l_val (v := Value.agg (List.toArray [Value.int .i64 ((gI ([(gI p 0), (gI p ((List.length p : Int) - 1))] : List ((Int) × (Int))) (i : Int)).1), Value.int .i64 ((gI ([(gI p 0), (gI p ((List.length p : Int) - 1))] : List ((Int) × (Int))) (i : Int)).2)])) (want_y rfl rfl rfl q37) (e_load_bxN (ds := [Value.int .i64 ((gI ([(gI p 0), (gI p ((List.length p : Int) - 1))] : List ((Int) × (Int))) (i : Int)).1), Value.int .i64 ((gI ([(gI p 0), (gI p ((List.length p : Int) - 1))] : List ((Int) × (Int))) (i : Int)).2)]) tp23_gp rfl bx33 rfl rfl) ?_
    refine l_op (want_y rfl rfl rfl q37) ?_
    refine o_call (v := Value.bool (decide (onP t.1 t.2 (gI ([(gI p 0), (gI p ((List.length p : Int) - 1))] : List ((Int) × (Int))) (i : Int))))) (e_call (vals := [Value.agg (List.toArray [Value.int .i64 t.1.1, Value.int .i64 t.1.2]), Value.agg (List.toArray [Value.int .i64 t.2.1, Value.int .i64 t.2.2]), Value.agg (List.toArray [Value.int .i64 ((gI ([(gI p 0), (gI p ((List.length p : Int) - 1))] : List ((Int) × (Int))) (i : Int)).1), Value.int .i64 ((gI ([(gI p 0), (gI p ((List.length p : Int) - 1))] : List ((Int) × (Int))) (i : Int)).2)])]) Try.func46 bd46_gp nm46_gp rfl) (on_ok w37 t.1 t.2 (gI ([(gI p 0), (gI p ((List.length p : Int) - 1))] : List ((Int) × (Int))) (i : Int)) (by assumption) (by assumption) (by assumption)) ?_
    intro w40 hb41
    replace hb41 := chg_below hb41 g29
    refine l_val (v := Value.bool (decide (onP t.1 t.2 (gI ([(gI p 0), (gI p ((List.length p : Int) - 1))] : List ((Int) × (Int))) (i : Int))))) rfl (e_pick_t rfl q37 rfl) ?_
    refine l_nil ?_
    by_cases p4 : (decide (onP t.1 t.2 (gI ([(gI p 0), (gI p ((List.length p : Int) - 1))] : List ((Int) × (Int))) (i : Int)))) = true
    ·
     refine run_cond_t rfl p4 ?_
     refine run_seq ?_
     clear bx5
     clear bx10
     clear o19
     clear bx33
     refine run_region rfl ?_
     refine l_val (v := Value.bool true) rfl (e_assign rfl) ?_
     refine l_nil ?_
     refine run_ret (vs := [Value.bool true]) Try.func52 (.tmp rfl .nil) ?_
     -- return 0
     have e0 : (true : Bool) = (decide (endsP p q s t)) := by
       first
         | exact ends2_yes (i := i) (by assumption) (by assumption) (by assumption) (by assumption)
         | exact ends2_no hinv (by assumption)
     have C42 : Chg (inl [4]) _ _ _ _ := (ch27.n).seq ((ch32.l rfl).seq ((hb35.n).seq ((hb38.n).seq (hb41.n))))
     replace hbase := hbase.chg C42 (is_nl rfl)
     exact ⟨(congrArg (a₁ := true) (fun (z0 : Bool) => Ending.returned (Value.bool z0)) e0), hbase.below⟩
    refine run_cond_f rfl (Bool.eq_false_iff.2 p4) ?_
    refine run_skip ?_
    refine run_inBlock ?_
    clear bx33
    refine run_region rfl ?_
    refine l_val (v := Value.int .i64 ((i : Int) + 1)) rfl (e_add (m := (i : Int)) (n := 1) (by exact zs22) rfl (by omega)) ?_
    refine l_val (v := Value.int .i64 ((i : Int) + 1)) rfl (e_move rfl) ?_
    refine l_nil ?_
    have C43 : Chg (inl [4]) _ _ _ _ := (ch27.n).seq ((ch32.l rfl).seq ((hb35.n).seq ((hb38.n).seq (hb41.n))))
    replace hbase := hbase.chg C43 (is_nl rfl)
    replace r_p_v := r_p_v.chg C43 (is_nl rfl)
    have C44 : Chg (inl []) _ _ _ _ := (hb35.n).seq ((hb38.n).seq (hb41.n))
    replace r_q_v := r_q_v.chg C44 (is_nl rfl)
    replace bx5 := (bx5.chg hb38 (not_no _)).chg hb41 (not_no _)
    replace bx10 := bx10.chg hb41 (not_no _)
    replace o19 := o19.chg C43 (is_nl rfl) (is_nl rfl)
    refine back2 (i + 1, g29) _ _ ⟨hbase, (by exact zs1), (by exact zs6), (by exact zs7), (by exact zs20), (by exact zs21), rfl, r_p_v, r_q_v, bx5, bx10, o19, by omega, ?_⟩ ?_
    · show ∀ j : Nat, j < (i + 1) → ¬ endX q s t (gI [gI p 0, gI p ((p.length : Int) - 1)] (j : Int))
      intro j hj
      by_cases e0 : j = i
      · subst e0
        rintro ⟨h1, h2, h3⟩
        first | exact absurd (decide_eq_true h1) (by assumption) | exact absurd (decide_eq_true h2) (by assumption) | exact absurd (decide_eq_true h3) (by assumption)
      · exact hinv j (by omega)
    · show 2 - (i + 1) < 2 - i
      omega
   refine l_skip (want_n rfl rfl rfl (Bool.eq_false_iff.2 q37)) ?_
   refine l_skip (want_n rfl rfl rfl (Bool.eq_false_iff.2 q37)) ?_
   refine l_skip (want_n rfl rfl rfl (Bool.eq_false_iff.2 q37)) ?_
   refine l_skip (want_n rfl rfl rfl (Bool.eq_false_iff.2 q37)) ?_
   refine l_skip (want_n rfl rfl rfl (Bool.eq_false_iff.2 q37)) ?_
   refine l_skip (want_n rfl rfl rfl (Bool.eq_false_iff.2 q37)) ?_
   refine l_val (v := Value.bool false) rfl (e_pick_f rfl (Bool.eq_false_iff.2 q37) rfl) ?_
   refine l_nil ?_
   refine run_cond_f rfl rfl ?_
   refine run_skip ?_
   refine run_inBlock ?_
   clear bx33
   refine run_region rfl ?_
   refine l_val (v := Value.int .i64 ((i : Int) + 1)) rfl (e_add (m := (i : Int)) (n := 1) (by exact zs22) rfl (by omega)) ?_
   refine l_val (v := Value.int .i64 ((i : Int) + 1)) rfl (e_move rfl) ?_
   refine l_nil ?_
   have C45 : Chg (inl [4]) _ _ _ _ := (ch27.n).seq ((ch32.l rfl).seq ((hb35.n).seq (hb38.n)))
   replace hbase := hbase.chg C45 (is_nl rfl)
   replace r_p_v := r_p_v.chg C45 (is_nl rfl)
   replace r_q_v := (r_q_v.chg hb35 (not_no _)).chg hb38 (not_no _)
   replace bx5 := bx5.chg hb38 (not_no _)
   replace bx10 := bx10.chg C45 (is_nl rfl)
   replace o19 := o19.chg C45 (is_nl rfl) (is_nl rfl)
   refine back2 (i + 1, g29) _ _ ⟨hbase, (by exact zs1), (by exact zs6), (by exact zs7), (by exact zs20), (by exact zs21), rfl, r_p_v, r_q_v, bx5, bx10, o19, by omega, ?_⟩ ?_
   · show ∀ j : Nat, j < (i + 1) → ¬ endX q s t (gI [gI p 0, gI p ((p.length : Int) - 1)] (j : Int))
     intro j hj
     by_cases e0 : j = i
     · subst e0
       rintro ⟨h1, h2, h3⟩
       first | exact absurd (decide_eq_true h1) (by assumption) | exact absurd (decide_eq_true h2) (by assumption) | exact absurd (decide_eq_true h3) (by assumption)
     · exact hinv j (by omega)
   · show 2 - (i + 1) < 2 - i
     omega
  refine l_skip (want_n rfl rfl rfl (Bool.eq_false_iff.2 q29)) ?_
  refine l_skip (want_n rfl rfl rfl (Bool.eq_false_iff.2 q29)) ?_
  refine l_skip (want_n rfl rfl rfl (Bool.eq_false_iff.2 q29)) ?_
  refine l_skip (want_n rfl rfl rfl (Bool.eq_false_iff.2 q29)) ?_
  refine l_skip (want_n rfl rfl rfl (Bool.eq_false_iff.2 q29)) ?_
  refine l_skip (want_n rfl rfl rfl (Bool.eq_false_iff.2 q29)) ?_
  refine l_val (v := Value.bool false) rfl (e_pick_f rfl (Bool.eq_false_iff.2 q29) rfl) ?_
  refine l_val (v := Value.bool false) rfl (e_move rfl) ?_
  refine l_skip (want_n rfl rfl rfl rfl) (l_skip (want_n rfl rfl rfl rfl) (l_skip (want_n rfl rfl rfl rfl) (l_skip (want_n rfl rfl rfl rfl) (l_skip (want_n rfl rfl rfl rfl) (l_skip (want_n rfl rfl rfl rfl) ?_)))))
  refine l_val (v := Value.bool false) rfl (e_pick_f rfl rfl rfl) ?_
  refine l_nil ?_
  refine run_cond_f rfl rfl ?_
  refine run_skip ?_
  refine run_inBlock ?_
  clear bx33
  refine run_region rfl ?_
  refine l_val (v := Value.int .i64 ((i : Int) + 1)) rfl (e_add (m := (i : Int)) (n := 1) (by exact zs22) rfl (by omega)) ?_
  refine l_val (v := Value.int .i64 ((i : Int) + 1)) rfl (e_move rfl) ?_
  refine l_nil ?_
  have C46 : Chg (inl [4]) _ _ _ _ := (ch27.n).seq ((ch32.l rfl).seq (hb35.n))
  replace hbase := hbase.chg C46 (is_nl rfl)
  replace r_p_v := r_p_v.chg C46 (is_nl rfl)
  replace r_q_v := r_q_v.chg hb35 (not_no _)
  replace bx5 := bx5.chg C46 (is_nl rfl)
  replace bx10 := bx10.chg C46 (is_nl rfl)
  replace o19 := o19.chg C46 (is_nl rfl) (is_nl rfl)
  refine back2 (i + 1, g29) _ _ ⟨hbase, (by exact zs1), (by exact zs6), (by exact zs7), (by exact zs20), (by exact zs21), rfl, r_p_v, r_q_v, bx5, bx10, o19, by omega, ?_⟩ ?_
  · show ∀ j : Nat, j < (i + 1) → ¬ endX q s t (gI [gI p 0, gI p ((p.length : Int) - 1)] (j : Int))
    intro j hj
    by_cases e0 : j = i
    · subst e0
      rintro ⟨h1, h2, h3⟩
      first | exact absurd (decide_eq_true h1) (by assumption) | exact absurd (decide_eq_true h2) (by assumption) | exact absurd (decide_eq_true h3) (by assumption)
    · exact hinv j (by omega)
  · show 2 - (i + 1) < 2 - i
    omega
 refine run_cond_f rfl (decide_eq_false p2) ?_
 refine run_exit rfl ?_
 refine run_seq ?_
 clear bx5
 clear bx10
 clear o19
 refine run_region rfl ?_
 refine l_val (v := Value.bool false) rfl (e_assign rfl) ?_
 refine l_nil ?_
 refine run_ret (vs := [Value.bool false]) Try.func52 (.tmp rfl .nil) ?_
 -- return 1
 have e0 : (false : Bool) = (decide (endsP p q s t)) := by
   first
     | exact ends2_yes (i := i) (by assumption) (by assumption) (by assumption) (by assumption)
     | exact ends2_no hinv (by assumption)
 exact ⟨(congrArg (a₁ := false) (fun (z0 : Bool) => Ending.returned (Value.bool z0)) e0), hbase.below⟩

theorem segments_ok (w0 : World) (ps : List ((Int) × (Int))) (ps_v : Value) (hps_v : Ro w0 ps_v ps) (h0 : 0 < ps.length) (hlen : ps.length ≤ 4096) :
    Calls Try.prog 51 #[ps_v] w0 (fun ee w => ∃ xx : Cmap × Value, ee = .returned ((fun ⟨δ, rv0⟩ => rv0) xx) ∧ (fun (⟨δ, rv0⟩ : Cmap × Value) (w : World) => Fresh w0 δ w ∧ Ow δ (is 1) (is 1) w rv0 (segS ps)) xx w) := by
 refine calls_of_run Try.func51 rfl (Nat.le_of_ble_eq_true rfl) ?_
 have hbase := Base.start w0
 have r_ps_v := hps_v.sl
 refine run_seq (run_region rfl ?_)
 refine l_val (v := Value.slice none 0 0) rfl (e_assign rfl) ?_
 refine l_nil (run_seq (run_seq (run_region rfl ?_)))
 refine l_val (v := ps_v) rfl (e_move rfl) ?_
 have len1 := (r_ps_v).small
 refine l_val (v := Value.int .i64 (List.length ps : Int)) rfl (e_len Try.underlying25 rfl r_ps_v) ?_
 refine l_val (v := Value.bool (decide ((List.length ps : Int) = 1))) rfl (e_eql (m := (List.length ps : Int)) (n := 1) rfl rfl) ?_
 refine l_nil ?_
 by_cases p1 : (List.length ps : Int) = 1
 ·
  refine run_cond_t rfl (decide_eq_true p1) ?_
  refine run_seq ?_
  refine run_region_x c0 [0, 1, 2, 3, 4, 5, 6, 8] mixed_gp ?_
  intro w3 ch2
  refine x_pure (v := ps_v) 0 rfl (by kernel_rfl) (by kernel_rfl) rfl (fun w => e_move rfl) ?_
  replace r_ps_v := r_ps_v.chg ch2 (not_no _)
  refine x_val (v := Value.pointer (some (eAddr ps_v 2 (Int.toNat 0)))) 1 [0, 3, 4, 5] rfl (by kernel_rfl) (by kernel_rfl) rfl (e_indexAddr (α := (Int) × (Int)) (xs := ps) (v := ps_v) (i := 0) Try.underlying25 rfl rfl r_ps_v rfl (by omega) (by omega)) ?_
  refine x_val (v := Value.agg (List.toArray [Value.int .i64 ((gI ps 0).1), Value.int .i64 ((gI ps 0).2)])) 2 [1, 0, 3, 4, 5] rfl (by kernel_rfl) (by kernel_rfl) rfl (e_load_elN (α := (Int) × (Int)) (xs := ps) (v := ps_v) (i := 0) tp23_gp rfl r_ps_v (by omega) (by omega) rfl) ?_
  refine x_pure (v := ps_v) 3 rfl (by kernel_rfl) (by kernel_rfl) rfl (fun w => e_move rfl) ?_
  refine x_val (v := Value.pointer (some (eAddr ps_v 2 (Int.toNat 0)))) 4 [3, 2, 1, 0] rfl (by kernel_rfl) (by kernel_rfl) rfl (e_indexAddr (α := (Int) × (Int)) (xs := ps) (v := ps_v) (i := 0) Try.underlying25 rfl rfl r_ps_v rfl (by omega) (by omega)) ?_
  refine x_val (v := Value.agg (List.toArray [Value.int .i64 ((gI ps 0).1), Value.int .i64 ((gI ps 0).2)])) 5 [4, 3, 2, 1, 0] rfl (by kernel_rfl) (by kernel_rfl) rfl (e_load_elN (α := (Int) × (Int)) (xs := ps) (v := ps_v) (i := 0) tp23_gp rfl r_ps_v (by omega) (by omega) rfl) ?_
  refine x_pure (v := Value.agg (List.toArray [Value.int .i64 ((gI ps 0).1), Value.int .i64 ((gI ps 0).2), Value.int .i64 ((gI ps 0).1), Value.int .i64 ((gI ps 0).2)])) 6 rfl (by kernel_rfl) (by kernel_rfl) rfl (fun w => e_build (vs := [(0, Value.agg (List.toArray [Value.int .i64 ((gI ps 0).1), Value.int .i64 ((gI ps 0).2)])), (1, Value.agg (List.toArray [Value.int .i64 ((gI ps 0).1), Value.int .i64 ((gI ps 0).2)]))]) rfl (by kernel_rfl)) ?_
  refine x_one 7 rfl (by kernel_rfl) rfl ?_
  refine o_buildSlice (α := ((Int) × (Int)) × ((Int) × (Int))) c0 (is 1) (is 1) (1, 0) rfl ([((gI ps 0), (gI ps 0))] : List (((Int) × (Int)) × ((Int) × (Int)))) Try.underlying68 tp70_gp (by decide) (by decide) (vs := [(0, Value.agg (List.toArray [Value.int .i64 ((gI ps 0).1), Value.int .i64 ((gI ps 0).2), Value.int .i64 ((gI ps 0).1), Value.int .i64 ((gI ps 0).2)]))]) rfl rfl (.cons rfl .nil) ?_
  intro g4 w5 v6 ch7 o8
  refine x_pure (v := v6) 8 rfl (by kernel_rfl) (by kernel_rfl) rfl (fun w => e_assign rfl) ?_
  refine x_nil (by kernel_rfl) ?_
  refine run_ret (vs := [v6]) Try.func51 (.tmp rfl .nil) ?_
  -- return 0
  replace hbase := hbase.chg ch2 (not_no _)
  replace hbase := hbase.chg ch7 (not_no _)
  have e0 : (([((gI ps 0), (gI ps 0))] : List (((Int) × (Int)) × ((Int) × (Int)))) : List (((Int) × (Int)) × ((Int) × (Int)))) = (segS ps) := by
    first
      | exact segS_one (by assumption)
      | exact segK_done hinv.1 (by assumption) hinv.2 (by assumption)
  exact ⟨(fin w0 g4 (fun n => if n = 1 then 1 else 0), v6), (congrArg (a₁ := ([((gI ps 0), (gI ps 0))] : List (((Int) × (Int)) × ((Int) × (Int))))) (fun (z0 : List (((Int) × (Int)) × ((Int) × (Int)))) => Ending.returned (v6)) e0), hbase.fresh _, (e0 ▸ (o8.glue (γ := c0) (ren := (fun n => if n = 1 then 1 else 0)) (k := 1) hbase.col rfl rfl))⟩
 refine run_cond_f rfl (decide_eq_false p1) ?_
 refine run_skip ?_
 refine run_seq (run_region rfl ?_)
 refine l_val (v := Value.slice none 0 0) rfl (e_assign rfl) ?_
 refine l_nil (run_seq (run_seq (run_region rfl ?_)))
 refine l_val (v := Value.int .i64 1) rfl (e_assign rfl) ?_
 refine l_nil ?_
 refine run_block ?_
 refine run_loop (σ := Value × (List (((Int) × (Int)) × ((Int) × (Int)))) × Nat × Cmap) (fun ⟨l_v, l, i, gq⟩ f w => Base w0 gq w ∧ f 0 = ps_v ∧ f 3 = l_v ∧ f 4 = Value.int .i64 (i : Int) ∧ Sl gq (is 0) w ps_v ps ∧ Ow gq (is 3) (is 3) w l_v l ∧ (i : Int) ≤ ((List.length ps : Int) : Int) ∧ ((l = segK ps (i - 1) ∧ 1 ≤ i) ∧ i ≤ max ps.length 1)) (fun ⟨l_v, l, i, gq⟩ => List.length ps - i) (Value.slice none 0 0, [], 1, c0) ?_ ?_
 · exact ⟨hbase, rfl, rfl, rfl, r_ps_v, Ow.nil, by omega, by exact ⟨⟨rfl, by omega⟩, by omega⟩⟩
 clear r_ps_v
 clear hbase
 rintro ⟨l_v, l, i, g11⟩ f9 w10 ⟨hbase, zs0, zs3, zs4, r_ps_v, o_l, hle_i, hinv⟩ back5
 have hll : l.length = i - 1 := by rw [hinv.1.1]; exact segK_len ps _
 have hi1 := hinv.1.2
 refine run_seq (run_seq (run_region rfl ?_))
 refine l_val (v := Value.int .i64 (i : Int)) rfl (e_move (by exact zs4)) ?_
 refine l_val (v := ps_v) rfl (e_move (by exact zs0)) ?_
 refine l_val (v := Value.int .i64 (List.length ps : Int)) rfl (e_len Try.underlying25 rfl r_ps_v) ?_
 refine l_val (v := Value.bool (decide ((i : Int) < (List.length ps : Int)))) rfl (e_lss (m := (i : Int)) (n := (List.length ps : Int)) rfl rfl) ?_
 refine l_nil ?_
 by_cases p5 : (i : Int) < (List.length ps : Int)
 ·
  refine run_cond_t rfl (decide_eq_true p5) ?_
  refine run_skip ?_
  refine run_seq ?_
  refine run_block ?_
  refine run_region_x g11 [0, 1, 2, 3, 4, 5, 6, 7, 8, 9, 10, 13] mixed_gp ?_
  intro w13 ch12
  refine x_pure (v := l_v) 0 rfl (by kernel_rfl) (by kernel_rfl) rfl (fun w => e_move (by exact zs3)) ?_
  refine x_pure (v := ps_v) 1 rfl (by kernel_rfl) (by kernel_rfl) rfl (fun w => e_move (by exact zs0)) ?_
  refine x_pure (v := Value.int .i64 (i : Int)) 2 rfl (by kernel_rfl) (by kernel_rfl) rfl (fun w => e_move (by exact zs4)) ?_
  refine x_pure (v := Value.int .i64 ((i : Int) - 1)) 3 rfl (by kernel_rfl) (by kernel_rfl) rfl (fun w => e_sub (m := (i : Int)) (n := 1) rfl rfl (by omega)) ?_
  replace r_ps_v := r_ps_v.chg ch12 (not_no _)
  refine x_val (v := Value.pointer (some (eAddr ps_v 2 (Int.toNat ((i : Int) - 1))))) 4 [3, 2, 1, 0, 6, 7, 8, 9] rfl (by kernel_rfl) (by kernel_rfl) rfl (e_indexAddr (α := (Int) × (Int)) (xs := ps) (v := ps_v) (i := (i : Int) - 1) Try.underlying25 rfl rfl r_ps_v rfl (by omega) (by omega)) ?_
  refine x_val (v := Value.agg (List.toArray [Value.int .i64 ((gI ps ((i : Int) - 1)).1), Value.int .i64 ((gI ps ((i : Int) - 1)).2)])) 5 [4, 3, 2, 1, 0, 6, 7, 8, 9] rfl (by kernel_rfl) (by kernel_rfl) rfl (e_load_elN (α := (Int) × (Int)) (xs := ps) (v := ps_v) (i := (i : Int) - 1) tp23_gp rfl r_ps_v (by omega) (by omega) rfl) ?_
  refine x_pure (v := ps_v) 6 rfl (by kernel_rfl) (by kernel_rfl) rfl (fun w => e_move (by exact zs0)) ?_
  refine x_pure (v := Value.int .i64 (i : Int)) 7 rfl (by kernel_rfl) (by kernel_rfl) rfl (fun w => e_move (by exact zs4)) ?_
  refine x_val (v := Value.pointer (some (eAddr ps_v 2 (Int.toNat (i : Int))))) 8 [7, 6, 5, 4, 3, 2, 1, 0] rfl (by kernel_rfl) (by kernel_rfl) rfl (e_indexAddr (α := (Int) × (Int)) (xs := ps) (v := ps_v) (i := (i : Int)) Try.underlying25 rfl rfl r_ps_v rfl (by omega) (by omega)) ?_
  refine x_val (v := Value.agg (List.toArray [Value.int .i64 ((gI ps (i : Int)).1), Value.int .i64 ((gI ps (i : Int)).2)])) 9 [8, 7, 6, 5, 4, 3, 2, 1, 0] rfl (by kernel_rfl) (by kernel_rfl) rfl (e_load_elN (α := (Int) × (Int)) (xs := ps) (v := ps_v) (i := (i : Int)) tp23_gp rfl r_ps_v (by omega) (by omega) rfl) ?_
  refine x_pure (v := Value.agg (List.toArray [Value.int .i64 ((gI ps ((i : Int) - 1)).1), Value.int .i64 ((gI ps ((i : Int) - 1)).2), Value.int .i64 ((gI ps (i : Int)).1), Value.int .i64 ((gI ps (i : Int)).2)])) 10 rfl (by kernel_rfl) (by kernel_rfl) rfl (fun w => e_build (vs := [(0, Value.agg (List.toArray [Value.int .i64 ((gI ps ((i : Int) - 1)).1), Value.int .i64 ((gI ps ((i : Int) - 1)).2)])), (1, Value.agg (List.toArray [Value.int .i64 ((gI ps (i : Int)).1), Value.int .i64 ((gI ps (i : Int)).2)]))]) rfl (by kernel_rfl)) ?_
  refine x_one 11 rfl (by kernel_rfl) rfl ?_
  refine o_buildSlice (α := ((Int) × (Int)) × ((Int) × (Int))) g11 (is 2) (is 2) (2, 0) rfl ([((gI ps ((i : Int) - 1)), (gI ps (i : Int)))] : List (((Int) × (Int)) × ((Int) × (Int)))) Try.underlying68 tp70_gp (by decide) (by decide) (vs := [(0, Value.agg (List.toArray [Value.int .i64 ((gI ps ((i : Int) - 1)).1), Value.int .i64 ((gI ps ((i : Int) - 1)).2), Value.int .i64 ((gI ps (i : Int)).1), Value.int .i64 ((gI ps (i : Int)).2)]))]) rfl rfl (.cons rfl .nil) ?_
  intro g14 w15 v16 ch17 o18
  refine x_one 12 rfl (by kernel_rfl) rfl ?_
  replace o_l := (o_l.chg ch12 (not_no _) (not_no _)).chg ch17 (not_no _) (not_no _)
  refine o_append (α := ((Int) × (Int)) × ((Int) × (Int))) (xs := l) (ys := ([((gI ps ((i : Int) - 1)), (gI ps (i : Int)))] : List (((Int) × (Int)) × ((Int) × (Int))))) g14 (J := is 3) (S := is 3) (3, 0) rfl Try.underlying68 tp70_gp (by decide) rfl rfl rfl o_l o18.flat (by decide) (by first | omega | (simp; done) | (simp; omega)) ?_
  intro g19 w20 v21 ch22 o23
  clear o_l
  refine x_pure (v := v21) 13 rfl (by kernel_rfl) (by kernel_rfl) rfl (fun w => e_assign rfl) ?_
  refine x_nil (by kernel_rfl) ?_
  refine run_inBlock ?_
  clear o18
  refine run_region rfl ?_
  refine l_val (v := Value.int .i64 (i : Int)) rfl (e_move (by exact zs4)) ?_
  refine l_val (v := Value.int .i64 ((i : Int) + 1)) rfl (e_add (m := (i : Int)) (n := 1) rfl rfl (by omega)) ?_
  refine l_val (v := Value.int .i64 ((i : Int) + 1)) rfl (e_assign rfl) ?_
  refine l_nil ?_
  have C24 : Chg (inl [3]) _ _ _ _ := (ch12.n).seq ((ch17.n).seq (ch22.l rfl))
  replace hbase := hbase.chg C24 (is_nl rfl)
  replace r_ps_v := (r_ps_v.chg ch17 (not_no _)).chg ch22 (is_ne rfl)
  refine back5 (v21, (l ++ ([((gI ps ((i : Int) - 1)), (gI ps (i : Int)))] : List (((Int) × (Int)) × ((Int) × (Int))))), i + 1, g19) _ _ ⟨hbase, (by exact zs0), rfl, rfl, r_ps_v, o23, by omega, ?_⟩ ?_
  · show ((l ++ ([((gI ps ((i : Int) - 1)), (gI ps (i : Int)))] : List (((Int) × (Int)) × ((Int) × (Int))))) = segK ps ((i + 1) - 1) ∧ 1 ≤ (i + 1)) ∧ (i + 1) ≤ max ps.length 1
    exact ⟨segK_next hinv.1, by omega⟩
  · show List.length ps - (i + 1) < List.length ps - i
    omega
 refine run_cond_f rfl (decide_eq_false p5) ?_
 refine run_exit rfl ?_
 refine run_seq (run_region rfl ?_)
 refine l_val (v := l_v) rfl (e_move (by exact zs3)) ?_
 refine l_val (v := l_v) rfl (e_assign rfl) ?_
 refine l_nil ?_
 refine run_ret (vs := [l_v]) Try.func51 (.tmp rfl .nil) ?_
 -- return 1
 have e0 : (l : List (((Int) × (Int)) × ((Int) × (Int)))) = (segS ps) := by
   first
     | exact segS_one (by assumption)
     | exact segK_done hinv.1 (by assumption) hinv.2 (by assumption)
 exact ⟨(fin w0 g11 (fun n => if n = 3 then 1 else 0), l_v), (congrArg (a₁ := l) (fun (z0 : List (((Int) × (Int)) × ((Int) × (Int)))) => Ending.returned (l_v)) e0), hbase.fresh _, (e0 ▸ (o_l.glue (γ := c0) (ren := (fun n => if n = 3 then 1 else 0)) (k := 1) hbase.col rfl rfl))⟩

set_option maxHeartbeats 4000000 in
theorem Apart_ok (w0 : World) (p : List ((Int) × (Int))) (p_v : Value) (hp_v : Ro w0 p_v p) (q : List ((Int) × (Int))) (q_v : Value) (hq_v : Ro w0 q_v q) :
    Calls Try.prog 30 #[p_v, q_v] w0 (fun ee w => ee = .returned (Value.tuple (List.toArray [Value.bool ((aptR p q).1), Value.int .i64 ((aptR p q).2)])) ∧ RowKit.Below w0.heap.size w0 w) := by
 refine calls_of_run Try.func30 rfl (Nat.le_of_ble_eq_true rfl) ?_
 have hbase := Base.start w0
 have r_p_v := hp_v.sl
 have r_q_v := hq_v.sl
 refine run_seq (run_region rfl ?_)
 refine l_val (v := Value.bool false) rfl (e_assign rfl) ?_
 refine l_val (v := Value.int .i64 0) rfl (e_assign rfl) ?_
 refine l_nil (run_seq (run_seq (run_region rfl ?_)))
 refine l_val (v := p_v) rfl (e_move rfl) ?_
 have len1 := (r_p_v).small
 refine l_val (v := Value.int .i64 (List.length p : Int)) rfl (e_len Try.underlying25 rfl r_p_v) ?_
 refine l_val (v := Value.bool (decide ((List.length p : Int) = 0))) rfl (e_eql (m := (List.length p : Int)) (n := 0) rfl rfl) ?_
 refine l_val (v := Value.bool (decide ((List.length p : Int) = 0))) rfl (e_move rfl) ?_
 by_cases q15 : (List.length p : Int) = 0
 ·
  refine l_skip (want_n rfl rfl rfl (decide_eq_true q15)) ?_
  refine l_skip (want_n rfl rfl rfl (decide_eq_true q15)) ?_
  refine l_skip (want_n rfl rfl rfl (decide_eq_true q15)) ?_
  refine l_val (v := Value.bool true) rfl (e_pick_t rfl (decide_eq_true q15) rfl) ?_
  refine l_val (v := Value.bool true) rfl (e_move rfl) ?_
  refine l_skip (want_n rfl rfl rfl rfl) (l_skip (want_n rfl rfl rfl rfl) (l_skip (want_n rfl rfl rfl rfl) ?_))
  refine l_val (v := Value.bool true) rfl (e_pick_t rfl rfl rfl) ?_
  refine l_val (v := Value.bool true) rfl (e_move rfl) ?_
  refine l_skip (want_n rfl rfl rfl rfl) (l_skip (want_n rfl rfl rfl rfl) (l_skip (want_n rfl rfl rfl rfl) ?_))
  refine l_val (v := Value.bool true) rfl (e_pick_t rfl rfl rfl) ?_
  refine l_nil ?_
  refine run_cond_t rfl rfl ?_
  refine run_seq (run_region rfl ?_)
  refine l_val (v := Value.bool false) rfl (e_assign rfl) ?_
  refine l_val (v := Value.int .i64 1) rfl (e_assign rfl) ?_
  refine l_nil ?_
  refine run_ret (vs := [Value.bool false, Value.int .i64 1]) Try.func30 (.tmp rfl (.tmp rfl .nil)) ?_
  -- return 0
  have e0 : (false : Bool) = ((aptR p q).1) := by
    first
      | (rw [aptR_err (.inl (.inl (by assumption)))]; done)
      | (rw [aptR_err (.inl (.inr (by assumption)))]; done)
      | (rw [aptR_err (.inr (.inl (fun h => absurd (decide_eq_true h) (by assumption))))]; done)
      | (rw [aptR_err (.inr (.inr (fun h => absurd (decide_eq_true h) (by assumption))))]; done)
      | (rw [aptR_ok (by assumption) (by assumption) hokp hokq]; done)
      | (rw [aptR_ok (by assumption) (by assumption) hokp hokq]; exact app_yes hinv (by assumption))
      | (rw [aptR_ok (by assumption) (by assumption) hokp hokq]; exact app_bad (i := i) (k := k) (by assumption) (by assumption) (by first | exact badA3 (by assumption) | exact badA0 (by assumption) (by assumption)))
  have e1 : (1 : Int) = ((aptR p q).2) := by
    first
      | (rw [aptR_err (.inl (.inl (by assumption)))]; done)
      | (rw [aptR_err (.inl (.inr (by assumption)))]; done)
      | (rw [aptR_err (.inr (.inl (fun h => absurd (decide_eq_true h) (by assumption))))]; done)
      | (rw [aptR_err (.inr (.inr (fun h => absurd (decide_eq_true h) (by assumption))))]; done)
      | (rw [aptR_ok (by assumption) (by assumption) hokp hokq]; done)
      | (rw [aptR_ok (by assumption) (by assumption) hokp hokq]; exact app_yes hinv (by assumption))
      | (rw [aptR_ok (by assumption) (by assumption) hokp hokq]; exact app_bad (i := i) (k := k) (by assumption) (by assumption) (by first | exact badA3 (by assumption) | exact badA0 (by assumption) (by assumption)))
  exact ⟨(congr2 (a := false) (b := 1) (fun (z0 : Bool) (z1 : Int) => Ending.returned (Value.tuple (List.toArray [Value.bool z0, Value.int .i64 z1]))) e0 e1), hbase.below⟩
 refine l_val (v := q_v) (want_y rfl rfl rfl (decide_eq_false q15)) (e_move rfl) ?_
 have len2 := (r_q_v).small
 refine l_val (v := Value.int .i64 (List.length q : Int)) (want_y rfl rfl rfl (decide_eq_false q15)) (e_len Try.underlying25 rfl r_q_v) ?_
 refine l_val (v := Value.bool (decide ((List.length q : Int) = 0))) (want_y rfl rfl rfl (decide_eq_false q15)) (e_eql (m := (List.length q : Int)) (n := 0) rfl rfl) ?_
 refine l_val (v := Value.bool (decide ((List.length q : Int) = 0))) rfl (e_pick_f rfl (decide_eq_false q15) rfl) ?_
 refine l_val (v := Value.bool (decide ((List.length q : Int) = 0))) rfl (e_move rfl) ?_
 by_cases q20 : (List.length q : Int) = 0
 ·
  refine l_skip (want_n rfl rfl rfl (decide_eq_true q20)) ?_
  refine l_skip (want_n rfl rfl rfl (decide_eq_true q20)) ?_
  refine l_skip (want_n rfl rfl rfl (decide_eq_true q20)) ?_
  refine l_val (v := Value.bool true) rfl (e_pick_t rfl (decide_eq_true q20) rfl) ?_
  refine l_val (v := Value.bool true) rfl (e_move rfl) ?_
  refine l_skip (want_n rfl rfl rfl rfl) (l_skip (want_n rfl rfl rfl rfl) (l_skip (want_n rfl rfl rfl rfl) ?_))
  refine l_val (v := Value.bool true) rfl (e_pick_t rfl rfl rfl) ?_
  refine l_nil ?_
  refine run_cond_t rfl rfl ?_
  refine run_seq (run_region rfl ?_)
  refine l_val (v := Value.bool false) rfl (e_assign rfl) ?_
  refine l_val (v := Value.int .i64 1) rfl (e_assign rfl) ?_
  refine l_nil ?_
  refine run_ret (vs := [Value.bool false, Value.int .i64 1]) Try.func30 (.tmp rfl (.tmp rfl .nil)) ?_
  -- return 1
  have e0 : (false : Bool) = ((aptR p q).1) := by
    first
      | (rw [aptR_err (.inl (.inl (by assumption)))]; done)
      | (rw [aptR_err (.inl (.inr (by assumption)))]; done)
      | (rw [aptR_err (.inr (.inl (fun h => absurd (decide_eq_true h) (by assumption))))]; done)
      | (rw [aptR_err (.inr (.inr (fun h => absurd (decide_eq_true h) (by assumption))))]; done)
      | (rw [aptR_ok (by assumption) (by assumption) hokp hokq]; done)
      | (rw [aptR_ok (by assumption) (by assumption) hokp hokq]; exact app_yes hinv (by assumption))
      | (rw [aptR_ok (by assumption) (by assumption) hokp hokq]; exact app_bad (i := i) (k := k) (by assumption) (by assumption) (by first | exact badA3 (by assumption) | exact badA0 (by assumption) (by assumption)))
  have e1 : (1 : Int) = ((aptR p q).2) := by
    first
      | (rw [aptR_err (.inl (.inl (by assumption)))]; done)
      | (rw [aptR_err (.inl (.inr (by assumption)))]; done)
      | (rw [aptR_err (.inr (.inl (fun h => absurd (decide_eq_true h) (by assumption))))]; done)
      | (rw [aptR_err (.inr (.inr (fun h => absurd (decide_eq_true h) (by assumption))))]; done)
      | (rw [aptR_ok (by assumption) (by assumption) hokp hokq]; done)
      | (rw [aptR_ok (by assumption) (by assumption) hokp hokq]; exact app_yes hinv (by assumption))
      | (rw [aptR_ok (by assumption) (by assumption) hokp hokq]; exact app_bad (i := i) (k := k) (by assumption) (by assumption) (by first | exact badA3 (by assumption) | exact badA0 (by assumption) (by assumption)))
  exact ⟨(congr2 (a := false) (b := 1) (fun (z0 : Bool) (z1 : Int) => Ending.returned (Value.tuple (List.toArray [Value.bool z0, Value.int .i64 z1]))) e0 e1), hbase.below⟩
 refine l_val (v := p_v) (want_y rfl rfl rfl (decide_eq_false q20)) (e_move rfl) ?_
 refine l_op (want_y rfl rfl rfl (decide_eq_false q20)) ?_
 refine o_call (v := Value.bool (decide (okL p))) (e_call (vals := [p_v]) Try.func25 bd25_gp nm25_gp rfl) (GMay_ok w0 p p_v (r_p_v).ro) ?_
 intro w3 hb4
 replace hb4 := chg_below hb4 c0
 refine l_val (v := Value.bool (!(decide (okL p)))) (want_y rfl rfl rfl (decide_eq_false q20)) (e_not (b := (decide (okL p))) rfl) ?_
 refine l_val (v := Value.bool (!(decide (okL p)))) rfl (e_pick_f rfl (decide_eq_false q20) rfl) ?_
 refine l_val (v := Value.bool (!(decide (okL p)))) rfl (e_move rfl) ?_
 by_cases q25 : (decide (okL p)) = true
 ·
  refine l_val (v := q_v) (want_y rfl rfl rfl (congrArg Bool.not q25)) (e_move rfl) ?_
  replace r_q_v := r_q_v.chg hb4 (not_no _)
  refine l_op (want_y rfl rfl rfl (congrArg Bool.not q25)) ?_
  refine o_call (v := Value.bool (decide (okL q))) (e_call (vals := [q_v]) Try.func25 bd25_gp nm25_gp rfl) (GMay_ok w3 q q_v (r_q_v).ro) ?_
  intro w5 hb6
  replace hb6 := chg_below hb6 c0
  refine l_val (v := Value.bool (!(decide (okL q)))) (want_y rfl rfl rfl (congrArg Bool.not q25)) (e_not (b := (decide (okL q))) rfl) ?_
  refine l_val (v := Value.bool (!(decide (okL q)))) rfl (e_pick_f rfl (congrArg Bool.not q25) rfl) ?_
  refine l_nil ?_
  by_cases p1 : (decide (okL q)) = true
  ·
   refine run_cond_f rfl (congrArg Bool.not p1) ?_
   refine run_skip ?_
   refine run_seq ?_
   have hokp := of_decide_eq_true (show decide (okL p) = true by assumption)
   have hokq := of_decide_eq_true (show decide (okL q) = true by assumption)
   have hlp1 := hokp.1
   have hlq1 := hokq.1
   have hsp := segS_len (p := p) (by omega)
   have hsq := segS_len (p := q) (by omega)
   refine run_region rfl ?_
   refine l_val (v := q_v) rfl (e_move rfl) ?_
   replace r_q_v := r_q_v.chg hb6 (not_no _)
   refine l_op rfl ?_
   refine o_callx (e_call (vals := [q_v]) Try.func51 bd51_gp nm51_gp rfl) (segments_ok w5 q q_v (r_q_v).ro (by omega) (by omega)) ?_
   rintro ⟨d8, v10⟩ w7 ⟨fr9, o11⟩
   obtain ⟨g12, hg12⟩ : ∃ q, q = glue w5.heap.size c0 d8 (fun n => if n = 1 then 1 else 0) := ⟨_, rfl⟩
   have ch13 := chg_glue fr9.below c0 d8 (fun n => if n = 1 then 1 else 0)
   rw [← hg12] at ch13
   replace o11 := o11.glue (γ := c0) (ren := (fun n => if n = 1 then 1 else 0)) (k := 1) fr9.col rfl rfl
   rw [← hg12] at o11
   clear hg12
   refine l_val (v := v10) rfl (e_assign rfl) ?_
   refine l_nil (run_seq (run_seq (run_region rfl ?_)))
   refine l_val (v := p_v) rfl (e_move rfl) ?_
   have C14 : Chg (inl []) _ _ _ _ := (hb4.n).seq ((hb6.n).seq (ch13.n))
   replace r_p_v := r_p_v.chg C14 (is_nl rfl)
   refine l_op rfl ?_
   refine o_callx (e_call (vals := [p_v]) Try.func51 bd51_gp nm51_gp rfl) (segments_ok w7 p p_v (r_p_v).ro (by omega) (by omega)) ?_
   rintro ⟨d16, v18⟩ w15 ⟨fr17, o19⟩
   obtain ⟨g20, hg20⟩ : ∃ q, q = glue w7.heap.size g12 d16 (fun n => if n = 1 then 2 else 0) := ⟨_, rfl⟩
   have ch21 := chg_glue fr17.below g12 d16 (fun n => if n = 1 then 2 else 0)
   rw [← hg20] at ch21
   replace o19 := o19.glue (γ := g12) (ren := (fun n => if n = 1 then 2 else 0)) (k := 2) fr17.col rfl rfl
   rw [← hg20] at o19
   clear hg20
   have len22 := (o19.flat).small
   refine l_val (v := Value.int .i64 (List.length (segS p) : Int)) rfl (e_len Try.underlying68 rfl o19.flat) ?_
   refine l_val (v := Value.int .i64 0) rfl (e_move rfl) ?_
   refine l_nil ?_
   refine run_block ?_
   refine run_loop (σ := Nat × Cmap) (fun ⟨i, gq⟩ f w => Base w0 gq w ∧ f 0 = p_v ∧ f 1 = q_v ∧ f 6 = v10 ∧ f 33 = v18 ∧ f 34 = Value.int .i64 (List.length (segS p) : Int) ∧ f 35 = Value.int .i64 (i : Int) ∧ Sl gq (is 0) w p_v p ∧ Sl gq (is 0) w q_v q ∧ Ow gq (is 1) (is 1) w v10 (segS q) ∧ Ow gq (is 2) (is 2) w v18 (segS p) ∧ (i : Int) ≤ ((List.length (segS p) : Int) : Int) ∧ (∀ j_ : Nat, j_ < i → ∀ t_ ∈ segS q, ¬ badA p q (gI (segS p) (j_ : Int)) t_)) (fun ⟨i, gq⟩ => Int.toNat (((List.length (segS p) : Int) : Int) - (i : Int))) (0, g20) ?_ ?_
   have C23 : Chg (inl []) _ _ _ _ := (hb4.n).seq ((hb6.n).seq ((ch13.n).seq (ch21.n)))
   replace hbase := hbase.chg C23 (is_nl rfl)
   replace r_p_v := r_p_v.chg ch21 (not_no _)
   replace r_q_v := (r_q_v.chg ch13 (not_no _)).chg ch21 (not_no _)
   replace o11 := o11.chg ch21 (not_no _) (not_no _)
   · exact ⟨hbase, rfl, rfl, rfl, rfl, rfl, rfl, r_p_v, r_q_v, o11, o19, by omega, by intro j hj; omega⟩
   clear r_p_v
   clear r_q_v
   clear o11
   clear o19
   clear hbase
   rintro ⟨i, g26⟩ f24 w25 ⟨hbase, zs0, zs1, zs6, zs33, zs34, zs35, r_p_v, r_q_v, o11, o19, hle_i, hinv⟩ back5
   refine run_seq (run_region rfl ?_)
   refine l_val (v := Value.bool (decide ((i : Int) < (List.length (segS p) : Int)))) rfl (e_lss (m := (i : Int)) (n := (List.length (segS p) : Int)) (by exact zs35) (by exact zs34)) ?_
   refine l_nil (run_seq ?_)
   by_cases p5 : (i : Int) < (List.length (segS p) : Int)
   ·
    refine run_cond_t rfl (decide_eq_true p5) ?_
    have hsb := seg_bd (p := p) (i := i) hokp (by omega) (by assumption)
    obtain ⟨hsb1, hsb2⟩ := hsb
    have hsb := seg_bd (p := p) (i := i) hokp (by omega) (by assumption)
    refine run_skip ?_
    refine run_seq ?_
    refine run_block ?_
    refine run_seq (run_region rfl ?_)
    refine l_val (v := Value.pointer (some (eAddr v18 4 (Int.toNat (i : Int))))) rfl (e_indexAddr (α := ((Int) × (Int)) × ((Int) × (Int))) (xs := segS p) (v := v18) (i := (i : Int)) Try.underlying68 rfl (by exact zs33) o19.flat (by exact zs35) (by omega) (by omega)) ?_
    refine l_val (v := Value.agg (List.toArray [Value.int .i64 (((gI (segS p) (i : Int)).1).1), Value.int .i64 (((gI (segS p) (i : Int)).1).2), Value.int .i64 (((gI (segS p) (i : Int)).2).1), Value.int .i64 (((gI (segS p) (i : Int)).2).2)])) rfl (e_load_elN (α := ((Int) × (Int)) × ((Int) × (Int))) (xs := segS p) (v := v18) (i := (i : Int)) tp70_gp rfl o19.flat (by omega) (by omega) rfl) ?_
    refine l_op rfl ?_
    refine o_alloc g26 (is 3) (3, 0) rfl tp70_gp ?_
    intro g30 w27 b29 ch28 bx31
    replace bx31 : Bx g30 (is 3) w27 b29 [Value.int .i64 0, Value.int .i64 0, Value.int .i64 0, Value.int .i64 0] := bx31
    refine l_op rfl ?_
    refine o_store_bx (cs' := [Value.int .i64 (((gI (segS p) (i : Int)).1).1), Value.int .i64 (((gI (segS p) (i : Int)).1).2), Value.int .i64 (((gI (segS p) (i : Int)).2).1), Value.int .i64 (((gI (segS p) (i : Int)).2).2)]) tp70_gp rfl rfl bx31 rfl (Nat.le_of_ble_eq_true rfl) (AllOne.all (.cons rfl (.cons rfl (.cons rfl (.cons rfl .nil))))) rfl ?_
    intro w32 ch33 bx34
    clear bx31
    refine l_nil (run_seq (run_region rfl ?_))
    refine l_val (v := v10) rfl (e_move (by exact zs6)) ?_
    replace o11 := (o11.chg ch28 (not_no _) (not_no _)).chg ch33 (is_ne rfl) (is_ne rfl)
    have len35 := (o11.flat).small
    refine l_val (v := Value.int .i64 (List.length (segS q) : Int)) rfl (e_len Try.underlying68 rfl o11.flat) ?_
    refine l_val (v := Value.int .i64 0) rfl (e_move rfl) ?_
    refine l_nil ?_
    refine run_block ?_
    refine run_loop (σ := Nat × Cmap) (fun ⟨k, gq⟩ f w => Base w0 gq w ∧ f 0 = p_v ∧ f 1 = q_v ∧ f 6 = v10 ∧ f 8 = Value.pointer (some ⟨b29, 0, none⟩) ∧ f 33 = v18 ∧ f 34 = Value.int .i64 (List.length (segS p) : Int) ∧ f 35 = Value.int .i64 (i : Int) ∧ f 39 = v10 ∧ f 40 = Value.int .i64 (List.length (segS q) : Int) ∧ f 41 = Value.int .i64 (k : Int) ∧ Sl gq (is 0) w p_v p ∧ Sl gq (is 0) w q_v q ∧ Ow gq (is 1) (is 1) w v10 (segS q) ∧ Ow gq (is 2) (is 2) w v18 (segS p) ∧ Bx gq (is 3) w b29 [Value.int .i64 (((gI (segS p) (i : Int)).1).1), Value.int .i64 (((gI (segS p) (i : Int)).1).2), Value.int .i64 (((gI (segS p) (i : Int)).2).1), Value.int .i64 (((gI (segS p) (i : Int)).2).2)] ∧ (k : Int) ≤ ((List.length (segS q) : Int) : Int) ∧ (∀ j_ : Nat, j_ < k → ¬ badA p q (gI (segS p) (i : Int)) (gI (segS q) (j_ : Int)))) (fun ⟨k, gq⟩ => Int.toNat (((List.length (segS q) : Int) : Int) - (k : Int))) (0, g30) ?_ ?_
    replace hbase := hbase.chg ch28 (not_no _)
    replace hbase := hbase.chg ch33 (is_ne rfl)
    replace r_p_v := (r_p_v.chg ch28 (not_no _)).chg ch33 (is_ne rfl)
    replace r_q_v := (r_q_v.chg ch28 (not_no _)).chg ch33 (is_ne rfl)
    replace o19 := (o19.chg ch28 (not_no _) (not_no _)).chg ch33 (is_ne rfl) (is_ne rfl)
    · exact ⟨hbase, (by exact zs0), (by exact zs1), (by exact zs6), rfl, (by exact zs33), (by exact zs34), (by exact zs35), rfl, rfl, rfl, r_p_v, r_q_v, o11, o19, bx34, by omega, by intro j hj; omega⟩
    clear r_p_v
    clear r_q_v
    clear o11
    clear o19
    clear bx34
    clear hbase
    rintro ⟨k, g38⟩ f36 w37 ⟨hbase, zs0, zs1, zs6, zs8, zs33, zs34, zs35, zs39, zs40, zs41, r_p_v, r_q_v, o11, o19, bx34, hle_k, hrow⟩ back8
    refine run_seq (run_region rfl ?_)
    refine l_val (v := Value.bool (decide ((k : Int) < (List.length (segS q) : Int)))) rfl (e_lss (m := (k : Int)) (n := (List.length (segS q) : Int)) (by exact zs41) (by exact zs40)) ?_
    refine l_nil (run_seq ?_)
    by_cases p8 : (k : Int) < (List.length (segS q) : Int)
    ·
     refine run_cond_t rfl (decide_eq_true p8) ?_
     have htb := seg_bd (p := q) (i := k) hokq (by omega) (by assumption)
     obtain ⟨htb1, htb2⟩ := htb
     have htb := seg_bd (p := q) (i := k) hokq (by omega) (by assumption)
     refine run_skip ?_
     refine run_seq ?_
     refine run_block ?_
     refine run_seq (run_region rfl ?_)
     refine l_val (v := Value.pointer (some (eAddr v10 4 (Int.toNat (k : Int))))) rfl (e_indexAddr (α := ((Int) × (Int)) × ((Int) × (Int))) (xs := segS q) (v := v10) (i := (k : Int)) Try.underlying68 rfl (by exact zs39) o11.flat (by exact zs41) (by omega) (by omega)) ?_
     refine l_val (v := Value.agg (List.toArray [Value.int .i64 (((gI (segS q) (k : Int)).1).1), Value.int .i64 (((gI (segS q) (k : Int)).1).2), Value.int .i64 (((gI (segS q) (k : Int)).2).1), Value.int .i64 (((gI (segS q) (k : Int)).2).2)])) rfl (e_load_elN (α := ((Int) × (Int)) × ((Int) × (Int))) (xs := segS q) (v := v10) (i := (k : Int)) tp70_gp rfl o11.flat (by omega) (by omega) rfl) ?_
     refine l_op rfl ?_
     refine o_alloc g38 (is 4) (4, 0) rfl tp70_gp ?_
     intro g42 w39 b41 ch40 bx43
     replace bx43 : Bx g42 (is 4) w39 b41 [Value.int .i64 0, Value.int .i64 0, Value.int .i64 0, Value.int .i64 0] := bx43
     refine l_op rfl ?_
     refine o_store_bx (cs' := [Value.int .i64 (((gI (segS q) (k : Int)).1).1), Value.int .i64 (((gI (segS q) (k : Int)).1).2), Value.int .i64 (((gI (segS q) (k : Int)).2).1), Value.int .i64 (((gI (segS q) (k : Int)).2).2)]) tp70_gp rfl rfl bx43 rfl (Nat.le_of_ble_eq_true rfl) (AllOne.all (.cons rfl (.cons rfl (.cons rfl (.cons rfl .nil))))) rfl ?_
     intro w44 ch45 bx46
     clear bx43
     refine l_nil (run_seq (run_region rfl ?_))
     refine l_val (v := Value.pointer (some ⟨b29, 0, none⟩)) rfl (e_indexAddr_arr Try.underlying70 rfl (by exact zs8) rfl (by decide) (by decide) rfl) ?_
     replace bx34 := (bx34.chg ch40 (not_no _)).chg ch45 (is_ne rfl)
     refine l_val (v := Value.agg (List.toArray [Value.int .i64 (((gI (segS p) (i : Int)).1).1), Value.int .i64 (((gI (segS p) (i : Int)).1).2)])) rfl (e_load_bxN (ds := [Value.int .i64 (((gI (segS p) (i : Int)).1).1), Value.int .i64 (((gI (segS p) (i : Int)).1).2)]) tp23_gp rfl bx34 rfl rfl) ?_
     refine l_val (v := Value.pointer (some ⟨b29, 2, none⟩)) rfl (e_indexAddr_arr Try.underlying70 rfl (by exact zs8) rfl (by decide) (by decide) rfl) ?_
     refine l_val (v := Value.agg (List.toArray [Value.int .i64 (((gI (segS p) (i : Int)).2).1), Value.int .i64 (((gI (segS p) (i : Int)).2).2)])) rfl (e_load_bxN (ds := [Value.int .i64 (((gI (segS p) (i : Int)).2).1), Value.int .i64 (((gI (segS p) (i : Int)).2).2)]) tp23_gp rfl bx34 rfl rfl) ?_
     refine l_val (v := Value.pointer (some ⟨b41, 0, none⟩)) rfl (e_indexAddr_arr Try.underlying70 rfl rfl rfl (by decide) (by decide) rfl) ?_
     refine l_val (v := Value.agg (List.toArray [Value.int .i64 (((gI (segS q) (k : Int)).1).1), Value.int .i64 (((gI (segS q) (k : Int)).1).2)])) rfl (e_load_bxN (ds := [Value.int .i64 (((gI (segS q) (k : Int)).1).1), Value.int .i64 (((gI (segS q) (k : Int)).1).2)]) tp23_gp rfl bx46 rfl rfl) ?_
     refine l_val (v := Value.pointer (some ⟨b41, 2, none⟩)) rfl (e_indexAddr_arr Try.underlying70 rfl rfl rfl (by decide) (by decide) rfl) ?_
     refine l_val (v := Value.agg (List.toArray [Value.int .i64 (((gI (segS q) (k : Int)).2).1), Value.int .i64 (((gI (segS q) (k : Int)).2).2)])) rfl (e_load_bxN (ds := [Value.int .i64 (((gI (segS q) (k : Int)).2).1), Value.int .i64 (((gI (segS q) (k : Int)).2).2)]) tp23_gp rfl bx46 rfl rfl) ?_
     refine l_op rfl ?_
     refine o_call (v := Value.int .i64 (meetP ((gI (segS p) (i : Int)).1) ((gI (segS p) (i : Int)).2) ((gI (segS q) (k : Int)).1) ((gI (segS q) (k : Int)).2))) (e_call (vals := [Value.agg (List.toArray [Value.int .i64 (((gI (segS p) (i : Int)).1).1), Value.int .i64 (((gI (segS p) (i : Int)).1).2)]), Value.agg (List.toArray [Value.int .i64 (((gI (segS p) (i : Int)).2).1), Value.int .i64 (((gI (segS p) (i : Int)).2).2)]), Value.agg (List.toArray [Value.int .i64 (((gI (segS q) (k : Int)).1).1), Value.int .i64 (((gI (segS q) (k : Int)).1).2)]), Value.agg (List.toArray [Value.int .i64 (((gI (segS q) (k : Int)).2).1), Value.int .i64 (((gI (segS q) (k : Int)).2).2)])]) Try.func36 bd36_gp nm36_gp rfl) (meet_ok w44 ((gI (segS p) (i : Int)).1) ((gI (segS p) (i : Int)).2) ((gI (segS q) (k : Int)).1) ((gI (segS q) (k : Int)).2) (by assumption) (by assumption) (by assumption) (by assumption)) ?_
     intro w47 hb48
     replace hb48 := chg_below hb48 g42
     refine l_val (v := Value.int .i64 (meetP ((gI (segS p) (i : Int)).1) ((gI (segS p) (i : Int)).2) ((gI (segS q) (k : Int)).1) ((gI (segS q) (k : Int)).2))) rfl (e_assign rfl) ?_
     refine l_nil (run_seq (run_region rfl ?_))
     refine l_val (v := Value.int .i64 (meetP ((gI (segS p) (i : Int)).1) ((gI (segS p) (i : Int)).2) ((gI (segS q) (k : Int)).1) ((gI (segS q) (k : Int)).2))) rfl (e_move rfl) ?_
     refine l_val (v := Value.bool (decide ((meetP ((gI (segS p) (i : Int)).1) ((gI (segS p) (i : Int)).2) ((gI (segS q) (k : Int)).1) ((gI (segS q) (k : Int)).2)) = 3))) rfl (e_eql (m := meetP ((gI (segS p) (i : Int)).1) ((gI (segS p) (i : Int)).2) ((gI (segS q) (k : Int)).1) ((gI (segS q) (k : Int)).2)) (n := 3) rfl rfl) ?_
     refine l_val (v := Value.bool (decide ((meetP ((gI (segS p) (i : Int)).1) ((gI (segS p) (i : Int)).2) ((gI (segS q) (k : Int)).1) ((gI (segS q) (k : Int)).2)) = 3))) rfl (e_move rfl) ?_
     by_cases q56 : (meetP ((gI (segS p) (i : Int)).1) ((gI (segS p) (i : Int)).2) ((gI (segS q) (k : Int)).1) ((gI (segS q) (k : Int)).2)) = 3
     ·
      refine l_skip (want_n rfl rfl rfl (decide_eq_true q56)) ?_
      refine l_skip (want_n rfl rfl rfl (decide_eq_true q56)) ?_
      refine l_skip (want_n rfl rfl rfl (decide_eq_true q56)) ?_
      refine l_skip (want_u rfl rfl rfl) ?_
      refine l_skip (want_u rfl rfl rfl) ?_
      refine l_skip (want_u rfl rfl rfl) ?_
      refine l_skip (want_u rfl rfl rfl) ?_
      refine l_skip (want_u rfl rfl rfl) ?_
      refine l_skip (want_u rfl rfl rfl) ?_
      refine l_skip (want_n rfl rfl rfl (decide_eq_true q56)) ?_
      refine l_val (v := Value.bool true) rfl (e_pick_t rfl (decide_eq_true q56) rfl) ?_
      refine l_nil ?_
      refine run_cond_t rfl rfl ?_
      refine run_seq ?_
      clear o11
      clear o19
      clear bx34
      clear bx46
      refine run_region rfl ?_
      refine l_val (v := Value.bool false) rfl (e_assign rfl) ?_
      refine l_val (v := Value.int .i64 0) rfl (e_assign rfl) ?_
      refine l_nil ?_
      refine run_ret (vs := [Value.bool false, Value.int .i64 0]) Try.func30 (.tmp rfl (.tmp rfl .nil)) ?_
      -- return 2
      have e0 : (false : Bool) = ((aptR p q).1) := by
        first
          | (rw [aptR_err (.inl (.inl (by assumption)))]; done)
          | (rw [aptR_err (.inl (.inr (by assumption)))]; done)
          | (rw [aptR_err (.inr (.inl (fun h => absurd (decide_eq_true h) (by assumption))))]; done)
          | (rw [aptR_err (.inr (.inr (fun h => absurd (decide_eq_true h) (by assumption))))]; done)
          | (rw [aptR_ok (by assumption) (by assumption) hokp hokq]; done)
          | (rw [aptR_ok (by assumption) (by assumption) hokp hokq]; exact app_yes hinv (by assumption))
          | (rw [aptR_ok (by assumption) (by assumption) hokp hokq]; exact app_bad (i := i) (k := k) (by assumption) (by assumption) (by first | exact badA3 (by assumption) | exact badA0 (by assumption) (by assumption)))
      have e1 : (0 : Int) = ((aptR p q).2) := by
        first
          | (rw [aptR_err (.inl (.inl (by assumption)))]; done)
          | (rw [aptR_err (.inl (.inr (by assumption)))]; done)
          | (rw [aptR_err (.inr (.inl (fun h => absurd (decide_eq_true h) (by assumption))))]; done)
          | (rw [aptR_err (.inr (.inr (fun h => absurd (decide_eq_true h) (by assumption))))]; done)
          | (rw [aptR_ok (by assumption) (by assumption) hokp hokq]; done)
          | (rw [aptR_ok (by assumption) (by assumption) hokp hokq]; exact app_yes hinv (by assumption))
          | (rw [aptR_ok (by assumption) (by assumption) hokp hokq]; exact app_bad (i := i) (k := k) (by assumption) (by assumption) (by first | exact badA3 (by assumption) | exact badA0 (by assumption) (by assumption)))
      have C49 : Chg (inl [4]) _ _ _ _ := (ch40.n).seq ((ch45.l rfl).seq (hb48.n))
      replace hbase := hbase.chg C49 (is_nl rfl)
      exact ⟨(congr2 (a := false) (b := 0) (fun (z0 : Bool) (z1 : Int) => Ending.returned (Value.tuple (List.toArray [Value.bool z0, Value.int .i64 z1]))) e0 e1), hbase.below⟩
     refine l_val (v := Value.int .i64 (meetP ((gI (segS p) (i : Int)).1) ((gI (segS p) (i : Int)).2) ((gI (segS q) (k : Int)).1) ((gI (segS q) (k : Int)).2))) (want_y rfl rfl rfl (decide_eq_false q56)) (e_move rfl) ?_
     refine l_val (v := Value.bool (!(decide ((meetP ((gI (segS p) (i : Int)).1) ((gI (segS p) (i : Int)).2) ((gI (segS q) (k : Int)).1) ((gI (segS q) (k : Int)).2)) = 0)))) (want_y rfl rfl rfl (decide_eq_false q56)) (e_neq (m := meetP ((gI (segS p) (i : Int)).1) ((gI (segS p) (i : Int)).2) ((gI (segS q) (k : Int)).1) ((gI (segS q) (k : Int)).2)) (n := 0) rfl rfl) ?_
     refine l_val (v := Value.bool (!(decide ((meetP ((gI (segS p) (i : Int)).1) ((gI (segS p) (i : Int)).2) ((gI (segS q) (k : Int)).1) ((gI (segS q) (k : Int)).2)) = 0)))) (want_y rfl rfl rfl (decide_eq_false q56)) (e_move rfl) ?_
     by_cases q59 : (meetP ((gI (segS p) (i : Int)).1) ((gI (segS p) (i : Int)).2) ((gI (segS q) (k : Int)).1) ((gI (segS q) (k : Int)).2)) = 0
     ·
      refine l_skip (want_n rfl rfl rfl (congrArg Bool.not (decide_eq_true q59))) ?_
      refine l_skip (want_n rfl rfl rfl (congrArg Bool.not (decide_eq_true q59))) ?_
      refine l_skip (want_n rfl rfl rfl (congrArg Bool.not (decide_eq_true q59))) ?_
      refine l_skip (want_n rfl rfl rfl (congrArg Bool.not (decide_eq_true q59))) ?_
      refine l_skip (want_n rfl rfl rfl (congrArg Bool.not (decide_eq_true q59))) ?_
      refine l_skip (want_n rfl rfl rfl (congrArg Bool.not (decide_eq_true q59))) ?_
      refine l_val (v := Value.bool false) (want_y rfl rfl rfl (decide_eq_false q56)) (e_pick_f rfl (congrArg Bool.not (decide_eq_true q59)) rfl) ?_
      refine l_val (v := Value.bool false) rfl (e_pick_f rfl (decide_eq_false q56) rfl) ?_
      refine l_nil ?_
      refine run_cond_f rfl rfl ?_
      refine run_skip ?_
      refine run_inBlock ?_
      clear bx46
      refine run_region rfl ?_
      refine l_val (v := Value.int .i64 ((k : Int) + 1)) rfl (e_add (m := (k : Int)) (n := 1) (by exact zs41) rfl (by omega)) ?_
      refine l_val (v := Value.int .i64 ((k : Int) + 1)) rfl (e_move rfl) ?_
      refine l_nil ?_
      have C50 : Chg (inl [4]) _ _ _ _ := (ch40.n).seq ((ch45.l rfl).seq (hb48.n))
      replace hbase := hbase.chg C50 (is_nl rfl)
      replace r_p_v := r_p_v.chg C50 (is_nl rfl)
      replace r_q_v := r_q_v.chg C50 (is_nl rfl)
      replace o11 := o11.chg C50 (is_nl rfl) (is_nl rfl)
      replace o19 := o19.chg C50 (is_nl rfl) (is_nl rfl)
      replace bx34 := bx34.chg hb48 (not_no _)
      refine back8 (k + 1, g42) _ _ ⟨hbase, (by exact zs0), (by exact zs1), (by exact zs6), (by exact zs8), (by exact zs33), (by exact zs34), (by exact zs35), (by exact zs39), (by exact zs40), rfl, r_p_v, r_q_v, o11, o19, bx34, by omega, ?_⟩ ?_
      · show ∀ j_ : Nat, j_ < (k + 1) → ¬ badA p q (gI (segS p) (i : Int)) (gI (segS q) (j_ : Int))
        intro j hj
        by_cases e0 : j = k
        · subst e0; first | exact goodA0 (by assumption) (by assumption) | exact goodA1 (by assumption) (by assumption)
        · exact hrow j (by omega)
      · show Int.toNat (((List.length (segS q) : Int) : Int) - ((k + 1) : Int)) < Int.toNat (((List.length (segS q) : Int) : Int) - (k : Int))
        omega
     refine l_val (v := p_v) (want_y rfl rfl rfl (congrArg Bool.not (decide_eq_false q59))) (e_move (by exact zs0)) ?_
     refine l_val (v := q_v) (want_y rfl rfl rfl (congrArg Bool.not (decide_eq_false q59))) (e_move (by exact zs1)) ?_
     replace bx34 := bx34.chg hb48 (not_no _)
     refine l_val (v := Value.agg (List.toArray [Value.int .i64 (((gI (segS p) (i : Int)).1).1), Value.int .i64 (((gI (segS p) (i : Int)).1).2), Value.int .i64 (((gI (segS p) (i : Int)).2).1), Value.int .i64 (((gI (segS p) (i : Int)).2).2)])) (want_y rfl rfl rfl (congrArg Bool.not (decide_eq_false q59))) (e_load_bxN (ds := [Value.int .i64 (((gI (segS p) (i : Int)).1).1), Value.int .i64 (((gI (segS p) (i : Int)).1).2), Value.int .i64 (((gI (segS p) (i : Int)).2).1), Value.int .i64 (((gI (segS p) (i : Int)).2).2)]) tp70_gp (by exact zs8) bx34 rfl rfl) ?_
     replace bx46 := bx46.chg hb48 (not_no _)
     refine l_val (v := Value.agg (List.toArray [Value.int .i64 (((gI (segS q) (k : Int)).1).1), Value.int .i64 (((gI (segS q) (k : Int)).1).2), Value.int .i64 (((gI (segS q) (k : Int)).2).1), Value.int .i64 (((gI (segS q) (k : Int)).2).2)])) (want_y rfl rfl rfl (congrArg Bool.not (decide_eq_false q59))) (e_load_bxN (ds := [Value.int .i64 (((gI (segS q) (k : Int)).1).1), Value.int .i64 (((gI (segS q) (k : Int)).1).2), Value.int .i64 (((gI (segS q) (k : Int)).2).1), Value.int .i64 (((gI (segS q) (k : Int)).2).2)]) tp70_gp rfl bx46 rfl rfl) ?_
     have C51 : Chg (inl [4]) _ _ _ _ := (ch40.n).seq ((ch45.l rfl).seq (hb48.n))
     replace r_p_v := r_p_v.chg C51 (is_nl rfl)
     replace r_q_v := r_q_v.chg C51 (is_nl rfl)
     refine l_op (want_y rfl rfl rfl (congrArg Bool.not (decide_eq_false q59))) ?_
     refine o_call (v := Value.bool (decide (endsP p q (((gI (segS p) (i : Int)).1), ((gI (segS p) (i : Int)).2)) (((gI (segS q) (k : Int)).1), ((gI (segS q) (k : Int)).2))))) (e_call (vals := [p_v, q_v, Value.agg (List.toArray [Value.int .i64 (((gI (segS p) (i : Int)).1).1), Value.int .i64 (((gI (segS p) (i : Int)).1).2), Value.int .i64 (((gI (segS p) (i : Int)).2).1), Value.int .i64 (((gI (segS p) (i : Int)).2).2)]), Value.agg (List.toArray [Value.int .i64 (((gI (segS q) (k : Int)).1).1), Value.int .i64 (((gI (segS q) (k : Int)).1).2), Value.int .i64 (((gI (segS q) (k : Int)).2).1), Value.int .i64 (((gI (segS q) (k : Int)).2).2)])]) Try.func52 bd52_gp nm52_gp rfl) (ends_ok w47 p p_v (r_p_v).ro q q_v (r_q_v).ro (((gI (segS p) (i : Int)).1), ((gI (segS p) (i : Int)).2)) (((gI (segS q) (k : Int)).1), ((gI (segS q) (k : Int)).2)) (by first | assumption | omega) (by first | assumption | omega) (by first | assumption | omega) (by first | assumption | omega) (by first | assumption | omega)) ?_
     intro w52 hb53
     replace hb53 := chg_below hb53 g42
     refine l_val (v := Value.bool (!(decide (endsP p q (((gI (segS p) (i : Int)).1), ((gI (segS p) (i : Int)).2)) (((gI (segS q) (k : Int)).1), ((gI (segS q) (k : Int)).2)))))) (want_y rfl rfl rfl (congrArg Bool.not (decide_eq_false q59))) (e_not (b := (decide (endsP p q (((gI (segS p) (i : Int)).1), ((gI (segS p) (i : Int)).2)) (((gI (segS q) (k : Int)).1), ((gI (segS q) (k : Int)).2))))) rfl) ?_
     refine l_val (v := Value.bool (!(decide (endsP p q (((gI (segS p) (i : Int)).1), ((gI (segS p) (i : Int)).2)) (((gI (segS q) (k : Int)).1), ((gI (segS q) (k : Int)).2)))))) (want_y rfl rfl rfl (decide_eq_false q56)) (e_pick_t rfl (congrArg Bool.not (decide_eq_false q59)) rfl) ?_
     refine l_val (v := Value.bool (!(decide (endsP p q (((gI (segS p) (i : Int)).1), ((gI (segS p) (i : Int)).2)) (((gI (segS q) (k : Int)).1), ((gI (segS q) (k : Int)).2)))))) rfl (e_pick_f rfl (decide_eq_false q56) rfl) ?_
     refine l_nil ?_
     by_cases p11 : (decide (endsP p q (((gI (segS p) (i : Int)).1), ((gI (segS p) (i : Int)).2)) (((gI (segS q) (k : Int)).1), ((gI (segS q) (k : Int)).2)))) = true
     ·
      refine run_cond_f rfl (congrArg Bool.not p11) ?_
      refine run_skip ?_
      refine run_inBlock ?_
      clear bx46
      refine run_region rfl ?_
      refine l_val (v := Value.int .i64 ((k : Int) + 1)) rfl (e_add (m := (k : Int)) (n := 1) (by exact zs41) rfl (by omega)) ?_
      refine l_val (v := Value.int .i64 ((k : Int) + 1)) rfl (e_move rfl) ?_
      refine l_nil ?_
      have C54 : Chg (inl [4]) _ _ _ _ := (ch40.n).seq ((ch45.l rfl).seq ((hb48.n).seq (hb53.n)))
      replace hbase := hbase.chg C54 (is_nl rfl)
      replace r_p_v := r_p_v.chg hb53 (not_no _)
      replace r_q_v := r_q_v.chg hb53 (not_no _)
      replace o11 := o11.chg C54 (is_nl rfl) (is_nl rfl)
      replace o19 := o19.chg C54 (is_nl rfl) (is_nl rfl)
      replace bx34 := bx34.chg hb53 (not_no _)
      refine back8 (k + 1, g42) _ _ ⟨hbase, (by exact zs0), (by exact zs1), (by exact zs6), (by exact zs8), (by exact zs33), (by exact zs34), (by exact zs35), (by exact zs39), (by exact zs40), rfl, r_p_v, r_q_v, o11, o19, bx34, by omega, ?_⟩ ?_
      · show ∀ j_ : Nat, j_ < (k + 1) → ¬ badA p q (gI (segS p) (i : Int)) (gI (segS q) (j_ : Int))
        intro j hj
        by_cases e0 : j = k
        · subst e0; first | exact goodA0 (by assumption) (by assumption) | exact goodA1 (by assumption) (by assumption)
        · exact hrow j (by omega)
      · show Int.toNat (((List.length (segS q) : Int) : Int) - ((k + 1) : Int)) < Int.toNat (((List.length (segS q) : Int) : Int) - (k : Int))
        omega
     refine run_cond_t rfl (congrArg Bool.not (Bool.eq_false_iff.2 p11)) ?_
     refine run_seq ?_
     clear o11
     clear o19
     clear bx34
     clear bx46
     refine run_region rfl ?_
     refine l_val (v := Value.bool false) rfl (e_assign rfl) ?_
     refine l_val (v := Value.int .i64 0) rfl (e_assign rfl) ?_
     refine l_nil ?_
     refine run_ret (vs := [Value.bool false, Value.int .i64 0]) Try.func30 (.tmp rfl (.tmp rfl .nil)) ?_
     -- return 3
     have e0 : (false : Bool) = ((aptR p q).1) := by
       first
         | (rw [aptR_err (.inl (.inl (by assumption)))]; done)
         | (rw [aptR_err (.inl (.inr (by assumption)))]; done)
         | (rw [aptR_err (.inr (.inl (fun h => absurd (decide_eq_true h) (by assumption))))]; done)
         | (rw [aptR_err (.inr (.inr (fun h => absurd (decide_eq_true h) (by assumption))))]; done)
         | (rw [aptR_ok (by assumption) (by assumption) hokp hokq]; done)
         | (rw [aptR_ok (by assumption) (by assumption) hokp hokq]; exact app_yes hinv (by assumption))
         | (rw [aptR_ok (by assumption) (by assumption) hokp hokq]; exact app_bad (i := i) (k := k) (by assumption) (by assumption) (by first | exact badA3 (by assumption) | exact badA0 (by assumption) (by assumption)))
     have e1 : (0 : Int) = ((aptR p q).2) := by
       first
         | (rw [aptR_err (.inl (.inl (by assumption)))]; done)
         | (rw [aptR_err (.inl (.inr (by assumption)))]; done)
         | (rw [aptR_err (.inr (.inl (fun h => absurd (decide_eq_true h) (by assumption))))]; done)
         | (rw [aptR_err (.inr (.inr (fun h => absurd (decide_eq_true h) (by assumption))))]; done)
         | (rw [aptR_ok (by assumption) (by assumption) hokp hokq]; done)
         | (rw [aptR_ok (by assumption) (by assumption) hokp hokq]; exact app_yes hinv (by assumption))
         | (rw [aptR_ok (by assumption) (by assumption) hokp hokq]; exact app_bad (i := i) (k := k) (by assumption) (by assumption) (by first | exact badA3 (by assumption) | exact badA0 (by assumption) (by assumption)))
     have C55 : Chg (inl [4]) _ _ _ _ := (ch40.n).seq ((ch45.l rfl).seq ((hb48.n).seq (hb53.n)))
     replace hbase := hbase.chg C55 (is_nl rfl)
     exact ⟨(congr2 (a := false) (b := 0) (fun (z0 : Bool) (z1 : Int) => Ending.returned (Value.tuple (List.toArray [Value.bool z0, Value.int .i64 z1]))) e0 e1), hbase.below⟩
    refine run_cond_f rfl (decide_eq_false p8) ?_
    refine run_exit rfl ?_
    refine run_inBlock ?_
    clear bx34
    refine run_region rfl ?_
    refine l_val (v := Value.int .i64 ((i : Int) + 1)) rfl (e_add (m := (i : Int)) (n := 1) (by exact zs35) rfl (by omega)) ?_
    refine l_val (v := Value.int .i64 ((i : Int) + 1)) rfl (e_move rfl) ?_
    refine l_nil ?_
    refine back5 (i + 1, g38) _ _ ⟨hbase, (by exact zs0), (by exact zs1), (by exact zs6), (by exact zs33), (by exact zs34), rfl, r_p_v, r_q_v, o11, o19, by omega, ?_⟩ ?_
    · show ∀ j_ : Nat, j_ < (i + 1) → ∀ t_ ∈ segS q, ¬ badA p q (gI (segS p) (j_ : Int)) t_
      intro j hj
      by_cases e0 : j = i
      · subst e0; exact app_row hrow (by assumption)
      · exact hinv j (by omega)
    · show Int.toNat (((List.length (segS p) : Int) : Int) - ((i + 1) : Int)) < Int.toNat (((List.length (segS p) : Int) : Int) - (i : Int))
      omega
   refine run_cond_f rfl (decide_eq_false p5) ?_
   refine run_exit rfl ?_
   refine run_seq ?_
   clear o11
   clear o19
   refine run_region rfl ?_
   refine l_val (v := Value.bool true) rfl (e_assign rfl) ?_
   refine l_val (v := Value.int .i64 0) rfl (e_assign rfl) ?_
   refine l_nil ?_
   refine run_ret (vs := [Value.bool true, Value.int .i64 0]) Try.func30 (.tmp rfl (.tmp rfl .nil)) ?_
   -- return 4
   have e0 : (true : Bool) = ((aptR p q).1) := by
     first
       | (rw [aptR_err (.inl (.inl (by assumption)))]; done)
       | (rw [aptR_err (.inl (.inr (by assumption)))]; done)
       | (rw [aptR_err (.inr (.inl (fun h => absurd (decide_eq_true h) (by assumption))))]; done)
       | (rw [aptR_err (.inr (.inr (fun h => absurd (decide_eq_true h) (by assumption))))]; done)
       | (rw [aptR_ok (by assumption) (by assumption) hokp hokq]; done)
       | (rw [aptR_ok (by assumption) (by assumption) hokp hokq]; exact app_yes hinv (by assumption))
       | (rw [aptR_ok (by assumption) (by assumption) hokp hokq]; exact app_bad (i := i) (k := k) (by assumption) (by assumption) (by first | exact badA3 (by assumption) | exact badA0 (by assumption) (by assumption)))
   have e1 : (0 : Int) = ((aptR p q).2) := by
     first
       | (rw [aptR_err (.inl (.inl (by assumption)))]; done)
       | (rw [aptR_err (.inl (.inr (by assumption)))]; done)
       | (rw [aptR_err (.inr (.inl (fun h => absurd (decide_eq_true h) (by assumption))))]; done)
       | (rw [aptR_err (.inr (.inr (fun h => absurd (decide_eq_true h) (by assumption))))]; done)
       | (rw [aptR_ok (by assumption) (by assumption) hokp hokq]; done)
       | (rw [aptR_ok (by assumption) (by assumption) hokp hokq]; exact app_yes hinv (by assumption))
       | (rw [aptR_ok (by assumption) (by assumption) hokp hokq]; exact app_bad (i := i) (k := k) (by assumption) (by assumption) (by first | exact badA3 (by assumption) | exact badA0 (by assumption) (by assumption)))
   exact ⟨(congr2 (a := true) (b := 0) (fun (z0 : Bool) (z1 : Int) => Ending.returned (Value.tuple (List.toArray [Value.bool z0, Value.int .i64 z1]))) e0 e1), hbase.below⟩
  refine run_cond_t rfl (congrArg Bool.not (Bool.eq_false_iff.2 p1)) ?_
  refine run_seq (run_region rfl ?_)
  refine l_val (v := Value.bool false) rfl (e_assign rfl) ?_
  refine l_val (v := Value.int .i64 1) rfl (e_assign rfl) ?_
  refine l_nil ?_
  refine run_ret (vs := [Value.bool false, Value.int .i64 1]) Try.func30 (.tmp rfl (.tmp rfl .nil)) ?_
  -- return 5
  have e0 : (false : Bool) = ((aptR p q).1) := by
    first
      | (rw [aptR_err (.inl (.inl (by assumption)))]; done)
      | (rw [aptR_err (.inl (.inr (by assumption)))]; done)
      | (rw [aptR_err (.inr (.inl (fun h => absurd (decide_eq_true h) (by assumption))))]; done)
      | (rw [aptR_err (.inr (.inr (fun h => absurd (decide_eq_true h) (by assumption))))]; done)
      | (rw [aptR_ok (by assumption) (by assumption) hokp hokq]; done)
      | (rw [aptR_ok (by assumption) (by assumption) hokp hokq]; exact app_yes hinv (by assumption))
      | (rw [aptR_ok (by assumption) (by assumption) hokp hokq]; exact app_bad (i := i) (k := k) (by assumption) (by assumption) (by first | exact badA3 (by assumption) | exact badA0 (by assumption) (by assumption)))
  have e1 : (1 : Int) = ((aptR p q).2) := by
    first
      | (rw [aptR_err (.inl (.inl (by assumption)))]; done)
      | (rw [aptR_err (.inl (.inr (by assumption)))]; done)
      | (rw [aptR_err (.inr (.inl (fun h => absurd (decide_eq_true h) (by assumption))))]; done)
      | (rw [aptR_err (.inr (.inr (fun h => absurd (decide_eq_true h) (by assumption))))]; done)
      | (rw [aptR_ok (by assumption) (by assumption) hokp hokq]; done)
      | (rw [aptR_ok (by assumption) (by assumption) hokp hokq]; exact app_yes hinv (by assumption))
      | (rw [aptR_ok (by assumption) (by assumption) hokp hokq]; exact app_bad (i := i) (k := k) (by assumption) (by assumption) (by first | exact badA3 (by assumption) | exact badA0 (by assumption) (by assumption)))
  replace hbase := hbase.chg hb4 (not_no _)
  replace hbase := hbase.chg hb6 (not_no _)
  exact ⟨(congr2 (a := false) (b := 1) (fun (z0 : Bool) (z1 : Int) => Ending.returned (Value.tuple (List.toArray [Value.bool z0, Value.int .i64 z1]))) e0 e1), hbase.below⟩
 refine l_skip (want_n rfl rfl rfl (congrArg Bool.not (Bool.eq_false_iff.2 q25))) ?_
 refine l_skip (want_n rfl rfl rfl (congrArg Bool.not (Bool.eq_false_iff.2 q25))) ?_
 refine l_skip (want_n rfl rfl rfl (congrArg Bool.not (Bool.eq_false_iff.2 q25))) ?_
 refine l_val (v := Value.bool true) rfl (e_pick_t rfl (congrArg Bool.not (Bool.eq_false_iff.2 q25)) rfl) ?_
 refine l_nil ?_
 refine run_cond_t rfl rfl ?_
 refine run_seq (run_region rfl ?_)
 refine l_val (v := Value.bool false) rfl (e_assign rfl) ?_
 refine l_val (v := Value.int .i64 1) rfl (e_assign rfl) ?_
 refine l_nil ?_
 refine run_ret (vs := [Value.bool false, Value.int .i64 1]) Try.func30 (.tmp rfl (.tmp rfl .nil)) ?_
 -- return 6
 have e0 : (false : Bool) = ((aptR p q).1) := by
   first
     | (rw [aptR_err (.inl (.inl (by assumption)))]; done)
     | (rw [aptR_err (.inl (.inr (by assumption)))]; done)
     | (rw [aptR_err (.inr (.inl (fun h => absurd (decide_eq_true h) (by assumption))))]; done)
     | (rw [aptR_err (.inr (.inr (fun h => absurd (decide_eq_true h) (by assumption))))]; done)
     | (rw [aptR_ok (by assumption) (by assumption) hokp hokq]; done)
     | (rw [aptR_ok (by assumption) (by assumption) hokp hokq]; exact app_yes hinv (by assumption))
     | (rw [aptR_ok (by assumption) (by assumption) hokp hokq]; exact app_bad (i := i) (k := k) (by assumption) (by assumption) (by first | exact badA3 (by assumption) | exact badA0 (by assumption) (by assumption)))
 have e1 : (1 : Int) = ((aptR p q).2) := by
   first
     | (rw [aptR_err (.inl (.inl (by assumption)))]; done)
     | (rw [aptR_err (.inl (.inr (by assumption)))]; done)
     | (rw [aptR_err (.inr (.inl (fun h => absurd (decide_eq_true h) (by assumption))))]; done)
     | (rw [aptR_err (.inr (.inr (fun h => absurd (decide_eq_true h) (by assumption))))]; done)
     | (rw [aptR_ok (by assumption) (by assumption) hokp hokq]; done)
     | (rw [aptR_ok (by assumption) (by assumption) hokp hokq]; exact app_yes hinv (by assumption))
     | (rw [aptR_ok (by assumption) (by assumption) hokp hokq]; exact app_bad (i := i) (k := k) (by assumption) (by assumption) (by first | exact badA3 (by assumption) | exact badA0 (by assumption) (by assumption)))
 replace hbase := hbase.chg hb4 (not_no _)
 exact ⟨(congr2 (a := false) (b := 1) (fun (z0 : Bool) (z1 : Int) => Ending.returned (Value.tuple (List.toArray [Value.bool z0, Value.int .i64 z1]))) e0 e1), hbase.below⟩
end TL
