import Derived.Test.YtifpjbjhkabhgaaTlGmA
import Derived.Test.YtifpjbjhkabhgaaTlGmN
import Derived.Test.YtifpjbjhkabhgaaTlGeomX
import Derived.Test.YtifpjbjhkabhgaaTlGeomF
import Derived.Test.YtifpjbjhkabhgaaProg
import Derived.Test.YtifpjbjhkabhgaaTlNet2
import Derived.Test.YtifpjbjhkabhgaaTlEq
import Derived.Test.YtifpjbjhkabhgaaTlHold
import Derived.Test.YtifpjbjhkabhgaaTlDraw
import Derived.Test.YtifpjbjhkabhgaaTlMap
set_option linter.all false
set_option maxRecDepth 20000
namespace TL
open Go Go.Proofs
theorem mixed_gv : Try.prog.follows .mixedOrders = true := by kernel_rfl
theorem tp3_gv : Tp Try.prog 3 false 1 8 (.int .i64 0) := Tp.of (by kernel_rfl)
theorem tp23_gv : Tp Try.prog 23 true 2 16 (.agg #[.int .i64 0, .int .i64 0]) := Tp.of (by kernel_rfl)
theorem tp70_gv : Tp Try.prog 70 true 4 32 (.agg #[.int .i64 0, .int .i64 0, .int .i64 0, .int .i64 0]) := Tp.of (by kernel_rfl)
theorem bd14_gv : Try.f14.body.isNone = false := rfl
theorem nm14_gv : (Try.f14.name == "runtime.NumGoroutine") = false := by decide +kernel
theorem bd23_gv : Try.f23.body.isNone = false := rfl
theorem nm23_gv : (Try.f23.name == "runtime.NumGoroutine") = false := by decide +kernel

theorem GTwin_ok (w0 : World) (ps : List ((Int) × (Int))) (ps_v : Value) (hps_v : Ro w0 ps_v ps) (hlen : ps.length ≤ 1000000) :
    Calls Try.prog 17 #[ps_v] w0 (fun ee w => ∃ xx : Cmap × Value, ee = .returned ((fun ⟨δ, rv0⟩ => rv0) xx) ∧ (fun (⟨δ, rv0⟩ : Cmap × Value) (w : World) => Fresh w0 δ w ∧ Ow δ (is 1) (is 1) w (upV rv0) (ps ++ [((-7 : Int), (7 : Int))])) xx w) := by
 refine calls_of_run Try.func17 rfl (Nat.le_of_ble_eq_true rfl) ?_
 have hbase := Base.start w0
 have r_ps_v := hps_v.sl
 refine run_seq (run_region rfl ?_)
 refine l_val (v := Value.slice none 0 0) rfl (e_assign rfl) ?_
 refine l_nil (run_seq (run_region rfl ?_))
 refine l_val (v := ps_v) rfl (e_move rfl) ?_
 refine l_op rfl ?_
 refine o_append (α := (Int) × (Int)) (xs := ([])) (ys := ps) c0 (J := is 1) (S := is 1) (1, 0) rfl Try.underlying25 tp23_gv (by decide) rfl rfl rfl Ow.nil r_ps_v (by decide) (by first | omega | (simp; done) | (simp; omega)) ?_
 intro g1 w2 v3 ch4 o5
 replace o5 : Ow g1 (is 1) (is 1) w2 v3 ps := o5
 refine l_op rfl ?_
 refine o_call (v := Value.agg (List.toArray [Value.int .i64 (-7), Value.int .i64 7])) (e_call (vals := [Value.int .i64 (-7), Value.int .i64 7]) Try.func14 bd14_gv nm14_gv rfl) (pt_ok w2 (-7) 7) ?_
 intro w6 hb7
 replace hb7 := chg_below hb7 g1
 refine l_op rfl ?_
 refine o_buildSlice (α := (Int) × (Int)) g1 (is 2) (is 2) (2, 0) rfl [((-7), 7)] Try.underlying25 tp23_gv (by decide) (by decide) (vs := [(0, Value.agg (List.toArray [Value.int .i64 (-7), Value.int .i64 7]))]) rfl rfl (.cons rfl .nil) ?_
 intro g8 w9 v10 ch11 o12
 refine l_op rfl ?_
 replace o5 := (o5.chg hb7 (not_no _) (not_no _)).chg ch11 (not_no _) (not_no _)
 refine o_append (α := (Int) × (Int)) (xs := ps) (ys := ([((-7), 7)])) g8 (J := is 1) (S := is 1) (1, 0) rfl Try.underlying25 tp23_gv (by decide) rfl rfl rfl o5 o12.flat (by decide) (by first | omega | (simp; done) | (simp; omega)) ?_
 intro g13 w14 v15 ch16 o17
 clear o5
 refine l_val (v := ps_v) rfl (e_move rfl) ?_
 have C18 : Chg (inl [1]) _ _ _ _ := (ch4.l rfl).seq ((hb7.n).seq ((ch11.n).seq (ch16.l rfl)))
 replace r_ps_v := r_ps_v.chg C18 (is_nl rfl)
 have len19 := (r_ps_v).small
 refine l_val (v := Value.int .i64 (List.length ps : Int)) rfl (e_len Try.underlying25 rfl r_ps_v) ?_
 refine l_val (v := (subV v15 2 (Int.toNat 0) (Int.toNat (List.length ps : Int)))) rfl (e_slice (α := (Int) × (Int)) (xs := (ps ++ [((-7), 7)])) (v := v15) (l := 0) (h := (List.length ps : Int)) Try.underlying25 rfl rfl o17.flat (.inr ⟨rfl, rfl⟩) (.inl (congrArg some rfl)) (by first | omega | (simp only [List.length_append, List.length_cons, List.length_nil]; omega)) (by first | omega | (simp only [List.length_append, List.length_cons, List.length_nil]; omega)) (by first | omega | (simp only [List.length_append, List.length_cons, List.length_nil]; omega))) ?_
 have r21 := sl_sub o17.flat (show Int.toNat 0 ≤ Int.toNat (List.length ps : Int) by first | omega | (simp only [List.length_append, List.length_cons, List.length_nil]; omega)) (show Int.toNat (List.length ps : Int) ≤ List.length _ by first | omega | (simp only [List.length_append, List.length_cons, List.length_nil]; omega))
 refine l_val (v := (subV v15 2 (Int.toNat 0) (Int.toNat (List.length ps : Int)))) rfl (e_assign rfl) ?_
 refine l_nil ?_
 refine run_ret (vs := [(subV v15 2 (Int.toNat 0) (Int.toNat (List.length ps : Int)))]) Try.func17 (.tmp rfl .nil) ?_
 -- return 0
 replace hbase := hbase.chg C18 (is_nl rfl)
 have e0 : ((List.drop (Int.toNat 0) (List.take (Int.toNat (List.length ps : Int)) (ps ++ [((-7), 7)]))) : List ((Int) × (Int))) = (ps) := by
   simp
 exact ⟨(fin w0 g13 (fun n => if n = 1 then 1 else 0), (subV v15 2 (Int.toNat 0) (Int.toNat (List.length ps : Int)))), (congrArg (a₁ := (List.drop (Int.toNat 0) (List.take (Int.toNat (List.length ps : Int)) (ps ++ [((-7), 7)])))) (fun (z0 : List ((Int) × (Int))) => Ending.returned ((subV v15 2 (Int.toNat 0) (Int.toNat (List.length ps : Int))))) e0), hbase.fresh _, (upV_sub (o17.glue (γ := c0) (ren := (fun n => if n = 1 then 1 else 0)) (k := 1) hbase.col rfl rfl) (by simp))⟩

theorem GKept_ok (w0 : World) (t : List ((Int) × (Int))) (t_v : Value) (ht_v : Ro w0 t_v t) (ps : List ((Int) × (Int))) (ps_v : Value) (hps_v : Ro w0 ps_v ps) (hmark : Ro w0 (upV t_v) (t ++ [((-7 : Int), (7 : Int))])) (he : t = ps) :
    Calls Try.prog 19 #[t_v, ps_v] w0 (fun ee w => ee = .returned (Value.bool true) ∧ Bel w0.heap.size w0 w) := by
 refine calls_of_run Try.func19 rfl (Nat.le_of_ble_eq_true rfl) ?_
 have hbase := Base.start w0
 have r_t_v := ht_v.sl
 have r_ps_v := hps_v.sl
 have r_up := hmark.sl
 have htl : t.length = ps.length := by rw [he]
 refine run_seq (run_region rfl ?_)
 refine l_val (v := Value.bool false) rfl (e_assign rfl) ?_
 refine l_nil (run_seq (run_seq (run_region rfl ?_)))
 refine l_val (v := Value.int .i64 0) rfl (e_assign rfl) ?_
 refine l_nil ?_
 refine run_block ?_
 refine run_loop (σ := Nat × Cmap) (fun ⟨i, gq⟩ f w => Base w0 gq w ∧ f 0 = t_v ∧ f 1 = ps_v ∧ f 5 = Value.int .i64 (i : Int) ∧ Sl gq (is 0) w t_v t ∧ Sl gq (is 0) w ps_v ps ∧ Sl gq (is 0) w (upV t_v) (t ++ [((-7 : Int), (7 : Int))]) ∧ (i : Int) ≤ ((List.length ps : Int) : Int) ∧ (True)) (fun ⟨i, gq⟩ => Int.toNat (((List.length ps : Int) : Int) - (i : Int))) (0, c0) ?_ ?_
 · exact ⟨hbase, rfl, rfl, rfl, r_t_v, r_ps_v, r_up, by omega, by trivial⟩
 clear r_t_v
 clear r_ps_v
 clear r_up
 clear hbase
 rintro ⟨i, g3⟩ f1 w2 ⟨hbase, zs0, zs1, zs5, r_t_v, r_ps_v, r_up, hle_i, hinv2⟩ back2
 refine run_seq (run_seq (run_region rfl ?_))
 refine l_val (v := Value.int .i64 (i : Int)) rfl (e_move (by exact zs5)) ?_
 refine l_val (v := ps_v) rfl (e_move (by exact zs1)) ?_
 have len4 := (r_ps_v).small
 refine l_val (v := Value.int .i64 (List.length ps : Int)) rfl (e_len Try.underlying25 rfl r_ps_v) ?_
 refine l_val (v := Value.bool (decide ((i : Int) < (List.length ps : Int)))) rfl (e_lss (m := (i : Int)) (n := (List.length ps : Int)) rfl rfl) ?_
 refine l_nil ?_
 by_cases p2 : (i : Int) < (List.length ps : Int)
 ·
  refine run_cond_t rfl (decide_eq_true p2) ?_
  refine run_skip ?_
  refine run_seq ?_
  refine run_block ?_
  refine run_seq ?_
  refine region_q g3 rfl mixed_gv (by kernel_rfl) ?_
  intro w6 ch5
  refine q_val (v := t_v) rfl (fun w' hw' => e_move (by exact zs0)) ?_
  refine q_val (v := Value.int .i64 (i : Int)) rfl (fun w' hw' => e_move (by exact zs5)) ?_
  replace r_t_v := r_t_v.chg ch5 (not_no _)
  refine q_val (v := Value.pointer (some (eAddr t_v 2 (Int.toNat (i : Int))))) rfl (fun w' hw' => e_indexAddr (α := (Int) × (Int)) (xs := t) (v := t_v) (i := (i : Int)) Try.underlying25 rfl rfl (r_t_v.bel hw') rfl (by omega) (by omega)) ?_
  refine q_val (v := Value.agg (List.toArray [Value.int .i64 ((gI t (i : Int)).1), Value.int .i64 ((gI t (i : Int)).2)])) rfl (fun w' hw' => e_load_elN (α := (Int) × (Int)) (xs := t) (v := t_v) (i := (i : Int)) tp23_gv rfl (r_t_v.bel hw') (by omega) (by omega) rfl) ?_
  refine q_val (v := ps_v) rfl (fun w' hw' => e_move (by exact zs1)) ?_
  refine q_val (v := Value.int .i64 (i : Int)) rfl (fun w' hw' => e_move (by exact zs5)) ?_
  replace r_ps_v := r_ps_v.chg ch5 (not_no _)
  refine q_val (v := Value.pointer (some (eAddr ps_v 2 (Int.toNat (i : Int))))) rfl (fun w' hw' => e_indexAddr (α := (Int) × (Int)) (xs := ps) (v := ps_v) (i := (i : Int)) Try.underlying25 rfl rfl (r_ps_v.bel hw') rfl (by omega) (by omega)) ?_
  refine q_val (v := Value.agg (List.toArray [Value.int .i64 ((gI ps (i : Int)).1), Value.int .i64 ((gI ps (i : Int)).2)])) rfl (fun w' hw' => e_load_elN (α := (Int) × (Int)) (xs := ps) (v := ps_v) (i := (i : Int)) tp23_gv rfl (r_ps_v.bel hw') (by omega) (by omega) rfl) ?_
  refine q_val (v := Value.bool (!(decide ((gI t (i : Int)) = (gI ps (i : Int)))))) rfl (fun w' hw' => e_neq_struct (bs := [decide (((gI t (i : Int)).1) = ((gI ps (i : Int)).1)), decide (((gI t (i : Int)).2) = ((gI ps (i : Int)).2))]) Try.underlying23 (by kernel_rfl) (by kernel_rfl) rfl rfl (.cons (by decide +kernel) tp3_gv rfl rfl (.int Try.underlying3) (.cons (by decide +kernel) tp3_gv rfl rfl (.int Try.underlying3) .nil)) (by simp [Prod.ext_iff, Bool.decide_and, Bool.and_assoc])) ?_
  refine q_nil ?_
  intro w7 hc8
  replace hc8 := chg_below hc8 g3
  have p4 : (gI t (i : Int)) = (gI ps (i : Int)) := by first | (rw [he]; done) | omega
  refine run_cond_f rfl (congrArg Bool.not (decide_eq_true p4)) ?_
  refine run_skip ?_
  refine run_inBlock ?_
  refine run_region rfl ?_
  refine l_val (v := Value.int .i64 (i : Int)) rfl (e_move (by exact zs5)) ?_
  refine l_val (v := Value.int .i64 ((i : Int) + 1)) rfl (e_add (m := (i : Int)) (n := 1) rfl rfl (by omega)) ?_
  refine l_val (v := Value.int .i64 ((i : Int) + 1)) rfl (e_assign rfl) ?_
  refine l_nil ?_
  replace hbase := hbase.chg ch5 (not_no _)
  replace hbase := hbase.chg hc8 (not_no _)
  replace r_t_v := r_t_v.chg hc8 (not_no _)
  replace r_ps_v := r_ps_v.chg hc8 (not_no _)
  replace r_up := (r_up.chg ch5 (not_no _)).chg hc8 (not_no _)
  refine back2 (i + 1, g3) _ _ ⟨hbase, (by exact zs0), (by exact zs1), rfl, r_t_v, r_ps_v, r_up, by omega, ?_⟩ ?_
  · show True
    trivial
  · show Int.toNat (((List.length ps : Int) : Int) - ((i + 1) : Int)) < Int.toNat (((List.length ps : Int) : Int) - (i : Int))
    omega
 refine run_cond_f rfl (decide_eq_false p2) ?_
 refine run_exit rfl ?_
 refine run_seq ?_
 refine region_q g3 rfl mixed_gv (by kernel_rfl) ?_
 intro w10 ch9
 refine q_val (v := t_v) rfl (fun w' hw' => e_move (by exact zs0)) ?_
 replace r_t_v := r_t_v.chg ch9 (not_no _)
 have len11 := (r_t_v).small
 refine q_val (v := Value.int .i64 (List.length t : Int)) rfl (fun w' hw' => e_len Try.underlying25 rfl (r_t_v.bel hw')) ?_
 refine q_val (v := ps_v) rfl (fun w' hw' => e_move (by exact zs1)) ?_
 replace r_ps_v := r_ps_v.chg ch9 (not_no _)
 refine q_val (v := Value.int .i64 (List.length ps : Int)) rfl (fun w' hw' => e_len Try.underlying25 rfl (r_ps_v.bel hw')) ?_
 refine q_val (v := Value.bool (decide ((List.length t : Int) = (List.length ps : Int)))) rfl (fun w' hw' => e_eql (m := (List.length t : Int)) (n := (List.length ps : Int)) rfl rfl) ?_
 refine q_val (v := Value.bool (decide ((List.length t : Int) = (List.length ps : Int)))) rfl (fun w' hw' => e_move rfl) ?_
 have q26 : (List.length t : Int) = (List.length ps : Int) := by first | (rw [he]; done) | omega
 refine q_val (v := t_v) (want_y rfl rfl rfl (decide_eq_true q26)) (fun w' hw' => e_move (by exact zs0)) ?_
 refine q_val (v := ps_v) (want_y rfl rfl rfl (decide_eq_true q26)) (fun w' hw' => e_move (by exact zs1)) ?_
 refine q_val (v := Value.int .i64 (List.length ps : Int)) (want_y rfl rfl rfl (decide_eq_true q26)) (fun w' hw' => e_len Try.underlying25 rfl (r_ps_v.bel hw')) ?_
 refine q_val (v := Value.int .i64 ((List.length ps : Int) + 1)) (want_y rfl rfl rfl (decide_eq_true q26)) (fun w' hw' => e_add (m := (List.length ps : Int)) (n := 1) rfl rfl (by omega)) ?_
 replace r_up := r_up.chg ch9 (not_no _)
 refine q_val (v := (upV t_v)) (want_y rfl rfl rfl (decide_eq_true q26)) (fun w' hw' => e_slice_up (α := Int × Int) Try.underlying25 rfl rfl (r_up.bel hw') rfl (by omega)) ?_
 refine q_val (v := ps_v) (want_y rfl rfl rfl (decide_eq_true q26)) (fun w' hw' => e_move (by exact zs1)) ?_
 refine q_val (v := Value.int .i64 (List.length ps : Int)) (want_y rfl rfl rfl (decide_eq_true q26)) (fun w' hw' => e_len Try.underlying25 rfl (r_ps_v.bel hw')) ?_
 refine q_val (v := Value.pointer (some (eAddr (upV t_v) 2 (Int.toNat (List.length ps : Int))))) (want_y rfl rfl rfl (decide_eq_true q26)) (fun w' hw' => e_indexAddr (α := (Int) × (Int)) (xs := t ++ [((-7 : Int), (7 : Int))]) (v := (upV t_v)) (i := (List.length ps : Int)) Try.underlying25 rfl rfl (r_up.bel hw') rfl (by (first | omega | (simp only [List.length_append, List.length_cons, List.length_nil]; omega))) (by (first | omega | (simp only [List.length_append, List.length_cons, List.length_nil]; omega)))) ?_
 refine q_val (v := Value.agg (List.toArray [Value.int .i64 ((gI (t ++ [((-7 : Int), (7 : Int))]) (List.length ps : Int)).1), Value.int .i64 ((gI (t ++ [((-7 : Int), (7 : Int))]) (List.length ps : Int)).2)])) (want_y rfl rfl rfl (decide_eq_true q26)) (fun w' hw' => e_load_elN (α := (Int) × (Int)) (xs := t ++ [((-7 : Int), (7 : Int))]) (v := (upV t_v)) (i := (List.length ps : Int)) tp23_gv rfl (r_up.bel hw') (by (first | omega | (simp only [List.length_append, List.length_cons, List.length_nil]; omega))) (by (first | omega | (simp only [List.length_append, List.length_cons, List.length_nil]; omega))) rfl) ?_
 refine q_call (v := Value.agg (List.toArray [Value.int .i64 (-7), Value.int .i64 7])) (want_y rfl rfl rfl (decide_eq_true q26)) (fun w' hw' => e_call (vals := [Value.int .i64 (-7), Value.int .i64 7]) Try.func14 bd14_gv nm14_gv rfl) (fun w' hw' => (pt_ok w' (-7) 7).mono fun e w2 h2 => ⟨h2.1, hw'.trans (h2.2.mono hw'.size)⟩) ?_
 refine q_val (v := Value.bool (decide ((gI (t ++ [((-7 : Int), (7 : Int))]) (List.length ps : Int)) = ((-7), 7)))) (want_y rfl rfl rfl (decide_eq_true q26)) (fun w' hw' => e_eql_struct (bs := [decide (((gI (t ++ [((-7 : Int), (7 : Int))]) (List.length ps : Int)).1) = (-7)), decide (((gI (t ++ [((-7 : Int), (7 : Int))]) (List.length ps : Int)).2) = 7)]) Try.underlying23 (by kernel_rfl) (by kernel_rfl) rfl rfl (.cons (by decide +kernel) tp3_gv rfl rfl (.int Try.underlying3) (.cons (by decide +kernel) tp3_gv rfl rfl (.int Try.underlying3) .nil)) (by simp [Prod.ext_iff, Bool.decide_and, Bool.and_assoc])) ?_
 refine q_val (v := Value.bool (decide ((gI (t ++ [((-7 : Int), (7 : Int))]) (List.length ps : Int)) = ((-7), 7)))) rfl (fun w' hw' => e_pick_t rfl (decide_eq_true q26) rfl) ?_
 refine q_val (v := Value.bool (decide ((gI (t ++ [((-7 : Int), (7 : Int))]) (List.length ps : Int)) = ((-7), 7)))) rfl (fun w' hw' => e_assign rfl) ?_
 refine q_nil ?_
 intro w12 hc13
 replace hc13 := chg_below hc13 g3
 refine run_ret (vs := [Value.bool (decide ((gI (t ++ [((-7 : Int), (7 : Int))]) (List.length ps : Int)) = ((-7), 7)))]) Try.func19 (.tmp rfl .nil) ?_
 -- return 0
 have e0 : (decide ((gI (t ++ [((-7 : Int), (7 : Int))]) (List.length ps : Int)) = ((-7), 7)) : Bool) = (true) := by
   first
     | rfl
     | (rw [← htl, gI_mark]; rfl)
     | (simp [← htl, gI_mark]; done)
 replace hbase := hbase.chg ch9 (not_no _)
 replace hbase := hbase.chg hc13 (not_no _)
 exact ⟨(congrArg (a₁ := decide ((gI (t ++ [((-7 : Int), (7 : Int))]) (List.length ps : Int)) = ((-7), 7))) (fun (z0 : Bool) => Ending.returned (Value.bool z0)) e0), hbase.below⟩

set_option maxHeartbeats 1000000 in
theorem D2Area_ok (w0 : World) (ps : List ((Int) × (Int))) (ps_v : Value) (hps_v : Ro w0 ps_v ps) (hok : okL ps) :
    Calls Try.prog 31 #[ps_v] w0 (fun ee w => ee = .returned (Value.int .i64 (areaI ps)) ∧ Bel w0.heap.size w0 w) := by
 refine calls_of_run Try.func31 rfl (Nat.le_of_ble_eq_true rfl) ?_
 have hbase := Base.start w0
 have r_ps_v := hps_v.sl
 obtain ⟨hl1, hl2⟩ := hok
 refine run_seq (run_region rfl ?_)
 refine l_val (v := Value.int .i64 0) rfl (e_assign rfl) ?_
 refine l_nil (run_seq (run_region rfl ?_))
 refine l_val (v := Value.int .i64 0) rfl (e_assign rfl) ?_
 refine l_nil (run_seq (run_seq (run_region rfl ?_)))
 refine l_val (v := ps_v) rfl (e_move rfl) ?_
 have len1 := (r_ps_v).small
 refine l_val (v := Value.int .i64 (List.length ps : Int)) rfl (e_len Try.underlying25 rfl r_ps_v) ?_
 refine l_val (v := Value.bool (decide ((List.length ps : Int) < 3))) rfl (e_lss (m := (List.length ps : Int)) (n := 3) rfl rfl) ?_
 refine l_nil ?_
 by_cases p2 : (List.length ps : Int) < 3
 ·
  refine run_cond_t rfl (decide_eq_true p2) ?_
  refine run_seq (run_region rfl ?_)
  refine l_val (v := Value.int .i64 0) rfl (e_assign rfl) ?_
  refine l_nil ?_
  refine run_ret (vs := [Value.int .i64 0]) Try.func31 (.tmp rfl .nil) ?_
  -- return 0
  have e0 : (0 : Int) = (areaI ps) := by
    unfold areaI
    first
      | (rw [if_pos (by assumption)]; done)
      | (rw [if_neg (by assumption), hinv, show k = ps.length by omega]; done)
  exact ⟨(congrArg (a₁ := 0) (fun (z0 : Int) => Ending.returned (Value.int .i64 z0)) e0), hbase.below⟩
 refine run_cond_f rfl (decide_eq_false p2) ?_
 refine run_skip ?_
 refine run_seq (run_seq (run_region rfl ?_))
 refine l_val (v := Value.int .i64 0) rfl (e_assign rfl) ?_
 refine l_nil ?_
 refine run_block ?_
 refine run_loop (σ := Int × Nat × Cmap) (fun ⟨n, k, gq⟩ f w => Base w0 gq w ∧ f 0 = ps_v ∧ f 3 = Value.int .i64 n ∧ f 4 = Value.int .i64 (k : Int) ∧ Sl gq (is 0) w ps_v ps ∧ (k : Int) ≤ ((List.length ps : Int) : Int) ∧ (n = areaK ps k)) (fun ⟨n, k, gq⟩ => Int.toNat (((List.length ps : Int) : Int) - (k : Int))) (0, 0, c0) ?_ ?_
 · exact ⟨hbase, rfl, rfl, rfl, r_ps_v, by omega, by rfl⟩
 clear r_ps_v
 clear hbase
 rintro ⟨n, k, g4⟩ f2 w3 ⟨hbase, zs0, zs3, zs4, r_ps_v, hle_k, hinv⟩ back5
 refine run_seq (run_seq (run_region rfl ?_))
 refine l_val (v := Value.int .i64 (k : Int)) rfl (e_move (by exact zs4)) ?_
 refine l_val (v := ps_v) rfl (e_move (by exact zs0)) ?_
 refine l_val (v := Value.int .i64 (List.length ps : Int)) rfl (e_len Try.underlying25 rfl r_ps_v) ?_
 refine l_val (v := Value.bool (decide ((k : Int) < (List.length ps : Int)))) rfl (e_lss (m := (k : Int)) (n := (List.length ps : Int)) rfl rfl) ?_
 refine l_nil ?_
 by_cases p5 : (k : Int) < (List.length ps : Int)
 ·
  refine run_cond_t rfl (decide_eq_true p5) ?_
  have hbd := areaK_bd hl2 k (by omega)
  have he1 := Int.emod_nonneg ((k : Int) + 1) (show ((ps.length : Nat) : Int) ≠ 0 by omega)
  have he2 := Int.emod_lt_of_pos ((k : Int) + 1) (show (0 : Int) < ((ps.length : Nat) : Int) by omega)
  have hp1 := hl2 _ (gI_mem (xs := ps) (i := (k : Int)) (by omega) (by omega))
  have hp2 := hl2 _ (gI_mem (xs := ps) he1 he2)
  unfold okP at hp1 hp2
  have m1 := mul_bd (x := (gI ps (k : Int)).1) (y := (gI ps (((k : Int) + 1) % (ps.length : Int))).2) (by omega) (by omega)
  have m2 := mul_bd (x := (gI ps (((k : Int) + 1) % (ps.length : Int))).1) (y := (gI ps (k : Int)).2) (by omega) (by omega)
  refine run_skip ?_
  refine run_seq ?_
  refine run_block ?_
  refine run_seq ?_
  refine region_midh (σ := Nat × Nat × Cmap) (fun ⟨b9, b15, gq⟩ f w => Base w0 gq w ∧ f 0 = ps_v ∧ f 3 = Value.int .i64 n ∧ f 4 = Value.int .i64 (k : Int) ∧ f 5 = Value.pointer (some ⟨b9, 0, none⟩) ∧ f 6 = Value.pointer (some ⟨b15, 0, none⟩) ∧ Sl gq (is 0) w ps_v ps ∧ Bx gq (is 1) w b9 [Value.int .i64 ((gI ps (k : Int)).1), Value.int .i64 ((gI ps (k : Int)).2)] ∧ Bx gq (is 2) w b15 [Value.int .i64 ((gI ps (((k : Int) + 1) % (List.length ps : Int))).1), Value.int .i64 ((gI ps (((k : Int) + 1) % (List.length ps : Int))).2)]) g4 (inl [1, 2]) mixed_gv ?_ ?_
  ·
   intro mid
   intro w6 ch5
   refine h_take (v := ps_v) 0 rfl (by kernel_rfl) (by kernel_rfl) rfl (Chg.refl _ _ _) (fun w' hw' => e_move (by exact zs0)) ?_
   refine h_take (v := Value.int .i64 (k : Int)) 1 rfl (by kernel_rfl) (by kernel_rfl) rfl (Chg.refl _ _ _) (fun w' hw' => e_move (by exact zs4)) ?_
   replace r_ps_v := r_ps_v.chg ch5 (not_no _)
   refine h_take (v := Value.pointer (some (eAddr ps_v 2 (Int.toNat (k : Int))))) 2 rfl (by kernel_rfl) (by kernel_rfl) rfl (Chg.refl _ _ _) (fun w' hw' => e_indexAddr (α := (Int) × (Int)) (xs := ps) (v := ps_v) (i := (k : Int)) Try.underlying25 rfl rfl (r_ps_v.chg hw' (is_nl rfl)) rfl (by omega) (by omega)) ?_
   refine h_take (v := Value.agg (List.toArray [Value.int .i64 ((gI ps (k : Int)).1), Value.int .i64 ((gI ps (k : Int)).2)])) 3 rfl (by kernel_rfl) (by kernel_rfl) rfl (Chg.refl _ _ _) (fun w' hw' => e_load_elN (α := (Int) × (Int)) (xs := ps) (v := ps_v) (i := (k : Int)) tp23_gv rfl (r_ps_v.chg hw' (is_nl rfl)) (by omega) (by omega) rfl) ?_
   refine h_take (v := ps_v) 4 rfl (by kernel_rfl) (by kernel_rfl) rfl (Chg.refl _ _ _) (fun w' hw' => e_move (by exact zs0)) ?_
   refine h_take (v := Value.int .i64 (k : Int)) 5 rfl (by kernel_rfl) (by kernel_rfl) rfl (Chg.refl _ _ _) (fun w' hw' => e_move (by exact zs4)) ?_
   refine h_take (v := Value.int .i64 ((k : Int) + 1)) 6 rfl (by kernel_rfl) (by kernel_rfl) rfl (Chg.refl _ _ _) (fun w' hw' => e_add (m := (k : Int)) (n := 1) rfl rfl (by omega)) ?_
   refine h_take (v := ps_v) 7 rfl (by kernel_rfl) (by kernel_rfl) rfl (Chg.refl _ _ _) (fun w' hw' => e_move (by exact zs0)) ?_
   refine h_take (v := Value.int .i64 (List.length ps : Int)) 8 rfl (by kernel_rfl) (by kernel_rfl) rfl (Chg.refl _ _ _) (fun w' hw' => e_len Try.underlying25 rfl r_ps_v) ?_
   refine h_take (v := Value.int .i64 (((k : Int) + 1) % (List.length ps : Int))) 9 rfl (by kernel_rfl) (by kernel_rfl) rfl (Chg.refl _ _ _) (fun w' hw' => e_rem (m := (k : Int) + 1) (n := (List.length ps : Int)) rfl rfl (by omega) (by omega)) ?_
   refine h_take (v := Value.pointer (some (eAddr ps_v 2 (Int.toNat (((k : Int) + 1) % (List.length ps : Int)))))) 10 rfl (by kernel_rfl) (by kernel_rfl) rfl (Chg.refl _ _ _) (fun w' hw' => e_indexAddr (α := (Int) × (Int)) (xs := ps) (v := ps_v) (i := ((k : Int) + 1) % (List.length ps : Int)) Try.underlying25 rfl rfl (r_ps_v.chg hw' (is_nl rfl)) rfl (by omega) (by omega)) ?_
   refine h_take (v := Value.agg (List.toArray [Value.int .i64 ((gI ps (((k : Int) + 1) % (List.length ps : Int))).1), Value.int .i64 ((gI ps (((k : Int) + 1) % (List.length ps : Int))).2)])) 11 rfl (by kernel_rfl) (by kernel_rfl) rfl (Chg.refl _ _ _) (fun w' hw' => e_load_elN (α := (Int) × (Int)) (xs := ps) (v := ps_v) (i := ((k : Int) + 1) % (List.length ps : Int)) tp23_gv rfl (r_ps_v.chg hw' (is_nl rfl)) (by omega) (by omega) rfl) ?_
   refine h_many 12 [13] (by kernel_rfl) ⟨h_of 12 rfl (by kernel_rfl) rfl ?_, h_of 13 rfl (by kernel_rfl) rfl ?_, trivial⟩
   ·
    refine o_alloc g4 (is 1) (1, 0) rfl tp23_gv ?_
    intro g10 w7 b9 ch8 bx11
    replace bx11 : Bx g10 (is 1) w7 b9 [Value.int .i64 0, Value.int .i64 0] := bx11
    have hs12 : Chg (inl [1, 2]) _ _ _ _ := ch8.n
    refine ⟨hs12.same, ?_⟩
    refine h_one 13 rfl (by kernel_rfl) rfl ?_
    refine o_alloc g10 (is 2) (2, 0) rfl tp23_gv ?_
    intro g16 w13 b15 ch14 bx17
    replace bx17 : Bx g16 (is 2) w13 b15 [Value.int .i64 0, Value.int .i64 0] := bx17
    have hs18 := hs12.seq (ch14.n)
    refine ⟨hs18.same, ?_⟩
    refine h_one 14 rfl (by kernel_rfl) rfl ?_
    replace bx11 := bx11.chg ch14 (not_no _)
    refine o_store_bx (cs' := [Value.int .i64 ((gI ps (k : Int)).1), Value.int .i64 ((gI ps (k : Int)).2)]) tp23_gv rfl rfl bx11 rfl (Nat.le_of_ble_eq_true rfl) (AllOne.all (.cons rfl (.cons rfl .nil))) rfl ?_
    intro w19 ch20 bx21
    clear bx11
    have hs22 := hs18.seq (ch20.l rfl)
    refine ⟨hs22.same, ?_⟩
    refine h_one 15 rfl (by kernel_rfl) rfl ?_
    replace bx17 := bx17.chg ch20 (is_ne rfl)
    refine o_store_bx (cs' := [Value.int .i64 ((gI ps (((k : Int) + 1) % (List.length ps : Int))).1), Value.int .i64 ((gI ps (((k : Int) + 1) % (List.length ps : Int))).2)]) tp23_gv rfl rfl bx17 rfl (Nat.le_of_ble_eq_true rfl) (AllOne.all (.cons rfl (.cons rfl .nil))) rfl ?_
    intro w23 ch24 bx25
    clear bx17
    have hs26 := hs22.seq (ch24.l rfl)
    refine ⟨hs26.same, ?_⟩
    refine h_nil (by kernel_rfl) ?_
    have C27 : Chg (inl [1, 2]) _ _ _ _ := (ch5.n).seq ((ch8.n).seq ((ch14.n).seq ((ch20.l rfl).seq (ch24.l rfl))))
    replace hbase := hbase.chg C27 (is_nl rfl)
    replace bx21 := bx21.chg ch24 (is_ne rfl)
    exact mid (b9, b15, g16) _ _ ⟨hbase, (by exact zs0), (by exact zs3), (by exact zs4), rfl, rfl, (r_ps_v.chg hs26 (is_nl rfl)), bx21, bx25⟩
   ·
    refine o_alloc g4 (is 2) (2, 0) rfl tp23_gv ?_
    intro g31 w28 b30 ch29 bx32
    replace bx32 : Bx g31 (is 2) w28 b30 [Value.int .i64 0, Value.int .i64 0] := bx32
    have hs33 : Chg (inl [1, 2]) _ _ _ _ := ch29.n
    refine ⟨hs33.same, ?_⟩
    refine h_one 12 rfl (by kernel_rfl) rfl ?_
    refine o_alloc g31 (is 1) (1, 0) rfl tp23_gv ?_
    intro g37 w34 b36 ch35 bx38
    replace bx38 : Bx g37 (is 1) w34 b36 [Value.int .i64 0, Value.int .i64 0] := bx38
    have hs39 := hs33.seq (ch35.n)
    refine ⟨hs39.same, ?_⟩
    refine h_one 14 rfl (by kernel_rfl) rfl ?_
    refine o_store_bx (cs' := [Value.int .i64 ((gI ps (k : Int)).1), Value.int .i64 ((gI ps (k : Int)).2)]) tp23_gv rfl rfl bx38 rfl (Nat.le_of_ble_eq_true rfl) (AllOne.all (.cons rfl (.cons rfl .nil))) rfl ?_
    intro w40 ch41 bx42
    clear bx38
    have hs43 := hs39.seq (ch41.l rfl)
    refine ⟨hs43.same, ?_⟩
    refine h_one 15 rfl (by kernel_rfl) rfl ?_
    replace bx32 := (bx32.chg ch35 (not_no _)).chg ch41 (is_ne rfl)
    refine o_store_bx (cs' := [Value.int .i64 ((gI ps (((k : Int) + 1) % (List.length ps : Int))).1), Value.int .i64 ((gI ps (((k : Int) + 1) % (List.length ps : Int))).2)]) tp23_gv rfl rfl bx32 rfl (Nat.le_of_ble_eq_true rfl) (AllOne.all (.cons rfl (.cons rfl .nil))) rfl ?_
    intro w44 ch45 bx46
    clear bx32
    have hs47 := hs43.seq (ch45.l rfl)
    refine ⟨hs47.same, ?_⟩
    refine h_nil (by kernel_rfl) ?_
    have C48 : Chg (inl [1, 2]) _ _ _ _ := (ch5.n).seq ((ch29.n).seq ((ch35.n).seq ((ch41.l rfl).seq (ch45.l rfl))))
    replace hbase := hbase.chg C48 (is_nl rfl)
    replace bx42 := bx42.chg ch45 (is_ne rfl)
    exact mid (b36, b30, g37) _ _ ⟨hbase, (by exact zs0), (by exact zs3), (by exact zs4), rfl, rfl, (r_ps_v.chg hs47 (is_nl rfl)), bx42, bx46⟩
  clear r_ps_v
  clear hbase
  rintro ⟨b9, b15, g51⟩ f49 w50 ⟨hbase, zs0, zs3, zs4, zs5, zs6, r_ps_v, bx21, bx25⟩
  refine run_region rfl ?_
  refine l_val (v := Value.int .i64 n) rfl (e_move (by exact zs3)) ?_
  refine l_val (v := Value.pointer (some ⟨b9, 0, none⟩)) rfl (e_fieldAddr Try.underlying23 rfl rfl (by exact zs5) rfl) ?_
  refine l_val (v := Value.int .i64 ((gI ps (k : Int)).1)) rfl (e_load_bx1 tp3_gv rfl bx21 rfl) ?_
  refine l_val (v := Value.pointer (some ⟨b15, 1, none⟩)) rfl (e_fieldAddr Try.underlying23 rfl rfl (by exact zs6) rfl) ?_
  refine l_val (v := Value.int .i64 ((gI ps (((k : Int) + 1) % (List.length ps : Int))).2)) rfl (e_load_bx1 tp3_gv rfl bx25 rfl) ?_
  refine l_val (v := Value.int .i64 (((gI ps (k : Int)).1) * ((gI ps (((k : Int) + 1) % (List.length ps : Int))).2))) rfl (e_mul (m := (gI ps (k : Int)).1) (n := (gI ps (((k : Int) + 1) % (List.length ps : Int))).2) rfl rfl (by omega)) ?_
  refine l_val (v := Value.int .i64 (n + (((gI ps (k : Int)).1) * ((gI ps (((k : Int) + 1) % (List.length ps : Int))).2)))) rfl (e_add (m := n) (n := ((gI ps (k : Int)).1) * ((gI ps (((k : Int) + 1) % (List.length ps : Int))).2)) rfl rfl (by omega)) ?_
  refine l_val (v := Value.pointer (some ⟨b15, 0, none⟩)) rfl (e_fieldAddr Try.underlying23 rfl rfl (by exact zs6) rfl) ?_
  refine l_val (v := Value.int .i64 ((gI ps (((k : Int) + 1) % (List.length ps : Int))).1)) rfl (e_load_bx1 tp3_gv rfl bx25 rfl) ?_
  refine l_val (v := Value.pointer (some ⟨b9, 1, none⟩)) rfl (e_fieldAddr Try.underlying23 rfl rfl (by exact zs5) rfl) ?_
  refine l_val (v := Value.int .i64 ((gI ps (k : Int)).2)) rfl (e_load_bx1 tp3_gv rfl bx21 rfl) ?_
  refine l_val (v := Value.int .i64 (((gI ps (((k : Int) + 1) % (List.length ps : Int))).1) * ((gI ps (k : Int)).2))) rfl (e_mul (m := (gI ps (((k : Int) + 1) % (List.length ps : Int))).1) (n := (gI ps (k : Int)).2) rfl rfl (by omega)) ?_
  refine l_val (v := Value.int .i64 ((n + (((gI ps (k : Int)).1) * ((gI ps (((k : Int) + 1) % (List.length ps : Int))).2))) - (((gI ps (((k : Int) + 1) % (List.length ps : Int))).1) * ((gI ps (k : Int)).2)))) rfl (e_sub (m := n + (((gI ps (k : Int)).1) * ((gI ps (((k : Int) + 1) % (List.length ps : Int))).2))) (n := ((gI ps (((k : Int) + 1) % (List.length ps : Int))).1) * ((gI ps (k : Int)).2)) rfl rfl (by omega)) ?_
  refine l_val (v := Value.int .i64 ((n + (((gI ps (k : Int)).1) * ((gI ps (((k : Int) + 1) % (List.length ps : Int))).2))) - (((gI ps (((k : Int) + 1) % (List.length ps : Int))).1) * ((gI ps (k : Int)).2)))) rfl (e_assign rfl) ?_
  refine l_nil ?_
  refine run_inBlock ?_
  clear bx21
  clear bx25
  refine run_region rfl ?_
  refine l_val (v := Value.int .i64 (k : Int)) rfl (e_move (by exact zs4)) ?_
  refine l_val (v := Value.int .i64 ((k : Int) + 1)) rfl (e_add (m := (k : Int)) (n := 1) rfl rfl (by omega)) ?_
  refine l_val (v := Value.int .i64 ((k : Int) + 1)) rfl (e_assign rfl) ?_
  refine l_nil ?_
  refine back5 ((n + (((gI ps (k : Int)).1) * ((gI ps (((k : Int) + 1) % (List.length ps : Int))).2))) - (((gI ps (((k : Int) + 1) % (List.length ps : Int))).1) * ((gI ps (k : Int)).2)), k + 1, g51) _ _ ⟨hbase, (by exact zs0), rfl, rfl, r_ps_v, by omega, ?_⟩ ?_
  · show ((n + (((gI ps (k : Int)).1) * ((gI ps (((k : Int) + 1) % (List.length ps : Int))).2))) - (((gI ps (((k : Int) + 1) % (List.length ps : Int))).1) * ((gI ps (k : Int)).2))) = areaK ps (k + 1)
    rw [hinv, area_step]; rfl
  · show Int.toNat (((List.length ps : Int) : Int) - ((k + 1) : Int)) < Int.toNat (((List.length ps : Int) : Int) - (k : Int))
    omega
 refine run_cond_f rfl (decide_eq_false p5) ?_
 refine run_exit rfl ?_
 refine run_seq (run_region rfl ?_)
 refine l_val (v := Value.int .i64 n) rfl (e_move (by exact zs3)) ?_
 refine l_val (v := Value.int .i64 n) rfl (e_assign rfl) ?_
 refine l_nil ?_
 refine run_ret (vs := [Value.int .i64 n]) Try.func31 (.tmp rfl .nil) ?_
 -- return 1
 have e0 : (n : Int) = (areaI ps) := by
   unfold areaI
   first
     | (rw [if_pos (by assumption)]; done)
     | (rw [if_neg (by assumption), hinv, show k = ps.length by omega]; done)
 exact ⟨(congrArg (a₁ := n) (fun (z0 : Int) => Ending.returned (Value.int .i64 z0)) e0), hbase.below⟩

theorem D2Box_ok (w0 : World) (ps : List ((Int) × (Int))) (ps_v : Value) (hps_v : Ro w0 ps_v ps) (h0 : 0 < ps.length) :
    Calls Try.prog 33 #[ps_v] w0 (fun ee w => ee = .returned (Value.tuple (List.toArray [Value.agg (List.toArray [Value.int .i64 ((loK ps ps.length).1), Value.int .i64 ((loK ps ps.length).2)]), Value.agg (List.toArray [Value.int .i64 ((hiK ps ps.length).1), Value.int .i64 ((hiK ps ps.length).2)])])) ∧ Bel w0.heap.size w0 w) := by
 refine calls_of_run Try.func33 rfl (Nat.le_of_ble_eq_true rfl) ?_
 have hbase := Base.start w0
 have r_ps_v := hps_v.sl
 refine run_seq (run_region rfl (l_op rfl ?_))
 refine o_alloc c0 (is 1) (1, 0) rfl tp23_gv ?_
 intro g4 w1 b3 ch2 bx5
 replace bx5 : Bx g4 (is 1) w1 b3 [Value.int .i64 0, Value.int .i64 0] := bx5
 refine l_op rfl ?_
 refine o_alloc g4 (is 2) (2, 0) rfl tp23_gv ?_
 intro g9 w6 b8 ch7 bx10
 replace bx10 : Bx g9 (is 2) w6 b8 [Value.int .i64 0, Value.int .i64 0] := bx10
 refine l_nil (run_seq ?_)
 refine region_midh (σ := Nat × Nat × Cmap) (fun ⟨b16, b22, gq⟩ f w => Base w0 gq w ∧ f 0 = ps_v ∧ f 2 = Value.pointer (some ⟨b3, 0, none⟩) ∧ f 3 = Value.pointer (some ⟨b8, 0, none⟩) ∧ f 4 = Value.pointer (some ⟨b16, 0, none⟩) ∧ f 5 = Value.pointer (some ⟨b22, 0, none⟩) ∧ Sl gq (is 0) w ps_v ps ∧ Bx gq (is 1) w b3 [Value.int .i64 0, Value.int .i64 0] ∧ Bx gq (is 2) w b8 [Value.int .i64 0, Value.int .i64 0] ∧ Bx gq (is 3) w b16 [Value.int .i64 ((gI ps 0).1), Value.int .i64 ((gI ps 0).2)] ∧ Bx gq (is 4) w b22 [Value.int .i64 ((gI ps 0).1), Value.int .i64 ((gI ps 0).2)]) g9 (inl [3, 4]) mixed_gv ?_ ?_
 ·
  intro mid
  intro w12 ch11
  refine h_take (v := ps_v) 0 rfl (by kernel_rfl) (by kernel_rfl) rfl (Chg.refl _ _ _) (fun w' hw' => e_move rfl) ?_
  have C13 : Chg (inl []) _ _ _ _ := (ch2.n).seq ((ch7.n).seq (ch11.n))
  replace r_ps_v := r_ps_v.chg C13 (is_nl rfl)
  refine h_take (v := Value.pointer (some (eAddr ps_v 2 (Int.toNat 0)))) 1 rfl (by kernel_rfl) (by kernel_rfl) rfl (Chg.refl _ _ _) (fun w' hw' => e_indexAddr (α := (Int) × (Int)) (xs := ps) (v := ps_v) (i := 0) Try.underlying25 rfl rfl (r_ps_v.chg hw' (is_nl rfl)) rfl (by omega) (by omega)) ?_
  refine h_take (v := Value.agg (List.toArray [Value.int .i64 ((gI ps 0).1), Value.int .i64 ((gI ps 0).2)])) 2 rfl (by kernel_rfl) (by kernel_rfl) rfl (Chg.refl _ _ _) (fun w' hw' => e_load_elN (α := (Int) × (Int)) (xs := ps) (v := ps_v) (i := 0) tp23_gv rfl (r_ps_v.chg hw' (is_nl rfl)) (by omega) (by omega) rfl) ?_
  refine h_take (v := ps_v) 3 rfl (by kernel_rfl) (by kernel_rfl) rfl (Chg.refl _ _ _) (fun w' hw' => e_move rfl) ?_
  refine h_take (v := Value.pointer (some (eAddr ps_v 2 (Int.toNat 0)))) 4 rfl (by kernel_rfl) (by kernel_rfl) rfl (Chg.refl _ _ _) (fun w' hw' => e_indexAddr (α := (Int) × (Int)) (xs := ps) (v := ps_v) (i := 0) Try.underlying25 rfl rfl (r_ps_v.chg hw' (is_nl rfl)) rfl (by omega) (by omega)) ?_
  refine h_take (v := Value.agg (List.toArray [Value.int .i64 ((gI ps 0).1), Value.int .i64 ((gI ps 0).2)])) 5 rfl (by kernel_rfl) (by kernel_rfl) rfl (Chg.refl _ _ _) (fun w' hw' => e_load_elN (α := (Int) × (Int)) (xs := ps) (v := ps_v) (i := 0) tp23_gv rfl (r_ps_v.chg hw' (is_nl rfl)) (by omega) (by omega) rfl) ?_
  refine h_many 6 [7] (by kernel_rfl) ⟨h_of 6 rfl (by kernel_rfl) rfl ?_, h_of 7 rfl (by kernel_rfl) rfl ?_, trivial⟩
  ·
   refine o_alloc g9 (is 3) (3, 0) rfl tp23_gv ?_
   intro g17 w14 b16 ch15 bx18
   replace bx18 : Bx g17 (is 3) w14 b16 [Value.int .i64 0, Value.int .i64 0] := bx18
   have hs19 : Chg (inl [3, 4]) _ _ _ _ := ch15.n
   refine ⟨hs19.same, ?_⟩
   refine h_one 7 rfl (by kernel_rfl) rfl ?_
   refine o_alloc g17 (is 4) (4, 0) rfl tp23_gv ?_
   intro g23 w20 b22 ch21 bx24
   replace bx24 : Bx g23 (is 4) w20 b22 [Value.int .i64 0, Value.int .i64 0] := bx24
   have hs25 := hs19.seq (ch21.n)
   refine ⟨hs25.same, ?_⟩
   refine h_one 8 rfl (by kernel_rfl) rfl ?_
   replace bx18 := bx18.chg ch21 (not_no _)
   refine o_store_bx (cs' := [Value.int .i64 ((gI ps 0).1), Value.int .i64 ((gI ps 0).2)]) tp23_gv rfl rfl bx18 rfl (Nat.le_of_ble_eq_true rfl) (AllOne.all (.cons rfl (.cons rfl .nil))) rfl ?_
   intro w26 ch27 bx28
   clear bx18
   have hs29 := hs25.seq (ch27.l rfl)
   refine ⟨hs29.same, ?_⟩
   refine h_one 9 rfl (by kernel_rfl) rfl ?_
   replace bx24 := bx24.chg ch27 (is_ne rfl)
   refine o_store_bx (cs' := [Value.int .i64 ((gI ps 0).1), Value.int .i64 ((gI ps 0).2)]) tp23_gv rfl rfl bx24 rfl (Nat.le_of_ble_eq_true rfl) (AllOne.all (.cons rfl (.cons rfl .nil))) rfl ?_
   intro w30 ch31 bx32
   clear bx24
   have hs33 := hs29.seq (ch31.l rfl)
   refine ⟨hs33.same, ?_⟩
   refine h_nil (by kernel_rfl) ?_
   have C34 : Chg (inl [3, 4]) _ _ _ _ := (ch2.n).seq ((ch7.n).seq ((ch11.n).seq ((ch15.n).seq ((ch21.n).seq ((ch27.l rfl).seq (ch31.l rfl))))))
   replace hbase := hbase.chg C34 (is_nl rfl)
   replace bx5 := (bx5.chg ch7 (not_no _)).chg ch11 (not_no _)
   replace bx10 := bx10.chg ch11 (not_no _)
   replace bx28 := bx28.chg ch31 (is_ne rfl)
   exact mid (b16, b22, g23) _ _ ⟨hbase, rfl, rfl, rfl, rfl, rfl, (r_ps_v.chg hs33 (is_nl rfl)), (bx5.chg hs33 (is_nl rfl)), (bx10.chg hs33 (is_nl rfl)), bx28, bx32⟩
  ·
   refine o_alloc g9 (is 4) (4, 0) rfl tp23_gv ?_
   intro g38 w35 b37 ch36 bx39
   replace bx39 : Bx g38 (is 4) w35 b37 [Value.int .i64 0, Value.int .i64 0] := bx39
   have hs40 : Chg (inl [3, 4]) _ _ _ _ := ch36.n
   refine ⟨hs40.same, ?_⟩
   refine h_one 6 rfl (by kernel_rfl) rfl ?_
   refine o_alloc g38 (is 3) (3, 0) rfl tp23_gv ?_
   intro g44 w41 b43 ch42 bx45
   replace bx45 : Bx g44 (is 3) w41 b43 [Value.int .i64 0, Value.int .i64 0] := bx45
   have hs46 := hs40.seq (ch42.n)
   refine ⟨hs46.same, ?_⟩
   refine h_one 8 rfl (by kernel_rfl) rfl ?_
   refine o_store_bx (cs' := [Value.int .i64 ((gI ps 0).1), Value.int .i64 ((gI ps 0).2)]) tp23_gv rfl rfl bx45 rfl (Nat.le_of_ble_eq_true rfl) (AllOne.all (.cons rfl (.cons rfl .nil))) rfl ?_
   intro w47 ch48 bx49
   clear bx45
   have hs50 := hs46.seq (ch48.l rfl)
   refine ⟨hs50.same, ?_⟩
   refine h_one 9 rfl (by kernel_rfl) rfl ?_
   replace bx39 := (bx39.chg ch42 (not_no _)).chg ch48 (is_ne rfl)
   refine o_store_bx (cs' := [Value.int .i64 ((gI ps 0).1), Value.int .i64 ((gI ps 0).2)]) tp23_gv rfl rfl bx39 rfl (Nat.le_of_ble_eq_true rfl) (AllOne.all (.cons rfl (.cons rfl .nil))) rfl ?_
   intro w51 ch52 bx53
   clear bx39
   have hs54 := hs50.seq (ch52.l rfl)
   refine ⟨hs54.same, ?_⟩
   refine h_nil (by kernel_rfl) ?_
   have C55 : Chg (inl [3, 4]) _ _ _ _ := (ch2.n).seq ((ch7.n).seq ((ch11.n).seq ((ch36.n).seq ((ch42.n).seq ((ch48.l rfl).seq (ch52.l rfl))))))
   replace hbase := hbase.chg C55 (is_nl rfl)
   replace bx5 := (bx5.chg ch7 (not_no _)).chg ch11 (not_no _)
   replace bx10 := bx10.chg ch11 (not_no _)
   replace bx49 := bx49.chg ch52 (is_ne rfl)
   exact mid (b43, b37, g44) _ _ ⟨hbase, rfl, rfl, rfl, rfl, rfl, (r_ps_v.chg hs54 (is_nl rfl)), (bx5.chg hs54 (is_nl rfl)), (bx10.chg hs54 (is_nl rfl)), bx49, bx53⟩
 clear r_ps_v
 clear bx5
 clear bx10
 clear hbase
 rintro ⟨b16, b22, g58⟩ f56 w57 ⟨hbase, zs0, zs2, zs3, zs4, zs5, r_ps_v, bx5, bx10, bx28, bx32⟩
 refine run_seq (run_seq (run_region rfl ?_))
 refine l_val (v := Value.int .i64 0) rfl (e_assign rfl) ?_
 refine l_nil ?_
 refine run_block ?_
 refine run_loop (σ := Int × Int × Int × Int × Nat × Cmap) (fun ⟨t4_0, t4_1, t5_0, t5_1, k, gq⟩ f w => Base w0 gq w ∧ f 0 = ps_v ∧ f 2 = Value.pointer (some ⟨b3, 0, none⟩) ∧ f 3 = Value.pointer (some ⟨b8, 0, none⟩) ∧ f 4 = Value.pointer (some ⟨b16, 0, none⟩) ∧ f 5 = Value.pointer (some ⟨b22, 0, none⟩) ∧ f 6 = Value.int .i64 (k : Int) ∧ Sl gq (is 0) w ps_v ps ∧ Bx gq (is 1) w b3 [Value.int .i64 0, Value.int .i64 0] ∧ Bx gq (is 2) w b8 [Value.int .i64 0, Value.int .i64 0] ∧ Bx gq (is 3) w b16 [Value.int .i64 t4_0, Value.int .i64 t4_1] ∧ Bx gq (is 4) w b22 [Value.int .i64 t5_0, Value.int .i64 t5_1] ∧ (k : Int) ≤ ((List.length ps : Int) : Int) ∧ ((t4_0 = (loK ps k).1 ∧ t4_1 = (loK ps k).2) ∧ t5_0 = (hiK ps k).1 ∧ t5_1 = (hiK ps k).2)) (fun ⟨t4_0, t4_1, t5_0, t5_1, k, gq⟩ => Int.toNat (((List.length ps : Int) : Int) - (k : Int))) ((gI ps 0).1, (gI ps 0).2, (gI ps 0).1, (gI ps 0).2, 0, g58) ?_ ?_
 · exact ⟨hbase, (by exact zs0), (by exact zs2), (by exact zs3), (by exact zs4), (by exact zs5), rfl, r_ps_v, bx5, bx10, bx28, bx32, by omega, by exact ⟨⟨rfl, rfl⟩, rfl, rfl⟩⟩
 clear r_ps_v
 clear bx5
 clear bx10
 clear bx28
 clear bx32
 clear hbase
 rintro ⟨t4_0, t4_1, t5_0, t5_1, k, g61⟩ f59 w60 ⟨hbase, zs0, zs2, zs3, zs4, zs5, zs6, r_ps_v, bx5, bx10, bx28, bx32, hle_k, hinv⟩ back3
 refine run_seq (run_seq (run_region rfl ?_))
 refine l_val (v := Value.int .i64 (k : Int)) rfl (e_move (by exact zs6)) ?_
 refine l_val (v := ps_v) rfl (e_move (by exact zs0)) ?_
 have len62 := (r_ps_v).small
 refine l_val (v := Value.int .i64 (List.length ps : Int)) rfl (e_len Try.underlying25 rfl r_ps_v) ?_
 refine l_val (v := Value.bool (decide ((k : Int) < (List.length ps : Int)))) rfl (e_lss (m := (k : Int)) (n := (List.length ps : Int)) rfl rfl) ?_
 refine l_nil ?_
 by_cases p3 : (k : Int) < (List.length ps : Int)
 ·
  refine run_cond_t rfl (decide_eq_true p3) ?_
  refine run_skip ?_
  refine run_seq ?_
  refine run_block ?_
  refine run_seq ?_
  refine run_region_x g61 [0, 1, 2, 3, 4, 5, 6, 7, 8, 9, 10, 11, 12, 13, 14, 15, 16] mixed_gv ?_
  intro w64 ch63
  refine x_pure (v := Value.pointer (some ⟨b16, 0, none⟩)) 0 rfl (by kernel_rfl) (by kernel_rfl) rfl (fun w => e_fieldAddr Try.underlying23 rfl rfl (by exact zs4) rfl) ?_
  replace bx28 := bx28.chg ch63 (not_no _)
  refine x_val (v := Value.int .i64 t4_0) 1 [0, 2, 3, 8, 10, 11, 4, 9, 12, 5, 13, 6, 14, 15] rfl (by kernel_rfl) (by kernel_rfl) rfl (e_load_bx1 tp3_gv rfl bx28 rfl) ?_
  refine x_pure (v := ps_v) 2 rfl (by kernel_rfl) (by kernel_rfl) rfl (fun w => e_move (by exact zs0)) ?_
  refine x_pure (v := Value.int .i64 (k : Int)) 3 rfl (by kernel_rfl) (by kernel_rfl) rfl (fun w => e_move (by exact zs6)) ?_
  replace r_ps_v := r_ps_v.chg ch63 (not_no _)
  refine x_val (v := Value.pointer (some (eAddr ps_v 2 (Int.toNat (k : Int))))) 4 [3, 2, 1, 0, 8, 10, 11, 9, 12, 13, 14, 15] rfl (by kernel_rfl) (by kernel_rfl) rfl (e_indexAddr (α := (Int) × (Int)) (xs := ps) (v := ps_v) (i := (k : Int)) Try.underlying25 rfl rfl r_ps_v rfl (by omega) (by omega)) ?_
  refine x_pure (v := Value.pointer (some ⟨(eAddr ps_v 2 (Int.toNat (k : Int))).block, (eAddr ps_v 2 (Int.toNat (k : Int))).off + 0, none⟩)) 5 rfl (by kernel_rfl) (by kernel_rfl) rfl (fun w => e_fieldAddr_el Try.underlying23 rfl rfl rfl rfl) ?_
  refine x_val (v := Value.int .i64 ((gI ps (k : Int)).1)) 6 [5, 4, 3, 2, 1, 0, 8, 10, 11, 9, 12, 13, 14, 15] rfl (by kernel_rfl) (by kernel_rfl) rfl (e_load_elF (α := (Int) × (Int)) (xs := ps) (v := ps_v) (i := (k : Int)) tp3_gv rfl r_ps_v (by omega) (by omega) (by decide) rfl) ?_
  refine x_pure (v := Value.int .i64 (min t4_0 ((gI ps (k : Int)).1))) 7 rfl (by kernel_rfl) (by kernel_rfl) rfl (fun w => e_min rfl rfl) ?_
  refine x_pure (v := Value.pointer (some ⟨b16, 1, none⟩)) 8 rfl (by kernel_rfl) (by kernel_rfl) rfl (fun w => e_fieldAddr Try.underlying23 rfl rfl (by exact zs4) rfl) ?_
  refine x_val (v := Value.int .i64 t4_1) 9 [8, 7, 6, 5, 4, 3, 2, 1, 0, 10, 11, 12, 13, 14] rfl (by kernel_rfl) (by kernel_rfl) rfl (e_load_bx1 tp3_gv rfl bx28 rfl) ?_
  refine x_pure (v := ps_v) 10 rfl (by kernel_rfl) (by kernel_rfl) rfl (fun w => e_move (by exact zs0)) ?_
  refine x_pure (v := Value.int .i64 (k : Int)) 11 rfl (by kernel_rfl) (by kernel_rfl) rfl (fun w => e_move (by exact zs6)) ?_
  refine x_val (v := Value.pointer (some (eAddr ps_v 2 (Int.toNat (k : Int))))) 12 [11, 10, 9, 8, 7, 6, 5, 4, 3, 2, 1, 0] rfl (by kernel_rfl) (by kernel_rfl) rfl (e_indexAddr (α := (Int) × (Int)) (xs := ps) (v := ps_v) (i := (k : Int)) Try.underlying25 rfl rfl r_ps_v rfl (by omega) (by omega)) ?_
  refine x_pure (v := Value.pointer (some ⟨(eAddr ps_v 2 (Int.toNat (k : Int))).block, (eAddr ps_v 2 (Int.toNat (k : Int))).off + 1, none⟩)) 13 rfl (by kernel_rfl) (by kernel_rfl) rfl (fun w => e_fieldAddr_el Try.underlying23 rfl rfl rfl rfl) ?_
  refine x_val (v := Value.int .i64 ((gI ps (k : Int)).2)) 14 [13, 12, 11, 10, 9, 8, 7, 6, 5, 4, 3, 2, 1, 0] rfl (by kernel_rfl) (by kernel_rfl) rfl (e_load_elF (α := (Int) × (Int)) (xs := ps) (v := ps_v) (i := (k : Int)) tp3_gv rfl r_ps_v (by omega) (by omega) (by decide) rfl) ?_
  refine x_pure (v := Value.int .i64 (min t4_1 ((gI ps (k : Int)).2))) 15 rfl (by kernel_rfl) (by kernel_rfl) rfl (fun w => e_min rfl rfl) ?_
  refine x_pure (v := Value.agg (List.toArray [Value.int .i64 (min t4_0 ((gI ps (k : Int)).1)), Value.int .i64 (min t4_1 ((gI ps (k : Int)).2))])) 16 rfl (by kernel_rfl) (by kernel_rfl) rfl (fun w => e_build (vs := [(0, Value.int .i64 (min t4_0 ((gI ps (k : Int)).1))), (1, Value.int .i64 (min t4_1 ((gI ps (k : Int)).2)))]) rfl (by kernel_rfl)) ?_
  refine x_one 17 rfl (by kernel_rfl) rfl ?_
  refine o_store_bx (cs' := [Value.int .i64 (min t4_0 ((gI ps (k : Int)).1)), Value.int .i64 (min t4_1 ((gI ps (k : Int)).2))]) tp23_gv (by exact zs4) rfl bx28 rfl (Nat.le_of_ble_eq_true rfl) (AllOne.all (.cons rfl (.cons rfl .nil))) rfl ?_
  intro w65 ch66 bx67
  clear bx28
  refine x_nil (by kernel_rfl) ?_
  refine run_region_x g61 [0, 1, 2, 3, 4, 5, 6, 7, 8, 9, 10, 11, 12, 13, 14, 15, 16] mixed_gv ?_
  intro w69 ch68
  refine x_pure (v := Value.pointer (some ⟨b22, 0, none⟩)) 0 rfl (by kernel_rfl) (by kernel_rfl) rfl (fun w => e_fieldAddr Try.underlying23 rfl rfl (by exact zs5) rfl) ?_
  have C70 : Chg (inl [3]) _ _ _ _ := (ch63.n).seq ((ch66.l rfl).seq (ch68.n))
  replace bx32 := bx32.chg C70 (is_nl rfl)
  refine x_val (v := Value.int .i64 t5_0) 1 [0, 2, 3, 8, 10, 11, 4, 9, 12, 5, 13, 6, 14, 15] rfl (by kernel_rfl) (by kernel_rfl) rfl (e_load_bx1 tp3_gv rfl bx32 rfl) ?_
  refine x_pure (v := ps_v) 2 rfl (by kernel_rfl) (by kernel_rfl) rfl (fun w => e_move (by exact zs0)) ?_
  refine x_pure (v := Value.int .i64 (k : Int)) 3 rfl (by kernel_rfl) (by kernel_rfl) rfl (fun w => e_move (by exact zs6)) ?_
  replace r_ps_v := (r_ps_v.chg ch66 (is_ne rfl)).chg ch68 (not_no _)
  refine x_val (v := Value.pointer (some (eAddr ps_v 2 (Int.toNat (k : Int))))) 4 [3, 2, 1, 0, 8, 10, 11, 9, 12, 13, 14, 15] rfl (by kernel_rfl) (by kernel_rfl) rfl (e_indexAddr (α := (Int) × (Int)) (xs := ps) (v := ps_v) (i := (k : Int)) Try.underlying25 rfl rfl r_ps_v rfl (by omega) (by omega)) ?_
  refine x_pure (v := Value.pointer (some ⟨(eAddr ps_v 2 (Int.toNat (k : Int))).block, (eAddr ps_v 2 (Int.toNat (k : Int))).off + 0, none⟩)) 5 rfl (by kernel_rfl) (by kernel_rfl) rfl (fun w => e_fieldAddr_el Try.underlying23 rfl rfl rfl rfl) ?_
  refine x_val (v := Value.int .i64 ((gI ps (k : Int)).1)) 6 [5, 4, 3, 2, 1, 0, 8, 10, 11, 9, 12, 13, 14, 15] rfl (by kernel_rfl) (by kernel_rfl) rfl (e_load_elF (α := (Int) × (Int)) (xs := ps) (v := ps_v) (i := (k : Int)) tp3_gv rfl r_ps_v (by omega) (by omega) (by decide) rfl) ?_
  refine x_pure (v := Value.int .i64 (max t5_0 ((gI ps (k : Int)).1))) 7 rfl (by kernel_rfl) (by kernel_rfl) rfl (fun w => e_max rfl rfl) ?_
  refine x_pure (v := Value.pointer (some ⟨b22, 1, none⟩)) 8 rfl (by kernel_rfl) (by kernel_rfl) rfl (fun w => e_fieldAddr Try.underlying23 rfl rfl (by exact zs5) rfl) ?_
  refine x_val (v := Value.int .i64 t5_1) 9 [8, 7, 6, 5, 4, 3, 2, 1, 0, 10, 11, 12, 13, 14] rfl (by kernel_rfl) (by kernel_rfl) rfl (e_load_bx1 tp3_gv rfl bx32 rfl) ?_
  refine x_pure (v := ps_v) 10 rfl (by kernel_rfl) (by kernel_rfl) rfl (fun w => e_move (by exact zs0)) ?_
  refine x_pure (v := Value.int .i64 (k : Int)) 11 rfl (by kernel_rfl) (by kernel_rfl) rfl (fun w => e_move (by exact zs6)) ?_
  refine x_val (v := Value.pointer (some (eAddr ps_v 2 (Int.toNat (k : Int))))) 12 [11, 10, 9, 8, 7, 6, 5, 4, 3, 2, 1, 0] rfl (by kernel_rfl) (by kernel_rfl) rfl (e_indexAddr (α := (Int) × (Int)) (xs := ps) (v := ps_v) (i := (k : Int)) Try.underlying25 rfl rfl r_ps_v rfl (by omega) (by omega)) ?_
  refine x_pure (v := Value.pointer (some ⟨(eAddr ps_v 2 (Int.toNat (k : Int))).block, (eAddr ps_v 2 (Int.toNat (k : Int))).off + 1, none⟩)) 13 rfl (by kernel_rfl) (by kernel_rfl) rfl (fun w => e_fieldAddr_el Try.underlying23 rfl rfl rfl rfl) ?_
  refine x_val (v := Value.int .i64 ((gI ps (k : Int)).2)) 14 [13, 12, 11, 10, 9, 8, 7, 6, 5, 4, 3, 2, 1, 0] rfl (by kernel_rfl) (by kernel_rfl) rfl (e_load_elF (α := (Int) × (Int)) (xs := ps) (v := ps_v) (i := (k : Int)) tp3_gv rfl r_ps_v (by omega) (by omega) (by decide) rfl) ?_
  refine x_pure (v := Value.int .i64 (max t5_1 ((gI ps (k : Int)).2))) 15 rfl (by kernel_rfl) (by kernel_rfl) rfl (fun w => e_max rfl rfl) ?_
  refine x_pure (v := Value.agg (List.toArray [Value.int .i64 (max t5_0 ((gI ps (k : Int)).1)), Value.int .i64 (max t5_1 ((gI ps (k : Int)).2))])) 16 rfl (by kernel_rfl) (by kernel_rfl) rfl (fun w => e_build (vs := [(0, Value.int .i64 (max t5_0 ((gI ps (k : Int)).1))), (1, Value.int .i64 (max t5_1 ((gI ps (k : Int)).2)))]) rfl (by kernel_rfl)) ?_
  refine x_one 17 rfl (by kernel_rfl) rfl ?_
  refine o_store_bx (cs' := [Value.int .i64 (max t5_0 ((gI ps (k : Int)).1)), Value.int .i64 (max t5_1 ((gI ps (k : Int)).2))]) tp23_gv (by exact zs5) rfl bx32 rfl (Nat.le_of_ble_eq_true rfl) (AllOne.all (.cons rfl (.cons rfl .nil))) rfl ?_
  intro w71 ch72 bx73
  clear bx32
  refine x_nil (by kernel_rfl) ?_
  refine run_inBlock ?_
  refine run_region rfl ?_
  refine l_val (v := Value.int .i64 (k : Int)) rfl (e_move (by exact zs6)) ?_
  refine l_val (v := Value.int .i64 ((k : Int) + 1)) rfl (e_add (m := (k : Int)) (n := 1) rfl rfl (by omega)) ?_
  refine l_val (v := Value.int .i64 ((k : Int) + 1)) rfl (e_assign rfl) ?_
  refine l_nil ?_
  have C74 : Chg (inl [3, 4]) _ _ _ _ := (ch63.n).seq ((ch66.l rfl).seq ((ch68.n).seq (ch72.l rfl)))
  replace hbase := hbase.chg C74 (is_nl rfl)
  replace r_ps_v := r_ps_v.chg ch72 (is_ne rfl)
  replace bx5 := bx5.chg C74 (is_nl rfl)
  replace bx10 := bx10.chg C74 (is_nl rfl)
  replace bx67 := (bx67.chg ch68 (not_no _)).chg ch72 (is_ne rfl)
  refine back3 (min t4_0 ((gI ps (k : Int)).1), min t4_1 ((gI ps (k : Int)).2), max t5_0 ((gI ps (k : Int)).1), max t5_1 ((gI ps (k : Int)).2), k + 1, g61) _ _ ⟨hbase, (by exact zs0), (by exact zs2), (by exact zs3), (by exact zs4), (by exact zs5), rfl, r_ps_v, bx5, bx10, bx67, bx73, by omega, ?_⟩ ?_
  · show ((min t4_0 ((gI ps (k : Int)).1)) = (loK ps (k + 1)).1 ∧ (min t4_1 ((gI ps (k : Int)).2)) = (loK ps (k + 1)).2) ∧ (max t5_0 ((gI ps (k : Int)).1)) = (hiK ps (k + 1)).1 ∧ (max t5_1 ((gI ps (k : Int)).2)) = (hiK ps (k + 1)).2
    (obtain ⟨⟨e1, e2⟩, e3, e4⟩ := hinv; rw [e1, e2, e3, e4]; exact ⟨⟨rfl, rfl⟩, rfl, rfl⟩)
  · show Int.toNat (((List.length ps : Int) : Int) - ((k + 1) : Int)) < Int.toNat (((List.length ps : Int) : Int) - (k : Int))
    omega
 refine run_cond_f rfl (decide_eq_false p3) ?_
 refine run_exit rfl ?_
 refine run_seq ?_
 refine run_region_h g61 (inl [1, 2]) mixed_gv ?_
 intro w76 ch75
 replace bx28 := bx28.chg ch75 (not_no _)
 refine h_take (v := Value.agg (List.toArray [Value.int .i64 t4_0, Value.int .i64 t4_1])) 0 rfl (by kernel_rfl) (by kernel_rfl) rfl (Chg.refl _ _ _) (fun w' hw' => e_load_bxN (ds := [Value.int .i64 t4_0, Value.int .i64 t4_1]) tp23_gv (by exact zs4) (bx28.chg hw' (is_nl rfl)) rfl rfl) ?_
 replace bx32 := bx32.chg ch75 (not_no _)
 refine h_take (v := Value.agg (List.toArray [Value.int .i64 t5_0, Value.int .i64 t5_1])) 1 rfl (by kernel_rfl) (by kernel_rfl) rfl (Chg.refl _ _ _) (fun w' hw' => e_load_bxN (ds := [Value.int .i64 t5_0, Value.int .i64 t5_1]) tp23_gv (by exact zs5) (bx32.chg hw' (is_nl rfl)) rfl rfl) ?_
 refine h_one 2 rfl (by kernel_rfl) rfl ?_
 replace bx5 := bx5.chg ch75 (not_no _)
 refine o_store_bx (cs' := [Value.int .i64 t4_0, Value.int .i64 t4_1]) tp23_gv (by exact zs2) rfl bx5 rfl (Nat.le_of_ble_eq_true rfl) (AllOne.all (.cons rfl (.cons rfl .nil))) rfl ?_
 intro w77 ch78 bx79
 clear bx5
 have hs80 : Chg (inl [1, 2]) _ _ _ _ := ch78.l rfl
 refine ⟨hs80.same, ?_⟩
 refine h_one 3 rfl (by kernel_rfl) rfl ?_
 replace bx10 := (bx10.chg ch75 (not_no _)).chg ch78 (is_ne rfl)
 refine o_store_bx (cs' := [Value.int .i64 t5_0, Value.int .i64 t5_1]) tp23_gv (by exact zs3) rfl bx10 rfl (Nat.le_of_ble_eq_true rfl) (AllOne.all (.cons rfl (.cons rfl .nil))) rfl ?_
 intro w81 ch82 bx83
 clear bx10
 have hs84 := hs80.seq (ch82.l rfl)
 refine ⟨hs84.same, ?_⟩
 refine h_nil (by kernel_rfl) ?_
 replace bx79 := bx79.chg ch82 (is_ne rfl)
 refine run_ret (vs := [Value.agg (List.toArray [Value.int .i64 t4_0, Value.int .i64 t4_1]), Value.agg (List.toArray [Value.int .i64 t5_0, Value.int .i64 t5_1])]) Try.func33 (.cell (by exact zs2) (load_bxN (ds := [Value.int .i64 t4_0, Value.int .i64 t4_1]) tp23_gv bx79 rfl rfl) (.cell (by exact zs3) (load_bxN (ds := [Value.int .i64 t5_0, Value.int .i64 t5_1]) tp23_gv bx83 rfl rfl) .nil)) ?_
 -- return 0
 have e0 : ((t4_0, t4_1) : (Int) × (Int)) = (loK ps ps.length) := by
   have hk : k = ps.length := by omega
   obtain ⟨⟨e1, e2⟩, e3, e4⟩ := hinv
   first | (rw [← hk, e1]; done) | (rw [← hk, e2]; done) | (rw [← hk, e3]; done) | (rw [← hk, e4]; done) | (rw [← hk, e1, e2]; done) | (rw [← hk, e3, e4]; done)
 have e1 : ((t5_0, t5_1) : (Int) × (Int)) = (hiK ps ps.length) := by
   have hk : k = ps.length := by omega
   obtain ⟨⟨e1, e2⟩, e3, e4⟩ := hinv
   first | (rw [← hk, e1]; done) | (rw [← hk, e2]; done) | (rw [← hk, e3]; done) | (rw [← hk, e4]; done) | (rw [← hk, e1, e2]; done) | (rw [← hk, e3, e4]; done)
 have C85 : Chg (inl [1, 2]) _ _ _ _ := (ch75.n).seq ((ch78.l rfl).seq (ch82.l rfl))
 replace hbase := hbase.chg C85 (is_nl rfl)
 exact ⟨(congr2 (a := (t4_0, t4_1)) (b := (t5_0, t5_1)) (fun (z0 : (Int) × (Int)) (z1 : (Int) × (Int)) => Ending.returned (Value.tuple (List.toArray [Value.agg (List.toArray [Value.int .i64 z0.1, Value.int .i64 z0.2]), Value.agg (List.toArray [Value.int .i64 z1.1, Value.int .i64 z1.2])]))) e0 e1), hbase.below⟩

set_option maxHeartbeats 4000000 in
theorem D2Simple_ok (w0 : World) (ps : List ((Int) × (Int))) (ps_v : Value) (hps_v : Ro w0 ps_v ps) (hok : okL ps) (h0 : 0 < ps.length) :
    Calls Try.prog 32 #[ps_v] w0 (fun ee w => ee = .returned (Value.bool (decide (simP ps))) ∧ Bel w0.heap.size w0 w) := by
 refine calls_of_run Try.func32 rfl (Nat.le_of_ble_eq_true rfl) ?_
 have hbase := Base.start w0
 have r_ps_v := hps_v.sl
 have hok2 := hok
 obtain ⟨hl1, hl2⟩ := hok
 refine run_seq (run_region rfl ?_)
 refine l_val (v := Value.bool false) rfl (e_assign rfl) ?_
 refine l_nil (run_seq (run_region rfl ?_))
 refine l_val (v := ps_v) rfl (e_move rfl) ?_
 have len1 := (r_ps_v).small
 refine l_val (v := Value.int .i64 (List.length ps : Int)) rfl (e_len Try.underlying25 rfl r_ps_v) ?_
 refine l_val (v := Value.int .i64 ((List.length ps : Int) - 1)) rfl (e_sub (m := (List.length ps : Int)) (n := 1) rfl rfl (by omega)) ?_
 refine l_val (v := Value.int .i64 ((List.length ps : Int) - 1)) rfl (e_assign rfl) ?_
 refine l_nil (run_seq (run_seq (run_region rfl ?_)))
 refine l_val (v := Value.int .i64 0) rfl (e_assign rfl) ?_
 refine l_nil ?_
 refine run_block ?_
 refine run_loop (σ := Nat × Cmap) (fun ⟨i, gq⟩ f w => Base w0 gq w ∧ f 0 = ps_v ∧ f 3 = Value.int .i64 ((List.length ps : Int) - 1) ∧ f 4 = Value.int .i64 (i : Int) ∧ Sl gq (is 0) w ps_v ps ∧ (i : Int) ≤ ((List.length ps : Int) - 1 : Int) ∧ (∀ j : Nat, j < i → gI ps (j : Int) ≠ gI ps ((j : Int) + 1))) (fun ⟨i, gq⟩ => List.length ps - i) (0, c0) ?_ ?_
 · exact ⟨hbase, rfl, rfl, rfl, r_ps_v, by omega, by intro j hj; omega⟩
 clear r_ps_v
 clear hbase
 rintro ⟨i, g4⟩ f2 w3 ⟨hbase, zs0, zs3, zs4, r_ps_v, hle_i, hinv0⟩ back3
 refine run_seq (run_seq (run_region rfl ?_))
 refine l_val (v := Value.int .i64 (i : Int)) rfl (e_move (by exact zs4)) ?_
 refine l_val (v := Value.int .i64 ((List.length ps : Int) - 1)) rfl (e_move (by exact zs3)) ?_
 refine l_val (v := Value.bool (decide ((i : Int) < ((List.length ps : Int) - 1)))) rfl (e_lss (m := (i : Int)) (n := (List.length ps : Int) - 1) rfl rfl) ?_
 refine l_nil ?_
 by_cases p3 : (i : Int) < ((List.length ps : Int) - 1)
 ·
  refine run_cond_t rfl (decide_eq_true p3) ?_
  refine run_skip ?_
  refine run_seq ?_
  refine run_block ?_
  refine run_seq ?_
  refine region_q g4 rfl mixed_gv (by kernel_rfl) ?_
  intro w6 ch5
  refine q_val (v := ps_v) rfl (fun w' hw' => e_move (by exact zs0)) ?_
  refine q_val (v := Value.int .i64 (i : Int)) rfl (fun w' hw' => e_move (by exact zs4)) ?_
  replace r_ps_v := r_ps_v.chg ch5 (not_no _)
  refine q_val (v := Value.pointer (some (eAddr ps_v 2 (Int.toNat (i : Int))))) rfl (fun w' hw' => e_indexAddr (α := (Int) × (Int)) (xs := ps) (v := ps_v) (i := (i : Int)) Try.underlying25 rfl rfl (r_ps_v.bel hw') rfl (by omega) (by omega)) ?_
  refine q_val (v := Value.agg (List.toArray [Value.int .i64 ((gI ps (i : Int)).1), Value.int .i64 ((gI ps (i : Int)).2)])) rfl (fun w' hw' => e_load_elN (α := (Int) × (Int)) (xs := ps) (v := ps_v) (i := (i : Int)) tp23_gv rfl (r_ps_v.bel hw') (by omega) (by omega) rfl) ?_
  refine q_val (v := ps_v) rfl (fun w' hw' => e_move (by exact zs0)) ?_
  refine q_val (v := Value.int .i64 (i : Int)) rfl (fun w' hw' => e_move (by exact zs4)) ?_
  refine q_val (v := Value.int .i64 ((i : Int) + 1)) rfl (fun w' hw' => e_add (m := (i : Int)) (n := 1) rfl rfl (by omega)) ?_
  refine q_val (v := Value.pointer (some (eAddr ps_v 2 (Int.toNat ((i : Int) + 1))))) rfl (fun w' hw' => e_indexAddr (α := (Int) × (Int)) (xs := ps) (v := ps_v) (i := (i : Int) + 1) Try.underlying25 rfl rfl (r_ps_v.bel hw') rfl (by omega) (by omega)) ?_
  refine q_val (v := Value.agg (List.toArray [Value.int .i64 ((gI ps ((i : Int) + 1)).1), Value.int .i64 ((gI ps ((i : Int) + 1)).2)])) rfl (fun w' hw' => e_load_elN (α := (Int) × (Int)) (xs := ps) (v := ps_v) (i := (i : Int) + 1) tp23_gv rfl (r_ps_v.bel hw') (by omega) (by omega) rfl) ?_
  refine q_val (v := Value.bool (decide ((gI ps (i : Int)) = (gI ps ((i : Int) + 1))))) rfl (fun w' hw' => e_eql_struct (bs := [decide (((gI ps (i : Int)).1) = ((gI ps ((i : Int) + 1)).1)), decide (((gI ps (i : Int)).2) = ((gI ps ((i : Int) + 1)).2))]) Try.underlying23 (by kernel_rfl) (by kernel_rfl) rfl rfl (.cons (by decide +kernel) tp3_gv rfl rfl (.int Try.underlying3) (.cons (by decide +kernel) tp3_gv rfl rfl (.int Try.underlying3) .nil)) (by simp [Prod.ext_iff, Bool.decide_and, Bool.and_assoc])) ?_
  refine q_nil ?_
  intro w7 hc8
  replace hc8 := chg_below hc8 g4
  by_cases p5 : (gI ps (i : Int)) = (gI ps ((i : Int) + 1))
  ·
   refine run_cond_t rfl (decide_eq_true p5) ?_
   refine run_seq (run_region rfl ?_)
   refine l_val (v := Value.bool false) rfl (e_assign rfl) ?_
   refine l_nil ?_
   refine run_ret (vs := [Value.bool false]) Try.func32 (.tmp rfl .nil) ?_
   -- return 0
   have e0 : (false : Bool) = (decide (simP ps)) := by
     first
       | exact sim_eq (i := i) (by omega) (by assumption)
       | exact sim_all hd0 hinv (by assumption)
       | exact sim_bad (i := v) (k := k) (by omega) (by omega) hk.2 (by first | exact bad2 hok2 (by omega) (by omega) (by first | exact join1 (by assumption) | exact join2' (by assumption) (by assumption) (by assumption) (by assumption) | exact hro.1 (by assumption)) (by rw [← hrm]; assumption) | exact bad0 (by first | exact nojoin0 (by assumption) (by assumption) | exact nojoin1' (by assumption) (by assumption) | exact nojoin3 (by assumption) (by assumption) | exact nojoin4 (by assumption) (by assumption) | exact hro.2 (by assumption) (by assumption)) (by rw [← hrm]; assumption))
   replace hbase := hbase.chg ch5 (not_no _)
   replace hbase := hbase.chg hc8 (not_no _)
   exact ⟨(congrArg (a₁ := false) (fun (z0 : Bool) => Ending.returned (Value.bool z0)) e0), hbase.below⟩
  refine run_cond_f rfl (decide_eq_false p5) ?_
  refine run_skip ?_
  refine run_inBlock ?_
  refine run_region rfl ?_
  refine l_val (v := Value.int .i64 (i : Int)) rfl (e_move (by exact zs4)) ?_
  refine l_val (v := Value.int .i64 ((i : Int) + 1)) rfl (e_add (m := (i : Int)) (n := 1) rfl rfl (by omega)) ?_
  refine l_val (v := Value.int .i64 ((i : Int) + 1)) rfl (e_assign rfl) ?_
  refine l_nil ?_
  replace hbase := hbase.chg ch5 (not_no _)
  replace hbase := hbase.chg hc8 (not_no _)
  replace r_ps_v := r_ps_v.chg hc8 (not_no _)
  refine back3 (i + 1, g4) _ _ ⟨hbase, (by exact zs0), (by exact zs3), rfl, r_ps_v, by omega, ?_⟩ ?_
  · show ∀ j : Nat, j < (i + 1) → gI ps (j : Int) ≠ gI ps ((j : Int) + 1)
    intro j hj
    by_cases e0 : j = i
    · subst e0; assumption
    · exact hinv0 j (by omega)
  · show List.length ps - (i + 1) < List.length ps - i
    omega
 refine run_cond_f rfl (decide_eq_false p3) ?_
 refine run_exit rfl ?_
 refine run_seq (run_seq ?_)
 have hd0 : ∀ j : Nat, (j : Int) < (ps.length : Int) - 1 → gI ps (j : Int) ≠ gI ps ((j : Int) + 1) := fun j hj => hinv0 j (by omega)
 refine run_region rfl ?_
 refine l_val (v := Value.int .i64 0) rfl (e_assign rfl) ?_
 refine l_nil ?_
 refine run_block ?_
 refine run_loop (σ := Nat × Cmap) (fun ⟨v, gq⟩ f w => Base w0 gq w ∧ f 0 = ps_v ∧ f 3 = Value.int .i64 ((List.length ps : Int) - 1) ∧ f 5 = Value.int .i64 (v : Int) ∧ Sl gq (is 0) w ps_v ps ∧ (v : Int) ≤ ((List.length ps : Int) - 1 : Int) ∧ (∀ j_ : Nat, j_ < v → ∀ k_ : Nat, j_ < k_ → (k_ : Int) < (ps.length : Int) - 1 → ¬ badP ps j_ k_)) (fun ⟨v, gq⟩ => List.length ps - v) (0, g4) ?_ ?_
 · exact ⟨hbase, (by exact zs0), (by exact zs3), rfl, r_ps_v, by omega, by intro j hj; omega⟩
 clear r_ps_v
 clear hbase
 rintro ⟨v, g11⟩ f9 w10 ⟨hbase, zs0, zs3, zs5, r_ps_v, hle_v, hinv⟩ back8
 refine run_seq (run_seq (run_region rfl ?_))
 refine l_val (v := Value.int .i64 (v : Int)) rfl (e_move (by exact zs5)) ?_
 refine l_val (v := Value.int .i64 ((List.length ps : Int) - 1)) rfl (e_move (by exact zs3)) ?_
 refine l_val (v := Value.bool (decide ((v : Int) < ((List.length ps : Int) - 1)))) rfl (e_lss (m := (v : Int)) (n := (List.length ps : Int) - 1) rfl rfl) ?_
 refine l_nil ?_
 by_cases p8 : (v : Int) < ((List.length ps : Int) - 1)
 ·
  refine run_cond_t rfl (decide_eq_true p8) ?_
  refine run_skip ?_
  refine run_seq ?_
  refine run_block ?_
  refine run_seq (run_region rfl ?_)
  refine l_val (v := Value.int .i64 (v : Int)) rfl (e_move (by exact zs5)) ?_
  refine l_val (v := Value.int .i64 ((v : Int) + 1)) rfl (e_add (m := (v : Int)) (n := 1) rfl rfl (by omega)) ?_
  refine l_val (v := Value.int .i64 ((v : Int) + 1)) rfl (e_assign rfl) ?_
  refine l_nil ?_
  refine run_block ?_
  refine run_loop (σ := Nat × Cmap) (fun ⟨k, gq⟩ f w => Base w0 gq w ∧ f 0 = ps_v ∧ f 3 = Value.int .i64 ((List.length ps : Int) - 1) ∧ f 5 = Value.int .i64 (v : Int) ∧ f 6 = Value.int .i64 (k : Int) ∧ Sl gq (is 0) w ps_v ps ∧ (k : Int) ≤ ((List.length ps : Int) - 1 : Int) ∧ ((∀ j_ : Nat, v < j_ → j_ < k → ¬ badP ps v j_) ∧ v < k)) (fun ⟨k, gq⟩ => List.length ps - k) (v + 1, g11) ?_ ?_
  · exact ⟨hbase, (by exact zs0), (by exact zs3), (by exact zs5), rfl, r_ps_v, by omega, by exact ⟨fun j h1 h2 => by omega, by omega⟩⟩
  clear r_ps_v
  clear hbase
  rintro ⟨k, g14⟩ f12 w13 ⟨hbase, zs0, zs3, zs5, zs6, r_ps_v, hle_k, hk⟩ back11
  refine run_seq (run_seq (run_region rfl ?_))
  refine l_val (v := Value.int .i64 (k : Int)) rfl (e_move (by exact zs6)) ?_
  refine l_val (v := Value.int .i64 ((List.length ps : Int) - 1)) rfl (e_move (by exact zs3)) ?_
  refine l_val (v := Value.bool (decide ((k : Int) < ((List.length ps : Int) - 1)))) rfl (e_lss (m := (k : Int)) (n := (List.length ps : Int) - 1) rfl rfl) ?_
  refine l_nil ?_
  by_cases p11 : (k : Int) < ((List.length ps : Int) - 1)
  ·
   refine run_cond_t rfl (decide_eq_true p11) ?_
   have hb1 := (hl2 _ (gI_mem (xs := ps) (i := (v : Int)) (by omega) (by omega))).bd
   have hb2 := (hl2 _ (gI_mem (xs := ps) (i := (v : Int) + 1) (by omega) (by omega))).bd
   have hb3 := (hl2 _ (gI_mem (xs := ps) (i := (k : Int)) (by omega) (by omega))).bd
   have hb4 := (hl2 _ (gI_mem (xs := ps) (i := (k : Int) + 1) (by omega) (by omega))).bd
   have hrm := ref_meet hb1 hb2 hb3 hb4
   refine run_skip ?_
   refine run_seq ?_
   refine run_block ?_
   refine run_seq ?_
   refine region_q g14 rfl mixed_gv (by kernel_rfl) ?_
   intro w16 ch15
   refine q_val (v := ps_v) rfl (fun w' hw' => e_move (by exact zs0)) ?_
   refine q_val (v := Value.int .i64 (v : Int)) rfl (fun w' hw' => e_move (by exact zs5)) ?_
   replace r_ps_v := r_ps_v.chg ch15 (not_no _)
   refine q_val (v := Value.pointer (some (eAddr ps_v 2 (Int.toNat (v : Int))))) rfl (fun w' hw' => e_indexAddr (α := (Int) × (Int)) (xs := ps) (v := ps_v) (i := (v : Int)) Try.underlying25 rfl rfl (r_ps_v.bel hw') rfl (by omega) (by omega)) ?_
   refine q_val (v := Value.agg (List.toArray [Value.int .i64 ((gI ps (v : Int)).1), Value.int .i64 ((gI ps (v : Int)).2)])) rfl (fun w' hw' => e_load_elN (α := (Int) × (Int)) (xs := ps) (v := ps_v) (i := (v : Int)) tp23_gv rfl (r_ps_v.bel hw') (by omega) (by omega) rfl) ?_
   refine q_val (v := ps_v) rfl (fun w' hw' => e_move (by exact zs0)) ?_
   refine q_val (v := Value.int .i64 (v : Int)) rfl (fun w' hw' => e_move (by exact zs5)) ?_
   refine q_val (v := Value.int .i64 ((v : Int) + 1)) rfl (fun w' hw' => e_add (m := (v : Int)) (n := 1) rfl rfl (by omega)) ?_
   refine q_val (v := Value.pointer (some (eAddr ps_v 2 (Int.toNat ((v : Int) + 1))))) rfl (fun w' hw' => e_indexAddr (α := (Int) × (Int)) (xs := ps) (v := ps_v) (i := (v : Int) + 1) Try.underlying25 rfl rfl (r_ps_v.bel hw') rfl (by omega) (by omega)) ?_
   refine q_val (v := Value.agg (List.toArray [Value.int .i64 ((gI ps ((v : Int) + 1)).1), Value.int .i64 ((gI ps ((v : Int) + 1)).2)])) rfl (fun w' hw' => e_load_elN (α := (Int) × (Int)) (xs := ps) (v := ps_v) (i := (v : Int) + 1) tp23_gv rfl (r_ps_v.bel hw') (by omega) (by omega) rfl) ?_
   refine q_val (v := ps_v) rfl (fun w' hw' => e_move (by exact zs0)) ?_
   refine q_val (v := Value.int .i64 (k : Int)) rfl (fun w' hw' => e_move (by exact zs6)) ?_
   refine q_val (v := Value.pointer (some (eAddr ps_v 2 (Int.toNat (k : Int))))) rfl (fun w' hw' => e_indexAddr (α := (Int) × (Int)) (xs := ps) (v := ps_v) (i := (k : Int)) Try.underlying25 rfl rfl (r_ps_v.bel hw') rfl (by omega) (by omega)) ?_
   refine q_val (v := Value.agg (List.toArray [Value.int .i64 ((gI ps (k : Int)).1), Value.int .i64 ((gI ps (k : Int)).2)])) rfl (fun w' hw' => e_load_elN (α := (Int) × (Int)) (xs := ps) (v := ps_v) (i := (k : Int)) tp23_gv rfl (r_ps_v.bel hw') (by omega) (by omega) rfl) ?_
   refine q_val (v := ps_v) rfl (fun w' hw' => e_move (by exact zs0)) ?_
   refine q_val (v := Value.int .i64 (k : Int)) rfl (fun w' hw' => e_move (by exact zs6)) ?_
   refine q_val (v := Value.int .i64 ((k : Int) + 1)) rfl (fun w' hw' => e_add (m := (k : Int)) (n := 1) rfl rfl (by omega)) ?_
   refine q_val (v := Value.pointer (some (eAddr ps_v 2 (Int.toNat ((k : Int) + 1))))) rfl (fun w' hw' => e_indexAddr (α := (Int) × (Int)) (xs := ps) (v := ps_v) (i := (k : Int) + 1) Try.underlying25 rfl rfl (r_ps_v.bel hw') rfl (by omega) (by omega)) ?_
   refine q_val (v := Value.agg (List.toArray [Value.int .i64 ((gI ps ((k : Int) + 1)).1), Value.int .i64 ((gI ps ((k : Int) + 1)).2)])) rfl (fun w' hw' => e_load_elN (α := (Int) × (Int)) (xs := ps) (v := ps_v) (i := (k : Int) + 1) tp23_gv rfl (r_ps_v.bel hw') (by omega) (by omega) rfl) ?_
   refine q_call (v := Value.int .i64 (refM (gI ps (v : Int)) (gI ps ((v : Int) + 1)) (gI ps (k : Int)) (gI ps ((k : Int) + 1)))) rfl (fun w' hw' => e_call (vals := [Value.agg (List.toArray [Value.int .i64 ((gI ps (v : Int)).1), Value.int .i64 ((gI ps (v : Int)).2)]), Value.agg (List.toArray [Value.int .i64 ((gI ps ((v : Int) + 1)).1), Value.int .i64 ((gI ps ((v : Int) + 1)).2)]), Value.agg (List.toArray [Value.int .i64 ((gI ps (k : Int)).1), Value.int .i64 ((gI ps (k : Int)).2)]), Value.agg (List.toArray [Value.int .i64 ((gI ps ((k : Int) + 1)).1), Value.int .i64 ((gI ps ((k : Int) + 1)).2)])]) Try.func23 bd23_gv nm23_gv rfl) (fun w' hw' => (D2Meet_ok w' (gI ps (v : Int)) (gI ps ((v : Int) + 1)) (gI ps (k : Int)) (gI ps ((k : Int) + 1)) (by assumption) (by assumption) (by assumption) (by assumption)).mono fun e w2 h2 => ⟨h2.1, hw'.trans (h2.2.mono hw'.size)⟩) ?_
   refine q_val (v := Value.int .i64 (refM (gI ps (v : Int)) (gI ps ((v : Int) + 1)) (gI ps (k : Int)) (gI ps ((k : Int) + 1)))) rfl (fun w' hw' => e_assign rfl) ?_
   refine q_nil ?_
   intro w17 hc18
   replace hc18 := chg_below hc18 g14
   refine run_seq (run_region rfl ?_)
   refine l_val (v := Value.int .i64 (k : Int)) rfl (e_move (by exact zs6)) ?_
   refine l_val (v := Value.int .i64 (v : Int)) rfl (e_move (by exact zs5)) ?_
   refine l_val (v := Value.int .i64 ((v : Int) + 1)) rfl (e_add (m := (v : Int)) (n := 1) rfl rfl (by omega)) ?_
   refine l_val (v := Value.bool (decide ((k : Int) = ((v : Int) + 1)))) rfl (e_eql (m := (k : Int)) (n := (v : Int) + 1) rfl rfl) ?_
   refine l_val (v := Value.bool (decide ((k : Int) = ((v : Int) + 1)))) rfl (e_assign rfl) ?_
   refine l_nil (run_seq ?_)
   refine region_q g14 rfl mixed_gv (by kernel_rfl) ?_
   intro w20 ch19
   refine q_val (v := Value.int .i64 (v : Int)) rfl (fun w' hw' => e_move (by exact zs5)) ?_
   refine q_val (v := Value.bool (decide ((v : Int) = 0))) rfl (fun w' hw' => e_eql (m := (v : Int)) (n := 0) rfl rfl) ?_
   refine q_val (v := Value.bool (decide ((v : Int) = 0))) rfl (fun w' hw' => e_move rfl) ?_
   by_cases q65 : (v : Int) = 0
   ·
    refine q_val (v := Value.int .i64 (k : Int)) (want_y rfl rfl rfl (decide_eq_true q65)) (fun w' hw' => e_move (by exact zs6)) ?_
    refine q_val (v := Value.int .i64 ((List.length ps : Int) - 1)) (want_y rfl rfl rfl (decide_eq_true q65)) (fun w' hw' => e_move (by exact zs3)) ?_
    refine q_val (v := Value.int .i64 (((List.length ps : Int) - 1) - 1)) (want_y rfl rfl rfl (decide_eq_true q65)) (fun w' hw' => e_sub (m := (List.length ps : Int) - 1) (n := 1) rfl rfl (by omega)) ?_
    refine q_val (v := Value.bool (decide ((k : Int) = (((List.length ps : Int) - 1) - 1)))) (want_y rfl rfl rfl (decide_eq_true q65)) (fun w' hw' => e_eql (m := (k : Int)) (n := ((List.length ps : Int) - 1) - 1) rfl rfl) ?_
    refine q_val (v := Value.bool (decide ((k : Int) = (((List.length ps : Int) - 1) - 1)))) rfl (fun w' hw' => e_pick_t rfl (decide_eq_true q65) rfl) ?_
    refine q_val (v := Value.bool (decide ((k : Int) = (((List.length ps : Int) - 1) - 1)))) rfl (fun w' hw' => e_move rfl) ?_
    by_cases q71 : (k : Int) = (((List.length ps : Int) - 1) - 1)
    ·
     refine q_val (v := Value.int .i64 ((List.length ps : Int) - 1)) (want_y rfl rfl rfl (decide_eq_true q71)) (fun w' hw' => e_move (by exact zs3)) ?_
     refine q_val (v := Value.bool (decide (3 ≤ ((List.length ps : Int) - 1)))) (want_y rfl rfl rfl (decide_eq_true q71)) (fun w' hw' => e_geq (m := (List.length ps : Int) - 1) (n := 3) rfl rfl) ?_
     refine q_val (v := Value.bool (decide (3 ≤ ((List.length ps : Int) - 1)))) rfl (fun w' hw' => e_pick_t rfl (decide_eq_true q71) rfl) ?_
     refine q_val (v := Value.bool (decide (3 ≤ ((List.length ps : Int) - 1)))) rfl (fun w' hw' => e_move rfl) ?_
     by_cases q75 : 3 ≤ ((List.length ps : Int) - 1)
     ·
      refine q_val (v := ps_v) (want_y rfl rfl rfl (decide_eq_true q75)) (fun w' hw' => e_move (by exact zs0)) ?_
      replace r_ps_v := (r_ps_v.chg hc18 (not_no _)).chg ch19 (not_no _)
      refine q_val (v := Value.pointer (some (eAddr ps_v 2 (Int.toNat 0)))) (want_y rfl rfl rfl (decide_eq_true q75)) (fun w' hw' => e_indexAddr (α := (Int) × (Int)) (xs := ps) (v := ps_v) (i := 0) Try.underlying25 rfl rfl (r_ps_v.bel hw') rfl (by omega) (by omega)) ?_
      refine q_val (v := Value.agg (List.toArray [Value.int .i64 ((gI ps 0).1), Value.int .i64 ((gI ps 0).2)])) (want_y rfl rfl rfl (decide_eq_true q75)) (fun w' hw' => e_load_elN (α := (Int) × (Int)) (xs := ps) (v := ps_v) (i := 0) tp23_gv rfl (r_ps_v.bel hw') (by omega) (by omega) rfl) ?_
      refine q_val (v := ps_v) (want_y rfl rfl rfl (decide_eq_true q75)) (fun w' hw' => e_move (by exact zs0)) ?_
      refine q_val (v := Value.int .i64 ((List.length ps : Int) - 1)) (want_y rfl rfl rfl (decide_eq_true q75)) (fun w' hw' => e_move (by exact zs3)) ?_
      refine q_val (v := Value.pointer (some (eAddr ps_v 2 (Int.toNat ((List.length ps : Int) - 1))))) (want_y rfl rfl rfl (decide_eq_true q75)) (fun w' hw' => e_indexAddr (α := (Int) × (Int)) (xs := ps) (v := ps_v) (i := (List.length ps : Int) - 1) Try.underlying25 rfl rfl (r_ps_v.bel hw') rfl (by omega) (by omega)) ?_
      refine q_val (v := Value.agg (List.toArray [Value.int .i64 ((gI ps ((List.length ps : Int) - 1)).1), Value.int .i64 ((gI ps ((List.length ps : Int) - 1)).2)])) (want_y rfl rfl rfl (decide_eq_true q75)) (fun w' hw' => e_load_elN (α := (Int) × (Int)) (xs := ps) (v := ps_v) (i := (List.length ps : Int) - 1) tp23_gv rfl (r_ps_v.bel hw') (by omega) (by omega) rfl) ?_
      refine q_val (v := Value.bool (decide ((gI ps 0) = (gI ps ((List.length ps : Int) - 1))))) (want_y rfl rfl rfl (decide_eq_true q75)) (fun w' hw' => e_eql_struct (bs := [decide (((gI ps 0).1) = ((gI ps ((List.length ps : Int) - 1)).1)), decide (((gI ps 0).2) = ((gI ps ((List.length ps : Int) - 1)).2))]) Try.underlying23 (by kernel_rfl) (by kernel_rfl) rfl rfl (.cons (by decide +kernel) tp3_gv rfl rfl (.int Try.underlying3) (.cons (by decide +kernel) tp3_gv rfl rfl (.int Try.underlying3) .nil)) (by simp [Prod.ext_iff, Bool.decide_and, Bool.and_assoc])) ?_
      refine q_val (v := Value.bool (decide ((gI ps 0) = (gI ps ((List.length ps : Int) - 1))))) rfl (fun w' hw' => e_pick_t rfl (decide_eq_true q75) rfl) ?_
      refine q_val (v := Value.bool (decide ((gI ps 0) = (gI ps ((List.length ps : Int) - 1))))) rfl (fun w' hw' => e_assign rfl) ?_
      refine q_nil ?_
      intro w21 hc22
      replace hc22 := chg_below hc22 g14
      refine run_seq (run_region rfl ?_)
      refine l_val (v := Value.bool (decide ((k : Int) = ((v : Int) + 1)))) rfl (e_move rfl) ?_
      refine l_val (v := Value.bool (decide ((k : Int) = ((v : Int) + 1)))) rfl (e_move rfl) ?_
      by_cases q86 : (k : Int) = ((v : Int) + 1)
      ·
       refine l_skip (want_n rfl rfl rfl (decide_eq_true q86)) ?_
       refine l_val (v := Value.bool true) rfl (e_pick_t rfl (decide_eq_true q86) rfl) ?_
       refine l_val (v := Value.bool true) rfl (e_move rfl) ?_
       refine l_val (v := Value.int .i64 (refM (gI ps (v : Int)) (gI ps ((v : Int) + 1)) (gI ps (k : Int)) (gI ps ((k : Int) + 1)))) (want_y rfl rfl rfl rfl) (e_move rfl) ?_
       refine l_val (v := Value.bool (!(decide ((refM (gI ps (v : Int)) (gI ps ((v : Int) + 1)) (gI ps (k : Int)) (gI ps ((k : Int) + 1))) = 2)))) (want_y rfl rfl rfl rfl) (e_neq (m := refM (gI ps (v : Int)) (gI ps ((v : Int) + 1)) (gI ps (k : Int)) (gI ps ((k : Int) + 1))) (n := 2) rfl rfl) ?_
       refine l_val (v := Value.bool (!(decide ((refM (gI ps (v : Int)) (gI ps ((v : Int) + 1)) (gI ps (k : Int)) (gI ps ((k : Int) + 1))) = 2)))) rfl (e_pick_t rfl rfl rfl) ?_
       refine l_val (v := Value.bool (!(decide ((refM (gI ps (v : Int)) (gI ps ((v : Int) + 1)) (gI ps (k : Int)) (gI ps ((k : Int) + 1))) = 2)))) rfl (e_move rfl) ?_
       by_cases q93 : (refM (gI ps (v : Int)) (gI ps ((v : Int) + 1)) (gI ps (k : Int)) (gI ps ((k : Int) + 1))) = 2
       ·
        refine l_val (v := Value.bool (decide ((k : Int) = ((v : Int) + 1)))) (want_y rfl rfl rfl (congrArg Bool.not (decide_eq_true q93))) (e_move rfl) ?_
        refine l_val (v := Value.bool (!(decide ((k : Int) = ((v : Int) + 1))))) (want_y rfl rfl rfl (congrArg Bool.not (decide_eq_true q93))) (e_not (b := decide ((k : Int) = ((v : Int) + 1))) rfl) ?_
        refine l_val (v := Value.bool (!(decide ((k : Int) = ((v : Int) + 1))))) (want_y rfl rfl rfl (congrArg Bool.not (decide_eq_true q93))) (e_move rfl) ?_
        refine l_skip (want_n rfl rfl rfl (congrArg Bool.not (decide_eq_true q86))) ?_
        refine l_skip (want_n rfl rfl rfl (congrArg Bool.not (decide_eq_true q86))) ?_
        refine l_val (v := Value.bool false) (want_y rfl rfl rfl (congrArg Bool.not (decide_eq_true q93))) (e_pick_f rfl (congrArg Bool.not (decide_eq_true q86)) rfl) ?_
        refine l_val (v := Value.bool false) (want_y rfl rfl rfl (congrArg Bool.not (decide_eq_true q93))) (e_move rfl) ?_
        refine l_skip (want_n rfl rfl rfl rfl) (l_skip (want_n rfl rfl rfl rfl) ?_)
        refine l_val (v := Value.bool false) (want_y rfl rfl rfl (congrArg Bool.not (decide_eq_true q93))) (e_pick_f rfl rfl rfl) ?_
        refine l_val (v := Value.bool false) rfl (e_pick_f rfl (congrArg Bool.not (decide_eq_true q93)) rfl) ?_
        refine l_nil ?_
        refine run_cond_f rfl rfl ?_
        refine run_skip ?_
        refine run_inBlock ?_
        refine run_region rfl ?_
        refine l_val (v := Value.int .i64 (k : Int)) rfl (e_move (by exact zs6)) ?_
        refine l_val (v := Value.int .i64 ((k : Int) + 1)) rfl (e_add (m := (k : Int)) (n := 1) rfl rfl (by omega)) ?_
        refine l_val (v := Value.int .i64 ((k : Int) + 1)) rfl (e_assign rfl) ?_
        refine l_nil ?_
        have C23 : Chg (inl []) _ _ _ _ := (ch15.n).seq ((hc18.n).seq ((ch19.n).seq (hc22.n)))
        replace hbase := hbase.chg C23 (is_nl rfl)
        replace r_ps_v := r_ps_v.chg hc22 (not_no _)
        refine back11 (k + 1, g14) _ _ ⟨hbase, (by exact zs0), (by exact zs3), (by exact zs5), rfl, r_ps_v, by omega, ?_⟩ ?_
        · show (∀ j_ : Nat, v < j_ → j_ < (k + 1) → ¬ badP ps v j_) ∧ v < (k + 1)
          refine ⟨fun j h1 h2 => ?_, by omega⟩
          by_cases e0 : j = k
          · subst e0
            first
              | exact good2 (by first | exact join1 (by assumption) | exact join2' (by assumption) (by assumption) (by assumption) (by assumption) | exact hro.1 (by assumption)) (by rw [← hrm]; assumption)
              | exact good0 (by first | exact nojoin0 (by assumption) (by assumption) | exact nojoin1' (by assumption) (by assumption) | exact nojoin3 (by assumption) (by assumption) | exact nojoin4 (by assumption) (by assumption) | exact hro.2 (by assumption) (by assumption)) (by rw [← hrm]; assumption)
          · exact hk.1 j h1 (by omega)
        · show List.length ps - (k + 1) < List.length ps - k
          omega
       refine l_skip (want_n rfl rfl rfl (congrArg Bool.not (decide_eq_false q93))) ?_
       refine l_skip (want_n rfl rfl rfl (congrArg Bool.not (decide_eq_false q93))) ?_
       refine l_skip (want_n rfl rfl rfl (congrArg Bool.not (decide_eq_false q93))) ?_
       refine l_skip (want_u rfl rfl rfl) ?_
       refine l_skip (want_u rfl rfl rfl) ?_
       refine l_skip (want_n rfl rfl rfl (congrArg Bool.not (decide_eq_false q93))) ?_
       refine l_skip (want_n rfl rfl rfl (congrArg Bool.not (decide_eq_false q93))) ?_
       refine l_skip (want_u rfl rfl rfl) ?_
       refine l_skip (want_u rfl rfl rfl) ?_
       refine l_skip (want_n rfl rfl rfl (congrArg Bool.not (decide_eq_false q93))) ?_
       refine l_val (v := Value.bool true) rfl (e_pick_t rfl (congrArg Bool.not (decide_eq_false q93)) rfl) ?_
       refine l_nil ?_
       refine run_cond_t rfl rfl ?_
       refine run_seq (run_region rfl ?_)
       refine l_val (v := Value.bool false) rfl (e_assign rfl) ?_
       refine l_nil ?_
       refine run_ret (vs := [Value.bool false]) Try.func32 (.tmp rfl .nil) ?_
       -- return 1
       have e0 : (false : Bool) = (decide (simP ps)) := by
         first
           | exact sim_eq (i := i) (by omega) (by assumption)
           | exact sim_all hd0 hinv (by assumption)
           | exact sim_bad (i := v) (k := k) (by omega) (by omega) hk.2 (by first | exact bad2 hok2 (by omega) (by omega) (by first | exact join1 (by assumption) | exact join2' (by assumption) (by assumption) (by assumption) (by assumption) | exact hro.1 (by assumption)) (by rw [← hrm]; assumption) | exact bad0 (by first | exact nojoin0 (by assumption) (by assumption) | exact nojoin1' (by assumption) (by assumption) | exact nojoin3 (by assumption) (by assumption) | exact nojoin4 (by assumption) (by assumption) | exact hro.2 (by assumption) (by assumption)) (by rw [← hrm]; assumption))
       have C24 : Chg (inl []) _ _ _ _ := (ch15.n).seq ((hc18.n).seq ((ch19.n).seq (hc22.n)))
       replace hbase := hbase.chg C24 (is_nl rfl)
       exact ⟨(congrArg (a₁ := false) (fun (z0 : Bool) => Ending.returned (Value.bool z0)) e0), hbase.below⟩
      refine l_val (v := Value.bool (decide ((gI ps 0) = (gI ps ((List.length ps : Int) - 1))))) (want_y rfl rfl rfl (decide_eq_false q86)) (e_move rfl) ?_
      refine l_val (v := Value.bool (decide ((gI ps 0) = (gI ps ((List.length ps : Int) - 1))))) rfl (e_pick_f rfl (decide_eq_false q86) rfl) ?_
      refine l_val (v := Value.bool (decide ((gI ps 0) = (gI ps ((List.length ps : Int) - 1))))) rfl (e_move rfl) ?_
      by_cases q89 : (gI ps 0) = (gI ps ((List.length ps : Int) - 1))
      ·
       refine l_val (v := Value.int .i64 (refM (gI ps (v : Int)) (gI ps ((v : Int) + 1)) (gI ps (k : Int)) (gI ps ((k : Int) + 1)))) (want_y rfl rfl rfl (decide_eq_true q89)) (e_move rfl) ?_
       refine l_val (v := Value.bool (!(decide ((refM (gI ps (v : Int)) (gI ps ((v : Int) + 1)) (gI ps (k : Int)) (gI ps ((k : Int) + 1))) = 2)))) (want_y rfl rfl rfl (decide_eq_true q89)) (e_neq (m := refM (gI ps (v : Int)) (gI ps ((v : Int) + 1)) (gI ps (k : Int)) (gI ps ((k : Int) + 1))) (n := 2) rfl rfl) ?_
       refine l_val (v := Value.bool (!(decide ((refM (gI ps (v : Int)) (gI ps ((v : Int) + 1)) (gI ps (k : Int)) (gI ps ((k : Int) + 1))) = 2)))) rfl (e_pick_t rfl (decide_eq_true q89) rfl) ?_
       refine l_val (v := Value.bool (!(decide ((refM (gI ps (v : Int)) (gI ps ((v : Int) + 1)) (gI ps (k : Int)) (gI ps ((k : Int) + 1))) = 2)))) rfl (e_move rfl) ?_
       by_cases q93 : (refM (gI ps (v : Int)) (gI ps ((v : Int) + 1)) (gI ps (k : Int)) (gI ps ((k : Int) + 1))) = 2
       ·
        refine l_val (v := Value.bool (decide ((k : Int) = ((v : Int) + 1)))) (want_y rfl rfl rfl (congrArg Bool.not (decide_eq_true q93))) (e_move rfl) ?_
        refine l_val (v := Value.bool (!(decide ((k : Int) = ((v : Int) + 1))))) (want_y rfl rfl rfl (congrArg Bool.not (decide_eq_true q93))) (e_not (b := decide ((k : Int) = ((v : Int) + 1))) rfl) ?_
        refine l_val (v := Value.bool (!(decide ((k : Int) = ((v : Int) + 1))))) (want_y rfl rfl rfl (congrArg Bool.not (decide_eq_true q93))) (e_move rfl) ?_
        refine l_val (v := Value.bool (decide ((gI ps 0) = (gI ps ((List.length ps : Int) - 1))))) (want_y rfl rfl rfl (congrArg Bool.not (decide_eq_false q86))) (e_move rfl) ?_
        refine l_val (v := Value.bool (!(decide ((gI ps 0) = (gI ps ((List.length ps : Int) - 1)))))) (want_y rfl rfl rfl (congrArg Bool.not (decide_eq_false q86))) (e_not (b := decide ((gI ps 0) = (gI ps ((List.length ps : Int) - 1)))) rfl) ?_
        refine l_val (v := Value.bool (!(decide ((gI ps 0) = (gI ps ((List.length ps : Int) - 1)))))) (want_y rfl rfl rfl (congrArg Bool.not (decide_eq_true q93))) (e_pick_t rfl (congrArg Bool.not (decide_eq_false q86)) rfl) ?_
        refine l_val (v := Value.bool (!(decide ((gI ps 0) = (gI ps ((List.length ps : Int) - 1)))))) (want_y rfl rfl rfl (congrArg Bool.not (decide_eq_true q93))) (e_move rfl) ?_
        refine l_skip (want_n rfl rfl rfl (congrArg Bool.not (decide_eq_true q89))) ?_
        refine l_skip (want_n rfl rfl rfl (congrArg Bool.not (decide_eq_true q89))) ?_
        refine l_val (v := Value.bool false) (want_y rfl rfl rfl (congrArg Bool.not (decide_eq_true q93))) (e_pick_f rfl (congrArg Bool.not (decide_eq_true q89)) rfl) ?_
        refine l_val (v := Value.bool false) rfl (e_pick_f rfl (congrArg Bool.not (decide_eq_true q93)) rfl) ?_
        refine l_nil ?_
        refine run_cond_f rfl rfl ?_
        refine run_skip ?_
        refine run_inBlock ?_
        refine run_region rfl ?_
        refine l_val (v := Value.int .i64 (k : Int)) rfl (e_move (by exact zs6)) ?_
        refine l_val (v := Value.int .i64 ((k : Int) + 1)) rfl (e_add (m := (k : Int)) (n := 1) rfl rfl (by omega)) ?_
        refine l_val (v := Value.int .i64 ((k : Int) + 1)) rfl (e_assign rfl) ?_
        refine l_nil ?_
        have C25 : Chg (inl []) _ _ _ _ := (ch15.n).seq ((hc18.n).seq ((ch19.n).seq (hc22.n)))
        replace hbase := hbase.chg C25 (is_nl rfl)
        replace r_ps_v := r_ps_v.chg hc22 (not_no _)
        refine back11 (k + 1, g14) _ _ ⟨hbase, (by exact zs0), (by exact zs3), (by exact zs5), rfl, r_ps_v, by omega, ?_⟩ ?_
        · show (∀ j_ : Nat, v < j_ → j_ < (k + 1) → ¬ badP ps v j_) ∧ v < (k + 1)
          refine ⟨fun j h1 h2 => ?_, by omega⟩
          by_cases e0 : j = k
          · subst e0
            first
              | exact good2 (by first | exact join1 (by assumption) | exact join2' (by assumption) (by assumption) (by assumption) (by assumption) | exact hro.1 (by assumption)) (by rw [← hrm]; assumption)
              | exact good0 (by first | exact nojoin0 (by assumption) (by assumption) | exact nojoin1' (by assumption) (by assumption) | exact nojoin3 (by assumption) (by assumption) | exact nojoin4 (by assumption) (by assumption) | exact hro.2 (by assumption) (by assumption)) (by rw [← hrm]; assumption)
          · exact hk.1 j h1 (by omega)
        · show List.length ps - (k + 1) < List.length ps - k
          omega
       refine l_skip (want_n rfl rfl rfl (congrArg Bool.not (decide_eq_false q93))) ?_
       refine l_skip (want_n rfl rfl rfl (congrArg Bool.not (decide_eq_false q93))) ?_
       refine l_skip (want_n rfl rfl rfl (congrArg Bool.not (decide_eq_false q93))) ?_
       refine l_skip (want_u rfl rfl rfl) ?_
       refine l_skip (want_u rfl rfl rfl) ?_
       refine l_skip (want_n rfl rfl rfl (congrArg Bool.not (decide_eq_false q93))) ?_
       refine l_skip (want_n rfl rfl rfl (congrArg Bool.not (decide_eq_false q93))) ?_
       refine l_skip (want_u rfl rfl rfl) ?_
       refine l_skip (want_u rfl rfl rfl) ?_
       refine l_skip (want_n rfl rfl rfl (congrArg Bool.not (decide_eq_false q93))) ?_
       refine l_val (v := Value.bool true) rfl (e_pick_t rfl (congrArg Bool.not (decide_eq_false q93)) rfl) ?_
       refine l_nil ?_
       refine run_cond_t rfl rfl ?_
       refine run_seq (run_region rfl ?_)
       refine l_val (v := Value.bool false) rfl (e_assign rfl) ?_
       refine l_nil ?_
       refine run_ret (vs := [Value.bool false]) Try.func32 (.tmp rfl .nil) ?_
       -- return 2
       have e0 : (false : Bool) = (decide (simP ps)) := by
         first
           | exact sim_eq (i := i) (by omega) (by assumption)
           | exact sim_all hd0 hinv (by assumption)
           | exact sim_bad (i := v) (k := k) (by omega) (by omega) hk.2 (by first | exact bad2 hok2 (by omega) (by omega) (by first | exact join1 (by assumption) | exact join2' (by assumption) (by assumption) (by assumption) (by assumption) | exact hro.1 (by assumption)) (by rw [← hrm]; assumption) | exact bad0 (by first | exact nojoin0 (by assumption) (by assumption) | exact nojoin1' (by assumption) (by assumption) | exact nojoin3 (by assumption) (by assumption) | exact nojoin4 (by assumption) (by assumption) | exact hro.2 (by assumption) (by assumption)) (by rw [← hrm]; assumption))
       have C26 : Chg (inl []) _ _ _ _ := (ch15.n).seq ((hc18.n).seq ((ch19.n).seq (hc22.n)))
       replace hbase := hbase.chg C26 (is_nl rfl)
       exact ⟨(congrArg (a₁ := false) (fun (z0 : Bool) => Ending.returned (Value.bool z0)) e0), hbase.below⟩
      refine l_skip (want_n rfl rfl rfl (decide_eq_false q89)) ?_
      refine l_skip (want_n rfl rfl rfl (decide_eq_false q89)) ?_
      refine l_val (v := Value.bool false) rfl (e_pick_f rfl (decide_eq_false q89) rfl) ?_
      refine l_val (v := Value.bool false) rfl (e_move rfl) ?_
      refine l_val (v := Value.bool (decide ((k : Int) = ((v : Int) + 1)))) (want_y rfl rfl rfl rfl) (e_move rfl) ?_
      refine l_val (v := Value.bool (!(decide ((k : Int) = ((v : Int) + 1))))) (want_y rfl rfl rfl rfl) (e_not (b := decide ((k : Int) = ((v : Int) + 1))) rfl) ?_
      refine l_val (v := Value.bool (!(decide ((k : Int) = ((v : Int) + 1))))) (want_y rfl rfl rfl rfl) (e_move rfl) ?_
      refine l_val (v := Value.bool (decide ((gI ps 0) = (gI ps ((List.length ps : Int) - 1))))) (want_y rfl rfl rfl (congrArg Bool.not (decide_eq_false q86))) (e_move rfl) ?_
      refine l_val (v := Value.bool (!(decide ((gI ps 0) = (gI ps ((List.length ps : Int) - 1)))))) (want_y rfl rfl rfl (congrArg Bool.not (decide_eq_false q86))) (e_not (b := decide ((gI ps 0) = (gI ps ((List.length ps : Int) - 1)))) rfl) ?_
      refine l_val (v := Value.bool (!(decide ((gI ps 0) = (gI ps ((List.length ps : Int) - 1)))))) (want_y rfl rfl rfl rfl) (e_pick_t rfl (congrArg Bool.not (decide_eq_false q86)) rfl) ?_
      refine l_val (v := Value.bool (!(decide ((gI ps 0) = (gI ps ((List.length ps : Int) - 1)))))) (want_y rfl rfl rfl rfl) (e_move rfl) ?_
      refine l_val (v := Value.int .i64 (refM (gI ps (v : Int)) (gI ps ((v : Int) + 1)) (gI ps (k : Int)) (gI ps ((k : Int) + 1)))) (want_y rfl rfl rfl (congrArg Bool.not (decide_eq_false q89))) (e_move rfl) ?_
      refine l_val (v := Value.bool (!(decide ((refM (gI ps (v : Int)) (gI ps ((v : Int) + 1)) (gI ps (k : Int)) (gI ps ((k : Int) + 1))) = 0)))) (want_y rfl rfl rfl (congrArg Bool.not (decide_eq_false q89))) (e_neq (m := refM (gI ps (v : Int)) (gI ps ((v : Int) + 1)) (gI ps (k : Int)) (gI ps ((k : Int) + 1))) (n := 0) rfl rfl) ?_
      refine l_val (v := Value.bool (!(decide ((refM (gI ps (v : Int)) (gI ps ((v : Int) + 1)) (gI ps (k : Int)) (gI ps ((k : Int) + 1))) = 0)))) (want_y rfl rfl rfl rfl) (e_pick_t rfl (congrArg Bool.not (decide_eq_false q89)) rfl) ?_
      refine l_val (v := Value.bool (!(decide ((refM (gI ps (v : Int)) (gI ps ((v : Int) + 1)) (gI ps (k : Int)) (gI ps ((k : Int) + 1))) = 0)))) rfl (e_pick_f rfl rfl rfl) ?_
      refine l_nil ?_
      by_cases p16 : (refM (gI ps (v : Int)) (gI ps ((v : Int) + 1)) (gI ps (k : Int)) (gI ps ((k : Int) + 1))) = 0
      ·
       refine run_cond_f rfl (congrArg Bool.not (decide_eq_true p16)) ?_
       refine run_skip ?_
       refine run_inBlock ?_
       refine run_region rfl ?_
       refine l_val (v := Value.int .i64 (k : Int)) rfl (e_move (by exact zs6)) ?_
       refine l_val (v := Value.int .i64 ((k : Int) + 1)) rfl (e_add (m := (k : Int)) (n := 1) rfl rfl (by omega)) ?_
       refine l_val (v := Value.int .i64 ((k : Int) + 1)) rfl (e_assign rfl) ?_
       refine l_nil ?_
       have C27 : Chg (inl []) _ _ _ _ := (ch15.n).seq ((hc18.n).seq ((ch19.n).seq (hc22.n)))
       replace hbase := hbase.chg C27 (is_nl rfl)
       replace r_ps_v := r_ps_v.chg hc22 (not_no _)
       refine back11 (k + 1, g14) _ _ ⟨hbase, (by exact zs0), (by exact zs3), (by exact zs5), rfl, r_ps_v, by omega, ?_⟩ ?_
       · show (∀ j_ : Nat, v < j_ → j_ < (k + 1) → ¬ badP ps v j_) ∧ v < (k + 1)
         refine ⟨fun j h1 h2 => ?_, by omega⟩
         by_cases e0 : j = k
         · subst e0
           first
             | exact good2 (by first | exact join1 (by assumption) | exact join2' (by assumption) (by assumption) (by assumption) (by assumption) | exact hro.1 (by assumption)) (by rw [← hrm]; assumption)
             | exact good0 (by first | exact nojoin0 (by assumption) (by assumption) | exact nojoin1' (by assumption) (by assumption) | exact nojoin3 (by assumption) (by assumption) | exact nojoin4 (by assumption) (by assumption) | exact hro.2 (by assumption) (by assumption)) (by rw [← hrm]; assumption)
         · exact hk.1 j h1 (by omega)
       · show List.length ps - (k + 1) < List.length ps - k
         omega
      refine run_cond_t rfl (congrArg Bool.not (decide_eq_false p16)) ?_
      refine run_seq (run_region rfl ?_)
      refine l_val (v := Value.bool false) rfl (e_assign rfl) ?_
      refine l_nil ?_
      refine run_ret (vs := [Value.bool false]) Try.func32 (.tmp rfl .nil) ?_
      -- return 3
      have e0 : (false : Bool) = (decide (simP ps)) := by
        first
          | exact sim_eq (i := i) (by omega) (by assumption)
          | exact sim_all hd0 hinv (by assumption)
          | exact sim_bad (i := v) (k := k) (by omega) (by omega) hk.2 (by first | exact bad2 hok2 (by omega) (by omega) (by first | exact join1 (by assumption) | exact join2' (by assumption) (by assumption) (by assumption) (by assumption) | exact hro.1 (by assumption)) (by rw [← hrm]; assumption) | exact bad0 (by first | exact nojoin0 (by assumption) (by assumption) | exact nojoin1' (by assumption) (by assumption) | exact nojoin3 (by assumption) (by assumption) | exact nojoin4 (by assumption) (by assumption) | exact hro.2 (by assumption) (by assumption)) (by rw [← hrm]; assumption))
      have C28 : Chg (inl []) _ _ _ _ := (ch15.n).seq ((hc18.n).seq ((ch19.n).seq (hc22.n)))
      replace hbase := hbase.chg C28 (is_nl rfl)
      exact ⟨(congrArg (a₁ := false) (fun (z0 : Bool) => Ending.returned (Value.bool z0)) e0), hbase.below⟩
     refine q_skip (want_n rfl rfl rfl (decide_eq_false q75)) ?_
     refine q_skip (want_n rfl rfl rfl (decide_eq_false q75)) ?_
     refine q_skip (want_n rfl rfl rfl (decide_eq_false q75)) ?_
     refine q_skip (want_n rfl rfl rfl (decide_eq_false q75)) ?_
     refine q_skip (want_n rfl rfl rfl (decide_eq_false q75)) ?_
     refine q_skip (want_n rfl rfl rfl (decide_eq_false q75)) ?_
     refine q_skip (want_n rfl rfl rfl (decide_eq_false q75)) ?_
     refine q_skip (want_n rfl rfl rfl (decide_eq_false q75)) ?_
     refine q_val (v := Value.bool false) rfl (fun w' hw' => e_pick_f rfl (decide_eq_false q75) rfl) ?_
     refine q_val (v := Value.bool false) rfl (fun w' hw' => e_assign rfl) ?_
     refine q_nil ?_
     intro w29 hc30
     replace hc30 := chg_below hc30 g14
     refine run_seq (run_region rfl ?_)
     refine l_val (v := Value.bool (decide ((k : Int) = ((v : Int) + 1)))) rfl (e_move rfl) ?_
     refine l_val (v := Value.bool (decide ((k : Int) = ((v : Int) + 1)))) rfl (e_move rfl) ?_
     by_cases q86 : (k : Int) = ((v : Int) + 1)
     ·
      refine l_skip (want_n rfl rfl rfl (decide_eq_true q86)) ?_
      refine l_val (v := Value.bool true) rfl (e_pick_t rfl (decide_eq_true q86) rfl) ?_
      refine l_val (v := Value.bool true) rfl (e_move rfl) ?_
      refine l_val (v := Value.int .i64 (refM (gI ps (v : Int)) (gI ps ((v : Int) + 1)) (gI ps (k : Int)) (gI ps ((k : Int) + 1)))) (want_y rfl rfl rfl rfl) (e_move rfl) ?_
      refine l_val (v := Value.bool (!(decide ((refM (gI ps (v : Int)) (gI ps ((v : Int) + 1)) (gI ps (k : Int)) (gI ps ((k : Int) + 1))) = 2)))) (want_y rfl rfl rfl rfl) (e_neq (m := refM (gI ps (v : Int)) (gI ps ((v : Int) + 1)) (gI ps (k : Int)) (gI ps ((k : Int) + 1))) (n := 2) rfl rfl) ?_
      refine l_val (v := Value.bool (!(decide ((refM (gI ps (v : Int)) (gI ps ((v : Int) + 1)) (gI ps (k : Int)) (gI ps ((k : Int) + 1))) = 2)))) rfl (e_pick_t rfl rfl rfl) ?_
      refine l_val (v := Value.bool (!(decide ((refM (gI ps (v : Int)) (gI ps ((v : Int) + 1)) (gI ps (k : Int)) (gI ps ((k : Int) + 1))) = 2)))) rfl (e_move rfl) ?_
      by_cases q93 : (refM (gI ps (v : Int)) (gI ps ((v : Int) + 1)) (gI ps (k : Int)) (gI ps ((k : Int) + 1))) = 2
      ·
       refine l_val (v := Value.bool (decide ((k : Int) = ((v : Int) + 1)))) (want_y rfl rfl rfl (congrArg Bool.not (decide_eq_true q93))) (e_move rfl) ?_
       refine l_val (v := Value.bool (!(decide ((k : Int) = ((v : Int) + 1))))) (want_y rfl rfl rfl (congrArg Bool.not (decide_eq_true q93))) (e_not (b := decide ((k : Int) = ((v : Int) + 1))) rfl) ?_
       refine l_val (v := Value.bool (!(decide ((k : Int) = ((v : Int) + 1))))) (want_y rfl rfl rfl (congrArg Bool.not (decide_eq_true q93))) (e_move rfl) ?_
       refine l_skip (want_n rfl rfl rfl (congrArg Bool.not (decide_eq_true q86))) ?_
       refine l_skip (want_n rfl rfl rfl (congrArg Bool.not (decide_eq_true q86))) ?_
       refine l_val (v := Value.bool false) (want_y rfl rfl rfl (congrArg Bool.not (decide_eq_true q93))) (e_pick_f rfl (congrArg Bool.not (decide_eq_true q86)) rfl) ?_
       refine l_val (v := Value.bool false) (want_y rfl rfl rfl (congrArg Bool.not (decide_eq_true q93))) (e_move rfl) ?_
       refine l_skip (want_n rfl rfl rfl rfl) (l_skip (want_n rfl rfl rfl rfl) ?_)
       refine l_val (v := Value.bool false) (want_y rfl rfl rfl (congrArg Bool.not (decide_eq_true q93))) (e_pick_f rfl rfl rfl) ?_
       refine l_val (v := Value.bool false) rfl (e_pick_f rfl (congrArg Bool.not (decide_eq_true q93)) rfl) ?_
       refine l_nil ?_
       refine run_cond_f rfl rfl ?_
       refine run_skip ?_
       refine run_inBlock ?_
       refine run_region rfl ?_
       refine l_val (v := Value.int .i64 (k : Int)) rfl (e_move (by exact zs6)) ?_
       refine l_val (v := Value.int .i64 ((k : Int) + 1)) rfl (e_add (m := (k : Int)) (n := 1) rfl rfl (by omega)) ?_
       refine l_val (v := Value.int .i64 ((k : Int) + 1)) rfl (e_assign rfl) ?_
       refine l_nil ?_
       have C31 : Chg (inl []) _ _ _ _ := (ch15.n).seq ((hc18.n).seq ((ch19.n).seq (hc30.n)))
       replace hbase := hbase.chg C31 (is_nl rfl)
       have C32 : Chg (inl []) _ _ _ _ := (hc18.n).seq ((ch19.n).seq (hc30.n))
       replace r_ps_v := r_ps_v.chg C32 (is_nl rfl)
       refine back11 (k + 1, g14) _ _ ⟨hbase, (by exact zs0), (by exact zs3), (by exact zs5), rfl, r_ps_v, by omega, ?_⟩ ?_
       · show (∀ j_ : Nat, v < j_ → j_ < (k + 1) → ¬ badP ps v j_) ∧ v < (k + 1)
         refine ⟨fun j h1 h2 => ?_, by omega⟩
         by_cases e0 : j = k
         · subst e0
           first
             | exact good2 (by first | exact join1 (by assumption) | exact join2' (by assumption) (by assumption) (by assumption) (by assumption) | exact hro.1 (by assumption)) (by rw [← hrm]; assumption)
             | exact good0 (by first | exact nojoin0 (by assumption) (by assumption) | exact nojoin1' (by assumption) (by assumption) | exact nojoin3 (by assumption) (by assumption) | exact nojoin4 (by assumption) (by assumption) | exact hro.2 (by assumption) (by assumption)) (by rw [← hrm]; assumption)
         · exact hk.1 j h1 (by omega)
       · show List.length ps - (k + 1) < List.length ps - k
         omega
      refine l_skip (want_n rfl rfl rfl (congrArg Bool.not (decide_eq_false q93))) ?_
      refine l_skip (want_n rfl rfl rfl (congrArg Bool.not (decide_eq_false q93))) ?_
      refine l_skip (want_n rfl rfl rfl (congrArg Bool.not (decide_eq_false q93))) ?_
      refine l_skip (want_u rfl rfl rfl) ?_
      refine l_skip (want_u rfl rfl rfl) ?_
      refine l_skip (want_n rfl rfl rfl (congrArg Bool.not (decide_eq_false q93))) ?_
      refine l_skip (want_n rfl rfl rfl (congrArg Bool.not (decide_eq_false q93))) ?_
      refine l_skip (want_u rfl rfl rfl) ?_
      refine l_skip (want_u rfl rfl rfl) ?_
      refine l_skip (want_n rfl rfl rfl (congrArg Bool.not (decide_eq_false q93))) ?_
      refine l_val (v := Value.bool true) rfl (e_pick_t rfl (congrArg Bool.not (decide_eq_false q93)) rfl) ?_
      refine l_nil ?_
      refine run_cond_t rfl rfl ?_
      refine run_seq (run_region rfl ?_)
      refine l_val (v := Value.bool false) rfl (e_assign rfl) ?_
      refine l_nil ?_
      refine run_ret (vs := [Value.bool false]) Try.func32 (.tmp rfl .nil) ?_
      -- return 4
      have e0 : (false : Bool) = (decide (simP ps)) := by
        first
          | exact sim_eq (i := i) (by omega) (by assumption)
          | exact sim_all hd0 hinv (by assumption)
          | exact sim_bad (i := v) (k := k) (by omega) (by omega) hk.2 (by first | exact bad2 hok2 (by omega) (by omega) (by first | exact join1 (by assumption) | exact join2' (by assumption) (by assumption) (by assumption) (by assumption) | exact hro.1 (by assumption)) (by rw [← hrm]; assumption) | exact bad0 (by first | exact nojoin0 (by assumption) (by assumption) | exact nojoin1' (by assumption) (by assumption) | exact nojoin3 (by assumption) (by assumption) | exact nojoin4 (by assumption) (by assumption) | exact hro.2 (by assumption) (by assumption)) (by rw [← hrm]; assumption))
      have C33 : Chg (inl []) _ _ _ _ := (ch15.n).seq ((hc18.n).seq ((ch19.n).seq (hc30.n)))
      replace hbase := hbase.chg C33 (is_nl rfl)
      exact ⟨(congrArg (a₁ := false) (fun (z0 : Bool) => Ending.returned (Value.bool z0)) e0), hbase.below⟩
     refine l_val (v := Value.bool false) (want_y rfl rfl rfl (decide_eq_false q86)) (e_move rfl) ?_
     refine l_val (v := Value.bool false) rfl (e_pick_f rfl (decide_eq_false q86) rfl) ?_
     refine l_val (v := Value.bool false) rfl (e_move rfl) ?_
     refine l_skip (want_n rfl rfl rfl rfl) (l_skip (want_n rfl rfl rfl rfl) ?_)
     refine l_val (v := Value.bool false) rfl (e_pick_f rfl rfl rfl) ?_
     refine l_val (v := Value.bool false) rfl (e_move rfl) ?_
     refine l_val (v := Value.bool (decide ((k : Int) = ((v : Int) + 1)))) (want_y rfl rfl rfl rfl) (e_move rfl) ?_
     refine l_val (v := Value.bool (!(decide ((k : Int) = ((v : Int) + 1))))) (want_y rfl rfl rfl rfl) (e_not (b := decide ((k : Int) = ((v : Int) + 1))) rfl) ?_
     refine l_val (v := Value.bool (!(decide ((k : Int) = ((v : Int) + 1))))) (want_y rfl rfl rfl rfl) (e_move rfl) ?_
     refine l_val (v := Value.bool false) (want_y rfl rfl rfl (congrArg Bool.not (decide_eq_false q86))) (e_move rfl) ?_
     refine l_val (v := Value.bool true) (want_y rfl rfl rfl (congrArg Bool.not (decide_eq_false q86))) (e_not (b := false) rfl) ?_
     refine l_val (v := Value.bool true) (want_y rfl rfl rfl rfl) (e_pick_t rfl (congrArg Bool.not (decide_eq_false q86)) rfl) ?_
     refine l_val (v := Value.bool true) (want_y rfl rfl rfl rfl) (e_move rfl) ?_
     refine l_val (v := Value.int .i64 (refM (gI ps (v : Int)) (gI ps ((v : Int) + 1)) (gI ps (k : Int)) (gI ps ((k : Int) + 1)))) (want_y rfl rfl rfl rfl) (e_move rfl) ?_
     refine l_val (v := Value.bool (!(decide ((refM (gI ps (v : Int)) (gI ps ((v : Int) + 1)) (gI ps (k : Int)) (gI ps ((k : Int) + 1))) = 0)))) (want_y rfl rfl rfl rfl) (e_neq (m := refM (gI ps (v : Int)) (gI ps ((v : Int) + 1)) (gI ps (k : Int)) (gI ps ((k : Int) + 1))) (n := 0) rfl rfl) ?_
     refine l_val (v := Value.bool (!(decide ((refM (gI ps (v : Int)) (gI ps ((v : Int) + 1)) (gI ps (k : Int)) (gI ps ((k : Int) + 1))) = 0)))) (want_y rfl rfl rfl rfl) (e_pick_t rfl rfl rfl) ?_
     refine l_val (v := Value.bool (!(decide ((refM (gI ps (v : Int)) (gI ps ((v : Int) + 1)) (gI ps (k : Int)) (gI ps ((k : Int) + 1))) = 0)))) rfl (e_pick_f rfl rfl rfl) ?_
     refine l_nil ?_
     by_cases p16 : (refM (gI ps (v : Int)) (gI ps ((v : Int) + 1)) (gI ps (k : Int)) (gI ps ((k : Int) + 1))) = 0
     ·
      refine run_cond_f rfl (congrArg Bool.not (decide_eq_true p16)) ?_
      refine run_skip ?_
      refine run_inBlock ?_
      refine run_region rfl ?_
      refine l_val (v := Value.int .i64 (k : Int)) rfl (e_move (by exact zs6)) ?_
      refine l_val (v := Value.int .i64 ((k : Int) + 1)) rfl (e_add (m := (k : Int)) (n := 1) rfl rfl (by omega)) ?_
      refine l_val (v := Value.int .i64 ((k : Int) + 1)) rfl (e_assign rfl) ?_
      refine l_nil ?_
      have C34 : Chg (inl []) _ _ _ _ := (ch15.n).seq ((hc18.n).seq ((ch19.n).seq (hc30.n)))
      replace hbase := hbase.chg C34 (is_nl rfl)
      have C35 : Chg (inl []) _ _ _ _ := (hc18.n).seq ((ch19.n).seq (hc30.n))
      replace r_ps_v := r_ps_v.chg C35 (is_nl rfl)
      refine back11 (k + 1, g14) _ _ ⟨hbase, (by exact zs0), (by exact zs3), (by exact zs5), rfl, r_ps_v, by omega, ?_⟩ ?_
      · show (∀ j_ : Nat, v < j_ → j_ < (k + 1) → ¬ badP ps v j_) ∧ v < (k + 1)
        refine ⟨fun j h1 h2 => ?_, by omega⟩
        by_cases e0 : j = k
        · subst e0
          first
            | exact good2 (by first | exact join1 (by assumption) | exact join2' (by assumption) (by assumption) (by assumption) (by assumption) | exact hro.1 (by assumption)) (by rw [← hrm]; assumption)
            | exact good0 (by first | exact nojoin0 (by assumption) (by assumption) | exact nojoin1' (by assumption) (by assumption) | exact nojoin3 (by assumption) (by assumption) | exact nojoin4 (by assumption) (by assumption) | exact hro.2 (by assumption) (by assumption)) (by rw [← hrm]; assumption)
        · exact hk.1 j h1 (by omega)
      · show List.length ps - (k + 1) < List.length ps - k
        omega
     refine run_cond_t rfl (congrArg Bool.not (decide_eq_false p16)) ?_
     refine run_seq (run_region rfl ?_)
     refine l_val (v := Value.bool false) rfl (e_assign rfl) ?_
     refine l_nil ?_
     refine run_ret (vs := [Value.bool false]) Try.func32 (.tmp rfl .nil) ?_
     -- return 5
     have e0 : (false : Bool) = (decide (simP ps)) := by
       first
         | exact sim_eq (i := i) (by omega) (by assumption)
         | exact sim_all hd0 hinv (by assumption)
         | exact sim_bad (i := v) (k := k) (by omega) (by omega) hk.2 (by first | exact bad2 hok2 (by omega) (by omega) (by first | exact join1 (by assumption) | exact join2' (by assumption) (by assumption) (by assumption) (by assumption) | exact hro.1 (by assumption)) (by rw [← hrm]; assumption) | exact bad0 (by first | exact nojoin0 (by assumption) (by assumption) | exact nojoin1' (by assumption) (by assumption) | exact nojoin3 (by assumption) (by assumption) | exact nojoin4 (by assumption) (by assumption) | exact hro.2 (by assumption) (by assumption)) (by rw [← hrm]; assumption))
     have C36 : Chg (inl []) _ _ _ _ := (ch15.n).seq ((hc18.n).seq ((ch19.n).seq (hc30.n)))
     replace hbase := hbase.chg C36 (is_nl rfl)
     exact ⟨(congrArg (a₁ := false) (fun (z0 : Bool) => Ending.returned (Value.bool z0)) e0), hbase.below⟩
    refine q_skip (want_n rfl rfl rfl (decide_eq_false q71)) ?_
    refine q_skip (want_n rfl rfl rfl (decide_eq_false q71)) ?_
    refine q_val (v := Value.bool false) rfl (fun w' hw' => e_pick_f rfl (decide_eq_false q71) rfl) ?_
    refine q_val (v := Value.bool false) rfl (fun w' hw' => e_move rfl) ?_
    refine q_skip (want_n rfl rfl rfl rfl) ?_
    refine q_skip (want_n rfl rfl rfl rfl) ?_
    refine q_skip (want_n rfl rfl rfl rfl) ?_
    refine q_skip (want_n rfl rfl rfl rfl) ?_
    refine q_skip (want_n rfl rfl rfl rfl) ?_
    refine q_skip (want_n rfl rfl rfl rfl) ?_
    refine q_skip (want_n rfl rfl rfl rfl) ?_
    refine q_skip (want_n rfl rfl rfl rfl) ?_
    refine q_val (v := Value.bool false) rfl (fun w' hw' => e_pick_f rfl rfl rfl) ?_
    refine q_val (v := Value.bool false) rfl (fun w' hw' => e_assign rfl) ?_
    refine q_nil ?_
    intro w37 hc38
    replace hc38 := chg_below hc38 g14
    refine run_seq (run_region rfl ?_)
    refine l_val (v := Value.bool (decide ((k : Int) = ((v : Int) + 1)))) rfl (e_move rfl) ?_
    refine l_val (v := Value.bool (decide ((k : Int) = ((v : Int) + 1)))) rfl (e_move rfl) ?_
    by_cases q86 : (k : Int) = ((v : Int) + 1)
    ·
     refine l_skip (want_n rfl rfl rfl (decide_eq_true q86)) ?_
     refine l_val (v := Value.bool true) rfl (e_pick_t rfl (decide_eq_true q86) rfl) ?_
     refine l_val (v := Value.bool true) rfl (e_move rfl) ?_
     refine l_val (v := Value.int .i64 (refM (gI ps (v : Int)) (gI ps ((v : Int) + 1)) (gI ps (k : Int)) (gI ps ((k : Int) + 1)))) (want_y rfl rfl rfl rfl) (e_move rfl) ?_
     refine l_val (v := Value.bool (!(decide ((refM (gI ps (v : Int)) (gI ps ((v : Int) + 1)) (gI ps (k : Int)) (gI ps ((k : Int) + 1))) = 2)))) (want_y rfl rfl rfl rfl) (e_neq (m := refM (gI ps (v : Int)) (gI ps ((v : Int) + 1)) (gI ps (k : Int)) (gI ps ((k : Int) + 1))) (n := 2) rfl rfl) ?_
     refine l_val (v := Value.bool (!(decide ((refM (gI ps (v : Int)) (gI ps ((v : Int) + 1)) (gI ps (k : Int)) (gI ps ((k : Int) + 1))) = 2)))) rfl (e_pick_t rfl rfl rfl) ?_
     refine l_val (v := Value.bool (!(decide ((refM (gI ps (v : Int)) (gI ps ((v : Int) + 1)) (gI ps (k : Int)) (gI ps ((k : Int) + 1))) = 2)))) rfl (e_move rfl) ?_
     by_cases q93 : (refM (gI ps (v : Int)) (gI ps ((v : Int) + 1)) (gI ps (k : Int)) (gI ps ((k : Int) + 1))) = 2
     ·
      refine l_val (v := Value.bool (decide ((k : Int) = ((v : Int) + 1)))) (want_y rfl rfl rfl (congrArg Bool.not (decide_eq_true q93))) (e_move rfl) ?_
      refine l_val (v := Value.bool (!(decide ((k : Int) = ((v : Int) + 1))))) (want_y rfl rfl rfl (congrArg Bool.not (decide_eq_true q93))) (e_not (b := decide ((k : Int) = ((v : Int) + 1))) rfl) ?_
      refine l_val (v := Value.bool (!(decide ((k : Int) = ((v : Int) + 1))))) (want_y rfl rfl rfl (congrArg Bool.not (decide_eq_true q93))) (e_move rfl) ?_
      refine l_skip (want_n rfl rfl rfl (congrArg Bool.not (decide_eq_true q86))) ?_
      refine l_skip (want_n rfl rfl rfl (congrArg Bool.not (decide_eq_true q86))) ?_
      refine l_val (v := Value.bool false) (want_y rfl rfl rfl (congrArg Bool.not (decide_eq_true q93))) (e_pick_f rfl (congrArg Bool.not (decide_eq_true q86)) rfl) ?_
      refine l_val (v := Value.bool false) (want_y rfl rfl rfl (congrArg Bool.not (decide_eq_true q93))) (e_move rfl) ?_
      refine l_skip (want_n rfl rfl rfl rfl) (l_skip (want_n rfl rfl rfl rfl) ?_)
      refine l_val (v := Value.bool false) (want_y rfl rfl rfl (congrArg Bool.not (decide_eq_true q93))) (e_pick_f rfl rfl rfl) ?_
      refine l_val (v := Value.bool false) rfl (e_pick_f rfl (congrArg Bool.not (decide_eq_true q93)) rfl) ?_
      refine l_nil ?_
      refine run_cond_f rfl rfl ?_
      refine run_skip ?_
      refine run_inBlock ?_
      refine run_region rfl ?_
      refine l_val (v := Value.int .i64 (k : Int)) rfl (e_move (by exact zs6)) ?_
      refine l_val (v := Value.int .i64 ((k : Int) + 1)) rfl (e_add (m := (k : Int)) (n := 1) rfl rfl (by omega)) ?_
      refine l_val (v := Value.int .i64 ((k : Int) + 1)) rfl (e_assign rfl) ?_
      refine l_nil ?_
      have C39 : Chg (inl []) _ _ _ _ := (ch15.n).seq ((hc18.n).seq ((ch19.n).seq (hc38.n)))
      replace hbase := hbase.chg C39 (is_nl rfl)
      have C40 : Chg (inl []) _ _ _ _ := (hc18.n).seq ((ch19.n).seq (hc38.n))
      replace r_ps_v := r_ps_v.chg C40 (is_nl rfl)
      refine back11 (k + 1, g14) _ _ ⟨hbase, (by exact zs0), (by exact zs3), (by exact zs5), rfl, r_ps_v, by omega, ?_⟩ ?_
      · show (∀ j_ : Nat, v < j_ → j_ < (k + 1) → ¬ badP ps v j_) ∧ v < (k + 1)
        refine ⟨fun j h1 h2 => ?_, by omega⟩
        by_cases e0 : j = k
        · subst e0
          first
            | exact good2 (by first | exact join1 (by assumption) | exact join2' (by assumption) (by assumption) (by assumption) (by assumption) | exact hro.1 (by assumption)) (by rw [← hrm]; assumption)
            | exact good0 (by first | exact nojoin0 (by assumption) (by assumption) | exact nojoin1' (by assumption) (by assumption) | exact nojoin3 (by assumption) (by assumption) | exact nojoin4 (by assumption) (by assumption) | exact hro.2 (by assumption) (by assumption)) (by rw [← hrm]; assumption)
        · exact hk.1 j h1 (by omega)
      · show List.length ps - (k + 1) < List.length ps - k
        omega
     refine l_skip (want_n rfl rfl rfl (congrArg Bool.not (decide_eq_false q93))) ?_
     refine l_skip (want_n rfl rfl rfl (congrArg Bool.not (decide_eq_false q93))) ?_
     refine l_skip (want_n rfl rfl rfl (congrArg Bool.not (decide_eq_false q93))) ?_
     refine l_skip (want_u rfl rfl rfl) ?_
     refine l_skip (want_u rfl rfl rfl) ?_
     refine l_skip (want_n rfl rfl rfl (congrArg Bool.not (decide_eq_false q93))) ?_
     refine l_skip (want_n rfl rfl rfl (congrArg Bool.not (decide_eq_false q93))) ?_
     refine l_skip (want_u rfl rfl rfl) ?_
     refine l_skip (want_u rfl rfl rfl) ?_
     refine l_skip (want_n rfl rfl rfl (congrArg Bool.not (decide_eq_false q93))) ?_
     refine l_val (v := Value.bool true) rfl (e_pick_t rfl (congrArg Bool.not (decide_eq_false q93)) rfl) ?_
     refine l_nil ?_
     refine run_cond_t rfl rfl ?_
     refine run_seq (run_region rfl ?_)
     refine l_val (v := Value.bool false) rfl (e_assign rfl) ?_
     refine l_nil ?_
     refine run_ret (vs := [Value.bool false]) Try.func32 (.tmp rfl .nil) ?_
     -- return 6
     have e0 : (false : Bool) = (decide (simP ps)) := by
       first
         | exact sim_eq (i := i) (by omega) (by assumption)
         | exact sim_all hd0 hinv (by assumption)
         | exact sim_bad (i := v) (k := k) (by omega) (by omega) hk.2 (by first | exact bad2 hok2 (by omega) (by omega) (by first | exact join1 (by assumption) | exact join2' (by assumption) (by assumption) (by assumption) (by assumption) | exact hro.1 (by assumption)) (by rw [← hrm]; assumption) | exact bad0 (by first | exact nojoin0 (by assumption) (by assumption) | exact nojoin1' (by assumption) (by assumption) | exact nojoin3 (by assumption) (by assumption) | exact nojoin4 (by assumption) (by assumption) | exact hro.2 (by assumption) (by assumption)) (by rw [← hrm]; assumption))
     have C41 : Chg (inl []) _ _ _ _ := (ch15.n).seq ((hc18.n).seq ((ch19.n).seq (hc38.n)))
     replace hbase := hbase.chg C41 (is_nl rfl)
     exact ⟨(congrArg (a₁ := false) (fun (z0 : Bool) => Ending.returned (Value.bool z0)) e0), hbase.below⟩
    refine l_val (v := Value.bool false) (want_y rfl rfl rfl (decide_eq_false q86)) (e_move rfl) ?_
    refine l_val (v := Value.bool false) rfl (e_pick_f rfl (decide_eq_false q86) rfl) ?_
    refine l_val (v := Value.bool false) rfl (e_move rfl) ?_
    refine l_skip (want_n rfl rfl rfl rfl) (l_skip (want_n rfl rfl rfl rfl) ?_)
    refine l_val (v := Value.bool false) rfl (e_pick_f rfl rfl rfl) ?_
    refine l_val (v := Value.bool false) rfl (e_move rfl) ?_
    refine l_val (v := Value.bool (decide ((k : Int) = ((v : Int) + 1)))) (want_y rfl rfl rfl rfl) (e_move rfl) ?_
    refine l_val (v := Value.bool (!(decide ((k : Int) = ((v : Int) + 1))))) (want_y rfl rfl rfl rfl) (e_not (b := decide ((k : Int) = ((v : Int) + 1))) rfl) ?_
    refine l_val (v := Value.bool (!(decide ((k : Int) = ((v : Int) + 1))))) (want_y rfl rfl rfl rfl) (e_move rfl) ?_
    refine l_val (v := Value.bool false) (want_y rfl rfl rfl (congrArg Bool.not (decide_eq_false q86))) (e_move rfl) ?_
    refine l_val (v := Value.bool true) (want_y rfl rfl rfl (congrArg Bool.not (decide_eq_false q86))) (e_not (b := false) rfl) ?_
    refine l_val (v := Value.bool true) (want_y rfl rfl rfl rfl) (e_pick_t rfl (congrArg Bool.not (decide_eq_false q86)) rfl) ?_
    refine l_val (v := Value.bool true) (want_y rfl rfl rfl rfl) (e_move rfl) ?_
    refine l_val (v := Value.int .i64 (refM (gI ps (v : Int)) (gI ps ((v : Int) + 1)) (gI ps (k : Int)) (gI ps ((k : Int) + 1)))) (want_y rfl rfl rfl rfl) (e_move rfl) ?_
    refine l_val (v := Value.bool (!(decide ((refM (gI ps (v : Int)) (gI ps ((v : Int) + 1)) (gI ps (k : Int)) (gI ps ((k : Int) + 1))) = 0)))) (want_y rfl rfl rfl rfl) (e_neq (m := refM (gI ps (v : Int)) (gI ps ((v : Int) + 1)) (gI ps (k : Int)) (gI ps ((k : Int) + 1))) (n := 0) rfl rfl) ?_
    refine l_val (v := Value.bool (!(decide ((refM (gI ps (v : Int)) (gI ps ((v : Int) + 1)) (gI ps (k : Int)) (gI ps ((k : Int) + 1))) = 0)))) (want_y rfl rfl rfl rfl) (e_pick_t rfl rfl rfl) ?_
    refine l_val (v := Value.bool (!(decide ((refM (gI ps (v : Int)) (gI ps ((v : Int) + 1)) (gI ps (k : Int)) (gI ps ((k : Int) + 1))) = 0)))) rfl (e_pick_f rfl rfl rfl) ?_
    refine l_nil ?_
    by_cases p16 : (refM (gI ps (v : Int)) (gI ps ((v : Int) + 1)) (gI ps (k : Int)) (gI ps ((k : Int) + 1))) = 0
    ·
     refine run_cond_f rfl (congrArg Bool.not (decide_eq_true p16)) ?_
     refine run_skip ?_
     refine run_inBlock ?_
     refine run_region rfl ?_
     refine l_val (v := Value.int .i64 (k : Int)) rfl (e_move (by exact zs6)) ?_
     refine l_val (v := Value.int .i64 ((k : Int) + 1)) rfl (e_add (m := (k : Int)) (n := 1) rfl rfl (by omega)) ?_
     refine l_val (v := Value.int .i64 ((k : Int) + 1)) rfl (e_assign rfl) ?_
     refine l_nil ?_
     have C42 : Chg (inl []) _ _ _ _ := (ch15.n).seq ((hc18.n).seq ((ch19.n).seq (hc38.n)))
     replace hbase := hbase.chg C42 (is_nl rfl)
     have C43 : Chg (inl []) _ _ _ _ := (hc18.n).seq ((ch19.n).seq (hc38.n))
     replace r_ps_v := r_ps_v.chg C43 (is_nl rfl)
     refine back11 (k + 1, g14) _ _ ⟨hbase, (by exact zs0), (by exact zs3), (by exact zs5), rfl, r_ps_v, by omega, ?_⟩ ?_
     · show (∀ j_ : Nat, v < j_ → j_ < (k + 1) → ¬ badP ps v j_) ∧ v < (k + 1)
       refine ⟨fun j h1 h2 => ?_, by omega⟩
       by_cases e0 : j = k
       · subst e0
         first
           | exact good2 (by first | exact join1 (by assumption) | exact join2' (by assumption) (by assumption) (by assumption) (by assumption) | exact hro.1 (by assumption)) (by rw [← hrm]; assumption)
           | exact good0 (by first | exact nojoin0 (by assumption) (by assumption) | exact nojoin1' (by assumption) (by assumption) | exact nojoin3 (by assumption) (by assumption) | exact nojoin4 (by assumption) (by assumption) | exact hro.2 (by assumption) (by assumption)) (by rw [← hrm]; assumption)
       · exact hk.1 j h1 (by omega)
     · show List.length ps - (k + 1) < List.length ps - k
       omega
    refine run_cond_t rfl (congrArg Bool.not (decide_eq_false p16)) ?_
    refine run_seq (run_region rfl ?_)
    refine l_val (v := Value.bool false) rfl (e_assign rfl) ?_
    refine l_nil ?_
    refine run_ret (vs := [Value.bool false]) Try.func32 (.tmp rfl .nil) ?_
    -- return 7
    have e0 : (false : Bool) = (decide (simP ps)) := by
      first
        | exact sim_eq (i := i) (by omega) (by assumption)
        | exact sim_all hd0 hinv (by assumption)
        | exact sim_bad (i := v) (k := k) (by omega) (by omega) hk.2 (by first | exact bad2 hok2 (by omega) (by omega) (by first | exact join1 (by assumption) | exact join2' (by assumption) (by assumption) (by assumption) (by assumption) | exact hro.1 (by assumption)) (by rw [← hrm]; assumption) | exact bad0 (by first | exact nojoin0 (by assumption) (by assumption) | exact nojoin1' (by assumption) (by assumption) | exact nojoin3 (by assumption) (by assumption) | exact nojoin4 (by assumption) (by assumption) | exact hro.2 (by assumption) (by assumption)) (by rw [← hrm]; assumption))
    have C44 : Chg (inl []) _ _ _ _ := (ch15.n).seq ((hc18.n).seq ((ch19.n).seq (hc38.n)))
    replace hbase := hbase.chg C44 (is_nl rfl)
    exact ⟨(congrArg (a₁ := false) (fun (z0 : Bool) => Ending.returned (Value.bool z0)) e0), hbase.below⟩
   refine q_skip (want_n rfl rfl rfl (decide_eq_false q65)) ?_
   refine q_skip (want_n rfl rfl rfl (decide_eq_false q65)) ?_
   refine q_skip (want_n rfl rfl rfl (decide_eq_false q65)) ?_
   refine q_skip (want_n rfl rfl rfl (decide_eq_false q65)) ?_
   refine q_val (v := Value.bool false) rfl (fun w' hw' => e_pick_f rfl (decide_eq_false q65) rfl) ?_
   refine q_val (v := Value.bool false) rfl (fun w' hw' => e_move rfl) ?_
   refine q_skip (want_n rfl rfl rfl rfl) ?_
   refine q_skip (want_n rfl rfl rfl rfl) ?_
   refine q_val (v := Value.bool false) rfl (fun w' hw' => e_pick_f rfl rfl rfl) ?_
   refine q_val (v := Value.bool false) rfl (fun w' hw' => e_move rfl) ?_
   refine q_skip (want_n rfl rfl rfl rfl) ?_
   refine q_skip (want_n rfl rfl rfl rfl) ?_
   refine q_skip (want_n rfl rfl rfl rfl) ?_
   refine q_skip (want_n rfl rfl rfl rfl) ?_
   refine q_skip (want_n rfl rfl rfl rfl) ?_
   refine q_skip (want_n rfl rfl rfl rfl) ?_
   refine q_skip (want_n rfl rfl rfl rfl) ?_
   refine q_skip (want_n rfl rfl rfl rfl) ?_
   refine q_val (v := Value.bool false) rfl (fun w' hw' => e_pick_f rfl rfl rfl) ?_
   refine q_val (v := Value.bool false) rfl (fun w' hw' => e_assign rfl) ?_
   refine q_nil ?_
   intro w45 hc46
   replace hc46 := chg_below hc46 g14
   refine run_seq (run_region rfl ?_)
   refine l_val (v := Value.bool (decide ((k : Int) = ((v : Int) + 1)))) rfl (e_move rfl) ?_
   refine l_val (v := Value.bool (decide ((k : Int) = ((v : Int) + 1)))) rfl (e_move rfl) ?_
   by_cases q86 : (k : Int) = ((v : Int) + 1)
   ·
    refine l_skip (want_n rfl rfl rfl (decide_eq_true q86)) ?_
    refine l_val (v := Value.bool true) rfl (e_pick_t rfl (decide_eq_true q86) rfl) ?_
    refine l_val (v := Value.bool true) rfl (e_move rfl) ?_
    refine l_val (v := Value.int .i64 (refM (gI ps (v : Int)) (gI ps ((v : Int) + 1)) (gI ps (k : Int)) (gI ps ((k : Int) + 1)))) (want_y rfl rfl rfl rfl) (e_move rfl) ?_
    refine l_val (v := Value.bool (!(decide ((refM (gI ps (v : Int)) (gI ps ((v : Int) + 1)) (gI ps (k : Int)) (gI ps ((k : Int) + 1))) = 2)))) (want_y rfl rfl rfl rfl) (e_neq (m := refM (gI ps (v : Int)) (gI ps ((v : Int) + 1)) (gI ps (k : Int)) (gI ps ((k : Int) + 1))) (n := 2) rfl rfl) ?_
    refine l_val (v := Value.bool (!(decide ((refM (gI ps (v : Int)) (gI ps ((v : Int) + 1)) (gI ps (k : Int)) (gI ps ((k : Int) + 1))) = 2)))) rfl (e_pick_t rfl rfl rfl) ?_
    refine l_val (v := Value.bool (!(decide ((refM (gI ps (v : Int)) (gI ps ((v : Int) + 1)) (gI ps (k : Int)) (gI ps ((k : Int) + 1))) = 2)))) rfl (e_move rfl) ?_
    by_cases q93 : (refM (gI ps (v : Int)) (gI ps ((v : Int) + 1)) (gI ps (k : Int)) (gI ps ((k : Int) + 1))) = 2
    ·
     refine l_val (v := Value.bool (decide ((k : Int) = ((v : Int) + 1)))) (want_y rfl rfl rfl (congrArg Bool.not (decide_eq_true q93))) (e_move rfl) ?_
     refine l_val (v := Value.bool (!(decide ((k : Int) = ((v : Int) + 1))))) (want_y rfl rfl rfl (congrArg Bool.not (decide_eq_true q93))) (e_not (b := decide ((k : Int) = ((v : Int) + 1))) rfl) ?_
     refine l_val (v := Value.bool (!(decide ((k : Int) = ((v : Int) + 1))))) (want_y rfl rfl rfl (congrArg Bool.not (decide_eq_true q93))) (e_move rfl) ?_
     refine l_skip (want_n rfl rfl rfl (congrArg Bool.not (decide_eq_true q86))) ?_
     refine l_skip (want_n rfl rfl rfl (congrArg Bool.not (decide_eq_true q86))) ?_
     refine l_val (v := Value.bool false) (want_y rfl rfl rfl (congrArg Bool.not (decide_eq_true q93))) (e_pick_f rfl (congrArg Bool.not (decide_eq_true q86)) rfl) ?_
     refine l_val (v := Value.bool false) (want_y rfl rfl rfl (congrArg Bool.not (decide_eq_true q93))) (e_move rfl) ?_
     refine l_skip (want_n rfl rfl rfl rfl) (l_skip (want_n rfl rfl rfl rfl) ?_)
     refine l_val (v := Value.bool false) (want_y rfl rfl rfl (congrArg Bool.not (decide_eq_true q93))) (e_pick_f rfl rfl rfl) ?_
     refine l_val (v := Value.bool false) rfl (e_pick_f rfl (congrArg Bool.not (decide_eq_true q93)) rfl) ?_
     refine l_nil ?_
     refine run_cond_f rfl rfl ?_
     refine run_skip ?_
     refine run_inBlock ?_
     refine run_region rfl ?_
     refine l_val (v := Value.int .i64 (k : Int)) rfl (e_move (by exact zs6)) ?_
     refine l_val (v := Value.int .i64 ((k : Int) + 1)) rfl (e_add (m := (k : Int)) (n := 1) rfl rfl (by omega)) ?_
     refine l_val (v := Value.int .i64 ((k : Int) + 1)) rfl (e_assign rfl) ?_
     refine l_nil ?_
     have C47 : Chg (inl []) _ _ _ _ := (ch15.n).seq ((hc18.n).seq ((ch19.n).seq (hc46.n)))
     replace hbase := hbase.chg C47 (is_nl rfl)
     have C48 : Chg (inl []) _ _ _ _ := (hc18.n).seq ((ch19.n).seq (hc46.n))
     replace r_ps_v := r_ps_v.chg C48 (is_nl rfl)
     refine back11 (k + 1, g14) _ _ ⟨hbase, (by exact zs0), (by exact zs3), (by exact zs5), rfl, r_ps_v, by omega, ?_⟩ ?_
     · show (∀ j_ : Nat, v < j_ → j_ < (k + 1) → ¬ badP ps v j_) ∧ v < (k + 1)
       refine ⟨fun j h1 h2 => ?_, by omega⟩
       by_cases e0 : j = k
       · subst e0
         first
           | exact good2 (by first | exact join1 (by assumption) | exact join2' (by assumption) (by assumption) (by assumption) (by assumption) | exact hro.1 (by assumption)) (by rw [← hrm]; assumption)
           | exact good0 (by first | exact nojoin0 (by assumption) (by assumption) | exact nojoin1' (by assumption) (by assumption) | exact nojoin3 (by assumption) (by assumption) | exact nojoin4 (by assumption) (by assumption) | exact hro.2 (by assumption) (by assumption)) (by rw [← hrm]; assumption)
       · exact hk.1 j h1 (by omega)
     · show List.length ps - (k + 1) < List.length ps - k
       omega
    refine l_skip (want_n rfl rfl rfl (congrArg Bool.not (decide_eq_false q93))) ?_
    refine l_skip (want_n rfl rfl rfl (congrArg Bool.not (decide_eq_false q93))) ?_
    refine l_skip (want_n rfl rfl rfl (congrArg Bool.not (decide_eq_false q93))) ?_
    refine l_skip (want_u rfl rfl rfl) ?_
    refine l_skip (want_u rfl rfl rfl) ?_
    refine l_skip (want_n rfl rfl rfl (congrArg Bool.not (decide_eq_false q93))) ?_
    refine l_skip (want_n rfl rfl rfl (congrArg Bool.not (decide_eq_false q93))) ?_
    refine l_skip (want_u rfl rfl rfl) ?_
    refine l_skip (want_u rfl rfl rfl) ?_
    refine l_skip (want_n rfl rfl rfl (congrArg Bool.not (decide_eq_false q93))) ?_
    refine l_val (v := Value.bool true) rfl (e_pick_t rfl (congrArg Bool.not (decide_eq_false q93)) rfl) ?_
    refine l_nil ?_
    refine run_cond_t rfl rfl ?_
    refine run_seq (run_region rfl ?_)
    refine l_val (v := Value.bool false) rfl (e_assign rfl) ?_
    refine l_nil ?_
    refine run_ret (vs := [Value.bool false]) Try.func32 (.tmp rfl .nil) ?_
    -- return 8
    have e0 : (false : Bool) = (decide (simP ps)) := by
      first
        | exact sim_eq (i := i) (by omega) (by assumption)
        | exact sim_all hd0 hinv (by assumption)
        | exact sim_bad (i := v) (k := k) (by omega) (by omega) hk.2 (by first | exact bad2 hok2 (by omega) (by omega) (by first | exact join1 (by assumption) | exact join2' (by assumption) (by assumption) (by assumption) (by assumption) | exact hro.1 (by assumption)) (by rw [← hrm]; assumption) | exact bad0 (by first | exact nojoin0 (by assumption) (by assumption) | exact nojoin1' (by assumption) (by assumption) | exact nojoin3 (by assumption) (by assumption) | exact nojoin4 (by assumption) (by assumption) | exact hro.2 (by assumption) (by assumption)) (by rw [← hrm]; assumption))
    have C49 : Chg (inl []) _ _ _ _ := (ch15.n).seq ((hc18.n).seq ((ch19.n).seq (hc46.n)))
    replace hbase := hbase.chg C49 (is_nl rfl)
    exact ⟨(congrArg (a₁ := false) (fun (z0 : Bool) => Ending.returned (Value.bool z0)) e0), hbase.below⟩
   refine l_val (v := Value.bool false) (want_y rfl rfl rfl (decide_eq_false q86)) (e_move rfl) ?_
   refine l_val (v := Value.bool false) rfl (e_pick_f rfl (decide_eq_false q86) rfl) ?_
   refine l_val (v := Value.bool false) rfl (e_move rfl) ?_
   refine l_skip (want_n rfl rfl rfl rfl) (l_skip (want_n rfl rfl rfl rfl) ?_)
   refine l_val (v := Value.bool false) rfl (e_pick_f rfl rfl rfl) ?_
   refine l_val (v := Value.bool false) rfl (e_move rfl) ?_
   refine l_val (v := Value.bool (decide ((k : Int) = ((v : Int) + 1)))) (want_y rfl rfl rfl rfl) (e_move rfl) ?_
   refine l_val (v := Value.bool (!(decide ((k : Int) = ((v : Int) + 1))))) (want_y rfl rfl rfl rfl) (e_not (b := decide ((k : Int) = ((v : Int) + 1))) rfl) ?_
   refine l_val (v := Value.bool (!(decide ((k : Int) = ((v : Int) + 1))))) (want_y rfl rfl rfl rfl) (e_move rfl) ?_
   refine l_val (v := Value.bool false) (want_y rfl rfl rfl (congrArg Bool.not (decide_eq_false q86))) (e_move rfl) ?_
   refine l_val (v := Value.bool true) (want_y rfl rfl rfl (congrArg Bool.not (decide_eq_false q86))) (e_not (b := false) rfl) ?_
   refine l_val (v := Value.bool true) (want_y rfl rfl rfl rfl) (e_pick_t rfl (congrArg Bool.not (decide_eq_false q86)) rfl) ?_
   refine l_val (v := Value.bool true) (want_y rfl rfl rfl rfl) (e_move rfl) ?_
   refine l_val (v := Value.int .i64 (refM (gI ps (v : Int)) (gI ps ((v : Int) + 1)) (gI ps (k : Int)) (gI ps ((k : Int) + 1)))) (want_y rfl rfl rfl rfl) (e_move rfl) ?_
   refine l_val (v := Value.bool (!(decide ((refM (gI ps (v : Int)) (gI ps ((v : Int) + 1)) (gI ps (k : Int)) (gI ps ((k : Int) + 1))) = 0)))) (want_y rfl rfl rfl rfl) (e_neq (m := refM (gI ps (v : Int)) (gI ps ((v : Int) + 1)) (gI ps (k : Int)) (gI ps ((k : Int) + 1))) (n := 0) rfl rfl) ?_
   refine l_val (v := Value.bool (!(decide ((refM (gI ps (v : Int)) (gI ps ((v : Int) + 1)) (gI ps (k : Int)) (gI ps ((k : Int) + 1))) = 0)))) (want_y rfl rfl rfl rfl) (e_pick_t rfl rfl rfl) ?_
   refine l_val (v := Value.bool (!(decide ((refM (gI ps (v : Int)) (gI ps ((v : Int) + 1)) (gI ps (k : Int)) (gI ps ((k : Int) + 1))) = 0)))) rfl (e_pick_f rfl rfl rfl) ?_
   refine l_nil ?_
   by_cases p16 : (refM (gI ps (v : Int)) (gI ps ((v : Int) + 1)) (gI ps (k : Int)) (gI ps ((k : Int) + 1))) = 0
   ·
    refine run_cond_f rfl (congrArg Bool.not (decide_eq_true p16)) ?_
    refine run_skip ?_
    refine run_inBlock ?_
    refine run_region rfl ?_
    refine l_val (v := Value.int .i64 (k : Int)) rfl (e_move (by exact zs6)) ?_
    refine l_val (v := Value.int .i64 ((k : Int) + 1)) rfl (e_add (m := (k : Int)) (n := 1) rfl rfl (by omega)) ?_
    refine l_val (v := Value.int .i64 ((k : Int) + 1)) rfl (e_assign rfl) ?_
    refine l_nil ?_
    have C50 : Chg (inl []) _ _ _ _ := (ch15.n).seq ((hc18.n).seq ((ch19.n).seq (hc46.n)))
    replace hbase := hbase.chg C50 (is_nl rfl)
    have C51 : Chg (inl []) _ _ _ _ := (hc18.n).seq ((ch19.n).seq (hc46.n))
    replace r_ps_v := r_ps_v.chg C51 (is_nl rfl)
    refine back11 (k + 1, g14) _ _ ⟨hbase, (by exact zs0), (by exact zs3), (by exact zs5), rfl, r_ps_v, by omega, ?_⟩ ?_
    · show (∀ j_ : Nat, v < j_ → j_ < (k + 1) → ¬ badP ps v j_) ∧ v < (k + 1)
      refine ⟨fun j h1 h2 => ?_, by omega⟩
      by_cases e0 : j = k
      · subst e0
        first
          | exact good2 (by first | exact join1 (by assumption) | exact join2' (by assumption) (by assumption) (by assumption) (by assumption) | exact hro.1 (by assumption)) (by rw [← hrm]; assumption)
          | exact good0 (by first | exact nojoin0 (by assumption) (by assumption) | exact nojoin1' (by assumption) (by assumption) | exact nojoin3 (by assumption) (by assumption) | exact nojoin4 (by assumption) (by assumption) | exact hro.2 (by assumption) (by assumption)) (by rw [← hrm]; assumption)
      · exact hk.1 j h1 (by omega)
    · show List.length ps - (k + 1) < List.length ps - k
      omega
   refine run_cond_t rfl (congrArg Bool.not (decide_eq_false p16)) ?_
   refine run_seq (run_region rfl ?_)
   refine l_val (v := Value.bool false) rfl (e_assign rfl) ?_
   refine l_nil ?_
   refine run_ret (vs := [Value.bool false]) Try.func32 (.tmp rfl .nil) ?_
   -- return 9
   have e0 : (false : Bool) = (decide (simP ps)) := by
     first
       | exact sim_eq (i := i) (by omega) (by assumption)
       | exact sim_all hd0 hinv (by assumption)
       | exact sim_bad (i := v) (k := k) (by omega) (by omega) hk.2 (by first | exact bad2 hok2 (by omega) (by omega) (by first | exact join1 (by assumption) | exact join2' (by assumption) (by assumption) (by assumption) (by assumption) | exact hro.1 (by assumption)) (by rw [← hrm]; assumption) | exact bad0 (by first | exact nojoin0 (by assumption) (by assumption) | exact nojoin1' (by assumption) (by assumption) | exact nojoin3 (by assumption) (by assumption) | exact nojoin4 (by assumption) (by assumption) | exact hro.2 (by assumption) (by assumption)) (by rw [← hrm]; assumption))
   have C52 : Chg (inl []) _ _ _ _ := (ch15.n).seq ((hc18.n).seq ((ch19.n).seq (hc46.n)))
   replace hbase := hbase.chg C52 (is_nl rfl)
   exact ⟨(congrArg (a₁ := false) (fun (z0 : Bool) => Ending.returned (Value.bool z0)) e0), hbase.below⟩
  refine run_cond_f rfl (decide_eq_false p11) ?_
  refine run_exit rfl ?_
  refine run_inBlock ?_
  refine run_region rfl ?_
  refine l_val (v := Value.int .i64 (v : Int)) rfl (e_move (by exact zs5)) ?_
  refine l_val (v := Value.int .i64 ((v : Int) + 1)) rfl (e_add (m := (v : Int)) (n := 1) rfl rfl (by omega)) ?_
  refine l_val (v := Value.int .i64 ((v : Int) + 1)) rfl (e_assign rfl) ?_
  refine l_nil ?_
  refine back8 (v + 1, g14) _ _ ⟨hbase, (by exact zs0), (by exact zs3), rfl, r_ps_v, by omega, ?_⟩ ?_
  · show ∀ j_ : Nat, j_ < (v + 1) → ∀ k_ : Nat, j_ < k_ → (k_ : Int) < (ps.length : Int) - 1 → ¬ badP ps j_ k_
    intro j hj
    by_cases e0 : j = v
    · subst e0; exact fun k' h1 h2 => hk.1 k' h1 (by omega)
    · exact hinv j (by omega)
  · show List.length ps - (v + 1) < List.length ps - v
    omega
 refine run_cond_f rfl (decide_eq_false p8) ?_
 refine run_exit rfl ?_
 refine run_seq (run_region rfl ?_)
 refine l_val (v := Value.bool true) rfl (e_assign rfl) ?_
 refine l_nil ?_
 refine run_ret (vs := [Value.bool true]) Try.func32 (.tmp rfl .nil) ?_
 -- return 10
 have e0 : (true : Bool) = (decide (simP ps)) := by
   first
     | exact sim_eq (i := i) (by omega) (by assumption)
     | exact sim_all hd0 hinv (by assumption)
     | exact sim_bad (i := v) (k := k) (by omega) (by omega) hk.2 (by first | exact bad2 hok2 (by omega) (by omega) (by first | exact join1 (by assumption) | exact join2' (by assumption) (by assumption) (by assumption) (by assumption) | exact hro.1 (by assumption)) (by rw [← hrm]; assumption) | exact bad0 (by first | exact nojoin0 (by assumption) (by assumption) | exact nojoin1' (by assumption) (by assumption) | exact nojoin3 (by assumption) (by assumption) | exact nojoin4 (by assumption) (by assumption) | exact hro.2 (by assumption) (by assumption)) (by rw [← hrm]; assumption))
 exact ⟨(congrArg (a₁ := true) (fun (z0 : Bool) => Ending.returned (Value.bool z0)) e0), hbase.below⟩

theorem D2segments_ok (w0 : World) (ps : List ((Int) × (Int))) (ps_v : Value) (hps_v : Ro w0 ps_v ps) (h0 : 0 < ps.length) (hlen : ps.length ≤ 4096) :
    Calls Try.prog 62 #[ps_v] w0 (fun ee w => ∃ xx : Cmap × Value, ee = .returned ((fun ⟨δ, rv0⟩ => rv0) xx) ∧ (fun (⟨δ, rv0⟩ : Cmap × Value) (w : World) => Fresh w0 δ w ∧ Ow δ (is 1) (is 1) w rv0 (segS ps)) xx w) := by
 refine calls_of_run Try.func62 rfl (Nat.le_of_ble_eq_true rfl) ?_
 have hbase := Base.start w0
 have r_ps_v := hps_v.sl
 refine run_seq (run_region rfl ?_)
 refine l_val (v := Value.slice none 0 0) rfl (e_assign rfl) ?_
 refine l_nil (run_seq (run_seq (run_region rfl ?_)))
 refine l_val (v := ps_v) rfl (e_move rfl) ?_
 have len1 := (r_ps_v).small
 refine l_val (v := Value.int .i64 (List.length ps : Int)) rfl (e_len Try.underlying25 rfl r_ps_v) ?_
 refine l_val (v := Value.bool (decide ((List.length ps : Int) = 1))) rfl (e_eql (m := (List.length ps : Int)) (n := 1) rfl rfl) ?_
 refine l_nil ?_
 by_cases p1 : (List.length ps : Int) = 1
 ·
  refine run_cond_t rfl (decide_eq_true p1) ?_
  refine run_seq ?_
  refine run_region_x c0 [0, 1, 2, 3, 4, 5, 6, 8] mixed_gv ?_
  intro w3 ch2
  refine x_pure (v := ps_v) 0 rfl (by kernel_rfl) (by kernel_rfl) rfl (fun w => e_move rfl) ?_
  replace r_ps_v := r_ps_v.chg ch2 (not_no _)
  refine x_val (v := Value.pointer (some (eAddr ps_v 2 (Int.toNat 0)))) 1 [0, 3, 4, 5] rfl (by kernel_rfl) (by kernel_rfl) rfl (e_indexAddr (α := (Int) × (Int)) (xs := ps) (v := ps_v) (i := 0) Try.underlying25 rfl rfl r_ps_v rfl (by omega) (by omega)) ?_
  refine x_val (v := Value.agg (List.toArray [Value.int .i64 ((gI ps 0).1), Value.int .i64 ((gI ps 0).2)])) 2 [1, 0, 3, 4, 5] rfl (by kernel_rfl) (by kernel_rfl) rfl (e_load_elN (α := (Int) × (Int)) (xs := ps) (v := ps_v) (i := 0) tp23_gv rfl r_ps_v (by omega) (by omega) rfl) ?_
  refine x_pure (v := ps_v) 3 rfl (by kernel_rfl) (by kernel_rfl) rfl (fun w => e_move rfl) ?_
  refine x_val (v := Value.pointer (some (eAddr ps_v 2 (Int.toNat 0)))) 4 [3, 2, 1, 0] rfl (by kernel_rfl) (by kernel_rfl) rfl (e_indexAddr (α := (Int) × (Int)) (xs := ps) (v := ps_v) (i := 0) Try.underlying25 rfl rfl r_ps_v rfl (by omega) (by omega)) ?_
  refine x_val (v := Value.agg (List.toArray [Value.int .i64 ((gI ps 0).1), Value.int .i64 ((gI ps 0).2)])) 5 [4, 3, 2, 1, 0] rfl (by kernel_rfl) (by kernel_rfl) rfl (e_load_elN (α := (Int) × (Int)) (xs := ps) (v := ps_v) (i := 0) tp23_gv rfl r_ps_v (by omega) (by omega) rfl) ?_
  refine x_pure (v := Value.agg (List.toArray [Value.int .i64 ((gI ps 0).1), Value.int .i64 ((gI ps 0).2), Value.int .i64 ((gI ps 0).1), Value.int .i64 ((gI ps 0).2)])) 6 rfl (by kernel_rfl) (by kernel_rfl) rfl (fun w => e_build (vs := [(0, Value.agg (List.toArray [Value.int .i64 ((gI ps 0).1), Value.int .i64 ((gI ps 0).2)])), (1, Value.agg (List.toArray [Value.int .i64 ((gI ps 0).1), Value.int .i64 ((gI ps 0).2)]))]) rfl (by kernel_rfl)) ?_
  refine x_one 7 rfl (by kernel_rfl) rfl ?_
  refine o_buildSlice (α := ((Int) × (Int)) × ((Int) × (Int))) c0 (is 1) (is 1) (1, 0) rfl ([((gI ps 0), (gI ps 0))] : List (((Int) × (Int)) × ((Int) × (Int)))) Try.underlying68 tp70_gv (by decide) (by decide) (vs := [(0, Value.agg (List.toArray [Value.int .i64 ((gI ps 0).1), Value.int .i64 ((gI ps 0).2), Value.int .i64 ((gI ps 0).1), Value.int .i64 ((gI ps 0).2)]))]) rfl rfl (.cons rfl .nil) ?_
  intro g4 w5 v6 ch7 o8
  refine x_pure (v := v6) 8 rfl (by kernel_rfl) (by kernel_rfl) rfl (fun w => e_assign rfl) ?_
  refine x_nil (by kernel_rfl) ?_
  refine run_ret (vs := [v6]) Try.func62 (.tmp rfl .nil) ?_
  -- return 0
  replace hbase := hbase.chg ch2 (not_no _)
  replace hbase := hbase.chg ch7 (not_no _)
  have e0 : (([((gI ps 0), (gI ps 0))] : List (((Int) × (Int)) × ((Int) × (Int)))) : List (((Int) × (Int)) × ((Int) × (Int)))) = (segS ps) := by
    first
      | exact segS_one (by assumption)
      | (unfold segS; rw [if_neg (by omega), hinv.1]; congr 1; omega)
  exact ⟨(fin w0 g4 (fun n => if n = 1 then 1 else 0), v6), (congrArg (a₁ := ([((gI ps 0), (gI ps 0))] : List (((Int) × (Int)) × ((Int) × (Int))))) (fun (z0 : List (((Int) × (Int)) × ((Int) × (Int)))) => Ending.returned (v6)) e0), hbase.fresh _, (e0 ▸ (o8.glue (γ := c0) (ren := (fun n => if n = 1 then 1 else 0)) (k := 1) hbase.col rfl rfl))⟩
 refine run_cond_f rfl (decide_eq_false p1) ?_
 refine run_skip ?_
 refine run_seq (run_region rfl ?_)
 refine l_val (v := Value.slice none 0 0) rfl (e_assign rfl) ?_
 refine l_nil (run_seq (run_seq (run_region rfl ?_)))
 refine l_val (v := Value.int .i64 0) rfl (e_assign rfl) ?_
 refine l_nil ?_
 refine run_block ?_
 refine run_loop (σ := Value × (List (((Int) × (Int)) × ((Int) × (Int)))) × Nat × Cmap) (fun ⟨l_v, l, i, gq⟩ f w => Base w0 gq w ∧ f 0 = ps_v ∧ f 3 = l_v ∧ f 4 = Value.int .i64 (i : Int) ∧ Sl gq (is 0) w ps_v ps ∧ Ow gq (is 3) (is 3) w l_v l ∧ (l = segK ps i ∧ (i = 0 ∨ i + 1 ≤ ps.length))) (fun ⟨l_v, l, i, gq⟩ => List.length ps - i) (Value.slice none 0 0, [], 0, c0) ?_ ?_
 · exact ⟨hbase, rfl, rfl, rfl, r_ps_v, Ow.nil, by exact ⟨rfl, by omega⟩⟩
 clear r_ps_v
 clear hbase
 rintro ⟨l_v, l, i, g11⟩ f9 w10 ⟨hbase, zs0, zs3, zs4, r_ps_v, o_l, hinv⟩ back5
 have hll : l.length = i := by rw [hinv.1]; exact segK_len ps _
 have hi1 := hinv.2
 refine run_seq (run_seq (run_region rfl ?_))
 refine l_val (v := Value.int .i64 (i : Int)) rfl (e_move (by exact zs4)) ?_
 refine l_val (v := Value.int .i64 ((i : Int) + 1)) rfl (e_add (m := (i : Int)) (n := 1) rfl rfl (by omega)) ?_
 refine l_val (v := ps_v) rfl (e_move (by exact zs0)) ?_
 refine l_val (v := Value.int .i64 (List.length ps : Int)) rfl (e_len Try.underlying25 rfl r_ps_v) ?_
 refine l_val (v := Value.bool (decide (((i : Int) + 1) < (List.length ps : Int)))) rfl (e_lss (m := (i : Int) + 1) (n := (List.length ps : Int)) rfl rfl) ?_
 refine l_nil ?_
 by_cases p5 : ((i : Int) + 1) < (List.length ps : Int)
 ·
  refine run_cond_t rfl (decide_eq_true p5) ?_
  refine run_skip ?_
  refine run_seq ?_
  refine run_block ?_
  refine run_region_x g11 [0, 1, 2, 3, 4, 5, 6, 7, 8, 9, 10, 13] mixed_gv ?_
  intro w13 ch12
  refine x_pure (v := l_v) 0 rfl (by kernel_rfl) (by kernel_rfl) rfl (fun w => e_move (by exact zs3)) ?_
  refine x_pure (v := ps_v) 1 rfl (by kernel_rfl) (by kernel_rfl) rfl (fun w => e_move (by exact zs0)) ?_
  refine x_pure (v := Value.int .i64 (i : Int)) 2 rfl (by kernel_rfl) (by kernel_rfl) rfl (fun w => e_move (by exact zs4)) ?_
  replace r_ps_v := r_ps_v.chg ch12 (not_no _)
  refine x_val (v := Value.pointer (some (eAddr ps_v 2 (Int.toNat (i : Int))))) 3 [2, 1, 0, 5, 6, 7, 8, 9] rfl (by kernel_rfl) (by kernel_rfl) rfl (e_indexAddr (α := (Int) × (Int)) (xs := ps) (v := ps_v) (i := (i : Int)) Try.underlying25 rfl rfl r_ps_v rfl (by omega) (by omega)) ?_
  refine x_val (v := Value.agg (List.toArray [Value.int .i64 ((gI ps (i : Int)).1), Value.int .i64 ((gI ps (i : Int)).2)])) 4 [3, 2, 1, 0, 5, 6, 7, 8, 9] rfl (by kernel_rfl) (by kernel_rfl) rfl (e_load_elN (α := (Int) × (Int)) (xs := ps) (v := ps_v) (i := (i : Int)) tp23_gv rfl r_ps_v (by omega) (by omega) rfl) ?_
  refine x_pure (v := ps_v) 5 rfl (by kernel_rfl) (by kernel_rfl) rfl (fun w => e_move (by exact zs0)) ?_
  refine x_pure (v := Value.int .i64 (i : Int)) 6 rfl (by kernel_rfl) (by kernel_rfl) rfl (fun w => e_move (by exact zs4)) ?_
  refine x_pure (v := Value.int .i64 ((i : Int) + 1)) 7 rfl (by kernel_rfl) (by kernel_rfl) rfl (fun w => e_add (m := (i : Int)) (n := 1) rfl rfl (by omega)) ?_
  refine x_val (v := Value.pointer (some (eAddr ps_v 2 (Int.toNat ((i : Int) + 1))))) 8 [7, 6, 5, 4, 3, 2, 1, 0] rfl (by kernel_rfl) (by kernel_rfl) rfl (e_indexAddr (α := (Int) × (Int)) (xs := ps) (v := ps_v) (i := (i : Int) + 1) Try.underlying25 rfl rfl r_ps_v rfl (by omega) (by omega)) ?_
  refine x_val (v := Value.agg (List.toArray [Value.int .i64 ((gI ps ((i : Int) + 1)).1), Value.int .i64 ((gI ps ((i : Int) + 1)).2)])) 9 [8, 7, 6, 5, 4, 3, 2, 1, 0] rfl (by kernel_rfl) (by kernel_rfl) rfl (e_load_elN (α := (Int) × (Int)) (xs := ps) (v := ps_v) (i := (i : Int) + 1) tp23_gv rfl r_ps_v (by omega) (by omega) rfl) ?_
  refine x_pure (v := Value.agg (List.toArray [Value.int .i64 ((gI ps (i : Int)).1), Value.int .i64 ((gI ps (i : Int)).2), Value.int .i64 ((gI ps ((i : Int) + 1)).1), Value.int .i64 ((gI ps ((i : Int) + 1)).2)])) 10 rfl (by kernel_rfl) (by kernel_rfl) rfl (fun w => e_build (vs := [(0, Value.agg (List.toArray [Value.int .i64 ((gI ps (i : Int)).1), Value.int .i64 ((gI ps (i : Int)).2)])), (1, Value.agg (List.toArray [Value.int .i64 ((gI ps ((i : Int) + 1)).1), Value.int .i64 ((gI ps ((i : Int) + 1)).2)]))]) rfl (by kernel_rfl)) ?_
  refine x_one 11 rfl (by kernel_rfl) rfl ?_
  refine o_buildSlice (α := ((Int) × (Int)) × ((Int) × (Int))) g11 (is 2) (is 2) (2, 0) rfl ([((gI ps (i : Int)), (gI ps ((i : Int) + 1)))] : List (((Int) × (Int)) × ((Int) × (Int)))) Try.underlying68 tp70_gv (by decide) (by decide) (vs := [(0, Value.agg (List.toArray [Value.int .i64 ((gI ps (i : Int)).1), Value.int .i64 ((gI ps (i : Int)).2), Value.int .i64 ((gI ps ((i : Int) + 1)).1), Value.int .i64 ((gI ps ((i : Int) + 1)).2)]))]) rfl rfl (.cons rfl .nil) ?_
  intro g14 w15 v16 ch17 o18
  refine x_one 12 rfl (by kernel_rfl) rfl ?_
  replace o_l := (o_l.chg ch12 (not_no _) (not_no _)).chg ch17 (not_no _) (not_no _)
  refine o_append (α := ((Int) × (Int)) × ((Int) × (Int))) (xs := l) (ys := ([((gI ps (i : Int)), (gI ps ((i : Int) + 1)))] : List (((Int) × (Int)) × ((Int) × (Int))))) g14 (J := is 3) (S := is 3) (3, 0) rfl Try.underlying68 tp70_gv (by decide) rfl rfl rfl o_l o18.flat (by decide) (by first | omega | (simp; done) | (simp; omega)) ?_
  intro g19 w20 v21 ch22 o23
  clear o_l
  refine x_pure (v := v21) 13 rfl (by kernel_rfl) (by kernel_rfl) rfl (fun w => e_assign rfl) ?_
  refine x_nil (by kernel_rfl) ?_
  refine run_inBlock ?_
  clear o18
  refine run_region rfl ?_
  refine l_val (v := Value.int .i64 (i : Int)) rfl (e_move (by exact zs4)) ?_
  refine l_val (v := Value.int .i64 ((i : Int) + 1)) rfl (e_add (m := (i : Int)) (n := 1) rfl rfl (by omega)) ?_
  refine l_val (v := Value.int .i64 ((i : Int) + 1)) rfl (e_assign rfl) ?_
  refine l_nil ?_
  have C24 : Chg (inl [3]) _ _ _ _ := (ch12.n).seq ((ch17.n).seq (ch22.l rfl))
  replace hbase := hbase.chg C24 (is_nl rfl)
  replace r_ps_v := (r_ps_v.chg ch17 (not_no _)).chg ch22 (is_ne rfl)
  refine back5 (v21, (l ++ ([((gI ps (i : Int)), (gI ps ((i : Int) + 1)))] : List (((Int) × (Int)) × ((Int) × (Int))))), i + 1, g19) _ _ ⟨hbase, (by exact zs0), rfl, rfl, r_ps_v, o23, ?_⟩ ?_
  · show (l ++ ([((gI ps (i : Int)), (gI ps ((i : Int) + 1)))] : List (((Int) × (Int)) × ((Int) × (Int))))) = segK ps (i + 1) ∧ ((i + 1) = 0 ∨ (i + 1) + 1 ≤ ps.length)
    exact ⟨by rw [segK, hinv.1], by omega⟩
  · show List.length ps - (i + 1) < List.length ps - i
    omega
 refine run_cond_f rfl (decide_eq_false p5) ?_
 refine run_exit rfl ?_
 refine run_seq (run_region rfl ?_)
 refine l_val (v := l_v) rfl (e_move (by exact zs3)) ?_
 refine l_val (v := l_v) rfl (e_assign rfl) ?_
 refine l_nil ?_
 refine run_ret (vs := [l_v]) Try.func62 (.tmp rfl .nil) ?_
 -- return 1
 have e0 : (l : List (((Int) × (Int)) × ((Int) × (Int)))) = (segS ps) := by
   first
     | exact segS_one (by assumption)
     | (unfold segS; rw [if_neg (by omega), hinv.1]; congr 1; omega)
 exact ⟨(fin w0 g11 (fun n => if n = 3 then 1 else 0), l_v), (congrArg (a₁ := l) (fun (z0 : List (((Int) × (Int)) × ((Int) × (Int)))) => Ending.returned (l_v)) e0), hbase.fresh _, (e0 ▸ (o_l.glue (γ := c0) (ren := (fun n => if n = 3 then 1 else 0)) (k := 1) hbase.col rfl rfl))⟩

theorem has_ok (w0 : World) (l : List ((Int) × (Int))) (l_v : Value) (hl_v : Ro w0 l_v l) (p : (Int) × (Int)) :
    Calls Try.prog 53 #[l_v, Value.agg (List.toArray [Value.int .i64 p.1, Value.int .i64 p.2])] w0 (fun ee w => ee = .returned (Value.bool (decide (p ∈ l))) ∧ Bel w0.heap.size w0 w) := by
 refine calls_of_run Try.func53 rfl (Nat.le_of_ble_eq_true rfl) ?_
 have hbase := Base.start w0
 have r_l_v := hl_v.sl
 refine run_seq (run_region rfl (l_op rfl ?_))
 refine o_box c0 (is 1) (1, 0) rfl rfl ?_
 intro g4 w1 b3 ch2 bx5
 replace bx5 : Bx g4 (is 1) w1 b3 [Value.int .i64 p.1, Value.int .i64 p.2] := bx5
 refine l_val (v := Value.bool false) rfl (e_assign rfl) ?_
 refine l_nil (run_seq (run_seq (run_region rfl ?_)))
 refine l_val (v := Value.int .i64 0) rfl (e_assign rfl) ?_
 refine l_nil ?_
 refine run_block ?_
 refine run_loop (σ := Nat × Cmap) (fun ⟨i, gq⟩ f w => Base w0 gq w ∧ f 0 = l_v ∧ f 3 = Value.pointer (some ⟨b3, 0, none⟩) ∧ f 5 = Value.int .i64 (i : Int) ∧ Sl gq (is 0) w l_v l ∧ Bx gq (is 1) w b3 [Value.int .i64 p.1, Value.int .i64 p.2] ∧ (i : Int) ≤ ((List.length l : Int) : Int) ∧ (∀ j : Nat, j < i → gI l (j : Int) ≠ p)) (fun ⟨i, gq⟩ => Int.toNat (((List.length l : Int) : Int) - (i : Int))) (0, g4) ?_ ?_
 replace hbase := hbase.chg ch2 (not_no _)
 replace r_l_v := r_l_v.chg ch2 (not_no _)
 · exact ⟨hbase, rfl, rfl, rfl, r_l_v, bx5, by omega, by intro j hj; omega⟩
 clear r_l_v
 clear bx5
 clear hbase
 rintro ⟨i, g8⟩ f6 w7 ⟨hbase, zs0, zs3, zs5, r_l_v, bx5, hle_i, hinv⟩ back2
 refine run_seq (run_seq (run_region rfl ?_))
 refine l_val (v := Value.int .i64 (i : Int)) rfl (e_move (by exact zs5)) ?_
 refine l_val (v := l_v) rfl (e_move (by exact zs0)) ?_
 have len9 := (r_l_v).small
 refine l_val (v := Value.int .i64 (List.length l : Int)) rfl (e_len Try.underlying25 rfl r_l_v) ?_
 refine l_val (v := Value.bool (decide ((i : Int) < (List.length l : Int)))) rfl (e_lss (m := (i : Int)) (n := (List.length l : Int)) rfl rfl) ?_
 refine l_nil ?_
 by_cases p2 : (i : Int) < (List.length l : Int)
 ·
  refine run_cond_t rfl (decide_eq_true p2) ?_
  refine run_skip ?_
  refine run_seq ?_
  refine run_block ?_
  refine run_seq ?_
  refine region_q g8 rfl mixed_gv (by kernel_rfl) ?_
  intro w11 ch10
  refine q_val (v := l_v) rfl (fun w' hw' => e_move (by exact zs0)) ?_
  refine q_val (v := Value.int .i64 (i : Int)) rfl (fun w' hw' => e_move (by exact zs5)) ?_
  replace r_l_v := r_l_v.chg ch10 (not_no _)
  refine q_val (v := Value.pointer (some (eAddr l_v 2 (Int.toNat (i : Int))))) rfl (fun w' hw' => e_indexAddr (α := (Int) × (Int)) (xs := l) (v := l_v) (i := (i : Int)) Try.underlying25 rfl rfl (r_l_v.bel hw') rfl (by omega) (by omega)) ?_
  refine q_val (v := Value.agg (List.toArray [Value.int .i64 ((gI l (i : Int)).1), Value.int .i64 ((gI l (i : Int)).2)])) rfl (fun w' hw' => e_load_elN (α := (Int) × (Int)) (xs := l) (v := l_v) (i := (i : Int)) tp23_gv rfl (r_l_v.bel hw') (by omega) (by omega) rfl) ?_
  replace bx5 := bx5.chg ch10 (not_no _)
  refine q_val (v := Value.agg (List.toArray [Value.int .i64 p.1, Value.int .i64 p.2])) rfl (fun w' hw' => e_load_bxN (ds := [Value.int .i64 p.1, Value.int .i64 p.2]) tp23_gv (by exact zs3) (bx5.bel hw') rfl rfl) ?_
  refine q_val (v := Value.bool (decide ((gI l (i : Int)) = p))) rfl (fun w' hw' => e_eql_struct (bs := [decide (((gI l (i : Int)).1) = p.1), decide (((gI l (i : Int)).2) = p.2)]) Try.underlying23 (by kernel_rfl) (by kernel_rfl) rfl rfl (.cons (by decide +kernel) tp3_gv rfl rfl (.int Try.underlying3) (.cons (by decide +kernel) tp3_gv rfl rfl (.int Try.underlying3) .nil)) (by simp [Prod.ext_iff, Bool.decide_and, Bool.and_assoc])) ?_
  refine q_nil ?_
  intro w12 hc13
  replace hc13 := chg_below hc13 g8
  by_cases p4 : (gI l (i : Int)) = p
  ·
   refine run_cond_t rfl (decide_eq_true p4) ?_
   refine run_seq ?_
   clear bx5
   refine run_region rfl ?_
   refine l_val (v := Value.bool true) rfl (e_assign rfl) ?_
   refine l_nil ?_
   refine run_ret (vs := [Value.bool true]) Try.func53 (.tmp rfl .nil) ?_
   -- return 0
   have e0 : (true : Bool) = (decide (p ∈ l)) := by
     first
       | exact (decide_eq_true (by rw [← (show gI l (i : Int) = p by assumption)]; exact gI_mem (by omega) (by assumption))).symm
       | exact (decide_eq_false (fun hm => by obtain ⟨j, hj, e⟩ := List.mem_iff_getElem.1 hm; exact hinv j (by omega) (by simp [gI, hj, e]))).symm
   replace hbase := hbase.chg ch10 (not_no _)
   replace hbase := hbase.chg hc13 (not_no _)
   exact ⟨(congrArg (a₁ := true) (fun (z0 : Bool) => Ending.returned (Value.bool z0)) e0), hbase.below⟩
  refine run_cond_f rfl (decide_eq_false p4) ?_
  refine run_skip ?_
  refine run_inBlock ?_
  refine run_region rfl ?_
  refine l_val (v := Value.int .i64 (i : Int)) rfl (e_move (by exact zs5)) ?_
  refine l_val (v := Value.int .i64 ((i : Int) + 1)) rfl (e_add (m := (i : Int)) (n := 1) rfl rfl (by omega)) ?_
  refine l_val (v := Value.int .i64 ((i : Int) + 1)) rfl (e_assign rfl) ?_
  refine l_nil ?_
  replace hbase := hbase.chg ch10 (not_no _)
  replace hbase := hbase.chg hc13 (not_no _)
  replace r_l_v := r_l_v.chg hc13 (not_no _)
  replace bx5 := bx5.chg hc13 (not_no _)
  refine back2 (i + 1, g8) _ _ ⟨hbase, (by exact zs0), (by exact zs3), rfl, r_l_v, bx5, by omega, ?_⟩ ?_
  · show ∀ j : Nat, j < (i + 1) → gI l (j : Int) ≠ p
    intro j hj
    by_cases e0 : j = i
    · subst e0; assumption
    · exact hinv j (by omega)
  · show Int.toNat (((List.length l : Int) : Int) - ((i + 1) : Int)) < Int.toNat (((List.length l : Int) : Int) - (i : Int))
    omega
 refine run_cond_f rfl (decide_eq_false p2) ?_
 refine run_exit rfl ?_
 refine run_seq ?_
 clear bx5
 refine run_region rfl ?_
 refine l_val (v := Value.bool false) rfl (e_assign rfl) ?_
 refine l_nil ?_
 refine run_ret (vs := [Value.bool false]) Try.func53 (.tmp rfl .nil) ?_
 -- return 1
 have e0 : (false : Bool) = (decide (p ∈ l)) := by
   first
     | exact (decide_eq_true (by rw [← (show gI l (i : Int) = p by assumption)]; exact gI_mem (by omega) (by assumption))).symm
     | exact (decide_eq_false (fun hm => by obtain ⟨j, hj, e⟩ := List.mem_iff_getElem.1 hm; exact hinv j (by omega) (by simp [gI, hj, e]))).symm
 exact ⟨(congrArg (a₁ := false) (fun (z0 : Bool) => Ending.returned (Value.bool z0)) e0), hbase.below⟩
end TL
