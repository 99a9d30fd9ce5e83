import Derived.Test.YtifpjbjhkabhgaaTlGmA
import Derived.Test.YtifpjbjhkabhgaaTlGmM
import Derived.Test.YtifpjbjhkabhgaaProg
import Derived.Test.YtifpjbjhkabhgaaTlNet2
import Derived.Test.YtifpjbjhkabhgaaTlEq
import Derived.Test.YtifpjbjhkabhgaaTlHold
import Derived.Test.YtifpjbjhkabhgaaTlDraw
import Derived.Test.YtifpjbjhkabhgaaTlMap
set_option linter.all false
set_option maxRecDepth 20000
namespace TL
open Go Go.Proofs
theorem mixed_gr : Try.prog.follows .mixedOrders = true := by kernel_rfl
theorem tp3_gr : Tp Try.prog 3 false 1 8 (.int .i64 0) := Tp.of (by kernel_rfl)
theorem tp23_gr : Tp Try.prog 23 true 2 16 (.agg #[.int .i64 0, .int .i64 0]) := Tp.of (by kernel_rfl)
theorem bd25_gr : Try.f25.body.isNone = false := rfl
theorem nm25_gr : (Try.f25.name == "runtime.NumGoroutine") = false := by decide +kernel
theorem bd36_gr : Try.f36.body.isNone = false := rfl
theorem nm36_gr : (Try.f36.name == "runtime.NumGoroutine") = false := by decide +kernel
theorem bd44_gr : Try.f44.body.isNone = false := rfl
theorem nm44_gr : (Try.f44.name == "runtime.NumGoroutine") = false := by decide +kernel
theorem bd50_gr : Try.f50.body.isNone = false := rfl
theorem nm50_gr : (Try.f50.name == "runtime.NumGoroutine") = false := by decide +kernel

theorem Area_ok (w0 : World) (ps : List ((Int) × (Int))) (ps_v : Value) (hps_v : Ro w0 ps_v ps) :
    Calls Try.prog 21 #[ps_v] w0 (fun ee w => ee = .returned (Value.tuple (List.toArray [Value.int .i64 ((areaR ps).1), Value.int .i64 ((areaR ps).2)])) ∧ Bel w0.heap.size w0 w) := by
 refine calls_of_run Try.func21 rfl (Nat.le_of_ble_eq_true rfl) ?_
 have hbase := Base.start w0
 have r_ps_v := hps_v.sl
 refine run_seq (run_region rfl ?_)
 refine l_val (v := Value.int .i64 0) rfl (e_assign rfl) ?_
 refine l_val (v := Value.int .i64 0) rfl (e_assign rfl) ?_
 refine l_nil (run_seq (run_seq (run_region rfl ?_)))
 refine l_val (v := ps_v) rfl (e_move rfl) ?_
 refine l_op rfl ?_
 refine o_call (v := Value.bool (decide (okL ps))) (e_call (vals := [ps_v]) Try.func25 bd25_gr nm25_gr rfl) (GMay_ok w0 ps ps_v (r_ps_v).ro) ?_
 intro w1 hb2
 replace hb2 := chg_below hb2 c0
 refine l_val (v := Value.bool (!(decide (okL ps)))) rfl (e_not (b := (decide (okL ps))) rfl) ?_
 refine l_nil ?_
 by_cases p1 : (decide (okL ps)) = true
 ·
  obtain ⟨hl1, hl2⟩ := of_decide_eq_true p1
  have hok := of_decide_eq_true p1
  refine run_cond_f rfl (congrArg Bool.not p1) ?_
  refine run_skip ?_
  refine run_seq (run_seq (run_region rfl ?_))
  refine l_val (v := ps_v) rfl (e_move rfl) ?_
  replace r_ps_v := r_ps_v.chg hb2 (not_no _)
  have len3 := (r_ps_v).small
  refine l_val (v := Value.int .i64 (List.length ps : Int)) rfl (e_len Try.underlying25 rfl r_ps_v) ?_
  refine l_val (v := Value.bool (decide ((List.length ps : Int) < 3))) rfl (e_lss (m := (List.length ps : Int)) (n := 3) rfl rfl) ?_
  refine l_nil ?_
  by_cases p3 : (List.length ps : Int) < 3
  ·
   refine run_cond_t rfl (decide_eq_true p3) ?_
   refine run_seq (run_region rfl ?_)
   refine l_val (v := Value.int .i64 0) rfl (e_assign rfl) ?_
   refine l_val (v := Value.int .i64 0) rfl (e_assign rfl) ?_
   refine l_nil ?_
   refine run_ret (vs := [Value.int .i64 0, Value.int .i64 0]) Try.func21 (.tmp rfl (.tmp rfl .nil)) ?_
   -- return 0
   have e0 : (0 : Int) = ((areaR ps).1) := by
     first
       | (have hn : ¬ okL ps := fun h => p1 (decide_eq_true h)
          simp only [areaR, if_neg hn]; done)
       | (simp only [areaR, if_pos hok, if_pos (show (ps.length : Int) < 3 by assumption)]; done)
       | (simp only [areaR, if_pos hok, if_neg (show ¬ (ps.length : Int) < 3 by assumption)]; done)
       | (have hk : k = ps.length := by omega
          simp only [areaR, if_pos hok, if_neg (show ¬ (ps.length : Int) < 3 by assumption), hinv, hk]; done)
   have e1 : (0 : Int) = ((areaR ps).2) := by
     first
       | (have hn : ¬ okL ps := fun h => p1 (decide_eq_true h)
          simp only [areaR, if_neg hn]; done)
       | (simp only [areaR, if_pos hok, if_pos (show (ps.length : Int) < 3 by assumption)]; done)
       | (simp only [areaR, if_pos hok, if_neg (show ¬ (ps.length : Int) < 3 by assumption)]; done)
       | (have hk : k = ps.length := by omega
          simp only [areaR, if_pos hok, if_neg (show ¬ (ps.length : Int) < 3 by assumption), hinv, hk]; done)
   replace hbase := hbase.chg hb2 (not_no _)
   exact ⟨(congr2 (a := 0) (b := 0) (fun (z0 : Int) (z1 : Int) => Ending.returned (Value.tuple (List.toArray [Value.int .i64 z0, Value.int .i64 z1]))) e0 e1), hbase.below⟩
  refine run_cond_f rfl (decide_eq_false p3) ?_
  refine run_skip ?_
  refine run_seq (run_region rfl ?_)
  refine l_val (v := Value.int .i64 0) rfl (e_assign rfl) ?_
  refine l_nil (run_seq (run_seq (run_region rfl ?_)))
  refine l_val (v := ps_v) rfl (e_move rfl) ?_
  refine l_val (v := Value.int .i64 (List.length ps : Int)) rfl (e_len Try.underlying25 rfl r_ps_v) ?_
  refine l_val (v := Value.int .i64 0) rfl (e_move rfl) ?_
  refine l_nil ?_
  refine run_block ?_
  refine run_loop (σ := Int × Nat × Cmap) (fun ⟨n, k, gq⟩ f w => Base w0 gq w ∧ f 0 = ps_v ∧ f 4 = Value.int .i64 n ∧ f 13 = ps_v ∧ f 14 = Value.int .i64 (List.length ps : Int) ∧ f 15 = Value.int .i64 (k : Int) ∧ Sl gq (is 0) w ps_v ps ∧ (k : Int) ≤ ((List.length ps : Int) : Int) ∧ (n = areaK ps k)) (fun ⟨n, k, gq⟩ => Int.toNat (((List.length ps : Int) : Int) - (k : Int))) (0, 0, c0) ?_ ?_
  replace hbase := hbase.chg hb2 (not_no _)
  · exact ⟨hbase, rfl, rfl, rfl, rfl, rfl, r_ps_v, by omega, by rfl⟩
  clear r_ps_v
  clear hbase
  rintro ⟨n, k, g6⟩ f4 w5 ⟨hbase, zs0, zs4, zs13, zs14, zs15, r_ps_v, hle_k, hinv⟩ back7
  refine run_seq (run_region rfl ?_)
  refine l_val (v := Value.bool (decide ((k : Int) < (List.length ps : Int)))) rfl (e_lss (m := (k : Int)) (n := (List.length ps : Int)) (by exact zs15) (by exact zs14)) ?_
  refine l_nil (run_seq ?_)
  by_cases p7 : (k : Int) < (List.length ps : Int)
  ·
   refine run_cond_t rfl (decide_eq_true p7) ?_
   have hbd := areaK_bd hl2 k (by omega)
   have he1 := Int.emod_nonneg ((k : Int) + 1) (show ((ps.length : Nat) : Int) ≠ 0 by omega)
   have he2 := Int.emod_lt_of_pos ((k : Int) + 1) (show (0 : Int) < ((ps.length : Nat) : Int) by omega)
   have hp1 := hl2 _ (gI_mem (xs := ps) (i := (k : Int)) (by omega) (by omega))
   have hp2 := hl2 _ (gI_mem (xs := ps) he1 he2)
   have hc := crs_bd hp1 hp2
   have hw1 : bdW (gI ps (k : Int)) := by unfold okP at hp1; unfold bdW; omega
   have hw2 : bdW (gI ps (((k : Int) + 1) % (ps.length : Int))) := by unfold okP at hp2; unfold bdW; omega
   refine run_skip ?_
   refine run_seq ?_
   refine run_block ?_
   refine run_seq (run_region rfl ?_)
   refine l_val (v := Value.int .i64 (k : Int)) rfl (e_move (by exact zs15)) ?_
   refine l_val (v := Value.pointer (some (eAddr ps_v 2 (Int.toNat (k : Int))))) rfl (e_indexAddr (α := (Int) × (Int)) (xs := ps) (v := ps_v) (i := (k : Int)) Try.underlying25 rfl (by exact zs13) r_ps_v (by exact zs15) (by omega) (by omega)) ?_
   refine l_val (v := Value.agg (List.toArray [Value.int .i64 ((gI ps (k : Int)).1), Value.int .i64 ((gI ps (k : Int)).2)])) rfl (e_load_elN (α := (Int) × (Int)) (xs := ps) (v := ps_v) (i := (k : Int)) tp23_gr rfl r_ps_v (by omega) (by omega) rfl) ?_
   refine l_op rfl ?_
   refine o_alloc g6 (is 1) (1, 0) rfl tp23_gr ?_
   intro g10 w7 b9 ch8 bx11
   replace bx11 : Bx g10 (is 1) w7 b9 [Value.int .i64 0, Value.int .i64 0] := bx11
   refine l_val (v := Value.int .i64 (k : Int)) rfl (e_assign rfl) ?_
   refine l_op rfl ?_
   refine o_store_bx (cs' := [Value.int .i64 ((gI ps (k : Int)).1), Value.int .i64 ((gI ps (k : Int)).2)]) tp23_gr rfl rfl bx11 rfl (Nat.le_of_ble_eq_true rfl) (AllOne.all (.cons rfl (.cons rfl .nil))) rfl ?_
   intro w12 ch13 bx14
   clear bx11
   refine l_nil ?_
   refine region_q g10 rfl mixed_gr (by kernel_rfl) ?_
   intro w16 ch15
   refine q_val (v := Value.int .i64 n) rfl (fun w' hw' => e_move (by exact zs4)) ?_
   replace bx14 := bx14.chg ch15 (not_no _)
   refine q_val (v := Value.agg (List.toArray [Value.int .i64 ((gI ps (k : Int)).1), Value.int .i64 ((gI ps (k : Int)).2)])) rfl (fun w' hw' => e_load_bxN (ds := [Value.int .i64 ((gI ps (k : Int)).1), Value.int .i64 ((gI ps (k : Int)).2)]) tp23_gr rfl (bx14.bel hw') rfl rfl) ?_
   refine q_val (v := ps_v) rfl (fun w' hw' => e_move (by exact zs0)) ?_
   refine q_val (v := Value.int .i64 (k : Int)) rfl (fun w' hw' => e_move rfl) ?_
   refine q_val (v := Value.int .i64 ((k : Int) + 1)) rfl (fun w' hw' => e_add (m := (k : Int)) (n := 1) rfl rfl (by omega)) ?_
   refine q_val (v := ps_v) rfl (fun w' hw' => e_move (by exact zs0)) ?_
   have C17 : Chg (inl [1]) _ _ _ _ := (ch8.n).seq ((ch13.l rfl).seq (ch15.n))
   replace r_ps_v := r_ps_v.chg C17 (is_nl rfl)
   refine q_val (v := Value.int .i64 (List.length ps : Int)) rfl (fun w' hw' => e_len Try.underlying25 rfl (r_ps_v.bel hw')) ?_
   refine q_val (v := Value.int .i64 (((k : Int) + 1) % (List.length ps : Int))) rfl (fun w' hw' => e_rem (m := (k : Int) + 1) (n := (List.length ps : Int)) rfl rfl (by omega) (by omega)) ?_
   refine q_val (v := Value.pointer (some (eAddr ps_v 2 (Int.toNat (((k : Int) + 1) % (List.length ps : Int)))))) rfl (fun w' hw' => e_indexAddr (α := (Int) × (Int)) (xs := ps) (v := ps_v) (i := ((k : Int) + 1) % (List.length ps : Int)) Try.underlying25 rfl rfl (r_ps_v.bel hw') rfl (by omega) (by omega)) ?_
   refine q_val (v := Value.agg (List.toArray [Value.int .i64 ((gI ps (((k : Int) + 1) % (List.length ps : Int))).1), Value.int .i64 ((gI ps (((k : Int) + 1) % (List.length ps : Int))).2)])) rfl (fun w' hw' => e_load_elN (α := (Int) × (Int)) (xs := ps) (v := ps_v) (i := ((k : Int) + 1) % (List.length ps : Int)) tp23_gr rfl (r_ps_v.bel hw') (by omega) (by omega) rfl) ?_
   refine q_call (v := Value.int .i64 (crs (gI ps (k : Int)) (gI ps (((k : Int) + 1) % (List.length ps : Int))))) rfl (fun w' hw' => e_call (vals := [Value.agg (List.toArray [Value.int .i64 ((gI ps (k : Int)).1), Value.int .i64 ((gI ps (k : Int)).2)]), Value.agg (List.toArray [Value.int .i64 ((gI ps (((k : Int) + 1) % (List.length ps : Int))).1), Value.int .i64 ((gI ps (((k : Int) + 1) % (List.length ps : Int))).2)])]) Try.func44 bd44_gr nm44_gr rfl) (fun w' hw' => (cross_ok w' (gI ps (k : Int)) (gI ps (((k : Int) + 1) % (List.length ps : Int))) (by assumption) (by assumption)).mono fun e w2 h2 => ⟨h2.1, hw'.trans (h2.2.mono hw'.size)⟩) ?_
   refine q_val (v := Value.int .i64 (n + (crs (gI ps (k : Int)) (gI ps (((k : Int) + 1) % (List.length ps : Int)))))) rfl (fun w' hw' => e_add (m := n) (n := crs (gI ps (k : Int)) (gI ps (((k : Int) + 1) % (List.length ps : Int)))) rfl rfl (by omega)) ?_
   refine q_val (v := Value.int .i64 (n + (crs (gI ps (k : Int)) (gI ps (((k : Int) + 1) % (List.length ps : Int)))))) rfl (fun w' hw' => e_assign rfl) ?_
   refine q_nil ?_
   intro w18 hc19
   replace hc19 := chg_below hc19 g10
   refine run_inBlock ?_
   clear bx14
   refine run_region rfl ?_
   refine l_val (v := Value.int .i64 ((k : Int) + 1)) rfl (e_add (m := (k : Int)) (n := 1) (by exact zs15) rfl (by omega)) ?_
   refine l_val (v := Value.int .i64 ((k : Int) + 1)) rfl (e_move rfl) ?_
   refine l_nil ?_
   have C20 : Chg (inl [1]) _ _ _ _ := (ch8.n).seq ((ch13.l rfl).seq ((ch15.n).seq (hc19.n)))
   replace hbase := hbase.chg C20 (is_nl rfl)
   replace r_ps_v := r_ps_v.chg hc19 (not_no _)
   refine back7 (n + (crs (gI ps (k : Int)) (gI ps (((k : Int) + 1) % (List.length ps : Int)))), k + 1, g10) _ _ ⟨hbase, (by exact zs0), rfl, (by exact zs13), (by exact zs14), rfl, r_ps_v, by omega, ?_⟩ ?_
   · show (n + (crs (gI ps (k : Int)) (gI ps (((k : Int) + 1) % (List.length ps : Int))))) = areaK ps (k + 1)
     rw [hinv]; rfl
   · show Int.toNat (((List.length ps : Int) : Int) - ((k + 1) : Int)) < Int.toNat (((List.length ps : Int) : Int) - (k : Int))
     omega
  refine run_cond_f rfl (decide_eq_false p7) ?_
  refine run_exit rfl ?_
  refine run_seq (run_region rfl ?_)
  refine l_val (v := Value.int .i64 n) rfl (e_move (by exact zs4)) ?_
  refine l_val (v := Value.int .i64 n) rfl (e_assign rfl) ?_
  refine l_val (v := Value.int .i64 0) rfl (e_assign rfl) ?_
  refine l_nil ?_
  refine run_ret (vs := [Value.int .i64 n, Value.int .i64 0]) Try.func21 (.tmp rfl (.tmp rfl .nil)) ?_
  -- return 1
  have e0 : (n : Int) = ((areaR ps).1) := by
    first
      | (have hn : ¬ okL ps := fun h => p1 (decide_eq_true h)
         simp only [areaR, if_neg hn]; done)
      | (simp only [areaR, if_pos hok, if_pos (show (ps.length : Int) < 3 by assumption)]; done)
      | (simp only [areaR, if_pos hok, if_neg (show ¬ (ps.length : Int) < 3 by assumption)]; done)
      | (have hk : k = ps.length := by omega
         simp only [areaR, if_pos hok, if_neg (show ¬ (ps.length : Int) < 3 by assumption), hinv, hk]; done)
  have e1 : (0 : Int) = ((areaR ps).2) := by
    first
      | (have hn : ¬ okL ps := fun h => p1 (decide_eq_true h)
         simp only [areaR, if_neg hn]; done)
      | (simp only [areaR, if_pos hok, if_pos (show (ps.length : Int) < 3 by assumption)]; done)
      | (simp only [areaR, if_pos hok, if_neg (show ¬ (ps.length : Int) < 3 by assumption)]; done)
      | (have hk : k = ps.length := by omega
         simp only [areaR, if_pos hok, if_neg (show ¬ (ps.length : Int) < 3 by assumption), hinv, hk]; done)
  exact ⟨(congr2 (a := n) (b := 0) (fun (z0 : Int) (z1 : Int) => Ending.returned (Value.tuple (List.toArray [Value.int .i64 z0, Value.int .i64 z1]))) e0 e1), hbase.below⟩
 refine run_cond_t rfl (congrArg Bool.not (Bool.eq_false_iff.2 p1)) ?_
 refine run_seq (run_region rfl ?_)
 refine l_val (v := Value.int .i64 0) rfl (e_assign rfl) ?_
 refine l_val (v := Value.int .i64 1) rfl (e_assign rfl) ?_
 refine l_nil ?_
 refine run_ret (vs := [Value.int .i64 0, Value.int .i64 1]) Try.func21 (.tmp rfl (.tmp rfl .nil)) ?_
 -- return 2
 have e0 : (0 : Int) = ((areaR ps).1) := by
   first
     | (have hn : ¬ okL ps := fun h => p1 (decide_eq_true h)
        simp only [areaR, if_neg hn]; done)
     | (simp only [areaR, if_pos hok, if_pos (show (ps.length : Int) < 3 by assumption)]; done)
     | (simp only [areaR, if_pos hok, if_neg (show ¬ (ps.length : Int) < 3 by assumption)]; done)
     | (have hk : k = ps.length := by omega
        simp only [areaR, if_pos hok, if_neg (show ¬ (ps.length : Int) < 3 by assumption), hinv, hk]; done)
 have e1 : (1 : Int) = ((areaR ps).2) := by
   first
     | (have hn : ¬ okL ps := fun h => p1 (decide_eq_true h)
        simp only [areaR, if_neg hn]; done)
     | (simp only [areaR, if_pos hok, if_pos (show (ps.length : Int) < 3 by assumption)]; done)
     | (simp only [areaR, if_pos hok, if_neg (show ¬ (ps.length : Int) < 3 by assumption)]; done)
     | (have hk : k = ps.length := by omega
        simp only [areaR, if_pos hok, if_neg (show ¬ (ps.length : Int) < 3 by assumption), hinv, hk]; done)
 replace hbase := hbase.chg hb2 (not_no _)
 exact ⟨(congr2 (a := 0) (b := 1) (fun (z0 : Int) (z1 : Int) => Ending.returned (Value.tuple (List.toArray [Value.int .i64 z0, Value.int .i64 z1]))) e0 e1), hbase.below⟩

theorem Box_ok (w0 : World) (ps : List ((Int) × (Int))) (ps_v : Value) (hps_v : Ro w0 ps_v ps) :
    Calls Try.prog 28 #[ps_v] w0 (fun ee w => ee = .returned (Value.tuple (List.toArray [Value.agg (List.toArray [Value.int .i64 (((boxR ps).1).1), Value.int .i64 (((boxR ps).1).2)]), Value.agg (List.toArray [Value.int .i64 (((boxR ps).2.1).1), Value.int .i64 (((boxR ps).2.1).2)]), Value.int .i64 ((boxR ps).2.2)])) ∧ Bel w0.heap.size w0 w) := by
 refine calls_of_run Try.func28 rfl (Nat.le_of_ble_eq_true rfl) ?_
 have hbase := Base.start w0
 have r_ps_v := hps_v.sl
 refine run_seq (run_region rfl (l_op rfl ?_))
 refine o_alloc c0 (is 1) (1, 0) rfl tp23_gr ?_
 intro g4 w1 b3 ch2 bx5
 replace bx5 : Bx g4 (is 1) w1 b3 [Value.int .i64 0, Value.int .i64 0] := bx5
 refine l_op rfl ?_
 refine o_alloc g4 (is 2) (2, 0) rfl tp23_gr ?_
 intro g9 w6 b8 ch7 bx10
 replace bx10 : Bx g9 (is 2) w6 b8 [Value.int .i64 0, Value.int .i64 0] := bx10
 refine l_val (v := Value.int .i64 0) rfl (e_assign rfl) ?_
 refine l_nil (run_seq (run_seq (run_region rfl ?_)))
 refine l_val (v := ps_v) rfl (e_move rfl) ?_
 replace r_ps_v := (r_ps_v.chg ch2 (not_no _)).chg ch7 (not_no _)
 refine l_op rfl ?_
 refine o_call (v := Value.bool (decide (okL ps))) (e_call (vals := [ps_v]) Try.func25 bd25_gr nm25_gr rfl) (GMay_ok w6 ps ps_v (r_ps_v).ro) ?_
 intro w11 hb12
 replace hb12 := chg_below hb12 g9
 refine l_val (v := Value.bool (!(decide (okL ps)))) rfl (e_not (b := (decide (okL ps))) rfl) ?_
 refine l_nil ?_
 by_cases p1 : (decide (okL ps)) = true
 ·
  have hok := of_decide_eq_true p1
  refine run_cond_f rfl (congrArg Bool.not p1) ?_
  refine run_skip ?_
  refine run_seq (run_seq (run_region rfl ?_))
  refine l_val (v := ps_v) rfl (e_move rfl) ?_
  replace r_ps_v := r_ps_v.chg hb12 (not_no _)
  have len13 := (r_ps_v).small
  refine l_val (v := Value.int .i64 (List.length ps : Int)) rfl (e_len Try.underlying25 rfl r_ps_v) ?_
  refine l_val (v := Value.bool (decide ((List.length ps : Int) = 0))) rfl (e_eql (m := (List.length ps : Int)) (n := 0) rfl rfl) ?_
  refine l_nil ?_
  by_cases p3 : (List.length ps : Int) = 0
  ·
   refine run_cond_t rfl (decide_eq_true p3) ?_
   refine run_seq (run_region rfl ?_)
   refine l_val (v := Value.agg (List.toArray [Value.int .i64 0, Value.int .i64 0])) rfl (e_build (vs := []) rfl (by kernel_rfl)) ?_
   refine l_val (v := Value.agg (List.toArray [Value.int .i64 0, Value.int .i64 0])) rfl (e_build (vs := []) rfl (by kernel_rfl)) ?_
   refine l_op rfl ?_
   replace bx5 := (bx5.chg ch7 (not_no _)).chg hb12 (not_no _)
   refine o_store_bx (cs' := [Value.int .i64 0, Value.int .i64 0]) tp23_gr rfl rfl bx5 rfl (Nat.le_of_ble_eq_true rfl) (AllOne.all (.cons rfl (.cons rfl .nil))) rfl ?_
   intro w14 ch15 bx16
   clear bx5
   refine l_op rfl ?_
   replace bx10 := (bx10.chg hb12 (not_no _)).chg ch15 (is_ne rfl)
   refine o_store_bx (cs' := [Value.int .i64 0, Value.int .i64 0]) tp23_gr rfl rfl bx10 rfl (Nat.le_of_ble_eq_true rfl) (AllOne.all (.cons rfl (.cons rfl .nil))) rfl ?_
   intro w17 ch18 bx19
   clear bx10
   refine l_val (v := Value.int .i64 9) rfl (e_assign rfl) ?_
   refine l_nil ?_
   replace bx16 := bx16.chg ch18 (is_ne rfl)
   refine run_ret (vs := [Value.agg (List.toArray [Value.int .i64 0, Value.int .i64 0]), Value.agg (List.toArray [Value.int .i64 0, Value.int .i64 0]), Value.int .i64 9]) Try.func28 (.cell rfl (load_bxN (ds := [Value.int .i64 0, Value.int .i64 0]) tp23_gr bx16 rfl rfl) (.cell rfl (load_bxN (ds := [Value.int .i64 0, Value.int .i64 0]) tp23_gr bx19 rfl rfl) (.tmp rfl .nil))) ?_
   -- return 0
   have e0 : ((0, 0) : (Int) × (Int)) = ((boxR ps).1) := by
     first
       | (have hn : ¬ okL ps := fun h => p1 (decide_eq_true h)
          simp only [boxR, if_neg hn]; done)
       | (simp only [boxR, if_pos hok, if_pos (show (ps.length : Int) = 0 by assumption)]; done)
       | (have hk : k = ps.length := by omega
          obtain ⟨⟨e1, e2⟩, e3, e4⟩ := hinv
          simp only [boxR, if_pos hok, if_neg (show ¬ (ps.length : Int) = 0 by assumption), e1, e2, e3, e4, hk]; done)
   have e1 : ((0, 0) : (Int) × (Int)) = ((boxR ps).2.1) := by
     first
       | (have hn : ¬ okL ps := fun h => p1 (decide_eq_true h)
          simp only [boxR, if_neg hn]; done)
       | (simp only [boxR, if_pos hok, if_pos (show (ps.length : Int) = 0 by assumption)]; done)
       | (have hk : k = ps.length := by omega
          obtain ⟨⟨e1, e2⟩, e3, e4⟩ := hinv
          simp only [boxR, if_pos hok, if_neg (show ¬ (ps.length : Int) = 0 by assumption), e1, e2, e3, e4, hk]; done)
   have e2 : (9 : Int) = ((boxR ps).2.2) := by
     first
       | (have hn : ¬ okL ps := fun h => p1 (decide_eq_true h)
          simp only [boxR, if_neg hn]; done)
       | (simp only [boxR, if_pos hok, if_pos (show (ps.length : Int) = 0 by assumption)]; done)
       | (have hk : k = ps.length := by omega
          obtain ⟨⟨e1, e2⟩, e3, e4⟩ := hinv
          simp only [boxR, if_pos hok, if_neg (show ¬ (ps.length : Int) = 0 by assumption), e1, e2, e3, e4, hk]; done)
   have C20 : Chg (inl [1, 2]) _ _ _ _ := (ch2.n).seq ((ch7.n).seq ((hb12.n).seq ((ch15.l rfl).seq (ch18.l rfl))))
   replace hbase := hbase.chg C20 (is_nl rfl)
   exact ⟨(congr3 (a := (0, 0)) (b := (0, 0)) (c := 9) (fun (z0 : (Int) × (Int)) (z1 : (Int) × (Int)) (z2 : Int) => Ending.returned (Value.tuple (List.toArray [Value.agg (List.toArray [Value.int .i64 z0.1, Value.int .i64 z0.2]), Value.agg (List.toArray [Value.int .i64 z1.1, Value.int .i64 z1.2]), Value.int .i64 z2]))) e0 e1 e2), hbase.below⟩
  refine run_cond_f rfl (decide_eq_false p3) ?_
  refine run_skip ?_
  refine run_seq ?_
  refine region_midh (σ := Nat × Nat × Cmap) (fun ⟨b25, b31, gq⟩ f w => Base w0 gq w ∧ f 0 = ps_v ∧ f 2 = Value.pointer (some ⟨b3, 0, none⟩) ∧ f 3 = Value.pointer (some ⟨b8, 0, none⟩) ∧ f 5 = Value.pointer (some ⟨b25, 0, none⟩) ∧ f 6 = Value.pointer (some ⟨b31, 0, none⟩) ∧ Sl gq (is 0) w ps_v ps ∧ Bx gq (is 1) w b3 [Value.int .i64 0, Value.int .i64 0] ∧ Bx gq (is 2) w b8 [Value.int .i64 0, Value.int .i64 0] ∧ Bx gq (is 3) w b25 [Value.int .i64 ((gI ps 0).1), Value.int .i64 ((gI ps 0).2)] ∧ Bx gq (is 4) w b31 [Value.int .i64 ((gI ps 0).1), Value.int .i64 ((gI ps 0).2)]) g9 (inl [3, 4]) mixed_gr ?_ ?_
  ·
   intro mid
   intro w22 ch21
   refine h_take (v := ps_v) 0 rfl (by kernel_rfl) (by kernel_rfl) rfl (Chg.refl _ _ _) (fun w' hw' => e_move rfl) ?_
   replace r_ps_v := r_ps_v.chg ch21 (not_no _)
   refine h_take (v := Value.pointer (some (eAddr ps_v 2 (Int.toNat 0)))) 1 rfl (by kernel_rfl) (by kernel_rfl) rfl (Chg.refl _ _ _) (fun w' hw' => e_indexAddr (α := (Int) × (Int)) (xs := ps) (v := ps_v) (i := 0) Try.underlying25 rfl rfl (r_ps_v.chg hw' (is_nl rfl)) rfl (by omega) (by omega)) ?_
   refine h_take (v := Value.agg (List.toArray [Value.int .i64 ((gI ps 0).1), Value.int .i64 ((gI ps 0).2)])) 2 rfl (by kernel_rfl) (by kernel_rfl) rfl (Chg.refl _ _ _) (fun w' hw' => e_load_elN (α := (Int) × (Int)) (xs := ps) (v := ps_v) (i := 0) tp23_gr rfl (r_ps_v.chg hw' (is_nl rfl)) (by omega) (by omega) rfl) ?_
   refine h_take (v := ps_v) 3 rfl (by kernel_rfl) (by kernel_rfl) rfl (Chg.refl _ _ _) (fun w' hw' => e_move rfl) ?_
   refine h_take (v := Value.pointer (some (eAddr ps_v 2 (Int.toNat 0)))) 4 rfl (by kernel_rfl) (by kernel_rfl) rfl (Chg.refl _ _ _) (fun w' hw' => e_indexAddr (α := (Int) × (Int)) (xs := ps) (v := ps_v) (i := 0) Try.underlying25 rfl rfl (r_ps_v.chg hw' (is_nl rfl)) rfl (by omega) (by omega)) ?_
   refine h_take (v := Value.agg (List.toArray [Value.int .i64 ((gI ps 0).1), Value.int .i64 ((gI ps 0).2)])) 5 rfl (by kernel_rfl) (by kernel_rfl) rfl (Chg.refl _ _ _) (fun w' hw' => e_load_elN (α := (Int) × (Int)) (xs := ps) (v := ps_v) (i := 0) tp23_gr rfl (r_ps_v.chg hw' (is_nl rfl)) (by omega) (by omega) rfl) ?_
   refine h_many 6 [7] (by kernel_rfl) ⟨h_of 6 rfl (by kernel_rfl) rfl ?_, h_of 7 rfl (by kernel_rfl) rfl ?_, trivial⟩
   ·
    refine o_alloc g9 (is 3) (3, 0) rfl tp23_gr ?_
    intro g26 w23 b25 ch24 bx27
    replace bx27 : Bx g26 (is 3) w23 b25 [Value.int .i64 0, Value.int .i64 0] := bx27
    have hs28 : Chg (inl [3, 4]) _ _ _ _ := ch24.n
    refine ⟨hs28.same, ?_⟩
    refine h_one 7 rfl (by kernel_rfl) rfl ?_
    refine o_alloc g26 (is 4) (4, 0) rfl tp23_gr ?_
    intro g32 w29 b31 ch30 bx33
    replace bx33 : Bx g32 (is 4) w29 b31 [Value.int .i64 0, Value.int .i64 0] := bx33
    have hs34 := hs28.seq (ch30.n)
    refine ⟨hs34.same, ?_⟩
    refine h_one 8 rfl (by kernel_rfl) rfl ?_
    replace bx27 := bx27.chg ch30 (not_no _)
    refine o_store_bx (cs' := [Value.int .i64 ((gI ps 0).1), Value.int .i64 ((gI ps 0).2)]) tp23_gr rfl rfl bx27 rfl (Nat.le_of_ble_eq_true rfl) (AllOne.all (.cons rfl (.cons rfl .nil))) rfl ?_
    intro w35 ch36 bx37
    clear bx27
    have hs38 := hs34.seq (ch36.l rfl)
    refine ⟨hs38.same, ?_⟩
    refine h_one 9 rfl (by kernel_rfl) rfl ?_
    replace bx33 := bx33.chg ch36 (is_ne rfl)
    refine o_store_bx (cs' := [Value.int .i64 ((gI ps 0).1), Value.int .i64 ((gI ps 0).2)]) tp23_gr rfl rfl bx33 rfl (Nat.le_of_ble_eq_true rfl) (AllOne.all (.cons rfl (.cons rfl .nil))) rfl ?_
    intro w39 ch40 bx41
    clear bx33
    have hs42 := hs38.seq (ch40.l rfl)
    refine ⟨hs42.same, ?_⟩
    refine h_nil (by kernel_rfl) ?_
    have C43 : Chg (inl [3, 4]) _ _ _ _ := (ch2.n).seq ((ch7.n).seq ((hb12.n).seq ((ch21.n).seq ((ch24.n).seq ((ch30.n).seq ((ch36.l rfl).seq (ch40.l rfl)))))))
    replace hbase := hbase.chg C43 (is_nl rfl)
    have C44 : Chg (inl []) _ _ _ _ := (ch7.n).seq ((hb12.n).seq (ch21.n))
    replace bx5 := bx5.chg C44 (is_nl rfl)
    replace bx10 := (bx10.chg hb12 (not_no _)).chg ch21 (not_no _)
    replace bx37 := bx37.chg ch40 (is_ne rfl)
    exact mid (b25, b31, g32) _ _ ⟨hbase, rfl, rfl, rfl, rfl, rfl, (r_ps_v.chg hs42 (is_nl rfl)), (bx5.chg hs42 (is_nl rfl)), (bx10.chg hs42 (is_nl rfl)), bx37, bx41⟩
   ·
    refine o_alloc g9 (is 4) (4, 0) rfl tp23_gr ?_
    intro g48 w45 b47 ch46 bx49
    replace bx49 : Bx g48 (is 4) w45 b47 [Value.int .i64 0, Value.int .i64 0] := bx49
    have hs50 : Chg (inl [3, 4]) _ _ _ _ := ch46.n
    refine ⟨hs50.same, ?_⟩
    refine h_one 6 rfl (by kernel_rfl) rfl ?_
    refine o_alloc g48 (is 3) (3, 0) rfl tp23_gr ?_
    intro g54 w51 b53 ch52 bx55
    replace bx55 : Bx g54 (is 3) w51 b53 [Value.int .i64 0, Value.int .i64 0] := bx55
    have hs56 := hs50.seq (ch52.n)
    refine ⟨hs56.same, ?_⟩
    refine h_one 8 rfl (by kernel_rfl) rfl ?_
    refine o_store_bx (cs' := [Value.int .i64 ((gI ps 0).1), Value.int .i64 ((gI ps 0).2)]) tp23_gr rfl rfl bx55 rfl (Nat.le_of_ble_eq_true rfl) (AllOne.all (.cons rfl (.cons rfl .nil))) rfl ?_
    intro w57 ch58 bx59
    clear bx55
    have hs60 := hs56.seq (ch58.l rfl)
    refine ⟨hs60.same, ?_⟩
    refine h_one 9 rfl (by kernel_rfl) rfl ?_
    replace bx49 := (bx49.chg ch52 (not_no _)).chg ch58 (is_ne rfl)
    refine o_store_bx (cs' := [Value.int .i64 ((gI ps 0).1), Value.int .i64 ((gI ps 0).2)]) tp23_gr rfl rfl bx49 rfl (Nat.le_of_ble_eq_true rfl) (AllOne.all (.cons rfl (.cons rfl .nil))) rfl ?_
    intro w61 ch62 bx63
    clear bx49
    have hs64 := hs60.seq (ch62.l rfl)
    refine ⟨hs64.same, ?_⟩
    refine h_nil (by kernel_rfl) ?_
    have C65 : Chg (inl [3, 4]) _ _ _ _ := (ch2.n).seq ((ch7.n).seq ((hb12.n).seq ((ch21.n).seq ((ch46.n).seq ((ch52.n).seq ((ch58.l rfl).seq (ch62.l rfl)))))))
    replace hbase := hbase.chg C65 (is_nl rfl)
    have C66 : Chg (inl []) _ _ _ _ := (ch7.n).seq ((hb12.n).seq (ch21.n))
    replace bx5 := bx5.chg C66 (is_nl rfl)
    replace bx10 := (bx10.chg hb12 (not_no _)).chg ch21 (not_no _)
    replace bx59 := bx59.chg ch62 (is_ne rfl)
    exact mid (b53, b47, g54) _ _ ⟨hbase, rfl, rfl, rfl, rfl, rfl, (r_ps_v.chg hs64 (is_nl rfl)), (bx5.chg hs64 (is_nl rfl)), (bx10.chg hs64 (is_nl rfl)), bx59, bx63⟩
  clear r_ps_v
  clear bx5
  clear bx10
  clear hbase
  rintro ⟨b25, b31, g69⟩ f67 w68 ⟨hbase, zs0, zs2, zs3, zs5, zs6, r_ps_v, bx5, bx10, bx37, bx41⟩
  refine run_seq (run_seq (run_region rfl ?_))
  refine l_val (v := ps_v) rfl (e_move (by exact zs0)) ?_
  refine l_val (v := Value.int .i64 (List.length ps : Int)) rfl (e_len Try.underlying25 rfl r_ps_v) ?_
  refine l_val (v := Value.int .i64 0) rfl (e_move rfl) ?_
  refine l_nil ?_
  refine run_block ?_
  refine run_loop (σ := Int × Int × Int × Int × Nat × Cmap) (fun ⟨t5_0, t5_1, t6_0, t6_1, k, gq⟩ f w => Base w0 gq w ∧ f 2 = Value.pointer (some ⟨b3, 0, none⟩) ∧ f 3 = Value.pointer (some ⟨b8, 0, none⟩) ∧ f 5 = Value.pointer (some ⟨b25, 0, none⟩) ∧ f 6 = Value.pointer (some ⟨b31, 0, none⟩) ∧ f 25 = ps_v ∧ f 26 = Value.int .i64 (List.length ps : Int) ∧ f 27 = Value.int .i64 (k : Int) ∧ Sl gq (is 0) w ps_v ps ∧ Bx gq (is 1) w b3 [Value.int .i64 0, Value.int .i64 0] ∧ Bx gq (is 2) w b8 [Value.int .i64 0, Value.int .i64 0] ∧ Bx gq (is 3) w b25 [Value.int .i64 t5_0, Value.int .i64 t5_1] ∧ Bx gq (is 4) w b31 [Value.int .i64 t6_0, Value.int .i64 t6_1] ∧ (k : Int) ≤ ((List.length ps : Int) : Int) ∧ ((t5_0 = (loK ps k).1 ∧ t5_1 = (loK ps k).2) ∧ t6_0 = (hiK ps k).1 ∧ t6_1 = (hiK ps k).2)) (fun ⟨t5_0, t5_1, t6_0, t6_1, k, gq⟩ => Int.toNat (((List.length ps : Int) : Int) - (k : Int))) ((gI ps 0).1, (gI ps 0).2, (gI ps 0).1, (gI ps 0).2, 0, g69) ?_ ?_
  · exact ⟨hbase, (by exact zs2), (by exact zs3), (by exact zs5), (by exact zs6), rfl, rfl, rfl, r_ps_v, bx5, bx10, bx37, bx41, by omega, by exact ⟨⟨rfl, rfl⟩, rfl, rfl⟩⟩
  clear r_ps_v
  clear bx5
  clear bx10
  clear bx37
  clear bx41
  clear hbase
  rintro ⟨t5_0, t5_1, t6_0, t6_1, k, g72⟩ f70 w71 ⟨hbase, zs2, zs3, zs5, zs6, zs25, zs26, zs27, r_ps_v, bx5, bx10, bx37, bx41, hle_k, hinv⟩ back7
  refine run_seq (run_region rfl ?_)
  refine l_val (v := Value.bool (decide ((k : Int) < (List.length ps : Int)))) rfl (e_lss (m := (k : Int)) (n := (List.length ps : Int)) (by exact zs27) (by exact zs26)) ?_
  refine l_nil (run_seq ?_)
  by_cases p7 : (k : Int) < (List.length ps : Int)
  ·
   refine run_cond_t rfl (decide_eq_true p7) ?_
   refine run_skip ?_
   refine run_seq ?_
   refine run_block ?_
   refine run_seq (run_region rfl ?_)
   refine l_val (v := Value.pointer (some (eAddr ps_v 2 (Int.toNat (k : Int))))) rfl (e_indexAddr (α := (Int) × (Int)) (xs := ps) (v := ps_v) (i := (k : Int)) Try.underlying25 rfl (by exact zs25) r_ps_v (by exact zs27) (by omega) (by omega)) ?_
   refine l_val (v := Value.agg (List.toArray [Value.int .i64 ((gI ps (k : Int)).1), Value.int .i64 ((gI ps (k : Int)).2)])) rfl (e_load_elN (α := (Int) × (Int)) (xs := ps) (v := ps_v) (i := (k : Int)) tp23_gr rfl r_ps_v (by omega) (by omega) rfl) ?_
   refine l_op rfl ?_
   refine o_alloc g72 (is 5) (5, 0) rfl tp23_gr ?_
   intro g76 w73 b75 ch74 bx77
   replace bx77 : Bx g76 (is 5) w73 b75 [Value.int .i64 0, Value.int .i64 0] := bx77
   refine l_op rfl ?_
   refine o_store_bx (cs' := [Value.int .i64 ((gI ps (k : Int)).1), Value.int .i64 ((gI ps (k : Int)).2)]) tp23_gr rfl rfl bx77 rfl (Nat.le_of_ble_eq_true rfl) (AllOne.all (.cons rfl (.cons rfl .nil))) rfl ?_
   intro w78 ch79 bx80
   clear bx77
   refine l_nil (run_seq ?_)
   refine region_mid (σ := Cmap) (fun gq f w => Base w0 gq w ∧ f 2 = Value.pointer (some ⟨b3, 0, none⟩) ∧ f 3 = Value.pointer (some ⟨b8, 0, none⟩) ∧ f 5 = Value.pointer (some ⟨b25, 0, none⟩) ∧ f 6 = Value.pointer (some ⟨b31, 0, none⟩) ∧ f 8 = Value.pointer (some ⟨b75, 0, none⟩) ∧ f 25 = ps_v ∧ f 26 = Value.int .i64 (List.length ps : Int) ∧ f 27 = Value.int .i64 (k : Int) ∧ Sl gq (is 0) w ps_v ps ∧ Bx gq (is 1) w b3 [Value.int .i64 0, Value.int .i64 0] ∧ Bx gq (is 2) w b8 [Value.int .i64 0, Value.int .i64 0] ∧ Bx gq (is 4) w b31 [Value.int .i64 t6_0, Value.int .i64 t6_1] ∧ Bx gq (is 5) w b75 [Value.int .i64 ((gI ps (k : Int)).1), Value.int .i64 ((gI ps (k : Int)).2)] ∧ Bx gq (is 3) w b25 [Value.int .i64 (min t5_0 ((gI ps (k : Int)).1)), Value.int .i64 (min t5_1 ((gI ps (k : Int)).2))]) g76 [0, 1, 2, 3, 4, 5, 6, 7, 9, 10, 12] mixed_gr ?_ ?_
   ·
    intro mid
    intro w82 ch81
    refine x_pure (v := Value.pointer (some ⟨b25, 0, none⟩)) 0 rfl (by kernel_rfl) (by kernel_rfl) rfl (fun w => e_fieldAddr Try.underlying23 rfl rfl (by exact zs5) rfl) ?_
    have C83 : Chg (inl [5]) _ _ _ _ := (ch74.n).seq ((ch79.l rfl).seq (ch81.n))
    replace bx37 := bx37.chg C83 (is_nl rfl)
    refine x_held (v := Value.int .i64 t5_0) 1 [0, 2, 5, 7, 3, 6, 8, 9] rfl (by kernel_rfl) (by kernel_rfl) rfl (fun w' hw' => e_load_bx1 tp3_gr rfl (bx37.bel hw') rfl) ?_
    refine x_pure (v := Value.pointer (some ⟨b75, 0, none⟩)) 2 rfl (by kernel_rfl) (by kernel_rfl) rfl (fun w => e_fieldAddr Try.underlying23 rfl rfl rfl rfl) ?_
    replace bx80 := bx80.chg ch81 (not_no _)
    refine x_held (v := Value.int .i64 ((gI ps (k : Int)).1)) 3 [2, 1, 0, 5, 7, 6, 8, 9] rfl (by kernel_rfl) (by kernel_rfl) rfl (fun w' hw' => e_load_bx1 tp3_gr rfl (bx80.bel hw') rfl) ?_
    refine x_pure (v := Value.int .i64 (min t5_0 ((gI ps (k : Int)).1))) 4 rfl (by kernel_rfl) (by kernel_rfl) rfl (fun w => e_min rfl rfl) ?_
    refine x_pure (v := Value.pointer (some ⟨b25, 1, none⟩)) 5 rfl (by kernel_rfl) (by kernel_rfl) rfl (fun w => e_fieldAddr Try.underlying23 rfl rfl (by exact zs5) rfl) ?_
    refine x_held (v := Value.int .i64 t5_1) 6 [5, 4, 3, 2, 1, 0, 7, 8] rfl (by kernel_rfl) (by kernel_rfl) rfl (fun w' hw' => e_load_bx1 tp3_gr rfl (bx37.bel hw') rfl) ?_
    refine x_pure (v := Value.pointer (some ⟨b75, 1, none⟩)) 7 rfl (by kernel_rfl) (by kernel_rfl) rfl (fun w => e_fieldAddr Try.underlying23 rfl rfl rfl rfl) ?_
    refine x_pure (v := Value.pointer (some ⟨b25, 0, none⟩)) 10 rfl (by kernel_rfl) (by kernel_rfl) rfl (fun w => e_fieldAddr Try.underlying23 rfl rfl (by exact zs5) rfl) ?_
    refine x_two 8 11 rfl rfl (by kernel_rfl) rfl rfl ?_ ?_
    ·
     refine o_of_val (v := Value.int .i64 ((gI ps (k : Int)).2)) (e_load_bx1 tp3_gr rfl bx80 rfl) ?_
     refine x_pure (v := Value.int .i64 (min t5_1 ((gI ps (k : Int)).2))) 9 rfl (by kernel_rfl) (by kernel_rfl) rfl (fun w => e_min rfl rfl) ?_
     refine x_one 11 rfl (by kernel_rfl) rfl ?_
     refine o_store_bx (cs' := [Value.int .i64 (min t5_0 ((gI ps (k : Int)).1)), Value.int .i64 t5_1]) tp3_gr rfl rfl bx37 rfl (Nat.le_of_ble_eq_true rfl) (AllOne.all (.cons rfl .nil)) rfl ?_
     intro w84 ch85 bx86
     clear bx37
     refine x_pure (v := Value.pointer (some ⟨b25, 1, none⟩)) 12 rfl (by kernel_rfl) (by kernel_rfl) rfl (fun w => e_fieldAddr Try.underlying23 rfl rfl (by exact zs5) rfl) ?_
     refine x_one 13 rfl (by kernel_rfl) rfl ?_
     refine o_store_bx (cs' := [Value.int .i64 (min t5_0 ((gI ps (k : Int)).1)), Value.int .i64 (min t5_1 ((gI ps (k : Int)).2))]) tp3_gr rfl rfl bx86 rfl (Nat.le_of_ble_eq_true rfl) (AllOne.all (.cons rfl .nil)) rfl ?_
     intro w87 ch88 bx89
     clear bx86
     refine x_nil (by kernel_rfl) ?_
     have C90 : Chg (inl [3, 5]) _ _ _ _ := (ch74.n).seq ((ch79.l rfl).seq ((ch81.n).seq ((ch85.l rfl).seq (ch88.l rfl))))
     replace hbase := hbase.chg C90 (is_nl rfl)
     replace r_ps_v := r_ps_v.chg C90 (is_nl rfl)
     replace bx5 := bx5.chg C90 (is_nl rfl)
     replace bx10 := bx10.chg C90 (is_nl rfl)
     replace bx41 := bx41.chg C90 (is_nl rfl)
     replace bx80 := (bx80.chg ch85 (is_ne rfl)).chg ch88 (is_ne rfl)
     exact mid (g76) _ _ ⟨hbase, (by exact zs2), (by exact zs3), (by exact zs5), (by exact zs6), rfl, (by exact zs25), (by exact zs26), (by exact zs27), r_ps_v, bx5, bx10, bx41, bx80, bx89⟩
    ·
     refine o_store_bx (cs' := [Value.int .i64 (min t5_0 ((gI ps (k : Int)).1)), Value.int .i64 t5_1]) tp3_gr rfl rfl bx37 rfl (Nat.le_of_ble_eq_true rfl) (AllOne.all (.cons rfl .nil)) rfl ?_
     intro w91 ch92 bx93
     clear bx37
     replace bx80 := bx80.chg ch92 (is_ne rfl)
     refine x_one 8 rfl (by kernel_rfl) rfl ?_
     refine o_of_val (v := Value.int .i64 ((gI ps (k : Int)).2)) (e_load_bx1 tp3_gr rfl bx80 rfl) ?_
     refine x_pure (v := Value.int .i64 (min t5_1 ((gI ps (k : Int)).2))) 9 rfl (by kernel_rfl) (by kernel_rfl) rfl (fun w => e_min rfl rfl) ?_
     refine x_pure (v := Value.pointer (some ⟨b25, 1, none⟩)) 12 rfl (by kernel_rfl) (by kernel_rfl) rfl (fun w => e_fieldAddr Try.underlying23 rfl rfl (by exact zs5) rfl) ?_
     refine x_one 13 rfl (by kernel_rfl) rfl ?_
     refine o_store_bx (cs' := [Value.int .i64 (min t5_0 ((gI ps (k : Int)).1)), Value.int .i64 (min t5_1 ((gI ps (k : Int)).2))]) tp3_gr rfl rfl bx93 rfl (Nat.le_of_ble_eq_true rfl) (AllOne.all (.cons rfl .nil)) rfl ?_
     intro w94 ch95 bx96
     clear bx93
     refine x_nil (by kernel_rfl) ?_
     have C97 : Chg (inl [3, 5]) _ _ _ _ := (ch74.n).seq ((ch79.l rfl).seq ((ch81.n).seq ((ch92.l rfl).seq (ch95.l rfl))))
     replace hbase := hbase.chg C97 (is_nl rfl)
     replace r_ps_v := r_ps_v.chg C97 (is_nl rfl)
     replace bx5 := bx5.chg C97 (is_nl rfl)
     replace bx10 := bx10.chg C97 (is_nl rfl)
     replace bx41 := bx41.chg C97 (is_nl rfl)
     replace bx80 := bx80.chg ch95 (is_ne rfl)
     exact mid (g76) _ _ ⟨hbase, (by exact zs2), (by exact zs3), (by exact zs5), (by exact zs6), rfl, (by exact zs25), (by exact zs26), (by exact zs27), r_ps_v, bx5, bx10, bx41, bx80, bx96⟩
   clear r_ps_v
   clear bx5
   clear bx10
   clear bx37
   clear bx41
   clear bx80
   clear hbase
   rintro g100 f98 w99 ⟨hbase, zs2, zs3, zs5, zs6, zs8, zs25, zs26, zs27, r_ps_v, bx5, bx10, bx41, bx80, bx86⟩
   refine region_mid (σ := Cmap) (fun gq f w => Base w0 gq w ∧ f 2 = Value.pointer (some ⟨b3, 0, none⟩) ∧ f 3 = Value.pointer (some ⟨b8, 0, none⟩) ∧ f 5 = Value.pointer (some ⟨b25, 0, none⟩) ∧ f 6 = Value.pointer (some ⟨b31, 0, none⟩) ∧ f 25 = ps_v ∧ f 26 = Value.int .i64 (List.length ps : Int) ∧ f 27 = Value.int .i64 (k : Int) ∧ Sl gq (is 0) w ps_v ps ∧ Bx gq (is 1) w b3 [Value.int .i64 0, Value.int .i64 0] ∧ Bx gq (is 2) w b8 [Value.int .i64 0, Value.int .i64 0] ∧ Bx gq (is 3) w b25 [Value.int .i64 (min t5_0 ((gI ps (k : Int)).1)), Value.int .i64 (min t5_1 ((gI ps (k : Int)).2))] ∧ Bx gq (is 4) w b31 [Value.int .i64 (max t6_0 ((gI ps (k : Int)).1)), Value.int .i64 (max t6_1 ((gI ps (k : Int)).2))]) g100 [0, 1, 2, 3, 4, 5, 6, 7, 9, 10, 12] mixed_gr ?_ ?_
   ·
    intro mid
    intro w102 ch101
    refine x_pure (v := Value.pointer (some ⟨b31, 0, none⟩)) 0 rfl (by kernel_rfl) (by kernel_rfl) rfl (fun w => e_fieldAddr Try.underlying23 rfl rfl (by exact zs6) rfl) ?_
    replace bx41 := bx41.chg ch101 (not_no _)
    refine x_held (v := Value.int .i64 t6_0) 1 [0, 2, 5, 7, 3, 6, 8, 9] rfl (by kernel_rfl) (by kernel_rfl) rfl (fun w' hw' => e_load_bx1 tp3_gr rfl (bx41.bel hw') rfl) ?_
    refine x_pure (v := Value.pointer (some ⟨b75, 0, none⟩)) 2 rfl (by kernel_rfl) (by kernel_rfl) rfl (fun w => e_fieldAddr Try.underlying23 rfl rfl (by exact zs8) rfl) ?_
    replace bx80 := bx80.chg ch101 (not_no _)
    refine x_held (v := Value.int .i64 ((gI ps (k : Int)).1)) 3 [2, 1, 0, 5, 7, 6, 8, 9] rfl (by kernel_rfl) (by kernel_rfl) rfl (fun w' hw' => e_load_bx1 tp3_gr rfl (bx80.bel hw') rfl) ?_
    refine x_pure (v := Value.int .i64 (max t6_0 ((gI ps (k : Int)).1))) 4 rfl (by kernel_rfl) (by kernel_rfl) rfl (fun w => e_max rfl rfl) ?_
    refine x_pure (v := Value.pointer (some ⟨b31, 1, none⟩)) 5 rfl (by kernel_rfl) (by kernel_rfl) rfl (fun w => e_fieldAddr Try.underlying23 rfl rfl (by exact zs6) rfl) ?_
    refine x_held (v := Value.int .i64 t6_1) 6 [5, 4, 3, 2, 1, 0, 7, 8] rfl (by kernel_rfl) (by kernel_rfl) rfl (fun w' hw' => e_load_bx1 tp3_gr rfl (bx41.bel hw') rfl) ?_
    refine x_pure (v := Value.pointer (some ⟨b75, 1, none⟩)) 7 rfl (by kernel_rfl) (by kernel_rfl) rfl (fun w => e_fieldAddr Try.underlying23 rfl rfl (by exact zs8) rfl) ?_
    refine x_pure (v := Value.pointer (some ⟨b31, 0, none⟩)) 10 rfl (by kernel_rfl) (by kernel_rfl) rfl (fun w => e_fieldAddr Try.underlying23 rfl rfl (by exact zs6) rfl) ?_
    refine x_two 8 11 rfl rfl (by kernel_rfl) rfl rfl ?_ ?_
    ·
     refine o_of_val (v := Value.int .i64 ((gI ps (k : Int)).2)) (e_load_bx1 tp3_gr rfl bx80 rfl) ?_
     refine x_pure (v := Value.int .i64 (max t6_1 ((gI ps (k : Int)).2))) 9 rfl (by kernel_rfl) (by kernel_rfl) rfl (fun w => e_max rfl rfl) ?_
     refine x_one 11 rfl (by kernel_rfl) rfl ?_
     refine o_store_bx (cs' := [Value.int .i64 (max t6_0 ((gI ps (k : Int)).1)), Value.int .i64 t6_1]) tp3_gr rfl rfl bx41 rfl (Nat.le_of_ble_eq_true rfl) (AllOne.all (.cons rfl .nil)) rfl ?_
     intro w103 ch104 bx105
     clear bx41
     refine x_pure (v := Value.pointer (some ⟨b31, 1, none⟩)) 12 rfl (by kernel_rfl) (by kernel_rfl) rfl (fun w => e_fieldAddr Try.underlying23 rfl rfl (by exact zs6) rfl) ?_
     refine x_one 13 rfl (by kernel_rfl) rfl ?_
     refine o_store_bx (cs' := [Value.int .i64 (max t6_0 ((gI ps (k : Int)).1)), Value.int .i64 (max t6_1 ((gI ps (k : Int)).2))]) tp3_gr rfl rfl bx105 rfl (Nat.le_of_ble_eq_true rfl) (AllOne.all (.cons rfl .nil)) rfl ?_
     intro w106 ch107 bx108
     clear bx105
     refine x_nil (by kernel_rfl) ?_
     have C109 : Chg (inl [4]) _ _ _ _ := (ch101.n).seq ((ch104.l rfl).seq (ch107.l rfl))
     replace hbase := hbase.chg C109 (is_nl rfl)
     replace r_ps_v := r_ps_v.chg C109 (is_nl rfl)
     replace bx5 := bx5.chg C109 (is_nl rfl)
     replace bx10 := bx10.chg C109 (is_nl rfl)
     replace bx86 := bx86.chg C109 (is_nl rfl)
     exact mid (g100) _ _ ⟨hbase, (by exact zs2), (by exact zs3), (by exact zs5), (by exact zs6), (by exact zs25), (by exact zs26), (by exact zs27), r_ps_v, bx5, bx10, bx86, bx108⟩
    ·
     refine o_store_bx (cs' := [Value.int .i64 (max t6_0 ((gI ps (k : Int)).1)), Value.int .i64 t6_1]) tp3_gr rfl rfl bx41 rfl (Nat.le_of_ble_eq_true rfl) (AllOne.all (.cons rfl .nil)) rfl ?_
     intro w110 ch111 bx112
     clear bx41
     replace bx80 := bx80.chg ch111 (is_ne rfl)
     refine x_one 8 rfl (by kernel_rfl) rfl ?_
     refine o_of_val (v := Value.int .i64 ((gI ps (k : Int)).2)) (e_load_bx1 tp3_gr rfl bx80 rfl) ?_
     refine x_pure (v := Value.int .i64 (max t6_1 ((gI ps (k : Int)).2))) 9 rfl (by kernel_rfl) (by kernel_rfl) rfl (fun w => e_max rfl rfl) ?_
     refine x_pure (v := Value.pointer (some ⟨b31, 1, none⟩)) 12 rfl (by kernel_rfl) (by kernel_rfl) rfl (fun w => e_fieldAddr Try.underlying23 rfl rfl (by exact zs6) rfl) ?_
     refine x_one 13 rfl (by kernel_rfl) rfl ?_
     refine o_store_bx (cs' := [Value.int .i64 (max t6_0 ((gI ps (k : Int)).1)), Value.int .i64 (max t6_1 ((gI ps (k : Int)).2))]) tp3_gr rfl rfl bx112 rfl (Nat.le_of_ble_eq_true rfl) (AllOne.all (.cons rfl .nil)) rfl ?_
     intro w113 ch114 bx115
     clear bx112
     refine x_nil (by kernel_rfl) ?_
     have C116 : Chg (inl [4]) _ _ _ _ := (ch101.n).seq ((ch111.l rfl).seq (ch114.l rfl))
     replace hbase := hbase.chg C116 (is_nl rfl)
     replace r_ps_v := r_ps_v.chg C116 (is_nl rfl)
     replace bx5 := bx5.chg C116 (is_nl rfl)
     replace bx10 := bx10.chg C116 (is_nl rfl)
     replace bx86 := bx86.chg C116 (is_nl rfl)
     exact mid (g100) _ _ ⟨hbase, (by exact zs2), (by exact zs3), (by exact zs5), (by exact zs6), (by exact zs25), (by exact zs26), (by exact zs27), r_ps_v, bx5, bx10, bx86, bx115⟩
   clear r_ps_v
   clear bx5
   clear bx10
   clear bx41
   clear bx80
   clear bx86
   clear hbase
   rintro g119 f117 w118 ⟨hbase, zs2, zs3, zs5, zs6, zs25, zs26, zs27, r_ps_v, bx5, bx10, bx86, bx106⟩
   refine run_inBlock ?_
   refine run_region rfl ?_
   refine l_val (v := Value.int .i64 ((k : Int) + 1)) rfl (e_add (m := (k : Int)) (n := 1) (by exact zs27) rfl (by omega)) ?_
   refine l_val (v := Value.int .i64 ((k : Int) + 1)) rfl (e_move rfl) ?_
   refine l_nil ?_
   refine back7 (min t5_0 ((gI ps (k : Int)).1), min t5_1 ((gI ps (k : Int)).2), max t6_0 ((gI ps (k : Int)).1), max t6_1 ((gI ps (k : Int)).2), k + 1, g119) _ _ ⟨hbase, (by exact zs2), (by exact zs3), (by exact zs5), (by exact zs6), (by exact zs25), (by exact zs26), rfl, r_ps_v, bx5, bx10, bx86, bx106, by omega, ?_⟩ ?_
   · show ((min t5_0 ((gI ps (k : Int)).1)) = (loK ps (k + 1)).1 ∧ (min t5_1 ((gI ps (k : Int)).2)) = (loK ps (k + 1)).2) ∧ (max t6_0 ((gI ps (k : Int)).1)) = (hiK ps (k + 1)).1 ∧ (max t6_1 ((gI ps (k : Int)).2)) = (hiK ps (k + 1)).2
     (obtain ⟨⟨e1, e2⟩, e3, e4⟩ := hinv; rw [e1, e2, e3, e4]; exact ⟨⟨rfl, rfl⟩, rfl, rfl⟩)
   · show Int.toNat (((List.length ps : Int) : Int) - ((k + 1) : Int)) < Int.toNat (((List.length ps : Int) : Int) - (k : Int))
     omega
  refine run_cond_f rfl (decide_eq_false p7) ?_
  refine run_exit rfl ?_
  refine run_seq ?_
  refine run_region_h g72 (inl [1, 2]) mixed_gr ?_
  intro w121 ch120
  replace bx37 := bx37.chg ch120 (not_no _)
  refine h_take (v := Value.agg (List.toArray [Value.int .i64 t5_0, Value.int .i64 t5_1])) 0 rfl (by kernel_rfl) (by kernel_rfl) rfl (Chg.refl _ _ _) (fun w' hw' => e_load_bxN (ds := [Value.int .i64 t5_0, Value.int .i64 t5_1]) tp23_gr (by exact zs5) (bx37.chg hw' (is_nl rfl)) rfl rfl) ?_
  replace bx41 := bx41.chg ch120 (not_no _)
  refine h_take (v := Value.agg (List.toArray [Value.int .i64 t6_0, Value.int .i64 t6_1])) 1 rfl (by kernel_rfl) (by kernel_rfl) rfl (Chg.refl _ _ _) (fun w' hw' => e_load_bxN (ds := [Value.int .i64 t6_0, Value.int .i64 t6_1]) tp23_gr (by exact zs6) (bx41.chg hw' (is_nl rfl)) rfl rfl) ?_
  refine h_one 2 rfl (by kernel_rfl) rfl ?_
  replace bx5 := bx5.chg ch120 (not_no _)
  refine o_store_bx (cs' := [Value.int .i64 t5_0, Value.int .i64 t5_1]) tp23_gr (by exact zs2) rfl bx5 rfl (Nat.le_of_ble_eq_true rfl) (AllOne.all (.cons rfl (.cons rfl .nil))) rfl ?_
  intro w122 ch123 bx124
  clear bx5
  have hs125 : Chg (inl [1, 2]) _ _ _ _ := ch123.l rfl
  refine ⟨hs125.same, ?_⟩
  refine h_one 3 rfl (by kernel_rfl) rfl ?_
  replace bx10 := (bx10.chg ch120 (not_no _)).chg ch123 (is_ne rfl)
  refine o_store_bx (cs' := [Value.int .i64 t6_0, Value.int .i64 t6_1]) tp23_gr (by exact zs3) rfl bx10 rfl (Nat.le_of_ble_eq_true rfl) (AllOne.all (.cons rfl (.cons rfl .nil))) rfl ?_
  intro w126 ch127 bx128
  clear bx10
  have hs129 := hs125.seq (ch127.l rfl)
  refine ⟨hs129.same, ?_⟩
  refine h_take (v := Value.int .i64 0) 4 rfl (by kernel_rfl) (by kernel_rfl) rfl hs129.same (fun w' hw' => e_assign rfl) ?_
  refine h_nil (by kernel_rfl) ?_
  replace bx124 := bx124.chg ch127 (is_ne rfl)
  refine run_ret (vs := [Value.agg (List.toArray [Value.int .i64 t5_0, Value.int .i64 t5_1]), Value.agg (List.toArray [Value.int .i64 t6_0, Value.int .i64 t6_1]), Value.int .i64 0]) Try.func28 (.cell (by exact zs2) (load_bxN (ds := [Value.int .i64 t5_0, Value.int .i64 t5_1]) tp23_gr bx124 rfl rfl) (.cell (by exact zs3) (load_bxN (ds := [Value.int .i64 t6_0, Value.int .i64 t6_1]) tp23_gr bx128 rfl rfl) (.tmp rfl .nil))) ?_
  -- return 1
  have e0 : ((t5_0, t5_1) : (Int) × (Int)) = ((boxR ps).1) := by
    first
      | (have hn : ¬ okL ps := fun h => p1 (decide_eq_true h)
         simp only [boxR, if_neg hn]; done)
      | (simp only [boxR, if_pos hok, if_pos (show (ps.length : Int) = 0 by assumption)]; done)
      | (have hk : k = ps.length := by omega
         obtain ⟨⟨e1, e2⟩, e3, e4⟩ := hinv
         simp only [boxR, if_pos hok, if_neg (show ¬ (ps.length : Int) = 0 by assumption), e1, e2, e3, e4, hk]; done)
  have e1 : ((t6_0, t6_1) : (Int) × (Int)) = ((boxR ps).2.1) := by
    first
      | (have hn : ¬ okL ps := fun h => p1 (decide_eq_true h)
         simp only [boxR, if_neg hn]; done)
      | (simp only [boxR, if_pos hok, if_pos (show (ps.length : Int) = 0 by assumption)]; done)
      | (have hk : k = ps.length := by omega
         obtain ⟨⟨e1, e2⟩, e3, e4⟩ := hinv
         simp only [boxR, if_pos hok, if_neg (show ¬ (ps.length : Int) = 0 by assumption), e1, e2, e3, e4, hk]; done)
  have e2 : (0 : Int) = ((boxR ps).2.2) := by
    first
      | (have hn : ¬ okL ps := fun h => p1 (decide_eq_true h)
         simp only [boxR, if_neg hn]; done)
      | (simp only [boxR, if_pos hok, if_pos (show (ps.length : Int) = 0 by assumption)]; done)
      | (have hk : k = ps.length := by omega
         obtain ⟨⟨e1, e2⟩, e3, e4⟩ := hinv
         simp only [boxR, if_pos hok, if_neg (show ¬ (ps.length : Int) = 0 by assumption), e1, e2, e3, e4, hk]; done)
  have C130 : Chg (inl [1, 2]) _ _ _ _ := (ch120.n).seq ((ch123.l rfl).seq (ch127.l rfl))
  replace hbase := hbase.chg C130 (is_nl rfl)
  exact ⟨(congr3 (a := (t5_0, t5_1)) (b := (t6_0, t6_1)) (c := 0) (fun (z0 : (Int) × (Int)) (z1 : (Int) × (Int)) (z2 : Int) => Ending.returned (Value.tuple (List.toArray [Value.agg (List.toArray [Value.int .i64 z0.1, Value.int .i64 z0.2]), Value.agg (List.toArray [Value.int .i64 z1.1, Value.int .i64 z1.2]), Value.int .i64 z2]))) e0 e1 e2), hbase.below⟩
 refine run_cond_t rfl (congrArg Bool.not (Bool.eq_false_iff.2 p1)) ?_
 refine run_seq (run_region rfl ?_)
 refine l_val (v := Value.agg (List.toArray [Value.int .i64 0, Value.int .i64 0])) rfl (e_build (vs := []) rfl (by kernel_rfl)) ?_
 refine l_val (v := Value.agg (List.toArray [Value.int .i64 0, Value.int .i64 0])) rfl (e_build (vs := []) rfl (by kernel_rfl)) ?_
 refine l_op rfl ?_
 replace bx5 := (bx5.chg ch7 (not_no _)).chg hb12 (not_no _)
 refine o_store_bx (cs' := [Value.int .i64 0, Value.int .i64 0]) tp23_gr rfl rfl bx5 rfl (Nat.le_of_ble_eq_true rfl) (AllOne.all (.cons rfl (.cons rfl .nil))) rfl ?_
 intro w131 ch132 bx133
 clear bx5
 refine l_op rfl ?_
 replace bx10 := (bx10.chg hb12 (not_no _)).chg ch132 (is_ne rfl)
 refine o_store_bx (cs' := [Value.int .i64 0, Value.int .i64 0]) tp23_gr rfl rfl bx10 rfl (Nat.le_of_ble_eq_true rfl) (AllOne.all (.cons rfl (.cons rfl .nil))) rfl ?_
 intro w134 ch135 bx136
 clear bx10
 refine l_val (v := Value.int .i64 1) rfl (e_assign rfl) ?_
 refine l_nil ?_
 replace bx133 := bx133.chg ch135 (is_ne rfl)
 refine run_ret (vs := [Value.agg (List.toArray [Value.int .i64 0, Value.int .i64 0]), Value.agg (List.toArray [Value.int .i64 0, Value.int .i64 0]), Value.int .i64 1]) Try.func28 (.cell rfl (load_bxN (ds := [Value.int .i64 0, Value.int .i64 0]) tp23_gr bx133 rfl rfl) (.cell rfl (load_bxN (ds := [Value.int .i64 0, Value.int .i64 0]) tp23_gr bx136 rfl rfl) (.tmp rfl .nil))) ?_
 -- return 2
 have e0 : ((0, 0) : (Int) × (Int)) = ((boxR ps).1) := by
   first
     | (have hn : ¬ okL ps := fun h => p1 (decide_eq_true h)
        simp only [boxR, if_neg hn]; done)
     | (simp only [boxR, if_pos hok, if_pos (show (ps.length : Int) = 0 by assumption)]; done)
     | (have hk : k = ps.length := by omega
        obtain ⟨⟨e1, e2⟩, e3, e4⟩ := hinv
        simp only [boxR, if_pos hok, if_neg (show ¬ (ps.length : Int) = 0 by assumption), e1, e2, e3, e4, hk]; done)
 have e1 : ((0, 0) : (Int) × (Int)) = ((boxR ps).2.1) := by
   first
     | (have hn : ¬ okL ps := fun h => p1 (decide_eq_true h)
        simp only [boxR, if_neg hn]; done)
     | (simp only [boxR, if_pos hok, if_pos (show (ps.length : Int) = 0 by assumption)]; done)
     | (have hk : k = ps.length := by omega
        obtain ⟨⟨e1, e2⟩, e3, e4⟩ := hinv
        simp only [boxR, if_pos hok, if_neg (show ¬ (ps.length : Int) = 0 by assumption), e1, e2, e3, e4, hk]; done)
 have e2 : (1 : Int) = ((boxR ps).2.2) := by
   first
     | (have hn : ¬ okL ps := fun h => p1 (decide_eq_true h)
        simp only [boxR, if_neg hn]; done)
     | (simp only [boxR, if_pos hok, if_pos (show (ps.length : Int) = 0 by assumption)]; done)
     | (have hk : k = ps.length := by omega
        obtain ⟨⟨e1, e2⟩, e3, e4⟩ := hinv
        simp only [boxR, if_pos hok, if_neg (show ¬ (ps.length : Int) = 0 by assumption), e1, e2, e3, e4, hk]; done)
 have C137 : Chg (inl [1, 2]) _ _ _ _ := (ch2.n).seq ((ch7.n).seq ((hb12.n).seq ((ch132.l rfl).seq (ch135.l rfl))))
 replace hbase := hbase.chg C137 (is_nl rfl)
 exact ⟨(congr3 (a := (0, 0)) (b := (0, 0)) (c := 1) (fun (z0 : (Int) × (Int)) (z1 : (Int) × (Int)) (z2 : Int) => Ending.returned (Value.tuple (List.toArray [Value.agg (List.toArray [Value.int .i64 z0.1, Value.int .i64 z0.2]), Value.agg (List.toArray [Value.int .i64 z1.1, Value.int .i64 z1.2]), Value.int .i64 z2]))) e0 e1 e2), hbase.below⟩

theorem closed_ok (w0 : World) (ps : List ((Int) × (Int))) (ps_v : Value) (hps_v : Ro w0 ps_v ps) :
    Calls Try.prog 50 #[ps_v] w0 (fun ee w => ee = .returned (Value.bool (decide (closedP ps))) ∧ Bel w0.heap.size w0 w) := by
 refine calls_of_run Try.func50 rfl (Nat.le_of_ble_eq_true rfl) ?_
 have hbase := Base.start w0
 have r_ps_v := hps_v.sl
 refine run_seq (run_region rfl ?_)
 refine l_val (v := Value.bool false) rfl (e_assign rfl) ?_
 refine l_nil (run_seq ?_)
 refine region_q c0 rfl mixed_gr (by kernel_rfl) ?_
 intro w2 ch1
 refine q_val (v := ps_v) rfl (fun w' hw' => e_move rfl) ?_
 replace r_ps_v := r_ps_v.chg ch1 (not_no _)
 have len3 := (r_ps_v).small
 refine q_val (v := Value.int .i64 (List.length ps : Int)) rfl (fun w' hw' => e_len Try.underlying25 rfl (r_ps_v.bel hw')) ?_
 refine q_val (v := Value.bool (decide (4 ≤ (List.length ps : Int)))) rfl (fun w' hw' => e_geq (m := (List.length ps : Int)) (n := 4) rfl rfl) ?_
 refine q_val (v := Value.bool (decide (4 ≤ (List.length ps : Int)))) rfl (fun w' hw' => e_move rfl) ?_
 by_cases q6 : 4 ≤ (List.length ps : Int)
 ·
  refine q_val (v := ps_v) (want_y rfl rfl rfl (decide_eq_true q6)) (fun w' hw' => e_move rfl) ?_
  refine q_val (v := Value.pointer (some (eAddr ps_v 2 (Int.toNat 0)))) (want_y rfl rfl rfl (decide_eq_true q6)) (fun w' hw' => e_indexAddr (α := (Int) × (Int)) (xs := ps) (v := ps_v) (i := 0) Try.underlying25 rfl rfl (r_ps_v.bel hw') rfl (by omega) (by omega)) ?_
  refine q_val (v := Value.agg (List.toArray [Value.int .i64 ((gI ps 0).1), Value.int .i64 ((gI ps 0).2)])) (want_y rfl rfl rfl (decide_eq_true q6)) (fun w' hw' => e_load_elN (α := (Int) × (Int)) (xs := ps) (v := ps_v) (i := 0) tp23_gr rfl (r_ps_v.bel hw') (by omega) (by omega) rfl) ?_
  refine q_val (v := ps_v) (want_y rfl rfl rfl (decide_eq_true q6)) (fun w' hw' => e_move rfl) ?_
  refine q_val (v := ps_v) (want_y rfl rfl rfl (decide_eq_true q6)) (fun w' hw' => e_move rfl) ?_
  refine q_val (v := Value.int .i64 (List.length ps : Int)) (want_y rfl rfl rfl (decide_eq_true q6)) (fun w' hw' => e_len Try.underlying25 rfl (r_ps_v.bel hw')) ?_
  refine q_val (v := Value.int .i64 ((List.length ps : Int) - 1)) (want_y rfl rfl rfl (decide_eq_true q6)) (fun w' hw' => e_sub (m := (List.length ps : Int)) (n := 1) rfl rfl (by omega)) ?_
  refine q_val (v := Value.pointer (some (eAddr ps_v 2 (Int.toNat ((List.length ps : Int) - 1))))) (want_y rfl rfl rfl (decide_eq_true q6)) (fun w' hw' => e_indexAddr (α := (Int) × (Int)) (xs := ps) (v := ps_v) (i := (List.length ps : Int) - 1) Try.underlying25 rfl rfl (r_ps_v.bel hw') rfl (by omega) (by omega)) ?_
  refine q_val (v := Value.agg (List.toArray [Value.int .i64 ((gI ps ((List.length ps : Int) - 1)).1), Value.int .i64 ((gI ps ((List.length ps : Int) - 1)).2)])) (want_y rfl rfl rfl (decide_eq_true q6)) (fun w' hw' => e_load_elN (α := (Int) × (Int)) (xs := ps) (v := ps_v) (i := (List.length ps : Int) - 1) tp23_gr rfl (r_ps_v.bel hw') (by omega) (by omega) rfl) ?_
  refine q_val (v := Value.bool (decide ((gI ps 0) = (gI ps ((List.length ps : Int) - 1))))) (want_y rfl rfl rfl (decide_eq_true q6)) (fun w' hw' => e_eql_struct (bs := [decide (((gI ps 0).1) = ((gI ps ((List.length ps : Int) - 1)).1)), decide (((gI ps 0).2) = ((gI ps ((List.length ps : Int) - 1)).2))]) Try.underlying23 (by kernel_rfl) (by kernel_rfl) rfl rfl (.cons (by decide +kernel) tp3_gr rfl rfl (.int Try.underlying3) (.cons (by decide +kernel) tp3_gr rfl rfl (.int Try.underlying3) .nil)) (by simp [Prod.ext_iff, Bool.decide_and, Bool.and_assoc])) ?_
  refine q_val (v := Value.bool (decide ((gI ps 0) = (gI ps ((List.length ps : Int) - 1))))) rfl (fun w' hw' => e_pick_t rfl (decide_eq_true q6) rfl) ?_
  refine q_val (v := Value.bool (decide ((gI ps 0) = (gI ps ((List.length ps : Int) - 1))))) rfl (fun w' hw' => e_assign rfl) ?_
  refine q_nil ?_
  intro w4 hc5
  replace hc5 := chg_below hc5 c0
  refine run_ret (vs := [Value.bool (decide ((gI ps 0) = (gI ps ((List.length ps : Int) - 1))))]) Try.func50 (.tmp rfl .nil) ?_
  -- return 0
  have e0 : (decide ((gI ps 0) = (gI ps ((List.length ps : Int) - 1))) : Bool) = (decide (closedP ps)) := by
    first
      | exact (decide_eq_false (fun h => absurd h.1 (by assumption))).symm
      | (rw [decide_eq_decide]; exact ⟨fun h => ⟨by assumption, h⟩, fun h => h.2⟩)
  replace hbase := hbase.chg ch1 (not_no _)
  replace hbase := hbase.chg hc5 (not_no _)
  exact ⟨(congrArg (a₁ := decide ((gI ps 0) = (gI ps ((List.length ps : Int) - 1)))) (fun (z0 : Bool) => Ending.returned (Value.bool z0)) e0), hbase.below⟩
 refine q_skip (want_n rfl rfl rfl (decide_eq_false q6)) ?_
 refine q_skip (want_n rfl rfl rfl (decide_eq_false q6)) ?_
 refine q_skip (want_n rfl rfl rfl (decide_eq_false q6)) ?_
 refine q_skip (want_n rfl rfl rfl (decide_eq_false q6)) ?_
 refine q_skip (want_n rfl rfl rfl (decide_eq_false q6)) ?_
 refine q_skip (want_n rfl rfl rfl (decide_eq_false q6)) ?_
 refine q_skip (want_n rfl rfl rfl (decide_eq_false q6)) ?_
 refine q_skip (want_n rfl rfl rfl (decide_eq_false q6)) ?_
 refine q_skip (want_n rfl rfl rfl (decide_eq_false q6)) ?_
 refine q_skip (want_n rfl rfl rfl (decide_eq_false q6)) ?_
 refine q_val (v := Value.bool false) rfl (fun w' hw' => e_pick_f rfl (decide_eq_false q6) rfl) ?_
 refine q_val (v := Value.bool false) rfl (fun w' hw' => e_assign rfl) ?_
 refine q_nil ?_
 intro w6 hc7
 replace hc7 := chg_below hc7 c0
 refine run_ret (vs := [Value.bool false]) Try.func50 (.tmp rfl .nil) ?_
 -- return 1
 have e0 : (false : Bool) = (decide (closedP ps)) := by
   first
     | exact (decide_eq_false (fun h => absurd h.1 (by assumption))).symm
     | (rw [decide_eq_decide]; exact ⟨fun h => ⟨by assumption, h⟩, fun h => h.2⟩)
 replace hbase := hbase.chg ch1 (not_no _)
 replace hbase := hbase.chg hc7 (not_no _)
 exact ⟨(congrArg (a₁ := false) (fun (z0 : Bool) => Ending.returned (Value.bool z0)) e0), hbase.below⟩

set_option maxHeartbeats 2000000 in
theorem Simple_ok (w0 : World) (ps : List ((Int) × (Int))) (ps_v : Value) (hps_v : Ro w0 ps_v ps) (hlen : (ps.length : Int) ≤ 1000000) :
    Calls Try.prog 29 #[ps_v] w0 (fun ee w => ee = .returned (Value.tuple (List.toArray [Value.bool ((simR ps).1), Value.int .i64 ((simR ps).2)])) ∧ Bel w0.heap.size w0 w) := by
 refine calls_of_run Try.func29 rfl (Nat.le_of_ble_eq_true rfl) ?_
 have hbase := Base.start w0
 have r_ps_v := hps_v.sl
 refine run_seq (run_region rfl ?_)
 refine l_val (v := Value.bool false) rfl (e_assign rfl) ?_
 refine l_val (v := Value.int .i64 0) rfl (e_assign rfl) ?_
 refine l_nil (run_seq (run_seq (run_region rfl ?_)))
 refine l_val (v := ps_v) rfl (e_move rfl) ?_
 have len1 := (r_ps_v).small
 refine l_val (v := Value.int .i64 (List.length ps : Int)) rfl (e_len Try.underlying25 rfl r_ps_v) ?_
 refine l_val (v := Value.bool (decide ((List.length ps : Int) = 0))) rfl (e_eql (m := (List.length ps : Int)) (n := 0) rfl rfl) ?_
 refine l_val (v := Value.bool (decide ((List.length ps : Int) = 0))) rfl (e_move rfl) ?_
 by_cases q12 : (List.length ps : Int) = 0
 ·
  refine l_skip (want_n rfl rfl rfl (decide_eq_true q12)) ?_
  refine l_skip (want_n rfl rfl rfl (decide_eq_true q12)) ?_
  refine l_skip (want_n rfl rfl rfl (decide_eq_true q12)) ?_
  refine l_val (v := Value.bool true) rfl (e_pick_t rfl (decide_eq_true q12) rfl) ?_
  refine l_nil ?_
  refine run_cond_t rfl rfl ?_
  refine run_seq (run_region rfl ?_)
  refine l_val (v := Value.bool false) rfl (e_assign rfl) ?_
  refine l_val (v := Value.int .i64 1) rfl (e_assign rfl) ?_
  refine l_nil ?_
  refine run_ret (vs := [Value.bool false, Value.int .i64 1]) Try.func29 (.tmp rfl (.tmp rfl .nil)) ?_
  -- return 0
  have e0 : (false : Bool) = ((simR ps).1) := by
    first
      | (rw [simR_err (.inl (by assumption))]; done)
      | (rw [simR_err (.inr (fun h => p1 (decide_eq_true h)))]; done)
      | (rw [simR_ok (by assumption) hok]; done)
      | (rw [simR_ok (by assumption) hok]; exact sim_eq (by assumption) (by assumption))
      | (rw [simR_ok (by assumption) hok]; exact sim_bad (k := k) (by assumption) (by assumption) hk.2 (by first | exact bad3 (by first | exact join1 (by assumption) | exact join2 (by assumption) (by assumption) (by assumption)) (by assumption) | exact bad0 (by first | exact nojoin0 (by assumption) (by assumption) | exact nojoin1 (by assumption) (by assumption) | exact nojoin2 (by assumption) (by assumption)) (by assumption)))
      | (rw [simR_ok (by assumption) hok]; exact sim_yes hinv (by assumption))
  have e1 : (1 : Int) = ((simR ps).2) := by
    first
      | (rw [simR_err (.inl (by assumption))]; done)
      | (rw [simR_err (.inr (fun h => p1 (decide_eq_true h)))]; done)
      | (rw [simR_ok (by assumption) hok]; done)
      | (rw [simR_ok (by assumption) hok]; exact sim_eq (by assumption) (by assumption))
      | (rw [simR_ok (by assumption) hok]; exact sim_bad (k := k) (by assumption) (by assumption) hk.2 (by first | exact bad3 (by first | exact join1 (by assumption) | exact join2 (by assumption) (by assumption) (by assumption)) (by assumption) | exact bad0 (by first | exact nojoin0 (by assumption) (by assumption) | exact nojoin1 (by assumption) (by assumption) | exact nojoin2 (by assumption) (by assumption)) (by assumption)))
      | (rw [simR_ok (by assumption) hok]; exact sim_yes hinv (by assumption))
  exact ⟨(congr2 (a := false) (b := 1) (fun (z0 : Bool) (z1 : Int) => Ending.returned (Value.tuple (List.toArray [Value.bool z0, Value.int .i64 z1]))) e0 e1), hbase.below⟩
 refine l_val (v := ps_v) (want_y rfl rfl rfl (decide_eq_false q12)) (e_move rfl) ?_
 refine l_op (want_y rfl rfl rfl (decide_eq_false q12)) ?_
 refine o_call (v := Value.bool (decide (okL ps))) (e_call (vals := [ps_v]) Try.func25 bd25_gr nm25_gr rfl) (GMay_ok w0 ps ps_v (r_ps_v).ro) ?_
 intro w2 hb3
 replace hb3 := chg_below hb3 c0
 refine l_val (v := Value.bool (!(decide (okL ps)))) (want_y rfl rfl rfl (decide_eq_false q12)) (e_not (b := (decide (okL ps))) rfl) ?_
 refine l_val (v := Value.bool (!(decide (okL ps)))) rfl (e_pick_f rfl (decide_eq_false q12) rfl) ?_
 refine l_nil ?_
 by_cases p1 : (decide (okL ps)) = true
 ·
  have hok := of_decide_eq_true p1
  obtain ⟨hl1, hl2⟩ := of_decide_eq_true p1
  refine run_cond_f rfl (congrArg Bool.not p1) ?_
  refine run_skip ?_
  refine run_seq (run_region rfl ?_)
  refine l_val (v := ps_v) rfl (e_move rfl) ?_
  replace r_ps_v := r_ps_v.chg hb3 (not_no _)
  refine l_val (v := Value.int .i64 (List.length ps : Int)) rfl (e_len Try.underlying25 rfl r_ps_v) ?_
  refine l_val (v := Value.int .i64 ((List.length ps : Int) - 2)) rfl (e_sub (m := (List.length ps : Int)) (n := 2) rfl rfl (by omega)) ?_
  refine l_val (v := Value.int .i64 ((List.length ps : Int) - 2)) rfl (e_assign rfl) ?_
  refine l_nil (run_seq (run_seq (run_region rfl ?_)))
  refine l_val (v := Value.int .i64 0) rfl (e_assign rfl) ?_
  refine l_nil ?_
  refine run_block ?_
  refine run_loop (σ := Nat × Cmap) (fun ⟨i, gq⟩ f w => Base w0 gq w ∧ f 0 = ps_v ∧ f 4 = Value.int .i64 ((List.length ps : Int) - 2) ∧ f 5 = Value.int .i64 (i : Int) ∧ Sl gq (is 0) w ps_v ps ∧ (∀ j : Nat, j < i → simI ps j)) (fun ⟨i, gq⟩ => List.length ps - i) (0, c0) ?_ ?_
  replace hbase := hbase.chg hb3 (not_no _)
  · exact ⟨hbase, rfl, rfl, rfl, r_ps_v, by intro j hj; omega⟩
  clear r_ps_v
  clear hbase
  rintro ⟨i, g6⟩ f4 w5 ⟨hbase, zs0, zs4, zs5, r_ps_v, hinv⟩ back5
  refine run_seq (run_seq (run_region rfl ?_))
  refine l_val (v := Value.int .i64 (i : Int)) rfl (e_move (by exact zs5)) ?_
  refine l_val (v := Value.int .i64 ((List.length ps : Int) - 2)) rfl (e_move (by exact zs4)) ?_
  refine l_val (v := Value.bool (decide ((i : Int) ≤ ((List.length ps : Int) - 2)))) rfl (e_leq (m := (i : Int)) (n := (List.length ps : Int) - 2) rfl rfl) ?_
  refine l_nil ?_
  by_cases p5 : (i : Int) ≤ ((List.length ps : Int) - 2)
  ·
   refine run_cond_t rfl (decide_eq_true p5) ?_
   refine run_skip ?_
   refine run_seq ?_
   refine run_block ?_
   refine run_seq (run_seq ?_)
   refine region_q g6 rfl mixed_gr (by kernel_rfl) ?_
   intro w8 ch7
   refine q_val (v := ps_v) rfl (fun w' hw' => e_move (by exact zs0)) ?_
   refine q_val (v := Value.int .i64 (i : Int)) rfl (fun w' hw' => e_move (by exact zs5)) ?_
   replace r_ps_v := r_ps_v.chg ch7 (not_no _)
   refine q_val (v := Value.pointer (some (eAddr ps_v 2 (Int.toNat (i : Int))))) rfl (fun w' hw' => e_indexAddr (α := (Int) × (Int)) (xs := ps) (v := ps_v) (i := (i : Int)) Try.underlying25 rfl rfl (r_ps_v.bel hw') rfl (by omega) (by omega)) ?_
   refine q_val (v := Value.agg (List.toArray [Value.int .i64 ((gI ps (i : Int)).1), Value.int .i64 ((gI ps (i : Int)).2)])) rfl (fun w' hw' => e_load_elN (α := (Int) × (Int)) (xs := ps) (v := ps_v) (i := (i : Int)) tp23_gr rfl (r_ps_v.bel hw') (by omega) (by omega) rfl) ?_
   refine q_val (v := ps_v) rfl (fun w' hw' => e_move (by exact zs0)) ?_
   refine q_val (v := Value.int .i64 (i : Int)) rfl (fun w' hw' => e_move (by exact zs5)) ?_
   refine q_val (v := Value.int .i64 ((i : Int) + 1)) rfl (fun w' hw' => e_add (m := (i : Int)) (n := 1) rfl rfl (by omega)) ?_
   refine q_val (v := Value.pointer (some (eAddr ps_v 2 (Int.toNat ((i : Int) + 1))))) rfl (fun w' hw' => e_indexAddr (α := (Int) × (Int)) (xs := ps) (v := ps_v) (i := (i : Int) + 1) Try.underlying25 rfl rfl (r_ps_v.bel hw') rfl (by omega) (by omega)) ?_
   refine q_val (v := Value.agg (List.toArray [Value.int .i64 ((gI ps ((i : Int) + 1)).1), Value.int .i64 ((gI ps ((i : Int) + 1)).2)])) rfl (fun w' hw' => e_load_elN (α := (Int) × (Int)) (xs := ps) (v := ps_v) (i := (i : Int) + 1) tp23_gr rfl (r_ps_v.bel hw') (by omega) (by omega) rfl) ?_
   refine q_val (v := Value.bool (decide ((gI ps (i : Int)) = (gI ps ((i : Int) + 1))))) rfl (fun w' hw' => e_eql_struct (bs := [decide (((gI ps (i : Int)).1) = ((gI ps ((i : Int) + 1)).1)), decide (((gI ps (i : Int)).2) = ((gI ps ((i : Int) + 1)).2))]) Try.underlying23 (by kernel_rfl) (by kernel_rfl) rfl rfl (.cons (by decide +kernel) tp3_gr rfl rfl (.int Try.underlying3) (.cons (by decide +kernel) tp3_gr rfl rfl (.int Try.underlying3) .nil)) (by simp [Prod.ext_iff, Bool.decide_and, Bool.and_assoc])) ?_
   refine q_nil ?_
   intro w9 hc10
   replace hc10 := chg_below hc10 g6
   by_cases p7 : (gI ps (i : Int)) = (gI ps ((i : Int) + 1))
   ·
    refine run_cond_t rfl (decide_eq_true p7) ?_
    refine run_seq (run_region rfl ?_)
    refine l_val (v := Value.bool false) rfl (e_assign rfl) ?_
    refine l_val (v := Value.int .i64 0) rfl (e_assign rfl) ?_
    refine l_nil ?_
    refine run_ret (vs := [Value.bool false, Value.int .i64 0]) Try.func29 (.tmp rfl (.tmp rfl .nil)) ?_
    -- return 1
    have e0 : (false : Bool) = ((simR ps).1) := by
      first
        | (rw [simR_err (.inl (by assumption))]; done)
        | (rw [simR_err (.inr (fun h => p1 (decide_eq_true h)))]; done)
        | (rw [simR_ok (by assumption) hok]; done)
        | (rw [simR_ok (by assumption) hok]; exact sim_eq (by assumption) (by assumption))
        | (rw [simR_ok (by assumption) hok]; exact sim_bad (k := k) (by assumption) (by assumption) hk.2 (by first | exact bad3 (by first | exact join1 (by assumption) | exact join2 (by assumption) (by assumption) (by assumption)) (by assumption) | exact bad0 (by first | exact nojoin0 (by assumption) (by assumption) | exact nojoin1 (by assumption) (by assumption) | exact nojoin2 (by assumption) (by assumption)) (by assumption)))
        | (rw [simR_ok (by assumption) hok]; exact sim_yes hinv (by assumption))
    have e1 : (0 : Int) = ((simR ps).2) := by
      first
        | (rw [simR_err (.inl (by assumption))]; done)
        | (rw [simR_err (.inr (fun h => p1 (decide_eq_true h)))]; done)
        | (rw [simR_ok (by assumption) hok]; done)
        | (rw [simR_ok (by assumption) hok]; exact sim_eq (by assumption) (by assumption))
        | (rw [simR_ok (by assumption) hok]; exact sim_bad (k := k) (by assumption) (by assumption) hk.2 (by first | exact bad3 (by first | exact join1 (by assumption) | exact join2 (by assumption) (by assumption) (by assumption)) (by assumption) | exact bad0 (by first | exact nojoin0 (by assumption) (by assumption) | exact nojoin1 (by assumption) (by assumption) | exact nojoin2 (by assumption) (by assumption)) (by assumption)))
        | (rw [simR_ok (by assumption) hok]; exact sim_yes hinv (by assumption))
    replace hbase := hbase.chg ch7 (not_no _)
    replace hbase := hbase.chg hc10 (not_no _)
    exact ⟨(congr2 (a := false) (b := 0) (fun (z0 : Bool) (z1 : Int) => Ending.returned (Value.tuple (List.toArray [Value.bool z0, Value.int .i64 z1]))) e0 e1), hbase.below⟩
   refine run_cond_f rfl (decide_eq_false p7) ?_
   refine run_skip ?_
   refine run_seq (run_region rfl ?_)
   refine l_val (v := Value.int .i64 (i : Int)) rfl (e_move (by exact zs5)) ?_
   refine l_val (v := Value.int .i64 ((i : Int) + 1)) rfl (e_add (m := (i : Int)) (n := 1) rfl rfl (by omega)) ?_
   refine l_val (v := Value.int .i64 ((i : Int) + 1)) rfl (e_assign rfl) ?_
   refine l_nil ?_
   refine run_block ?_
   refine run_loop (σ := Nat × Cmap) (fun ⟨k, gq⟩ f w => Base w0 gq w ∧ f 0 = ps_v ∧ f 4 = Value.int .i64 ((List.length ps : Int) - 2) ∧ f 5 = Value.int .i64 (i : Int) ∧ f 6 = Value.int .i64 (k : Int) ∧ Sl gq (is 0) w ps_v ps ∧ ((∀ j : Nat, i < j → j < k → ¬ badP ps i j) ∧ i < k)) (fun ⟨k, gq⟩ => List.length ps - k) (i + 1, g6) ?_ ?_
   replace hbase := hbase.chg ch7 (not_no _)
   replace hbase := hbase.chg hc10 (not_no _)
   replace r_ps_v := r_ps_v.chg hc10 (not_no _)
   · exact ⟨hbase, (by exact zs0), (by exact zs4), (by exact zs5), rfl, r_ps_v, by exact ⟨fun j h1 h2 => by omega, by omega⟩⟩
   clear r_ps_v
   clear hbase
   rintro ⟨k, g13⟩ f11 w12 ⟨hbase, zs0, zs4, zs5, zs6, r_ps_v, hk⟩ back10
   refine run_seq (run_seq (run_region rfl ?_))
   refine l_val (v := Value.int .i64 (k : Int)) rfl (e_move (by exact zs6)) ?_
   refine l_val (v := Value.int .i64 ((List.length ps : Int) - 2)) rfl (e_move (by exact zs4)) ?_
   refine l_val (v := Value.bool (decide ((k : Int) ≤ ((List.length ps : Int) - 2)))) rfl (e_leq (m := (k : Int)) (n := (List.length ps : Int) - 2) rfl rfl) ?_
   refine l_nil ?_
   by_cases p10 : (k : Int) ≤ ((List.length ps : Int) - 2)
   ·
    refine run_cond_t rfl (decide_eq_true p10) ?_
    have hb1 := (hl2 _ (gI_mem (xs := ps) (i := (i : Int)) (by omega) (by omega))).bd
    have hb2 := (hl2 _ (gI_mem (xs := ps) (i := (i : Int) + 1) (by omega) (by omega))).bd
    have hb3 := (hl2 _ (gI_mem (xs := ps) (i := (k : Int)) (by omega) (by omega))).bd
    have hb4 := (hl2 _ (gI_mem (xs := ps) (i := (k : Int) + 1) (by omega) (by omega))).bd
    refine run_skip ?_
    refine run_seq ?_
    refine run_block ?_
    refine run_seq ?_
    refine region_q g13 rfl mixed_gr (by kernel_rfl) ?_
    intro w15 ch14
    refine q_val (v := ps_v) rfl (fun w' hw' => e_move (by exact zs0)) ?_
    refine q_val (v := Value.int .i64 (i : Int)) rfl (fun w' hw' => e_move (by exact zs5)) ?_
    replace r_ps_v := r_ps_v.chg ch14 (not_no _)
    refine q_val (v := Value.pointer (some (eAddr ps_v 2 (Int.toNat (i : Int))))) rfl (fun w' hw' => e_indexAddr (α := (Int) × (Int)) (xs := ps) (v := ps_v) (i := (i : Int)) Try.underlying25 rfl rfl (r_ps_v.bel hw') rfl (by omega) (by omega)) ?_
    refine q_val (v := Value.agg (List.toArray [Value.int .i64 ((gI ps (i : Int)).1), Value.int .i64 ((gI ps (i : Int)).2)])) rfl (fun w' hw' => e_load_elN (α := (Int) × (Int)) (xs := ps) (v := ps_v) (i := (i : Int)) tp23_gr rfl (r_ps_v.bel hw') (by omega) (by omega) rfl) ?_
    refine q_val (v := ps_v) rfl (fun w' hw' => e_move (by exact zs0)) ?_
    refine q_val (v := Value.int .i64 (i : Int)) rfl (fun w' hw' => e_move (by exact zs5)) ?_
    refine q_val (v := Value.int .i64 ((i : Int) + 1)) rfl (fun w' hw' => e_add (m := (i : Int)) (n := 1) rfl rfl (by omega)) ?_
    refine q_val (v := Value.pointer (some (eAddr ps_v 2 (Int.toNat ((i : Int) + 1))))) rfl (fun w' hw' => e_indexAddr (α := (Int) × (Int)) (xs := ps) (v := ps_v) (i := (i : Int) + 1) Try.underlying25 rfl rfl (r_ps_v.bel hw') rfl (by omega) (by omega)) ?_
    refine q_val (v := Value.agg (List.toArray [Value.int .i64 ((gI ps ((i : Int) + 1)).1), Value.int .i64 ((gI ps ((i : Int) + 1)).2)])) rfl (fun w' hw' => e_load_elN (α := (Int) × (Int)) (xs := ps) (v := ps_v) (i := (i : Int) + 1) tp23_gr rfl (r_ps_v.bel hw') (by omega) (by omega) rfl) ?_
    refine q_val (v := ps_v) rfl (fun w' hw' => e_move (by exact zs0)) ?_
    refine q_val (v := Value.int .i64 (k : Int)) rfl (fun w' hw' => e_move (by exact zs6)) ?_
    refine q_val (v := Value.pointer (some (eAddr ps_v 2 (Int.toNat (k : Int))))) rfl (fun w' hw' => e_indexAddr (α := (Int) × (Int)) (xs := ps) (v := ps_v) (i := (k : Int)) Try.underlying25 rfl rfl (r_ps_v.bel hw') rfl (by omega) (by omega)) ?_
    refine q_val (v := Value.agg (List.toArray [Value.int .i64 ((gI ps (k : Int)).1), Value.int .i64 ((gI ps (k : Int)).2)])) rfl (fun w' hw' => e_load_elN (α := (Int) × (Int)) (xs := ps) (v := ps_v) (i := (k : Int)) tp23_gr rfl (r_ps_v.bel hw') (by omega) (by omega) rfl) ?_
    refine q_val (v := ps_v) rfl (fun w' hw' => e_move (by exact zs0)) ?_
    refine q_val (v := Value.int .i64 (k : Int)) rfl (fun w' hw' => e_move (by exact zs6)) ?_
    refine q_val (v := Value.int .i64 ((k : Int) + 1)) rfl (fun w' hw' => e_add (m := (k : Int)) (n := 1) rfl rfl (by omega)) ?_
    refine q_val (v := Value.pointer (some (eAddr ps_v 2 (Int.toNat ((k : Int) + 1))))) rfl (fun w' hw' => e_indexAddr (α := (Int) × (Int)) (xs := ps) (v := ps_v) (i := (k : Int) + 1) Try.underlying25 rfl rfl (r_ps_v.bel hw') rfl (by omega) (by omega)) ?_
    refine q_val (v := Value.agg (List.toArray [Value.int .i64 ((gI ps ((k : Int) + 1)).1), Value.int .i64 ((gI ps ((k : Int) + 1)).2)])) rfl (fun w' hw' => e_load_elN (α := (Int) × (Int)) (xs := ps) (v := ps_v) (i := (k : Int) + 1) tp23_gr rfl (r_ps_v.bel hw') (by omega) (by omega) rfl) ?_
    refine q_call (v := Value.int .i64 (meetP (gI ps (i : Int)) (gI ps ((i : Int) + 1)) (gI ps (k : Int)) (gI ps ((k : Int) + 1)))) rfl (fun w' hw' => e_call (vals := [Value.agg (List.toArray [Value.int .i64 ((gI ps (i : Int)).1), Value.int .i64 ((gI ps (i : Int)).2)]), Value.agg (List.toArray [Value.int .i64 ((gI ps ((i : Int) + 1)).1), Value.int .i64 ((gI ps ((i : Int) + 1)).2)]), Value.agg (List.toArray [Value.int .i64 ((gI ps (k : Int)).1), Value.int .i64 ((gI ps (k : Int)).2)]), Value.agg (List.toArray [Value.int .i64 ((gI ps ((k : Int) + 1)).1), Value.int .i64 ((gI ps ((k : Int) + 1)).2)])]) Try.func36 bd36_gr nm36_gr rfl) (fun w' hw' => (meet_ok w' (gI ps (i : Int)) (gI ps ((i : Int) + 1)) (gI ps (k : Int)) (gI ps ((k : Int) + 1)) (by assumption) (by assumption) (by assumption) (by assumption)).mono fun e w2 h2 => ⟨h2.1, hw'.trans (h2.2.mono hw'.size)⟩) ?_
    refine q_val (v := Value.int .i64 (meetP (gI ps (i : Int)) (gI ps ((i : Int) + 1)) (gI ps (k : Int)) (gI ps ((k : Int) + 1)))) rfl (fun w' hw' => e_assign rfl) ?_
    refine q_nil ?_
    intro w16 hc17
    replace hc17 := chg_below hc17 g13
    refine run_seq (run_region rfl ?_)
    refine l_val (v := Value.int .i64 (k : Int)) rfl (e_move (by exact zs6)) ?_
    refine l_val (v := Value.int .i64 (i : Int)) rfl (e_move (by exact zs5)) ?_
    refine l_val (v := Value.int .i64 ((i : Int) + 1)) rfl (e_add (m := (i : Int)) (n := 1) rfl rfl (by omega)) ?_
    refine l_val (v := Value.bool (decide ((k : Int) = ((i : Int) + 1)))) rfl (e_eql (m := (k : Int)) (n := (i : Int) + 1) rfl rfl) ?_
    refine l_val (v := Value.bool (decide ((k : Int) = ((i : Int) + 1)))) rfl (e_move rfl) ?_
    by_cases q65 : (k : Int) = ((i : Int) + 1)
    ·
     refine l_skip (want_n rfl rfl rfl (decide_eq_true q65)) ?_
     refine l_skip (want_n rfl rfl rfl (decide_eq_true q65)) ?_
     refine l_skip (want_n rfl rfl rfl (decide_eq_true q65)) ?_
     refine l_skip (want_u rfl rfl rfl) ?_
     refine l_skip (want_u rfl rfl rfl) ?_
     refine l_skip (want_u rfl rfl rfl) ?_
     refine l_skip (want_n rfl rfl rfl (decide_eq_true q65)) ?_
     refine l_skip (want_n rfl rfl rfl (decide_eq_true q65)) ?_
     refine l_skip (want_u rfl rfl rfl) ?_
     refine l_skip (want_u rfl rfl rfl) ?_
     refine l_skip (want_n rfl rfl rfl (decide_eq_true q65)) ?_
     refine l_val (v := Value.bool true) rfl (e_pick_t rfl (decide_eq_true q65) rfl) ?_
     refine l_val (v := Value.bool true) rfl (e_assign rfl) ?_
     refine l_nil (run_seq (run_region rfl ?_))
     refine l_val (v := Value.bool true) rfl (e_move rfl) ?_
     refine l_val (v := Value.bool true) rfl (e_move rfl) ?_
     refine l_val (v := Value.int .i64 (meetP (gI ps (i : Int)) (gI ps ((i : Int) + 1)) (gI ps (k : Int)) (gI ps ((k : Int) + 1)))) (want_y rfl rfl rfl rfl) (e_move rfl) ?_
     refine l_val (v := Value.bool (decide ((meetP (gI ps (i : Int)) (gI ps ((i : Int) + 1)) (gI ps (k : Int)) (gI ps ((k : Int) + 1))) = 3))) (want_y rfl rfl rfl rfl) (e_eql (m := meetP (gI ps (i : Int)) (gI ps ((i : Int) + 1)) (gI ps (k : Int)) (gI ps ((k : Int) + 1))) (n := 3) rfl rfl) ?_
     refine l_val (v := Value.bool (decide ((meetP (gI ps (i : Int)) (gI ps ((i : Int) + 1)) (gI ps (k : Int)) (gI ps ((k : Int) + 1))) = 3))) rfl (e_pick_t rfl rfl rfl) ?_
     refine l_val (v := Value.bool (decide ((meetP (gI ps (i : Int)) (gI ps ((i : Int) + 1)) (gI ps (k : Int)) (gI ps ((k : Int) + 1))) = 3))) rfl (e_move rfl) ?_
     by_cases q83 : (meetP (gI ps (i : Int)) (gI ps ((i : Int) + 1)) (gI ps (k : Int)) (gI ps ((k : Int) + 1))) = 3
     ·
      refine l_skip (want_n rfl rfl rfl (decide_eq_true q83)) ?_
      refine l_skip (want_n rfl rfl rfl (decide_eq_true q83)) ?_
      refine l_skip (want_n rfl rfl rfl (decide_eq_true q83)) ?_
      refine l_skip (want_u rfl rfl rfl) ?_
      refine l_skip (want_u rfl rfl rfl) ?_
      refine l_skip (want_n rfl rfl rfl (decide_eq_true q83)) ?_
      refine l_val (v := Value.bool true) rfl (e_pick_t rfl (decide_eq_true q83) rfl) ?_
      refine l_nil ?_
      refine run_cond_t rfl rfl ?_
      refine run_seq (run_region rfl ?_)
      refine l_val (v := Value.bool false) rfl (e_assign rfl) ?_
      refine l_val (v := Value.int .i64 0) rfl (e_assign rfl) ?_
      refine l_nil ?_
      refine run_ret (vs := [Value.bool false, Value.int .i64 0]) Try.func29 (.tmp rfl (.tmp rfl .nil)) ?_
      -- return 2
      have e0 : (false : Bool) = ((simR ps).1) := by
        first
          | (rw [simR_err (.inl (by assumption))]; done)
          | (rw [simR_err (.inr (fun h => p1 (decide_eq_true h)))]; done)
          | (rw [simR_ok (by assumption) hok]; done)
          | (rw [simR_ok (by assumption) hok]; exact sim_eq (by assumption) (by assumption))
          | (rw [simR_ok (by assumption) hok]; exact sim_bad (k := k) (by assumption) (by assumption) hk.2 (by first | exact bad3 (by first | exact join1 (by assumption) | exact join2 (by assumption) (by assumption) (by assumption)) (by assumption) | exact bad0 (by first | exact nojoin0 (by assumption) (by assumption) | exact nojoin1 (by assumption) (by assumption) | exact nojoin2 (by assumption) (by assumption)) (by assumption)))
          | (rw [simR_ok (by assumption) hok]; exact sim_yes hinv (by assumption))
      have e1 : (0 : Int) = ((simR ps).2) := by
        first
          | (rw [simR_err (.inl (by assumption))]; done)
          | (rw [simR_err (.inr (fun h => p1 (decide_eq_true h)))]; done)
          | (rw [simR_ok (by assumption) hok]; done)
          | (rw [simR_ok (by assumption) hok]; exact sim_eq (by assumption) (by assumption))
          | (rw [simR_ok (by assumption) hok]; exact sim_bad (k := k) (by assumption) (by assumption) hk.2 (by first | exact bad3 (by first | exact join1 (by assumption) | exact join2 (by assumption) (by assumption) (by assumption)) (by assumption) | exact bad0 (by first | exact nojoin0 (by assumption) (by assumption) | exact nojoin1 (by assumption) (by assumption) | exact nojoin2 (by assumption) (by assumption)) (by assumption)))
          | (rw [simR_ok (by assumption) hok]; exact sim_yes hinv (by assumption))
      replace hbase := hbase.chg ch14 (not_no _)
      replace hbase := hbase.chg hc17 (not_no _)
      exact ⟨(congr2 (a := false) (b := 0) (fun (z0 : Bool) (z1 : Int) => Ending.returned (Value.tuple (List.toArray [Value.bool z0, Value.int .i64 z1]))) e0 e1), hbase.below⟩
     refine l_val (v := Value.bool true) (want_y rfl rfl rfl (decide_eq_false q83)) (e_move rfl) ?_
     refine l_val (v := Value.bool false) (want_y rfl rfl rfl (decide_eq_false q83)) (e_not (b := true) rfl) ?_
     refine l_val (v := Value.bool false) (want_y rfl rfl rfl (decide_eq_false q83)) (e_move rfl) ?_
     refine l_skip (want_n rfl rfl rfl rfl) (l_skip (want_n rfl rfl rfl rfl) ?_)
     refine l_val (v := Value.bool false) (want_y rfl rfl rfl (decide_eq_false q83)) (e_pick_f rfl rfl rfl) ?_
     refine l_val (v := Value.bool false) rfl (e_pick_f rfl (decide_eq_false q83) rfl) ?_
     refine l_nil ?_
     refine run_cond_f rfl rfl ?_
     refine run_skip ?_
     refine run_inBlock ?_
     refine run_region rfl ?_
     refine l_val (v := Value.int .i64 (k : Int)) rfl (e_move (by exact zs6)) ?_
     refine l_val (v := Value.int .i64 ((k : Int) + 1)) rfl (e_add (m := (k : Int)) (n := 1) rfl rfl (by omega)) ?_
     refine l_val (v := Value.int .i64 ((k : Int) + 1)) rfl (e_assign rfl) ?_
     refine l_nil ?_
     replace hbase := hbase.chg ch14 (not_no _)
     replace hbase := hbase.chg hc17 (not_no _)
     replace r_ps_v := r_ps_v.chg hc17 (not_no _)
     refine back10 (k + 1, g13) _ _ ⟨hbase, (by exact zs0), (by exact zs4), (by exact zs5), rfl, r_ps_v, ?_⟩ ?_
     · show (∀ j : Nat, i < j → j < (k + 1) → ¬ badP ps i j) ∧ i < (k + 1)
       refine ⟨fun j h1 h2 => ?_, by omega⟩
       by_cases e0 : j = k
       · subst e0
         first
           | exact good3 (by first | exact join1 (by assumption) | exact join2 (by assumption) (by assumption) (by assumption)) (by assumption)
           | exact good0 (by first | exact nojoin0 (by assumption) (by assumption) | exact nojoin1 (by assumption) (by assumption) | exact nojoin2 (by assumption) (by assumption)) (by assumption)
       · exact hk.1 j h1 (by omega)
     · show List.length ps - (k + 1) < List.length ps - k
       omega
    refine l_val (v := Value.int .i64 (i : Int)) (want_y rfl rfl rfl (decide_eq_false q65)) (e_move (by exact zs5)) ?_
    refine l_val (v := Value.bool (decide ((i : Int) = 0))) (want_y rfl rfl rfl (decide_eq_false q65)) (e_eql (m := (i : Int)) (n := 0) rfl rfl) ?_
    refine l_val (v := Value.bool (decide ((i : Int) = 0))) (want_y rfl rfl rfl (decide_eq_false q65)) (e_move rfl) ?_
    by_cases q68 : (i : Int) = 0
    ·
     refine l_val (v := Value.int .i64 (k : Int)) (want_y rfl rfl rfl (decide_eq_true q68)) (e_move (by exact zs6)) ?_
     refine l_val (v := Value.int .i64 ((List.length ps : Int) - 2)) (want_y rfl rfl rfl (decide_eq_true q68)) (e_move (by exact zs4)) ?_
     refine l_val (v := Value.bool (decide ((k : Int) = ((List.length ps : Int) - 2)))) (want_y rfl rfl rfl (decide_eq_true q68)) (e_eql (m := (k : Int)) (n := (List.length ps : Int) - 2) rfl rfl) ?_
     refine l_val (v := Value.bool (decide ((k : Int) = ((List.length ps : Int) - 2)))) (want_y rfl rfl rfl (decide_eq_false q65)) (e_pick_t rfl (decide_eq_true q68) rfl) ?_
     refine l_val (v := Value.bool (decide ((k : Int) = ((List.length ps : Int) - 2)))) (want_y rfl rfl rfl (decide_eq_false q65)) (e_move rfl) ?_
     by_cases q73 : (k : Int) = ((List.length ps : Int) - 2)
     ·
      refine l_val (v := ps_v) (want_y rfl rfl rfl (decide_eq_true q73)) (e_move (by exact zs0)) ?_
      replace r_ps_v := r_ps_v.chg hc17 (not_no _)
      refine l_op (want_y rfl rfl rfl (decide_eq_true q73)) ?_
      refine o_call (v := Value.bool (decide (closedP ps))) (e_call (vals := [ps_v]) Try.func50 bd50_gr nm50_gr rfl) (closed_ok w16 ps ps_v (r_ps_v).ro) ?_
      intro w18 hb19
      replace hb19 := chg_below hb19 g13
      refine l_val (v := Value.bool (decide (closedP ps))) (want_y rfl rfl rfl (decide_eq_false q65)) (e_pick_t rfl (decide_eq_true q73) rfl) ?_
      refine l_val (v := Value.bool (decide (closedP ps))) rfl (e_pick_f rfl (decide_eq_false q65) rfl) ?_
      refine l_val (v := Value.bool (decide (closedP ps))) rfl (e_assign rfl) ?_
      refine l_nil (run_seq (run_region rfl ?_))
      refine l_val (v := Value.bool (decide (closedP ps))) rfl (e_move rfl) ?_
      refine l_val (v := Value.bool (decide (closedP ps))) rfl (e_move rfl) ?_
      by_cases q79 : (decide (closedP ps)) = true
      ·
       refine l_val (v := Value.int .i64 (meetP (gI ps (i : Int)) (gI ps ((i : Int) + 1)) (gI ps (k : Int)) (gI ps ((k : Int) + 1)))) (want_y rfl rfl rfl q79) (e_move rfl) ?_
       refine l_val (v := Value.bool (decide ((meetP (gI ps (i : Int)) (gI ps ((i : Int) + 1)) (gI ps (k : Int)) (gI ps ((k : Int) + 1))) = 3))) (want_y rfl rfl rfl q79) (e_eql (m := meetP (gI ps (i : Int)) (gI ps ((i : Int) + 1)) (gI ps (k : Int)) (gI ps ((k : Int) + 1))) (n := 3) rfl rfl) ?_
       refine l_val (v := Value.bool (decide ((meetP (gI ps (i : Int)) (gI ps ((i : Int) + 1)) (gI ps (k : Int)) (gI ps ((k : Int) + 1))) = 3))) rfl (e_pick_t rfl q79 rfl) ?_
       refine l_val (v := Value.bool (decide ((meetP (gI ps (i : Int)) (gI ps ((i : Int) + 1)) (gI ps (k : Int)) (gI ps ((k : Int) + 1))) = 3))) rfl (e_move rfl) ?_
       by_cases q83 : (meetP (gI ps (i : Int)) (gI ps ((i : Int) + 1)) (gI ps (k : Int)) (gI ps ((k : Int) + 1))) = 3
       ·
        refine l_skip (want_n rfl rfl rfl (decide_eq_true q83)) ?_
        refine l_skip (want_n rfl rfl rfl (decide_eq_true q83)) ?_
        refine l_skip (want_n rfl rfl rfl (decide_eq_true q83)) ?_
        refine l_skip (want_u rfl rfl rfl) ?_
        refine l_skip (want_u rfl rfl rfl) ?_
        refine l_skip (want_n rfl rfl rfl (decide_eq_true q83)) ?_
        refine l_val (v := Value.bool true) rfl (e_pick_t rfl (decide_eq_true q83) rfl) ?_
        refine l_nil ?_
        refine run_cond_t rfl rfl ?_
        refine run_seq (run_region rfl ?_)
        refine l_val (v := Value.bool false) rfl (e_assign rfl) ?_
        refine l_val (v := Value.int .i64 0) rfl (e_assign rfl) ?_
        refine l_nil ?_
        refine run_ret (vs := [Value.bool false, Value.int .i64 0]) Try.func29 (.tmp rfl (.tmp rfl .nil)) ?_
        -- return 3
        have e0 : (false : Bool) = ((simR ps).1) := by
          first
            | (rw [simR_err (.inl (by assumption))]; done)
            | (rw [simR_err (.inr (fun h => p1 (decide_eq_true h)))]; done)
            | (rw [simR_ok (by assumption) hok]; done)
            | (rw [simR_ok (by assumption) hok]; exact sim_eq (by assumption) (by assumption))
            | (rw [simR_ok (by assumption) hok]; exact sim_bad (k := k) (by assumption) (by assumption) hk.2 (by first | exact bad3 (by first | exact join1 (by assumption) | exact join2 (by assumption) (by assumption) (by assumption)) (by assumption) | exact bad0 (by first | exact nojoin0 (by assumption) (by assumption) | exact nojoin1 (by assumption) (by assumption) | exact nojoin2 (by assumption) (by assumption)) (by assumption)))
            | (rw [simR_ok (by assumption) hok]; exact sim_yes hinv (by assumption))
        have e1 : (0 : Int) = ((simR ps).2) := by
          first
            | (rw [simR_err (.inl (by assumption))]; done)
            | (rw [simR_err (.inr (fun h => p1 (decide_eq_true h)))]; done)
            | (rw [simR_ok (by assumption) hok]; done)
            | (rw [simR_ok (by assumption) hok]; exact sim_eq (by assumption) (by assumption))
            | (rw [simR_ok (by assumption) hok]; exact sim_bad (k := k) (by assumption) (by assumption) hk.2 (by first | exact bad3 (by first | exact join1 (by assumption) | exact join2 (by assumption) (by assumption) (by assumption)) (by assumption) | exact bad0 (by first | exact nojoin0 (by assumption) (by assumption) | exact nojoin1 (by assumption) (by assumption) | exact nojoin2 (by assumption) (by assumption)) (by assumption)))
            | (rw [simR_ok (by assumption) hok]; exact sim_yes hinv (by assumption))
        have C20 : Chg (inl []) _ _ _ _ := (ch14.n).seq ((hc17.n).seq (hb19.n))
        replace hbase := hbase.chg C20 (is_nl rfl)
        exact ⟨(congr2 (a := false) (b := 0) (fun (z0 : Bool) (z1 : Int) => Ending.returned (Value.tuple (List.toArray [Value.bool z0, Value.int .i64 z1]))) e0 e1), hbase.below⟩
       refine l_val (v := Value.bool (decide (closedP ps))) (want_y rfl rfl rfl (decide_eq_false q83)) (e_move rfl) ?_
       refine l_val (v := Value.bool (!(decide (closedP ps)))) (want_y rfl rfl rfl (decide_eq_false q83)) (e_not (b := (decide (closedP ps))) rfl) ?_
       refine l_val (v := Value.bool (!(decide (closedP ps)))) (want_y rfl rfl rfl (decide_eq_false q83)) (e_move rfl) ?_
       refine l_skip (want_n rfl rfl rfl (congrArg Bool.not q79)) ?_
       refine l_skip (want_n rfl rfl rfl (congrArg Bool.not q79)) ?_
       refine l_val (v := Value.bool false) (want_y rfl rfl rfl (decide_eq_false q83)) (e_pick_f rfl (congrArg Bool.not q79) rfl) ?_
       refine l_val (v := Value.bool false) rfl (e_pick_f rfl (decide_eq_false q83) rfl) ?_
       refine l_nil ?_
       refine run_cond_f rfl rfl ?_
       refine run_skip ?_
       refine run_inBlock ?_
       refine run_region rfl ?_
       refine l_val (v := Value.int .i64 (k : Int)) rfl (e_move (by exact zs6)) ?_
       refine l_val (v := Value.int .i64 ((k : Int) + 1)) rfl (e_add (m := (k : Int)) (n := 1) rfl rfl (by omega)) ?_
       refine l_val (v := Value.int .i64 ((k : Int) + 1)) rfl (e_assign rfl) ?_
       refine l_nil ?_
       have C21 : Chg (inl []) _ _ _ _ := (ch14.n).seq ((hc17.n).seq (hb19.n))
       replace hbase := hbase.chg C21 (is_nl rfl)
       replace r_ps_v := r_ps_v.chg hb19 (not_no _)
       refine back10 (k + 1, g13) _ _ ⟨hbase, (by exact zs0), (by exact zs4), (by exact zs5), rfl, r_ps_v, ?_⟩ ?_
       · show (∀ j : Nat, i < j → j < (k + 1) → ¬ badP ps i j) ∧ i < (k + 1)
         refine ⟨fun j h1 h2 => ?_, by omega⟩
         by_cases e0 : j = k
         · subst e0
           first
             | exact good3 (by first | exact join1 (by assumption) | exact join2 (by assumption) (by assumption) (by assumption)) (by assumption)
             | exact good0 (by first | exact nojoin0 (by assumption) (by assumption) | exact nojoin1 (by assumption) (by assumption) | exact nojoin2 (by assumption) (by assumption)) (by assumption)
         · exact hk.1 j h1 (by omega)
       · show List.length ps - (k + 1) < List.length ps - k
         omega
      refine l_skip (want_n rfl rfl rfl (Bool.eq_false_iff.2 q79)) ?_
      refine l_skip (want_n rfl rfl rfl (Bool.eq_false_iff.2 q79)) ?_
      refine l_val (v := Value.bool false) rfl (e_pick_f rfl (Bool.eq_false_iff.2 q79) rfl) ?_
      refine l_val (v := Value.bool false) rfl (e_move rfl) ?_
      refine l_val (v := Value.bool (decide (closedP ps))) (want_y rfl rfl rfl rfl) (e_move rfl) ?_
      refine l_val (v := Value.bool (!(decide (closedP ps)))) (want_y rfl rfl rfl rfl) (e_not (b := (decide (closedP ps))) rfl) ?_
      refine l_val (v := Value.bool (!(decide (closedP ps)))) (want_y rfl rfl rfl rfl) (e_move rfl) ?_
      refine l_val (v := Value.int .i64 (meetP (gI ps (i : Int)) (gI ps ((i : Int) + 1)) (gI ps (k : Int)) (gI ps ((k : Int) + 1)))) (want_y rfl rfl rfl (congrArg Bool.not (Bool.eq_false_iff.2 q79))) (e_move rfl) ?_
      refine l_val (v := Value.bool (!(decide ((meetP (gI ps (i : Int)) (gI ps ((i : Int) + 1)) (gI ps (k : Int)) (gI ps ((k : Int) + 1))) = 0)))) (want_y rfl rfl rfl (congrArg Bool.not (Bool.eq_false_iff.2 q79))) (e_neq (m := meetP (gI ps (i : Int)) (gI ps ((i : Int) + 1)) (gI ps (k : Int)) (gI ps ((k : Int) + 1))) (n := 0) rfl rfl) ?_
      refine l_val (v := Value.bool (!(decide ((meetP (gI ps (i : Int)) (gI ps ((i : Int) + 1)) (gI ps (k : Int)) (gI ps ((k : Int) + 1))) = 0)))) (want_y rfl rfl rfl rfl) (e_pick_t rfl (congrArg Bool.not (Bool.eq_false_iff.2 q79)) rfl) ?_
      refine l_val (v := Value.bool (!(decide ((meetP (gI ps (i : Int)) (gI ps ((i : Int) + 1)) (gI ps (k : Int)) (gI ps ((k : Int) + 1))) = 0)))) rfl (e_pick_f rfl rfl rfl) ?_
      refine l_nil ?_
      by_cases p14 : (meetP (gI ps (i : Int)) (gI ps ((i : Int) + 1)) (gI ps (k : Int)) (gI ps ((k : Int) + 1))) = 0
      ·
       refine run_cond_f rfl (congrArg Bool.not (decide_eq_true p14)) ?_
       refine run_skip ?_
       refine run_inBlock ?_
       refine run_region rfl ?_
       refine l_val (v := Value.int .i64 (k : Int)) rfl (e_move (by exact zs6)) ?_
       refine l_val (v := Value.int .i64 ((k : Int) + 1)) rfl (e_add (m := (k : Int)) (n := 1) rfl rfl (by omega)) ?_
       refine l_val (v := Value.int .i64 ((k : Int) + 1)) rfl (e_assign rfl) ?_
       refine l_nil ?_
       have C22 : Chg (inl []) _ _ _ _ := (ch14.n).seq ((hc17.n).seq (hb19.n))
       replace hbase := hbase.chg C22 (is_nl rfl)
       replace r_ps_v := r_ps_v.chg hb19 (not_no _)
       refine back10 (k + 1, g13) _ _ ⟨hbase, (by exact zs0), (by exact zs4), (by exact zs5), rfl, r_ps_v, ?_⟩ ?_
       · show (∀ j : Nat, i < j → j < (k + 1) → ¬ badP ps i j) ∧ i < (k + 1)
         refine ⟨fun j h1 h2 => ?_, by omega⟩
         by_cases e0 : j = k
         · subst e0
           first
             | exact good3 (by first | exact join1 (by assumption) | exact join2 (by assumption) (by assumption) (by assumption)) (by assumption)
             | exact good0 (by first | exact nojoin0 (by assumption) (by assumption) | exact nojoin1 (by assumption) (by assumption) | exact nojoin2 (by assumption) (by assumption)) (by assumption)
         · exact hk.1 j h1 (by omega)
       · show List.length ps - (k + 1) < List.length ps - k
         omega
      refine run_cond_t rfl (congrArg Bool.not (decide_eq_false p14)) ?_
      refine run_seq (run_region rfl ?_)
      refine l_val (v := Value.bool false) rfl (e_assign rfl) ?_
      refine l_val (v := Value.int .i64 0) rfl (e_assign rfl) ?_
      refine l_nil ?_
      refine run_ret (vs := [Value.bool false, Value.int .i64 0]) Try.func29 (.tmp rfl (.tmp rfl .nil)) ?_
      -- return 4
      have e0 : (false : Bool) = ((simR ps).1) := by
        first
          | (rw [simR_err (.inl (by assumption))]; done)
          | (rw [simR_err (.inr (fun h => p1 (decide_eq_true h)))]; done)
          | (rw [simR_ok (by assumption) hok]; done)
          | (rw [simR_ok (by assumption) hok]; exact sim_eq (by assumption) (by assumption))
          | (rw [simR_ok (by assumption) hok]; exact sim_bad (k := k) (by assumption) (by assumption) hk.2 (by first | exact bad3 (by first | exact join1 (by assumption) | exact join2 (by assumption) (by assumption) (by assumption)) (by assumption) | exact bad0 (by first | exact nojoin0 (by assumption) (by assumption) | exact nojoin1 (by assumption) (by assumption) | exact nojoin2 (by assumption) (by assumption)) (by assumption)))
          | (rw [simR_ok (by assumption) hok]; exact sim_yes hinv (by assumption))
      have e1 : (0 : Int) = ((simR ps).2) := by
        first
          | (rw [simR_err (.inl (by assumption))]; done)
          | (rw [simR_err (.inr (fun h => p1 (decide_eq_true h)))]; done)
          | (rw [simR_ok (by assumption) hok]; done)
          | (rw [simR_ok (by assumption) hok]; exact sim_eq (by assumption) (by assumption))
          | (rw [simR_ok (by assumption) hok]; exact sim_bad (k := k) (by assumption) (by assumption) hk.2 (by first | exact bad3 (by first | exact join1 (by assumption) | exact join2 (by assumption) (by assumption) (by assumption)) (by assumption) | exact bad0 (by first | exact nojoin0 (by assumption) (by assumption) | exact nojoin1 (by assumption) (by assumption) | exact nojoin2 (by assumption) (by assumption)) (by assumption)))
          | (rw [simR_ok (by assumption) hok]; exact sim_yes hinv (by assumption))
      have C23 : Chg (inl []) _ _ _ _ := (ch14.n).seq ((hc17.n).seq (hb19.n))
      replace hbase := hbase.chg C23 (is_nl rfl)
      exact ⟨(congr2 (a := false) (b := 0) (fun (z0 : Bool) (z1 : Int) => Ending.returned (Value.tuple (List.toArray [Value.bool z0, Value.int .i64 z1]))) e0 e1), hbase.below⟩
     refine l_skip (want_n rfl rfl rfl (decide_eq_false q73)) ?_
     refine l_skip (want_n rfl rfl rfl (decide_eq_false q73)) ?_
     refine l_val (v := Value.bool false) (want_y rfl rfl rfl (decide_eq_false q65)) (e_pick_f rfl (decide_eq_false q73) rfl) ?_
     refine l_val (v := Value.bool false) rfl (e_pick_f rfl (decide_eq_false q65) rfl) ?_
     refine l_val (v := Value.bool false) rfl (e_assign rfl) ?_
     refine l_nil (run_seq (run_region rfl ?_))
     refine l_val (v := Value.bool false) rfl (e_move rfl) ?_
     refine l_val (v := Value.bool false) rfl (e_move rfl) ?_
     refine l_skip (want_n rfl rfl rfl rfl) (l_skip (want_n rfl rfl rfl rfl) ?_)
     refine l_val (v := Value.bool false) rfl (e_pick_f rfl rfl rfl) ?_
     refine l_val (v := Value.bool false) rfl (e_move rfl) ?_
     refine l_val (v := Value.bool false) (want_y rfl rfl rfl rfl) (e_move rfl) ?_
     refine l_val (v := Value.bool true) (want_y rfl rfl rfl rfl) (e_not (b := false) rfl) ?_
     refine l_val (v := Value.bool true) (want_y rfl rfl rfl rfl) (e_move rfl) ?_
     refine l_val (v := Value.int .i64 (meetP (gI ps (i : Int)) (gI ps ((i : Int) + 1)) (gI ps (k : Int)) (gI ps ((k : Int) + 1)))) (want_y rfl rfl rfl rfl) (e_move rfl) ?_
     refine l_val (v := Value.bool (!(decide ((meetP (gI ps (i : Int)) (gI ps ((i : Int) + 1)) (gI ps (k : Int)) (gI ps ((k : Int) + 1))) = 0)))) (want_y rfl rfl rfl rfl) (e_neq (m := meetP (gI ps (i : Int)) (gI ps ((i : Int) + 1)) (gI ps (k : Int)) (gI ps ((k : Int) + 1))) (n := 0) rfl rfl) ?_
     refine l_val (v := Value.bool (!(decide ((meetP (gI ps (i : Int)) (gI ps ((i : Int) + 1)) (gI ps (k : Int)) (gI ps ((k : Int) + 1))) = 0)))) (want_y rfl rfl rfl rfl) (e_pick_t rfl rfl rfl) ?_
     refine l_val (v := Value.bool (!(decide ((meetP (gI ps (i : Int)) (gI ps ((i : Int) + 1)) (gI ps (k : Int)) (gI ps ((k : Int) + 1))) = 0)))) rfl (e_pick_f rfl rfl rfl) ?_
     refine l_nil ?_
     by_cases p14 : (meetP (gI ps (i : Int)) (gI ps ((i : Int) + 1)) (gI ps (k : Int)) (gI ps ((k : Int) + 1))) = 0
     ·
      refine run_cond_f rfl (congrArg Bool.not (decide_eq_true p14)) ?_
      refine run_skip ?_
      refine run_inBlock ?_
      refine run_region rfl ?_
      refine l_val (v := Value.int .i64 (k : Int)) rfl (e_move (by exact zs6)) ?_
      refine l_val (v := Value.int .i64 ((k : Int) + 1)) rfl (e_add (m := (k : Int)) (n := 1) rfl rfl (by omega)) ?_
      refine l_val (v := Value.int .i64 ((k : Int) + 1)) rfl (e_assign rfl) ?_
      refine l_nil ?_
      replace hbase := hbase.chg ch14 (not_no _)
      replace hbase := hbase.chg hc17 (not_no _)
      replace r_ps_v := r_ps_v.chg hc17 (not_no _)
      refine back10 (k + 1, g13) _ _ ⟨hbase, (by exact zs0), (by exact zs4), (by exact zs5), rfl, r_ps_v, ?_⟩ ?_
      · show (∀ j : Nat, i < j → j < (k + 1) → ¬ badP ps i j) ∧ i < (k + 1)
        refine ⟨fun j h1 h2 => ?_, by omega⟩
        by_cases e0 : j = k
        · subst e0
          first
            | exact good3 (by first | exact join1 (by assumption) | exact join2 (by assumption) (by assumption) (by assumption)) (by assumption)
            | exact good0 (by first | exact nojoin0 (by assumption) (by assumption) | exact nojoin1 (by assumption) (by assumption) | exact nojoin2 (by assumption) (by assumption)) (by assumption)
        · exact hk.1 j h1 (by omega)
      · show List.length ps - (k + 1) < List.length ps - k
        omega
     refine run_cond_t rfl (congrArg Bool.not (decide_eq_false p14)) ?_
     refine run_seq (run_region rfl ?_)
     refine l_val (v := Value.bool false) rfl (e_assign rfl) ?_
     refine l_val (v := Value.int .i64 0) rfl (e_assign rfl) ?_
     refine l_nil ?_
     refine run_ret (vs := [Value.bool false, Value.int .i64 0]) Try.func29 (.tmp rfl (.tmp rfl .nil)) ?_
     -- return 5
     have e0 : (false : Bool) = ((simR ps).1) := by
       first
         | (rw [simR_err (.inl (by assumption))]; done)
         | (rw [simR_err (.inr (fun h => p1 (decide_eq_true h)))]; done)
         | (rw [simR_ok (by assumption) hok]; done)
         | (rw [simR_ok (by assumption) hok]; exact sim_eq (by assumption) (by assumption))
         | (rw [simR_ok (by assumption) hok]; exact sim_bad (k := k) (by assumption) (by assumption) hk.2 (by first | exact bad3 (by first | exact join1 (by assumption) | exact join2 (by assumption) (by assumption) (by assumption)) (by assumption) | exact bad0 (by first | exact nojoin0 (by assumption) (by assumption) | exact nojoin1 (by assumption) (by assumption) | exact nojoin2 (by assumption) (by assumption)) (by assumption)))
         | (rw [simR_ok (by assumption) hok]; exact sim_yes hinv (by assumption))
     have e1 : (0 : Int) = ((simR ps).2) := by
       first
         | (rw [simR_err (.inl (by assumption))]; done)
         | (rw [simR_err (.inr (fun h => p1 (decide_eq_true h)))]; done)
         | (rw [simR_ok (by assumption) hok]; done)
         | (rw [simR_ok (by assumption) hok]; exact sim_eq (by assumption) (by assumption))
         | (rw [simR_ok (by assumption) hok]; exact sim_bad (k := k) (by assumption) (by assumption) hk.2 (by first | exact bad3 (by first | exact join1 (by assumption) | exact join2 (by assumption) (by assumption) (by assumption)) (by assumption) | exact bad0 (by first | exact nojoin0 (by assumption) (by assumption) | exact nojoin1 (by assumption) (by assumption) | exact nojoin2 (by assumption) (by assumption)) (by assumption)))
         | (rw [simR_ok (by assumption) hok]; exact sim_yes hinv (by assumption))
     replace hbase := hbase.chg ch14 (not_no _)
     replace hbase := hbase.chg hc17 (not_no _)
     exact ⟨(congr2 (a := false) (b := 0) (fun (z0 : Bool) (z1 : Int) => Ending.returned (Value.tuple (List.toArray [Value.bool z0, Value.int .i64 z1]))) e0 e1), hbase.below⟩
    refine l_skip (want_n rfl rfl rfl (decide_eq_false q68)) ?_
    refine l_skip (want_n rfl rfl rfl (decide_eq_false q68)) ?_
    refine l_skip (want_n rfl rfl rfl (decide_eq_false q68)) ?_
    refine l_val (v := Value.bool false) (want_y rfl rfl rfl (decide_eq_false q65)) (e_pick_f rfl (decide_eq_false q68) rfl) ?_
    refine l_val (v := Value.bool false) (want_y rfl rfl rfl (decide_eq_false q65)) (e_move rfl) ?_
    refine l_skip (want_n rfl rfl rfl rfl) (l_skip (want_n rfl rfl rfl rfl) ?_)
    refine l_val (v := Value.bool false) (want_y rfl rfl rfl (decide_eq_false q65)) (e_pick_f rfl rfl rfl) ?_
    refine l_val (v := Value.bool false) rfl (e_pick_f rfl (decide_eq_false q65) rfl) ?_
    refine l_val (v := Value.bool false) rfl (e_assign rfl) ?_
    refine l_nil (run_seq (run_region rfl ?_))
    refine l_val (v := Value.bool false) rfl (e_move rfl) ?_
    refine l_val (v := Value.bool false) rfl (e_move rfl) ?_
    refine l_skip (want_n rfl rfl rfl rfl) (l_skip (want_n rfl rfl rfl rfl) ?_)
    refine l_val (v := Value.bool false) rfl (e_pick_f rfl rfl rfl) ?_
    refine l_val (v := Value.bool false) rfl (e_move rfl) ?_
    refine l_val (v := Value.bool false) (want_y rfl rfl rfl rfl) (e_move rfl) ?_
    refine l_val (v := Value.bool true) (want_y rfl rfl rfl rfl) (e_not (b := false) rfl) ?_
    refine l_val (v := Value.bool true) (want_y rfl rfl rfl rfl) (e_move rfl) ?_
    refine l_val (v := Value.int .i64 (meetP (gI ps (i : Int)) (gI ps ((i : Int) + 1)) (gI ps (k : Int)) (gI ps ((k : Int) + 1)))) (want_y rfl rfl rfl rfl) (e_move rfl) ?_
    refine l_val (v := Value.bool (!(decide ((meetP (gI ps (i : Int)) (gI ps ((i : Int) + 1)) (gI ps (k : Int)) (gI ps ((k : Int) + 1))) = 0)))) (want_y rfl rfl rfl rfl) (e_neq (m := meetP (gI ps (i : Int)) (gI ps ((i : Int) + 1)) (gI ps (k : Int)) (gI ps ((k : Int) + 1))) (n := 0) rfl rfl) ?_
    refine l_val (v := Value.bool (!(decide ((meetP (gI ps (i : Int)) (gI ps ((i : Int) + 1)) (gI ps (k : Int)) (gI ps ((k : Int) + 1))) = 0)))) (want_y rfl rfl rfl rfl) (e_pick_t rfl rfl rfl) ?_
    refine l_val (v := Value.bool (!(decide ((meetP (gI ps (i : Int)) (gI ps ((i : Int) + 1)) (gI ps (k : Int)) (gI ps ((k : Int) + 1))) = 0)))) rfl (e_pick_f rfl rfl rfl) ?_
    refine l_nil ?_
    by_cases p14 : (meetP (gI ps (i : Int)) (gI ps ((i : Int) + 1)) (gI ps (k : Int)) (gI ps ((k : Int) + 1))) = 0
    ·
     refine run_cond_f rfl (congrArg Bool.not (decide_eq_true p14)) ?_
     refine run_skip ?_
     refine run_inBlock ?_
     refine run_region rfl ?_
     refine l_val (v := Value.int .i64 (k : Int)) rfl (e_move (by exact zs6)) ?_
     refine l_val (v := Value.int .i64 ((k : Int) + 1)) rfl (e_add (m := (k : Int)) (n := 1) rfl rfl (by omega)) ?_
     refine l_val (v := Value.int .i64 ((k : Int) + 1)) rfl (e_assign rfl) ?_
     refine l_nil ?_
     replace hbase := hbase.chg ch14 (not_no _)
     replace hbase := hbase.chg hc17 (not_no _)
     replace r_ps_v := r_ps_v.chg hc17 (not_no _)
     refine back10 (k + 1, g13) _ _ ⟨hbase, (by exact zs0), (by exact zs4), (by exact zs5), rfl, r_ps_v, ?_⟩ ?_
     · show (∀ j : Nat, i < j → j < (k + 1) → ¬ badP ps i j) ∧ i < (k + 1)
       refine ⟨fun j h1 h2 => ?_, by omega⟩
       by_cases e0 : j = k
       · subst e0
         first
           | exact good3 (by first | exact join1 (by assumption) | exact join2 (by assumption) (by assumption) (by assumption)) (by assumption)
           | exact good0 (by first | exact nojoin0 (by assumption) (by assumption) | exact nojoin1 (by assumption) (by assumption) | exact nojoin2 (by assumption) (by assumption)) (by assumption)
       · exact hk.1 j h1 (by omega)
     · show List.length ps - (k + 1) < List.length ps - k
       omega
    refine run_cond_t rfl (congrArg Bool.not (decide_eq_false p14)) ?_
    refine run_seq (run_region rfl ?_)
    refine l_val (v := Value.bool false) rfl (e_assign rfl) ?_
    refine l_val (v := Value.int .i64 0) rfl (e_assign rfl) ?_
    refine l_nil ?_
    refine run_ret (vs := [Value.bool false, Value.int .i64 0]) Try.func29 (.tmp rfl (.tmp rfl .nil)) ?_
    -- return 6
    have e0 : (false : Bool) = ((simR ps).1) := by
      first
        | (rw [simR_err (.inl (by assumption))]; done)
        | (rw [simR_err (.inr (fun h => p1 (decide_eq_true h)))]; done)
        | (rw [simR_ok (by assumption) hok]; done)
        | (rw [simR_ok (by assumption) hok]; exact sim_eq (by assumption) (by assumption))
        | (rw [simR_ok (by assumption) hok]; exact sim_bad (k := k) (by assumption) (by assumption) hk.2 (by first | exact bad3 (by first | exact join1 (by assumption) | exact join2 (by assumption) (by assumption) (by assumption)) (by assumption) | exact bad0 (by first | exact nojoin0 (by assumption) (by assumption) | exact nojoin1 (by assumption) (by assumption) | exact nojoin2 (by assumption) (by assumption)) (by assumption)))
        | (rw [simR_ok (by assumption) hok]; exact sim_yes hinv (by assumption))
    have e1 : (0 : Int) = ((simR ps).2) := by
      first
        | (rw [simR_err (.inl (by assumption))]; done)
        | (rw [simR_err (.inr (fun h => p1 (decide_eq_true h)))]; done)
        | (rw [simR_ok (by assumption) hok]; done)
        | (rw [simR_ok (by assumption) hok]; exact sim_eq (by assumption) (by assumption))
        | (rw [simR_ok (by assumption) hok]; exact sim_bad (k := k) (by assumption) (by assumption) hk.2 (by first | exact bad3 (by first | exact join1 (by assumption) | exact join2 (by assumption) (by assumption) (by assumption)) (by assumption) | exact bad0 (by first | exact nojoin0 (by assumption) (by assumption) | exact nojoin1 (by assumption) (by assumption) | exact nojoin2 (by assumption) (by assumption)) (by assumption)))
        | (rw [simR_ok (by assumption) hok]; exact sim_yes hinv (by assumption))
    replace hbase := hbase.chg ch14 (not_no _)
    replace hbase := hbase.chg hc17 (not_no _)
    exact ⟨(congr2 (a := false) (b := 0) (fun (z0 : Bool) (z1 : Int) => Ending.returned (Value.tuple (List.toArray [Value.bool z0, Value.int .i64 z1]))) e0 e1), hbase.below⟩
   refine run_cond_f rfl (decide_eq_false p10) ?_
   refine run_exit rfl ?_
   refine run_inBlock ?_
   refine run_region rfl ?_
   refine l_val (v := Value.int .i64 (i : Int)) rfl (e_move (by exact zs5)) ?_
   refine l_val (v := Value.int .i64 ((i : Int) + 1)) rfl (e_add (m := (i : Int)) (n := 1) rfl rfl (by omega)) ?_
   refine l_val (v := Value.int .i64 ((i : Int) + 1)) rfl (e_assign rfl) ?_
   refine l_nil ?_
   refine back5 (i + 1, g13) _ _ ⟨hbase, (by exact zs0), (by exact zs4), rfl, r_ps_v, ?_⟩ ?_
   · show ∀ j : Nat, j < (i + 1) → simI ps j
     intro j hj
     by_cases e0 : j = i
     · subst e0; exact ⟨p7, fun k' _ h1 h2 => hk.1 k' h1 (by omega)⟩
     · exact hinv j (by omega)
   · show List.length ps - (i + 1) < List.length ps - i
     omega
  refine run_cond_f rfl (decide_eq_false p5) ?_
  refine run_exit rfl ?_
  refine run_seq (run_region rfl ?_)
  refine l_val (v := Value.bool true) rfl (e_assign rfl) ?_
  refine l_val (v := Value.int .i64 0) rfl (e_assign rfl) ?_
  refine l_nil ?_
  refine run_ret (vs := [Value.bool true, Value.int .i64 0]) Try.func29 (.tmp rfl (.tmp rfl .nil)) ?_
  -- return 7
  have e0 : (true : Bool) = ((simR ps).1) := by
    first
      | (rw [simR_err (.inl (by assumption))]; done)
      | (rw [simR_err (.inr (fun h => p1 (decide_eq_true h)))]; done)
      | (rw [simR_ok (by assumption) hok]; done)
      | (rw [simR_ok (by assumption) hok]; exact sim_eq (by assumption) (by assumption))
      | (rw [simR_ok (by assumption) hok]; exact sim_bad (k := k) (by assumption) (by assumption) hk.2 (by first | exact bad3 (by first | exact join1 (by assumption) | exact join2 (by assumption) (by assumption) (by assumption)) (by assumption) | exact bad0 (by first | exact nojoin0 (by assumption) (by assumption) | exact nojoin1 (by assumption) (by assumption) | exact nojoin2 (by assumption) (by assumption)) (by assumption)))
      | (rw [simR_ok (by assumption) hok]; exact sim_yes hinv (by assumption))
  have e1 : (0 : Int) = ((simR ps).2) := by
    first
      | (rw [simR_err (.inl (by assumption))]; done)
      | (rw [simR_err (.inr (fun h => p1 (decide_eq_true h)))]; done)
      | (rw [simR_ok (by assumption) hok]; done)
      | (rw [simR_ok (by assumption) hok]; exact sim_eq (by assumption) (by assumption))
      | (rw [simR_ok (by assumption) hok]; exact sim_bad (k := k) (by assumption) (by assumption) hk.2 (by first | exact bad3 (by first | exact join1 (by assumption) | exact join2 (by assumption) (by assumption) (by assumption)) (by assumption) | exact bad0 (by first | exact nojoin0 (by assumption) (by assumption) | exact nojoin1 (by assumption) (by assumption) | exact nojoin2 (by assumption) (by assumption)) (by assumption)))
      | (rw [simR_ok (by assumption) hok]; exact sim_yes hinv (by assumption))
  exact ⟨(congr2 (a := true) (b := 0) (fun (z0 : Bool) (z1 : Int) => Ending.returned (Value.tuple (List.toArray [Value.bool z0, Value.int .i64 z1]))) e0 e1), hbase.below⟩
 refine run_cond_t rfl (congrArg Bool.not (Bool.eq_false_iff.2 p1)) ?_
 refine run_seq (run_region rfl ?_)
 refine l_val (v := Value.bool false) rfl (e_assign rfl) ?_
 refine l_val (v := Value.int .i64 1) rfl (e_assign rfl) ?_
 refine l_nil ?_
 refine run_ret (vs := [Value.bool false, Value.int .i64 1]) Try.func29 (.tmp rfl (.tmp rfl .nil)) ?_
 -- return 8
 have e0 : (false : Bool) = ((simR ps).1) := by
   first
     | (rw [simR_err (.inl (by assumption))]; done)
     | (rw [simR_err (.inr (fun h => p1 (decide_eq_true h)))]; done)
     | (rw [simR_ok (by assumption) hok]; done)
     | (rw [simR_ok (by assumption) hok]; exact sim_eq (by assumption) (by assumption))
     | (rw [simR_ok (by assumption) hok]; exact sim_bad (k := k) (by assumption) (by assumption) hk.2 (by first | exact bad3 (by first | exact join1 (by assumption) | exact join2 (by assumption) (by assumption) (by assumption)) (by assumption) | exact bad0 (by first | exact nojoin0 (by assumption) (by assumption) | exact nojoin1 (by assumption) (by assumption) | exact nojoin2 (by assumption) (by assumption)) (by assumption)))
     | (rw [simR_ok (by assumption) hok]; exact sim_yes hinv (by assumption))
 have e1 : (1 : Int) = ((simR ps).2) := by
   first
     | (rw [simR_err (.inl (by assumption))]; done)
     | (rw [simR_err (.inr (fun h => p1 (decide_eq_true h)))]; done)
     | (rw [simR_ok (by assumption) hok]; done)
     | (rw [simR_ok (by assumption) hok]; exact sim_eq (by assumption) (by assumption))
     | (rw [simR_ok (by assumption) hok]; exact sim_bad (k := k) (by assumption) (by assumption) hk.2 (by first | exact bad3 (by first | exact join1 (by assumption) | exact join2 (by assumption) (by assumption) (by assumption)) (by assumption) | exact bad0 (by first | exact nojoin0 (by assumption) (by assumption) | exact nojoin1 (by assumption) (by assumption) | exact nojoin2 (by assumption) (by assumption)) (by assumption)))
     | (rw [simR_ok (by assumption) hok]; exact sim_yes hinv (by assumption))
 replace hbase := hbase.chg hb3 (not_no _)
 exact ⟨(congr2 (a := false) (b := 1) (fun (z0 : Bool) (z1 : Int) => Ending.returned (Value.tuple (List.toArray [Value.bool z0, Value.int .i64 z1]))) e0 e1), hbase.below⟩
end TL
