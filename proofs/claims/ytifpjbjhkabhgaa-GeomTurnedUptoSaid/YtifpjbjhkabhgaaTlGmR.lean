import Derived.Test.YtifpjbjhkabhgaaTlGmA
import Derived.Test.YtifpjbjhkabhgaaTlGmM
import Derived.Test.YtifpjbjhkabhgaaProg
import Derived.Test.YtifpjbjhkabhgaaTlNet2
import Derived.Test.YtifpjbjhkabhgaaTlEq
import Derived.Test.YtifpjbjhkabhgaaTlHold
import Derived.Test.YtifpjbjhkabhgaaTlDraw
import Derived.Test.YtifpjbjhkabhgaaTlMap
set_option linter.all false
set_option maxRecDepth 20000
namespace TL
open Go Go.Proofs
theorem mixed_gr : Try.prog.follows .mixedOrders = true := by kernel_rfl
theorem tp3_gr : Tp Try.prog 3 false 1 8 (.int .i64 0) := Tp.of (by kernel_rfl)
theorem tp23_gr : Tp Try.prog 23 true 2 16 (.agg #[.int .i64 0, .int .i64 0]) := Tp.of (by kernel_rfl)
theorem bd25_gr : Try.f25.body.isNone = false := rfl
theorem nm25_gr : (Try.f25.name == "runtime.NumGoroutine") = false := by decide +kernel
theorem bd36_gr : Try.f36.body.isNone = false := rfl
theorem nm36_gr : (Try.f36.name == "runtime.NumGoroutine") = false := by decide +kernel
theorem bd44_gr : Try.f44.body.isNone = false := rfl
theorem nm44_gr : (Try.f44.name == "runtime.NumGoroutine") = false := by decide +kernel
theorem bd50_gr : Try.f50.body.isNone = false := rfl
theorem nm50_gr : (Try.f50.name == "runtime.NumGoroutine") = false := by decide +kernel

theorem Area_ok (w0 : World) (ps : List ((Int) × (Int))) (ps_v : Value) (hps_v : Ro w0 ps_v ps) :
    Calls Try.prog 21 #[ps_v] w0 (fun ee w => ee = .returned (Value.tuple (List.toArray [Value.int .i64 ((areaR ps).1), Value.int .i64 ((areaR ps).2)])) ∧ RowKit.Below w0.heap.size w0 w) := by
 refine calls_of_run Try.func21 rfl (Nat.le_of_ble_eq_true rfl) ?_
 have hbase := Base.start w0
 have r_ps_v := hps_v.sl
 refine run_seq ?_
 refine run_region rfl ?_
 refine l_val (v := Value.int .i64 0) rfl (e_assign rfl) ?_
 refine l_val (v := Value.int .i64 0) rfl (e_assign rfl) ?_
 refine l_nil ?_
 refine run_seq ?_
 refine run_seq ?_
 refine run_region rfl ?_
 refine l_val (v := ps_v) rfl (e_move rfl) ?_
 refine l_op rfl ?_
 refine o_call (v := Value.bool (decide (okL ps))) (e_call (vals := [ps_v]) Try.func25 bd25_gr nm25_gr rfl) (GMay_ok w0 ps ps_v (r_ps_v).ro) ?_
 intro w1 hb2
 replace hb2 := chg_below hb2 c0
 refine l_val (v := Value.bool (!(decide (okL ps)))) rfl (e_not (b := (decide (okL ps))) rfl) ?_
 refine l_nil ?_
 by_cases p1 : (decide (okL ps)) = true
 ·
  obtain ⟨hl1, hl2⟩ := of_decide_eq_true p1
  have hok := of_decide_eq_true p1
  refine run_cond_f rfl (congrArg Bool.not p1) ?_
  refine run_skip ?_
  refine run_seq ?_
  refine run_seq ?_
  refine run_region rfl ?_
  refine l_val (v := ps_v) rfl (e_move rfl) ?_
  replace r_ps_v := r_ps_v.chg hb2 (not_no _)
  have len3 := (r_ps_v).small
  refine l_val (v := Value.int .i64 (List.length ps : Int)) rfl (e_len Try.underlying25 rfl r_ps_v) ?_
  refine l_val (v := Value.bool (decide ((List.length ps : Int) < 3))) rfl (e_lss (m := (List.length ps : Int)) (n := 3) rfl rfl) ?_
  refine l_nil ?_
  by_cases p3 : (List.length ps : Int) < 3
  ·
   refine run_cond_t rfl (decide_eq_true p3) ?_
   refine run_seq ?_
   refine run_region rfl ?_
   refine l_val (v := Value.int .i64 0) rfl (e_assign rfl) ?_
   refine l_val (v := Value.int .i64 0) rfl (e_assign rfl) ?_
   refine l_nil ?_
   refine run_ret (vs := [Value.int .i64 0, Value.int .i64 0]) Try.func21 (.tmp rfl (.tmp rfl .nil)) ?_
   -- return 0
   have e0 : (0 : Int) = ((areaR ps).1) := by
     first
       | (have hn : ¬ okL ps := fun h => p1 (decide_eq_true h)
          simp only [areaR, if_neg hn]; done)
       | (simp only [areaR, if_pos hok, if_pos (show (ps.length : Int) < 3 by assumption)]; done)
       | (simp only [areaR, if_pos hok, if_neg (show ¬ (ps.length : Int) < 3 by assumption)]; done)
       | (have hk : k = ps.length := by omega
          simp only [areaR, if_pos hok, if_neg (show ¬ (ps.length : Int) < 3 by assumption), hinv, hk]; done)
   have e1 : (0 : Int) = ((areaR ps).2) := by
     first
       | (have hn : ¬ okL ps := fun h => p1 (decide_eq_true h)
          simp only [areaR, if_neg hn]; done)
       | (simp only [areaR, if_pos hok, if_pos (show (ps.length : Int) < 3 by assumption)]; done)
       | (simp only [areaR, if_pos hok, if_neg (show ¬ (ps.length : Int) < 3 by assumption)]; done)
       | (have hk : k = ps.length := by omega
          simp only [areaR, if_pos hok, if_neg (show ¬ (ps.length : Int) < 3 by assumption), hinv, hk]; done)
   replace hbase := hbase.chg hb2 (not_no _)
   exact ⟨(congr2 (a := 0) (b := 0) (fun (z0 : Int) (z1 : Int) => Ending.returned (Value.tuple (List.toArray [Value.int .i64 z0, Value.int .i64 z1]))) e0 e1), hbase.below⟩
  refine run_cond_f rfl (decide_eq_false p3) ?_
  refine run_skip ?_
  refine run_seq ?_
  refine run_region rfl ?_
  refine l_val (v := Value.int .i64 0) rfl (e_assign rfl) ?_
  refine l_nil ?_
  refine run_seq ?_
  refine run_seq ?_
  refine run_region rfl ?_
  refine l_val (v := ps_v) rfl (e_move rfl) ?_
  refine l_val (v := Value.int .i64 (List.length ps : Int)) rfl (e_len Try.underlying25 rfl r_ps_v) ?_
  refine l_val (v := Value.int .i64 0) rfl (e_move rfl) ?_
  refine l_nil ?_
  refine run_block ?_
  refine run_loop (σ := Int × Nat × Cmap) (fun ⟨n, k, gq⟩ f w => Base w0 gq w ∧ f 0 = ps_v ∧ f 4 = Value.int .i64 n ∧ f 13 = ps_v ∧ f 14 = Value.int .i64 (List.length ps : Int) ∧ f 15 = Value.int .i64 (k : Int) ∧ Sl gq (is 0) w ps_v ps ∧ (k : Int) ≤ ((List.length ps : Int) : Int) ∧ (n = areaK ps k)) (fun ⟨n, k, gq⟩ => Int.toNat (((List.length ps : Int) : Int) - (k : Int))) (0, 0, c0) ?_ ?_
  replace hbase := hbase.chg hb2 (not_no _)
  · exact ⟨hbase, rfl, rfl, rfl, rfl, rfl, r_ps_v, by omega, by rfl⟩
  clear r_ps_v
  clear hbase
  rintro ⟨n, k, g6⟩ f4 w5 ⟨hbase, zs0, zs4, zs13, zs14, zs15, r_ps_v, hle_k, hinv⟩ back7
  refine run_seq ?_
  refine run_region rfl ?_
  refine l_val (v := Value.bool (decide ((k : Int) < (List.length ps : Int)))) rfl (e_lss (m := (k : Int)) (n := (List.length ps : Int)) (by exact zs15) (by exact zs14)) ?_
  refine l_nil ?_
  refine run_seq ?_
  by_cases p7 : (k : Int) < (List.length ps : Int)
  ·
   refine run_cond_t rfl (decide_eq_true p7) ?_
   have hbd := areaK_bd hl2 k (by omega)
   have he1 := Int.emod_nonneg ((k : Int) + 1) (show ((ps.length : Nat) : Int) ≠ 0 by omega)
   have he2 := Int.emod_lt_of_pos ((k : Int) + 1) (show (0 : Int) < ((ps.length : Nat) : Int) by omega)
   have hp1 := hl2 _ (gI_mem (xs := ps) (i := (k : Int)) (by omega) (by omega))
   have hp2 := hl2 _ (gI_mem (xs := ps) he1 he2)
   have hc := crs_bd hp1 hp2
   have hw1 : bdW (gI ps (k : Int)) := by unfold okP at hp1; unfold bdW; omega
   have hw2 : bdW (gI ps (((k : Int) + 1) % (ps.length : Int))) := by unfold okP at hp2; unfold bdW; omega
   refine run_skip ?_
   refine run_seq ?_
   refine run_block ?_
   refine run_seq ?_
   refine run_region rfl ?_
   refine l_val (v := Value.int .i64 (k : Int)) rfl (e_move (by exact zs15)) ?_
   refine l_val (v := Value.pointer (some (eAddr ps_v 2 (Int.toNat (k : Int))))) rfl (e_indexAddr (α := (Int) × (Int)) (xs := ps) (v := ps_v) (i := (k : Int)) Try.underlying25 rfl (by exact zs13) r_ps_v (by exact zs15) (by omega) (by omega)) ?_
   refine l_val (v := Value.agg (List.toArray [Value.int .i64 ((gI ps (k : Int)).1), Value.int .i64 ((gI ps (k : Int)).2)])) rfl (e_load_elN (α := (Int) × (Int)) (xs := ps) (v := ps_v) (i := (k : Int)) tp23_gr rfl r_ps_v (by omega) (by omega) rfl) ?_
   refine l_op rfl ?_
   refine o_alloc g6 (is 1) (1, 0) rfl tp23_gr ?_
   intro g10 w7 b9 ch8 bx11
   replace bx11 : Bx g10 (is 1) w7 b9 [Value.int .i64 0, Value.int .i64 0] := bx11
   refine l_val (v := Value.int .i64 (k : Int)) rfl (e_assign rfl) ?_
   refine l_op rfl ?_
   refine o_store_bx (cs' := [Value.int .i64 ((gI ps (k : Int)).1), Value.int .i64 ((gI ps (k : Int)).2)]) tp23_gr rfl rfl bx11 rfl (Nat.le_of_ble_eq_true rfl) (AllOne.all (.cons rfl (.cons rfl .nil))) rfl ?_
   intro w12 ch13 bx14
   clear bx11
   refine l_nil ?_
   refine region_q g10 rfl mixed_gr (by kernel_rfl) ?_
   intro w16 ch15
   refine q_val (v := Value.int .i64 n) rfl (fun w' hw' => e_move (by exact zs4)) ?_
   replace bx14 := bx14.chg ch15 (not_no _)
   refine q_val (v := Value.agg (List.toArray [Value.int .i64 ((gI ps (k : Int)).1), Value.int .i64 ((gI ps (k : Int)).2)])) rfl (fun w' hw' => e_load_bxN (ds := [Value.int .i64 ((gI ps (k : Int)).1), Value.int .i64 ((gI ps (k : Int)).2)]) tp23_gr rfl (bx14.bel hw') rfl rfl) ?_
   refine q_val (v := ps_v) rfl (fun w' hw' => e_move (by exact zs0)) ?_
   refine q_val (v := Value.int .i64 (k : Int)) rfl (fun w' hw' => e_move rfl) ?_
   refine q_val (v := Value.int .i64 ((k : Int) + 1)) rfl (fun w' hw' => e_add (m := (k : Int)) (n := 1) rfl rfl (by omega)) ?_
   refine q_val (v := ps_v) rfl (fun w' hw' => e_move (by exact zs0)) ?_
   have C17 : Chg (inl [1]) _ _ _ _ := (ch8.n).seq ((ch13.l rfl).seq (ch15.n))
   replace r_ps_v := r_ps_v.chg C17 (is_nl rfl)
   refine q_val (v := Value.int .i64 (List.length ps : Int)) rfl (fun w' hw' => e_len Try.underlying25 rfl (r_ps_v.bel hw')) ?_
   refine q_val (v := Value.int .i64 (((k : Int) + 1) % (List.length ps : Int))) rfl (fun w' hw' => e_rem (m := (k : Int) + 1) (n := (List.length ps : Int)) rfl rfl (by omega) (by omega)) ?_
   refine q_val (v := Value.pointer (some (eAddr ps_v 2 (Int.toNat (((k : Int) + 1) % (List.length ps : Int)))))) rfl (fun w' hw' => e_indexAddr (α := (Int) × (Int)) (xs := ps) (v := ps_v) (i := ((k : Int) + 1) % (List.length ps : Int)) Try.underlying25 rfl rfl (r_ps_v.bel hw') rfl (by omega) (by omega)) ?_
   refine q_val (v := Value.agg (List.toArray [Value.int .i64 ((gI ps (((k : Int) + 1) % (List.length ps : Int))).1), Value.int .i64 ((gI ps (((k : Int) + 1) % (List.length ps : Int))).2)])) rfl (fun w' hw' => e_load_elN (α := (Int) × (Int)) (xs := ps) (v := ps_v) (i := ((k : Int) + 1) % (List.length ps : Int)) tp23_gr rfl (r_ps_v.bel hw') (by omega) (by omega) rfl) ?_
   refine q_call (v := Value.int .i64 (crs (gI ps (k : Int)) (gI ps (((k : Int) + 1) % (List.length ps : Int))))) rfl (fun w' hw' => e_call (vals := [Value.agg (List.toArray [Value.int .i64 ((gI ps (k : Int)).1), Value.int .i64 ((gI ps (k : Int)).2)]), Value.agg (List.toArray [Value.int .i64 ((gI ps (((k : Int) + 1) % (List.length ps : Int))).1), Value.int .i64 ((gI ps (((k : Int) + 1) % (List.length ps : Int))).2)])]) Try.func44 bd44_gr nm44_gr rfl) (fun w' hw' => (cross_ok w' (gI ps (k : Int)) (gI ps (((k : Int) + 1) % (List.length ps : Int))) (by assumption) (by assumption)).mono fun e w2 h2 => ⟨h2.1, hw'.trans (h2.2.mono hw'.size)⟩) ?_
   refine q_val (v := Value.int .i64 (n + (crs (gI ps (k : Int)) (gI ps (((k : Int) + 1) % (List.length ps : Int)))))) rfl (fun w' hw' => e_add (m := n) (n := crs (gI ps (k : Int)) (gI ps (((k : Int) + 1) % (List.length ps : Int)))) rfl rfl (by omega)) ?_
   refine q_val (v := Value.int .i64 (n + (crs (gI ps (k : Int)) (gI ps (((k : Int) + 1) % (List.length ps : Int)))))) rfl (fun w' hw' => e_assign rfl) ?_
   refine q_nil ?_
   intro w18 hc19
   replace hc19 := chg_below hc19 g10
   refine run_inBlock ?_
   clear bx14
   refine run_region rfl ?_
   refine l_val (v := Value.int .i64 ((k : Int) + 1)) rfl (e_add (m := (k : Int)) (n := 1) (by exact zs15) rfl (by omega)) ?_
   refine l_val (v := Value.int .i64 ((k : Int) + 1)) rfl (e_move rfl) ?_
   refine l_nil ?_
   have C20 : Chg (inl [1]) _ _ _ _ := (ch8.n).seq ((ch13.l rfl).seq ((ch15.n).seq (hc19.n)))
   replace hbase := hbase.chg C20 (is_nl rfl)
   replace r_ps_v := r_ps_v.chg hc19 (not_no _)
   refine back7 (n + (crs (gI ps (k : Int)) (gI ps (((k : Int) + 1) % (List.length ps : Int)))), k + 1, g10) _ _ ⟨hbase, (by exact zs0), rfl, (by exact zs13), (by exact zs14), rfl, r_ps_v, by omega, ?_⟩ ?_
   · show (n + (crs (gI ps (k : Int)) (gI ps (((k : Int) + 1) % (List.length ps : Int))))) = areaK ps (k + 1)
     rw [hinv]; rfl
   · show Int.toNat (((List.length ps : Int) : Int) - ((k + 1) : Int)) < Int.toNat (((List.length ps : Int) : Int) - (k : Int))
     omega
  refine run_cond_f rfl (decide_eq_false p7) ?_
  refine run_exit rfl ?_
  refine run_seq ?_
  refine run_region rfl ?_
  refine l_val (v := Value.int .i64 n) rfl (e_move (by exact zs4)) ?_
  refine l_val (v := Value.int .i64 n) rfl (e_assign rfl) ?_
  refine l_val (v := Value.int .i64 0) rfl (e_assign rfl) ?_
  refine l_nil ?_
  refine run_ret (vs := [Value.int .i64 n, Value.int .i64 0]) Try.func21 (.tmp rfl (.tmp rfl .nil)) ?_
  -- return 1
  have e0 : (n : Int) = ((areaR ps).1) := by
    first
      | (have hn : ¬ okL ps := fun h => p1 (decide_eq_true h)
         simp only [areaR, if_neg hn]; done)
      | (simp only [areaR, if_pos hok, if_pos (show (ps.length : Int) < 3 by assumption)]; done)
      | (simp only [areaR, if_pos hok, if_neg (show ¬ (ps.length : Int) < 3 by assumption)]; done)
      | (have hk : k = ps.length := by omega
         simp only [areaR, if_pos hok, if_neg (show ¬ (ps.length : Int) < 3 by assumption), hinv, hk]; done)
  have e1 : (0 : Int) = ((areaR ps).2) := by
    first
      | (have hn : ¬ okL ps := fun h => p1 (decide_eq_true h)
         simp only [areaR, if_neg hn]; done)
      | (simp only [areaR, if_pos hok, if_pos (show (ps.length : Int) < 3 by assumption)]; done)
      | (simp only [areaR, if_pos hok, if_neg (show ¬ (ps.length : Int) < 3 by assumption)]; done)
      | (have hk : k = ps.length := by omega
         simp only [areaR, if_pos hok, if_neg (show ¬ (ps.length : Int) < 3 by assumption), hinv, hk]; done)
  exact ⟨(congr2 (a := n) (b := 0) (fun (z0 : Int) (z1 : Int) => Ending.returned (Value.tuple (List.toArray [Value.int .i64 z0, Value.int .i64 z1]))) e0 e1), hbase.below⟩
 refine run_cond_t rfl (congrArg Bool.not (Bool.eq_false_iff.2 p1)) ?_
 refine run_seq ?_
 refine run_region rfl ?_
 refine l_val (v := Value.int .i64 0) rfl (e_assign rfl) ?_
 refine l_val (v := Value.int .i64 1) rfl (e_assign rfl) ?_
 refine l_nil ?_
 refine run_ret (vs := [Value.int .i64 0, Value.int .i64 1]) Try.func21 (.tmp rfl (.tmp rfl .nil)) ?_
 -- return 2
 have e0 : (0 : Int) = ((areaR ps).1) := by
   first
     | (have hn : ¬ okL ps := fun h => p1 (decide_eq_true h)
        simp only [areaR, if_neg hn]; done)
     | (simp only [areaR, if_pos hok, if_pos (show (ps.length : Int) < 3 by assumption)]; done)
     | (simp only [areaR, if_pos hok, if_neg (show ¬ (ps.length : Int) < 3 by assumption)]; done)
     | (have hk : k = ps.length := by omega
        simp only [areaR, if_pos hok, if_neg (show ¬ (ps.length : Int) < 3 by assumption), hinv, hk]; done)
 have e1 : (1 : Int) = ((areaR ps).2) := by
   first
     | (have hn : ¬ okL ps := fun h => p1 (decide_eq_true h)
        simp only [areaR, if_neg hn]; done)
     | (simp only [areaR, if_pos hok, if_pos (show (ps.length : Int) < 3 by assumption)]; done)
     | (simp only [areaR, if_pos hok, if_neg (show ¬ (ps.length : Int) < 3 by assumption)]; done)
     | (have hk : k = ps.length := by omega
        simp only [areaR, if_pos hok, if_neg (show ¬ (ps.length : Int) < 3 by assumption), hinv, hk]; done)
 replace hbase := hbase.chg hb2 (not_no _)
 exact ⟨(congr2 (a := 0) (b := 1) (fun (z0 : Int) (z1 : Int) => Ending.returned (Value.tuple (List.toArray [Value.int .i64 z0, Value.int .i64 z1]))) e0 e1), hbase.below⟩

theorem Box_ok (w0 : World) (ps : List ((Int) × (Int))) (ps_v : Value) (hps_v : Ro w0 ps_v ps) :
    Calls Try.prog 28 #[ps_v] w0 (fun ee w => ee = .returned (Value.tuple (List.toArray [Value.agg (List.toArray [Value.int .i64 (((boxR ps).1).1), Value.int .i64 (((boxR ps).1).2)]), Value.agg (List.toArray [Value.int .i64 (((boxR ps).2.1).1), Value.int .i64 (((boxR ps).2.1).2)]), Value.int .i64 ((boxR ps).2.2)])) ∧ RowKit.Below w0.heap.size w0 w) := by
 refine calls_of_run Try.func28 rfl (Nat.le_of_ble_eq_true rfl) ?_
 have hbase := Base.start w0
 have r_ps_v := hps_v.sl
 refine run_seq ?_
 refine run_region rfl ?_
 refine l_op rfl ?_
 refine o_alloc c0 (is 1) (1, 0) rfl tp23_gr ?_
 intro g4 w1 b3 ch2 bx5
 replace bx5 : Bx g4 (is 1) w1 b3 [Value.int .i64 0, Value.int .i64 0] := bx5
 refine l_op rfl ?_
 refine o_alloc g4 (is 2) (2, 0) rfl tp23_gr ?_
 intro g9 w6 b8 ch7 bx10
 replace bx10 : Bx g9 (is 2) w6 b8 [Value.int .i64 0, Value.int .i64 0] := bx10
 refine l_val (v := Value.int .i64 0) rfl (e_assign rfl) ?_
 refine l_nil ?_
 refine run_seq ?_
 refine run_seq ?_
 refine run_region rfl ?_
 refine l_val (v := ps_v) rfl (e_move rfl) ?_
 replace r_ps_v := (r_ps_v.chg ch2 (not_no _)).chg ch7 (not_no _)
 refine l_op rfl ?_
 refine o_call (v := Value.bool (decide (okL ps))) (e_call (vals := [ps_v]) Try.func25 bd25_gr nm25_gr rfl) (GMay_ok w6 ps ps_v (r_ps_v).ro) ?_
 intro w11 hb12
 replace hb12 := chg_below hb12 g9
 refine l_val (v := Value.bool (!(decide (okL ps)))) rfl (e_not (b := (decide (okL ps))) rfl) ?_
 refine l_nil ?_
 by_cases p1 : (decide (okL ps)) = true
 ·
  have hok := of_decide_eq_true p1
  refine run_cond_f rfl (congrArg Bool.not p1) ?_
  refine run_skip ?_
  refine run_seq ?_
  refine run_seq ?_
  refine run_region rfl ?_
  refine l_val (v := ps_v) rfl (e_move rfl) ?_
  replace r_ps_v := r_ps_v.chg hb12 (not_no _)
  have len13 := (r_ps_v).small
  refine l_val (v := Value.int .i64 (List.length ps : Int)) rfl (e_len Try.underlying25 rfl r_ps_v) ?_
  refine l_val (v := Value.bool (decide ((List.length ps : Int) = 0))) rfl (e_eql (m := (List.length ps : Int)) (n := 0) rfl rfl) ?_
  refine l_nil ?_
  by_cases p3 : (List.length ps : Int) = 0
  ·
   refine run_cond_t rfl (decide_eq_true p3) ?_
   refine run_seq ?_
   refine run_region rfl ?_
   refine l_val (v := Value.agg (List.toArray [Value.int .i64 0, Value.int .i64 0])) rfl (e_build (vs := []) rfl (by kernel_rfl)) ?_
   refine l_val (v := Value.agg (List.toArray [Value.int .i64 0, Value.int .i64 0])) rfl (e_build (vs := []) rfl (by kernel_rfl)) ?_
   refine l_op rfl ?_
   replace bx5 := (bx5.chg ch7 (not_no _)).chg hb12 (not_no _)
   refine o_store_bx (cs' := [Value.int .i64 0, Value.int .i64 0]) tp23_gr rfl rfl bx5 rfl (Nat.le_of_ble_eq_true rfl) (AllOne.all (.cons rfl (.cons rfl .nil))) rfl ?_
   intro w14 ch15 bx16
   clear bx5
   refine l_op rfl ?_
   replace bx10 := (bx10.chg hb12 (not_no _)).chg ch15 (is_ne rfl)
   refine o_store_bx (cs' := [Value.int .i64 0, Value.int .i64 0]) tp23_gr rfl rfl bx10 rfl (Nat.le_of_ble_eq_true rfl) (AllOne.all (.cons rfl (.cons rfl .nil))) rfl ?_
   intro w17 ch18 bx19
   clear bx10
   refine l_val (v := Value.int .i64 9) rfl (e_assign rfl) ?_
   refine l_nil ?_
   replace bx16 := bx16.chg ch18 (is_ne rfl)
   refine run_ret (vs := [Value.agg (List.toArray [Value.int .i64 0, Value.int .i64 0]), Value.agg (List.toArray [Value.int .i64 0, Value.int .i64 0]), Value.int .i64 9]) Try.func28 (.cell rfl (load_bxN (ds := [Value.int .i64 0, Value.int .i64 0]) tp23_gr bx16 rfl rfl) (.cell rfl (load_bxN (ds := [Value.int .i64 0, Value.int .i64 0]) tp23_gr bx19 rfl rfl) (.tmp rfl .nil))) ?_
   -- return 0
   have e0 : ((0, 0) : (Int) × (Int)) = ((boxR ps).1) := by
     first
       | (have hn : ¬ okL ps := fun h => p1 (decide_eq_true h)
          simp only [boxR, if_neg hn]; done)
       | (simp only [boxR, if_pos hok, if_pos (show (ps.length : Int) = 0 by assumption)]; done)
       | (have hk : k = ps.length := by omega
          obtain ⟨⟨e1, e2⟩, e3, e4⟩ := hinv
          simp only [boxR, if_pos hok, if_neg (show ¬ (ps.length : Int) = 0 by assumption), e1, e2, e3, e4, hk]; done)
   have e1 : ((0, 0) : (Int) × (Int)) = ((boxR ps).2.1) := by
     first
       | (have hn : ¬ okL ps := fun h => p1 (decide_eq_true h)
          simp only [boxR, if_neg hn]; done)
       | (simp only [boxR, if_pos hok, if_pos (show (ps.length : Int) = 0 by assumption)]; done)
       | (have hk : k = ps.length := by omega
          obtain ⟨⟨e1, e2⟩, e3, e4⟩ := hinv
          simp only [boxR, if_pos hok, if_neg (show ¬ (ps.length : Int) = 0 by assumption), e1, e2, e3, e4, hk]; done)
   have e2 : (9 : Int) = ((boxR ps).2.2) := by
     first
       | (have hn : ¬ okL ps := fun h => p1 (decide_eq_true h)
          simp only [boxR, if_neg hn]; done)
       | (simp only [boxR, if_pos hok, if_pos (show (ps.length : Int) = 0 by assumption)]; done)
       | (have hk : k = ps.length := by omega
          obtain ⟨⟨e1, e2⟩, e3, e4⟩ := hinv
          simp only [boxR, if_pos hok, if_neg (show ¬ (ps.length : Int) = 0 by assumption), e1, e2, e3, e4, hk]; done)
   have C20 : Chg (inl [1, 2]) _ _ _ _ := (ch2.n).seq ((ch7.n).seq ((hb12.n).seq ((ch15.l rfl).seq (ch18.l rfl))))
   replace hbase := hbase.chg C20 (is_nl rfl)
   exact ⟨(congr3 (a := (0, 0)) (b := (0, 0)) (c := 9) (fun (z0 : (Int) × (Int)) (z1 : (Int) × (Int)) (z2 : Int) => Ending.returned (Value.tuple (List.toArray [Value.agg (List.toArray [Value.int .i64 z0.1, Value.int .i64 z0.2]), Value.agg (List.toArray [Value.int .i64 z1.1, Value.int .i64 z1.2]), Value.int .i64 z2]))) e0 e1 e2), hbase.below⟩
  refine run_cond_f rfl (decide_eq_false p3) ?_
  refine run_skip ?_
  refine run_seq ?_
  refine region_midh (σ := Nat × Nat × Cmap) (fun ⟨b25, b31, gq⟩ f w => Base w0 gq w ∧ f 0 = ps_v ∧ f 2 = Value.pointer (some ⟨b3, 0, none⟩) ∧ f 3 = Value.pointer (some ⟨b8, 0, none⟩) ∧ f 5 = Value.pointer (some ⟨b25, 0, none⟩) ∧ f 6 = Value.pointer (some ⟨b31, 0, none⟩) ∧ Sl gq (is 0) w ps_v ps ∧ Bx gq (is 1) w b3 [Value.int .i64 0, Value.int .i64 0] ∧ Bx gq (is 2) w b8 [Value.int .i64 0, Value.int .i64 0] ∧ Bx gq (is 3) w b25 [Value.int .i64 ((gI ps 0).1), Value.int .i64 ((gI ps 0).2)] ∧ Bx gq (is 4) w b31 [Value.int .i64 ((gI ps 0).1), Value.int .i64 ((gI ps 0).2)]) g9 (inl [3, 4]) mixed_gr ?_ ?_
  ·
   intro mid
   intro w22 ch21
   refine h_take (v := ps_v) 0 rfl (by kernel_rfl) (by kernel_rfl) rfl (Chg.refl _ _ _) (fun w' hw' => e_move rfl) ?_
   refine h_take (v := ps_v) 3 rfl (by kernel_rfl) (by kernel_rfl) rfl (Chg.refl _ _ _) (fun w' hw' => e_move rfl) ?_
   refine h_many 1 [4, 6, 7] (by kernel_rfl) ⟨h_of 1 rfl (by kernel_rfl) rfl ?_, h_of 4 rfl (by kernel_rfl) rfl ?_, h_of 6 rfl (by kernel_rfl) rfl ?_, h_of 7 rfl (by kernel_rfl) rfl ?_, trivial⟩
   ·
    replace r_ps_v := r_ps_v.chg ch21 (not_no _)
    refine o_of_val (v := Value.pointer (some (eAddr ps_v 2 (Int.toNat 0)))) (e_indexAddr (α := (Int) × (Int)) (xs := ps) (v := ps_v) (i := 0) Try.underlying25 rfl rfl r_ps_v rfl (by omega) (by omega)) ?_
    refine ⟨(Chg.refl _ _ _), ?_⟩
    refine h_take (v := Value.agg (List.toArray [Value.int .i64 ((gI ps 0).1), Value.int .i64 ((gI ps 0).2)])) 2 rfl (by kernel_rfl) (by kernel_rfl) rfl (Chg.refl _ _ _) (fun w' hw' => e_load_elN (α := (Int) × (Int)) (xs := ps) (v := ps_v) (i := 0) tp23_gr rfl (r_ps_v.chg hw' (is_nl rfl)) (by omega) (by omega) rfl) ?_
    refine h_many 4 [6, 7] (by kernel_rfl) ⟨h_of 4 rfl (by kernel_rfl) rfl ?_, h_of 6 rfl (by kernel_rfl) rfl ?_, h_of 7 rfl (by kernel_rfl) rfl ?_, trivial⟩
    ·
     refine o_of_val (v := Value.pointer (some (eAddr ps_v 2 (Int.toNat 0)))) (e_indexAddr (α := (Int) × (Int)) (xs := ps) (v := ps_v) (i := 0) Try.underlying25 rfl rfl r_ps_v rfl (by omega) (by omega)) ?_
     refine ⟨(Chg.refl _ _ _), ?_⟩
     refine h_take (v := Value.agg (List.toArray [Value.int .i64 ((gI ps 0).1), Value.int .i64 ((gI ps 0).2)])) 5 rfl (by kernel_rfl) (by kernel_rfl) rfl (Chg.refl _ _ _) (fun w' hw' => e_load_elN (α := (Int) × (Int)) (xs := ps) (v := ps_v) (i := 0) tp23_gr rfl (r_ps_v.chg hw' (is_nl rfl)) (by omega) (by omega) rfl) ?_
     refine h_many 6 [7] (by kernel_rfl) ⟨h_of 6 rfl (by kernel_rfl) rfl ?_, h_of 7 rfl (by kernel_rfl) rfl ?_, trivial⟩
     ·
      refine o_alloc g9 (is 3) (3, 0) rfl tp23_gr ?_
      intro g26 w23 b25 ch24 bx27
      replace bx27 : Bx g26 (is 3) w23 b25 [Value.int .i64 0, Value.int .i64 0] := bx27
      have hs28 : Chg (inl [3, 4]) _ _ _ _ := ch24.n
      refine ⟨hs28.same, ?_⟩
      refine h_one 7 rfl (by kernel_rfl) rfl ?_
      refine o_alloc g26 (is 4) (4, 0) rfl tp23_gr ?_
      intro g32 w29 b31 ch30 bx33
      replace bx33 : Bx g32 (is 4) w29 b31 [Value.int .i64 0, Value.int .i64 0] := bx33
      have hs34 := hs28.seq (ch30.n)
      refine ⟨hs34.same, ?_⟩
      refine h_one 8 rfl (by kernel_rfl) rfl ?_
      replace bx27 := bx27.chg ch30 (not_no _)
      refine o_store_bx (cs' := [Value.int .i64 ((gI ps 0).1), Value.int .i64 ((gI ps 0).2)]) tp23_gr rfl rfl bx27 rfl (Nat.le_of_ble_eq_true rfl) (AllOne.all (.cons rfl (.cons rfl .nil))) rfl ?_
      intro w35 ch36 bx37
      clear bx27
      have hs38 := hs34.seq (ch36.l rfl)
      refine ⟨hs38.same, ?_⟩
      refine h_one 9 rfl (by kernel_rfl) rfl ?_
      replace bx33 := bx33.chg ch36 (is_ne rfl)
      refine o_store_bx (cs' := [Value.int .i64 ((gI ps 0).1), Value.int .i64 ((gI ps 0).2)]) tp23_gr rfl rfl bx33 rfl (Nat.le_of_ble_eq_true rfl) (AllOne.all (.cons rfl (.cons rfl .nil))) rfl ?_
      intro w39 ch40 bx41
      clear bx33
      have hs42 := hs38.seq (ch40.l rfl)
      refine ⟨hs42.same, ?_⟩
      refine h_nil (by kernel_rfl) ?_
      have C43 : Chg (inl [3, 4]) _ _ _ _ := (ch2.n).seq ((ch7.n).seq ((hb12.n).seq ((ch21.n).seq ((ch24.n).seq ((ch30.n).seq ((ch36.l rfl).seq (ch40.l rfl)))))))
      replace hbase := hbase.chg C43 (is_nl rfl)
      have C44 : Chg (inl []) _ _ _ _ := (ch7.n).seq ((hb12.n).seq (ch21.n))
      replace bx5 := bx5.chg C44 (is_nl rfl)
      replace bx10 := (bx10.chg hb12 (not_no _)).chg ch21 (not_no _)
      replace bx37 := bx37.chg ch40 (is_ne rfl)
      exact mid (b25, b31, g32) _ _ ⟨hbase, rfl, rfl, rfl, rfl, rfl, (r_ps_v.chg hs42 (is_nl rfl)), (bx5.chg hs42 (is_nl rfl)), (bx10.chg hs42 (is_nl rfl)), bx37, bx41⟩
     ·
      refine o_alloc g9 (is 4) (4, 0) rfl tp23_gr ?_
      intro g48 w45 b47 ch46 bx49
      replace bx49 : Bx g48 (is 4) w45 b47 [Value.int .i64 0, Value.int .i64 0] := bx49
      have hs50 : Chg (inl [3, 4]) _ _ _ _ := ch46.n
      refine ⟨hs50.same, ?_⟩
      refine h_one 6 rfl (by kernel_rfl) rfl ?_
      refine o_alloc g48 (is 3) (3, 0) rfl tp23_gr ?_
      intro g54 w51 b53 ch52 bx55
      replace bx55 : Bx g54 (is 3) w51 b53 [Value.int .i64 0, Value.int .i64 0] := bx55
      have hs56 := hs50.seq (ch52.n)
      refine ⟨hs56.same, ?_⟩
      refine h_one 8 rfl (by kernel_rfl) rfl ?_
      refine o_store_bx (cs' := [Value.int .i64 ((gI ps 0).1), Value.int .i64 ((gI ps 0).2)]) tp23_gr rfl rfl bx55 rfl (Nat.le_of_ble_eq_true rfl) (AllOne.all (.cons rfl (.cons rfl .nil))) rfl ?_
      intro w57 ch58 bx59
      clear bx55
      have hs60 := hs56.seq (ch58.l rfl)
      refine ⟨hs60.same, ?_⟩
      refine h_one 9 rfl (by kernel_rfl) rfl ?_
      replace bx49 := (bx49.chg ch52 (not_no _)).chg ch58 (is_ne rfl)
      refine o_store_bx (cs' := [Value.int .i64 ((gI ps 0).1), Value.int .i64 ((gI ps 0).2)]) tp23_gr rfl rfl bx49 rfl (Nat.le_of_ble_eq_true rfl) (AllOne.all (.cons rfl (.cons rfl .nil))) rfl ?_
      intro w61 ch62 bx63
      clear bx49
      have hs64 := hs60.seq (ch62.l rfl)
      refine ⟨hs64.same, ?_⟩
      refine h_nil (by kernel_rfl) ?_
      have C65 : Chg (inl [3, 4]) _ _ _ _ := (ch2.n).seq ((ch7.n).seq ((hb12.n).seq ((ch21.n).seq ((ch46.n).seq ((ch52.n).seq ((ch58.l rfl).seq (ch62.l rfl)))))))
      replace hbase := hbase.chg C65 (is_nl rfl)
      have C66 : Chg (inl []) _ _ _ _ := (ch7.n).seq ((hb12.n).seq (ch21.n))
      replace bx5 := bx5.chg C66 (is_nl rfl)
      replace bx10 := (bx10.chg hb12 (not_no _)).chg ch21 (not_no _)
      replace bx59 := bx59.chg ch62 (is_ne rfl)
      exact mid (b53, b47, g54) _ _ ⟨hbase, rfl, rfl, rfl, rfl, rfl, (r_ps_v.chg hs64 (is_nl rfl)), (bx5.chg hs64 (is_nl rfl)), (bx10.chg hs64 (is_nl rfl)), bx59, bx63⟩
    ·
     refine o_alloc g9 (is 3) (3, 0) rfl tp23_gr ?_
     intro g70 w67 b69 ch68 bx71
     replace bx71 : Bx g70 (is 3) w67 b69 [Value.int .i64 0, Value.int .i64 0] := bx71
     have hs72 : Chg (inl [3, 4]) _ _ _ _ := ch68.n
     refine ⟨hs72.same, ?_⟩
     refine h_many 4 [7] (by kernel_rfl) ⟨h_of 4 rfl (by kernel_rfl) rfl ?_, h_of 7 rfl (by kernel_rfl) rfl ?_, trivial⟩
     ·
      refine o_of_val (v := Value.pointer (some (eAddr ps_v 2 (Int.toNat 0)))) (e_indexAddr (α := (Int) × (Int)) (xs := ps) (v := ps_v) (i := 0) Try.underlying25 rfl rfl (r_ps_v.chg hs72 (is_nl rfl)) rfl (by omega) (by omega)) ?_
      refine ⟨hs72.same, ?_⟩
      refine h_take (v := Value.agg (List.toArray [Value.int .i64 ((gI ps 0).1), Value.int .i64 ((gI ps 0).2)])) 5 rfl (by kernel_rfl) (by kernel_rfl) rfl hs72.same (fun w' hw' => e_load_elN (α := (Int) × (Int)) (xs := ps) (v := ps_v) (i := 0) tp23_gr rfl (r_ps_v.chg hw' (is_nl rfl)) (by omega) (by omega) rfl) ?_
      refine h_one 7 rfl (by kernel_rfl) rfl ?_
      refine o_alloc g70 (is 4) (4, 0) rfl tp23_gr ?_
      intro g76 w73 b75 ch74 bx77
      replace bx77 : Bx g76 (is 4) w73 b75 [Value.int .i64 0, Value.int .i64 0] := bx77
      have hs78 := hs72.seq (ch74.n)
      refine ⟨hs78.same, ?_⟩
      refine h_one 8 rfl (by kernel_rfl) rfl ?_
      replace bx71 := bx71.chg ch74 (not_no _)
      refine o_store_bx (cs' := [Value.int .i64 ((gI ps 0).1), Value.int .i64 ((gI ps 0).2)]) tp23_gr rfl rfl bx71 rfl (Nat.le_of_ble_eq_true rfl) (AllOne.all (.cons rfl (.cons rfl .nil))) rfl ?_
      intro w79 ch80 bx81
      clear bx71
      have hs82 := hs78.seq (ch80.l rfl)
      refine ⟨hs82.same, ?_⟩
      refine h_one 9 rfl (by kernel_rfl) rfl ?_
      replace bx77 := bx77.chg ch80 (is_ne rfl)
      refine o_store_bx (cs' := [Value.int .i64 ((gI ps 0).1), Value.int .i64 ((gI ps 0).2)]) tp23_gr rfl rfl bx77 rfl (Nat.le_of_ble_eq_true rfl) (AllOne.all (.cons rfl (.cons rfl .nil))) rfl ?_
      intro w83 ch84 bx85
      clear bx77
      have hs86 := hs82.seq (ch84.l rfl)
      refine ⟨hs86.same, ?_⟩
      refine h_nil (by kernel_rfl) ?_
      have C87 : Chg (inl [3, 4]) _ _ _ _ := (ch2.n).seq ((ch7.n).seq ((hb12.n).seq ((ch21.n).seq ((ch68.n).seq ((ch74.n).seq ((ch80.l rfl).seq (ch84.l rfl)))))))
      replace hbase := hbase.chg C87 (is_nl rfl)
      have C88 : Chg (inl []) _ _ _ _ := (ch7.n).seq ((hb12.n).seq (ch21.n))
      replace bx5 := bx5.chg C88 (is_nl rfl)
      replace bx10 := (bx10.chg hb12 (not_no _)).chg ch21 (not_no _)
      replace bx81 := bx81.chg ch84 (is_ne rfl)
      exact mid (b69, b75, g76) _ _ ⟨hbase, rfl, rfl, rfl, rfl, rfl, (r_ps_v.chg hs86 (is_nl rfl)), (bx5.chg hs86 (is_nl rfl)), (bx10.chg hs86 (is_nl rfl)), bx81, bx85⟩
     ·
      refine o_alloc g70 (is 4) (4, 0) rfl tp23_gr ?_
      intro g92 w89 b91 ch90 bx93
      replace bx93 : Bx g92 (is 4) w89 b91 [Value.int .i64 0, Value.int .i64 0] := bx93
      have hs94 := hs72.seq (ch90.n)
      refine ⟨hs94.same, ?_⟩
      refine h_many 4 [8] (by kernel_rfl) ⟨h_of 4 rfl (by kernel_rfl) rfl ?_, h_of 8 rfl (by kernel_rfl) rfl ?_, trivial⟩
      ·
       refine o_of_val (v := Value.pointer (some (eAddr ps_v 2 (Int.toNat 0)))) (e_indexAddr (α := (Int) × (Int)) (xs := ps) (v := ps_v) (i := 0) Try.underlying25 rfl rfl (r_ps_v.chg hs94 (is_nl rfl)) rfl (by omega) (by omega)) ?_
       refine ⟨hs94.same, ?_⟩
       refine h_take (v := Value.agg (List.toArray [Value.int .i64 ((gI ps 0).1), Value.int .i64 ((gI ps 0).2)])) 5 rfl (by kernel_rfl) (by kernel_rfl) rfl hs94.same (fun w' hw' => e_load_elN (α := (Int) × (Int)) (xs := ps) (v := ps_v) (i := 0) tp23_gr rfl (r_ps_v.chg hw' (is_nl rfl)) (by omega) (by omega) rfl) ?_
       refine h_one 8 rfl (by kernel_rfl) rfl ?_
       replace bx71 := bx71.chg ch90 (not_no _)
       refine o_store_bx (cs' := [Value.int .i64 ((gI ps 0).1), Value.int .i64 ((gI ps 0).2)]) tp23_gr rfl rfl bx71 rfl (Nat.le_of_ble_eq_true rfl) (AllOne.all (.cons rfl (.cons rfl .nil))) rfl ?_
       intro w95 ch96 bx97
       clear bx71
       have hs98 := hs94.seq (ch96.l rfl)
       refine ⟨hs98.same, ?_⟩
       refine h_one 9 rfl (by kernel_rfl) rfl ?_
       replace bx93 := bx93.chg ch96 (is_ne rfl)
       refine o_store_bx (cs' := [Value.int .i64 ((gI ps 0).1), Value.int .i64 ((gI ps 0).2)]) tp23_gr rfl rfl bx93 rfl (Nat.le_of_ble_eq_true rfl) (AllOne.all (.cons rfl (.cons rfl .nil))) rfl ?_
       intro w99 ch100 bx101
       clear bx93
       have hs102 := hs98.seq (ch100.l rfl)
       refine ⟨hs102.same, ?_⟩
       refine h_nil (by kernel_rfl) ?_
       have C103 : Chg (inl [3, 4]) _ _ _ _ := (ch2.n).seq ((ch7.n).seq ((hb12.n).seq ((ch21.n).seq ((ch68.n).seq ((ch90.n).seq ((ch96.l rfl).seq (ch100.l rfl)))))))
       replace hbase := hbase.chg C103 (is_nl rfl)
       have C104 : Chg (inl []) _ _ _ _ := (ch7.n).seq ((hb12.n).seq (ch21.n))
       replace bx5 := bx5.chg C104 (is_nl rfl)
       replace bx10 := (bx10.chg hb12 (not_no _)).chg ch21 (not_no _)
       replace bx97 := bx97.chg ch100 (is_ne rfl)
       exact mid (b69, b91, g92) _ _ ⟨hbase, rfl, rfl, rfl, rfl, rfl, (r_ps_v.chg hs102 (is_nl rfl)), (bx5.chg hs102 (is_nl rfl)), (bx10.chg hs102 (is_nl rfl)), bx97, bx101⟩
      ·
       replace bx71 := bx71.chg ch90 (not_no _)
       refine o_store_bx (cs' := [Value.int .i64 ((gI ps 0).1), Value.int .i64 ((gI ps 0).2)]) tp23_gr rfl rfl bx71 rfl (Nat.le_of_ble_eq_true rfl) (AllOne.all (.cons rfl (.cons rfl .nil))) rfl ?_
       intro w105 ch106 bx107
       clear bx71
       have hs108 := hs94.seq (ch106.l rfl)
       refine ⟨hs108.same, ?_⟩
       refine h_one 4 rfl (by kernel_rfl) rfl ?_
       refine o_of_val (v := Value.pointer (some (eAddr ps_v 2 (Int.toNat 0)))) (e_indexAddr (α := (Int) × (Int)) (xs := ps) (v := ps_v) (i := 0) Try.underlying25 rfl rfl (r_ps_v.chg hs108 (is_nl rfl)) rfl (by omega) (by omega)) ?_
       refine ⟨hs108.same, ?_⟩
       refine h_take (v := Value.agg (List.toArray [Value.int .i64 ((gI ps 0).1), Value.int .i64 ((gI ps 0).2)])) 5 rfl (by kernel_rfl) (by kernel_rfl) rfl hs108.same (fun w' hw' => e_load_elN (α := (Int) × (Int)) (xs := ps) (v := ps_v) (i := 0) tp23_gr rfl (r_ps_v.chg hw' (is_nl rfl)) (by omega) (by omega) rfl) ?_
       refine h_one 9 rfl (by kernel_rfl) rfl ?_
       replace bx93 := bx93.chg ch106 (is_ne rfl)
       refine o_store_bx (cs' := [Value.int .i64 ((gI ps 0).1), Value.int .i64 ((gI ps 0).2)]) tp23_gr rfl rfl bx93 rfl (Nat.le_of_ble_eq_true rfl) (AllOne.all (.cons rfl (.cons rfl .nil))) rfl ?_
       intro w109 ch110 bx111
       clear bx93
       have hs112 := hs108.seq (ch110.l rfl)
       refine ⟨hs112.same, ?_⟩
       refine h_nil (by kernel_rfl) ?_
       have C113 : Chg (inl [3, 4]) _ _ _ _ := (ch2.n).seq ((ch7.n).seq ((hb12.n).seq ((ch21.n).seq ((ch68.n).seq ((ch90.n).seq ((ch106.l rfl).seq (ch110.l rfl)))))))
       replace hbase := hbase.chg C113 (is_nl rfl)
       have C114 : Chg (inl []) _ _ _ _ := (ch7.n).seq ((hb12.n).seq (ch21.n))
       replace bx5 := bx5.chg C114 (is_nl rfl)
       replace bx10 := (bx10.chg hb12 (not_no _)).chg ch21 (not_no _)
       replace bx107 := bx107.chg ch110 (is_ne rfl)
       exact mid (b69, b91, g92) _ _ ⟨hbase, rfl, rfl, rfl, rfl, rfl, (r_ps_v.chg hs112 (is_nl rfl)), (bx5.chg hs112 (is_nl rfl)), (bx10.chg hs112 (is_nl rfl)), bx107, bx111⟩
    ·
     refine o_alloc g9 (is 4) (4, 0) rfl tp23_gr ?_
     intro g118 w115 b117 ch116 bx119
     replace bx119 : Bx g118 (is 4) w115 b117 [Value.int .i64 0, Value.int .i64 0] := bx119
     have hs120 : Chg (inl [3, 4]) _ _ _ _ := ch116.n
     refine ⟨hs120.same, ?_⟩
     refine h_many 4 [6] (by kernel_rfl) ⟨h_of 4 rfl (by kernel_rfl) rfl ?_, h_of 6 rfl (by kernel_rfl) rfl ?_, trivial⟩
     ·
      refine o_of_val (v := Value.pointer (some (eAddr ps_v 2 (Int.toNat 0)))) (e_indexAddr (α := (Int) × (Int)) (xs := ps) (v := ps_v) (i := 0) Try.underlying25 rfl rfl (r_ps_v.chg hs120 (is_nl rfl)) rfl (by omega) (by omega)) ?_
      refine ⟨hs120.same, ?_⟩
      refine h_take (v := Value.agg (List.toArray [Value.int .i64 ((gI ps 0).1), Value.int .i64 ((gI ps 0).2)])) 5 rfl (by kernel_rfl) (by kernel_rfl) rfl hs120.same (fun w' hw' => e_load_elN (α := (Int) × (Int)) (xs := ps) (v := ps_v) (i := 0) tp23_gr rfl (r_ps_v.chg hw' (is_nl rfl)) (by omega) (by omega) rfl) ?_
      refine h_one 6 rfl (by kernel_rfl) rfl ?_
      refine o_alloc g118 (is 3) (3, 0) rfl tp23_gr ?_
      intro g124 w121 b123 ch122 bx125
      replace bx125 : Bx g124 (is 3) w121 b123 [Value.int .i64 0, Value.int .i64 0] := bx125
      have hs126 := hs120.seq (ch122.n)
      refine ⟨hs126.same, ?_⟩
      refine h_one 8 rfl (by kernel_rfl) rfl ?_
      refine o_store_bx (cs' := [Value.int .i64 ((gI ps 0).1), Value.int .i64 ((gI ps 0).2)]) tp23_gr rfl rfl bx125 rfl (Nat.le_of_ble_eq_true rfl) (AllOne.all (.cons rfl (.cons rfl .nil))) rfl ?_
      intro w127 ch128 bx129
      clear bx125
      have hs130 := hs126.seq (ch128.l rfl)
      refine ⟨hs130.same, ?_⟩
      refine h_one 9 rfl (by kernel_rfl) rfl ?_
      replace bx119 := (bx119.chg ch122 (not_no _)).chg ch128 (is_ne rfl)
      refine o_store_bx (cs' := [Value.int .i64 ((gI ps 0).1), Value.int .i64 ((gI ps 0).2)]) tp23_gr rfl rfl bx119 rfl (Nat.le_of_ble_eq_true rfl) (AllOne.all (.cons rfl (.cons rfl .nil))) rfl ?_
      intro w131 ch132 bx133
      clear bx119
      have hs134 := hs130.seq (ch132.l rfl)
      refine ⟨hs134.same, ?_⟩
      refine h_nil (by kernel_rfl) ?_
      have C135 : Chg (inl [3, 4]) _ _ _ _ := (ch2.n).seq ((ch7.n).seq ((hb12.n).seq ((ch21.n).seq ((ch116.n).seq ((ch122.n).seq ((ch128.l rfl).seq (ch132.l rfl)))))))
      replace hbase := hbase.chg C135 (is_nl rfl)
      have C136 : Chg (inl []) _ _ _ _ := (ch7.n).seq ((hb12.n).seq (ch21.n))
      replace bx5 := bx5.chg C136 (is_nl rfl)
      replace bx10 := (bx10.chg hb12 (not_no _)).chg ch21 (not_no _)
      replace bx129 := bx129.chg ch132 (is_ne rfl)
      exact mid (b123, b117, g124) _ _ ⟨hbase, rfl, rfl, rfl, rfl, rfl, (r_ps_v.chg hs134 (is_nl rfl)), (bx5.chg hs134 (is_nl rfl)), (bx10.chg hs134 (is_nl rfl)), bx129, bx133⟩
     ·
      refine o_alloc g118 (is 3) (3, 0) rfl tp23_gr ?_
      intro g140 w137 b139 ch138 bx141
      replace bx141 : Bx g140 (is 3) w137 b139 [Value.int .i64 0, Value.int .i64 0] := bx141
      have hs142 := hs120.seq (ch138.n)
      refine ⟨hs142.same, ?_⟩
      refine h_many 4 [8] (by kernel_rfl) ⟨h_of 4 rfl (by kernel_rfl) rfl ?_, h_of 8 rfl (by kernel_rfl) rfl ?_, trivial⟩
      ·
       refine o_of_val (v := Value.pointer (some (eAddr ps_v 2 (Int.toNat 0)))) (e_indexAddr (α := (Int) × (Int)) (xs := ps) (v := ps_v) (i := 0) Try.underlying25 rfl rfl (r_ps_v.chg hs142 (is_nl rfl)) rfl (by omega) (by omega)) ?_
       refine ⟨hs142.same, ?_⟩
       refine h_take (v := Value.agg (List.toArray [Value.int .i64 ((gI ps 0).1), Value.int .i64 ((gI ps 0).2)])) 5 rfl (by kernel_rfl) (by kernel_rfl) rfl hs142.same (fun w' hw' => e_load_elN (α := (Int) × (Int)) (xs := ps) (v := ps_v) (i := 0) tp23_gr rfl (r_ps_v.chg hw' (is_nl rfl)) (by omega) (by omega) rfl) ?_
       refine h_one 8 rfl (by kernel_rfl) rfl ?_
       refine o_store_bx (cs' := [Value.int .i64 ((gI ps 0).1), Value.int .i64 ((gI ps 0).2)]) tp23_gr rfl rfl bx141 rfl (Nat.le_of_ble_eq_true rfl) (AllOne.all (.cons rfl (.cons rfl .nil))) rfl ?_
       intro w143 ch144 bx145
       clear bx141
       have hs146 := hs142.seq (ch144.l rfl)
       refine ⟨hs146.same, ?_⟩
       refine h_one 9 rfl (by kernel_rfl) rfl ?_
       replace bx119 := (bx119.chg ch138 (not_no _)).chg ch144 (is_ne rfl)
       refine o_store_bx (cs' := [Value.int .i64 ((gI ps 0).1), Value.int .i64 ((gI ps 0).2)]) tp23_gr rfl rfl bx119 rfl (Nat.le_of_ble_eq_true rfl) (AllOne.all (.cons rfl (.cons rfl .nil))) rfl ?_
       intro w147 ch148 bx149
       clear bx119
       have hs150 := hs146.seq (ch148.l rfl)
       refine ⟨hs150.same, ?_⟩
       refine h_nil (by kernel_rfl) ?_
       have C151 : Chg (inl [3, 4]) _ _ _ _ := (ch2.n).seq ((ch7.n).seq ((hb12.n).seq ((ch21.n).seq ((ch116.n).seq ((ch138.n).seq ((ch144.l rfl).seq (ch148.l rfl)))))))
       replace hbase := hbase.chg C151 (is_nl rfl)
       have C152 : Chg (inl []) _ _ _ _ := (ch7.n).seq ((hb12.n).seq (ch21.n))
       replace bx5 := bx5.chg C152 (is_nl rfl)
       replace bx10 := (bx10.chg hb12 (not_no _)).chg ch21 (not_no _)
       replace bx145 := bx145.chg ch148 (is_ne rfl)
       exact mid (b139, b117, g140) _ _ ⟨hbase, rfl, rfl, rfl, rfl, rfl, (r_ps_v.chg hs150 (is_nl rfl)), (bx5.chg hs150 (is_nl rfl)), (bx10.chg hs150 (is_nl rfl)), bx145, bx149⟩
      ·
       refine o_store_bx (cs' := [Value.int .i64 ((gI ps 0).1), Value.int .i64 ((gI ps 0).2)]) tp23_gr rfl rfl bx141 rfl (Nat.le_of_ble_eq_true rfl) (AllOne.all (.cons rfl (.cons rfl .nil))) rfl ?_
       intro w153 ch154 bx155
       clear bx141
       have hs156 := hs142.seq (ch154.l rfl)
       refine ⟨hs156.same, ?_⟩
       refine h_one 4 rfl (by kernel_rfl) rfl ?_
       refine o_of_val (v := Value.pointer (some (eAddr ps_v 2 (Int.toNat 0)))) (e_indexAddr (α := (Int) × (Int)) (xs := ps) (v := ps_v) (i := 0) Try.underlying25 rfl rfl (r_ps_v.chg hs156 (is_nl rfl)) rfl (by omega) (by omega)) ?_
       refine ⟨hs156.same, ?_⟩
       refine h_take (v := Value.agg (List.toArray [Value.int .i64 ((gI ps 0).1), Value.int .i64 ((gI ps 0).2)])) 5 rfl (by kernel_rfl) (by kernel_rfl) rfl hs156.same (fun w' hw' => e_load_elN (α := (Int) × (Int)) (xs := ps) (v := ps_v) (i := 0) tp23_gr rfl (r_ps_v.chg hw' (is_nl rfl)) (by omega) (by omega) rfl) ?_
       refine h_one 9 rfl (by kernel_rfl) rfl ?_
       replace bx119 := (bx119.chg ch138 (not_no _)).chg ch154 (is_ne rfl)
       refine o_store_bx (cs' := [Value.int .i64 ((gI ps 0).1), Value.int .i64 ((gI ps 0).2)]) tp23_gr rfl rfl bx119 rfl (Nat.le_of_ble_eq_true rfl) (AllOne.all (.cons rfl (.cons rfl .nil))) rfl ?_
       intro w157 ch158 bx159
       clear bx119
       have hs160 := hs156.seq (ch158.l rfl)
       refine ⟨hs160.same, ?_⟩
       refine h_nil (by kernel_rfl) ?_
       have C161 : Chg (inl [3, 4]) _ _ _ _ := (ch2.n).seq ((ch7.n).seq ((hb12.n).seq ((ch21.n).seq ((ch116.n).seq ((ch138.n).seq ((ch154.l rfl).seq (ch158.l rfl)))))))
       replace hbase := hbase.chg C161 (is_nl rfl)
       have C162 : Chg (inl []) _ _ _ _ := (ch7.n).seq ((hb12.n).seq (ch21.n))
       replace bx5 := bx5.chg C162 (is_nl rfl)
       replace bx10 := (bx10.chg hb12 (not_no _)).chg ch21 (not_no _)
       replace bx155 := bx155.chg ch158 (is_ne rfl)
       exact mid (b139, b117, g140) _ _ ⟨hbase, rfl, rfl, rfl, rfl, rfl, (r_ps_v.chg hs160 (is_nl rfl)), (bx5.chg hs160 (is_nl rfl)), (bx10.chg hs160 (is_nl rfl)), bx155, bx159⟩
   ·
    replace r_ps_v := r_ps_v.chg ch21 (not_no _)
    refine o_of_val (v := Value.pointer (some (eAddr ps_v 2 (Int.toNat 0)))) (e_indexAddr (α := (Int) × (Int)) (xs := ps) (v := ps_v) (i := 0) Try.underlying25 rfl rfl r_ps_v rfl (by omega) (by omega)) ?_
    refine ⟨(Chg.refl _ _ _), ?_⟩
    refine h_take (v := Value.agg (List.toArray [Value.int .i64 ((gI ps 0).1), Value.int .i64 ((gI ps 0).2)])) 5 rfl (by kernel_rfl) (by kernel_rfl) rfl (Chg.refl _ _ _) (fun w' hw' => e_load_elN (α := (Int) × (Int)) (xs := ps) (v := ps_v) (i := 0) tp23_gr rfl (r_ps_v.chg hw' (is_nl rfl)) (by omega) (by omega) rfl) ?_
    refine h_many 1 [6, 7] (by kernel_rfl) ⟨h_of 1 rfl (by kernel_rfl) rfl ?_, h_of 6 rfl (by kernel_rfl) rfl ?_, h_of 7 rfl (by kernel_rfl) rfl ?_, trivial⟩
    ·
     refine o_of_val (v := Value.pointer (some (eAddr ps_v 2 (Int.toNat 0)))) (e_indexAddr (α := (Int) × (Int)) (xs := ps) (v := ps_v) (i := 0) Try.underlying25 rfl rfl r_ps_v rfl (by omega) (by omega)) ?_
     refine ⟨(Chg.refl _ _ _), ?_⟩
     refine h_take (v := Value.agg (List.toArray [Value.int .i64 ((gI ps 0).1), Value.int .i64 ((gI ps 0).2)])) 2 rfl (by kernel_rfl) (by kernel_rfl) rfl (Chg.refl _ _ _) (fun w' hw' => e_load_elN (α := (Int) × (Int)) (xs := ps) (v := ps_v) (i := 0) tp23_gr rfl (r_ps_v.chg hw' (is_nl rfl)) (by omega) (by omega) rfl) ?_
     refine h_many 6 [7] (by kernel_rfl) ⟨h_of 6 rfl (by kernel_rfl) rfl ?_, h_of 7 rfl (by kernel_rfl) rfl ?_, trivial⟩
     ·
      refine o_alloc g9 (is 3) (3, 0) rfl tp23_gr ?_
      intro g166 w163 b165 ch164 bx167
      replace bx167 : Bx g166 (is 3) w163 b165 [Value.int .i64 0, Value.int .i64 0] := bx167
      have hs168 : Chg (inl [3, 4]) _ _ _ _ := ch164.n
      refine ⟨hs168.same, ?_⟩
      refine h_one 7 rfl (by kernel_rfl) rfl ?_
      refine o_alloc g166 (is 4) (4, 0) rfl tp23_gr ?_
      intro g172 w169 b171 ch170 bx173
      replace bx173 : Bx g172 (is 4) w169 b171 [Value.int .i64 0, Value.int .i64 0] := bx173
      have hs174 := hs168.seq (ch170.n)
      refine ⟨hs174.same, ?_⟩
      refine h_one 8 rfl (by kernel_rfl) rfl ?_
      replace bx167 := bx167.chg ch170 (not_no _)
      refine o_store_bx (cs' := [Value.int .i64 ((gI ps 0).1), Value.int .i64 ((gI ps 0).2)]) tp23_gr rfl rfl bx167 rfl (Nat.le_of_ble_eq_true rfl) (AllOne.all (.cons rfl (.cons rfl .nil))) rfl ?_
      intro w175 ch176 bx177
      clear bx167
      have hs178 := hs174.seq (ch176.l rfl)
      refine ⟨hs178.same, ?_⟩
      refine h_one 9 rfl (by kernel_rfl) rfl ?_
      replace bx173 := bx173.chg ch176 (is_ne rfl)
      refine o_store_bx (cs' := [Value.int .i64 ((gI ps 0).1), Value.int .i64 ((gI ps 0).2)]) tp23_gr rfl rfl bx173 rfl (Nat.le_of_ble_eq_true rfl) (AllOne.all (.cons rfl (.cons rfl .nil))) rfl ?_
      intro w179 ch180 bx181
      clear bx173
      have hs182 := hs178.seq (ch180.l rfl)
      refine ⟨hs182.same, ?_⟩
      refine h_nil (by kernel_rfl) ?_
      have C183 : Chg (inl [3, 4]) _ _ _ _ := (ch2.n).seq ((ch7.n).seq ((hb12.n).seq ((ch21.n).seq ((ch164.n).seq ((ch170.n).seq ((ch176.l rfl).seq (ch180.l rfl)))))))
      replace hbase := hbase.chg C183 (is_nl rfl)
      have C184 : Chg (inl []) _ _ _ _ := (ch7.n).seq ((hb12.n).seq (ch21.n))
      replace bx5 := bx5.chg C184 (is_nl rfl)
      replace bx10 := (bx10.chg hb12 (not_no _)).chg ch21 (not_no _)
      replace bx177 := bx177.chg ch180 (is_ne rfl)
      exact mid (b165, b171, g172) _ _ ⟨hbase, rfl, rfl, rfl, rfl, rfl, (r_ps_v.chg hs182 (is_nl rfl)), (bx5.chg hs182 (is_nl rfl)), (bx10.chg hs182 (is_nl rfl)), bx177, bx181⟩
     ·
      refine o_alloc g9 (is 4) (4, 0) rfl tp23_gr ?_
      intro g188 w185 b187 ch186 bx189
      replace bx189 : Bx g188 (is 4) w185 b187 [Value.int .i64 0, Value.int .i64 0] := bx189
      have hs190 : Chg (inl [3, 4]) _ _ _ _ := ch186.n
      refine ⟨hs190.same, ?_⟩
      refine h_one 6 rfl (by kernel_rfl) rfl ?_
      refine o_alloc g188 (is 3) (3, 0) rfl tp23_gr ?_
      intro g194 w191 b193 ch192 bx195
      replace bx195 : Bx g194 (is 3) w191 b193 [Value.int .i64 0, Value.int .i64 0] := bx195
      have hs196 := hs190.seq (ch192.n)
      refine ⟨hs196.same, ?_⟩
      refine h_one 8 rfl (by kernel_rfl) rfl ?_
      refine o_store_bx (cs' := [Value.int .i64 ((gI ps 0).1), Value.int .i64 ((gI ps 0).2)]) tp23_gr rfl rfl bx195 rfl (Nat.le_of_ble_eq_true rfl) (AllOne.all (.cons rfl (.cons rfl .nil))) rfl ?_
      intro w197 ch198 bx199
      clear bx195
      have hs200 := hs196.seq (ch198.l rfl)
      refine ⟨hs200.same, ?_⟩
      refine h_one 9 rfl (by kernel_rfl) rfl ?_
      replace bx189 := (bx189.chg ch192 (not_no _)).chg ch198 (is_ne rfl)
      refine o_store_bx (cs' := [Value.int .i64 ((gI ps 0).1), Value.int .i64 ((gI ps 0).2)]) tp23_gr rfl rfl bx189 rfl (Nat.le_of_ble_eq_true rfl) (AllOne.all (.cons rfl (.cons rfl .nil))) rfl ?_
      intro w201 ch202 bx203
      clear bx189
      have hs204 := hs200.seq (ch202.l rfl)
      refine ⟨hs204.same, ?_⟩
      refine h_nil (by kernel_rfl) ?_
      have C205 : Chg (inl [3, 4]) _ _ _ _ := (ch2.n).seq ((ch7.n).seq ((hb12.n).seq ((ch21.n).seq ((ch186.n).seq ((ch192.n).seq ((ch198.l rfl).seq (ch202.l rfl)))))))
      replace hbase := hbase.chg C205 (is_nl rfl)
      have C206 : Chg (inl []) _ _ _ _ := (ch7.n).seq ((hb12.n).seq (ch21.n))
      replace bx5 := bx5.chg C206 (is_nl rfl)
      replace bx10 := (bx10.chg hb12 (not_no _)).chg ch21 (not_no _)
      replace bx199 := bx199.chg ch202 (is_ne rfl)
      exact mid (b193, b187, g194) _ _ ⟨hbase, rfl, rfl, rfl, rfl, rfl, (r_ps_v.chg hs204 (is_nl rfl)), (bx5.chg hs204 (is_nl rfl)), (bx10.chg hs204 (is_nl rfl)), bx199, bx203⟩
    ·
     refine o_alloc g9 (is 3) (3, 0) rfl tp23_gr ?_
     intro g210 w207 b209 ch208 bx211
     replace bx211 : Bx g210 (is 3) w207 b209 [Value.int .i64 0, Value.int .i64 0] := bx211
     have hs212 : Chg (inl [3, 4]) _ _ _ _ := ch208.n
     refine ⟨hs212.same, ?_⟩
     refine h_many 1 [7] (by kernel_rfl) ⟨h_of 1 rfl (by kernel_rfl) rfl ?_, h_of 7 rfl (by kernel_rfl) rfl ?_, trivial⟩
     ·
      refine o_of_val (v := Value.pointer (some (eAddr ps_v 2 (Int.toNat 0)))) (e_indexAddr (α := (Int) × (Int)) (xs := ps) (v := ps_v) (i := 0) Try.underlying25 rfl rfl (r_ps_v.chg hs212 (is_nl rfl)) rfl (by omega) (by omega)) ?_
      refine ⟨hs212.same, ?_⟩
      refine h_take (v := Value.agg (List.toArray [Value.int .i64 ((gI ps 0).1), Value.int .i64 ((gI ps 0).2)])) 2 rfl (by kernel_rfl) (by kernel_rfl) rfl hs212.same (fun w' hw' => e_load_elN (α := (Int) × (Int)) (xs := ps) (v := ps_v) (i := 0) tp23_gr rfl (r_ps_v.chg hw' (is_nl rfl)) (by omega) (by omega) rfl) ?_
      refine h_one 7 rfl (by kernel_rfl) rfl ?_
      refine o_alloc g210 (is 4) (4, 0) rfl tp23_gr ?_
      intro g216 w213 b215 ch214 bx217
      replace bx217 : Bx g216 (is 4) w213 b215 [Value.int .i64 0, Value.int .i64 0] := bx217
      have hs218 := hs212.seq (ch214.n)
      refine ⟨hs218.same, ?_⟩
      refine h_one 8 rfl (by kernel_rfl) rfl ?_
      replace bx211 := bx211.chg ch214 (not_no _)
      refine o_store_bx (cs' := [Value.int .i64 ((gI ps 0).1), Value.int .i64 ((gI ps 0).2)]) tp23_gr rfl rfl bx211 rfl (Nat.le_of_ble_eq_true rfl) (AllOne.all (.cons rfl (.cons rfl .nil))) rfl ?_
      intro w219 ch220 bx221
      clear bx211
      have hs222 := hs218.seq (ch220.l rfl)
      refine ⟨hs222.same, ?_⟩
      refine h_one 9 rfl (by kernel_rfl) rfl ?_
      replace bx217 := bx217.chg ch220 (is_ne rfl)
      refine o_store_bx (cs' := [Value.int .i64 ((gI ps 0).1), Value.int .i64 ((gI ps 0).2)]) tp23_gr rfl rfl bx217 rfl (Nat.le_of_ble_eq_true rfl) (AllOne.all (.cons rfl (.cons rfl .nil))) rfl ?_
      intro w223 ch224 bx225
      clear bx217
      have hs226 := hs222.seq (ch224.l rfl)
      refine ⟨hs226.same, ?_⟩
      refine h_nil (by kernel_rfl) ?_
      have C227 : Chg (inl [3, 4]) _ _ _ _ := (ch2.n).seq ((ch7.n).seq ((hb12.n).seq ((ch21.n).seq ((ch208.n).seq ((ch214.n).seq ((ch220.l rfl).seq (ch224.l rfl)))))))
      replace hbase := hbase.chg C227 (is_nl rfl)
      have C228 : Chg (inl []) _ _ _ _ := (ch7.n).seq ((hb12.n).seq (ch21.n))
      replace bx5 := bx5.chg C228 (is_nl rfl)
      replace bx10 := (bx10.chg hb12 (not_no _)).chg ch21 (not_no _)
      replace bx221 := bx221.chg ch224 (is_ne rfl)
      exact mid (b209, b215, g216) _ _ ⟨hbase, rfl, rfl, rfl, rfl, rfl, (r_ps_v.chg hs226 (is_nl rfl)), (bx5.chg hs226 (is_nl rfl)), (bx10.chg hs226 (is_nl rfl)), bx221, bx225⟩
     ·
      refine o_alloc g210 (is 4) (4, 0) rfl tp23_gr ?_
      intro g232 w229 b231 ch230 bx233
      replace bx233 : Bx g232 (is 4) w229 b231 [Value.int .i64 0, Value.int .i64 0] := bx233
      have hs234 := hs212.seq (ch230.n)
      refine ⟨hs234.same, ?_⟩
      refine h_one 1 rfl (by kernel_rfl) rfl ?_
      refine o_of_val (v := Value.pointer (some (eAddr ps_v 2 (Int.toNat 0)))) (e_indexAddr (α := (Int) × (Int)) (xs := ps) (v := ps_v) (i := 0) Try.underlying25 rfl rfl (r_ps_v.chg hs234 (is_nl rfl)) rfl (by omega) (by omega)) ?_
      refine ⟨hs234.same, ?_⟩
      refine h_take (v := Value.agg (List.toArray [Value.int .i64 ((gI ps 0).1), Value.int .i64 ((gI ps 0).2)])) 2 rfl (by kernel_rfl) (by kernel_rfl) rfl hs234.same (fun w' hw' => e_load_elN (α := (Int) × (Int)) (xs := ps) (v := ps_v) (i := 0) tp23_gr rfl (r_ps_v.chg hw' (is_nl rfl)) (by omega) (by omega) rfl) ?_
      refine h_one 8 rfl (by kernel_rfl) rfl ?_
      replace bx211 := bx211.chg ch230 (not_no _)
      refine o_store_bx (cs' := [Value.int .i64 ((gI ps 0).1), Value.int .i64 ((gI ps 0).2)]) tp23_gr rfl rfl bx211 rfl (Nat.le_of_ble_eq_true rfl) (AllOne.all (.cons rfl (.cons rfl .nil))) rfl ?_
      intro w235 ch236 bx237
      clear bx211
      have hs238 := hs234.seq (ch236.l rfl)
      refine ⟨hs238.same, ?_⟩
      refine h_one 9 rfl (by kernel_rfl) rfl ?_
      replace bx233 := bx233.chg ch236 (is_ne rfl)
      refine o_store_bx (cs' := [Value.int .i64 ((gI ps 0).1), Value.int .i64 ((gI ps 0).2)]) tp23_gr rfl rfl bx233 rfl (Nat.le_of_ble_eq_true rfl) (AllOne.all (.cons rfl (.cons rfl .nil))) rfl ?_
      intro w239 ch240 bx241
      clear bx233
      have hs242 := hs238.seq (ch240.l rfl)
      refine ⟨hs242.same, ?_⟩
      refine h_nil (by kernel_rfl) ?_
      have C243 : Chg (inl [3, 4]) _ _ _ _ := (ch2.n).seq ((ch7.n).seq ((hb12.n).seq ((ch21.n).seq ((ch208.n).seq ((ch230.n).seq ((ch236.l rfl).seq (ch240.l rfl)))))))
      replace hbase := hbase.chg C243 (is_nl rfl)
      have C244 : Chg (inl []) _ _ _ _ := (ch7.n).seq ((hb12.n).seq (ch21.n))
      replace bx5 := bx5.chg C244 (is_nl rfl)
      replace bx10 := (bx10.chg hb12 (not_no _)).chg ch21 (not_no _)
      replace bx237 := bx237.chg ch240 (is_ne rfl)
      exact mid (b209, b231, g232) _ _ ⟨hbase, rfl, rfl, rfl, rfl, rfl, (r_ps_v.chg hs242 (is_nl rfl)), (bx5.chg hs242 (is_nl rfl)), (bx10.chg hs242 (is_nl rfl)), bx237, bx241⟩
    ·
     refine o_alloc g9 (is 4) (4, 0) rfl tp23_gr ?_
     intro g248 w245 b247 ch246 bx249
     replace bx249 : Bx g248 (is 4) w245 b247 [Value.int .i64 0, Value.int .i64 0] := bx249
     have hs250 : Chg (inl [3, 4]) _ _ _ _ := ch246.n
     refine ⟨hs250.same, ?_⟩
     refine h_many 1 [6] (by kernel_rfl) ⟨h_of 1 rfl (by kernel_rfl) rfl ?_, h_of 6 rfl (by kernel_rfl) rfl ?_, trivial⟩
     ·
      refine o_of_val (v := Value.pointer (some (eAddr ps_v 2 (Int.toNat 0)))) (e_indexAddr (α := (Int) × (Int)) (xs := ps) (v := ps_v) (i := 0) Try.underlying25 rfl rfl (r_ps_v.chg hs250 (is_nl rfl)) rfl (by omega) (by omega)) ?_
      refine ⟨hs250.same, ?_⟩
      refine h_take (v := Value.agg (List.toArray [Value.int .i64 ((gI ps 0).1), Value.int .i64 ((gI ps 0).2)])) 2 rfl (by kernel_rfl) (by kernel_rfl) rfl hs250.same (fun w' hw' => e_load_elN (α := (Int) × (Int)) (xs := ps) (v := ps_v) (i := 0) tp23_gr rfl (r_ps_v.chg hw' (is_nl rfl)) (by omega) (by omega) rfl) ?_
      refine h_one 6 rfl (by kernel_rfl) rfl ?_
      refine o_alloc g248 (is 3) (3, 0) rfl tp23_gr ?_
      intro g254 w251 b253 ch252 bx255
      replace bx255 : Bx g254 (is 3) w251 b253 [Value.int .i64 0, Value.int .i64 0] := bx255
      have hs256 := hs250.seq (ch252.n)
      refine ⟨hs256.same, ?_⟩
      refine h_one 8 rfl (by kernel_rfl) rfl ?_
      refine o_store_bx (cs' := [Value.int .i64 ((gI ps 0).1), Value.int .i64 ((gI ps 0).2)]) tp23_gr rfl rfl bx255 rfl (Nat.le_of_ble_eq_true rfl) (AllOne.all (.cons rfl (.cons rfl .nil))) rfl ?_
      intro w257 ch258 bx259
      clear bx255
      have hs260 := hs256.seq (ch258.l rfl)
      refine ⟨hs260.same, ?_⟩
      refine h_one 9 rfl (by kernel_rfl) rfl ?_
      replace bx249 := (bx249.chg ch252 (not_no _)).chg ch258 (is_ne rfl)
      refine o_store_bx (cs' := [Value.int .i64 ((gI ps 0).1), Value.int .i64 ((gI ps 0).2)]) tp23_gr rfl rfl bx249 rfl (Nat.le_of_ble_eq_true rfl) (AllOne.all (.cons rfl (.cons rfl .nil))) rfl ?_
      intro w261 ch262 bx263
      clear bx249
      have hs264 := hs260.seq (ch262.l rfl)
      refine ⟨hs264.same, ?_⟩
      refine h_nil (by kernel_rfl) ?_
      have C265 : Chg (inl [3, 4]) _ _ _ _ := (ch2.n).seq ((ch7.n).seq ((hb12.n).seq ((ch21.n).seq ((ch246.n).seq ((ch252.n).seq ((ch258.l rfl).seq (ch262.l rfl)))))))
      replace hbase := hbase.chg C265 (is_nl rfl)
      have C266 : Chg (inl []) _ _ _ _ := (ch7.n).seq ((hb12.n).seq (ch21.n))
      replace bx5 := bx5.chg C266 (is_nl rfl)
      replace bx10 := (bx10.chg hb12 (not_no _)).chg ch21 (not_no _)
      replace bx259 := bx259.chg ch262 (is_ne rfl)
      exact mid (b253, b247, g254) _ _ ⟨hbase, rfl, rfl, rfl, rfl, rfl, (r_ps_v.chg hs264 (is_nl rfl)), (bx5.chg hs264 (is_nl rfl)), (bx10.chg hs264 (is_nl rfl)), bx259, bx263⟩
     ·
      refine o_alloc g248 (is 3) (3, 0) rfl tp23_gr ?_
      intro g270 w267 b269 ch268 bx271
      replace bx271 : Bx g270 (is 3) w267 b269 [Value.int .i64 0, Value.int .i64 0] := bx271
      have hs272 := hs250.seq (ch268.n)
      refine ⟨hs272.same, ?_⟩
      refine h_one 1 rfl (by kernel_rfl) rfl ?_
      refine o_of_val (v := Value.pointer (some (eAddr ps_v 2 (Int.toNat 0)))) (e_indexAddr (α := (Int) × (Int)) (xs := ps) (v := ps_v) (i := 0) Try.underlying25 rfl rfl (r_ps_v.chg hs272 (is_nl rfl)) rfl (by omega) (by omega)) ?_
      refine ⟨hs272.same, ?_⟩
      refine h_take (v := Value.agg (List.toArray [Value.int .i64 ((gI ps 0).1), Value.int .i64 ((gI ps 0).2)])) 2 rfl (by kernel_rfl) (by kernel_rfl) rfl hs272.same (fun w' hw' => e_load_elN (α := (Int) × (Int)) (xs := ps) (v := ps_v) (i := 0) tp23_gr rfl (r_ps_v.chg hw' (is_nl rfl)) (by omega) (by omega) rfl) ?_
      refine h_one 8 rfl (by kernel_rfl) rfl ?_
      refine o_store_bx (cs' := [Value.int .i64 ((gI ps 0).1), Value.int .i64 ((gI ps 0).2)]) tp23_gr rfl rfl bx271 rfl (Nat.le_of_ble_eq_true rfl) (AllOne.all (.cons rfl (.cons rfl .nil))) rfl ?_
      intro w273 ch274 bx275
      clear bx271
      have hs276 := hs272.seq (ch274.l rfl)
      refine ⟨hs276.same, ?_⟩
      refine h_one 9 rfl (by kernel_rfl) rfl ?_
      replace bx249 := (bx249.chg ch268 (not_no _)).chg ch274 (is_ne rfl)
      refine o_store_bx (cs' := [Value.int .i64 ((gI ps 0).1), Value.int .i64 ((gI ps 0).2)]) tp23_gr rfl rfl bx249 rfl (Nat.le_of_ble_eq_true rfl) (AllOne.all (.cons rfl (.cons rfl .nil))) rfl ?_
      intro w277 ch278 bx279
      clear bx249
      have hs280 := hs276.seq (ch278.l rfl)
      refine ⟨hs280.same, ?_⟩
      refine h_nil (by kernel_rfl) ?_
      have C281 : Chg (inl [3, 4]) _ _ _ _ := (ch2.n).seq ((ch7.n).seq ((hb12.n).seq ((ch21.n).seq ((ch246.n).seq ((ch268.n).seq ((ch274.l rfl).seq (ch278.l rfl)))))))
      replace hbase := hbase.chg C281 (is_nl rfl)
      have C282 : Chg (inl []) _ _ _ _ := (ch7.n).seq ((hb12.n).seq (ch21.n))
      replace bx5 := bx5.chg C282 (is_nl rfl)
      replace bx10 := (bx10.chg hb12 (not_no _)).chg ch21 (not_no _)
      replace bx275 := bx275.chg ch278 (is_ne rfl)
      exact mid (b269, b247, g270) _ _ ⟨hbase, rfl, rfl, rfl, rfl, rfl, (r_ps_v.chg hs280 (is_nl rfl)), (bx5.chg hs280 (is_nl rfl)), (bx10.chg hs280 (is_nl rfl)), bx275, bx279⟩
   ·
    refine o_alloc g9 (is 3) (3, 0) rfl tp23_gr ?_
    intro g286 w283 b285 ch284 bx287
    replace bx287 : Bx g286 (is 3) w283 b285 [Value.int .i64 0, Value.int .i64 0] := bx287
    have hs288 : Chg (inl [3, 4]) _ _ _ _ := ch284.n
    refine ⟨hs288.same, ?_⟩
    refine h_many 1 [4, 7] (by kernel_rfl) ⟨h_of 1 rfl (by kernel_rfl) rfl ?_, h_of 4 rfl (by kernel_rfl) rfl ?_, h_of 7 rfl (by kernel_rfl) rfl ?_, trivial⟩
    ·
     replace r_ps_v := r_ps_v.chg ch21 (not_no _)
     refine o_of_val (v := Value.pointer (some (eAddr ps_v 2 (Int.toNat 0)))) (e_indexAddr (α := (Int) × (Int)) (xs := ps) (v := ps_v) (i := 0) Try.underlying25 rfl rfl (r_ps_v.chg hs288 (is_nl rfl)) rfl (by omega) (by omega)) ?_
     refine ⟨hs288.same, ?_⟩
     refine h_take (v := Value.agg (List.toArray [Value.int .i64 ((gI ps 0).1), Value.int .i64 ((gI ps 0).2)])) 2 rfl (by kernel_rfl) (by kernel_rfl) rfl hs288.same (fun w' hw' => e_load_elN (α := (Int) × (Int)) (xs := ps) (v := ps_v) (i := 0) tp23_gr rfl (r_ps_v.chg hw' (is_nl rfl)) (by omega) (by omega) rfl) ?_
     refine h_many 4 [7] (by kernel_rfl) ⟨h_of 4 rfl (by kernel_rfl) rfl ?_, h_of 7 rfl (by kernel_rfl) rfl ?_, trivial⟩
     ·
      refine o_of_val (v := Value.pointer (some (eAddr ps_v 2 (Int.toNat 0)))) (e_indexAddr (α := (Int) × (Int)) (xs := ps) (v := ps_v) (i := 0) Try.underlying25 rfl rfl (r_ps_v.chg hs288 (is_nl rfl)) rfl (by omega) (by omega)) ?_
      refine ⟨hs288.same, ?_⟩
      refine h_take (v := Value.agg (List.toArray [Value.int .i64 ((gI ps 0).1), Value.int .i64 ((gI ps 0).2)])) 5 rfl (by kernel_rfl) (by kernel_rfl) rfl hs288.same (fun w' hw' => e_load_elN (α := (Int) × (Int)) (xs := ps) (v := ps_v) (i := 0) tp23_gr rfl (r_ps_v.chg hw' (is_nl rfl)) (by omega) (by omega) rfl) ?_
      refine h_one 7 rfl (by kernel_rfl) rfl ?_
      refine o_alloc g286 (is 4) (4, 0) rfl tp23_gr ?_
      intro g292 w289 b291 ch290 bx293
      replace bx293 : Bx g292 (is 4) w289 b291 [Value.int .i64 0, Value.int .i64 0] := bx293
      have hs294 := hs288.seq (ch290.n)
      refine ⟨hs294.same, ?_⟩
      refine h_one 8 rfl (by kernel_rfl) rfl ?_
      replace bx287 := bx287.chg ch290 (not_no _)
      refine o_store_bx (cs' := [Value.int .i64 ((gI ps 0).1), Value.int .i64 ((gI ps 0).2)]) tp23_gr rfl rfl bx287 rfl (Nat.le_of_ble_eq_true rfl) (AllOne.all (.cons rfl (.cons rfl .nil))) rfl ?_
      intro w295 ch296 bx297
      clear bx287
      have hs298 := hs294.seq (ch296.l rfl)
      refine ⟨hs298.same, ?_⟩
      refine h_one 9 rfl (by kernel_rfl) rfl ?_
      replace bx293 := bx293.chg ch296 (is_ne rfl)
      refine o_store_bx (cs' := [Value.int .i64 ((gI ps 0).1), Value.int .i64 ((gI ps 0).2)]) tp23_gr rfl rfl bx293 rfl (Nat.le_of_ble_eq_true rfl) (AllOne.all (.cons rfl (.cons rfl .nil))) rfl ?_
      intro w299 ch300 bx301
      clear bx293
      have hs302 := hs298.seq (ch300.l rfl)
      refine ⟨hs302.same, ?_⟩
      refine h_nil (by kernel_rfl) ?_
      have C303 : Chg (inl [3, 4]) _ _ _ _ := (ch2.n).seq ((ch7.n).seq ((hb12.n).seq ((ch21.n).seq ((ch284.n).seq ((ch290.n).seq ((ch296.l rfl).seq (ch300.l rfl)))))))
      replace hbase := hbase.chg C303 (is_nl rfl)
      have C304 : Chg (inl []) _ _ _ _ := (ch7.n).seq ((hb12.n).seq (ch21.n))
      replace bx5 := bx5.chg C304 (is_nl rfl)
      replace bx10 := (bx10.chg hb12 (not_no _)).chg ch21 (not_no _)
      replace bx297 := bx297.chg ch300 (is_ne rfl)
      exact mid (b285, b291, g292) _ _ ⟨hbase, rfl, rfl, rfl, rfl, rfl, (r_ps_v.chg hs302 (is_nl rfl)), (bx5.chg hs302 (is_nl rfl)), (bx10.chg hs302 (is_nl rfl)), bx297, bx301⟩
     ·
      refine o_alloc g286 (is 4) (4, 0) rfl tp23_gr ?_
      intro g308 w305 b307 ch306 bx309
      replace bx309 : Bx g308 (is 4) w305 b307 [Value.int .i64 0, Value.int .i64 0] := bx309
      have hs310 := hs288.seq (ch306.n)
      refine ⟨hs310.same, ?_⟩
      refine h_many 4 [8] (by kernel_rfl) ⟨h_of 4 rfl (by kernel_rfl) rfl ?_, h_of 8 rfl (by kernel_rfl) rfl ?_, trivial⟩
      ·
       refine o_of_val (v := Value.pointer (some (eAddr ps_v 2 (Int.toNat 0)))) (e_indexAddr (α := (Int) × (Int)) (xs := ps) (v := ps_v) (i := 0) Try.underlying25 rfl rfl (r_ps_v.chg hs310 (is_nl rfl)) rfl (by omega) (by omega)) ?_
       refine ⟨hs310.same, ?_⟩
       refine h_take (v := Value.agg (List.toArray [Value.int .i64 ((gI ps 0).1), Value.int .i64 ((gI ps 0).2)])) 5 rfl (by kernel_rfl) (by kernel_rfl) rfl hs310.same (fun w' hw' => e_load_elN (α := (Int) × (Int)) (xs := ps) (v := ps_v) (i := 0) tp23_gr rfl (r_ps_v.chg hw' (is_nl rfl)) (by omega) (by omega) rfl) ?_
       refine h_one 8 rfl (by kernel_rfl) rfl ?_
       replace bx287 := bx287.chg ch306 (not_no _)
       refine o_store_bx (cs' := [Value.int .i64 ((gI ps 0).1), Value.int .i64 ((gI ps 0).2)]) tp23_gr rfl rfl bx287 rfl (Nat.le_of_ble_eq_true rfl) (AllOne.all (.cons rfl (.cons rfl .nil))) rfl ?_
       intro w311 ch312 bx313
       clear bx287
       have hs314 := hs310.seq (ch312.l rfl)
       refine ⟨hs314.same, ?_⟩
       refine h_one 9 rfl (by kernel_rfl) rfl ?_
       replace bx309 := bx309.chg ch312 (is_ne rfl)
       refine o_store_bx (cs' := [Value.int .i64 ((gI ps 0).1), Value.int .i64 ((gI ps 0).2)]) tp23_gr rfl rfl bx309 rfl (Nat.le_of_ble_eq_true rfl) (AllOne.all (.cons rfl (.cons rfl .nil))) rfl ?_
       intro w315 ch316 bx317
       clear bx309
       have hs318 := hs314.seq (ch316.l rfl)
       refine ⟨hs318.same, ?_⟩
       refine h_nil (by kernel_rfl) ?_
       have C319 : Chg (inl [3, 4]) _ _ _ _ := (ch2.n).seq ((ch7.n).seq ((hb12.n).seq ((ch21.n).seq ((ch284.n).seq ((ch306.n).seq ((ch312.l rfl).seq (ch316.l rfl)))))))
       replace hbase := hbase.chg C319 (is_nl rfl)
       have C320 : Chg (inl []) _ _ _ _ := (ch7.n).seq ((hb12.n).seq (ch21.n))
       replace bx5 := bx5.chg C320 (is_nl rfl)
       replace bx10 := (bx10.chg hb12 (not_no _)).chg ch21 (not_no _)
       replace bx313 := bx313.chg ch316 (is_ne rfl)
       exact mid (b285, b307, g308) _ _ ⟨hbase, rfl, rfl, rfl, rfl, rfl, (r_ps_v.chg hs318 (is_nl rfl)), (bx5.chg hs318 (is_nl rfl)), (bx10.chg hs318 (is_nl rfl)), bx313, bx317⟩
      ·
       replace bx287 := bx287.chg ch306 (not_no _)
       refine o_store_bx (cs' := [Value.int .i64 ((gI ps 0).1), Value.int .i64 ((gI ps 0).2)]) tp23_gr rfl rfl bx287 rfl (Nat.le_of_ble_eq_true rfl) (AllOne.all (.cons rfl (.cons rfl .nil))) rfl ?_
       intro w321 ch322 bx323
       clear bx287
       have hs324 := hs310.seq (ch322.l rfl)
       refine ⟨hs324.same, ?_⟩
       refine h_one 4 rfl (by kernel_rfl) rfl ?_
       refine o_of_val (v := Value.pointer (some (eAddr ps_v 2 (Int.toNat 0)))) (e_indexAddr (α := (Int) × (Int)) (xs := ps) (v := ps_v) (i := 0) Try.underlying25 rfl rfl (r_ps_v.chg hs324 (is_nl rfl)) rfl (by omega) (by omega)) ?_
       refine ⟨hs324.same, ?_⟩
       refine h_take (v := Value.agg (List.toArray [Value.int .i64 ((gI ps 0).1), Value.int .i64 ((gI ps 0).2)])) 5 rfl (by kernel_rfl) (by kernel_rfl) rfl hs324.same (fun w' hw' => e_load_elN (α := (Int) × (Int)) (xs := ps) (v := ps_v) (i := 0) tp23_gr rfl (r_ps_v.chg hw' (is_nl rfl)) (by omega) (by omega) rfl) ?_
       refine h_one 9 rfl (by kernel_rfl) rfl ?_
       replace bx309 := bx309.chg ch322 (is_ne rfl)
       refine o_store_bx (cs' := [Value.int .i64 ((gI ps 0).1), Value.int .i64 ((gI ps 0).2)]) tp23_gr rfl rfl bx309 rfl (Nat.le_of_ble_eq_true rfl) (AllOne.all (.cons rfl (.cons rfl .nil))) rfl ?_
       intro w325 ch326 bx327
       clear bx309
       have hs328 := hs324.seq (ch326.l rfl)
       refine ⟨hs328.same, ?_⟩
       refine h_nil (by kernel_rfl) ?_
       have C329 : Chg (inl [3, 4]) _ _ _ _ := (ch2.n).seq ((ch7.n).seq ((hb12.n).seq ((ch21.n).seq ((ch284.n).seq ((ch306.n).seq ((ch322.l rfl).seq (ch326.l rfl)))))))
       replace hbase := hbase.chg C329 (is_nl rfl)
       have C330 : Chg (inl []) _ _ _ _ := (ch7.n).seq ((hb12.n).seq (ch21.n))
       replace bx5 := bx5.chg C330 (is_nl rfl)
       replace bx10 := (bx10.chg hb12 (not_no _)).chg ch21 (not_no _)
       replace bx323 := bx323.chg ch326 (is_ne rfl)
       exact mid (b285, b307, g308) _ _ ⟨hbase, rfl, rfl, rfl, rfl, rfl, (r_ps_v.chg hs328 (is_nl rfl)), (bx5.chg hs328 (is_nl rfl)), (bx10.chg hs328 (is_nl rfl)), bx323, bx327⟩
    ·
     replace r_ps_v := r_ps_v.chg ch21 (not_no _)
     refine o_of_val (v := Value.pointer (some (eAddr ps_v 2 (Int.toNat 0)))) (e_indexAddr (α := (Int) × (Int)) (xs := ps) (v := ps_v) (i := 0) Try.underlying25 rfl rfl (r_ps_v.chg hs288 (is_nl rfl)) rfl (by omega) (by omega)) ?_
     refine ⟨hs288.same, ?_⟩
     refine h_take (v := Value.agg (List.toArray [Value.int .i64 ((gI ps 0).1), Value.int .i64 ((gI ps 0).2)])) 5 rfl (by kernel_rfl) (by kernel_rfl) rfl hs288.same (fun w' hw' => e_load_elN (α := (Int) × (Int)) (xs := ps) (v := ps_v) (i := 0) tp23_gr rfl (r_ps_v.chg hw' (is_nl rfl)) (by omega) (by omega) rfl) ?_
     refine h_many 1 [7] (by kernel_rfl) ⟨h_of 1 rfl (by kernel_rfl) rfl ?_, h_of 7 rfl (by kernel_rfl) rfl ?_, trivial⟩
     ·
      refine o_of_val (v := Value.pointer (some (eAddr ps_v 2 (Int.toNat 0)))) (e_indexAddr (α := (Int) × (Int)) (xs := ps) (v := ps_v) (i := 0) Try.underlying25 rfl rfl (r_ps_v.chg hs288 (is_nl rfl)) rfl (by omega) (by omega)) ?_
      refine ⟨hs288.same, ?_⟩
      refine h_take (v := Value.agg (List.toArray [Value.int .i64 ((gI ps 0).1), Value.int .i64 ((gI ps 0).2)])) 2 rfl (by kernel_rfl) (by kernel_rfl) rfl hs288.same (fun w' hw' => e_load_elN (α := (Int) × (Int)) (xs := ps) (v := ps_v) (i := 0) tp23_gr rfl (r_ps_v.chg hw' (is_nl rfl)) (by omega) (by omega) rfl) ?_
      refine h_one 7 rfl (by kernel_rfl) rfl ?_
      refine o_alloc g286 (is 4) (4, 0) rfl tp23_gr ?_
      intro g334 w331 b333 ch332 bx335
      replace bx335 : Bx g334 (is 4) w331 b333 [Value.int .i64 0, Value.int .i64 0] := bx335
      have hs336 := hs288.seq (ch332.n)
      refine ⟨hs336.same, ?_⟩
      refine h_one 8 rfl (by kernel_rfl) rfl ?_
      replace bx287 := bx287.chg ch332 (not_no _)
      refine o_store_bx (cs' := [Value.int .i64 ((gI ps 0).1), Value.int .i64 ((gI ps 0).2)]) tp23_gr rfl rfl bx287 rfl (Nat.le_of_ble_eq_true rfl) (AllOne.all (.cons rfl (.cons rfl .nil))) rfl ?_
      intro w337 ch338 bx339
      clear bx287
      have hs340 := hs336.seq (ch338.l rfl)
      refine ⟨hs340.same, ?_⟩
      refine h_one 9 rfl (by kernel_rfl) rfl ?_
      replace bx335 := bx335.chg ch338 (is_ne rfl)
      refine o_store_bx (cs' := [Value.int .i64 ((gI ps 0).1), Value.int .i64 ((gI ps 0).2)]) tp23_gr rfl rfl bx335 rfl (Nat.le_of_ble_eq_true rfl) (AllOne.all (.cons rfl (.cons rfl .nil))) rfl ?_
      intro w341 ch342 bx343
      clear bx335
      have hs344 := hs340.seq (ch342.l rfl)
      refine ⟨hs344.same, ?_⟩
      refine h_nil (by kernel_rfl) ?_
      have C345 : Chg (inl [3, 4]) _ _ _ _ := (ch2.n).seq ((ch7.n).seq ((hb12.n).seq ((ch21.n).seq ((ch284.n).seq ((ch332.n).seq ((ch338.l rfl).seq (ch342.l rfl)))))))
      replace hbase := hbase.chg C345 (is_nl rfl)
      have C346 : Chg (inl []) _ _ _ _ := (ch7.n).seq ((hb12.n).seq (ch21.n))
      replace bx5 := bx5.chg C346 (is_nl rfl)
      replace bx10 := (bx10.chg hb12 (not_no _)).chg ch21 (not_no _)
      replace bx339 := bx339.chg ch342 (is_ne rfl)
      exact mid (b285, b333, g334) _ _ ⟨hbase, rfl, rfl, rfl, rfl, rfl, (r_ps_v.chg hs344 (is_nl rfl)), (bx5.chg hs344 (is_nl rfl)), (bx10.chg hs344 (is_nl rfl)), bx339, bx343⟩
     ·
      refine o_alloc g286 (is 4) (4, 0) rfl tp23_gr ?_
      intro g350 w347 b349 ch348 bx351
      replace bx351 : Bx g350 (is 4) w347 b349 [Value.int .i64 0, Value.int .i64 0] := bx351
      have hs352 := hs288.seq (ch348.n)
      refine ⟨hs352.same, ?_⟩
      refine h_one 1 rfl (by kernel_rfl) rfl ?_
      refine o_of_val (v := Value.pointer (some (eAddr ps_v 2 (Int.toNat 0)))) (e_indexAddr (α := (Int) × (Int)) (xs := ps) (v := ps_v) (i := 0) Try.underlying25 rfl rfl (r_ps_v.chg hs352 (is_nl rfl)) rfl (by omega) (by omega)) ?_
      refine ⟨hs352.same, ?_⟩
      refine h_take (v := Value.agg (List.toArray [Value.int .i64 ((gI ps 0).1), Value.int .i64 ((gI ps 0).2)])) 2 rfl (by kernel_rfl) (by kernel_rfl) rfl hs352.same (fun w' hw' => e_load_elN (α := (Int) × (Int)) (xs := ps) (v := ps_v) (i := 0) tp23_gr rfl (r_ps_v.chg hw' (is_nl rfl)) (by omega) (by omega) rfl) ?_
      refine h_one 8 rfl (by kernel_rfl) rfl ?_
      replace bx287 := bx287.chg ch348 (not_no _)
      refine o_store_bx (cs' := [Value.int .i64 ((gI ps 0).1), Value.int .i64 ((gI ps 0).2)]) tp23_gr rfl rfl bx287 rfl (Nat.le_of_ble_eq_true rfl) (AllOne.all (.cons rfl (.cons rfl .nil))) rfl ?_
      intro w353 ch354 bx355
      clear bx287
      have hs356 := hs352.seq (ch354.l rfl)
      refine ⟨hs356.same, ?_⟩
      refine h_one 9 rfl (by kernel_rfl) rfl ?_
      replace bx351 := bx351.chg ch354 (is_ne rfl)
      refine o_store_bx (cs' := [Value.int .i64 ((gI ps 0).1), Value.int .i64 ((gI ps 0).2)]) tp23_gr rfl rfl bx351 rfl (Nat.le_of_ble_eq_true rfl) (AllOne.all (.cons rfl (.cons rfl .nil))) rfl ?_
      intro w357 ch358 bx359
      clear bx351
      have hs360 := hs356.seq (ch358.l rfl)
      refine ⟨hs360.same, ?_⟩
      refine h_nil (by kernel_rfl) ?_
      have C361 : Chg (inl [3, 4]) _ _ _ _ := (ch2.n).seq ((ch7.n).seq ((hb12.n).seq ((ch21.n).seq ((ch284.n).seq ((ch348.n).seq ((ch354.l rfl).seq (ch358.l rfl)))))))
      replace hbase := hbase.chg C361 (is_nl rfl)
      have C362 : Chg (inl []) _ _ _ _ := (ch7.n).seq ((hb12.n).seq (ch21.n))
      replace bx5 := bx5.chg C362 (is_nl rfl)
      replace bx10 := (bx10.chg hb12 (not_no _)).chg ch21 (not_no _)
      replace bx355 := bx355.chg ch358 (is_ne rfl)
      exact mid (b285, b349, g350) _ _ ⟨hbase, rfl, rfl, rfl, rfl, rfl, (r_ps_v.chg hs360 (is_nl rfl)), (bx5.chg hs360 (is_nl rfl)), (bx10.chg hs360 (is_nl rfl)), bx355, bx359⟩
    ·
     refine o_alloc g286 (is 4) (4, 0) rfl tp23_gr ?_
     intro g366 w363 b365 ch364 bx367
     replace bx367 : Bx g366 (is 4) w363 b365 [Value.int .i64 0, Value.int .i64 0] := bx367
     have hs368 := hs288.seq (ch364.n)
     refine ⟨hs368.same, ?_⟩
     refine h_many 1 [4] (by kernel_rfl) ⟨h_of 1 rfl (by kernel_rfl) rfl ?_, h_of 4 rfl (by kernel_rfl) rfl ?_, trivial⟩
     ·
      replace r_ps_v := r_ps_v.chg ch21 (not_no _)
      refine o_of_val (v := Value.pointer (some (eAddr ps_v 2 (Int.toNat 0)))) (e_indexAddr (α := (Int) × (Int)) (xs := ps) (v := ps_v) (i := 0) Try.underlying25 rfl rfl (r_ps_v.chg hs368 (is_nl rfl)) rfl (by omega) (by omega)) ?_
      refine ⟨hs368.same, ?_⟩
      refine h_take (v := Value.agg (List.toArray [Value.int .i64 ((gI ps 0).1), Value.int .i64 ((gI ps 0).2)])) 2 rfl (by kernel_rfl) (by kernel_rfl) rfl hs368.same (fun w' hw' => e_load_elN (α := (Int) × (Int)) (xs := ps) (v := ps_v) (i := 0) tp23_gr rfl (r_ps_v.chg hw' (is_nl rfl)) (by omega) (by omega) rfl) ?_
      refine h_many 4 [8] (by kernel_rfl) ⟨h_of 4 rfl (by kernel_rfl) rfl ?_, h_of 8 rfl (by kernel_rfl) rfl ?_, trivial⟩
      ·
       refine o_of_val (v := Value.pointer (some (eAddr ps_v 2 (Int.toNat 0)))) (e_indexAddr (α := (Int) × (Int)) (xs := ps) (v := ps_v) (i := 0) Try.underlying25 rfl rfl (r_ps_v.chg hs368 (is_nl rfl)) rfl (by omega) (by omega)) ?_
       refine ⟨hs368.same, ?_⟩
       refine h_take (v := Value.agg (List.toArray [Value.int .i64 ((gI ps 0).1), Value.int .i64 ((gI ps 0).2)])) 5 rfl (by kernel_rfl) (by kernel_rfl) rfl hs368.same (fun w' hw' => e_load_elN (α := (Int) × (Int)) (xs := ps) (v := ps_v) (i := 0) tp23_gr rfl (r_ps_v.chg hw' (is_nl rfl)) (by omega) (by omega) rfl) ?_
       refine h_one 8 rfl (by kernel_rfl) rfl ?_
       replace bx287 := bx287.chg ch364 (not_no _)
       refine o_store_bx (cs' := [Value.int .i64 ((gI ps 0).1), Value.int .i64 ((gI ps 0).2)]) tp23_gr rfl rfl bx287 rfl (Nat.le_of_ble_eq_true rfl) (AllOne.all (.cons rfl (.cons rfl .nil))) rfl ?_
       intro w369 ch370 bx371
       clear bx287
       have hs372 := hs368.seq (ch370.l rfl)
       refine ⟨hs372.same, ?_⟩
       refine h_one 9 rfl (by kernel_rfl) rfl ?_
       replace bx367 := bx367.chg ch370 (is_ne rfl)
       refine o_store_bx (cs' := [Value.int .i64 ((gI ps 0).1), Value.int .i64 ((gI ps 0).2)]) tp23_gr rfl rfl bx367 rfl (Nat.le_of_ble_eq_true rfl) (AllOne.all (.cons rfl (.cons rfl .nil))) rfl ?_
       intro w373 ch374 bx375
       clear bx367
       have hs376 := hs372.seq (ch374.l rfl)
       refine ⟨hs376.same, ?_⟩
       refine h_nil (by kernel_rfl) ?_
       have C377 : Chg (inl [3, 4]) _ _ _ _ := (ch2.n).seq ((ch7.n).seq ((hb12.n).seq ((ch21.n).seq ((ch284.n).seq ((ch364.n).seq ((ch370.l rfl).seq (ch374.l rfl)))))))
       replace hbase := hbase.chg C377 (is_nl rfl)
       have C378 : Chg (inl []) _ _ _ _ := (ch7.n).seq ((hb12.n).seq (ch21.n))
       replace bx5 := bx5.chg C378 (is_nl rfl)
       replace bx10 := (bx10.chg hb12 (not_no _)).chg ch21 (not_no _)
       replace bx371 := bx371.chg ch374 (is_ne rfl)
       exact mid (b285, b365, g366) _ _ ⟨hbase, rfl, rfl, rfl, rfl, rfl, (r_ps_v.chg hs376 (is_nl rfl)), (bx5.chg hs376 (is_nl rfl)), (bx10.chg hs376 (is_nl rfl)), bx371, bx375⟩
      ·
       replace bx287 := bx287.chg ch364 (not_no _)
       refine o_store_bx (cs' := [Value.int .i64 ((gI ps 0).1), Value.int .i64 ((gI ps 0).2)]) tp23_gr rfl rfl bx287 rfl (Nat.le_of_ble_eq_true rfl) (AllOne.all (.cons rfl (.cons rfl .nil))) rfl ?_
       intro w379 ch380 bx381
       clear bx287
       have hs382 := hs368.seq (ch380.l rfl)
       refine ⟨hs382.same, ?_⟩
       refine h_one 4 rfl (by kernel_rfl) rfl ?_
       refine o_of_val (v := Value.pointer (some (eAddr ps_v 2 (Int.toNat 0)))) (e_indexAddr (α := (Int) × (Int)) (xs := ps) (v := ps_v) (i := 0) Try.underlying25 rfl rfl (r_ps_v.chg hs382 (is_nl rfl)) rfl (by omega) (by omega)) ?_
       refine ⟨hs382.same, ?_⟩
       refine h_take (v := Value.agg (List.toArray [Value.int .i64 ((gI ps 0).1), Value.int .i64 ((gI ps 0).2)])) 5 rfl (by kernel_rfl) (by kernel_rfl) rfl hs382.same (fun w' hw' => e_load_elN (α := (Int) × (Int)) (xs := ps) (v := ps_v) (i := 0) tp23_gr rfl (r_ps_v.chg hw' (is_nl rfl)) (by omega) (by omega) rfl) ?_
       refine h_one 9 rfl (by kernel_rfl) rfl ?_
       replace bx367 := bx367.chg ch380 (is_ne rfl)
       refine o_store_bx (cs' := [Value.int .i64 ((gI ps 0).1), Value.int .i64 ((gI ps 0).2)]) tp23_gr rfl rfl bx367 rfl (Nat.le_of_ble_eq_true rfl) (AllOne.all (.cons rfl (.cons rfl .nil))) rfl ?_
       intro w383 ch384 bx385
       clear bx367
       have hs386 := hs382.seq (ch384.l rfl)
       refine ⟨hs386.same, ?_⟩
       refine h_nil (by kernel_rfl) ?_
       have C387 : Chg (inl [3, 4]) _ _ _ _ := (ch2.n).seq ((ch7.n).seq ((hb12.n).seq ((ch21.n).seq ((ch284.n).seq ((ch364.n).seq ((ch380.l rfl).seq (ch384.l rfl)))))))
       replace hbase := hbase.chg C387 (is_nl rfl)
       have C388 : Chg (inl []) _ _ _ _ := (ch7.n).seq ((hb12.n).seq (ch21.n))
       replace bx5 := bx5.chg C388 (is_nl rfl)
       replace bx10 := (bx10.chg hb12 (not_no _)).chg ch21 (not_no _)
       replace bx381 := bx381.chg ch384 (is_ne rfl)
       exact mid (b285, b365, g366) _ _ ⟨hbase, rfl, rfl, rfl, rfl, rfl, (r_ps_v.chg hs386 (is_nl rfl)), (bx5.chg hs386 (is_nl rfl)), (bx10.chg hs386 (is_nl rfl)), bx381, bx385⟩
     ·
      replace r_ps_v := r_ps_v.chg ch21 (not_no _)
      refine o_of_val (v := Value.pointer (some (eAddr ps_v 2 (Int.toNat 0)))) (e_indexAddr (α := (Int) × (Int)) (xs := ps) (v := ps_v) (i := 0) Try.underlying25 rfl rfl (r_ps_v.chg hs368 (is_nl rfl)) rfl (by omega) (by omega)) ?_
      refine ⟨hs368.same, ?_⟩
      refine h_take (v := Value.agg (List.toArray [Value.int .i64 ((gI ps 0).1), Value.int .i64 ((gI ps 0).2)])) 5 rfl (by kernel_rfl) (by kernel_rfl) rfl hs368.same (fun w' hw' => e_load_elN (α := (Int) × (Int)) (xs := ps) (v := ps_v) (i := 0) tp23_gr rfl (r_ps_v.chg hw' (is_nl rfl)) (by omega) (by omega) rfl) ?_
      refine h_one 1 rfl (by kernel_rfl) rfl ?_
      refine o_of_val (v := Value.pointer (some (eAddr ps_v 2 (Int.toNat 0)))) (e_indexAddr (α := (Int) × (Int)) (xs := ps) (v := ps_v) (i := 0) Try.underlying25 rfl rfl (r_ps_v.chg hs368 (is_nl rfl)) rfl (by omega) (by omega)) ?_
      refine ⟨hs368.same, ?_⟩
      refine h_take (v := Value.agg (List.toArray [Value.int .i64 ((gI ps 0).1), Value.int .i64 ((gI ps 0).2)])) 2 rfl (by kernel_rfl) (by kernel_rfl) rfl hs368.same (fun w' hw' => e_load_elN (α := (Int) × (Int)) (xs := ps) (v := ps_v) (i := 0) tp23_gr rfl (r_ps_v.chg hw' (is_nl rfl)) (by omega) (by omega) rfl) ?_
      refine h_one 8 rfl (by kernel_rfl) rfl ?_
      replace bx287 := bx287.chg ch364 (not_no _)
      refine o_store_bx (cs' := [Value.int .i64 ((gI ps 0).1), Value.int .i64 ((gI ps 0).2)]) tp23_gr rfl rfl bx287 rfl (Nat.le_of_ble_eq_true rfl) (AllOne.all (.cons rfl (.cons rfl .nil))) rfl ?_
      intro w389 ch390 bx391
      clear bx287
      have hs392 := hs368.seq (ch390.l rfl)
      refine ⟨hs392.same, ?_⟩
      refine h_one 9 rfl (by kernel_rfl) rfl ?_
      replace bx367 := bx367.chg ch390 (is_ne rfl)
      refine o_store_bx (cs' := [Value.int .i64 ((gI ps 0).1), Value.int .i64 ((gI ps 0).2)]) tp23_gr rfl rfl bx367 rfl (Nat.le_of_ble_eq_true rfl) (AllOne.all (.cons rfl (.cons rfl .nil))) rfl ?_
      intro w393 ch394 bx395
      clear bx367
      have hs396 := hs392.seq (ch394.l rfl)
      refine ⟨hs396.same, ?_⟩
      refine h_nil (by kernel_rfl) ?_
      have C397 : Chg (inl [3, 4]) _ _ _ _ := (ch2.n).seq ((ch7.n).seq ((hb12.n).seq ((ch21.n).seq ((ch284.n).seq ((ch364.n).seq ((ch390.l rfl).seq (ch394.l rfl)))))))
      replace hbase := hbase.chg C397 (is_nl rfl)
      have C398 : Chg (inl []) _ _ _ _ := (ch7.n).seq ((hb12.n).seq (ch21.n))
      replace bx5 := bx5.chg C398 (is_nl rfl)
      replace bx10 := (bx10.chg hb12 (not_no _)).chg ch21 (not_no _)
      replace bx391 := bx391.chg ch394 (is_ne rfl)
      exact mid (b285, b365, g366) _ _ ⟨hbase, rfl, rfl, rfl, rfl, rfl, (r_ps_v.chg hs396 (is_nl rfl)), (bx5.chg hs396 (is_nl rfl)), (bx10.chg hs396 (is_nl rfl)), bx391, bx395⟩
   ·
    refine o_alloc g9 (is 4) (4, 0) rfl tp23_gr ?_
    intro g402 w399 b401 ch400 bx403
    replace bx403 : Bx g402 (is 4) w399 b401 [Value.int .i64 0, Value.int .i64 0] := bx403
    have hs404 : Chg (inl [3, 4]) _ _ _ _ := ch400.n
    refine ⟨hs404.same, ?_⟩
    refine h_many 1 [4, 6] (by kernel_rfl) ⟨h_of 1 rfl (by kernel_rfl) rfl ?_, h_of 4 rfl (by kernel_rfl) rfl ?_, h_of 6 rfl (by kernel_rfl) rfl ?_, trivial⟩
    ·
     replace r_ps_v := r_ps_v.chg ch21 (not_no _)
     refine o_of_val (v := Value.pointer (some (eAddr ps_v 2 (Int.toNat 0)))) (e_indexAddr (α := (Int) × (Int)) (xs := ps) (v := ps_v) (i := 0) Try.underlying25 rfl rfl (r_ps_v.chg hs404 (is_nl rfl)) rfl (by omega) (by omega)) ?_
     refine ⟨hs404.same, ?_⟩
     refine h_take (v := Value.agg (List.toArray [Value.int .i64 ((gI ps 0).1), Value.int .i64 ((gI ps 0).2)])) 2 rfl (by kernel_rfl) (by kernel_rfl) rfl hs404.same (fun w' hw' => e_load_elN (α := (Int) × (Int)) (xs := ps) (v := ps_v) (i := 0) tp23_gr rfl (r_ps_v.chg hw' (is_nl rfl)) (by omega) (by omega) rfl) ?_
     refine h_many 4 [6] (by kernel_rfl) ⟨h_of 4 rfl (by kernel_rfl) rfl ?_, h_of 6 rfl (by kernel_rfl) rfl ?_, trivial⟩
     ·
      refine o_of_val (v := Value.pointer (some (eAddr ps_v 2 (Int.toNat 0)))) (e_indexAddr (α := (Int) × (Int)) (xs := ps) (v := ps_v) (i := 0) Try.underlying25 rfl rfl (r_ps_v.chg hs404 (is_nl rfl)) rfl (by omega) (by omega)) ?_
      refine ⟨hs404.same, ?_⟩
      refine h_take (v := Value.agg (List.toArray [Value.int .i64 ((gI ps 0).1), Value.int .i64 ((gI ps 0).2)])) 5 rfl (by kernel_rfl) (by kernel_rfl) rfl hs404.same (fun w' hw' => e_load_elN (α := (Int) × (Int)) (xs := ps) (v := ps_v) (i := 0) tp23_gr rfl (r_ps_v.chg hw' (is_nl rfl)) (by omega) (by omega) rfl) ?_
      refine h_one 6 rfl (by kernel_rfl) rfl ?_
      refine o_alloc g402 (is 3) (3, 0) rfl tp23_gr ?_
      intro g408 w405 b407 ch406 bx409
      replace bx409 : Bx g408 (is 3) w405 b407 [Value.int .i64 0, Value.int .i64 0] := bx409
      have hs410 := hs404.seq (ch406.n)
      refine ⟨hs410.same, ?_⟩
      refine h_one 8 rfl (by kernel_rfl) rfl ?_
      refine o_store_bx (cs' := [Value.int .i64 ((gI ps 0).1), Value.int .i64 ((gI ps 0).2)]) tp23_gr rfl rfl bx409 rfl (Nat.le_of_ble_eq_true rfl) (AllOne.all (.cons rfl (.cons rfl .nil))) rfl ?_
      intro w411 ch412 bx413
      clear bx409
      have hs414 := hs410.seq (ch412.l rfl)
      refine ⟨hs414.same, ?_⟩
      refine h_one 9 rfl (by kernel_rfl) rfl ?_
      replace bx403 := (bx403.chg ch406 (not_no _)).chg ch412 (is_ne rfl)
      refine o_store_bx (cs' := [Value.int .i64 ((gI ps 0).1), Value.int .i64 ((gI ps 0).2)]) tp23_gr rfl rfl bx403 rfl (Nat.le_of_ble_eq_true rfl) (AllOne.all (.cons rfl (.cons rfl .nil))) rfl ?_
      intro w415 ch416 bx417
      clear bx403
      have hs418 := hs414.seq (ch416.l rfl)
      refine ⟨hs418.same, ?_⟩
      refine h_nil (by kernel_rfl) ?_
      have C419 : Chg (inl [3, 4]) _ _ _ _ := (ch2.n).seq ((ch7.n).seq ((hb12.n).seq ((ch21.n).seq ((ch400.n).seq ((ch406.n).seq ((ch412.l rfl).seq (ch416.l rfl)))))))
      replace hbase := hbase.chg C419 (is_nl rfl)
      have C420 : Chg (inl []) _ _ _ _ := (ch7.n).seq ((hb12.n).seq (ch21.n))
      replace bx5 := bx5.chg C420 (is_nl rfl)
      replace bx10 := (bx10.chg hb12 (not_no _)).chg ch21 (not_no _)
      replace bx413 := bx413.chg ch416 (is_ne rfl)
      exact mid (b407, b401, g408) _ _ ⟨hbase, rfl, rfl, rfl, rfl, rfl, (r_ps_v.chg hs418 (is_nl rfl)), (bx5.chg hs418 (is_nl rfl)), (bx10.chg hs418 (is_nl rfl)), bx413, bx417⟩
     ·
      refine o_alloc g402 (is 3) (3, 0) rfl tp23_gr ?_
      intro g424 w421 b423 ch422 bx425
      replace bx425 : Bx g424 (is 3) w421 b423 [Value.int .i64 0, Value.int .i64 0] := bx425
      have hs426 := hs404.seq (ch422.n)
      refine ⟨hs426.same, ?_⟩
      refine h_many 4 [8] (by kernel_rfl) ⟨h_of 4 rfl (by kernel_rfl) rfl ?_, h_of 8 rfl (by kernel_rfl) rfl ?_, trivial⟩
      ·
       refine o_of_val (v := Value.pointer (some (eAddr ps_v 2 (Int.toNat 0)))) (e_indexAddr (α := (Int) × (Int)) (xs := ps) (v := ps_v) (i := 0) Try.underlying25 rfl rfl (r_ps_v.chg hs426 (is_nl rfl)) rfl (by omega) (by omega)) ?_
       refine ⟨hs426.same, ?_⟩
       refine h_take (v := Value.agg (List.toArray [Value.int .i64 ((gI ps 0).1), Value.int .i64 ((gI ps 0).2)])) 5 rfl (by kernel_rfl) (by kernel_rfl) rfl hs426.same (fun w' hw' => e_load_elN (α := (Int) × (Int)) (xs := ps) (v := ps_v) (i := 0) tp23_gr rfl (r_ps_v.chg hw' (is_nl rfl)) (by omega) (by omega) rfl) ?_
       refine h_one 8 rfl (by kernel_rfl) rfl ?_
       refine o_store_bx (cs' := [Value.int .i64 ((gI ps 0).1), Value.int .i64 ((gI ps 0).2)]) tp23_gr rfl rfl bx425 rfl (Nat.le_of_ble_eq_true rfl) (AllOne.all (.cons rfl (.cons rfl .nil))) rfl ?_
       intro w427 ch428 bx429
       clear bx425
       have hs430 := hs426.seq (ch428.l rfl)
       refine ⟨hs430.same, ?_⟩
       refine h_one 9 rfl (by kernel_rfl) rfl ?_
       replace bx403 := (bx403.chg ch422 (not_no _)).chg ch428 (is_ne rfl)
       refine o_store_bx (cs' := [Value.int .i64 ((gI ps 0).1), Value.int .i64 ((gI ps 0).2)]) tp23_gr rfl rfl bx403 rfl (Nat.le_of_ble_eq_true rfl) (AllOne.all (.cons rfl (.cons rfl .nil))) rfl ?_
       intro w431 ch432 bx433
       clear bx403
       have hs434 := hs430.seq (ch432.l rfl)
       refine ⟨hs434.same, ?_⟩
       refine h_nil (by kernel_rfl) ?_
       have C435 : Chg (inl [3, 4]) _ _ _ _ := (ch2.n).seq ((ch7.n).seq ((hb12.n).seq ((ch21.n).seq ((ch400.n).seq ((ch422.n).seq ((ch428.l rfl).seq (ch432.l rfl)))))))
       replace hbase := hbase.chg C435 (is_nl rfl)
       have C436 : Chg (inl []) _ _ _ _ := (ch7.n).seq ((hb12.n).seq (ch21.n))
       replace bx5 := bx5.chg C436 (is_nl rfl)
       replace bx10 := (bx10.chg hb12 (not_no _)).chg ch21 (not_no _)
       replace bx429 := bx429.chg ch432 (is_ne rfl)
       exact mid (b423, b401, g424) _ _ ⟨hbase, rfl, rfl, rfl, rfl, rfl, (r_ps_v.chg hs434 (is_nl rfl)), (bx5.chg hs434 (is_nl rfl)), (bx10.chg hs434 (is_nl rfl)), bx429, bx433⟩
      ·
       refine o_store_bx (cs' := [Value.int .i64 ((gI ps 0).1), Value.int .i64 ((gI ps 0).2)]) tp23_gr rfl rfl bx425 rfl (Nat.le_of_ble_eq_true rfl) (AllOne.all (.cons rfl (.cons rfl .nil))) rfl ?_
       intro w437 ch438 bx439
       clear bx425
       have hs440 := hs426.seq (ch438.l rfl)
       refine ⟨hs440.same, ?_⟩
       refine h_one 4 rfl (by kernel_rfl) rfl ?_
       refine o_of_val (v := Value.pointer (some (eAddr ps_v 2 (Int.toNat 0)))) (e_indexAddr (α := (Int) × (Int)) (xs := ps) (v := ps_v) (i := 0) Try.underlying25 rfl rfl (r_ps_v.chg hs440 (is_nl rfl)) rfl (by omega) (by omega)) ?_
       refine ⟨hs440.same, ?_⟩
       refine h_take (v := Value.agg (List.toArray [Value.int .i64 ((gI ps 0).1), Value.int .i64 ((gI ps 0).2)])) 5 rfl (by kernel_rfl) (by kernel_rfl) rfl hs440.same (fun w' hw' => e_load_elN (α := (Int) × (Int)) (xs := ps) (v := ps_v) (i := 0) tp23_gr rfl (r_ps_v.chg hw' (is_nl rfl)) (by omega) (by omega) rfl) ?_
       refine h_one 9 rfl (by kernel_rfl) rfl ?_
       replace bx403 := (bx403.chg ch422 (not_no _)).chg ch438 (is_ne rfl)
       refine o_store_bx (cs' := [Value.int .i64 ((gI ps 0).1), Value.int .i64 ((gI ps 0).2)]) tp23_gr rfl rfl bx403 rfl (Nat.le_of_ble_eq_true rfl) (AllOne.all (.cons rfl (.cons rfl .nil))) rfl ?_
       intro w441 ch442 bx443
       clear bx403
       have hs444 := hs440.seq (ch442.l rfl)
       refine ⟨hs444.same, ?_⟩
       refine h_nil (by kernel_rfl) ?_
       have C445 : Chg (inl [3, 4]) _ _ _ _ := (ch2.n).seq ((ch7.n).seq ((hb12.n).seq ((ch21.n).seq ((ch400.n).seq ((ch422.n).seq ((ch438.l rfl).seq (ch442.l rfl)))))))
       replace hbase := hbase.chg C445 (is_nl rfl)
       have C446 : Chg (inl []) _ _ _ _ := (ch7.n).seq ((hb12.n).seq (ch21.n))
       replace bx5 := bx5.chg C446 (is_nl rfl)
       replace bx10 := (bx10.chg hb12 (not_no _)).chg ch21 (not_no _)
       replace bx439 := bx439.chg ch442 (is_ne rfl)
       exact mid (b423, b401, g424) _ _ ⟨hbase, rfl, rfl, rfl, rfl, rfl, (r_ps_v.chg hs444 (is_nl rfl)), (bx5.chg hs444 (is_nl rfl)), (bx10.chg hs444 (is_nl rfl)), bx439, bx443⟩
    ·
     replace r_ps_v := r_ps_v.chg ch21 (not_no _)
     refine o_of_val (v := Value.pointer (some (eAddr ps_v 2 (Int.toNat 0)))) (e_indexAddr (α := (Int) × (Int)) (xs := ps) (v := ps_v) (i := 0) Try.underlying25 rfl rfl (r_ps_v.chg hs404 (is_nl rfl)) rfl (by omega) (by omega)) ?_
     refine ⟨hs404.same, ?_⟩
     refine h_take (v := Value.agg (List.toArray [Value.int .i64 ((gI ps 0).1), Value.int .i64 ((gI ps 0).2)])) 5 rfl (by kernel_rfl) (by kernel_rfl) rfl hs404.same (fun w' hw' => e_load_elN (α := (Int) × (Int)) (xs := ps) (v := ps_v) (i := 0) tp23_gr rfl (r_ps_v.chg hw' (is_nl rfl)) (by omega) (by omega) rfl) ?_
     refine h_many 1 [6] (by kernel_rfl) ⟨h_of 1 rfl (by kernel_rfl) rfl ?_, h_of 6 rfl (by kernel_rfl) rfl ?_, trivial⟩
     ·
      refine o_of_val (v := Value.pointer (some (eAddr ps_v 2 (Int.toNat 0)))) (e_indexAddr (α := (Int) × (Int)) (xs := ps) (v := ps_v) (i := 0) Try.underlying25 rfl rfl (r_ps_v.chg hs404 (is_nl rfl)) rfl (by omega) (by omega)) ?_
      refine ⟨hs404.same, ?_⟩
      refine h_take (v := Value.agg (List.toArray [Value.int .i64 ((gI ps 0).1), Value.int .i64 ((gI ps 0).2)])) 2 rfl (by kernel_rfl) (by kernel_rfl) rfl hs404.same (fun w' hw' => e_load_elN (α := (Int) × (Int)) (xs := ps) (v := ps_v) (i := 0) tp23_gr rfl (r_ps_v.chg hw' (is_nl rfl)) (by omega) (by omega) rfl) ?_
      refine h_one 6 rfl (by kernel_rfl) rfl ?_
      refine o_alloc g402 (is 3) (3, 0) rfl tp23_gr ?_
      intro g450 w447 b449 ch448 bx451
      replace bx451 : Bx g450 (is 3) w447 b449 [Value.int .i64 0, Value.int .i64 0] := bx451
      have hs452 := hs404.seq (ch448.n)
      refine ⟨hs452.same, ?_⟩
      refine h_one 8 rfl (by kernel_rfl) rfl ?_
      refine o_store_bx (cs' := [Value.int .i64 ((gI ps 0).1), Value.int .i64 ((gI ps 0).2)]) tp23_gr rfl rfl bx451 rfl (Nat.le_of_ble_eq_true rfl) (AllOne.all (.cons rfl (.cons rfl .nil))) rfl ?_
      intro w453 ch454 bx455
      clear bx451
      have hs456 := hs452.seq (ch454.l rfl)
      refine ⟨hs456.same, ?_⟩
      refine h_one 9 rfl (by kernel_rfl) rfl ?_
      replace bx403 := (bx403.chg ch448 (not_no _)).chg ch454 (is_ne rfl)
      refine o_store_bx (cs' := [Value.int .i64 ((gI ps 0).1), Value.int .i64 ((gI ps 0).2)]) tp23_gr rfl rfl bx403 rfl (Nat.le_of_ble_eq_true rfl) (AllOne.all (.cons rfl (.cons rfl .nil))) rfl ?_
      intro w457 ch458 bx459
      clear bx403
      have hs460 := hs456.seq (ch458.l rfl)
      refine ⟨hs460.same, ?_⟩
      refine h_nil (by kernel_rfl) ?_
      have C461 : Chg (inl [3, 4]) _ _ _ _ := (ch2.n).seq ((ch7.n).seq ((hb12.n).seq ((ch21.n).seq ((ch400.n).seq ((ch448.n).seq ((ch454.l rfl).seq (ch458.l rfl)))))))
      replace hbase := hbase.chg C461 (is_nl rfl)
      have C462 : Chg (inl []) _ _ _ _ := (ch7.n).seq ((hb12.n).seq (ch21.n))
      replace bx5 := bx5.chg C462 (is_nl rfl)
      replace bx10 := (bx10.chg hb12 (not_no _)).chg ch21 (not_no _)
      replace bx455 := bx455.chg ch458 (is_ne rfl)
      exact mid (b449, b401, g450) _ _ ⟨hbase, rfl, rfl, rfl, rfl, rfl, (r_ps_v.chg hs460 (is_nl rfl)), (bx5.chg hs460 (is_nl rfl)), (bx10.chg hs460 (is_nl rfl)), bx455, bx459⟩
     ·
      refine o_alloc g402 (is 3) (3, 0) rfl tp23_gr ?_
      intro g466 w463 b465 ch464 bx467
      replace bx467 : Bx g466 (is 3) w463 b465 [Value.int .i64 0, Value.int .i64 0] := bx467
      have hs468 := hs404.seq (ch464.n)
      refine ⟨hs468.same, ?_⟩
      refine h_one 1 rfl (by kernel_rfl) rfl ?_
      refine o_of_val (v := Value.pointer (some (eAddr ps_v 2 (Int.toNat 0)))) (e_indexAddr (α := (Int) × (Int)) (xs := ps) (v := ps_v) (i := 0) Try.underlying25 rfl rfl (r_ps_v.chg hs468 (is_nl rfl)) rfl (by omega) (by omega)) ?_
      refine ⟨hs468.same, ?_⟩
      refine h_take (v := Value.agg (List.toArray [Value.int .i64 ((gI ps 0).1), Value.int .i64 ((gI ps 0).2)])) 2 rfl (by kernel_rfl) (by kernel_rfl) rfl hs468.same (fun w' hw' => e_load_elN (α := (Int) × (Int)) (xs := ps) (v := ps_v) (i := 0) tp23_gr rfl (r_ps_v.chg hw' (is_nl rfl)) (by omega) (by omega) rfl) ?_
      refine h_one 8 rfl (by kernel_rfl) rfl ?_
      refine o_store_bx (cs' := [Value.int .i64 ((gI ps 0).1), Value.int .i64 ((gI ps 0).2)]) tp23_gr rfl rfl bx467 rfl (Nat.le_of_ble_eq_true rfl) (AllOne.all (.cons rfl (.cons rfl .nil))) rfl ?_
      intro w469 ch470 bx471
      clear bx467
      have hs472 := hs468.seq (ch470.l rfl)
      refine ⟨hs472.same, ?_⟩
      refine h_one 9 rfl (by kernel_rfl) rfl ?_
      replace bx403 := (bx403.chg ch464 (not_no _)).chg ch470 (is_ne rfl)
      refine o_store_bx (cs' := [Value.int .i64 ((gI ps 0).1), Value.int .i64 ((gI ps 0).2)]) tp23_gr rfl rfl bx403 rfl (Nat.le_of_ble_eq_true rfl) (AllOne.all (.cons rfl (.cons rfl .nil))) rfl ?_
      intro w473 ch474 bx475
      clear bx403
      have hs476 := hs472.seq (ch474.l rfl)
      refine ⟨hs476.same, ?_⟩
      refine h_nil (by kernel_rfl) ?_
      have C477 : Chg (inl [3, 4]) _ _ _ _ := (ch2.n).seq ((ch7.n).seq ((hb12.n).seq ((ch21.n).seq ((ch400.n).seq ((ch464.n).seq ((ch470.l rfl).seq (ch474.l rfl)))))))
      replace hbase := hbase.chg C477 (is_nl rfl)
      have C478 : Chg (inl []) _ _ _ _ := (ch7.n).seq ((hb12.n).seq (ch21.n))
      replace bx5 := bx5.chg C478 (is_nl rfl)
      replace bx10 := (bx10.chg hb12 (not_no _)).chg ch21 (not_no _)
      replace bx471 := bx471.chg ch474 (is_ne rfl)
      exact mid (b465, b401, g466) _ _ ⟨hbase, rfl, rfl, rfl, rfl, rfl, (r_ps_v.chg hs476 (is_nl rfl)), (bx5.chg hs476 (is_nl rfl)), (bx10.chg hs476 (is_nl rfl)), bx471, bx475⟩
    ·
     refine o_alloc g402 (is 3) (3, 0) rfl tp23_gr ?_
     intro g482 w479 b481 ch480 bx483
     replace bx483 : Bx g482 (is 3) w479 b481 [Value.int .i64 0, Value.int .i64 0] := bx483
     have hs484 := hs404.seq (ch480.n)
     refine ⟨hs484.same, ?_⟩
     refine h_many 1 [4] (by kernel_rfl) ⟨h_of 1 rfl (by kernel_rfl) rfl ?_, h_of 4 rfl (by kernel_rfl) rfl ?_, trivial⟩
     ·
      replace r_ps_v := r_ps_v.chg ch21 (not_no _)
      refine o_of_val (v := Value.pointer (some (eAddr ps_v 2 (Int.toNat 0)))) (e_indexAddr (α := (Int) × (Int)) (xs := ps) (v := ps_v) (i := 0) Try.underlying25 rfl rfl (r_ps_v.chg hs484 (is_nl rfl)) rfl (by omega) (by omega)) ?_
      refine ⟨hs484.same, ?_⟩
      refine h_take (v := Value.agg (List.toArray [Value.int .i64 ((gI ps 0).1), Value.int .i64 ((gI ps 0).2)])) 2 rfl (by kernel_rfl) (by kernel_rfl) rfl hs484.same (fun w' hw' => e_load_elN (α := (Int) × (Int)) (xs := ps) (v := ps_v) (i := 0) tp23_gr rfl (r_ps_v.chg hw' (is_nl rfl)) (by omega) (by omega) rfl) ?_
      refine h_many 4 [8] (by kernel_rfl) ⟨h_of 4 rfl (by kernel_rfl) rfl ?_, h_of 8 rfl (by kernel_rfl) rfl ?_, trivial⟩
      ·
       refine o_of_val (v := Value.pointer (some (eAddr ps_v 2 (Int.toNat 0)))) (e_indexAddr (α := (Int) × (Int)) (xs := ps) (v := ps_v) (i := 0) Try.underlying25 rfl rfl (r_ps_v.chg hs484 (is_nl rfl)) rfl (by omega) (by omega)) ?_
       refine ⟨hs484.same, ?_⟩
       refine h_take (v := Value.agg (List.toArray [Value.int .i64 ((gI ps 0).1), Value.int .i64 ((gI ps 0).2)])) 5 rfl (by kernel_rfl) (by kernel_rfl) rfl hs484.same (fun w' hw' => e_load_elN (α := (Int) × (Int)) (xs := ps) (v := ps_v) (i := 0) tp23_gr rfl (r_ps_v.chg hw' (is_nl rfl)) (by omega) (by omega) rfl) ?_
       refine h_one 8 rfl (by kernel_rfl) rfl ?_
       refine o_store_bx (cs' := [Value.int .i64 ((gI ps 0).1), Value.int .i64 ((gI ps 0).2)]) tp23_gr rfl rfl bx483 rfl (Nat.le_of_ble_eq_true rfl) (AllOne.all (.cons rfl (.cons rfl .nil))) rfl ?_
       intro w485 ch486 bx487
       clear bx483
       have hs488 := hs484.seq (ch486.l rfl)
       refine ⟨hs488.same, ?_⟩
       refine h_one 9 rfl (by kernel_rfl) rfl ?_
       replace bx403 := (bx403.chg ch480 (not_no _)).chg ch486 (is_ne rfl)
       refine o_store_bx (cs' := [Value.int .i64 ((gI ps 0).1), Value.int .i64 ((gI ps 0).2)]) tp23_gr rfl rfl bx403 rfl (Nat.le_of_ble_eq_true rfl) (AllOne.all (.cons rfl (.cons rfl .nil))) rfl ?_
       intro w489 ch490 bx491
       clear bx403
       have hs492 := hs488.seq (ch490.l rfl)
       refine ⟨hs492.same, ?_⟩
       refine h_nil (by kernel_rfl) ?_
       have C493 : Chg (inl [3, 4]) _ _ _ _ := (ch2.n).seq ((ch7.n).seq ((hb12.n).seq ((ch21.n).seq ((ch400.n).seq ((ch480.n).seq ((ch486.l rfl).seq (ch490.l rfl)))))))
       replace hbase := hbase.chg C493 (is_nl rfl)
       have C494 : Chg (inl []) _ _ _ _ := (ch7.n).seq ((hb12.n).seq (ch21.n))
       replace bx5 := bx5.chg C494 (is_nl rfl)
       replace bx10 := (bx10.chg hb12 (not_no _)).chg ch21 (not_no _)
       replace bx487 := bx487.chg ch490 (is_ne rfl)
       exact mid (b481, b401, g482) _ _ ⟨hbase, rfl, rfl, rfl, rfl, rfl, (r_ps_v.chg hs492 (is_nl rfl)), (bx5.chg hs492 (is_nl rfl)), (bx10.chg hs492 (is_nl rfl)), bx487, bx491⟩
      ·
       refine o_store_bx (cs' := [Value.int .i64 ((gI ps 0).1), Value.int .i64 ((gI ps 0).2)]) tp23_gr rfl rfl bx483 rfl (Nat.le_of_ble_eq_true rfl) (AllOne.all (.cons rfl (.cons rfl .nil))) rfl ?_
       intro w495 ch496 bx497
       clear bx483
       have hs498 := hs484.seq (ch496.l rfl)
       refine ⟨hs498.same, ?_⟩
       refine h_one 4 rfl (by kernel_rfl) rfl ?_
       refine o_of_val (v := Value.pointer (some (eAddr ps_v 2 (Int.toNat 0)))) (e_indexAddr (α := (Int) × (Int)) (xs := ps) (v := ps_v) (i := 0) Try.underlying25 rfl rfl (r_ps_v.chg hs498 (is_nl rfl)) rfl (by omega) (by omega)) ?_
       refine ⟨hs498.same, ?_⟩
       refine h_take (v := Value.agg (List.toArray [Value.int .i64 ((gI ps 0).1), Value.int .i64 ((gI ps 0).2)])) 5 rfl (by kernel_rfl) (by kernel_rfl) rfl hs498.same (fun w' hw' => e_load_elN (α := (Int) × (Int)) (xs := ps) (v := ps_v) (i := 0) tp23_gr rfl (r_ps_v.chg hw' (is_nl rfl)) (by omega) (by omega) rfl) ?_
       refine h_one 9 rfl (by kernel_rfl) rfl ?_
       replace bx403 := (bx403.chg ch480 (not_no _)).chg ch496 (is_ne rfl)
       refine o_store_bx (cs' := [Value.int .i64 ((gI ps 0).1), Value.int .i64 ((gI ps 0).2)]) tp23_gr rfl rfl bx403 rfl (Nat.le_of_ble_eq_true rfl) (AllOne.all (.cons rfl (.cons rfl .nil))) rfl ?_
       intro w499 ch500 bx501
       clear bx403
       have hs502 := hs498.seq (ch500.l rfl)
       refine ⟨hs502.same, ?_⟩
       refine h_nil (by kernel_rfl) ?_
       have C503 : Chg (inl [3, 4]) _ _ _ _ := (ch2.n).seq ((ch7.n).seq ((hb12.n).seq ((ch21.n).seq ((ch400.n).seq ((ch480.n).seq ((ch496.l rfl).seq (ch500.l rfl)))))))
       replace hbase := hbase.chg C503 (is_nl rfl)
       have C504 : Chg (inl []) _ _ _ _ := (ch7.n).seq ((hb12.n).seq (ch21.n))
       replace bx5 := bx5.chg C504 (is_nl rfl)
       replace bx10 := (bx10.chg hb12 (not_no _)).chg ch21 (not_no _)
       replace bx497 := bx497.chg ch500 (is_ne rfl)
       exact mid (b481, b401, g482) _ _ ⟨hbase, rfl, rfl, rfl, rfl, rfl, (r_ps_v.chg hs502 (is_nl rfl)), (bx5.chg hs502 (is_nl rfl)), (bx10.chg hs502 (is_nl rfl)), bx497, bx501⟩
     ·
      replace r_ps_v := r_ps_v.chg ch21 (not_no _)
      refine o_of_val (v := Value.pointer (some (eAddr ps_v 2 (Int.toNat 0)))) (e_indexAddr (α := (Int) × (Int)) (xs := ps) (v := ps_v) (i := 0) Try.underlying25 rfl rfl (r_ps_v.chg hs484 (is_nl rfl)) rfl (by omega) (by omega)) ?_
      refine ⟨hs484.same, ?_⟩
      refine h_take (v := Value.agg (List.toArray [Value.int .i64 ((gI ps 0).1), Value.int .i64 ((gI ps 0).2)])) 5 rfl (by kernel_rfl) (by kernel_rfl) rfl hs484.same (fun w' hw' => e_load_elN (α := (Int) × (Int)) (xs := ps) (v := ps_v) (i := 0) tp23_gr rfl (r_ps_v.chg hw' (is_nl rfl)) (by omega) (by omega) rfl) ?_
      refine h_one 1 rfl (by kernel_rfl) rfl ?_
      refine o_of_val (v := Value.pointer (some (eAddr ps_v 2 (Int.toNat 0)))) (e_indexAddr (α := (Int) × (Int)) (xs := ps) (v := ps_v) (i := 0) Try.underlying25 rfl rfl (r_ps_v.chg hs484 (is_nl rfl)) rfl (by omega) (by omega)) ?_
      refine ⟨hs484.same, ?_⟩
      refine h_take (v := Value.agg (List.toArray [Value.int .i64 ((gI ps 0).1), Value.int .i64 ((gI ps 0).2)])) 2 rfl (by kernel_rfl) (by kernel_rfl) rfl hs484.same (fun w' hw' => e_load_elN (α := (Int) × (Int)) (xs := ps) (v := ps_v) (i := 0) tp23_gr rfl (r_ps_v.chg hw' (is_nl rfl)) (by omega) (by omega) rfl) ?_
      refine h_one 8 rfl (by kernel_rfl) rfl ?_
      refine o_store_bx (cs' := [Value.int .i64 ((gI ps 0).1), Value.int .i64 ((gI ps 0).2)]) tp23_gr rfl rfl bx483 rfl (Nat.le_of_ble_eq_true rfl) (AllOne.all (.cons rfl (.cons rfl .nil))) rfl ?_
      intro w505 ch506 bx507
      clear bx483
      have hs508 := hs484.seq (ch506.l rfl)
      refine ⟨hs508.same, ?_⟩
      refine h_one 9 rfl (by kernel_rfl) rfl ?_
      replace bx403 := (bx403.chg ch480 (not_no _)).chg ch506 (is_ne rfl)
      refine o_store_bx (cs' := [Value.int .i64 ((gI ps 0).1), Value.int .i64 ((gI ps 0).2)]) tp23_gr rfl rfl bx403 rfl (Nat.le_of_ble_eq_true rfl) (AllOne.all (.cons rfl (.cons rfl .nil))) rfl ?_
      intro w509 ch510 bx511
      clear bx403
      have hs512 := hs508.seq (ch510.l rfl)
      refine ⟨hs512.same, ?_⟩
      refine h_nil (by kernel_rfl) ?_
      have C513 : Chg (inl [3, 4]) _ _ _ _ := (ch2.n).seq ((ch7.n).seq ((hb12.n).seq ((ch21.n).seq ((ch400.n).seq ((ch480.n).seq ((ch506.l rfl).seq (ch510.l rfl)))))))
      replace hbase := hbase.chg C513 (is_nl rfl)
      have C514 : Chg (inl []) _ _ _ _ := (ch7.n).seq ((hb12.n).seq (ch21.n))
      replace bx5 := bx5.chg C514 (is_nl rfl)
      replace bx10 := (bx10.chg hb12 (not_no _)).chg ch21 (not_no _)
      replace bx507 := bx507.chg ch510 (is_ne rfl)
      exact mid (b481, b401, g482) _ _ ⟨hbase, rfl, rfl, rfl, rfl, rfl, (r_ps_v.chg hs512 (is_nl rfl)), (bx5.chg hs512 (is_nl rfl)), (bx10.chg hs512 (is_nl rfl)), bx507, bx511⟩
  clear r_ps_v
  clear bx5
  clear bx10
  clear hbase
  rintro ⟨b25, b31, g517⟩ f515 w516 ⟨hbase, zs0, zs2, zs3, zs5, zs6, r_ps_v, bx5, bx10, bx37, bx41⟩
  refine run_seq ?_
  refine run_seq ?_
  refine run_region rfl ?_
  refine l_val (v := ps_v) rfl (e_move (by exact zs0)) ?_
  refine l_val (v := Value.int .i64 (List.length ps : Int)) rfl (e_len Try.underlying25 rfl r_ps_v) ?_
  refine l_val (v := Value.int .i64 0) rfl (e_move rfl) ?_
  refine l_nil ?_
  refine run_block ?_
  refine run_loop (σ := Int × Int × Int × Int × Nat × Cmap) (fun ⟨t5_0, t5_1, t6_0, t6_1, k, gq⟩ f w => Base w0 gq w ∧ f 2 = Value.pointer (some ⟨b3, 0, none⟩) ∧ f 3 = Value.pointer (some ⟨b8, 0, none⟩) ∧ f 5 = Value.pointer (some ⟨b25, 0, none⟩) ∧ f 6 = Value.pointer (some ⟨b31, 0, none⟩) ∧ f 25 = ps_v ∧ f 26 = Value.int .i64 (List.length ps : Int) ∧ f 27 = Value.int .i64 (k : Int) ∧ Sl gq (is 0) w ps_v ps ∧ Bx gq (is 1) w b3 [Value.int .i64 0, Value.int .i64 0] ∧ Bx gq (is 2) w b8 [Value.int .i64 0, Value.int .i64 0] ∧ Bx gq (is 3) w b25 [Value.int .i64 t5_0, Value.int .i64 t5_1] ∧ Bx gq (is 4) w b31 [Value.int .i64 t6_0, Value.int .i64 t6_1] ∧ (k : Int) ≤ ((List.length ps : Int) : Int) ∧ ((t5_0 = (loK ps k).1 ∧ t5_1 = (loK ps k).2) ∧ t6_0 = (hiK ps k).1 ∧ t6_1 = (hiK ps k).2)) (fun ⟨t5_0, t5_1, t6_0, t6_1, k, gq⟩ => Int.toNat (((List.length ps : Int) : Int) - (k : Int))) ((gI ps 0).1, (gI ps 0).2, (gI ps 0).1, (gI ps 0).2, 0, g517) ?_ ?_
  · exact ⟨hbase, (by exact zs2), (by exact zs3), (by exact zs5), (by exact zs6), rfl, rfl, rfl, r_ps_v, bx5, bx10, bx37, bx41, by omega, by exact ⟨⟨rfl, rfl⟩, rfl, rfl⟩⟩
  clear r_ps_v
  clear bx5
  clear bx10
  clear bx37
  clear bx41
  clear hbase
  rintro ⟨t5_0, t5_1, t6_0, t6_1, k, g520⟩ f518 w519 ⟨hbase, zs2, zs3, zs5, zs6, zs25, zs26, zs27, r_ps_v, bx5, bx10, bx37, bx41, hle_k, hinv⟩ back7
  refine run_seq ?_
  refine run_region rfl ?_
  refine l_val (v := Value.bool (decide ((k : Int) < (List.length ps : Int)))) rfl (e_lss (m := (k : Int)) (n := (List.length ps : Int)) (by exact zs27) (by exact zs26)) ?_
  refine l_nil ?_
  refine run_seq ?_
  by_cases p7 : (k : Int) < (List.length ps : Int)
  ·
   refine run_cond_t rfl (decide_eq_true p7) ?_
   refine run_skip ?_
   refine run_seq ?_
   refine run_block ?_
   refine run_seq ?_
   refine run_region rfl ?_
   refine l_val (v := Value.pointer (some (eAddr ps_v 2 (Int.toNat (k : Int))))) rfl (e_indexAddr (α := (Int) × (Int)) (xs := ps) (v := ps_v) (i := (k : Int)) Try.underlying25 rfl (by exact zs25) r_ps_v (by exact zs27) (by omega) (by omega)) ?_
   refine l_val (v := Value.agg (List.toArray [Value.int .i64 ((gI ps (k : Int)).1), Value.int .i64 ((gI ps (k : Int)).2)])) rfl (e_load_elN (α := (Int) × (Int)) (xs := ps) (v := ps_v) (i := (k : Int)) tp23_gr rfl r_ps_v (by omega) (by omega) rfl) ?_
   refine l_op rfl ?_
   refine o_alloc g520 (is 5) (5, 0) rfl tp23_gr ?_
   intro g524 w521 b523 ch522 bx525
   replace bx525 : Bx g524 (is 5) w521 b523 [Value.int .i64 0, Value.int .i64 0] := bx525
   refine l_op rfl ?_
   refine o_store_bx (cs' := [Value.int .i64 ((gI ps (k : Int)).1), Value.int .i64 ((gI ps (k : Int)).2)]) tp23_gr rfl rfl bx525 rfl (Nat.le_of_ble_eq_true rfl) (AllOne.all (.cons rfl (.cons rfl .nil))) rfl ?_
   intro w526 ch527 bx528
   clear bx525
   refine l_nil ?_
   refine run_seq ?_
   refine region_mid (σ := Cmap) (fun gq f w => Base w0 gq w ∧ f 2 = Value.pointer (some ⟨b3, 0, none⟩) ∧ f 3 = Value.pointer (some ⟨b8, 0, none⟩) ∧ f 5 = Value.pointer (some ⟨b25, 0, none⟩) ∧ f 6 = Value.pointer (some ⟨b31, 0, none⟩) ∧ f 8 = Value.pointer (some ⟨b523, 0, none⟩) ∧ f 25 = ps_v ∧ f 26 = Value.int .i64 (List.length ps : Int) ∧ f 27 = Value.int .i64 (k : Int) ∧ Sl gq (is 0) w ps_v ps ∧ Bx gq (is 1) w b3 [Value.int .i64 0, Value.int .i64 0] ∧ Bx gq (is 2) w b8 [Value.int .i64 0, Value.int .i64 0] ∧ Bx gq (is 4) w b31 [Value.int .i64 t6_0, Value.int .i64 t6_1] ∧ Bx gq (is 5) w b523 [Value.int .i64 ((gI ps (k : Int)).1), Value.int .i64 ((gI ps (k : Int)).2)] ∧ Bx gq (is 3) w b25 [Value.int .i64 (min t5_0 ((gI ps (k : Int)).1)), Value.int .i64 (min t5_1 ((gI ps (k : Int)).2))]) g524 [0, 1, 2, 3, 4, 5, 6, 7, 9, 10, 12] mixed_gr ?_ ?_
   ·
    intro mid
    intro w530 ch529
    refine x_pure (v := Value.pointer (some ⟨b25, 0, none⟩)) 0 rfl (by kernel_rfl) (by kernel_rfl) rfl (fun w => e_fieldAddr Try.underlying23 rfl rfl (by exact zs5) rfl) ?_
    have C531 : Chg (inl [5]) _ _ _ _ := (ch522.n).seq ((ch527.l rfl).seq (ch529.n))
    replace bx37 := bx37.chg C531 (is_nl rfl)
    refine x_held (v := Value.int .i64 t5_0) 1 [0, 2, 5, 7, 3, 6, 8, 9] rfl (by kernel_rfl) (by kernel_rfl) rfl (fun w' hw' => e_load_bx1 tp3_gr rfl (bx37.bel hw') rfl) ?_
    refine x_pure (v := Value.pointer (some ⟨b523, 0, none⟩)) 2 rfl (by kernel_rfl) (by kernel_rfl) rfl (fun w => e_fieldAddr Try.underlying23 rfl rfl rfl rfl) ?_
    replace bx528 := bx528.chg ch529 (not_no _)
    refine x_held (v := Value.int .i64 ((gI ps (k : Int)).1)) 3 [2, 1, 0, 5, 7, 6, 8, 9] rfl (by kernel_rfl) (by kernel_rfl) rfl (fun w' hw' => e_load_bx1 tp3_gr rfl (bx528.bel hw') rfl) ?_
    refine x_pure (v := Value.int .i64 (min t5_0 ((gI ps (k : Int)).1))) 4 rfl (by kernel_rfl) (by kernel_rfl) rfl (fun w => e_min rfl rfl) ?_
    refine x_pure (v := Value.pointer (some ⟨b25, 1, none⟩)) 5 rfl (by kernel_rfl) (by kernel_rfl) rfl (fun w => e_fieldAddr Try.underlying23 rfl rfl (by exact zs5) rfl) ?_
    refine x_held (v := Value.int .i64 t5_1) 6 [5, 4, 3, 2, 1, 0, 7, 8] rfl (by kernel_rfl) (by kernel_rfl) rfl (fun w' hw' => e_load_bx1 tp3_gr rfl (bx37.bel hw') rfl) ?_
    refine x_pure (v := Value.pointer (some ⟨b523, 1, none⟩)) 7 rfl (by kernel_rfl) (by kernel_rfl) rfl (fun w => e_fieldAddr Try.underlying23 rfl rfl rfl rfl) ?_
    refine x_pure (v := Value.pointer (some ⟨b25, 0, none⟩)) 10 rfl (by kernel_rfl) (by kernel_rfl) rfl (fun w => e_fieldAddr Try.underlying23 rfl rfl (by exact zs5) rfl) ?_
    refine x_two 8 11 rfl rfl (by kernel_rfl) rfl rfl ?_ ?_
    ·
     refine o_of_val (v := Value.int .i64 ((gI ps (k : Int)).2)) (e_load_bx1 tp3_gr rfl bx528 rfl) ?_
     refine x_pure (v := Value.int .i64 (min t5_1 ((gI ps (k : Int)).2))) 9 rfl (by kernel_rfl) (by kernel_rfl) rfl (fun w => e_min rfl rfl) ?_
     refine x_one 11 rfl (by kernel_rfl) rfl ?_
     refine o_store_bx (cs' := [Value.int .i64 (min t5_0 ((gI ps (k : Int)).1)), Value.int .i64 t5_1]) tp3_gr rfl rfl bx37 rfl (Nat.le_of_ble_eq_true rfl) (AllOne.all (.cons rfl .nil)) rfl ?_
     intro w532 ch533 bx534
     clear bx37
     refine x_pure (v := Value.pointer (some ⟨b25, 1, none⟩)) 12 rfl (by kernel_rfl) (by kernel_rfl) rfl (fun w => e_fieldAddr Try.underlying23 rfl rfl (by exact zs5) rfl) ?_
     refine x_one 13 rfl (by kernel_rfl) rfl ?_
     refine o_store_bx (cs' := [Value.int .i64 (min t5_0 ((gI ps (k : Int)).1)), Value.int .i64 (min t5_1 ((gI ps (k : Int)).2))]) tp3_gr rfl rfl bx534 rfl (Nat.le_of_ble_eq_true rfl) (AllOne.all (.cons rfl .nil)) rfl ?_
     intro w535 ch536 bx537
     clear bx534
     refine x_nil (by kernel_rfl) ?_
     have C538 : Chg (inl [3, 5]) _ _ _ _ := (ch522.n).seq ((ch527.l rfl).seq ((ch529.n).seq ((ch533.l rfl).seq (ch536.l rfl))))
     replace hbase := hbase.chg C538 (is_nl rfl)
     replace r_ps_v := r_ps_v.chg C538 (is_nl rfl)
     replace bx5 := bx5.chg C538 (is_nl rfl)
     replace bx10 := bx10.chg C538 (is_nl rfl)
     replace bx41 := bx41.chg C538 (is_nl rfl)
     replace bx528 := (bx528.chg ch533 (is_ne rfl)).chg ch536 (is_ne rfl)
     exact mid (g524) _ _ ⟨hbase, (by exact zs2), (by exact zs3), (by exact zs5), (by exact zs6), rfl, (by exact zs25), (by exact zs26), (by exact zs27), r_ps_v, bx5, bx10, bx41, bx528, bx537⟩
    ·
     refine o_store_bx (cs' := [Value.int .i64 (min t5_0 ((gI ps (k : Int)).1)), Value.int .i64 t5_1]) tp3_gr rfl rfl bx37 rfl (Nat.le_of_ble_eq_true rfl) (AllOne.all (.cons rfl .nil)) rfl ?_
     intro w539 ch540 bx541
     clear bx37
     replace bx528 := bx528.chg ch540 (is_ne rfl)
     refine x_one 8 rfl (by kernel_rfl) rfl ?_
     refine o_of_val (v := Value.int .i64 ((gI ps (k : Int)).2)) (e_load_bx1 tp3_gr rfl bx528 rfl) ?_
     refine x_pure (v := Value.int .i64 (min t5_1 ((gI ps (k : Int)).2))) 9 rfl (by kernel_rfl) (by kernel_rfl) rfl (fun w => e_min rfl rfl) ?_
     refine x_pure (v := Value.pointer (some ⟨b25, 1, none⟩)) 12 rfl (by kernel_rfl) (by kernel_rfl) rfl (fun w => e_fieldAddr Try.underlying23 rfl rfl (by exact zs5) rfl) ?_
     refine x_one 13 rfl (by kernel_rfl) rfl ?_
     refine o_store_bx (cs' := [Value.int .i64 (min t5_0 ((gI ps (k : Int)).1)), Value.int .i64 (min t5_1 ((gI ps (k : Int)).2))]) tp3_gr rfl rfl bx541 rfl (Nat.le_of_ble_eq_true rfl) (AllOne.all (.cons rfl .nil)) rfl ?_
     intro w542 ch543 bx544
     clear bx541
     refine x_nil (by kernel_rfl) ?_
     have C545 : Chg (inl [3, 5]) _ _ _ _ := (ch522.n).seq ((ch527.l rfl).seq ((ch529.n).seq ((ch540.l rfl).seq (ch543.l rfl))))
     replace hbase := hbase.chg C545 (is_nl rfl)
     replace r_ps_v := r_ps_v.chg C545 (is_nl rfl)
     replace bx5 := bx5.chg C545 (is_nl rfl)
     replace bx10 := bx10.chg C545 (is_nl rfl)
     replace bx41 := bx41.chg C545 (is_nl rfl)
     replace bx528 := bx528.chg ch543 (is_ne rfl)
     exact mid (g524) _ _ ⟨hbase, (by exact zs2), (by exact zs3), (by exact zs5), (by exact zs6), rfl, (by exact zs25), (by exact zs26), (by exact zs27), r_ps_v, bx5, bx10, bx41, bx528, bx544⟩
   clear r_ps_v
   clear bx5
   clear bx10
   clear bx37
   clear bx41
   clear bx528
   clear hbase
   rintro g548 f546 w547 ⟨hbase, zs2, zs3, zs5, zs6, zs8, zs25, zs26, zs27, r_ps_v, bx5, bx10, bx41, bx528, bx534⟩
   refine region_mid (σ := Cmap) (fun gq f w => Base w0 gq w ∧ f 2 = Value.pointer (some ⟨b3, 0, none⟩) ∧ f 3 = Value.pointer (some ⟨b8, 0, none⟩) ∧ f 5 = Value.pointer (some ⟨b25, 0, none⟩) ∧ f 6 = Value.pointer (some ⟨b31, 0, none⟩) ∧ f 25 = ps_v ∧ f 26 = Value.int .i64 (List.length ps : Int) ∧ f 27 = Value.int .i64 (k : Int) ∧ Sl gq (is 0) w ps_v ps ∧ Bx gq (is 1) w b3 [Value.int .i64 0, Value.int .i64 0] ∧ Bx gq (is 2) w b8 [Value.int .i64 0, Value.int .i64 0] ∧ Bx gq (is 3) w b25 [Value.int .i64 (min t5_0 ((gI ps (k : Int)).1)), Value.int .i64 (min t5_1 ((gI ps (k : Int)).2))] ∧ Bx gq (is 4) w b31 [Value.int .i64 (max t6_0 ((gI ps (k : Int)).1)), Value.int .i64 (max t6_1 ((gI ps (k : Int)).2))]) g548 [0, 1, 2, 3, 4, 5, 6, 7, 9, 10, 12] mixed_gr ?_ ?_
   ·
    intro mid
    intro w550 ch549
    refine x_pure (v := Value.pointer (some ⟨b31, 0, none⟩)) 0 rfl (by kernel_rfl) (by kernel_rfl) rfl (fun w => e_fieldAddr Try.underlying23 rfl rfl (by exact zs6) rfl) ?_
    replace bx41 := bx41.chg ch549 (not_no _)
    refine x_held (v := Value.int .i64 t6_0) 1 [0, 2, 5, 7, 3, 6, 8, 9] rfl (by kernel_rfl) (by kernel_rfl) rfl (fun w' hw' => e_load_bx1 tp3_gr rfl (bx41.bel hw') rfl) ?_
    refine x_pure (v := Value.pointer (some ⟨b523, 0, none⟩)) 2 rfl (by kernel_rfl) (by kernel_rfl) rfl (fun w => e_fieldAddr Try.underlying23 rfl rfl (by exact zs8) rfl) ?_
    replace bx528 := bx528.chg ch549 (not_no _)
    refine x_held (v := Value.int .i64 ((gI ps (k : Int)).1)) 3 [2, 1, 0, 5, 7, 6, 8, 9] rfl (by kernel_rfl) (by kernel_rfl) rfl (fun w' hw' => e_load_bx1 tp3_gr rfl (bx528.bel hw') rfl) ?_
    refine x_pure (v := Value.int .i64 (max t6_0 ((gI ps (k : Int)).1))) 4 rfl (by kernel_rfl) (by kernel_rfl) rfl (fun w => e_max rfl rfl) ?_
    refine x_pure (v := Value.pointer (some ⟨b31, 1, none⟩)) 5 rfl (by kernel_rfl) (by kernel_rfl) rfl (fun w => e_fieldAddr Try.underlying23 rfl rfl (by exact zs6) rfl) ?_
    refine x_held (v := Value.int .i64 t6_1) 6 [5, 4, 3, 2, 1, 0, 7, 8] rfl (by kernel_rfl) (by kernel_rfl) rfl (fun w' hw' => e_load_bx1 tp3_gr rfl (bx41.bel hw') rfl) ?_
    refine x_pure (v := Value.pointer (some ⟨b523, 1, none⟩)) 7 rfl (by kernel_rfl) (by kernel_rfl) rfl (fun w => e_fieldAddr Try.underlying23 rfl rfl (by exact zs8) rfl) ?_
    refine x_pure (v := Value.pointer (some ⟨b31, 0, none⟩)) 10 rfl (by kernel_rfl) (by kernel_rfl) rfl (fun w => e_fieldAddr Try.underlying23 rfl rfl (by exact zs6) rfl) ?_
    refine x_two 8 11 rfl rfl (by kernel_rfl) rfl rfl ?_ ?_
    ·
     refine o_of_val (v := Value.int .i64 ((gI ps (k : Int)).2)) (e_load_bx1 tp3_gr rfl bx528 rfl) ?_
     refine x_pure (v := Value.int .i64 (max t6_1 ((gI ps (k : Int)).2))) 9 rfl (by kernel_rfl) (by kernel_rfl) rfl (fun w => e_max rfl rfl) ?_
     refine x_one 11 rfl (by kernel_rfl) rfl ?_
     refine o_store_bx (cs' := [Value.int .i64 (max t6_0 ((gI ps (k : Int)).1)), Value.int .i64 t6_1]) tp3_gr rfl rfl bx41 rfl (Nat.le_of_ble_eq_true rfl) (AllOne.all (.cons rfl .nil)) rfl ?_
     intro w551 ch552 bx553
     clear bx41
     refine x_pure (v := Value.pointer (some ⟨b31, 1, none⟩)) 12 rfl (by kernel_rfl) (by kernel_rfl) rfl (fun w => e_fieldAddr Try.underlying23 rfl rfl (by exact zs6) rfl) ?_
     refine x_one 13 rfl (by kernel_rfl) rfl ?_
     refine o_store_bx (cs' := [Value.int .i64 (max t6_0 ((gI ps (k : Int)).1)), Value.int .i64 (max t6_1 ((gI ps (k : Int)).2))]) tp3_gr rfl rfl bx553 rfl (Nat.le_of_ble_eq_true rfl) (AllOne.all (.cons rfl .nil)) rfl ?_
     intro w554 ch555 bx556
     clear bx553
     refine x_nil (by kernel_rfl) ?_
     have C557 : Chg (inl [4]) _ _ _ _ := (ch549.n).seq ((ch552.l rfl).seq (ch555.l rfl))
     replace hbase := hbase.chg C557 (is_nl rfl)
     replace r_ps_v := r_ps_v.chg C557 (is_nl rfl)
     replace bx5 := bx5.chg C557 (is_nl rfl)
     replace bx10 := bx10.chg C557 (is_nl rfl)
     replace bx534 := bx534.chg C557 (is_nl rfl)
     exact mid (g548) _ _ ⟨hbase, (by exact zs2), (by exact zs3), (by exact zs5), (by exact zs6), (by exact zs25), (by exact zs26), (by exact zs27), r_ps_v, bx5, bx10, bx534, bx556⟩
    ·
     refine o_store_bx (cs' := [Value.int .i64 (max t6_0 ((gI ps (k : Int)).1)), Value.int .i64 t6_1]) tp3_gr rfl rfl bx41 rfl (Nat.le_of_ble_eq_true rfl) (AllOne.all (.cons rfl .nil)) rfl ?_
     intro w558 ch559 bx560
     clear bx41
     replace bx528 := bx528.chg ch559 (is_ne rfl)
     refine x_one 8 rfl (by kernel_rfl) rfl ?_
     refine o_of_val (v := Value.int .i64 ((gI ps (k : Int)).2)) (e_load_bx1 tp3_gr rfl bx528 rfl) ?_
     refine x_pure (v := Value.int .i64 (max t6_1 ((gI ps (k : Int)).2))) 9 rfl (by kernel_rfl) (by kernel_rfl) rfl (fun w => e_max rfl rfl) ?_
     refine x_pure (v := Value.pointer (some ⟨b31, 1, none⟩)) 12 rfl (by kernel_rfl) (by kernel_rfl) rfl (fun w => e_fieldAddr Try.underlying23 rfl rfl (by exact zs6) rfl) ?_
     refine x_one 13 rfl (by kernel_rfl) rfl ?_
     refine o_store_bx (cs' := [Value.int .i64 (max t6_0 ((gI ps (k : Int)).1)), Value.int .i64 (max t6_1 ((gI ps (k : Int)).2))]) tp3_gr rfl rfl bx560 rfl (Nat.le_of_ble_eq_true rfl) (AllOne.all (.cons rfl .nil)) rfl ?_
     intro w561 ch562 bx563
     clear bx560
     refine x_nil (by kernel_rfl) ?_
     have C564 : Chg (inl [4]) _ _ _ _ := (ch549.n).seq ((ch559.l rfl).seq (ch562.l rfl))
     replace hbase := hbase.chg C564 (is_nl rfl)
     replace r_ps_v := r_ps_v.chg C564 (is_nl rfl)
     replace bx5 := bx5.chg C564 (is_nl rfl)
     replace bx10 := bx10.chg C564 (is_nl rfl)
     replace bx534 := bx534.chg C564 (is_nl rfl)
     exact mid (g548) _ _ ⟨hbase, (by exact zs2), (by exact zs3), (by exact zs5), (by exact zs6), (by exact zs25), (by exact zs26), (by exact zs27), r_ps_v, bx5, bx10, bx534, bx563⟩
   clear r_ps_v
   clear bx5
   clear bx10
   clear bx41
   clear bx528
   clear bx534
   clear hbase
   rintro g567 f565 w566 ⟨hbase, zs2, zs3, zs5, zs6, zs25, zs26, zs27, r_ps_v, bx5, bx10, bx534, bx554⟩
   refine run_inBlock ?_
   refine run_region rfl ?_
   refine l_val (v := Value.int .i64 ((k : Int) + 1)) rfl (e_add (m := (k : Int)) (n := 1) (by exact zs27) rfl (by omega)) ?_
   refine l_val (v := Value.int .i64 ((k : Int) + 1)) rfl (e_move rfl) ?_
   refine l_nil ?_
   refine back7 (min t5_0 ((gI ps (k : Int)).1), min t5_1 ((gI ps (k : Int)).2), max t6_0 ((gI ps (k : Int)).1), max t6_1 ((gI ps (k : Int)).2), k + 1, g567) _ _ ⟨hbase, (by exact zs2), (by exact zs3), (by exact zs5), (by exact zs6), (by exact zs25), (by exact zs26), rfl, r_ps_v, bx5, bx10, bx534, bx554, by omega, ?_⟩ ?_
   · show ((min t5_0 ((gI ps (k : Int)).1)) = (loK ps (k + 1)).1 ∧ (min t5_1 ((gI ps (k : Int)).2)) = (loK ps (k + 1)).2) ∧ (max t6_0 ((gI ps (k : Int)).1)) = (hiK ps (k + 1)).1 ∧ (max t6_1 ((gI ps (k : Int)).2)) = (hiK ps (k + 1)).2
     (obtain ⟨⟨e1, e2⟩, e3, e4⟩ := hinv; rw [e1, e2, e3, e4]; exact ⟨⟨rfl, rfl⟩, rfl, rfl⟩)
   · show Int.toNat (((List.length ps : Int) : Int) - ((k + 1) : Int)) < Int.toNat (((List.length ps : Int) : Int) - (k : Int))
     omega
  refine run_cond_f rfl (decide_eq_false p7) ?_
  refine run_exit rfl ?_
  refine run_seq ?_
  refine run_region_h g520 (inl [1, 2]) mixed_gr ?_
  intro w569 ch568
  replace bx37 := bx37.chg ch568 (not_no _)
  refine h_take (v := Value.agg (List.toArray [Value.int .i64 t5_0, Value.int .i64 t5_1])) 0 rfl (by kernel_rfl) (by kernel_rfl) rfl (Chg.refl _ _ _) (fun w' hw' => e_load_bxN (ds := [Value.int .i64 t5_0, Value.int .i64 t5_1]) tp23_gr (by exact zs5) (bx37.chg hw' (is_nl rfl)) rfl rfl) ?_
  replace bx41 := bx41.chg ch568 (not_no _)
  refine h_take (v := Value.agg (List.toArray [Value.int .i64 t6_0, Value.int .i64 t6_1])) 1 rfl (by kernel_rfl) (by kernel_rfl) rfl (Chg.refl _ _ _) (fun w' hw' => e_load_bxN (ds := [Value.int .i64 t6_0, Value.int .i64 t6_1]) tp23_gr (by exact zs6) (bx41.chg hw' (is_nl rfl)) rfl rfl) ?_
  refine h_one 2 rfl (by kernel_rfl) rfl ?_
  replace bx5 := bx5.chg ch568 (not_no _)
  refine o_store_bx (cs' := [Value.int .i64 t5_0, Value.int .i64 t5_1]) tp23_gr (by exact zs2) rfl bx5 rfl (Nat.le_of_ble_eq_true rfl) (AllOne.all (.cons rfl (.cons rfl .nil))) rfl ?_
  intro w570 ch571 bx572
  clear bx5
  have hs573 : Chg (inl [1, 2]) _ _ _ _ := ch571.l rfl
  refine ⟨hs573.same, ?_⟩
  refine h_one 3 rfl (by kernel_rfl) rfl ?_
  replace bx10 := (bx10.chg ch568 (not_no _)).chg ch571 (is_ne rfl)
  refine o_store_bx (cs' := [Value.int .i64 t6_0, Value.int .i64 t6_1]) tp23_gr (by exact zs3) rfl bx10 rfl (Nat.le_of_ble_eq_true rfl) (AllOne.all (.cons rfl (.cons rfl .nil))) rfl ?_
  intro w574 ch575 bx576
  clear bx10
  have hs577 := hs573.seq (ch575.l rfl)
  refine ⟨hs577.same, ?_⟩
  refine h_take (v := Value.int .i64 0) 4 rfl (by kernel_rfl) (by kernel_rfl) rfl hs577.same (fun w' hw' => e_assign rfl) ?_
  refine h_nil (by kernel_rfl) ?_
  replace bx572 := bx572.chg ch575 (is_ne rfl)
  refine run_ret (vs := [Value.agg (List.toArray [Value.int .i64 t5_0, Value.int .i64 t5_1]), Value.agg (List.toArray [Value.int .i64 t6_0, Value.int .i64 t6_1]), Value.int .i64 0]) Try.func28 (.cell (by exact zs2) (load_bxN (ds := [Value.int .i64 t5_0, Value.int .i64 t5_1]) tp23_gr bx572 rfl rfl) (.cell (by exact zs3) (load_bxN (ds := [Value.int .i64 t6_0, Value.int .i64 t6_1]) tp23_gr bx576 rfl rfl) (.tmp rfl .nil))) ?_
  -- return 1
  have e0 : ((t5_0, t5_1) : (Int) × (Int)) = ((boxR ps).1) := by
    first
      | (have hn : ¬ okL ps := fun h => p1 (decide_eq_true h)
         simp only [boxR, if_neg hn]; done)
      | (simp only [boxR, if_pos hok, if_pos (show (ps.length : Int) = 0 by assumption)]; done)
      | (have hk : k = ps.length := by omega
         obtain ⟨⟨e1, e2⟩, e3, e4⟩ := hinv
         simp only [boxR, if_pos hok, if_neg (show ¬ (ps.length : Int) = 0 by assumption), e1, e2, e3, e4, hk]; done)
  have e1 : ((t6_0, t6_1) : (Int) × (Int)) = ((boxR ps).2.1) := by
    first
      | (have hn : ¬ okL ps := fun h => p1 (decide_eq_true h)
         simp only [boxR, if_neg hn]; done)
      | (simp only [boxR, if_pos hok, if_pos (show (ps.length : Int) = 0 by assumption)]; done)
      | (have hk : k = ps.length := by omega
         obtain ⟨⟨e1, e2⟩, e3, e4⟩ := hinv
         simp only [boxR, if_pos hok, if_neg (show ¬ (ps.length : Int) = 0 by assumption), e1, e2, e3, e4, hk]; done)
  have e2 : (0 : Int) = ((boxR ps).2.2) := by
    first
      | (have hn : ¬ okL ps := fun h => p1 (decide_eq_true h)
         simp only [boxR, if_neg hn]; done)
      | (simp only [boxR, if_pos hok, if_pos (show (ps.length : Int) = 0 by assumption)]; done)
      | (have hk : k = ps.length := by omega
         obtain ⟨⟨e1, e2⟩, e3, e4⟩ := hinv
         simp only [boxR, if_pos hok, if_neg (show ¬ (ps.length : Int) = 0 by assumption), e1, e2, e3, e4, hk]; done)
  have C578 : Chg (inl [1, 2]) _ _ _ _ := (ch568.n).seq ((ch571.l rfl).seq (ch575.l rfl))
  replace hbase := hbase.chg C578 (is_nl rfl)
  exact ⟨(congr3 (a := (t5_0, t5_1)) (b := (t6_0, t6_1)) (c := 0) (fun (z0 : (Int) × (Int)) (z1 : (Int) × (Int)) (z2 : Int) => Ending.returned (Value.tuple (List.toArray [Value.agg (List.toArray [Value.int .i64 z0.1, Value.int .i64 z0.2]), Value.agg (List.toArray [Value.int .i64 z1.1, Value.int .i64 z1.2]), Value.int .i64 z2]))) e0 e1 e2), hbase.below⟩
 refine run_cond_t rfl (congrArg Bool.not (Bool.eq_false_iff.2 p1)) ?_
 refine run_seq ?_
 refine run_region rfl ?_
 refine l_val (v := Value.agg (List.toArray [Value.int .i64 0, Value.int .i64 0])) rfl (e_build (vs := []) rfl (by kernel_rfl)) ?_
 refine l_val (v := Value.agg (List.toArray [Value.int .i64 0, Value.int .i64 0])) rfl (e_build (vs := []) rfl (by kernel_rfl)) ?_
 refine l_op rfl ?_
 replace bx5 := (bx5.chg ch7 (not_no _)).chg hb12 (not_no _)
 refine o_store_bx (cs' := [Value.int .i64 0, Value.int .i64 0]) tp23_gr rfl rfl bx5 rfl (Nat.le_of_ble_eq_true rfl) (AllOne.all (.cons rfl (.cons rfl .nil))) rfl ?_
 intro w579 ch580 bx581
 clear bx5
 refine l_op rfl ?_
 replace bx10 := (bx10.chg hb12 (not_no _)).chg ch580 (is_ne rfl)
 refine o_store_bx (cs' := [Value.int .i64 0, Value.int .i64 0]) tp23_gr rfl rfl bx10 rfl (Nat.le_of_ble_eq_true rfl) (AllOne.all (.cons rfl (.cons rfl .nil))) rfl ?_
 intro w582 ch583 bx584
 clear bx10
 refine l_val (v := Value.int .i64 1) rfl (e_assign rfl) ?_
 refine l_nil ?_
 replace bx581 := bx581.chg ch583 (is_ne rfl)
 refine run_ret (vs := [Value.agg (List.toArray [Value.int .i64 0, Value.int .i64 0]), Value.agg (List.toArray [Value.int .i64 0, Value.int .i64 0]), Value.int .i64 1]) Try.func28 (.cell rfl (load_bxN (ds := [Value.int .i64 0, Value.int .i64 0]) tp23_gr bx581 rfl rfl) (.cell rfl (load_bxN (ds := [Value.int .i64 0, Value.int .i64 0]) tp23_gr bx584 rfl rfl) (.tmp rfl .nil))) ?_
 -- return 2
 have e0 : ((0, 0) : (Int) × (Int)) = ((boxR ps).1) := by
   first
     | (have hn : ¬ okL ps := fun h => p1 (decide_eq_true h)
        simp only [boxR, if_neg hn]; done)
     | (simp only [boxR, if_pos hok, if_pos (show (ps.length : Int) = 0 by assumption)]; done)
     | (have hk : k = ps.length := by omega
        obtain ⟨⟨e1, e2⟩, e3, e4⟩ := hinv
        simp only [boxR, if_pos hok, if_neg (show ¬ (ps.length : Int) = 0 by assumption), e1, e2, e3, e4, hk]; done)
 have e1 : ((0, 0) : (Int) × (Int)) = ((boxR ps).2.1) := by
   first
     | (have hn : ¬ okL ps := fun h => p1 (decide_eq_true h)
        simp only [boxR, if_neg hn]; done)
     | (simp only [boxR, if_pos hok, if_pos (show (ps.length : Int) = 0 by assumption)]; done)
     | (have hk : k = ps.length := by omega
        obtain ⟨⟨e1, e2⟩, e3, e4⟩ := hinv
        simp only [boxR, if_pos hok, if_neg (show ¬ (ps.length : Int) = 0 by assumption), e1, e2, e3, e4, hk]; done)
 have e2 : (1 : Int) = ((boxR ps).2.2) := by
   first
     | (have hn : ¬ okL ps := fun h => p1 (decide_eq_true h)
        simp only [boxR, if_neg hn]; done)
     | (simp only [boxR, if_pos hok, if_pos (show (ps.length : Int) = 0 by assumption)]; done)
     | (have hk : k = ps.length := by omega
        obtain ⟨⟨e1, e2⟩, e3, e4⟩ := hinv
        simp only [boxR, if_pos hok, if_neg (show ¬ (ps.length : Int) = 0 by assumption), e1, e2, e3, e4, hk]; done)
 have C585 : Chg (inl [1, 2]) _ _ _ _ := (ch2.n).seq ((ch7.n).seq ((hb12.n).seq ((ch580.l rfl).seq (ch583.l rfl))))
 replace hbase := hbase.chg C585 (is_nl rfl)
 exact ⟨(congr3 (a := (0, 0)) (b := (0, 0)) (c := 1) (fun (z0 : (Int) × (Int)) (z1 : (Int) × (Int)) (z2 : Int) => Ending.returned (Value.tuple (List.toArray [Value.agg (List.toArray [Value.int .i64 z0.1, Value.int .i64 z0.2]), Value.agg (List.toArray [Value.int .i64 z1.1, Value.int .i64 z1.2]), Value.int .i64 z2]))) e0 e1 e2), hbase.below⟩

theorem closed_ok (w0 : World) (ps : List ((Int) × (Int))) (ps_v : Value) (hps_v : Ro w0 ps_v ps) :
    Calls Try.prog 50 #[ps_v] w0 (fun ee w => ee = .returned (Value.bool (decide (closedP ps))) ∧ RowKit.Below w0.heap.size w0 w) := by
 refine calls_of_run Try.func50 rfl (Nat.le_of_ble_eq_true rfl) ?_
 have hbase := Base.start w0
 have r_ps_v := hps_v.sl
 refine run_seq ?_
 refine run_region rfl ?_
 refine l_val (v := Value.bool false) rfl (e_assign rfl) ?_
 refine l_nil ?_
 refine run_seq ?_
 refine region_q c0 rfl mixed_gr (by kernel_rfl) ?_
 intro w2 ch1
 refine q_val (v := ps_v) rfl (fun w' hw' => e_move rfl) ?_
 replace r_ps_v := r_ps_v.chg ch1 (not_no _)
 have len3 := (r_ps_v).small
 refine q_val (v := Value.int .i64 (List.length ps : Int)) rfl (fun w' hw' => e_len Try.underlying25 rfl (r_ps_v.bel hw')) ?_
 refine q_val (v := Value.bool (decide (4 ≤ (List.length ps : Int)))) rfl (fun w' hw' => e_geq (m := (List.length ps : Int)) (n := 4) rfl rfl) ?_
 refine q_val (v := Value.bool (decide (4 ≤ (List.length ps : Int)))) rfl (fun w' hw' => e_move rfl) ?_
 by_cases q6 : 4 ≤ (List.length ps : Int)
 ·
  refine q_val (v := ps_v) (want_y rfl rfl rfl (decide_eq_true q6)) (fun w' hw' => e_move rfl) ?_
  refine q_val (v := Value.pointer (some (eAddr ps_v 2 (Int.toNat 0)))) (want_y rfl rfl rfl (decide_eq_true q6)) (fun w' hw' => e_indexAddr (α := (Int) × (Int)) (xs := ps) (v := ps_v) (i := 0) Try.underlying25 rfl rfl (r_ps_v.bel hw') rfl (by omega) (by omega)) ?_
  refine q_val (v := Value.agg (List.toArray [Value.int .i64 ((gI ps 0).1), Value.int .i64 ((gI ps 0).2)])) (want_y rfl rfl rfl (decide_eq_true q6)) (fun w' hw' => e_load_elN (α := (Int) × (Int)) (xs := ps) (v := ps_v) (i := 0) tp23_gr rfl (r_ps_v.bel hw') (by omega) (by omega) rfl) ?_
  refine q_val (v := ps_v) (want_y rfl rfl rfl (decide_eq_true q6)) (fun w' hw' => e_move rfl) ?_
  refine q_val (v := ps_v) (want_y rfl rfl rfl (decide_eq_true q6)) (fun w' hw' => e_move rfl) ?_
  refine q_val (v := Value.int .i64 (List.length ps : Int)) (want_y rfl rfl rfl (decide_eq_true q6)) (fun w' hw' => e_len Try.underlying25 rfl (r_ps_v.bel hw')) ?_
  refine q_val (v := Value.int .i64 ((List.length ps : Int) - 1)) (want_y rfl rfl rfl (decide_eq_true q6)) (fun w' hw' => e_sub (m := (List.length ps : Int)) (n := 1) rfl rfl (by omega)) ?_
  refine q_val (v := Value.pointer (some (eAddr ps_v 2 (Int.toNat ((List.length ps : Int) - 1))))) (want_y rfl rfl rfl (decide_eq_true q6)) (fun w' hw' => e_indexAddr (α := (Int) × (Int)) (xs := ps) (v := ps_v) (i := (List.length ps : Int) - 1) Try.underlying25 rfl rfl (r_ps_v.bel hw') rfl (by omega) (by omega)) ?_
  refine q_val (v := Value.agg (List.toArray [Value.int .i64 ((gI ps ((List.length ps : Int) - 1)).1), Value.int .i64 ((gI ps ((List.length ps : Int) - 1)).2)])) (want_y rfl rfl rfl (decide_eq_true q6)) (fun w' hw' => e_load_elN (α := (Int) × (Int)) (xs := ps) (v := ps_v) (i := (List.length ps : Int) - 1) tp23_gr rfl (r_ps_v.bel hw') (by omega) (by omega) rfl) ?_
  refine q_val (v := Value.bool (decide ((gI ps 0) = (gI ps ((List.length ps : Int) - 1))))) (want_y rfl rfl rfl (decide_eq_true q6)) (fun w' hw' => e_eql_struct (bs := [decide (((gI ps 0).1) = ((gI ps ((List.length ps : Int) - 1)).1)), decide (((gI ps 0).2) = ((gI ps ((List.length ps : Int) - 1)).2))]) Try.underlying23 (by kernel_rfl) (by kernel_rfl) rfl rfl (.cons (by decide +kernel) tp3_gr rfl rfl (.int Try.underlying3) (.cons (by decide +kernel) tp3_gr rfl rfl (.int Try.underlying3) .nil)) (by simp [Prod.ext_iff, Bool.decide_and, Bool.and_assoc])) ?_
  refine q_val (v := Value.bool (decide ((gI ps 0) = (gI ps ((List.length ps : Int) - 1))))) rfl (fun w' hw' => e_pick_t rfl (decide_eq_true q6) rfl) ?_
  refine q_val (v := Value.bool (decide ((gI ps 0) = (gI ps ((List.length ps : Int) - 1))))) rfl (fun w' hw' => e_assign rfl) ?_
  refine q_nil ?_
  intro w4 hc5
  replace hc5 := chg_below hc5 c0
  refine run_ret (vs := [Value.bool (decide ((gI ps 0) = (gI ps ((List.length ps : Int) - 1))))]) Try.func50 (.tmp rfl .nil) ?_
  -- return 0
  have e0 : (decide ((gI ps 0) = (gI ps ((List.length ps : Int) - 1))) : Bool) = (decide (closedP ps)) := by
    first
      | exact (decide_eq_false (fun h => absurd h.1 (by assumption))).symm
      | (rw [decide_eq_decide]; exact ⟨fun h => ⟨by assumption, h⟩, fun h => h.2⟩)
  replace hbase := hbase.chg ch1 (not_no _)
  replace hbase := hbase.chg hc5 (not_no _)
  exact ⟨(congrArg (a₁ := decide ((gI ps 0) = (gI ps ((List.length ps : Int) - 1)))) (fun (z0 : Bool) => Ending.returned (Value.bool z0)) e0), hbase.below⟩
 refine q_skip (want_n rfl rfl rfl (decide_eq_false q6)) ?_
 refine q_skip (want_n rfl rfl rfl (decide_eq_false q6)) ?_
 refine q_skip (want_n rfl rfl rfl (decide_eq_false q6)) ?_
 refine q_skip (want_n rfl rfl rfl (decide_eq_false q6)) ?_
 refine q_skip (want_n rfl rfl rfl (decide_eq_false q6)) ?_
 refine q_skip (want_n rfl rfl rfl (decide_eq_false q6)) ?_
 refine q_skip (want_n rfl rfl rfl (decide_eq_false q6)) ?_
 refine q_skip (want_n rfl rfl rfl (decide_eq_false q6)) ?_
 refine q_skip (want_n rfl rfl rfl (decide_eq_false q6)) ?_
 refine q_skip (want_n rfl rfl rfl (decide_eq_false q6)) ?_
 refine q_val (v := Value.bool false) rfl (fun w' hw' => e_pick_f rfl (decide_eq_false q6) rfl) ?_
 refine q_val (v := Value.bool false) rfl (fun w' hw' => e_assign rfl) ?_
 refine q_nil ?_
 intro w6 hc7
 replace hc7 := chg_below hc7 c0
 refine run_ret (vs := [Value.bool false]) Try.func50 (.tmp rfl .nil) ?_
 -- return 1
 have e0 : (false : Bool) = (decide (closedP ps)) := by
   first
     | exact (decide_eq_false (fun h => absurd h.1 (by assumption))).symm
     | (rw [decide_eq_decide]; exact ⟨fun h => ⟨by assumption, h⟩, fun h => h.2⟩)
 replace hbase := hbase.chg ch1 (not_no _)
 replace hbase := hbase.chg hc7 (not_no _)
 exact ⟨(congrArg (a₁ := false) (fun (z0 : Bool) => Ending.returned (Value.bool z0)) e0), hbase.below⟩

set_option maxHeartbeats 2000000 in
theorem Simple_ok (w0 : World) (ps : List ((Int) × (Int))) (ps_v : Value) (hps_v : Ro w0 ps_v ps) (hlen : (ps.length : Int) ≤ 1000000) :
    Calls Try.prog 29 #[ps_v] w0 (fun ee w => ee = .returned (Value.tuple (List.toArray [Value.bool ((simR ps).1), Value.int .i64 ((simR ps).2)])) ∧ RowKit.Below w0.heap.size w0 w) := by
 refine calls_of_run Try.func29 rfl (Nat.le_of_ble_eq_true rfl) ?_
 have hbase := Base.start w0
 have r_ps_v := hps_v.sl
 refine run_seq ?_
 refine run_region rfl ?_
 refine l_val (v := Value.bool false) rfl (e_assign rfl) ?_
 refine l_val (v := Value.int .i64 0) rfl (e_assign rfl) ?_
 refine l_nil ?_
 refine run_seq ?_
 refine run_seq ?_
 refine run_region rfl ?_
 refine l_val (v := ps_v) rfl (e_move rfl) ?_
 have len1 := (r_ps_v).small
 refine l_val (v := Value.int .i64 (List.length ps : Int)) rfl (e_len Try.underlying25 rfl r_ps_v) ?_
 refine l_val (v := Value.bool (decide ((List.length ps : Int) = 0))) rfl (e_eql (m := (List.length ps : Int)) (n := 0) rfl rfl) ?_
 refine l_val (v := Value.bool (decide ((List.length ps : Int) = 0))) rfl (e_move rfl) ?_
 by_cases q12 : (List.length ps : Int) = 0
 ·
  refine l_skip (want_n rfl rfl rfl (decide_eq_true q12)) ?_
  refine l_skip (want_n rfl rfl rfl (decide_eq_true q12)) ?_
  refine l_skip (want_n rfl rfl rfl (decide_eq_true q12)) ?_
  refine l_val (v := Value.bool true) rfl (e_pick_t rfl (decide_eq_true q12) rfl) ?_
  refine l_nil ?_
  refine run_cond_t rfl rfl ?_
  refine run_seq ?_
  refine run_region rfl ?_
  refine l_val (v := Value.bool false) rfl (e_assign rfl) ?_
  refine l_val (v := Value.int .i64 1) rfl (e_assign rfl) ?_
  refine l_nil ?_
  refine run_ret (vs := [Value.bool false, Value.int .i64 1]) Try.func29 (.tmp rfl (.tmp rfl .nil)) ?_
  -- return 0
  have e0 : (false : Bool) = ((simR ps).1) := by
    first
      | (rw [simR_err (.inl (by assumption))]; done)
      | (rw [simR_err (.inr (fun h => p1 (decide_eq_true h)))]; done)
      | (rw [simR_ok (by assumption) hok]; done)
      | (rw [simR_ok (by assumption) hok]; exact sim_eq (by assumption) (by assumption))
      | (rw [simR_ok (by assumption) hok]; exact sim_bad (k := k) (by assumption) (by assumption) hk.2 (by first | exact bad3 (by first | exact join1 (by assumption) | exact join2 (by assumption) (by assumption) (by assumption)) (by assumption) | exact bad0 (by first | exact nojoin0 (by assumption) (by assumption) | exact nojoin1 (by assumption) (by assumption) | exact nojoin2 (by assumption) (by assumption)) (by assumption)))
      | (rw [simR_ok (by assumption) hok]; exact sim_yes hinv (by assumption))
  have e1 : (1 : Int) = ((simR ps).2) := by
    first
      | (rw [simR_err (.inl (by assumption))]; done)
      | (rw [simR_err (.inr (fun h => p1 (decide_eq_true h)))]; done)
      | (rw [simR_ok (by assumption) hok]; done)
      | (rw [simR_ok (by assumption) hok]; exact sim_eq (by assumption) (by assumption))
      | (rw [simR_ok (by assumption) hok]; exact sim_bad (k := k) (by assumption) (by assumption) hk.2 (by first | exact bad3 (by first | exact join1 (by assumption) | exact join2 (by assumption) (by assumption) (by assumption)) (by assumption) | exact bad0 (by first | exact nojoin0 (by assumption) (by assumption) | exact nojoin1 (by assumption) (by assumption) | exact nojoin2 (by assumption) (by assumption)) (by assumption)))
      | (rw [simR_ok (by assumption) hok]; exact sim_yes hinv (by assumption))
  exact ⟨(congr2 (a := false) (b := 1) (fun (z0 : Bool) (z1 : Int) => Ending.returned (Value.tuple (List.toArray [Value.bool z0, Value.int .i64 z1]))) e0 e1), hbase.below⟩
 refine l_val (v := ps_v) (want_y rfl rfl rfl (decide_eq_false q12)) (e_move rfl) ?_
 refine l_op (want_y rfl rfl rfl (decide_eq_false q12)) ?_
 refine o_call (v := Value.bool (decide (okL ps))) (e_call (vals := [ps_v]) Try.func25 bd25_gr nm25_gr rfl) (GMay_ok w0 ps ps_v (r_ps_v).ro) ?_
 intro w2 hb3
 replace hb3 := chg_below hb3 c0
 refine l_val (v := Value.bool (!(decide (okL ps)))) (want_y rfl rfl rfl (decide_eq_false q12)) (e_not (b := (decide (okL ps))) rfl) ?_
 refine l_val (v := Value.bool (!(decide (okL ps)))) rfl (e_pick_f rfl (decide_eq_false q12) rfl) ?_
 refine l_nil ?_
 by_cases p1 : (decide (okL ps)) = true
 ·
  have hok := of_decide_eq_true p1
  obtain ⟨hl1, hl2⟩ := of_decide_eq_true p1
  refine run_cond_f rfl (congrArg Bool.not p1) ?_
  refine run_skip ?_
  refine run_seq ?_
  refine run_region rfl ?_
  refine l_val (v := ps_v) rfl (e_move rfl) ?_
  replace r_ps_v := r_ps_v.chg hb3 (not_no _)
  refine l_val (v := Value.int .i64 (List.length ps : Int)) rfl (e_len Try.underlying25 rfl r_ps_v) ?_
  refine l_val (v := Value.int .i64 ((List.length ps : Int) - 2)) rfl (e_sub (m := (List.length ps : Int)) (n := 2) rfl rfl (by omega)) ?_
  refine l_val (v := Value.int .i64 ((List.length ps : Int) - 2)) rfl (e_assign rfl) ?_
  refine l_nil ?_
  refine run_seq ?_
  refine run_seq ?_
  refine run_region rfl ?_
  refine l_val (v := Value.int .i64 0) rfl (e_assign rfl) ?_
  refine l_nil ?_
  refine run_block ?_
  refine run_loop (σ := Nat × Cmap) (fun ⟨i, gq⟩ f w => Base w0 gq w ∧ f 0 = ps_v ∧ f 4 = Value.int .i64 ((List.length ps : Int) - 2) ∧ f 5 = Value.int .i64 (i : Int) ∧ Sl gq (is 0) w ps_v ps ∧ (∀ j : Nat, j < i → simI ps j)) (fun ⟨i, gq⟩ => List.length ps - i) (0, c0) ?_ ?_
  replace hbase := hbase.chg hb3 (not_no _)
  · exact ⟨hbase, rfl, rfl, rfl, r_ps_v, by intro j hj; omega⟩
  clear r_ps_v
  clear hbase
  rintro ⟨i, g6⟩ f4 w5 ⟨hbase, zs0, zs4, zs5, r_ps_v, hinv⟩ back5
  refine run_seq ?_
  refine run_seq ?_
  refine run_region rfl ?_
  refine l_val (v := Value.int .i64 (i : Int)) rfl (e_move (by exact zs5)) ?_
  refine l_val (v := Value.int .i64 ((List.length ps : Int) - 2)) rfl (e_move (by exact zs4)) ?_
  refine l_val (v := Value.bool (decide ((i : Int) ≤ ((List.length ps : Int) - 2)))) rfl (e_leq (m := (i : Int)) (n := (List.length ps : Int) - 2) rfl rfl) ?_
  refine l_nil ?_
  by_cases p5 : (i : Int) ≤ ((List.length ps : Int) - 2)
  ·
   refine run_cond_t rfl (decide_eq_true p5) ?_
   refine run_skip ?_
   refine run_seq ?_
   refine run_block ?_
   refine run_seq ?_
   refine run_seq ?_
   refine region_q g6 rfl mixed_gr (by kernel_rfl) ?_
   intro w8 ch7
   refine q_val (v := ps_v) rfl (fun w' hw' => e_move (by exact zs0)) ?_
   refine q_val (v := Value.int .i64 (i : Int)) rfl (fun w' hw' => e_move (by exact zs5)) ?_
   replace r_ps_v := r_ps_v.chg ch7 (not_no _)
   refine q_val (v := Value.pointer (some (eAddr ps_v 2 (Int.toNat (i : Int))))) rfl (fun w' hw' => e_indexAddr (α := (Int) × (Int)) (xs := ps) (v := ps_v) (i := (i : Int)) Try.underlying25 rfl rfl (r_ps_v.bel hw') rfl (by omega) (by omega)) ?_
   refine q_val (v := Value.agg (List.toArray [Value.int .i64 ((gI ps (i : Int)).1), Value.int .i64 ((gI ps (i : Int)).2)])) rfl (fun w' hw' => e_load_elN (α := (Int) × (Int)) (xs := ps) (v := ps_v) (i := (i : Int)) tp23_gr rfl (r_ps_v.bel hw') (by omega) (by omega) rfl) ?_
   refine q_val (v := ps_v) rfl (fun w' hw' => e_move (by exact zs0)) ?_
   refine q_val (v := Value.int .i64 (i : Int)) rfl (fun w' hw' => e_move (by exact zs5)) ?_
   refine q_val (v := Value.int .i64 ((i : Int) + 1)) rfl (fun w' hw' => e_add (m := (i : Int)) (n := 1) rfl rfl (by omega)) ?_
   refine q_val (v := Value.pointer (some (eAddr ps_v 2 (Int.toNat ((i : Int) + 1))))) rfl (fun w' hw' => e_indexAddr (α := (Int) × (Int)) (xs := ps) (v := ps_v) (i := (i : Int) + 1) Try.underlying25 rfl rfl (r_ps_v.bel hw') rfl (by omega) (by omega)) ?_
   refine q_val (v := Value.agg (List.toArray [Value.int .i64 ((gI ps ((i : Int) + 1)).1), Value.int .i64 ((gI ps ((i : Int) + 1)).2)])) rfl (fun w' hw' => e_load_elN (α := (Int) × (Int)) (xs := ps) (v := ps_v) (i := (i : Int) + 1) tp23_gr rfl (r_ps_v.bel hw') (by omega) (by omega) rfl) ?_
   refine q_val (v := Value.bool (decide ((gI ps (i : Int)) = (gI ps ((i : Int) + 1))))) rfl (fun w' hw' => e_eql_struct (bs := [decide (((gI ps (i : Int)).1) = ((gI ps ((i : Int) + 1)).1)), decide (((gI ps (i : Int)).2) = ((gI ps ((i : Int) + 1)).2))]) Try.underlying23 (by kernel_rfl) (by kernel_rfl) rfl rfl (.cons (by decide +kernel) tp3_gr rfl rfl (.int Try.underlying3) (.cons (by decide +kernel) tp3_gr rfl rfl (.int Try.underlying3) .nil)) (by simp [Prod.ext_iff, Bool.decide_and, Bool.and_assoc])) ?_
   refine q_nil ?_
   intro w9 hc10
   replace hc10 := chg_below hc10 g6
   by_cases p7 : (gI ps (i : Int)) = (gI ps ((i : Int) + 1))
   ·
    refine run_cond_t rfl (decide_eq_true p7) ?_
    refine run_seq ?_
    refine run_region rfl ?_
    refine l_val (v := Value.bool false) rfl (e_assign rfl) ?_
    refine l_val (v := Value.int .i64 0) rfl (e_assign rfl) ?_
    refine l_nil ?_
    refine run_ret (vs := [Value.bool false, Value.int .i64 0]) Try.func29 (.tmp rfl (.tmp rfl .nil)) ?_
    -- return 1
    have e0 : (false : Bool) = ((simR ps).1) := by
      first
        | (rw [simR_err (.inl (by assumption))]; done)
        | (rw [simR_err (.inr (fun h => p1 (decide_eq_true h)))]; done)
        | (rw [simR_ok (by assumption) hok]; done)
        | (rw [simR_ok (by assumption) hok]; exact sim_eq (by assumption) (by assumption))
        | (rw [simR_ok (by assumption) hok]; exact sim_bad (k := k) (by assumption) (by assumption) hk.2 (by first | exact bad3 (by first | exact join1 (by assumption) | exact join2 (by assumption) (by assumption) (by assumption)) (by assumption) | exact bad0 (by first | exact nojoin0 (by assumption) (by assumption) | exact nojoin1 (by assumption) (by assumption) | exact nojoin2 (by assumption) (by assumption)) (by assumption)))
        | (rw [simR_ok (by assumption) hok]; exact sim_yes hinv (by assumption))
    have e1 : (0 : Int) = ((simR ps).2) := by
      first
        | (rw [simR_err (.inl (by assumption))]; done)
        | (rw [simR_err (.inr (fun h => p1 (decide_eq_true h)))]; done)
        | (rw [simR_ok (by assumption) hok]; done)
        | (rw [simR_ok (by assumption) hok]; exact sim_eq (by assumption) (by assumption))
        | (rw [simR_ok (by assumption) hok]; exact sim_bad (k := k) (by assumption) (by assumption) hk.2 (by first | exact bad3 (by first | exact join1 (by assumption) | exact join2 (by assumption) (by assumption) (by assumption)) (by assumption) | exact bad0 (by first | exact nojoin0 (by assumption) (by assumption) | exact nojoin1 (by assumption) (by assumption) | exact nojoin2 (by assumption) (by assumption)) (by assumption)))
        | (rw [simR_ok (by assumption) hok]; exact sim_yes hinv (by assumption))
    replace hbase := hbase.chg ch7 (not_no _)
    replace hbase := hbase.chg hc10 (not_no _)
    exact ⟨(congr2 (a := false) (b := 0) (fun (z0 : Bool) (z1 : Int) => Ending.returned (Value.tuple (List.toArray [Value.bool z0, Value.int .i64 z1]))) e0 e1), hbase.below⟩
   refine run_cond_f rfl (decide_eq_false p7) ?_
   refine run_skip ?_
   refine run_seq ?_
   refine run_region rfl ?_
   refine l_val (v := Value.int .i64 (i : Int)) rfl (e_move (by exact zs5)) ?_
   refine l_val (v := Value.int .i64 ((i : Int) + 1)) rfl (e_add (m := (i : Int)) (n := 1) rfl rfl (by omega)) ?_
   refine l_val (v := Value.int .i64 ((i : Int) + 1)) rfl (e_assign rfl) ?_
   refine l_nil ?_
   refine run_block ?_
   refine run_loop (σ := Nat × Cmap) (fun ⟨k, gq⟩ f w => Base w0 gq w ∧ f 0 = ps_v ∧ f 4 = Value.int .i64 ((List.length ps : Int) - 2) ∧ f 5 = Value.int .i64 (i : Int) ∧ f 6 = Value.int .i64 (k : Int) ∧ Sl gq (is 0) w ps_v ps ∧ ((∀ j : Nat, i < j → j < k → ¬ badP ps i j) ∧ i < k)) (fun ⟨k, gq⟩ => List.length ps - k) (i + 1, g6) ?_ ?_
   replace hbase := hbase.chg ch7 (not_no _)
   replace hbase := hbase.chg hc10 (not_no _)
   replace r_ps_v := r_ps_v.chg hc10 (not_no _)
   · exact ⟨hbase, (by exact zs0), (by exact zs4), (by exact zs5), rfl, r_ps_v, by exact ⟨fun j h1 h2 => by omega, by omega⟩⟩
   clear r_ps_v
   clear hbase
   rintro ⟨k, g13⟩ f11 w12 ⟨hbase, zs0, zs4, zs5, zs6, r_ps_v, hk⟩ back10
   refine run_seq ?_
   refine run_seq ?_
   refine run_region rfl ?_
   refine l_val (v := Value.int .i64 (k : Int)) rfl (e_move (by exact zs6)) ?_
   refine l_val (v := Value.int .i64 ((List.length ps : Int) - 2)) rfl (e_move (by exact zs4)) ?_
   refine l_val (v := Value.bool (decide ((k : Int) ≤ ((List.length ps : Int) - 2)))) rfl (e_leq (m := (k : Int)) (n := (List.length ps : Int) - 2) rfl rfl) ?_
   refine l_nil ?_
   by_cases p10 : (k : Int) ≤ ((List.length ps : Int) - 2)
   ·
    refine run_cond_t rfl (decide_eq_true p10) ?_
    have hb1 := (hl2 _ (gI_mem (xs := ps) (i := (i : Int)) (by omega) (by omega))).bd
    have hb2 := (hl2 _ (gI_mem (xs := ps) (i := (i : Int) + 1) (by omega) (by omega))).bd
    have hb3 := (hl2 _ (gI_mem (xs := ps) (i := (k : Int)) (by omega) (by omega))).bd
    have hb4 := (hl2 _ (gI_mem (xs := ps) (i := (k : Int) + 1) (by omega) (by omega))).bd
    refine run_skip ?_
    refine run_seq ?_
    refine run_block ?_
    refine run_seq ?_
    refine region_q g13 rfl mixed_gr (by kernel_rfl) ?_
    intro w15 ch14
    refine q_val (v := ps_v) rfl (fun w' hw' => e_move (by exact zs0)) ?_
    refine q_val (v := Value.int .i64 (i : Int)) rfl (fun w' hw' => e_move (by exact zs5)) ?_
    replace r_ps_v := r_ps_v.chg ch14 (not_no _)
    refine q_val (v := Value.pointer (some (eAddr ps_v 2 (Int.toNat (i : Int))))) rfl (fun w' hw' => e_indexAddr (α := (Int) × (Int)) (xs := ps) (v := ps_v) (i := (i : Int)) Try.underlying25 rfl rfl (r_ps_v.bel hw') rfl (by omega) (by omega)) ?_
    refine q_val (v := Value.agg (List.toArray [Value.int .i64 ((gI ps (i : Int)).1), Value.int .i64 ((gI ps (i : Int)).2)])) rfl (fun w' hw' => e_load_elN (α := (Int) × (Int)) (xs := ps) (v := ps_v) (i := (i : Int)) tp23_gr rfl (r_ps_v.bel hw') (by omega) (by omega) rfl) ?_
    refine q_val (v := ps_v) rfl (fun w' hw' => e_move (by exact zs0)) ?_
    refine q_val (v := Value.int .i64 (i : Int)) rfl (fun w' hw' => e_move (by exact zs5)) ?_
    refine q_val (v := Value.int .i64 ((i : Int) + 1)) rfl (fun w' hw' => e_add (m := (i : Int)) (n := 1) rfl rfl (by omega)) ?_
    refine q_val (v := Value.pointer (some (eAddr ps_v 2 (Int.toNat ((i : Int) + 1))))) rfl (fun w' hw' => e_indexAddr (α := (Int) × (Int)) (xs := ps) (v := ps_v) (i := (i : Int) + 1) Try.underlying25 rfl rfl (r_ps_v.bel hw') rfl (by omega) (by omega)) ?_
    refine q_val (v := Value.agg (List.toArray [Value.int .i64 ((gI ps ((i : Int) + 1)).1), Value.int .i64 ((gI ps ((i : Int) + 1)).2)])) rfl (fun w' hw' => e_load_elN (α := (Int) × (Int)) (xs := ps) (v := ps_v) (i := (i : Int) + 1) tp23_gr rfl (r_ps_v.bel hw') (by omega) (by omega) rfl) ?_
    refine q_val (v := ps_v) rfl (fun w' hw' => e_move (by exact zs0)) ?_
    refine q_val (v := Value.int .i64 (k : Int)) rfl (fun w' hw' => e_move (by exact zs6)) ?_
    refine q_val (v := Value.pointer (some (eAddr ps_v 2 (Int.toNat (k : Int))))) rfl (fun w' hw' => e_indexAddr (α := (Int) × (Int)) (xs := ps) (v := ps_v) (i := (k : Int)) Try.underlying25 rfl rfl (r_ps_v.bel hw') rfl (by omega) (by omega)) ?_
    refine q_val (v := Value.agg (List.toArray [Value.int .i64 ((gI ps (k : Int)).1), Value.int .i64 ((gI ps (k : Int)).2)])) rfl (fun w' hw' => e_load_elN (α := (Int) × (Int)) (xs := ps) (v := ps_v) (i := (k : Int)) tp23_gr rfl (r_ps_v.bel hw') (by omega) (by omega) rfl) ?_
    refine q_val (v := ps_v) rfl (fun w' hw' => e_move (by exact zs0)) ?_
    refine q_val (v := Value.int .i64 (k : Int)) rfl (fun w' hw' => e_move (by exact zs6)) ?_
    refine q_val (v := Value.int .i64 ((k : Int) + 1)) rfl (fun w' hw' => e_add (m := (k : Int)) (n := 1) rfl rfl (by omega)) ?_
    refine q_val (v := Value.pointer (some (eAddr ps_v 2 (Int.toNat ((k : Int) + 1))))) rfl (fun w' hw' => e_indexAddr (α := (Int) × (Int)) (xs := ps) (v := ps_v) (i := (k : Int) + 1) Try.underlying25 rfl rfl (r_ps_v.bel hw') rfl (by omega) (by omega)) ?_
    refine q_val (v := Value.agg (List.toArray [Value.int .i64 ((gI ps ((k : Int) + 1)).1), Value.int .i64 ((gI ps ((k : Int) + 1)).2)])) rfl (fun w' hw' => e_load_elN (α := (Int) × (Int)) (xs := ps) (v := ps_v) (i := (k : Int) + 1) tp23_gr rfl (r_ps_v.bel hw') (by omega) (by omega) rfl) ?_
    refine q_call (v := Value.int .i64 (meetP (gI ps (i : Int)) (gI ps ((i : Int) + 1)) (gI ps (k : Int)) (gI ps ((k : Int) + 1)))) rfl (fun w' hw' => e_call (vals := [Value.agg (List.toArray [Value.int .i64 ((gI ps (i : Int)).1), Value.int .i64 ((gI ps (i : Int)).2)]), Value.agg (List.toArray [Value.int .i64 ((gI ps ((i : Int) + 1)).1), Value.int .i64 ((gI ps ((i : Int) + 1)).2)]), Value.agg (List.toArray [Value.int .i64 ((gI ps (k : Int)).1), Value.int .i64 ((gI ps (k : Int)).2)]), Value.agg (List.toArray [Value.int .i64 ((gI ps ((k : Int) + 1)).1), Value.int .i64 ((gI ps ((k : Int) + 1)).2)])]) Try.func36 bd36_gr nm36_gr rfl) (fun w' hw' => (meet_ok w' (gI ps (i : Int)) (gI ps ((i : Int) + 1)) (gI ps (k : Int)) (gI ps ((k : Int) + 1)) (by assumption) (by assumption) (by assumption) (by assumption)).mono fun e w2 h2 => ⟨h2.1, hw'.trans (h2.2.mono hw'.size)⟩) ?_
    refine q_val (v := Value.int .i64 (meetP (gI ps (i : Int)) (gI ps ((i : Int) + 1)) (gI ps (k : Int)) (gI ps ((k : Int) + 1)))) rfl (fun w' hw' => e_assign rfl) ?_
    refine q_nil ?_
    intro w16 hc17
    replace hc17 := chg_below hc17 g13
    refine run_seq ?_
    refine run_region rfl ?_
    refine l_val (v := Value.int .i64 (k : Int)) rfl (e_move (by exact zs6)) ?_
    refine l_val (v := Value.int .i64 (i : Int)) rfl (e_move (by exact zs5)) ?_
    refine l_val (v := Value.int .i64 ((i : Int) + 1)) rfl (e_add (m := (i : Int)) (n := 1) rfl rfl (by omega)) ?_
    refine l_val (v := Value.bool (decide ((k : Int) = ((i : Int) + 1)))) rfl (e_eql (m := (k : Int)) (n := (i : Int) + 1) rfl rfl) ?_
    refine l_val (v := Value.bool (decide ((k : Int) = ((i : Int) + 1)))) rfl (e_move rfl) ?_
    by_cases q65 : (k : Int) = ((i : Int) + 1)
    ·
     refine l_skip (want_n rfl rfl rfl (decide_eq_true q65)) ?_
     refine l_skip (want_n rfl rfl rfl (decide_eq_true q65)) ?_
     refine l_skip (want_n rfl rfl rfl (decide_eq_true q65)) ?_
     refine l_skip (want_u rfl rfl rfl) ?_
     refine l_skip (want_u rfl rfl rfl) ?_
     refine l_skip (want_u rfl rfl rfl) ?_
     refine l_skip (want_n rfl rfl rfl (decide_eq_true q65)) ?_
     refine l_skip (want_n rfl rfl rfl (decide_eq_true q65)) ?_
     refine l_skip (want_u rfl rfl rfl) ?_
     refine l_skip (want_u rfl rfl rfl) ?_
     refine l_skip (want_n rfl rfl rfl (decide_eq_true q65)) ?_
     refine l_val (v := Value.bool true) rfl (e_pick_t rfl (decide_eq_true q65) rfl) ?_
     refine l_val (v := Value.bool true) rfl (e_assign rfl) ?_
     refine l_nil ?_
     refine run_seq ?_
     refine run_region rfl ?_
     refine l_val (v := Value.bool true) rfl (e_move rfl) ?_
     refine l_val (v := Value.bool true) rfl (e_move rfl) ?_
     refine l_val (v := Value.int .i64 (meetP (gI ps (i : Int)) (gI ps ((i : Int) + 1)) (gI ps (k : Int)) (gI ps ((k : Int) + 1)))) (want_y rfl rfl rfl rfl) (e_move rfl) ?_
     refine l_val (v := Value.bool (decide ((meetP (gI ps (i : Int)) (gI ps ((i : Int) + 1)) (gI ps (k : Int)) (gI ps ((k : Int) + 1))) = 3))) (want_y rfl rfl rfl rfl) (e_eql (m := meetP (gI ps (i : Int)) (gI ps ((i : Int) + 1)) (gI ps (k : Int)) (gI ps ((k : Int) + 1))) (n := 3) rfl rfl) ?_
     refine l_val (v := Value.bool (decide ((meetP (gI ps (i : Int)) (gI ps ((i : Int) + 1)) (gI ps (k : Int)) (gI ps ((k : Int) + 1))) = 3))) rfl (e_pick_t rfl rfl rfl) ?_
     refine l_val (v := Value.bool (decide ((meetP (gI ps (i : Int)) (gI ps ((i : Int) + 1)) (gI ps (k : Int)) (gI ps ((k : Int) + 1))) = 3))) rfl (e_move rfl) ?_
     by_cases q83 : (meetP (gI ps (i : Int)) (gI ps ((i : Int) + 1)) (gI ps (k : Int)) (gI ps ((k : Int) + 1))) = 3
     ·
      refine l_skip (want_n rfl rfl rfl (decide_eq_true q83)) ?_
      refine l_skip (want_n rfl rfl rfl (decide_eq_true q83)) ?_
      refine l_skip (want_n rfl rfl rfl (decide_eq_true q83)) ?_
      refine l_skip (want_u rfl rfl rfl) ?_
      refine l_skip (want_u rfl rfl rfl) ?_
      refine l_skip (want_n rfl rfl rfl (decide_eq_true q83)) ?_
      refine l_val (v := Value.bool true) rfl (e_pick_t rfl (decide_eq_true q83) rfl) ?_
      refine l_nil ?_
      refine run_cond_t rfl rfl ?_
      refine run_seq ?_
      refine run_region rfl ?_
      refine l_val (v := Value.bool false) rfl (e_assign rfl) ?_
      refine l_val (v := Value.int .i64 0) rfl (e_assign rfl) ?_
      refine l_nil ?_
      refine run_ret (vs := [Value.bool false, Value.int .i64 0]) Try.func29 (.tmp rfl (.tmp rfl .nil)) ?_
      -- return 2
      have e0 : (false : Bool) = ((simR ps).1) := by
        first
          | (rw [simR_err (.inl (by assumption))]; done)
          | (rw [simR_err (.inr (fun h => p1 (decide_eq_true h)))]; done)
          | (rw [simR_ok (by assumption) hok]; done)
          | (rw [simR_ok (by assumption) hok]; exact sim_eq (by assumption) (by assumption))
          | (rw [simR_ok (by assumption) hok]; exact sim_bad (k := k) (by assumption) (by assumption) hk.2 (by first | exact bad3 (by first | exact join1 (by assumption) | exact join2 (by assumption) (by assumption) (by assumption)) (by assumption) | exact bad0 (by first | exact nojoin0 (by assumption) (by assumption) | exact nojoin1 (by assumption) (by assumption) | exact nojoin2 (by assumption) (by assumption)) (by assumption)))
          | (rw [simR_ok (by assumption) hok]; exact sim_yes hinv (by assumption))
      have e1 : (0 : Int) = ((simR ps).2) := by
        first
          | (rw [simR_err (.inl (by assumption))]; done)
          | (rw [simR_err (.inr (fun h => p1 (decide_eq_true h)))]; done)
          | (rw [simR_ok (by assumption) hok]; done)
          | (rw [simR_ok (by assumption) hok]; exact sim_eq (by assumption) (by assumption))
          | (rw [simR_ok (by assumption) hok]; exact sim_bad (k := k) (by assumption) (by assumption) hk.2 (by first | exact bad3 (by first | exact join1 (by assumption) | exact join2 (by assumption) (by assumption) (by assumption)) (by assumption) | exact bad0 (by first | exact nojoin0 (by assumption) (by assumption) | exact nojoin1 (by assumption) (by assumption) | exact nojoin2 (by assumption) (by assumption)) (by assumption)))
          | (rw [simR_ok (by assumption) hok]; exact sim_yes hinv (by assumption))
      replace hbase := hbase.chg ch14 (not_no _)
      replace hbase := hbase.chg hc17 (not_no _)
      exact ⟨(congr2 (a := false) (b := 0) (fun (z0 : Bool) (z1 : Int) => Ending.returned (Value.tuple (List.toArray [Value.bool z0, Value.int .i64 z1]))) e0 e1), hbase.below⟩
     refine l_val (v := Value.bool true) (want_y rfl rfl rfl (decide_eq_false q83)) (e_move rfl) ?_
     refine l_val (v := Value.bool false) (want_y rfl rfl rfl (decide_eq_false q83)) (e_not (b := true) rfl) ?_
     refine l_val (v := Value.bool false) (want_y rfl rfl rfl (decide_eq_false q83)) (e_move rfl) ?_
     refine l_skip (want_n rfl rfl rfl rfl) ?_
     refine l_skip (want_n rfl rfl rfl rfl) ?_
     refine l_val (v := Value.bool false) (want_y rfl rfl rfl (decide_eq_false q83)) (e_pick_f rfl rfl rfl) ?_
     refine l_val (v := Value.bool false) rfl (e_pick_f rfl (decide_eq_false q83) rfl) ?_
     refine l_nil ?_
     refine run_cond_f rfl rfl ?_
     refine run_skip ?_
     refine run_inBlock ?_
     refine run_region rfl ?_
     refine l_val (v := Value.int .i64 (k : Int)) rfl (e_move (by exact zs6)) ?_
     refine l_val (v := Value.int .i64 ((k : Int) + 1)) rfl (e_add (m := (k : Int)) (n := 1) rfl rfl (by omega)) ?_
     refine l_val (v := Value.int .i64 ((k : Int) + 1)) rfl (e_assign rfl) ?_
     refine l_nil ?_
     replace hbase := hbase.chg ch14 (not_no _)
     replace hbase := hbase.chg hc17 (not_no _)
     replace r_ps_v := r_ps_v.chg hc17 (not_no _)
     refine back10 (k + 1, g13) _ _ ⟨hbase, (by exact zs0), (by exact zs4), (by exact zs5), rfl, r_ps_v, ?_⟩ ?_
     · show (∀ j : Nat, i < j → j < (k + 1) → ¬ badP ps i j) ∧ i < (k + 1)
       refine ⟨fun j h1 h2 => ?_, by omega⟩
       by_cases e0 : j = k
       · subst e0
         first
           | exact good3 (by first | exact join1 (by assumption) | exact join2 (by assumption) (by assumption) (by assumption)) (by assumption)
           | exact good0 (by first | exact nojoin0 (by assumption) (by assumption) | exact nojoin1 (by assumption) (by assumption) | exact nojoin2 (by assumption) (by assumption)) (by assumption)
       · exact hk.1 j h1 (by omega)
     · show List.length ps - (k + 1) < List.length ps - k
       omega
    refine l_val (v := Value.int .i64 (i : Int)) (want_y rfl rfl rfl (decide_eq_false q65)) (e_move (by exact zs5)) ?_
    refine l_val (v := Value.bool (decide ((i : Int) = 0))) (want_y rfl rfl rfl (decide_eq_false q65)) (e_eql (m := (i : Int)) (n := 0) rfl rfl) ?_
    refine l_val (v := Value.bool (decide ((i : Int) = 0))) (want_y rfl rfl rfl (decide_eq_false q65)) (e_move rfl) ?_
    by_cases q68 : (i : Int) = 0
    ·
     refine l_val (v := Value.int .i64 (k : Int)) (want_y rfl rfl rfl (decide_eq_true q68)) (e_move (by exact zs6)) ?_
     refine l_val (v := Value.int .i64 ((List.length ps : Int) - 2)) (want_y rfl rfl rfl (decide_eq_true q68)) (e_move (by exact zs4)) ?_
     refine l_val (v := Value.bool (decide ((k : Int) = ((List.length ps : Int) - 2)))) (want_y rfl rfl rfl (decide_eq_true q68)) (e_eql (m := (k : Int)) (n := (List.length ps : Int) - 2) rfl rfl) ?_
     refine l_val (v := Value.bool (decide ((k : Int) = ((List.length ps : Int) - 2)))) (want_y rfl rfl rfl (decide_eq_false q65)) (e_pick_t rfl (decide_eq_true q68) rfl) ?_
     refine l_val (v := Value.bool (decide ((k : Int) = ((List.length ps : Int) - 2)))) (want_y rfl rfl rfl (decide_eq_false q65)) (e_move rfl) ?_
     by_cases q73 : (k : Int) = ((List.length ps : Int) - 2)
     ·
      refine l_val (v := ps_v) (want_y rfl rfl rfl (decide_eq_true q73)) (e_move (by exact zs0)) ?_
      replace r_ps_v := r_ps_v.chg hc17 (not_no _)
      refine l_op (want_y rfl rfl rfl (decide_eq_true q73)) ?_
      refine o_call (v := Value.bool (decide (closedP ps))) (e_call (vals := [ps_v]) Try.func50 bd50_gr nm50_gr rfl) (closed_ok w16 ps ps_v (r_ps_v).ro) ?_
      intro w18 hb19
      replace hb19 := chg_below hb19 g13
      refine l_val (v := Value.bool (decide (closedP ps))) (want_y rfl rfl rfl (decide_eq_false q65)) (e_pick_t rfl (decide_eq_true q73) rfl) ?_
      refine l_val (v := Value.bool (decide (closedP ps))) rfl (e_pick_f rfl (decide_eq_false q65) rfl) ?_
      refine l_val (v := Value.bool (decide (closedP ps))) rfl (e_assign rfl) ?_
      refine l_nil ?_
      refine run_seq ?_
      refine run_region rfl ?_
      refine l_val (v := Value.bool (decide (closedP ps))) rfl (e_move rfl) ?_
      refine l_val (v := Value.bool (decide (closedP ps))) rfl (e_move rfl) ?_
      by_cases q79 : (decide (closedP ps)) = true
      ·
       refine l_val (v := Value.int .i64 (meetP (gI ps (i : Int)) (gI ps ((i : Int) + 1)) (gI ps (k : Int)) (gI ps ((k : Int) + 1)))) (want_y rfl rfl rfl q79) (e_move rfl) ?_
       refine l_val (v := Value.bool (decide ((meetP (gI ps (i : Int)) (gI ps ((i : Int) + 1)) (gI ps (k : Int)) (gI ps ((k : Int) + 1))) = 3))) (want_y rfl rfl rfl q79) (e_eql (m := meetP (gI ps (i : Int)) (gI ps ((i : Int) + 1)) (gI ps (k : Int)) (gI ps ((k : Int) + 1))) (n := 3) rfl rfl) ?_
       refine l_val (v := Value.bool (decide ((meetP (gI ps (i : Int)) (gI ps ((i : Int) + 1)) (gI ps (k : Int)) (gI ps ((k : Int) + 1))) = 3))) rfl (e_pick_t rfl q79 rfl) ?_
       refine l_val (v := Value.bool (decide ((meetP (gI ps (i : Int)) (gI ps ((i : Int) + 1)) (gI ps (k : Int)) (gI ps ((k : Int) + 1))) = 3))) rfl (e_move rfl) ?_
       by_cases q83 : (meetP (gI ps (i : Int)) (gI ps ((i : Int) + 1)) (gI ps (k : Int)) (gI ps ((k : Int) + 1))) = 3
       ·
        refine l_skip (want_n rfl rfl rfl (decide_eq_true q83)) ?_
        refine l_skip (want_n rfl rfl rfl (decide_eq_true q83)) ?_
        refine l_skip (want_n rfl rfl rfl (decide_eq_true q83)) ?_
        refine l_skip (want_u rfl rfl rfl) ?_
        refine l_skip (want_u rfl rfl rfl) ?_
        refine l_skip (want_n rfl rfl rfl (decide_eq_true q83)) ?_
        refine l_val (v := Value.bool true) rfl (e_pick_t rfl (decide_eq_true q83) rfl) ?_
        refine l_nil ?_
        refine run_cond_t rfl rfl ?_
        refine run_seq ?_
        refine run_region rfl ?_
        refine l_val (v := Value.bool false) rfl (e_assign rfl) ?_
        refine l_val (v := Value.int .i64 0) rfl (e_assign rfl) ?_
        refine l_nil ?_
        refine run_ret (vs := [Value.bool false, Value.int .i64 0]) Try.func29 (.tmp rfl (.tmp rfl .nil)) ?_
        -- return 3
        have e0 : (false : Bool) = ((simR ps).1) := by
          first
            | (rw [simR_err (.inl (by assumption))]; done)
            | (rw [simR_err (.inr (fun h => p1 (decide_eq_true h)))]; done)
            | (rw [simR_ok (by assumption) hok]; done)
            | (rw [simR_ok (by assumption) hok]; exact sim_eq (by assumption) (by assumption))
            | (rw [simR_ok (by assumption) hok]; exact sim_bad (k := k) (by assumption) (by assumption) hk.2 (by first | exact bad3 (by first | exact join1 (by assumption) | exact join2 (by assumption) (by assumption) (by assumption)) (by assumption) | exact bad0 (by first | exact nojoin0 (by assumption) (by assumption) | exact nojoin1 (by assumption) (by assumption) | exact nojoin2 (by assumption) (by assumption)) (by assumption)))
            | (rw [simR_ok (by assumption) hok]; exact sim_yes hinv (by assumption))
        have e1 : (0 : Int) = ((simR ps).2) := by
          first
            | (rw [simR_err (.inl (by assumption))]; done)
            | (rw [simR_err (.inr (fun h => p1 (decide_eq_true h)))]; done)
            | (rw [simR_ok (by assumption) hok]; done)
            | (rw [simR_ok (by assumption) hok]; exact sim_eq (by assumption) (by assumption))
            | (rw [simR_ok (by assumption) hok]; exact sim_bad (k := k) (by assumption) (by assumption) hk.2 (by first | exact bad3 (by first | exact join1 (by assumption) | exact join2 (by assumption) (by assumption) (by assumption)) (by assumption) | exact bad0 (by first | exact nojoin0 (by assumption) (by assumption) | exact nojoin1 (by assumption) (by assumption) | exact nojoin2 (by assumption) (by assumption)) (by assumption)))
            | (rw [simR_ok (by assumption) hok]; exact sim_yes hinv (by assumption))
        have C20 : Chg (inl []) _ _ _ _ := (ch14.n).seq ((hc17.n).seq (hb19.n))
        replace hbase := hbase.chg C20 (is_nl rfl)
        exact ⟨(congr2 (a := false) (b := 0) (fun (z0 : Bool) (z1 : Int) => Ending.returned (Value.tuple (List.toArray [Value.bool z0, Value.int .i64 z1]))) e0 e1), hbase.below⟩
       refine l_val (v := Value.bool (decide (closedP ps))) (want_y rfl rfl rfl (decide_eq_false q83)) (e_move rfl) ?_
       refine l_val (v := Value.bool (!(decide (closedP ps)))) (want_y rfl rfl rfl (decide_eq_false q83)) (e_not (b := (decide (closedP ps))) rfl) ?_
       refine l_val (v := Value.bool (!(decide (closedP ps)))) (want_y rfl rfl rfl (decide_eq_false q83)) (e_move rfl) ?_
       refine l_skip (want_n rfl rfl rfl (congrArg Bool.not q79)) ?_
       refine l_skip (want_n rfl rfl rfl (congrArg Bool.not q79)) ?_
       refine l_val (v := Value.bool false) (want_y rfl rfl rfl (decide_eq_false q83)) (e_pick_f rfl (congrArg Bool.not q79) rfl) ?_
       refine l_val (v := Value.bool false) rfl (e_pick_f rfl (decide_eq_false q83) rfl) ?_
       refine l_nil ?_
       refine run_cond_f rfl rfl ?_
       refine run_skip ?_
       refine run_inBlock ?_
       refine run_region rfl ?_
       refine l_val (v := Value.int .i64 (k : Int)) rfl (e_move (by exact zs6)) ?_
       refine l_val (v := Value.int .i64 ((k : Int) + 1)) rfl (e_add (m := (k : Int)) (n := 1) rfl rfl (by omega)) ?_
       refine l_val (v := Value.int .i64 ((k : Int) + 1)) rfl (e_assign rfl) ?_
       refine l_nil ?_
       have C21 : Chg (inl []) _ _ _ _ := (ch14.n).seq ((hc17.n).seq (hb19.n))
       replace hbase := hbase.chg C21 (is_nl rfl)
       replace r_ps_v := r_ps_v.chg hb19 (not_no _)
       refine back10 (k + 1, g13) _ _ ⟨hbase, (by exact zs0), (by exact zs4), (by exact zs5), rfl, r_ps_v, ?_⟩ ?_
       · show (∀ j : Nat, i < j → j < (k + 1) → ¬ badP ps i j) ∧ i < (k + 1)
         refine ⟨fun j h1 h2 => ?_, by omega⟩
         by_cases e0 : j = k
         · subst e0
           first
             | exact good3 (by first | exact join1 (by assumption) | exact join2 (by assumption) (by assumption) (by assumption)) (by assumption)
             | exact good0 (by first | exact nojoin0 (by assumption) (by assumption) | exact nojoin1 (by assumption) (by assumption) | exact nojoin2 (by assumption) (by assumption)) (by assumption)
         · exact hk.1 j h1 (by omega)
       · show List.length ps - (k + 1) < List.length ps - k
         omega
      refine l_skip (want_n rfl rfl rfl (Bool.eq_false_iff.2 q79)) ?_
      refine l_skip (want_n rfl rfl rfl (Bool.eq_false_iff.2 q79)) ?_
      refine l_val (v := Value.bool false) rfl (e_pick_f rfl (Bool.eq_false_iff.2 q79) rfl) ?_
      refine l_val (v := Value.bool false) rfl (e_move rfl) ?_
      refine l_val (v := Value.bool (decide (closedP ps))) (want_y rfl rfl rfl rfl) (e_move rfl) ?_
      refine l_val (v := Value.bool (!(decide (closedP ps)))) (want_y rfl rfl rfl rfl) (e_not (b := (decide (closedP ps))) rfl) ?_
      refine l_val (v := Value.bool (!(decide (closedP ps)))) (want_y rfl rfl rfl rfl) (e_move rfl) ?_
      refine l_val (v := Value.int .i64 (meetP (gI ps (i : Int)) (gI ps ((i : Int) + 1)) (gI ps (k : Int)) (gI ps ((k : Int) + 1)))) (want_y rfl rfl rfl (congrArg Bool.not (Bool.eq_false_iff.2 q79))) (e_move rfl) ?_
      refine l_val (v := Value.bool (!(decide ((meetP (gI ps (i : Int)) (gI ps ((i : Int) + 1)) (gI ps (k : Int)) (gI ps ((k : Int) + 1))) = 0)))) (want_y rfl rfl rfl (congrArg Bool.not (Bool.eq_false_iff.2 q79))) (e_neq (m := meetP (gI ps (i : Int)) (gI ps ((i : Int) + 1)) (gI ps (k : Int)) (gI ps ((k : Int) + 1))) (n := 0) rfl rfl) ?_
      refine l_val (v := Value.bool (!(decide ((meetP (gI ps (i : Int)) (gI ps ((i : Int) + 1)) (gI ps (k : Int)) (gI ps ((k : Int) + 1))) = 0)))) (want_y rfl rfl rfl rfl) (e_pick_t rfl (congrArg Bool.not (Bool.eq_false_iff.2 q79)) rfl) ?_
      refine l_val (v := Value.bool (!(decide ((meetP (gI ps (i : Int)) (gI ps ((i : Int) + 1)) (gI ps (k : Int)) (gI ps ((k : Int) + 1))) = 0)))) rfl (e_pick_f rfl rfl rfl) ?_
      refine l_nil ?_
      by_cases p14 : (meetP (gI ps (i : Int)) (gI ps ((i : Int) + 1)) (gI ps (k : Int)) (gI ps ((k : Int) + 1))) = 0
      ·
       refine run_cond_f rfl (congrArg Bool.not (decide_eq_true p14)) ?_
       refine run_skip ?_
       refine run_inBlock ?_
       refine run_region rfl ?_
       refine l_val (v := Value.int .i64 (k : Int)) rfl (e_move (by exact zs6)) ?_
       refine l_val (v := Value.int .i64 ((k : Int) + 1)) rfl (e_add (m := (k : Int)) (n := 1) rfl rfl (by omega)) ?_
       refine l_val (v := Value.int .i64 ((k : Int) + 1)) rfl (e_assign rfl) ?_
       refine l_nil ?_
       have C22 : Chg (inl []) _ _ _ _ := (ch14.n).seq ((hc17.n).seq (hb19.n))
       replace hbase := hbase.chg C22 (is_nl rfl)
       replace r_ps_v := r_ps_v.chg hb19 (not_no _)
       refine back10 (k + 1, g13) _ _ ⟨hbase, (by exact zs0), (by exact zs4), (by exact zs5), rfl, r_ps_v, ?_⟩ ?_
       · show (∀ j : Nat, i < j → j < (k + 1) → ¬ badP ps i j) ∧ i < (k + 1)
         refine ⟨fun j h1 h2 => ?_, by omega⟩
         by_cases e0 : j = k
         · subst e0
           first
             | exact good3 (by first | exact join1 (by assumption) | exact join2 (by assumption) (by assumption) (by assumption)) (by assumption)
             | exact good0 (by first | exact nojoin0 (by assumption) (by assumption) | exact nojoin1 (by assumption) (by assumption) | exact nojoin2 (by assumption) (by assumption)) (by assumption)
         · exact hk.1 j h1 (by omega)
       · show List.length ps - (k + 1) < List.length ps - k
         omega
      refine run_cond_t rfl (congrArg Bool.not (decide_eq_false p14)) ?_
      refine run_seq ?_
      refine run_region rfl ?_
      refine l_val (v := Value.bool false) rfl (e_assign rfl) ?_
      refine l_val (v := Value.int .i64 0) rfl (e_assign rfl) ?_
      refine l_nil ?_
      refine run_ret (vs := [Value.bool false, Value.int .i64 0]) Try.func29 (.tmp rfl (.tmp rfl .nil)) ?_
      -- return 4
      have e0 : (false : Bool) = ((simR ps).1) := by
        first
          | (rw [simR_err (.inl (by assumption))]; done)
          | (rw [simR_err (.inr (fun h => p1 (decide_eq_true h)))]; done)
          | (rw [simR_ok (by assumption) hok]; done)
          | (rw [simR_ok (by assumption) hok]; exact sim_eq (by assumption) (by assumption))
          | (rw [simR_ok (by assumption) hok]; exact sim_bad (k := k) (by assumption) (by assumption) hk.2 (by first | exact bad3 (by first | exact join1 (by assumption) | exact join2 (by assumption) (by assumption) (by assumption)) (by assumption) | exact bad0 (by first | exact nojoin0 (by assumption) (by assumption) | exact nojoin1 (by assumption) (by assumption) | exact nojoin2 (by assumption) (by assumption)) (by assumption)))
          | (rw [simR_ok (by assumption) hok]; exact sim_yes hinv (by assumption))
      have e1 : (0 : Int) = ((simR ps).2) := by
        first
          | (rw [simR_err (.inl (by assumption))]; done)
          | (rw [simR_err (.inr (fun h => p1 (decide_eq_true h)))]; done)
          | (rw [simR_ok (by assumption) hok]; done)
          | (rw [simR_ok (by assumption) hok]; exact sim_eq (by assumption) (by assumption))
          | (rw [simR_ok (by assumption) hok]; exact sim_bad (k := k) (by assumption) (by assumption) hk.2 (by first | exact bad3 (by first | exact join1 (by assumption) | exact join2 (by assumption) (by assumption) (by assumption)) (by assumption) | exact bad0 (by first | exact nojoin0 (by assumption) (by assumption) | exact nojoin1 (by assumption) (by assumption) | exact nojoin2 (by assumption) (by assumption)) (by assumption)))
          | (rw [simR_ok (by assumption) hok]; exact sim_yes hinv (by assumption))
      have C23 : Chg (inl []) _ _ _ _ := (ch14.n).seq ((hc17.n).seq (hb19.n))
      replace hbase := hbase.chg C23 (is_nl rfl)
      exact ⟨(congr2 (a := false) (b := 0) (fun (z0 : Bool) (z1 : Int) => Ending.returned (Value.tuple (List.toArray [Value.bool z0, Value.int .i64 z1]))) e0 e1), hbase.below⟩
     refine l_skip (want_n rfl rfl rfl (decide_eq_false q73)) ?_
     refine l_skip (want_n rfl rfl rfl (decide_eq_false q73)) ?_
     refine l_val (v := Value.bool false) (want_y rfl rfl rfl (decide_eq_false q65)) (e_pick_f rfl (decide_eq_false q73) rfl) ?_
     refine l_val (v := Value.bool false) rfl (e_pick_f rfl (decide_eq_false q65) rfl) ?_
     refine l_val (v := Value.bool false) rfl (e_assign rfl) ?_
     refine l_nil ?_
     refine run_seq ?_
     refine run_region rfl ?_
     refine l_val (v := Value.bool false) rfl (e_move rfl) ?_
     refine l_val (v := Value.bool false) rfl (e_move rfl) ?_
     refine l_skip (want_n rfl rfl rfl rfl) ?_
     refine l_skip (want_n rfl rfl rfl rfl) ?_
     refine l_val (v := Value.bool false) rfl (e_pick_f rfl rfl rfl) ?_
     refine l_val (v := Value.bool false) rfl (e_move rfl) ?_
     refine l_val (v := Value.bool false) (want_y rfl rfl rfl rfl) (e_move rfl) ?_
     refine l_val (v := Value.bool true) (want_y rfl rfl rfl rfl) (e_not (b := false) rfl) ?_
     refine l_val (v := Value.bool true) (want_y rfl rfl rfl rfl) (e_move rfl) ?_
     refine l_val (v := Value.int .i64 (meetP (gI ps (i : Int)) (gI ps ((i : Int) + 1)) (gI ps (k : Int)) (gI ps ((k : Int) + 1)))) (want_y rfl rfl rfl rfl) (e_move rfl) ?_
     refine l_val (v := Value.bool (!(decide ((meetP (gI ps (i : Int)) (gI ps ((i : Int) + 1)) (gI ps (k : Int)) (gI ps ((k : Int) + 1))) = 0)))) (want_y rfl rfl rfl rfl) (e_neq (m := meetP (gI ps (i : Int)) (gI ps ((i : Int) + 1)) (gI ps (k : Int)) (gI ps ((k : Int) + 1))) (n := 0) rfl rfl) ?_
     refine l_val (v := Value.bool (!(decide ((meetP (gI ps (i : Int)) (gI ps ((i : Int) + 1)) (gI ps (k : Int)) (gI ps ((k : Int) + 1))) = 0)))) (want_y rfl rfl rfl rfl) (e_pick_t rfl rfl rfl) ?_
     refine l_val (v := Value.bool (!(decide ((meetP (gI ps (i : Int)) (gI ps ((i : Int) + 1)) (gI ps (k : Int)) (gI ps ((k : Int) + 1))) = 0)))) rfl (e_pick_f rfl rfl rfl) ?_
     refine l_nil ?_
     by_cases p14 : (meetP (gI ps (i : Int)) (gI ps ((i : Int) + 1)) (gI ps (k : Int)) (gI ps ((k : Int) + 1))) = 0
     ·
      refine run_cond_f rfl (congrArg Bool.not (decide_eq_true p14)) ?_
      refine run_skip ?_
      refine run_inBlock ?_
      refine run_region rfl ?_
      refine l_val (v := Value.int .i64 (k : Int)) rfl (e_move (by exact zs6)) ?_
      refine l_val (v := Value.int .i64 ((k : Int) + 1)) rfl (e_add (m := (k : Int)) (n := 1) rfl rfl (by omega)) ?_
      refine l_val (v := Value.int .i64 ((k : Int) + 1)) rfl (e_assign rfl) ?_
      refine l_nil ?_
      replace hbase := hbase.chg ch14 (not_no _)
      replace hbase := hbase.chg hc17 (not_no _)
      replace r_ps_v := r_ps_v.chg hc17 (not_no _)
      refine back10 (k + 1, g13) _ _ ⟨hbase, (by exact zs0), (by exact zs4), (by exact zs5), rfl, r_ps_v, ?_⟩ ?_
      · show (∀ j : Nat, i < j → j < (k + 1) → ¬ badP ps i j) ∧ i < (k + 1)
        refine ⟨fun j h1 h2 => ?_, by omega⟩
        by_cases e0 : j = k
        · subst e0
          first
            | exact good3 (by first | exact join1 (by assumption) | exact join2 (by assumption) (by assumption) (by assumption)) (by assumption)
            | exact good0 (by first | exact nojoin0 (by assumption) (by assumption) | exact nojoin1 (by assumption) (by assumption) | exact nojoin2 (by assumption) (by assumption)) (by assumption)
        · exact hk.1 j h1 (by omega)
      · show List.length ps - (k + 1) < List.length ps - k
        omega
     refine run_cond_t rfl (congrArg Bool.not (decide_eq_false p14)) ?_
     refine run_seq ?_
     refine run_region rfl ?_
     refine l_val (v := Value.bool false) rfl (e_assign rfl) ?_
     refine l_val (v := Value.int .i64 0) rfl (e_assign rfl) ?_
     refine l_nil ?_
     refine run_ret (vs := [Value.bool false, Value.int .i64 0]) Try.func29 (.tmp rfl (.tmp rfl .nil)) ?_
     -- return 5
     have e0 : (false : Bool) = ((simR ps).1) := by
       first
         | (rw [simR_err (.inl (by assumption))]; done)
         | (rw [simR_err (.inr (fun h => p1 (decide_eq_true h)))]; done)
         | (rw [simR_ok (by assumption) hok]; done)
         | (rw [simR_ok (by assumption) hok]; exact sim_eq (by assumption) (by assumption))
         | (rw [simR_ok (by assumption) hok]; exact sim_bad (k := k) (by assumption) (by assumption) hk.2 (by first | exact bad3 (by first | exact join1 (by assumption) | exact join2 (by assumption) (by assumption) (by assumption)) (by assumption) | exact bad0 (by first | exact nojoin0 (by assumption) (by assumption) | exact nojoin1 (by assumption) (by assumption) | exact nojoin2 (by assumption) (by assumption)) (by assumption)))
         | (rw [simR_ok (by assumption) hok]; exact sim_yes hinv (by assumption))
     have e1 : (0 : Int) = ((simR ps).2) := by
       first
         | (rw [simR_err (.inl (by assumption))]; done)
         | (rw [simR_err (.inr (fun h => p1 (decide_eq_true h)))]; done)
         | (rw [simR_ok (by assumption) hok]; done)
         | (rw [simR_ok (by assumption) hok]; exact sim_eq (by assumption) (by assumption))
         | (rw [simR_ok (by assumption) hok]; exact sim_bad (k := k) (by assumption) (by assumption) hk.2 (by first | exact bad3 (by first | exact join1 (by assumption) | exact join2 (by assumption) (by assumption) (by assumption)) (by assumption) | exact bad0 (by first | exact nojoin0 (by assumption) (by assumption) | exact nojoin1 (by assumption) (by assumption) | exact nojoin2 (by assumption) (by assumption)) (by assumption)))
         | (rw [simR_ok (by assumption) hok]; exact sim_yes hinv (by assumption))
     replace hbase := hbase.chg ch14 (not_no _)
     replace hbase := hbase.chg hc17 (not_no _)
     exact ⟨(congr2 (a := false) (b := 0) (fun (z0 : Bool) (z1 : Int) => Ending.returned (Value.tuple (List.toArray [Value.bool z0, Value.int .i64 z1]))) e0 e1), hbase.below⟩
    refine l_skip (want_n rfl rfl rfl (decide_eq_false q68)) ?_
    refine l_skip (want_n rfl rfl rfl (decide_eq_false q68)) ?_
    refine l_skip (want_n rfl rfl rfl (decide_eq_false q68)) ?_
    refine l_val (v := Value.bool false) (want_y rfl rfl rfl (decide_eq_false q65)) (e_pick_f rfl (decide_eq_false q68) rfl) ?_
    refine l_val (v := Value.bool false) (want_y rfl rfl rfl (decide_eq_false q65)) (e_move rfl) ?_
    refine l_skip (want_n rfl rfl rfl rfl) ?_
    refine l_skip (want_n rfl rfl rfl rfl) ?_
    refine l_val (v := Value.bool false) (want_y rfl rfl rfl (decide_eq_false q65)) (e_pick_f rfl rfl rfl) ?_
    refine l_val (v := Value.bool false) rfl (e_pick_f rfl (decide_eq_false q65) rfl) ?_
    refine l_val (v := Value.bool false) rfl (e_assign rfl) ?_
    refine l_nil ?_
    refine run_seq ?_
    refine run_region rfl ?_
    refine l_val (v := Value.bool false) rfl (e_move rfl) ?_
    refine l_val (v := Value.bool false) rfl (e_move rfl) ?_
    refine l_skip (want_n rfl rfl rfl rfl) ?_
    refine l_skip (want_n rfl rfl rfl rfl) ?_
    refine l_val (v := Value.bool false) rfl (e_pick_f rfl rfl rfl) ?_
    refine l_val (v := Value.bool false) rfl (e_move rfl) ?_
    refine l_val (v := Value.bool false) (want_y rfl rfl rfl rfl) (e_move rfl) ?_
    refine l_val (v := Value.bool true) (want_y rfl rfl rfl rfl) (e_not (b := false) rfl) ?_
    refine l_val (v := Value.bool true) (want_y rfl rfl rfl rfl) (e_move rfl) ?_
    refine l_val (v := Value.int .i64 (meetP (gI ps (i : Int)) (gI ps ((i : Int) + 1)) (gI ps (k : Int)) (gI ps ((k : Int) + 1)))) (want_y rfl rfl rfl rfl) (e_move rfl) ?_
    refine l_val (v := Value.bool (!(decide ((meetP (gI ps (i : Int)) (gI ps ((i : Int) + 1)) (gI ps (k : Int)) (gI ps ((k : Int) + 1))) = 0)))) (want_y rfl rfl rfl rfl) (e_neq (m := meetP (gI ps (i : Int)) (gI ps ((i : Int) + 1)) (gI ps (k : Int)) (gI ps ((k : Int) + 1))) (n := 0) rfl rfl) ?_
    refine l_val (v := Value.bool (!(decide ((meetP (gI ps (i : Int)) (gI ps ((i : Int) + 1)) (gI ps (k : Int)) (gI ps ((k : Int) + 1))) = 0)))) (want_y rfl rfl rfl rfl) (e_pick_t rfl rfl rfl) ?_
    refine l_val (v := Value.bool (!(decide ((meetP (gI ps (i : Int)) (gI ps ((i : Int) + 1)) (gI ps (k : Int)) (gI ps ((k : Int) + 1))) = 0)))) rfl (e_pick_f rfl rfl rfl) ?_
    refine l_nil ?_
    by_cases p14 : (meetP (gI ps (i : Int)) (gI ps ((i : Int) + 1)) (gI ps (k : Int)) (gI ps ((k : Int) + 1))) = 0
    ·
     refine run_cond_f rfl (congrArg Bool.not (decide_eq_true p14)) ?_
     refine run_skip ?_
     refine run_inBlock ?_
     refine run_region rfl ?_
     refine l_val (v := Value.int .i64 (k : Int)) rfl (e_move (by exact zs6)) ?_
     refine l_val (v := Value.int .i64 ((k : Int) + 1)) rfl (e_add (m := (k : Int)) (n := 1) rfl rfl (by omega)) ?_
     refine l_val (v := Value.int .i64 ((k : Int) + 1)) rfl (e_assign rfl) ?_
     refine l_nil ?_
     replace hbase := hbase.chg ch14 (not_no _)
     replace hbase := hbase.chg hc17 (not_no _)
     replace r_ps_v := r_ps_v.chg hc17 (not_no _)
     refine back10 (k + 1, g13) _ _ ⟨hbase, (by exact zs0), (by exact zs4), (by exact zs5), rfl, r_ps_v, ?_⟩ ?_
     · show (∀ j : Nat, i < j → j < (k + 1) → ¬ badP ps i j) ∧ i < (k + 1)
       refine ⟨fun j h1 h2 => ?_, by omega⟩
       by_cases e0 : j = k
       · subst e0
         first
           | exact good3 (by first | exact join1 (by assumption) | exact join2 (by assumption) (by assumption) (by assumption)) (by assumption)
           | exact good0 (by first | exact nojoin0 (by assumption) (by assumption) | exact nojoin1 (by assumption) (by assumption) | exact nojoin2 (by assumption) (by assumption)) (by assumption)
       · exact hk.1 j h1 (by omega)
     · show List.length ps - (k + 1) < List.length ps - k
       omega
    refine run_cond_t rfl (congrArg Bool.not (decide_eq_false p14)) ?_
    refine run_seq ?_
    refine run_region rfl ?_
    refine l_val (v := Value.bool false) rfl (e_assign rfl) ?_
    refine l_val (v := Value.int .i64 0) rfl (e_assign rfl) ?_
    refine l_nil ?_
    refine run_ret (vs := [Value.bool false, Value.int .i64 0]) Try.func29 (.tmp rfl (.tmp rfl .nil)) ?_
    -- return 6
    have e0 : (false : Bool) = ((simR ps).1) := by
      first
        | (rw [simR_err (.inl (by assumption))]; done)
        | (rw [simR_err (.inr (fun h => p1 (decide_eq_true h)))]; done)
        | (rw [simR_ok (by assumption) hok]; done)
        | (rw [simR_ok (by assumption) hok]; exact sim_eq (by assumption) (by assumption))
        | (rw [simR_ok (by assumption) hok]; exact sim_bad (k := k) (by assumption) (by assumption) hk.2 (by first | exact bad3 (by first | exact join1 (by assumption) | exact join2 (by assumption) (by assumption) (by assumption)) (by assumption) | exact bad0 (by first | exact nojoin0 (by assumption) (by assumption) | exact nojoin1 (by assumption) (by assumption) | exact nojoin2 (by assumption) (by assumption)) (by assumption)))
        | (rw [simR_ok (by assumption) hok]; exact sim_yes hinv (by assumption))
    have e1 : (0 : Int) = ((simR ps).2) := by
      first
        | (rw [simR_err (.inl (by assumption))]; done)
        | (rw [simR_err (.inr (fun h => p1 (decide_eq_true h)))]; done)
        | (rw [simR_ok (by assumption) hok]; done)
        | (rw [simR_ok (by assumption) hok]; exact sim_eq (by assumption) (by assumption))
        | (rw [simR_ok (by assumption) hok]; exact sim_bad (k := k) (by assumption) (by assumption) hk.2 (by first | exact bad3 (by first | exact join1 (by assumption) | exact join2 (by assumption) (by assumption) (by assumption)) (by assumption) | exact bad0 (by first | exact nojoin0 (by assumption) (by assumption) | exact nojoin1 (by assumption) (by assumption) | exact nojoin2 (by assumption) (by assumption)) (by assumption)))
        | (rw [simR_ok (by assumption) hok]; exact sim_yes hinv (by assumption))
    replace hbase := hbase.chg ch14 (not_no _)
    replace hbase := hbase.chg hc17 (not_no _)
    exact ⟨(congr2 (a := false) (b := 0) (fun (z0 : Bool) (z1 : Int) => Ending.returned (Value.tuple (List.toArray [Value.bool z0, Value.int .i64 z1]))) e0 e1), hbase.below⟩
   refine run_cond_f rfl (decide_eq_false p10) ?_
   refine run_exit rfl ?_
   refine run_inBlock ?_
   refine run_region rfl ?_
   refine l_val (v := Value.int .i64 (i : Int)) rfl (e_move (by exact zs5)) ?_
   refine l_val (v := Value.int .i64 ((i : Int) + 1)) rfl (e_add (m := (i : Int)) (n := 1) rfl rfl (by omega)) ?_
   refine l_val (v := Value.int .i64 ((i : Int) + 1)) rfl (e_assign rfl) ?_
   refine l_nil ?_
   refine back5 (i + 1, g13) _ _ ⟨hbase, (by exact zs0), (by exact zs4), rfl, r_ps_v, ?_⟩ ?_
   · show ∀ j : Nat, j < (i + 1) → simI ps j
     intro j hj
     by_cases e0 : j = i
     · subst e0; exact ⟨p7, fun k' _ h1 h2 => hk.1 k' h1 (by omega)⟩
     · exact hinv j (by omega)
   · show List.length ps - (i + 1) < List.length ps - i
     omega
  refine run_cond_f rfl (decide_eq_false p5) ?_
  refine run_exit rfl ?_
  refine run_seq ?_
  refine run_region rfl ?_
  refine l_val (v := Value.bool true) rfl (e_assign rfl) ?_
  refine l_val (v := Value.int .i64 0) rfl (e_assign rfl) ?_
  refine l_nil ?_
  refine run_ret (vs := [Value.bool true, Value.int .i64 0]) Try.func29 (.tmp rfl (.tmp rfl .nil)) ?_
  -- return 7
  have e0 : (true : Bool) = ((simR ps).1) := by
    first
      | (rw [simR_err (.inl (by assumption))]; done)
      | (rw [simR_err (.inr (fun h => p1 (decide_eq_true h)))]; done)
      | (rw [simR_ok (by assumption) hok]; done)
      | (rw [simR_ok (by assumption) hok]; exact sim_eq (by assumption) (by assumption))
      | (rw [simR_ok (by assumption) hok]; exact sim_bad (k := k) (by assumption) (by assumption) hk.2 (by first | exact bad3 (by first | exact join1 (by assumption) | exact join2 (by assumption) (by assumption) (by assumption)) (by assumption) | exact bad0 (by first | exact nojoin0 (by assumption) (by assumption) | exact nojoin1 (by assumption) (by assumption) | exact nojoin2 (by assumption) (by assumption)) (by assumption)))
      | (rw [simR_ok (by assumption) hok]; exact sim_yes hinv (by assumption))
  have e1 : (0 : Int) = ((simR ps).2) := by
    first
      | (rw [simR_err (.inl (by assumption))]; done)
      | (rw [simR_err (.inr (fun h => p1 (decide_eq_true h)))]; done)
      | (rw [simR_ok (by assumption) hok]; done)
      | (rw [simR_ok (by assumption) hok]; exact sim_eq (by assumption) (by assumption))
      | (rw [simR_ok (by assumption) hok]; exact sim_bad (k := k) (by assumption) (by assumption) hk.2 (by first | exact bad3 (by first | exact join1 (by assumption) | exact join2 (by assumption) (by assumption) (by assumption)) (by assumption) | exact bad0 (by first | exact nojoin0 (by assumption) (by assumption) | exact nojoin1 (by assumption) (by assumption) | exact nojoin2 (by assumption) (by assumption)) (by assumption)))
      | (rw [simR_ok (by assumption) hok]; exact sim_yes hinv (by assumption))
  exact ⟨(congr2 (a := true) (b := 0) (fun (z0 : Bool) (z1 : Int) => Ending.returned (Value.tuple (List.toArray [Value.bool z0, Value.int .i64 z1]))) e0 e1), hbase.below⟩
 refine run_cond_t rfl (congrArg Bool.not (Bool.eq_false_iff.2 p1)) ?_
 refine run_seq ?_
 refine run_region rfl ?_
 refine l_val (v := Value.bool false) rfl (e_assign rfl) ?_
 refine l_val (v := Value.int .i64 1) rfl (e_assign rfl) ?_
 refine l_nil ?_
 refine run_ret (vs := [Value.bool false, Value.int .i64 1]) Try.func29 (.tmp rfl (.tmp rfl .nil)) ?_
 -- return 8
 have e0 : (false : Bool) = ((simR ps).1) := by
   first
     | (rw [simR_err (.inl (by assumption))]; done)
     | (rw [simR_err (.inr (fun h => p1 (decide_eq_true h)))]; done)
     | (rw [simR_ok (by assumption) hok]; done)
     | (rw [simR_ok (by assumption) hok]; exact sim_eq (by assumption) (by assumption))
     | (rw [simR_ok (by assumption) hok]; exact sim_bad (k := k) (by assumption) (by assumption) hk.2 (by first | exact bad3 (by first | exact join1 (by assumption) | exact join2 (by assumption) (by assumption) (by assumption)) (by assumption) | exact bad0 (by first | exact nojoin0 (by assumption) (by assumption) | exact nojoin1 (by assumption) (by assumption) | exact nojoin2 (by assumption) (by assumption)) (by assumption)))
     | (rw [simR_ok (by assumption) hok]; exact sim_yes hinv (by assumption))
 have e1 : (1 : Int) = ((simR ps).2) := by
   first
     | (rw [simR_err (.inl (by assumption))]; done)
     | (rw [simR_err (.inr (fun h => p1 (decide_eq_true h)))]; done)
     | (rw [simR_ok (by assumption) hok]; done)
     | (rw [simR_ok (by assumption) hok]; exact sim_eq (by assumption) (by assumption))
     | (rw [simR_ok (by assumption) hok]; exact sim_bad (k := k) (by assumption) (by assumption) hk.2 (by first | exact bad3 (by first | exact join1 (by assumption) | exact join2 (by assumption) (by assumption) (by assumption)) (by assumption) | exact bad0 (by first | exact nojoin0 (by assumption) (by assumption) | exact nojoin1 (by assumption) (by assumption) | exact nojoin2 (by assumption) (by assumption)) (by assumption)))
     | (rw [simR_ok (by assumption) hok]; exact sim_yes hinv (by assumption))
 replace hbase := hbase.chg hb3 (not_no _)
 exact ⟨(congr2 (a := false) (b := 1) (fun (z0 : Bool) (z1 : Int) => Ending.returned (Value.tuple (List.toArray [Value.bool z0, Value.int .i64 z1]))) e0 e1), hbase.below⟩
end TL
