import Derived.Test.YtifpjbjhkabhgaaTlGmA
import Derived.Test.YtifpjbjhkabhgaaTlGmN
import Derived.Test.YtifpjbjhkabhgaaTlAround
import Derived.Test.YtifpjbjhkabhgaaProg
import Derived.Test.YtifpjbjhkabhgaaTlNet2
import Derived.Test.YtifpjbjhkabhgaaTlEq
import Derived.Test.YtifpjbjhkabhgaaTlHold
import Derived.Test.YtifpjbjhkabhgaaTlDraw
import Derived.Test.YtifpjbjhkabhgaaTlMap
set_option linter.all false
set_option maxRecDepth 20000
namespace TL
open Go Go.Proofs
theorem mixed_gi : Try.prog.follows .mixedOrders = true := by kernel_rfl
theorem tp3_gi : Tp Try.prog 3 false 1 8 (.int .i64 0) := Tp.of (by kernel_rfl)
theorem tp23_gi : Tp Try.prog 23 true 2 16 (.agg #[.int .i64 0, .int .i64 0]) := Tp.of (by kernel_rfl)
theorem bd45_gi : Try.f45.body.isNone = false := rfl
theorem nm45_gi : (Try.f45.name == "runtime.NumGoroutine") = false := by decide +kernel
theorem bd48_gi : Try.f48.body.isNone = false := rfl
theorem nm48_gi : (Try.f48.name == "runtime.NumGoroutine") = false := by decide +kernel
theorem bd60_gi : Try.f60.body.isNone = false := rfl
theorem nm60_gi : (Try.f60.name == "runtime.NumGoroutine") = false := by decide +kernel

theorem D2half_ok (w0 : World) (p : (Int) × (Int)) :
    Calls Try.prog 60 #[Value.agg (List.toArray [Value.int .i64 p.1, Value.int .i64 p.2])] w0 (fun ee w => ee = .returned (Value.int .i64 (halfS p)) ∧ Bel w0.heap.size w0 w) := by
 refine calls_of_run Try.func60 rfl (Nat.le_of_ble_eq_true rfl) ?_
 have hbase := Base.start w0
 refine run_seq (run_region rfl (l_op rfl ?_))
 refine o_box c0 (is 1) (1, 0) rfl rfl ?_
 intro g4 w1 b3 ch2 bx5
 replace bx5 : Bx g4 (is 1) w1 b3 [Value.int .i64 p.1, Value.int .i64 p.2] := bx5
 refine l_val (v := Value.int .i64 0) rfl (e_assign rfl) ?_
 refine l_nil (run_seq (run_seq (run_region rfl ?_)))
 refine l_val (v := Value.pointer (some ⟨b3, 0, none⟩)) rfl (e_fieldAddr Try.underlying23 rfl rfl rfl rfl) ?_
 refine l_val (v := Value.int .i64 p.1) rfl (e_load_bx1 tp3_gi rfl bx5 rfl) ?_
 refine l_val (v := Value.bool (decide (0 < p.1))) rfl (e_gtr (m := p.1) (n := 0) rfl rfl) ?_
 refine l_val (v := Value.bool (decide (0 < p.1))) rfl (e_move rfl) ?_
 by_cases q6 : 0 < p.1
 ·
  refine l_skip (want_n rfl rfl rfl (decide_eq_true q6)) ?_
  refine l_skip (want_n rfl rfl rfl (decide_eq_true q6)) ?_
  refine l_skip (want_n rfl rfl rfl (decide_eq_true q6)) ?_
  refine l_skip (want_n rfl rfl rfl (decide_eq_true q6)) ?_
  refine l_skip (want_u rfl rfl rfl) ?_
  refine l_skip (want_u rfl rfl rfl) ?_
  refine l_skip (want_u rfl rfl rfl) ?_
  refine l_skip (want_n rfl rfl rfl (decide_eq_true q6)) ?_
  refine l_val (v := Value.bool true) rfl (e_pick_t rfl (decide_eq_true q6) rfl) ?_
  refine l_nil ?_
  refine run_cond_t rfl rfl ?_
  refine run_seq ?_
  clear bx5
  refine run_region rfl ?_
  refine l_val (v := Value.int .i64 0) rfl (e_assign rfl) ?_
  refine l_nil ?_
  refine run_ret (vs := [Value.int .i64 0]) Try.func60 (.tmp rfl .nil) ?_
  -- return 0
  have e0 : (0 : Int) = (halfS p) := by
    unfold halfS
    first
      | (rw [if_pos (by omega)]; done)
      | (rw [if_neg (by omega)]; done)
  replace hbase := hbase.chg ch2 (not_no _)
  exact ⟨(congrArg (a₁ := 0) (fun (z0 : Int) => Ending.returned (Value.int .i64 z0)) e0), hbase.below⟩
 refine l_val (v := Value.pointer (some ⟨b3, 0, none⟩)) (want_y rfl rfl rfl (decide_eq_false q6)) (e_fieldAddr Try.underlying23 rfl rfl rfl rfl) ?_
 refine l_val (v := Value.int .i64 p.1) (want_y rfl rfl rfl (decide_eq_false q6)) (e_load_bx1 tp3_gi rfl bx5 rfl) ?_
 refine l_val (v := Value.bool (decide (p.1 = 0))) (want_y rfl rfl rfl (decide_eq_false q6)) (e_eql (m := p.1) (n := 0) rfl rfl) ?_
 refine l_val (v := Value.bool (decide (p.1 = 0))) (want_y rfl rfl rfl (decide_eq_false q6)) (e_move rfl) ?_
 by_cases q10 : p.1 = 0
 ·
  refine l_val (v := Value.pointer (some ⟨b3, 1, none⟩)) (want_y rfl rfl rfl (decide_eq_true q10)) (e_fieldAddr Try.underlying23 rfl rfl rfl rfl) ?_
  refine l_val (v := Value.int .i64 p.2) (want_y rfl rfl rfl (decide_eq_true q10)) (e_load_bx1 tp3_gi rfl bx5 rfl) ?_
  refine l_val (v := Value.bool (decide (0 < p.2))) (want_y rfl rfl rfl (decide_eq_true q10)) (e_gtr (m := p.2) (n := 0) rfl rfl) ?_
  refine l_val (v := Value.bool (decide (0 < p.2))) (want_y rfl rfl rfl (decide_eq_false q6)) (e_pick_t rfl (decide_eq_true q10) rfl) ?_
  refine l_val (v := Value.bool (decide (0 < p.2))) rfl (e_pick_f rfl (decide_eq_false q6) rfl) ?_
  refine l_nil ?_
  by_cases p1 : 0 < p.2
  ·
   refine run_cond_t rfl (decide_eq_true p1) ?_
   refine run_seq ?_
   clear bx5
   refine run_region rfl ?_
   refine l_val (v := Value.int .i64 0) rfl (e_assign rfl) ?_
   refine l_nil ?_
   refine run_ret (vs := [Value.int .i64 0]) Try.func60 (.tmp rfl .nil) ?_
   -- return 1
   have e0 : (0 : Int) = (halfS p) := by
     unfold halfS
     first
       | (rw [if_pos (by omega)]; done)
       | (rw [if_neg (by omega)]; done)
   replace hbase := hbase.chg ch2 (not_no _)
   exact ⟨(congrArg (a₁ := 0) (fun (z0 : Int) => Ending.returned (Value.int .i64 z0)) e0), hbase.below⟩
  refine run_cond_f rfl (decide_eq_false p1) ?_
  refine run_skip ?_
  refine run_seq ?_
  clear bx5
  refine run_region rfl ?_
  refine l_val (v := Value.int .i64 1) rfl (e_assign rfl) ?_
  refine l_nil ?_
  refine run_ret (vs := [Value.int .i64 1]) Try.func60 (.tmp rfl .nil) ?_
  -- return 2
  have e0 : (1 : Int) = (halfS p) := by
    unfold halfS
    first
      | (rw [if_pos (by omega)]; done)
      | (rw [if_neg (by omega)]; done)
  replace hbase := hbase.chg ch2 (not_no _)
  exact ⟨(congrArg (a₁ := 1) (fun (z0 : Int) => Ending.returned (Value.int .i64 z0)) e0), hbase.below⟩
 refine l_skip (want_n rfl rfl rfl (decide_eq_false q10)) ?_
 refine l_skip (want_n rfl rfl rfl (decide_eq_false q10)) ?_
 refine l_skip (want_n rfl rfl rfl (decide_eq_false q10)) ?_
 refine l_val (v := Value.bool false) (want_y rfl rfl rfl (decide_eq_false q6)) (e_pick_f rfl (decide_eq_false q10) rfl) ?_
 refine l_val (v := Value.bool false) rfl (e_pick_f rfl (decide_eq_false q6) rfl) ?_
 refine l_nil ?_
 refine run_cond_f rfl rfl ?_
 refine run_skip ?_
 refine run_seq ?_
 clear bx5
 refine run_region rfl ?_
 refine l_val (v := Value.int .i64 1) rfl (e_assign rfl) ?_
 refine l_nil ?_
 refine run_ret (vs := [Value.int .i64 1]) Try.func60 (.tmp rfl .nil) ?_
 -- return 3
 have e0 : (1 : Int) = (halfS p) := by
   unfold halfS
   first
     | (rw [if_pos (by omega)]; done)
     | (rw [if_neg (by omega)]; done)
 replace hbase := hbase.chg ch2 (not_no _)
 exact ⟨(congrArg (a₁ := 1) (fun (z0 : Int) => Ending.returned (Value.int .i64 z0)) e0), hbase.below⟩

theorem D2Before_ok (w0 : World) (a : (Int) × (Int)) (b : (Int) × (Int)) (ha : bdW a) (hb : bdW b) :
    Calls Try.prog 45 #[Value.agg (List.toArray [Value.int .i64 a.1, Value.int .i64 a.2]), Value.agg (List.toArray [Value.int .i64 b.1, Value.int .i64 b.2])] w0 (fun ee w => ee = .returned (Value.int .i64 (befS a b)) ∧ Bel w0.heap.size w0 w) := by
 refine calls_of_run Try.func45 rfl (Nat.le_of_ble_eq_true rfl) ?_
 have hbase := Base.start w0
 unfold bdW at ha hb
 have h1 := mul_bd ha.1 hb.2
 have h2 := mul_bd ha.2 hb.1
 have h3 : halfS a = 0 ∨ halfS a = 1 := by unfold halfS; split <;> simp
 have h4 : halfS b = 0 ∨ halfS b = 1 := by unfold halfS; split <;> simp
 refine run_seq (run_region rfl (l_op rfl ?_))
 refine o_box c0 (is 1) (1, 0) rfl rfl ?_
 intro g4 w1 b3 ch2 bx5
 replace bx5 : Bx g4 (is 1) w1 b3 [Value.int .i64 a.1, Value.int .i64 a.2] := bx5
 refine l_op rfl ?_
 refine o_box g4 (is 2) (2, 0) rfl rfl ?_
 intro g9 w6 b8 ch7 bx10
 replace bx10 : Bx g9 (is 2) w6 b8 [Value.int .i64 b.1, Value.int .i64 b.2] := bx10
 refine l_val (v := Value.int .i64 0) rfl (e_assign rfl) ?_
 refine l_nil (run_seq (run_seq ?_))
 refine region_q g9 rfl mixed_gi (by kernel_rfl) ?_
 intro w12 ch11
 replace bx5 := (bx5.chg ch7 (not_no _)).chg ch11 (not_no _)
 refine q_val (v := Value.agg (List.toArray [Value.int .i64 a.1, Value.int .i64 a.2])) rfl (fun w' hw' => e_load_bxN (ds := [Value.int .i64 a.1, Value.int .i64 a.2]) tp23_gi rfl (bx5.bel hw') rfl rfl) ?_
 refine q_call (v := Value.int .i64 (halfS a)) rfl (fun w' hw' => e_call (vals := [Value.agg (List.toArray [Value.int .i64 a.1, Value.int .i64 a.2])]) Try.func60 bd60_gi nm60_gi rfl) (fun w' hw' => (D2half_ok w' a).mono fun e w2 h2 => ⟨h2.1, hw'.trans (h2.2.mono hw'.size)⟩) ?_
 replace bx10 := bx10.chg ch11 (not_no _)
 refine q_val (v := Value.agg (List.toArray [Value.int .i64 b.1, Value.int .i64 b.2])) rfl (fun w' hw' => e_load_bxN (ds := [Value.int .i64 b.1, Value.int .i64 b.2]) tp23_gi rfl (bx10.bel hw') rfl rfl) ?_
 refine q_call (v := Value.int .i64 (halfS b)) rfl (fun w' hw' => e_call (vals := [Value.agg (List.toArray [Value.int .i64 b.1, Value.int .i64 b.2])]) Try.func60 bd60_gi nm60_gi rfl) (fun w' hw' => (D2half_ok w' b).mono fun e w2 h2 => ⟨h2.1, hw'.trans (h2.2.mono hw'.size)⟩) ?_
 refine q_val (v := Value.bool (!(decide ((halfS a) = (halfS b))))) rfl (fun w' hw' => e_neq (m := halfS a) (n := halfS b) rfl rfl) ?_
 refine q_nil ?_
 intro w13 hc14
 replace hc14 := chg_below hc14 g9
 by_cases p1 : (halfS a) = (halfS b)
 ·
  refine run_cond_f rfl (congrArg Bool.not (decide_eq_true p1)) ?_
  refine run_skip ?_
  refine run_seq (run_region rfl ?_)
  refine l_val (v := Value.pointer (some ⟨b3, 0, none⟩)) rfl (e_fieldAddr Try.underlying23 rfl rfl rfl rfl) ?_
  replace bx5 := bx5.chg hc14 (not_no _)
  refine l_val (v := Value.int .i64 a.1) rfl (e_load_bx1 tp3_gi rfl bx5 rfl) ?_
  refine l_val (v := Value.pointer (some ⟨b8, 1, none⟩)) rfl (e_fieldAddr Try.underlying23 rfl rfl rfl rfl) ?_
  replace bx10 := bx10.chg hc14 (not_no _)
  refine l_val (v := Value.int .i64 b.2) rfl (e_load_bx1 tp3_gi rfl bx10 rfl) ?_
  refine l_val (v := Value.int .i64 (a.1 * b.2)) rfl (e_mul (m := a.1) (n := b.2) rfl rfl (by omega)) ?_
  refine l_val (v := Value.pointer (some ⟨b3, 1, none⟩)) rfl (e_fieldAddr Try.underlying23 rfl rfl rfl rfl) ?_
  refine l_val (v := Value.int .i64 a.2) rfl (e_load_bx1 tp3_gi rfl bx5 rfl) ?_
  refine l_val (v := Value.pointer (some ⟨b8, 0, none⟩)) rfl (e_fieldAddr Try.underlying23 rfl rfl rfl rfl) ?_
  refine l_val (v := Value.int .i64 b.1) rfl (e_load_bx1 tp3_gi rfl bx10 rfl) ?_
  refine l_val (v := Value.int .i64 (a.2 * b.1)) rfl (e_mul (m := a.2) (n := b.1) rfl rfl (by omega)) ?_
  refine l_val (v := Value.int .i64 ((a.1 * b.2) - (a.2 * b.1))) rfl (e_sub (m := a.1 * b.2) (n := a.2 * b.1) rfl rfl (by omega)) ?_
  refine l_op rfl ?_
  refine o_call (v := Value.int .i64 (cmpI ((a.1 * b.2) - (a.2 * b.1)) 0)) (e_call (vals := [Value.int .i64 ((a.1 * b.2) - (a.2 * b.1))]) Try.func48 bd48_gi nm48_gi rfl) (sign_ok w13 ((a.1 * b.2) - (a.2 * b.1))) ?_
  intro w15 hb16
  replace hb16 := chg_below hb16 g9
  refine l_val (v := Value.int .i64 (cmpI ((a.1 * b.2) - (a.2 * b.1)) 0)) rfl (e_assign rfl) ?_
  refine l_nil ?_
  refine run_ret (vs := [Value.int .i64 (cmpI ((a.1 * b.2) - (a.2 * b.1)) 0)]) Try.func45 (.tmp rfl .nil) ?_
  -- return 0
  have e0 : (cmpI ((a.1 * b.2) - (a.2 * b.1)) 0 : Int) = (befS a b) := by
    unfold befS
    first
      | (rw [if_neg (by assumption)]; done)
      | (rw [if_pos (by assumption)]; rfl)
      | (rw [if_pos (Decidable.byContradiction (by assumption))]; rfl)
  have C17 : Chg (inl []) _ _ _ _ := (ch2.n).seq ((ch7.n).seq ((ch11.n).seq ((hc14.n).seq (hb16.n))))
  replace hbase := hbase.chg C17 (is_nl rfl)
  exact ⟨(congrArg (a₁ := cmpI ((a.1 * b.2) - (a.2 * b.1)) 0) (fun (z0 : Int) => Ending.returned (Value.int .i64 z0)) e0), hbase.below⟩
 refine run_cond_t rfl (congrArg Bool.not (decide_eq_false p1)) ?_
 refine run_seq ?_
 refine region_q g9 rfl mixed_gi (by kernel_rfl) ?_
 intro w19 ch18
 replace bx5 := (bx5.chg hc14 (not_no _)).chg ch18 (not_no _)
 refine q_val (v := Value.agg (List.toArray [Value.int .i64 a.1, Value.int .i64 a.2])) rfl (fun w' hw' => e_load_bxN (ds := [Value.int .i64 a.1, Value.int .i64 a.2]) tp23_gi rfl (bx5.bel hw') rfl rfl) ?_
 refine q_call (v := Value.int .i64 (halfS a)) rfl (fun w' hw' => e_call (vals := [Value.agg (List.toArray [Value.int .i64 a.1, Value.int .i64 a.2])]) Try.func60 bd60_gi nm60_gi rfl) (fun w' hw' => (D2half_ok w' a).mono fun e w2 h2 => ⟨h2.1, hw'.trans (h2.2.mono hw'.size)⟩) ?_
 replace bx10 := (bx10.chg hc14 (not_no _)).chg ch18 (not_no _)
 refine q_val (v := Value.agg (List.toArray [Value.int .i64 b.1, Value.int .i64 b.2])) rfl (fun w' hw' => e_load_bxN (ds := [Value.int .i64 b.1, Value.int .i64 b.2]) tp23_gi rfl (bx10.bel hw') rfl rfl) ?_
 refine q_call (v := Value.int .i64 (halfS b)) rfl (fun w' hw' => e_call (vals := [Value.agg (List.toArray [Value.int .i64 b.1, Value.int .i64 b.2])]) Try.func60 bd60_gi nm60_gi rfl) (fun w' hw' => (D2half_ok w' b).mono fun e w2 h2 => ⟨h2.1, hw'.trans (h2.2.mono hw'.size)⟩) ?_
 refine q_val (v := Value.int .i64 ((halfS a) - (halfS b))) rfl (fun w' hw' => e_sub (m := halfS a) (n := halfS b) rfl rfl (by omega)) ?_
 refine q_call (v := Value.int .i64 (cmpI ((halfS a) - (halfS b)) 0)) rfl (fun w' hw' => e_call (vals := [Value.int .i64 ((halfS a) - (halfS b))]) Try.func48 bd48_gi nm48_gi rfl) (fun w' hw' => (sign_ok w' ((halfS a) - (halfS b))).mono fun e w2 h2 => ⟨h2.1, hw'.trans (h2.2.mono hw'.size)⟩) ?_
 refine q_val (v := Value.int .i64 (cmpI ((halfS a) - (halfS b)) 0)) rfl (fun w' hw' => e_assign rfl) ?_
 refine q_nil ?_
 intro w20 hc21
 replace hc21 := chg_below hc21 g9
 refine run_ret (vs := [Value.int .i64 (cmpI ((halfS a) - (halfS b)) 0)]) Try.func45 (.tmp rfl .nil) ?_
 -- return 1
 have e0 : (cmpI ((halfS a) - (halfS b)) 0 : Int) = (befS a b) := by
   unfold befS
   first
     | (rw [if_neg (by assumption)]; done)
     | (rw [if_pos (by assumption)]; rfl)
     | (rw [if_pos (Decidable.byContradiction (by assumption))]; rfl)
 have C22 : Chg (inl []) _ _ _ _ := (ch2.n).seq ((ch7.n).seq ((ch11.n).seq ((hc14.n).seq ((ch18.n).seq (hc21.n)))))
 replace hbase := hbase.chg C22 (is_nl rfl)
 exact ⟨(congrArg (a₁ := cmpI ((halfS a) - (halfS b)) 0) (fun (z0 : Int) => Ending.returned (Value.int .i64 z0)) e0), hbase.below⟩

set_option maxHeartbeats 8000000 in
theorem D2Around_ok (w0 : World) (o : (Int) × (Int)) (ps : List ((Int) × (Int))) (ps_v : Value) (hps_v : Ro w0 ps_v ps) (ho : okP o) (hps : okL ps) (hz : nzA o ps) :
    Calls Try.prog 20 #[Value.agg (List.toArray [Value.int .i64 o.1, Value.int .i64 o.2]), ps_v] w0 (fun ee w => ∃ xx : Cmap × Value, ee = .returned ((fun ⟨δ, rv0⟩ => rv0) xx) ∧ (fun (⟨δ, rv0⟩ : Cmap × Value) (w : World) => Fresh w0 δ w ∧ Ow δ (is 1) (is 1) w rv0 (arL o ps)) xx w) := by
 refine calls_of_run Try.func20 rfl (Nat.le_of_ble_eq_true rfl) ?_
 have hbase := Base.start w0
 have r_ps_v := hps_v.sl
 have hob := ho
 unfold okP at hob
 refine run_seq (run_region rfl (l_op rfl ?_))
 refine o_box c0 (is 1) (1, 0) rfl rfl ?_
 intro g4 w1 b3 ch2 bx5
 replace bx5 : Bx g4 (is 1) w1 b3 [Value.int .i64 o.1, Value.int .i64 o.2] := bx5
 refine l_val (v := Value.slice none 0 0) rfl (e_assign rfl) ?_
 refine l_nil (run_seq (run_region rfl ?_))
 refine l_val (v := Value.slice none 0 0) rfl (e_assign rfl) ?_
 refine l_nil (run_seq (run_seq (run_region rfl ?_)))
 refine l_val (v := Value.int .i64 0) rfl (e_assign rfl) ?_
 refine l_nil ?_
 refine run_block ?_
 refine run_loop (σ := Value × (List Int) × Nat × Cmap) (fun ⟨l1_v, l1, i, gq⟩ f w => Base w0 gq w ∧ f 1 = ps_v ∧ f 2 = Value.pointer (some ⟨b3, 0, none⟩) ∧ f 5 = l1_v ∧ f 6 = Value.int .i64 (i : Int) ∧ Sl gq (is 0) w ps_v ps ∧ Bx gq (is 1) w b3 [Value.int .i64 o.1, Value.int .i64 o.2] ∧ Ow gq (is 4) (is 4) w l1_v l1 ∧ (i : Int) ≤ ((List.length ps : Int) : Int) ∧ (arP o ps i l1)) (fun ⟨l1_v, l1, i, gq⟩ => Int.toNat (((List.length ps : Int) : Int) - (i : Int))) (Value.slice none 0 0, [], 0, g4) ?_ ?_
 replace hbase := hbase.chg ch2 (not_no _)
 replace r_ps_v := r_ps_v.chg ch2 (not_no _)
 · exact ⟨hbase, rfl, rfl, rfl, rfl, r_ps_v, bx5, Ow.nil, by omega, by exact ⟨.nil, fun x => by simp⟩⟩
 clear r_ps_v
 clear bx5
 clear hbase
 rintro ⟨l1_v, l1, i, g8⟩ f6 w7 ⟨hbase, zs1, zs2, zs5, zs6, r_ps_v, bx5, o_l1, hle_i, har⟩ back3
 refine run_seq (run_seq (run_region rfl ?_))
 refine l_val (v := Value.int .i64 (i : Int)) rfl (e_move (by exact zs6)) ?_
 refine l_val (v := ps_v) rfl (e_move (by exact zs1)) ?_
 have len9 := (r_ps_v).small
 refine l_val (v := Value.int .i64 (List.length ps : Int)) rfl (e_len Try.underlying25 rfl r_ps_v) ?_
 refine l_val (v := Value.bool (decide ((i : Int) < (List.length ps : Int)))) rfl (e_lss (m := (i : Int)) (n := (List.length ps : Int)) rfl rfl) ?_
 refine l_nil ?_
 by_cases p3 : (i : Int) < (List.length ps : Int)
 ·
  refine run_cond_t rfl (decide_eq_true p3) ?_
  have hll := arP_len hz (by omega) har
  obtain ⟨⟨va1, va2⟩, va3, va4⟩ := vA_bd (i := (i : Int)) ho hps (by omega) (by omega)
  obtain ⟨va5, va6⟩ := vA_sq (i := (i : Int)) ho hps (by omega) (by omega)
  have va7 := hps.2 _ (gI_mem (xs := ps) (i := (i : Int)) (by omega) (by omega))
  simp only [vA, mns] at va1 va2 va3 va4 va5 va6
  unfold okP at va7
  refine run_skip ?_
  refine run_seq ?_
  refine run_block ?_
  refine run_seq ?_
  refine run_region_x g8 [0, 1, 2, 3, 4, 5, 6, 7, 8, 9, 10, 11, 12, 13, 14, 15, 16] mixed_gi ?_
  intro w11 ch10
  refine x_pure (v := ps_v) 0 rfl (by kernel_rfl) (by kernel_rfl) rfl (fun w => e_move (by exact zs1)) ?_
  refine x_pure (v := Value.int .i64 (i : Int)) 1 rfl (by kernel_rfl) (by kernel_rfl) rfl (fun w => e_move (by exact zs6)) ?_
  replace r_ps_v := r_ps_v.chg ch10 (not_no _)
  refine x_held (v := Value.pointer (some (eAddr ps_v 2 (Int.toNat (i : Int))))) 2 [1, 0, 5, 8, 9, 13, 17, 6, 10, 14, 11, 12, 15] rfl (by kernel_rfl) (by kernel_rfl) rfl (fun w' hw' => e_indexAddr (α := (Int) × (Int)) (xs := ps) (v := ps_v) (i := (i : Int)) Try.underlying25 rfl rfl (r_ps_v.bel hw') rfl (by omega) (by omega)) ?_
  refine x_pure (v := Value.pointer (some ⟨(eAddr ps_v 2 (Int.toNat (i : Int))).block, (eAddr ps_v 2 (Int.toNat (i : Int))).off + 0, none⟩)) 3 rfl (by kernel_rfl) (by kernel_rfl) rfl (fun w => e_fieldAddr_el Try.underlying23 rfl rfl rfl rfl) ?_
  refine x_held (v := Value.int .i64 ((gI ps (i : Int)).1)) 4 [3, 2, 1, 0, 5, 8, 9, 13, 17, 6, 10, 14, 11, 12, 15] rfl (by kernel_rfl) (by kernel_rfl) rfl (fun w' hw' => e_load_elF (α := (Int) × (Int)) (xs := ps) (v := ps_v) (i := (i : Int)) tp3_gi rfl (r_ps_v.bel hw') (by omega) (by omega) (by decide) rfl) ?_
  refine x_pure (v := Value.pointer (some ⟨b3, 0, none⟩)) 5 rfl (by kernel_rfl) (by kernel_rfl) rfl (fun w => e_fieldAddr Try.underlying23 rfl rfl (by exact zs2) rfl) ?_
  replace bx5 := bx5.chg ch10 (not_no _)
  refine x_held (v := Value.int .i64 o.1) 6 [5, 4, 3, 2, 1, 0, 8, 9, 13, 17, 10, 14, 11, 12, 15] rfl (by kernel_rfl) (by kernel_rfl) rfl (fun w' hw' => e_load_bx1 tp3_gi rfl (bx5.bel hw') rfl) ?_
  refine x_pure (v := Value.int .i64 (((gI ps (i : Int)).1) - o.1)) 7 rfl (by kernel_rfl) (by kernel_rfl) rfl (fun w => e_sub (m := (gI ps (i : Int)).1) (n := o.1) rfl rfl (by omega)) ?_
  refine x_pure (v := ps_v) 8 rfl (by kernel_rfl) (by kernel_rfl) rfl (fun w => e_move (by exact zs1)) ?_
  refine x_pure (v := Value.int .i64 (i : Int)) 9 rfl (by kernel_rfl) (by kernel_rfl) rfl (fun w => e_move (by exact zs6)) ?_
  refine x_held (v := Value.pointer (some (eAddr ps_v 2 (Int.toNat (i : Int))))) 10 [9, 8, 7, 6, 5, 4, 3, 2, 1, 0, 13, 17, 14] rfl (by kernel_rfl) (by kernel_rfl) rfl (fun w' hw' => e_indexAddr (α := (Int) × (Int)) (xs := ps) (v := ps_v) (i := (i : Int)) Try.underlying25 rfl rfl (r_ps_v.bel hw') rfl (by omega) (by omega)) ?_
  refine x_pure (v := Value.pointer (some ⟨(eAddr ps_v 2 (Int.toNat (i : Int))).block, (eAddr ps_v 2 (Int.toNat (i : Int))).off + 1, none⟩)) 11 rfl (by kernel_rfl) (by kernel_rfl) rfl (fun w => e_fieldAddr_el Try.underlying23 rfl rfl rfl rfl) ?_
  refine x_held (v := Value.int .i64 ((gI ps (i : Int)).2)) 12 [11, 10, 9, 8, 7, 6, 5, 4, 3, 2, 1, 0, 13, 17, 14] rfl (by kernel_rfl) (by kernel_rfl) rfl (fun w' hw' => e_load_elF (α := (Int) × (Int)) (xs := ps) (v := ps_v) (i := (i : Int)) tp3_gi rfl (r_ps_v.bel hw') (by omega) (by omega) (by decide) rfl) ?_
  refine x_pure (v := Value.pointer (some ⟨b3, 1, none⟩)) 13 rfl (by kernel_rfl) (by kernel_rfl) rfl (fun w => e_fieldAddr Try.underlying23 rfl rfl (by exact zs2) rfl) ?_
  refine x_held (v := Value.int .i64 o.2) 14 [13, 12, 11, 10, 9, 8, 7, 6, 5, 4, 3, 2, 1, 0, 17] rfl (by kernel_rfl) (by kernel_rfl) rfl (fun w' hw' => e_load_bx1 tp3_gi rfl (bx5.bel hw') rfl) ?_
  refine x_pure (v := Value.int .i64 (((gI ps (i : Int)).2) - o.2)) 15 rfl (by kernel_rfl) (by kernel_rfl) rfl (fun w => e_sub (m := (gI ps (i : Int)).2) (n := o.2) rfl rfl (by omega)) ?_
  refine x_pure (v := Value.agg (List.toArray [Value.int .i64 (((gI ps (i : Int)).1) - o.1), Value.int .i64 (((gI ps (i : Int)).2) - o.2)])) 16 rfl (by kernel_rfl) (by kernel_rfl) rfl (fun w => e_build (vs := [(0, Value.int .i64 (((gI ps (i : Int)).1) - o.1)), (1, Value.int .i64 (((gI ps (i : Int)).2) - o.2))]) rfl (by kernel_rfl)) ?_
  refine x_one 17 rfl (by kernel_rfl) rfl ?_
  refine o_alloc g8 (is 2) (2, 0) rfl tp23_gi ?_
  intro g15 w12 b14 ch13 bx16
  replace bx16 : Bx g15 (is 2) w12 b14 [Value.int .i64 0, Value.int .i64 0] := bx16
  refine x_one 18 rfl (by kernel_rfl) rfl ?_
  refine o_store_bx (cs' := [Value.int .i64 (((gI ps (i : Int)).1) - o.1), Value.int .i64 (((gI ps (i : Int)).2) - o.2)]) tp23_gi rfl rfl bx16 rfl (Nat.le_of_ble_eq_true rfl) (AllOne.all (.cons rfl (.cons rfl .nil))) rfl ?_
  intro w17 ch18 bx19
  clear bx16
  refine x_nil (by kernel_rfl) ?_
  refine run_seq (run_region rfl ?_)
  refine l_val (v := l1_v) rfl (e_move (by exact zs5)) ?_
  have C20 : Chg (inl [2]) _ _ _ _ := (ch10.n).seq ((ch13.n).seq (ch18.l rfl))
  replace o_l1 := o_l1.chg C20 (is_nl rfl) (is_nl rfl)
  have len21 := (o_l1.flat).small
  refine l_val (v := Value.int .i64 (List.length l1 : Int)) rfl (e_len Try.underlying34 rfl o_l1.flat) ?_
  refine l_val (v := Value.int .i64 (List.length l1 : Int)) rfl (e_assign rfl) ?_
  refine l_nil (run_seq ?_)
  refine run_block ?_
  refine run_loop (σ := Int × Cmap) (fun ⟨m, gq⟩ f w => Base w0 gq w ∧ f 1 = ps_v ∧ f 2 = Value.pointer (some ⟨b3, 0, none⟩) ∧ f 5 = l1_v ∧ f 6 = Value.int .i64 (i : Int) ∧ f 7 = Value.pointer (some ⟨b14, 0, none⟩) ∧ f 8 = Value.int .i64 m ∧ Sl gq (is 0) w ps_v ps ∧ Bx gq (is 1) w b3 [Value.int .i64 o.1, Value.int .i64 o.2] ∧ Ow gq (is 4) (is 4) w l1_v l1 ∧ Bx gq (is 2) w b14 [Value.int .i64 (((gI ps (i : Int)).1) - o.1), Value.int .i64 (((gI ps (i : Int)).2) - o.2)] ∧ ((0 ≤ m ∧ m ≤ l1.length) ∧ ∀ j : Nat, m ≤ (j : Int) → j < l1.length → ltA o ps (i : Int) (gI l1 (j : Int)))) (fun ⟨m, gq⟩ => Int.toNat m) ((List.length l1 : Int), g15) ?_ ?_
  replace hbase := hbase.chg C20 (is_nl rfl)
  replace r_ps_v := (r_ps_v.chg ch13 (not_no _)).chg ch18 (is_ne rfl)
  replace bx5 := (bx5.chg ch13 (not_no _)).chg ch18 (is_ne rfl)
  · exact ⟨hbase, (by exact zs1), (by exact zs2), (by exact zs5), (by exact zs6), rfl, rfl, r_ps_v, bx5, o_l1, bx19, by exact ⟨by omega, fun j hj hl => by omega⟩⟩
  clear r_ps_v
  clear bx5
  clear o_l1
  clear bx19
  clear hbase
  rintro ⟨m, g24⟩ f22 w23 ⟨hbase, zs1, zs2, zs5, zs6, zs7, zs8, r_ps_v, bx5, o_l1, bx19, hro⟩ back7
  obtain ⟨⟨hm0, hm1⟩, hm2⟩ := hro
  refine run_seq (run_seq (run_region rfl ?_))
  refine l_val (v := Value.int .i64 m) rfl (e_move (by exact zs8)) ?_
  refine l_val (v := Value.bool (decide (0 < m))) rfl (e_gtr (m := m) (n := 0) rfl rfl) ?_
  refine l_nil ?_
  by_cases p7 : 0 < m
  ·
   refine run_cond_t rfl (decide_eq_true p7) ?_
   have hg := (har.2 _).1 (gI_mem (xs := l1) (i := m - 1) (by omega) (by omega))
   obtain ⟨⟨vb1, vb2⟩, vb3, vb4⟩ := vA_bd (i := gI l1 (m - 1)) ho hps (by omega) (by omega)
   obtain ⟨vb5, vb6⟩ := vA_sq (i := gI l1 (m - 1)) ho hps (by omega) (by omega)
   have vb7 := hps.2 _ (gI_mem (xs := ps) (i := gI l1 (m - 1)) (by omega) (by omega))
   simp only [vA, mns] at vb1 vb2 vb3 vb4 vb5 vb6
   unfold okP at vb7
   refine run_skip ?_
   refine run_block ?_
   refine run_seq ?_
   refine run_region_x g24 [0, 1, 2, 3, 4, 5, 6, 7, 8, 9, 10, 11, 12, 13, 14, 15, 16, 17, 18, 19, 20, 21, 22, 23, 24] mixed_gi ?_
   intro w26 ch25
   refine x_pure (v := ps_v) 0 rfl (by kernel_rfl) (by kernel_rfl) rfl (fun w => e_move (by exact zs1)) ?_
   refine x_pure (v := l1_v) 1 rfl (by kernel_rfl) (by kernel_rfl) rfl (fun w => e_move (by exact zs5)) ?_
   refine x_pure (v := Value.int .i64 m) 2 rfl (by kernel_rfl) (by kernel_rfl) rfl (fun w => e_move (by exact zs8)) ?_
   refine x_pure (v := Value.int .i64 (m - 1)) 3 rfl (by kernel_rfl) (by kernel_rfl) rfl (fun w => e_sub (m := m) (n := 1) rfl rfl (by omega)) ?_
   replace o_l1 := o_l1.chg ch25 (not_no _) (not_no _)
   refine x_held (v := Value.pointer (some (eAddr l1_v 1 (Int.toNat (m - 1))))) 4 [3, 2, 1, 0, 9, 12, 13, 14, 21, 25, 10, 15, 22, 16, 17, 18, 19, 20, 23] rfl (by kernel_rfl) (by kernel_rfl) rfl (fun w' hw' => e_indexAddr (α := Int) (xs := l1) (v := l1_v) (i := m - 1) Try.underlying34 rfl rfl (o_l1.flat.bel hw') rfl (by omega) (by omega)) ?_
   refine x_held (v := Value.int .i64 (gI l1 (m - 1))) 5 [4, 3, 2, 1, 0, 9, 12, 13, 14, 21, 25, 10, 15, 22, 16, 17, 18, 19, 20, 23] rfl (by kernel_rfl) (by kernel_rfl) rfl (fun w' hw' => e_load_el1 (α := Int) (xs := l1) (v := l1_v) (i := m - 1) tp3_gi rfl (o_l1.flat.bel hw') (by omega) (by omega) (by decide) rfl) ?_
   replace r_ps_v := r_ps_v.chg ch25 (not_no _)
   refine x_held (v := Value.pointer (some (eAddr ps_v 2 (Int.toNat (gI l1 (m - 1)))))) 6 [5, 4, 3, 2, 1, 0, 9, 12, 13, 14, 21, 25, 10, 15, 22, 16, 17, 18, 19, 20, 23] rfl (by kernel_rfl) (by kernel_rfl) rfl (fun w' hw' => e_indexAddr (α := (Int) × (Int)) (xs := ps) (v := ps_v) (i := (gI l1 (m - 1))) Try.underlying25 rfl rfl (r_ps_v.bel hw') rfl (by omega) (by omega)) ?_
   refine x_pure (v := Value.pointer (some ⟨(eAddr ps_v 2 (Int.toNat (gI l1 (m - 1)))).block, (eAddr ps_v 2 (Int.toNat (gI l1 (m - 1)))).off + 0, none⟩)) 7 rfl (by kernel_rfl) (by kernel_rfl) rfl (fun w => e_fieldAddr_el Try.underlying23 rfl rfl rfl rfl) ?_
   refine x_held (v := Value.int .i64 ((gI ps (gI l1 (m - 1))).1)) 8 [7, 6, 5, 4, 3, 2, 1, 0, 9, 12, 13, 14, 21, 25, 10, 15, 22, 16, 17, 18, 19, 20, 23] rfl (by kernel_rfl) (by kernel_rfl) rfl (fun w' hw' => e_load_elF (α := (Int) × (Int)) (xs := ps) (v := ps_v) (i := (gI l1 (m - 1))) tp3_gi rfl (r_ps_v.bel hw') (by omega) (by omega) (by decide) rfl) ?_
   refine x_pure (v := Value.pointer (some ⟨b3, 0, none⟩)) 9 rfl (by kernel_rfl) (by kernel_rfl) rfl (fun w => e_fieldAddr Try.underlying23 rfl rfl (by exact zs2) rfl) ?_
   replace bx5 := bx5.chg ch25 (not_no _)
   refine x_held (v := Value.int .i64 o.1) 10 [9, 8, 7, 6, 5, 4, 3, 2, 1, 0, 12, 13, 14, 21, 25, 15, 22, 16, 17, 18, 19, 20, 23] rfl (by kernel_rfl) (by kernel_rfl) rfl (fun w' hw' => e_load_bx1 tp3_gi rfl (bx5.bel hw') rfl) ?_
   refine x_pure (v := Value.int .i64 (((gI ps (gI l1 (m - 1))).1) - o.1)) 11 rfl (by kernel_rfl) (by kernel_rfl) rfl (fun w => e_sub (m := (gI ps (gI l1 (m - 1))).1) (n := o.1) rfl rfl (by omega)) ?_
   refine x_pure (v := ps_v) 12 rfl (by kernel_rfl) (by kernel_rfl) rfl (fun w => e_move (by exact zs1)) ?_
   refine x_pure (v := l1_v) 13 rfl (by kernel_rfl) (by kernel_rfl) rfl (fun w => e_move (by exact zs5)) ?_
   refine x_pure (v := Value.int .i64 m) 14 rfl (by kernel_rfl) (by kernel_rfl) rfl (fun w => e_move (by exact zs8)) ?_
   refine x_pure (v := Value.int .i64 (m - 1)) 15 rfl (by kernel_rfl) (by kernel_rfl) rfl (fun w => e_sub (m := m) (n := 1) rfl rfl (by omega)) ?_
   refine x_held (v := Value.pointer (some (eAddr l1_v 1 (Int.toNat (m - 1))))) 16 [15, 14, 13, 12, 11, 10, 9, 8, 7, 6, 5, 4, 3, 2, 1, 0, 21, 25, 22] rfl (by kernel_rfl) (by kernel_rfl) rfl (fun w' hw' => e_indexAddr (α := Int) (xs := l1) (v := l1_v) (i := m - 1) Try.underlying34 rfl rfl (o_l1.flat.bel hw') rfl (by omega) (by omega)) ?_
   refine x_held (v := Value.int .i64 (gI l1 (m - 1))) 17 [16, 15, 14, 13, 12, 11, 10, 9, 8, 7, 6, 5, 4, 3, 2, 1, 0, 21, 25, 22] rfl (by kernel_rfl) (by kernel_rfl) rfl (fun w' hw' => e_load_el1 (α := Int) (xs := l1) (v := l1_v) (i := m - 1) tp3_gi rfl (o_l1.flat.bel hw') (by omega) (by omega) (by decide) rfl) ?_
   refine x_held (v := Value.pointer (some (eAddr ps_v 2 (Int.toNat (gI l1 (m - 1)))))) 18 [17, 16, 15, 14, 13, 12, 11, 10, 9, 8, 7, 6, 5, 4, 3, 2, 1, 0, 21, 25, 22] rfl (by kernel_rfl) (by kernel_rfl) rfl (fun w' hw' => e_indexAddr (α := (Int) × (Int)) (xs := ps) (v := ps_v) (i := (gI l1 (m - 1))) Try.underlying25 rfl rfl (r_ps_v.bel hw') rfl (by omega) (by omega)) ?_
   refine x_pure (v := Value.pointer (some ⟨(eAddr ps_v 2 (Int.toNat (gI l1 (m - 1)))).block, (eAddr ps_v 2 (Int.toNat (gI l1 (m - 1)))).off + 1, none⟩)) 19 rfl (by kernel_rfl) (by kernel_rfl) rfl (fun w => e_fieldAddr_el Try.underlying23 rfl rfl rfl rfl) ?_
   refine x_held (v := Value.int .i64 ((gI ps (gI l1 (m - 1))).2)) 20 [19, 18, 17, 16, 15, 14, 13, 12, 11, 10, 9, 8, 7, 6, 5, 4, 3, 2, 1, 0, 21, 25, 22] rfl (by kernel_rfl) (by kernel_rfl) rfl (fun w' hw' => e_load_elF (α := (Int) × (Int)) (xs := ps) (v := ps_v) (i := (gI l1 (m - 1))) tp3_gi rfl (r_ps_v.bel hw') (by omega) (by omega) (by decide) rfl) ?_
   refine x_pure (v := Value.pointer (some ⟨b3, 1, none⟩)) 21 rfl (by kernel_rfl) (by kernel_rfl) rfl (fun w => e_fieldAddr Try.underlying23 rfl rfl (by exact zs2) rfl) ?_
   refine x_held (v := Value.int .i64 o.2) 22 [21, 20, 19, 18, 17, 16, 15, 14, 13, 12, 11, 10, 9, 8, 7, 6, 5, 4, 3, 2, 1, 0, 25] rfl (by kernel_rfl) (by kernel_rfl) rfl (fun w' hw' => e_load_bx1 tp3_gi rfl (bx5.bel hw') rfl) ?_
   refine x_pure (v := Value.int .i64 (((gI ps (gI l1 (m - 1))).2) - o.2)) 23 rfl (by kernel_rfl) (by kernel_rfl) rfl (fun w => e_sub (m := (gI ps (gI l1 (m - 1))).2) (n := o.2) rfl rfl (by omega)) ?_
   refine x_pure (v := Value.agg (List.toArray [Value.int .i64 (((gI ps (gI l1 (m - 1))).1) - o.1), Value.int .i64 (((gI ps (gI l1 (m - 1))).2) - o.2)])) 24 rfl (by kernel_rfl) (by kernel_rfl) rfl (fun w => e_build (vs := [(0, Value.int .i64 (((gI ps (gI l1 (m - 1))).1) - o.1)), (1, Value.int .i64 (((gI ps (gI l1 (m - 1))).2) - o.2))]) rfl (by kernel_rfl)) ?_
   refine x_one 25 rfl (by kernel_rfl) rfl ?_
   refine o_alloc g24 (is 5) (5, 0) rfl tp23_gi ?_
   intro g30 w27 b29 ch28 bx31
   replace bx31 : Bx g30 (is 5) w27 b29 [Value.int .i64 0, Value.int .i64 0] := bx31
   refine x_one 26 rfl (by kernel_rfl) rfl ?_
   refine o_store_bx (cs' := [Value.int .i64 (((gI ps (gI l1 (m - 1))).1) - o.1), Value.int .i64 (((gI ps (gI l1 (m - 1))).2) - o.2)]) tp23_gi rfl rfl bx31 rfl (Nat.le_of_ble_eq_true rfl) (AllOne.all (.cons rfl (.cons rfl .nil))) rfl ?_
   intro w32 ch33 bx34
   clear bx31
   refine x_nil (by kernel_rfl) ?_
   refine run_seq (run_region rfl ?_)
   have C35 : Chg (inl [5]) _ _ _ _ := (ch25.n).seq ((ch28.n).seq (ch33.l rfl))
   replace bx19 := bx19.chg C35 (is_nl rfl)
   refine l_val (v := Value.agg (List.toArray [Value.int .i64 (((gI ps (i : Int)).1) - o.1), Value.int .i64 (((gI ps (i : Int)).2) - o.2)])) rfl (e_load_bxN (ds := [Value.int .i64 (((gI ps (i : Int)).1) - o.1), Value.int .i64 (((gI ps (i : Int)).2) - o.2)]) tp23_gi (by exact zs7) bx19 rfl rfl) ?_
   refine l_val (v := Value.agg (List.toArray [Value.int .i64 (((gI ps (gI l1 (m - 1))).1) - o.1), Value.int .i64 (((gI ps (gI l1 (m - 1))).2) - o.2)])) rfl (e_load_bxN (ds := [Value.int .i64 (((gI ps (gI l1 (m - 1))).1) - o.1), Value.int .i64 (((gI ps (gI l1 (m - 1))).2) - o.2)]) tp23_gi rfl bx34 rfl rfl) ?_
   refine l_op rfl ?_
   refine o_call (v := Value.int .i64 (befS (((gI ps (i : Int)).1) - o.1, ((gI ps (i : Int)).2) - o.2) (((gI ps (gI l1 (m - 1))).1) - o.1, ((gI ps (gI l1 (m - 1))).2) - o.2))) (e_call (vals := [Value.agg (List.toArray [Value.int .i64 (((gI ps (i : Int)).1) - o.1), Value.int .i64 (((gI ps (i : Int)).2) - o.2)]), Value.agg (List.toArray [Value.int .i64 (((gI ps (gI l1 (m - 1))).1) - o.1), Value.int .i64 (((gI ps (gI l1 (m - 1))).2) - o.2)])]) Try.func45 bd45_gi nm45_gi rfl) (D2Before_ok w32 (((gI ps (i : Int)).1) - o.1, ((gI ps (i : Int)).2) - o.2) (((gI ps (gI l1 (m - 1))).1) - o.1, ((gI ps (gI l1 (m - 1))).2) - o.2) (by (unfold bdW; simp only; omega)) (by (unfold bdW; simp only; omega))) ?_
   intro w36 hb37
   replace hb37 := chg_below hb37 g30
   refine l_val (v := Value.int .i64 (befS (((gI ps (i : Int)).1) - o.1, ((gI ps (i : Int)).2) - o.2) (((gI ps (gI l1 (m - 1))).1) - o.1, ((gI ps (gI l1 (m - 1))).2) - o.2))) rfl (e_assign rfl) ?_
   refine l_nil (run_seq (run_seq (run_region rfl ?_)))
   refine l_val (v := Value.int .i64 (befS (((gI ps (i : Int)).1) - o.1, ((gI ps (i : Int)).2) - o.2) (((gI ps (gI l1 (m - 1))).1) - o.1, ((gI ps (gI l1 (m - 1))).2) - o.2))) rfl (e_move rfl) ?_
   refine l_val (v := Value.bool (decide (0 < (befS (((gI ps (i : Int)).1) - o.1, ((gI ps (i : Int)).2) - o.2) (((gI ps (gI l1 (m - 1))).1) - o.1, ((gI ps (gI l1 (m - 1))).2) - o.2))))) rfl (e_gtr (m := befS (((gI ps (i : Int)).1) - o.1, ((gI ps (i : Int)).2) - o.2) (((gI ps (gI l1 (m - 1))).1) - o.1, ((gI ps (gI l1 (m - 1))).2) - o.2)) (n := 0) rfl rfl) ?_
   refine l_val (v := Value.bool (decide (0 < (befS (((gI ps (i : Int)).1) - o.1, ((gI ps (i : Int)).2) - o.2) (((gI ps (gI l1 (m - 1))).1) - o.1, ((gI ps (gI l1 (m - 1))).2) - o.2))))) rfl (e_move rfl) ?_
   by_cases q69 : 0 < (befS (((gI ps (i : Int)).1) - o.1, ((gI ps (i : Int)).2) - o.2) (((gI ps (gI l1 (m - 1))).1) - o.1, ((gI ps (gI l1 (m - 1))).2) - o.2))
   ·
    refine l_skip (want_n rfl rfl rfl (decide_eq_true q69)) ?_
    refine l_skip (want_n rfl rfl rfl (decide_eq_true q69)) ?_
    refine l_skip (want_n rfl rfl rfl (decide_eq_true q69)) ?_
    refine l_skip (want_u rfl rfl rfl) ?_
    refine l_skip (want_u rfl rfl rfl) ?_
    refine l_skip (want_u rfl rfl rfl) ?_
    refine l_skip (want_u rfl rfl rfl) ?_
    refine l_skip (want_u rfl rfl rfl) ?_
    refine l_skip (want_u rfl rfl rfl) ?_
    refine l_skip (want_u rfl rfl rfl) ?_
    refine l_skip (want_u rfl rfl rfl) ?_
    refine l_skip (want_u rfl rfl rfl) ?_
    refine l_skip (want_u rfl rfl rfl) ?_
    refine l_skip (want_u rfl rfl rfl) ?_
    refine l_skip (want_u rfl rfl rfl) ?_
    refine l_skip (want_u rfl rfl rfl) ?_
    refine l_skip (want_u rfl rfl rfl) ?_
    refine l_skip (want_u rfl rfl rfl) ?_
    refine l_skip (want_u rfl rfl rfl) ?_
    refine l_skip (want_u rfl rfl rfl) ?_
    refine l_skip (want_u rfl rfl rfl) ?_
    refine l_skip (want_u rfl rfl rfl) ?_
    refine l_skip (want_u rfl rfl rfl) ?_
    refine l_skip (want_u rfl rfl rfl) ?_
    refine l_skip (want_u rfl rfl rfl) ?_
    refine l_skip (want_u rfl rfl rfl) ?_
    refine l_skip (want_n rfl rfl rfl (decide_eq_true q69)) ?_
    refine l_val (v := Value.bool true) rfl (e_pick_t rfl (decide_eq_true q69) rfl) ?_
    refine l_nil ?_
    refine run_cond_t rfl rfl ?_
    refine run_exit rfl ?_
    refine run_seq ?_
    clear bx19
    clear bx34
    refine run_region rfl ?_
    refine l_val (v := l1_v) rfl (e_move (by exact zs5)) ?_
    refine l_op rfl ?_
    refine o_buildSlice (α := Int) g30 (is 3) (is 3) (3, 0) rfl ([0] : List Int) Try.underlying34 tp3_gi (by decide) (by decide) (vs := [(0, Value.int .i64 0)]) rfl rfl (.cons rfl .nil) ?_
    intro g38 w39 v40 ch41 o42
    refine l_op rfl ?_
    have C43 : Chg (inl [5]) _ _ _ _ := (ch28.n).seq ((ch33.l rfl).seq ((hb37.n).seq (ch41.n)))
    replace o_l1 := o_l1.chg C43 (is_nl rfl) (is_nl rfl)
    refine o_append (α := Int) (xs := l1) (ys := ([0] : List Int)) g38 (J := is 4) (S := is 4) (4, 0) rfl Try.underlying34 tp3_gi (by decide) rfl rfl rfl o_l1 o42.flat (by decide) (by first | omega | (simp; done) | (simp; omega)) ?_
    intro g44 w45 v46 ch47 o48
    clear o_l1
    refine l_val (v := v46) rfl (e_assign rfl) ?_
    refine l_nil (run_seq (run_seq ?_))
    clear o42
    refine run_region rfl ?_
    refine l_val (v := v46) rfl (e_move rfl) ?_
    have len49 := (o48.flat).small
    refine l_val (v := Value.int .i64 (List.length (l1 ++ ([0] : List Int)) : Int)) rfl (e_len Try.underlying34 rfl o48.flat) ?_
    refine l_val (v := Value.int .i64 ((List.length (l1 ++ ([0] : List Int)) : Int) - 1)) rfl (e_sub (m := (List.length (l1 ++ ([0] : List Int)) : Int)) (n := 1) rfl rfl (by omega)) ?_
    refine l_val (v := Value.int .i64 ((List.length (l1 ++ ([0] : List Int)) : Int) - 1)) rfl (e_assign rfl) ?_
    refine l_nil ?_
    refine run_block ?_
    refine run_loop (σ := Int × (List Int) × Cmap) (fun ⟨k, X, gq⟩ f w => Base w0 gq w ∧ f 1 = ps_v ∧ f 2 = Value.pointer (some ⟨b3, 0, none⟩) ∧ f 5 = v46 ∧ f 6 = Value.int .i64 (i : Int) ∧ f 8 = Value.int .i64 m ∧ f 11 = Value.int .i64 k ∧ Sl gq (is 0) w ps_v ps ∧ Bx gq (is 1) w b3 [Value.int .i64 o.1, Value.int .i64 o.2] ∧ Ow gq (is 4) (is 4) w v46 X ∧ (shP l1 m k X)) (fun ⟨k, X, gq⟩ => Int.toNat k) ((List.length (l1 ++ ([0] : List Int)) : Int) - 1, (l1 ++ ([0] : List Int)), g44) ?_ ?_
    have C50 : Chg (inl [4, 5]) _ _ _ _ := (ch25.n).seq ((ch28.n).seq ((ch33.l rfl).seq ((hb37.n).seq ((ch41.n).seq (ch47.l rfl)))))
    replace hbase := hbase.chg C50 (is_nl rfl)
    have C51 : Chg (inl [4, 5]) _ _ _ _ := (ch28.n).seq ((ch33.l rfl).seq ((hb37.n).seq ((ch41.n).seq (ch47.l rfl))))
    replace r_ps_v := r_ps_v.chg C51 (is_nl rfl)
    replace bx5 := bx5.chg C51 (is_nl rfl)
    · exact ⟨hbase, (by exact zs1), (by exact zs2), rfl, (by exact zs6), (by exact zs8), rfl, r_ps_v, bx5, o48, by exact shift_init (by omega) (by simp)⟩
    clear r_ps_v
    clear bx5
    clear o48
    clear hbase
    rintro ⟨k, X, g54⟩ f52 w53 ⟨hbase, zs1, zs2, zs5, zs6, zs8, zs11, r_ps_v, bx5, o48, hsh⟩ back14
    obtain ⟨⟨hk0, hk1⟩, hXl, hk2, hk3⟩ := hsh
    refine run_seq (run_seq (run_region rfl ?_))
    refine l_val (v := Value.int .i64 k) rfl (e_move (by exact zs11)) ?_
    refine l_val (v := Value.int .i64 m) rfl (e_move (by exact zs8)) ?_
    refine l_val (v := Value.bool (decide (m < k))) rfl (e_gtr (m := k) (n := m) rfl rfl) ?_
    refine l_nil ?_
    by_cases p14 : m < k
    ·
     refine run_cond_t rfl (decide_eq_true p14) ?_
     refine run_skip ?_
     refine run_seq ?_
     refine run_block ?_
     refine run_region rfl ?_
     refine l_val (v := v46) rfl (e_move (by exact zs5)) ?_
     refine l_val (v := Value.int .i64 k) rfl (e_move (by exact zs11)) ?_
     refine l_val (v := v46) rfl (e_move (by exact zs5)) ?_
     refine l_val (v := Value.int .i64 k) rfl (e_move (by exact zs11)) ?_
     refine l_val (v := Value.int .i64 (k - 1)) rfl (e_sub (m := k) (n := 1) rfl rfl (by omega)) ?_
     refine l_val (v := Value.pointer (some (eAddr v46 1 (Int.toNat (k - 1))))) rfl (e_indexAddr (α := Int) (xs := X) (v := v46) (i := k - 1) Try.underlying34 rfl rfl o48.flat rfl (by omega) (by omega)) ?_
     refine l_val (v := Value.int .i64 (gI X (k - 1))) rfl (e_load_el1 (α := Int) (xs := X) (v := v46) (i := k - 1) tp3_gi rfl o48.flat (by omega) (by omega) (by decide) rfl) ?_
     refine l_val (v := Value.pointer (some (eAddr v46 1 (Int.toNat k)))) rfl (e_indexAddr (α := Int) (xs := X) (v := v46) (i := k) Try.underlying34 rfl rfl o48.flat rfl (by omega) (by omega)) ?_
     refine l_op rfl ?_
     refine o_store_el (i := k) (gI X (k - 1)) tp3_gi rfl rfl o48 (by omega) (by omega) rfl ?_
     intro w55 ch56 bx57
     clear o48
     refine l_nil ?_
     refine run_inBlock ?_
     refine run_region rfl ?_
     refine l_val (v := Value.int .i64 k) rfl (e_move (by exact zs11)) ?_
     refine l_val (v := Value.int .i64 (k - 1)) rfl (e_sub (m := k) (n := 1) rfl rfl (by omega)) ?_
     refine l_val (v := Value.int .i64 (k - 1)) rfl (e_assign rfl) ?_
     refine l_nil ?_
     replace hbase := hbase.chg ch56 (is_ne rfl)
     replace r_ps_v := r_ps_v.chg ch56 (is_ne rfl)
     replace bx5 := bx5.chg ch56 (is_ne rfl)
     refine back14 (k - 1, (List.set X (Int.toNat k) (gI X (k - 1))), g54) _ _ ⟨hbase, (by exact zs1), (by exact zs2), (by exact zs5), (by exact zs6), (by exact zs8), rfl, r_ps_v, bx5, bx57, ?_⟩ ?_
     · show shP l1 m (k - 1) (List.set X (Int.toNat k) (gI X (k - 1)))
       exact shift_step (by omega) ⟨⟨hk0, hk1⟩, hXl, hk2, hk3⟩ (by omega)
     · show Int.toNat (k - 1) < Int.toNat k
       omega
    refine run_cond_f rfl (decide_eq_false p14) ?_
    refine run_exit rfl ?_
    refine run_region rfl ?_
    refine l_val (v := v46) rfl (e_move (by exact zs5)) ?_
    refine l_val (v := Value.int .i64 m) rfl (e_move (by exact zs8)) ?_
    refine l_val (v := Value.int .i64 (i : Int)) rfl (e_move (by exact zs6)) ?_
    refine l_val (v := Value.pointer (some (eAddr v46 1 (Int.toNat m)))) rfl (e_indexAddr (α := Int) (xs := X) (v := v46) (i := m) Try.underlying34 rfl rfl o48.flat rfl (by omega) (by omega)) ?_
    refine l_op rfl ?_
    refine o_store_el (i := m) (i : Int) tp3_gi rfl rfl o48 (by omega) (by omega) rfl ?_
    intro w58 ch59 bx60
    clear o48
    refine l_nil ?_
    refine run_inBlock ?_
    refine run_region rfl ?_
    refine l_val (v := Value.int .i64 (i : Int)) rfl (e_move (by exact zs6)) ?_
    refine l_val (v := Value.int .i64 ((i : Int) + 1)) rfl (e_add (m := (i : Int)) (n := 1) rfl rfl (by omega)) ?_
    refine l_val (v := Value.int .i64 ((i : Int) + 1)) rfl (e_assign rfl) ?_
    refine l_nil ?_
    replace hbase := hbase.chg ch59 (is_ne rfl)
    replace r_ps_v := r_ps_v.chg ch59 (is_ne rfl)
    replace bx5 := bx5.chg ch59 (is_ne rfl)
    refine back3 (v46, (List.set X (Int.toNat m) (i : Int)), i + 1, g54) _ _ ⟨hbase, (by exact zs1), (by exact zs2), (by exact zs5), rfl, r_ps_v, bx5, bx60, by omega, ?_⟩ ?_
    · show arP o ps (i + 1) (List.set X (Int.toNat m) (i : Int))
      exact arP_step hz (by omega) har (by omega) (by omega) hm2 (by first | exact .inl (by omega) | exact .inr (fun h => (bef_lt hg.2).1 h (.inl q69)) | exact .inr (fun h => (bef_lt hg.2).1 h (.inr ⟨q72, p10⟩))) hXl (fun j hj => hk2 j (by omega)) (fun j hj hl => hk3 j (by omega) hl)
    · show Int.toNat (((List.length ps : Int) : Int) - ((i + 1) : Int)) < Int.toNat (((List.length ps : Int) : Int) - (i : Int))
      omega
   refine l_val (v := Value.int .i64 (befS (((gI ps (i : Int)).1) - o.1, ((gI ps (i : Int)).2) - o.2) (((gI ps (gI l1 (m - 1))).1) - o.1, ((gI ps (gI l1 (m - 1))).2) - o.2))) (want_y rfl rfl rfl (decide_eq_false q69)) (e_move rfl) ?_
   refine l_val (v := Value.bool (decide ((befS (((gI ps (i : Int)).1) - o.1, ((gI ps (i : Int)).2) - o.2) (((gI ps (gI l1 (m - 1))).1) - o.1, ((gI ps (gI l1 (m - 1))).2) - o.2)) = 0))) (want_y rfl rfl rfl (decide_eq_false q69)) (e_eql (m := befS (((gI ps (i : Int)).1) - o.1, ((gI ps (i : Int)).2) - o.2) (((gI ps (gI l1 (m - 1))).1) - o.1, ((gI ps (gI l1 (m - 1))).2) - o.2)) (n := 0) rfl rfl) ?_
   refine l_val (v := Value.bool (decide ((befS (((gI ps (i : Int)).1) - o.1, ((gI ps (i : Int)).2) - o.2) (((gI ps (gI l1 (m - 1))).1) - o.1, ((gI ps (gI l1 (m - 1))).2) - o.2)) = 0))) (want_y rfl rfl rfl (decide_eq_false q69)) (e_move rfl) ?_
   by_cases q72 : (befS (((gI ps (i : Int)).1) - o.1, ((gI ps (i : Int)).2) - o.2) (((gI ps (gI l1 (m - 1))).1) - o.1, ((gI ps (gI l1 (m - 1))).2) - o.2)) = 0
   ·
    refine l_val (v := Value.pointer (some ⟨b14, 0, none⟩)) (want_y rfl rfl rfl (decide_eq_true q72)) (e_fieldAddr Try.underlying23 rfl rfl (by exact zs7) rfl) ?_
    replace bx19 := bx19.chg hb37 (not_no _)
    refine l_val (v := Value.int .i64 (((gI ps (i : Int)).1) - o.1)) (want_y rfl rfl rfl (decide_eq_true q72)) (e_load_bx1 tp3_gi rfl bx19 rfl) ?_
    refine l_val (v := Value.pointer (some ⟨b14, 0, none⟩)) (want_y rfl rfl rfl (decide_eq_true q72)) (e_fieldAddr Try.underlying23 rfl rfl (by exact zs7) rfl) ?_
    refine l_val (v := Value.int .i64 (((gI ps (i : Int)).1) - o.1)) (want_y rfl rfl rfl (decide_eq_true q72)) (e_load_bx1 tp3_gi rfl bx19 rfl) ?_
    refine l_val (v := Value.int .i64 ((((gI ps (i : Int)).1) - o.1) * (((gI ps (i : Int)).1) - o.1))) (want_y rfl rfl rfl (decide_eq_true q72)) (e_mul (m := ((gI ps (i : Int)).1) - o.1) (n := ((gI ps (i : Int)).1) - o.1) rfl rfl (by omega)) ?_
    refine l_val (v := Value.pointer (some ⟨b14, 1, none⟩)) (want_y rfl rfl rfl (decide_eq_true q72)) (e_fieldAddr Try.underlying23 rfl rfl (by exact zs7) rfl) ?_
    refine l_val (v := Value.int .i64 (((gI ps (i : Int)).2) - o.2)) (want_y rfl rfl rfl (decide_eq_true q72)) (e_load_bx1 tp3_gi rfl bx19 rfl) ?_
    refine l_val (v := Value.pointer (some ⟨b14, 1, none⟩)) (want_y rfl rfl rfl (decide_eq_true q72)) (e_fieldAddr Try.underlying23 rfl rfl (by exact zs7) rfl) ?_
    refine l_val (v := Value.int .i64 (((gI ps (i : Int)).2) - o.2)) (want_y rfl rfl rfl (decide_eq_true q72)) (e_load_bx1 tp3_gi rfl bx19 rfl) ?_
    refine l_val (v := Value.int .i64 ((((gI ps (i : Int)).2) - o.2) * (((gI ps (i : Int)).2) - o.2))) (want_y rfl rfl rfl (decide_eq_true q72)) (e_mul (m := ((gI ps (i : Int)).2) - o.2) (n := ((gI ps (i : Int)).2) - o.2) rfl rfl (by omega)) ?_
    refine l_val (v := Value.int .i64 (((((gI ps (i : Int)).1) - o.1) * (((gI ps (i : Int)).1) - o.1)) + ((((gI ps (i : Int)).2) - o.2) * (((gI ps (i : Int)).2) - o.2)))) (want_y rfl rfl rfl (decide_eq_true q72)) (e_add (m := (((gI ps (i : Int)).1) - o.1) * (((gI ps (i : Int)).1) - o.1)) (n := (((gI ps (i : Int)).2) - o.2) * (((gI ps (i : Int)).2) - o.2)) rfl rfl (by omega)) ?_
    refine l_val (v := Value.pointer (some ⟨b29, 0, none⟩)) (want_y rfl rfl rfl (decide_eq_true q72)) (e_fieldAddr Try.underlying23 rfl rfl rfl rfl) ?_
    replace bx34 := bx34.chg hb37 (not_no _)
    refine l_val (v := Value.int .i64 (((gI ps (gI l1 (m - 1))).1) - o.1)) (want_y rfl rfl rfl (decide_eq_true q72)) (e_load_bx1 tp3_gi rfl bx34 rfl) ?_
    refine l_val (v := Value.pointer (some ⟨b29, 0, none⟩)) (want_y rfl rfl rfl (decide_eq_true q72)) (e_fieldAddr Try.underlying23 rfl rfl rfl rfl) ?_
    refine l_val (v := Value.int .i64 (((gI ps (gI l1 (m - 1))).1) - o.1)) (want_y rfl rfl rfl (decide_eq_true q72)) (e_load_bx1 tp3_gi rfl bx34 rfl) ?_
    refine l_val (v := Value.int .i64 ((((gI ps (gI l1 (m - 1))).1) - o.1) * (((gI ps (gI l1 (m - 1))).1) - o.1))) (want_y rfl rfl rfl (decide_eq_true q72)) (e_mul (m := ((gI ps (gI l1 (m - 1))).1) - o.1) (n := ((gI ps (gI l1 (m - 1))).1) - o.1) rfl rfl (by omega)) ?_
    refine l_val (v := Value.pointer (some ⟨b29, 1, none⟩)) (want_y rfl rfl rfl (decide_eq_true q72)) (e_fieldAddr Try.underlying23 rfl rfl rfl rfl) ?_
    refine l_val (v := Value.int .i64 (((gI ps (gI l1 (m - 1))).2) - o.2)) (want_y rfl rfl rfl (decide_eq_true q72)) (e_load_bx1 tp3_gi rfl bx34 rfl) ?_
    refine l_val (v := Value.pointer (some ⟨b29, 1, none⟩)) (want_y rfl rfl rfl (decide_eq_true q72)) (e_fieldAddr Try.underlying23 rfl rfl rfl rfl) ?_
    refine l_val (v := Value.int .i64 (((gI ps (gI l1 (m - 1))).2) - o.2)) (want_y rfl rfl rfl (decide_eq_true q72)) (e_load_bx1 tp3_gi rfl bx34 rfl) ?_
    refine l_val (v := Value.int .i64 ((((gI ps (gI l1 (m - 1))).2) - o.2) * (((gI ps (gI l1 (m - 1))).2) - o.2))) (want_y rfl rfl rfl (decide_eq_true q72)) (e_mul (m := ((gI ps (gI l1 (m - 1))).2) - o.2) (n := ((gI ps (gI l1 (m - 1))).2) - o.2) rfl rfl (by omega)) ?_
    refine l_val (v := Value.int .i64 (((((gI ps (gI l1 (m - 1))).1) - o.1) * (((gI ps (gI l1 (m - 1))).1) - o.1)) + ((((gI ps (gI l1 (m - 1))).2) - o.2) * (((gI ps (gI l1 (m - 1))).2) - o.2)))) (want_y rfl rfl rfl (decide_eq_true q72)) (e_add (m := (((gI ps (gI l1 (m - 1))).1) - o.1) * (((gI ps (gI l1 (m - 1))).1) - o.1)) (n := (((gI ps (gI l1 (m - 1))).2) - o.2) * (((gI ps (gI l1 (m - 1))).2) - o.2)) rfl rfl (by omega)) ?_
    refine l_val (v := Value.bool (decide ((((((gI ps (gI l1 (m - 1))).1) - o.1) * (((gI ps (gI l1 (m - 1))).1) - o.1)) + ((((gI ps (gI l1 (m - 1))).2) - o.2) * (((gI ps (gI l1 (m - 1))).2) - o.2))) ≤ (((((gI ps (i : Int)).1) - o.1) * (((gI ps (i : Int)).1) - o.1)) + ((((gI ps (i : Int)).2) - o.2) * (((gI ps (i : Int)).2) - o.2)))))) (want_y rfl rfl rfl (decide_eq_true q72)) (e_geq (m := ((((gI ps (i : Int)).1) - o.1) * (((gI ps (i : Int)).1) - o.1)) + ((((gI ps (i : Int)).2) - o.2) * (((gI ps (i : Int)).2) - o.2))) (n := ((((gI ps (gI l1 (m - 1))).1) - o.1) * (((gI ps (gI l1 (m - 1))).1) - o.1)) + ((((gI ps (gI l1 (m - 1))).2) - o.2) * (((gI ps (gI l1 (m - 1))).2) - o.2))) rfl rfl) ?_
    refine l_val (v := Value.bool (decide ((((((gI ps (gI l1 (m - 1))).1) - o.1) * (((gI ps (gI l1 (m - 1))).1) - o.1)) + ((((gI ps (gI l1 (m - 1))).2) - o.2) * (((gI ps (gI l1 (m - 1))).2) - o.2))) ≤ (((((gI ps (i : Int)).1) - o.1) * (((gI ps (i : Int)).1) - o.1)) + ((((gI ps (i : Int)).2) - o.2) * (((gI ps (i : Int)).2) - o.2)))))) (want_y rfl rfl rfl (decide_eq_false q69)) (e_pick_t rfl (decide_eq_true q72) rfl) ?_
    refine l_val (v := Value.bool (decide ((((((gI ps (gI l1 (m - 1))).1) - o.1) * (((gI ps (gI l1 (m - 1))).1) - o.1)) + ((((gI ps (gI l1 (m - 1))).2) - o.2) * (((gI ps (gI l1 (m - 1))).2) - o.2))) ≤ (((((gI ps (i : Int)).1) - o.1) * (((gI ps (i : Int)).1) - o.1)) + ((((gI ps (i : Int)).2) - o.2) * (((gI ps (i : Int)).2) - o.2)))))) rfl (e_pick_f rfl (decide_eq_false q69) rfl) ?_
    refine l_nil ?_
    by_cases p10 : (((((gI ps (gI l1 (m - 1))).1) - o.1) * (((gI ps (gI l1 (m - 1))).1) - o.1)) + ((((gI ps (gI l1 (m - 1))).2) - o.2) * (((gI ps (gI l1 (m - 1))).2) - o.2))) ≤ (((((gI ps (i : Int)).1) - o.1) * (((gI ps (i : Int)).1) - o.1)) + ((((gI ps (i : Int)).2) - o.2) * (((gI ps (i : Int)).2) - o.2)))
    ·
     refine run_cond_t rfl (decide_eq_true p10) ?_
     refine run_exit rfl ?_
     refine run_seq ?_
     clear bx19
     clear bx34
     refine run_region rfl ?_
     refine l_val (v := l1_v) rfl (e_move (by exact zs5)) ?_
     refine l_op rfl ?_
     refine o_buildSlice (α := Int) g30 (is 3) (is 3) (3, 0) rfl ([0] : List Int) Try.underlying34 tp3_gi (by decide) (by decide) (vs := [(0, Value.int .i64 0)]) rfl rfl (.cons rfl .nil) ?_
     intro g61 w62 v63 ch64 o65
     refine l_op rfl ?_
     have C66 : Chg (inl [5]) _ _ _ _ := (ch28.n).seq ((ch33.l rfl).seq ((hb37.n).seq (ch64.n)))
     replace o_l1 := o_l1.chg C66 (is_nl rfl) (is_nl rfl)
     refine o_append (α := Int) (xs := l1) (ys := ([0] : List Int)) g61 (J := is 4) (S := is 4) (4, 0) rfl Try.underlying34 tp3_gi (by decide) rfl rfl rfl o_l1 o65.flat (by decide) (by first | omega | (simp; done) | (simp; omega)) ?_
     intro g67 w68 v69 ch70 o71
     clear o_l1
     refine l_val (v := v69) rfl (e_assign rfl) ?_
     refine l_nil (run_seq (run_seq ?_))
     clear o65
     refine run_region rfl ?_
     refine l_val (v := v69) rfl (e_move rfl) ?_
     have len72 := (o71.flat).small
     refine l_val (v := Value.int .i64 (List.length (l1 ++ ([0] : List Int)) : Int)) rfl (e_len Try.underlying34 rfl o71.flat) ?_
     refine l_val (v := Value.int .i64 ((List.length (l1 ++ ([0] : List Int)) : Int) - 1)) rfl (e_sub (m := (List.length (l1 ++ ([0] : List Int)) : Int)) (n := 1) rfl rfl (by omega)) ?_
     refine l_val (v := Value.int .i64 ((List.length (l1 ++ ([0] : List Int)) : Int) - 1)) rfl (e_assign rfl) ?_
     refine l_nil ?_
     refine run_block ?_
     refine run_loop (σ := Int × (List Int) × Cmap) (fun ⟨k, X, gq⟩ f w => Base w0 gq w ∧ f 1 = ps_v ∧ f 2 = Value.pointer (some ⟨b3, 0, none⟩) ∧ f 5 = v69 ∧ f 6 = Value.int .i64 (i : Int) ∧ f 8 = Value.int .i64 m ∧ f 11 = Value.int .i64 k ∧ Sl gq (is 0) w ps_v ps ∧ Bx gq (is 1) w b3 [Value.int .i64 o.1, Value.int .i64 o.2] ∧ Ow gq (is 4) (is 4) w v69 X ∧ (shP l1 m k X)) (fun ⟨k, X, gq⟩ => Int.toNat k) ((List.length (l1 ++ ([0] : List Int)) : Int) - 1, (l1 ++ ([0] : List Int)), g67) ?_ ?_
     have C73 : Chg (inl [4, 5]) _ _ _ _ := (ch25.n).seq ((ch28.n).seq ((ch33.l rfl).seq ((hb37.n).seq ((ch64.n).seq (ch70.l rfl)))))
     replace hbase := hbase.chg C73 (is_nl rfl)
     have C74 : Chg (inl [4, 5]) _ _ _ _ := (ch28.n).seq ((ch33.l rfl).seq ((hb37.n).seq ((ch64.n).seq (ch70.l rfl))))
     replace r_ps_v := r_ps_v.chg C74 (is_nl rfl)
     replace bx5 := bx5.chg C74 (is_nl rfl)
     · exact ⟨hbase, (by exact zs1), (by exact zs2), rfl, (by exact zs6), (by exact zs8), rfl, r_ps_v, bx5, o71, by exact shift_init (by omega) (by simp)⟩
     clear r_ps_v
     clear bx5
     clear o71
     clear hbase
     rintro ⟨k, X, g77⟩ f75 w76 ⟨hbase, zs1, zs2, zs5, zs6, zs8, zs11, r_ps_v, bx5, o71, hsh⟩ back14
     obtain ⟨⟨hk0, hk1⟩, hXl, hk2, hk3⟩ := hsh
     refine run_seq (run_seq (run_region rfl ?_))
     refine l_val (v := Value.int .i64 k) rfl (e_move (by exact zs11)) ?_
     refine l_val (v := Value.int .i64 m) rfl (e_move (by exact zs8)) ?_
     refine l_val (v := Value.bool (decide (m < k))) rfl (e_gtr (m := k) (n := m) rfl rfl) ?_
     refine l_nil ?_
     by_cases p14 : m < k
     ·
      refine run_cond_t rfl (decide_eq_true p14) ?_
      refine run_skip ?_
      refine run_seq ?_
      refine run_block ?_
      refine run_region rfl ?_
      refine l_val (v := v69) rfl (e_move (by exact zs5)) ?_
      refine l_val (v := Value.int .i64 k) rfl (e_move (by exact zs11)) ?_
      refine l_val (v := v69) rfl (e_move (by exact zs5)) ?_
      refine l_val (v := Value.int .i64 k) rfl (e_move (by exact zs11)) ?_
      refine l_val (v := Value.int .i64 (k - 1)) rfl (e_sub (m := k) (n := 1) rfl rfl (by omega)) ?_
      refine l_val (v := Value.pointer (some (eAddr v69 1 (Int.toNat (k - 1))))) rfl (e_indexAddr (α := Int) (xs := X) (v := v69) (i := k - 1) Try.underlying34 rfl rfl o71.flat rfl (by omega) (by omega)) ?_
      refine l_val (v := Value.int .i64 (gI X (k - 1))) rfl (e_load_el1 (α := Int) (xs := X) (v := v69) (i := k - 1) tp3_gi rfl o71.flat (by omega) (by omega) (by decide) rfl) ?_
      refine l_val (v := Value.pointer (some (eAddr v69 1 (Int.toNat k)))) rfl (e_indexAddr (α := Int) (xs := X) (v := v69) (i := k) Try.underlying34 rfl rfl o71.flat rfl (by omega) (by omega)) ?_
      refine l_op rfl ?_
      refine o_store_el (i := k) (gI X (k - 1)) tp3_gi rfl rfl o71 (by omega) (by omega) rfl ?_
      intro w78 ch79 bx80
      clear o71
      refine l_nil ?_
      refine run_inBlock ?_
      refine run_region rfl ?_
      refine l_val (v := Value.int .i64 k) rfl (e_move (by exact zs11)) ?_
      refine l_val (v := Value.int .i64 (k - 1)) rfl (e_sub (m := k) (n := 1) rfl rfl (by omega)) ?_
      refine l_val (v := Value.int .i64 (k - 1)) rfl (e_assign rfl) ?_
      refine l_nil ?_
      replace hbase := hbase.chg ch79 (is_ne rfl)
      replace r_ps_v := r_ps_v.chg ch79 (is_ne rfl)
      replace bx5 := bx5.chg ch79 (is_ne rfl)
      refine back14 (k - 1, (List.set X (Int.toNat k) (gI X (k - 1))), g77) _ _ ⟨hbase, (by exact zs1), (by exact zs2), (by exact zs5), (by exact zs6), (by exact zs8), rfl, r_ps_v, bx5, bx80, ?_⟩ ?_
      · show shP l1 m (k - 1) (List.set X (Int.toNat k) (gI X (k - 1)))
        exact shift_step (by omega) ⟨⟨hk0, hk1⟩, hXl, hk2, hk3⟩ (by omega)
      · show Int.toNat (k - 1) < Int.toNat k
        omega
     refine run_cond_f rfl (decide_eq_false p14) ?_
     refine run_exit rfl ?_
     refine run_region rfl ?_
     refine l_val (v := v69) rfl (e_move (by exact zs5)) ?_
     refine l_val (v := Value.int .i64 m) rfl (e_move (by exact zs8)) ?_
     refine l_val (v := Value.int .i64 (i : Int)) rfl (e_move (by exact zs6)) ?_
     refine l_val (v := Value.pointer (some (eAddr v69 1 (Int.toNat m)))) rfl (e_indexAddr (α := Int) (xs := X) (v := v69) (i := m) Try.underlying34 rfl rfl o71.flat rfl (by omega) (by omega)) ?_
     refine l_op rfl ?_
     refine o_store_el (i := m) (i : Int) tp3_gi rfl rfl o71 (by omega) (by omega) rfl ?_
     intro w81 ch82 bx83
     clear o71
     refine l_nil ?_
     refine run_inBlock ?_
     refine run_region rfl ?_
     refine l_val (v := Value.int .i64 (i : Int)) rfl (e_move (by exact zs6)) ?_
     refine l_val (v := Value.int .i64 ((i : Int) + 1)) rfl (e_add (m := (i : Int)) (n := 1) rfl rfl (by omega)) ?_
     refine l_val (v := Value.int .i64 ((i : Int) + 1)) rfl (e_assign rfl) ?_
     refine l_nil ?_
     replace hbase := hbase.chg ch82 (is_ne rfl)
     replace r_ps_v := r_ps_v.chg ch82 (is_ne rfl)
     replace bx5 := bx5.chg ch82 (is_ne rfl)
     refine back3 (v69, (List.set X (Int.toNat m) (i : Int)), i + 1, g77) _ _ ⟨hbase, (by exact zs1), (by exact zs2), (by exact zs5), rfl, r_ps_v, bx5, bx83, by omega, ?_⟩ ?_
     · show arP o ps (i + 1) (List.set X (Int.toNat m) (i : Int))
       exact arP_step hz (by omega) har (by omega) (by omega) hm2 (by first | exact .inl (by omega) | exact .inr (fun h => (bef_lt hg.2).1 h (.inl q69)) | exact .inr (fun h => (bef_lt hg.2).1 h (.inr ⟨q72, p10⟩))) hXl (fun j hj => hk2 j (by omega)) (fun j hj hl => hk3 j (by omega) hl)
     · show Int.toNat (((List.length ps : Int) : Int) - ((i + 1) : Int)) < Int.toNat (((List.length ps : Int) : Int) - (i : Int))
       omega
    refine run_cond_f rfl (decide_eq_false p10) ?_
    refine run_skip ?_
    clear bx34
    refine run_region rfl ?_
    refine l_val (v := Value.int .i64 m) rfl (e_move (by exact zs8)) ?_
    refine l_val (v := Value.int .i64 (m - 1)) rfl (e_sub (m := m) (n := 1) rfl rfl (by omega)) ?_
    refine l_val (v := Value.int .i64 (m - 1)) rfl (e_assign rfl) ?_
    refine l_nil ?_
    refine run_inBlock ?_
    have C84 : Chg (inl [5]) _ _ _ _ := (ch25.n).seq ((ch28.n).seq ((ch33.l rfl).seq (hb37.n)))
    replace hbase := hbase.chg C84 (is_nl rfl)
    have C85 : Chg (inl [5]) _ _ _ _ := (ch28.n).seq ((ch33.l rfl).seq (hb37.n))
    replace r_ps_v := r_ps_v.chg C85 (is_nl rfl)
    replace bx5 := bx5.chg C85 (is_nl rfl)
    replace o_l1 := o_l1.chg C85 (is_nl rfl) (is_nl rfl)
    refine back7 (m - 1, g30) _ _ ⟨hbase, (by exact zs1), (by exact zs2), (by exact zs5), (by exact zs6), (by exact zs7), rfl, r_ps_v, bx5, o_l1, bx19, ?_⟩ ?_
    · show (0 ≤ (m - 1) ∧ (m - 1) ≤ l1.length) ∧ ∀ j : Nat, (m - 1) ≤ (j : Int) → j < l1.length → ltA o ps (i : Int) (gI l1 (j : Int))
      refine ⟨by omega, fun j hj hl => ?_⟩
      by_cases e : (j : Int) = m - 1
      · rw [e]
        first
        | exact (bef_lt hg.2).2 fun h => h.elim q69 fun h => q72 h.1
        | exact (bef_lt hg.2).2 fun h => h.elim q69 fun h => p10 h.2
      · exact hm2 j (by omega) hl
    · show Int.toNat (m - 1) < Int.toNat m
      omega
   refine l_skip (want_n rfl rfl rfl (decide_eq_false q72)) ?_
   refine l_skip (want_n rfl rfl rfl (decide_eq_false q72)) ?_
   refine l_skip (want_n rfl rfl rfl (decide_eq_false q72)) ?_
   refine l_skip (want_n rfl rfl rfl (decide_eq_false q72)) ?_
   refine l_skip (want_n rfl rfl rfl (decide_eq_false q72)) ?_
   refine l_skip (want_n rfl rfl rfl (decide_eq_false q72)) ?_
   refine l_skip (want_n rfl rfl rfl (decide_eq_false q72)) ?_
   refine l_skip (want_n rfl rfl rfl (decide_eq_false q72)) ?_
   refine l_skip (want_n rfl rfl rfl (decide_eq_false q72)) ?_
   refine l_skip (want_n rfl rfl rfl (decide_eq_false q72)) ?_
   refine l_skip (want_n rfl rfl rfl (decide_eq_false q72)) ?_
   refine l_skip (want_n rfl rfl rfl (decide_eq_false q72)) ?_
   refine l_skip (want_n rfl rfl rfl (decide_eq_false q72)) ?_
   refine l_skip (want_n rfl rfl rfl (decide_eq_false q72)) ?_
   refine l_skip (want_n rfl rfl rfl (decide_eq_false q72)) ?_
   refine l_skip (want_n rfl rfl rfl (decide_eq_false q72)) ?_
   refine l_skip (want_n rfl rfl rfl (decide_eq_false q72)) ?_
   refine l_skip (want_n rfl rfl rfl (decide_eq_false q72)) ?_
   refine l_skip (want_n rfl rfl rfl (decide_eq_false q72)) ?_
   refine l_skip (want_n rfl rfl rfl (decide_eq_false q72)) ?_
   refine l_skip (want_n rfl rfl rfl (decide_eq_false q72)) ?_
   refine l_skip (want_n rfl rfl rfl (decide_eq_false q72)) ?_
   refine l_skip (want_n rfl rfl rfl (decide_eq_false q72)) ?_
   refine l_val (v := Value.bool false) (want_y rfl rfl rfl (decide_eq_false q69)) (e_pick_f rfl (decide_eq_false q72) rfl) ?_
   refine l_val (v := Value.bool false) rfl (e_pick_f rfl (decide_eq_false q69) rfl) ?_
   refine l_nil ?_
   refine run_cond_f rfl rfl ?_
   refine run_skip ?_
   clear bx34
   refine run_region rfl ?_
   refine l_val (v := Value.int .i64 m) rfl (e_move (by exact zs8)) ?_
   refine l_val (v := Value.int .i64 (m - 1)) rfl (e_sub (m := m) (n := 1) rfl rfl (by omega)) ?_
   refine l_val (v := Value.int .i64 (m - 1)) rfl (e_assign rfl) ?_
   refine l_nil ?_
   refine run_inBlock ?_
   have C86 : Chg (inl [5]) _ _ _ _ := (ch25.n).seq ((ch28.n).seq ((ch33.l rfl).seq (hb37.n)))
   replace hbase := hbase.chg C86 (is_nl rfl)
   have C87 : Chg (inl [5]) _ _ _ _ := (ch28.n).seq ((ch33.l rfl).seq (hb37.n))
   replace r_ps_v := r_ps_v.chg C87 (is_nl rfl)
   replace bx5 := bx5.chg C87 (is_nl rfl)
   replace o_l1 := o_l1.chg C87 (is_nl rfl) (is_nl rfl)
   replace bx19 := bx19.chg hb37 (not_no _)
   refine back7 (m - 1, g30) _ _ ⟨hbase, (by exact zs1), (by exact zs2), (by exact zs5), (by exact zs6), (by exact zs7), rfl, r_ps_v, bx5, o_l1, bx19, ?_⟩ ?_
   · show (0 ≤ (m - 1) ∧ (m - 1) ≤ l1.length) ∧ ∀ j : Nat, (m - 1) ≤ (j : Int) → j < l1.length → ltA o ps (i : Int) (gI l1 (j : Int))
     refine ⟨by omega, fun j hj hl => ?_⟩
     by_cases e : (j : Int) = m - 1
     · rw [e]
       first
       | exact (bef_lt hg.2).2 fun h => h.elim q69 fun h => q72 h.1
       | exact (bef_lt hg.2).2 fun h => h.elim q69 fun h => p10 h.2
     · exact hm2 j (by omega) hl
   · show Int.toNat (m - 1) < Int.toNat m
     omega
  refine run_cond_f rfl (decide_eq_false p7) ?_
  refine run_exit rfl ?_
  refine run_seq ?_
  clear bx19
  refine run_region rfl ?_
  refine l_val (v := l1_v) rfl (e_move (by exact zs5)) ?_
  refine l_op rfl ?_
  refine o_buildSlice (α := Int) g24 (is 3) (is 3) (3, 0) rfl ([0] : List Int) Try.underlying34 tp3_gi (by decide) (by decide) (vs := [(0, Value.int .i64 0)]) rfl rfl (.cons rfl .nil) ?_
  intro g88 w89 v90 ch91 o92
  refine l_op rfl ?_
  replace o_l1 := o_l1.chg ch91 (not_no _) (not_no _)
  refine o_append (α := Int) (xs := l1) (ys := ([0] : List Int)) g88 (J := is 4) (S := is 4) (4, 0) rfl Try.underlying34 tp3_gi (by decide) rfl rfl rfl o_l1 o92.flat (by decide) (by first | omega | (simp; done) | (simp; omega)) ?_
  intro g93 w94 v95 ch96 o97
  clear o_l1
  refine l_val (v := v95) rfl (e_assign rfl) ?_
  refine l_nil (run_seq (run_seq ?_))
  clear o92
  refine run_region rfl ?_
  refine l_val (v := v95) rfl (e_move rfl) ?_
  have len98 := (o97.flat).small
  refine l_val (v := Value.int .i64 (List.length (l1 ++ ([0] : List Int)) : Int)) rfl (e_len Try.underlying34 rfl o97.flat) ?_
  refine l_val (v := Value.int .i64 ((List.length (l1 ++ ([0] : List Int)) : Int) - 1)) rfl (e_sub (m := (List.length (l1 ++ ([0] : List Int)) : Int)) (n := 1) rfl rfl (by omega)) ?_
  refine l_val (v := Value.int .i64 ((List.length (l1 ++ ([0] : List Int)) : Int) - 1)) rfl (e_assign rfl) ?_
  refine l_nil ?_
  refine run_block ?_
  refine run_loop (σ := Int × (List Int) × Cmap) (fun ⟨k, X, gq⟩ f w => Base w0 gq w ∧ f 1 = ps_v ∧ f 2 = Value.pointer (some ⟨b3, 0, none⟩) ∧ f 5 = v95 ∧ f 6 = Value.int .i64 (i : Int) ∧ f 8 = Value.int .i64 m ∧ f 11 = Value.int .i64 k ∧ Sl gq (is 0) w ps_v ps ∧ Bx gq (is 1) w b3 [Value.int .i64 o.1, Value.int .i64 o.2] ∧ Ow gq (is 4) (is 4) w v95 X ∧ (shP l1 m k X)) (fun ⟨k, X, gq⟩ => Int.toNat k) ((List.length (l1 ++ ([0] : List Int)) : Int) - 1, (l1 ++ ([0] : List Int)), g93) ?_ ?_
  replace hbase := hbase.chg ch91 (not_no _)
  replace hbase := hbase.chg ch96 (is_ne rfl)
  replace r_ps_v := (r_ps_v.chg ch91 (not_no _)).chg ch96 (is_ne rfl)
  replace bx5 := (bx5.chg ch91 (not_no _)).chg ch96 (is_ne rfl)
  · exact ⟨hbase, (by exact zs1), (by exact zs2), rfl, (by exact zs6), (by exact zs8), rfl, r_ps_v, bx5, o97, by exact shift_init (by omega) (by simp)⟩
  clear r_ps_v
  clear bx5
  clear o97
  clear hbase
  rintro ⟨k, X, g101⟩ f99 w100 ⟨hbase, zs1, zs2, zs5, zs6, zs8, zs11, r_ps_v, bx5, o97, hsh⟩ back14
  obtain ⟨⟨hk0, hk1⟩, hXl, hk2, hk3⟩ := hsh
  refine run_seq (run_seq (run_region rfl ?_))
  refine l_val (v := Value.int .i64 k) rfl (e_move (by exact zs11)) ?_
  refine l_val (v := Value.int .i64 m) rfl (e_move (by exact zs8)) ?_
  refine l_val (v := Value.bool (decide (m < k))) rfl (e_gtr (m := k) (n := m) rfl rfl) ?_
  refine l_nil ?_
  by_cases p14 : m < k
  ·
   refine run_cond_t rfl (decide_eq_true p14) ?_
   refine run_skip ?_
   refine run_seq ?_
   refine run_block ?_
   refine run_region rfl ?_
   refine l_val (v := v95) rfl (e_move (by exact zs5)) ?_
   refine l_val (v := Value.int .i64 k) rfl (e_move (by exact zs11)) ?_
   refine l_val (v := v95) rfl (e_move (by exact zs5)) ?_
   refine l_val (v := Value.int .i64 k) rfl (e_move (by exact zs11)) ?_
   refine l_val (v := Value.int .i64 (k - 1)) rfl (e_sub (m := k) (n := 1) rfl rfl (by omega)) ?_
   refine l_val (v := Value.pointer (some (eAddr v95 1 (Int.toNat (k - 1))))) rfl (e_indexAddr (α := Int) (xs := X) (v := v95) (i := k - 1) Try.underlying34 rfl rfl o97.flat rfl (by omega) (by omega)) ?_
   refine l_val (v := Value.int .i64 (gI X (k - 1))) rfl (e_load_el1 (α := Int) (xs := X) (v := v95) (i := k - 1) tp3_gi rfl o97.flat (by omega) (by omega) (by decide) rfl) ?_
   refine l_val (v := Value.pointer (some (eAddr v95 1 (Int.toNat k)))) rfl (e_indexAddr (α := Int) (xs := X) (v := v95) (i := k) Try.underlying34 rfl rfl o97.flat rfl (by omega) (by omega)) ?_
   refine l_op rfl ?_
   refine o_store_el (i := k) (gI X (k - 1)) tp3_gi rfl rfl o97 (by omega) (by omega) rfl ?_
   intro w102 ch103 bx104
   clear o97
   refine l_nil ?_
   refine run_inBlock ?_
   refine run_region rfl ?_
   refine l_val (v := Value.int .i64 k) rfl (e_move (by exact zs11)) ?_
   refine l_val (v := Value.int .i64 (k - 1)) rfl (e_sub (m := k) (n := 1) rfl rfl (by omega)) ?_
   refine l_val (v := Value.int .i64 (k - 1)) rfl (e_assign rfl) ?_
   refine l_nil ?_
   replace hbase := hbase.chg ch103 (is_ne rfl)
   replace r_ps_v := r_ps_v.chg ch103 (is_ne rfl)
   replace bx5 := bx5.chg ch103 (is_ne rfl)
   refine back14 (k - 1, (List.set X (Int.toNat k) (gI X (k - 1))), g101) _ _ ⟨hbase, (by exact zs1), (by exact zs2), (by exact zs5), (by exact zs6), (by exact zs8), rfl, r_ps_v, bx5, bx104, ?_⟩ ?_
   · show shP l1 m (k - 1) (List.set X (Int.toNat k) (gI X (k - 1)))
     exact shift_step (by omega) ⟨⟨hk0, hk1⟩, hXl, hk2, hk3⟩ (by omega)
   · show Int.toNat (k - 1) < Int.toNat k
     omega
  refine run_cond_f rfl (decide_eq_false p14) ?_
  refine run_exit rfl ?_
  refine run_region rfl ?_
  refine l_val (v := v95) rfl (e_move (by exact zs5)) ?_
  refine l_val (v := Value.int .i64 m) rfl (e_move (by exact zs8)) ?_
  refine l_val (v := Value.int .i64 (i : Int)) rfl (e_move (by exact zs6)) ?_
  refine l_val (v := Value.pointer (some (eAddr v95 1 (Int.toNat m)))) rfl (e_indexAddr (α := Int) (xs := X) (v := v95) (i := m) Try.underlying34 rfl rfl o97.flat rfl (by omega) (by omega)) ?_
  refine l_op rfl ?_
  refine o_store_el (i := m) (i : Int) tp3_gi rfl rfl o97 (by omega) (by omega) rfl ?_
  intro w105 ch106 bx107
  clear o97
  refine l_nil ?_
  refine run_inBlock ?_
  refine run_region rfl ?_
  refine l_val (v := Value.int .i64 (i : Int)) rfl (e_move (by exact zs6)) ?_
  refine l_val (v := Value.int .i64 ((i : Int) + 1)) rfl (e_add (m := (i : Int)) (n := 1) rfl rfl (by omega)) ?_
  refine l_val (v := Value.int .i64 ((i : Int) + 1)) rfl (e_assign rfl) ?_
  refine l_nil ?_
  replace hbase := hbase.chg ch106 (is_ne rfl)
  replace r_ps_v := r_ps_v.chg ch106 (is_ne rfl)
  replace bx5 := bx5.chg ch106 (is_ne rfl)
  refine back3 (v95, (List.set X (Int.toNat m) (i : Int)), i + 1, g101) _ _ ⟨hbase, (by exact zs1), (by exact zs2), (by exact zs5), rfl, r_ps_v, bx5, bx107, by omega, ?_⟩ ?_
  · show arP o ps (i + 1) (List.set X (Int.toNat m) (i : Int))
    exact arP_step hz (by omega) har (by omega) (by omega) hm2 (by first | exact .inl (by omega) | exact .inr (fun h => (bef_lt hg.2).1 h (.inl q69)) | exact .inr (fun h => (bef_lt hg.2).1 h (.inr ⟨q72, p10⟩))) hXl (fun j hj => hk2 j (by omega)) (fun j hj hl => hk3 j (by omega) hl)
  · show Int.toNat (((List.length ps : Int) : Int) - ((i + 1) : Int)) < Int.toNat (((List.length ps : Int) : Int) - (i : Int))
    omega
 refine run_cond_f rfl (decide_eq_false p3) ?_
 refine run_exit rfl ?_
 refine run_seq ?_
 clear bx5
 refine run_region rfl ?_
 refine l_val (v := l1_v) rfl (e_move (by exact zs5)) ?_
 refine l_val (v := l1_v) rfl (e_assign rfl) ?_
 refine l_nil ?_
 refine run_ret (vs := [l1_v]) Try.func20 (.tmp rfl .nil) ?_
 -- return 0
 have e0 : (l1 : List Int) = (arL o ps) := by
   exact arL_eq hz (by rwa [show i = ps.length by omega] at har)
 exact ⟨(fin w0 g8 (fun n => if n = 4 then 1 else 0), l1_v), (congrArg (a₁ := l1) (fun (z0 : List Int) => Ending.returned (l1_v)) e0), hbase.fresh _, (e0 ▸ (o_l1.glue (γ := c0) (ren := (fun n => if n = 4 then 1 else 0)) (k := 1) hbase.col rfl rfl))⟩
end TL
