import Derived.Test.YtilohhkbelkmdaaTlGenA
import Derived.Test.YtilohhkbelkmdaaTlGenC
import Derived.Test.YtilohhkbelkmdaaTlGenR
import Derived.Test.YtilohhkbelkmdaaProg
import Derived.Test.YtilohhkbelkmdaaTlP2
set_option linter.all false
set_option maxRecDepth 20000
namespace TL
open Go Go.Proofs
theorem mixed_e : Try.prog.follows .mixedOrders = true := by kernel_rfl
theorem tp3_e : Tp Try.prog 3 false 1 8 (.int .i64 0) := Tp.of (by kernel_rfl)
theorem tp22_e : Tp Try.prog 22 false 1 24 (.slice none 0 0) := Tp.of (by kernel_rfl)
theorem tp24_e : Tp Try.prog 24 true 2 32 (.agg #[.int .i64 0, .slice none 0 0]) := Tp.of (by kernel_rfl)
theorem tp60_e : Tp Try.prog 60 true 2 16 (.agg #[.int .i64 0, .int .i64 0]) := Tp.of (by kernel_rfl)
theorem bd82_e : Try.f82.body.isNone = false := rfl
theorem nm82_e : (Try.f82.name == "runtime.NumGoroutine") = false := by decide +kernel
theorem bd106_e : Try.f106.body.isNone = false := rfl
theorem nm106_e : (Try.f106.name == "runtime.NumGoroutine") = false := by decide +kernel
theorem rMoved_ok (w0 : World) (g : (Int) × (List ((Int) × (Int)))) (g_v : Value) (hg_v : Ro w0 g_v g.2) (to : List Int) (to_v : Value) (hto_v : Ro w0 to_v to) (hmay : MayP g) :
    Calls Try.prog 94 #[Value.agg (List.toArray [Value.int .i64 g.1, g_v]), to_v] w0 (fun ee w => ∃ xx : Cmap × Value, ee = .returned ((fun ⟨δ, rv0⟩ => Value.tuple (List.toArray [Value.agg (List.toArray [Value.int .i64 (((movedR g to).1).1), rv0]), Value.int .i64 ((movedR g to).2)])) xx) ∧ (fun (⟨δ, rv0⟩ : Cmap × Value) (w : World) => Fresh w0 δ w ∧ Ow δ (is 1) (is 1) w rv0 (((movedR g to).1).2)) xx w) := by
 refine calls_of_run Try.func94 rfl (Nat.le_of_ble_eq_true rfl) ?_
 have hbase := Base.start w0
 have r_g_v := hg_v.sl
 have r_to_v := hto_v.sl
 have hmay0 := hmay
 obtain ⟨hm1, hm2, hm3, hm4⟩ := hmay0
 refine run_seq (run_region rfl (l_op rfl ?_))
 refine o_box c0 (is 1) (1, 0) rfl rfl ?_
 intro g4 w1 b3 ch2 bx5
 replace bx5 : Bx g4 (is 1) w1 b3 [Value.int .i64 g.1, g_v] := bx5
 refine l_op rfl ?_
 refine o_alloc g4 (is 2) (2, 0) rfl tp24_e ?_
 intro g9 w6 b8 ch7 bx10
 replace bx10 : Bx g9 (is 2) w6 b8 [Value.int .i64 0, Value.slice none 0 0] := bx10
 refine lv (Value.int .i64 0) rfl (e_assign rfl) ?_
 refine l_nil (run_seq (run_seq (run_region rfl ?_)))
 refine lv (to_v) rfl (e_move rfl) ?_
 replace r_to_v := (r_to_v.chg ch2 (not_no _)).chg ch7 (not_no _)
 have len11 := (r_to_v).small
 refine lv (Value.int .i64 (List.length to : Int)) rfl (e_len Try.underlying27 rfl r_to_v) ?_
 refine lv (Value.pointer (some ⟨b3, 0, none⟩)) rfl (e_fieldAddr Try.underlying24 rfl rfl rfl rfl) ?_
 replace bx5 := bx5.chg ch7 (not_no _)
 refine lv (Value.int .i64 g.1) rfl (e_load_bx1 tp3_e rfl bx5 rfl) ?_
 refine lv (Value.bool (!(decide ((List.length to : Int) = g.1)))) rfl (e_neq (m := (List.length to : Int)) (n := g.1) rfl rfl) ?_
 refine l_nil ?_
 by_cases p1 : (List.length to : Int) = g.1
 ·
  refine run_cond_f rfl (congrArg Bool.not (decide_eq_true p1)) ?_
  refine run_skip ?_
  refine run_seq (run_seq (run_region rfl ?_))
  refine lv (Value.int .i64 0) rfl (e_assign rfl) ?_
  refine l_nil ?_
  refine run_block ?_
  refine run_loop (σ := Nat × Cmap) (fun ⟨k, gq⟩ f w => Base w0 gq w ∧ f 1 = to_v ∧ f 2 = Value.pointer (some ⟨b3, 0, none⟩) ∧ f 4 = Value.pointer (some ⟨b8, 0, none⟩) ∧ f 6 = Value.int .i64 (k : Int) ∧ Sl gq (is 0) w g_v g.2 ∧ Sl gq (is 0) w to_v to ∧ Bx gq (is 1) w b3 [Value.int .i64 g.1, g_v] ∧ Bx gq (is 2) w b8 [Value.int .i64 0, Value.slice none 0 0] ∧ (k : Int) ≤ ((List.length to : Int) : Int) ∧ (∀ v ∈ List.take k to, 0 ≤ v ∧ v < g.1)) (fun ⟨k, gq⟩ => Int.toNat (((List.length to : Int) : Int) - (k : Int))) (0, g9) ?_ ?_
  replace hbase := hbase.chg ch2 (not_no _)
  replace hbase := hbase.chg ch7 (not_no _)
  replace r_g_v := (r_g_v.chg ch2 (not_no _)).chg ch7 (not_no _)
  · exact ⟨hbase, rfl, rfl, rfl, rfl, r_g_v, r_to_v, bx5, bx10, by omega, by simp⟩
  clear r_g_v r_to_v bx5 bx10 hbase
  rintro ⟨k, g14⟩ f12 w13 ⟨hbase, zs1, zs2, zs4, zs6, r_g_v, r_to_v, bx5, bx10, hle_k, hinv⟩ back4
  refine run_seq (run_seq (run_region rfl ?_))
  refine lv (Value.int .i64 (k : Int)) rfl (e_move (by exact zs6)) ?_
  refine lv (to_v) rfl (e_move (by exact zs1)) ?_
  refine lv (Value.int .i64 (List.length to : Int)) rfl (e_len Try.underlying27 rfl r_to_v) ?_
  refine lv (Value.bool (decide ((k : Int) < (List.length to : Int)))) rfl (e_lss (m := (k : Int)) (n := (List.length to : Int)) rfl rfl) ?_
  refine l_nil ?_
  by_cases p4 : (k : Int) < (List.length to : Int)
  ·
   refine run_cond_t rfl (decide_eq_true p4) ?_
   refine run_skip ?_
   refine run_seq ?_
   refine run_block ?_
   refine run_seq ?_
   refine region_q g14 rfl mixed_e (by kernel_rfl) ?_
   intro w16 ch15
   refine q_val (v := to_v) rfl (fun w' hw' => e_move (by exact zs1)) ?_
   refine q_val (v := Value.int .i64 (k : Int)) rfl (fun w' hw' => e_move (by exact zs6)) ?_
   replace r_to_v := r_to_v.chg ch15 (not_no _)
   refine q_val (v := Value.pointer (some (eAddr to_v 1 (Int.toNat (k : Int))))) rfl (fun w' hw' => e_indexAddr (α := Int) (xs := to) (v := to_v) (i := (k : Int)) Try.underlying27 rfl rfl (r_to_v.bel hw') rfl (by omega) (by omega)) ?_
   refine q_val (v := Value.int .i64 (gI to (k : Int))) rfl (fun w' hw' => e_load_el1 (α := Int) (xs := to) (v := to_v) (i := (k : Int)) tp3_e rfl (r_to_v.bel hw') (by omega) (by omega) (by decide) rfl) ?_
   refine q_val (v := Value.bool (decide ((gI to (k : Int)) < 0))) rfl (fun w' hw' => e_lss (m := (gI to (k : Int))) (n := 0) rfl rfl) ?_
   refine q_val (v := Value.bool (decide ((gI to (k : Int)) < 0))) rfl (fun w' hw' => e_move rfl) ?_
   by_cases q27 : (gI to (k : Int)) < 0
   ·
    refine q_skip (want_n rfl rfl rfl (decide_eq_true q27)) ?_
    refine q_skip (want_n rfl rfl rfl (decide_eq_true q27)) ?_
    refine q_skip (want_n rfl rfl rfl (decide_eq_true q27)) ?_
    refine q_skip (want_n rfl rfl rfl (decide_eq_true q27)) ?_
    refine q_skip (want_n rfl rfl rfl (decide_eq_true q27)) ?_
    refine q_skip (want_n rfl rfl rfl (decide_eq_true q27)) ?_
    refine q_skip (want_n rfl rfl rfl (decide_eq_true q27)) ?_
    refine q_val (v := Value.bool true) rfl (fun w' hw' => e_pick_t rfl (decide_eq_true q27) rfl) ?_
    refine q_nil ?_
    intro w17 hc18
    replace hc18 := chg_below hc18 g14
    refine run_cond_t rfl rfl ?_
    refine run_seq ?_
    clear bx5
    refine run_region rfl ?_
    refine lv (Value.agg (List.toArray [Value.int .i64 0, Value.slice none 0 0])) rfl (e_build (vs := []) rfl (by kernel_rfl)) ?_
    refine l_op rfl ?_
    replace bx10 := (bx10.chg ch15 (not_no _)).chg hc18 (not_no _)
    refine o_store_bx (cs' := [Value.int .i64 0, Value.slice none 0 0]) tp24_e (by exact zs4) rfl bx10 rfl (Nat.le_of_ble_eq_true rfl) (AllOne.all (.cons rfl (.cons rfl .nil))) rfl ?_
    intro w19 ch20 bx21
    clear bx10
    refine lv (Value.int .i64 2) rfl (e_assign rfl) ?_
    refine l_nil ?_
    refine run_ret (vs := [Value.agg (List.toArray [Value.int .i64 0, Value.slice none 0 0]), Value.int .i64 2]) Try.func94 (.cell (by exact zs4) (load_bxN (ds := [Value.int .i64 0, Value.slice none 0 0]) tp24_e bx21 rfl rfl) (.tmp rfl .nil)) ?_
    have C22 : Chg (inl [2]) _ _ _ _ := (ch15.n).seq ((hc18.n).seq (ch20.l rfl))
    replace hbase := hbase.chg C22 (is_nl rfl)
    have e0 : ((0, []) : (Int) × (List ((Int) × (Int)))) = ((movedR g to).1) := by
      first
        | (have ha : ∀ v ∈ to, 0 ≤ v ∧ v < g.1 := by rw [List.take_of_length_le (by omega)] at hinv; exact hinv
           simp only [movedR, if_pos hmay]; rw [if_pos (by omega), if_pos ha, if_pos (by assumption)]
           simp only [renR]; rw [hi1, List.take_of_length_le (by omega), List.drop_eq_nil_of_le (by omega), List.append_nil]; done)
        | (have ha : ∀ v ∈ to, 0 ≤ v ∧ v < g.1 := by rw [List.take_of_length_le (by omega)] at hinv; exact hinv
           simp only [movedR, if_pos hmay]; rw [if_pos (by omega), if_pos ha, if_pos (by assumption)]; done)
        | (have ha : ∀ v ∈ to, 0 ≤ v ∧ v < g.1 := by rw [List.take_of_length_le (by omega)] at hinv; exact hinv
           simp only [movedR, if_pos hmay]; rw [if_pos (by omega), if_pos ha, if_neg (by assumption)]; done)
        | (have ha : ¬ ∀ v ∈ to, 0 ≤ v ∧ v < g.1 := fun h => by have := h _ (gI_mem (xs := to) (i := (k : Int)) (by omega) (by assumption)); omega
           simp only [movedR, if_pos hmay]; rw [if_pos (by omega), if_neg ha]; done)
        | (simp only [movedR, if_pos hmay]; rw [if_neg (by omega)]; done)
    have e1 : (2 : Int) = ((movedR g to).2) := by
      first
        | (have ha : ∀ v ∈ to, 0 ≤ v ∧ v < g.1 := by rw [List.take_of_length_le (by omega)] at hinv; exact hinv
           simp only [movedR, if_pos hmay]; rw [if_pos (by omega), if_pos ha, if_pos (by assumption)]
           simp only [renR]; rw [hi1, List.take_of_length_le (by omega), List.drop_eq_nil_of_le (by omega), List.append_nil]; done)
        | (have ha : ∀ v ∈ to, 0 ≤ v ∧ v < g.1 := by rw [List.take_of_length_le (by omega)] at hinv; exact hinv
           simp only [movedR, if_pos hmay]; rw [if_pos (by omega), if_pos ha, if_pos (by assumption)]; done)
        | (have ha : ∀ v ∈ to, 0 ≤ v ∧ v < g.1 := by rw [List.take_of_length_le (by omega)] at hinv; exact hinv
           simp only [movedR, if_pos hmay]; rw [if_pos (by omega), if_pos ha, if_neg (by assumption)]; done)
        | (have ha : ¬ ∀ v ∈ to, 0 ≤ v ∧ v < g.1 := fun h => by have := h _ (gI_mem (xs := to) (i := (k : Int)) (by omega) (by assumption)); omega
           simp only [movedR, if_pos hmay]; rw [if_pos (by omega), if_neg ha]; done)
        | (simp only [movedR, if_pos hmay]; rw [if_neg (by omega)]; done)
    exact ⟨(fin w0 g14 (fun n => 0), (Value.slice none 0 0)), (congr2 (a := (0, [])) (b := 2) (fun (z0 : (Int) × (List ((Int) × (Int)))) (z1 : Int) => Ending.returned (Value.tuple (List.toArray [Value.agg (List.toArray [Value.int .i64 z0.1, Value.slice none 0 0]), Value.int .i64 z1]))) e0 e1), hbase.fresh _, ((congrArg (fun (z : (Int) × (List ((Int) × (Int)))) => z.2) e0) ▸ Ow.nil)⟩
   refine q_val (v := to_v) (want_y rfl rfl rfl (decide_eq_false q27)) (fun w' hw' => e_move (by exact zs1)) ?_
   refine q_val (v := Value.int .i64 (k : Int)) (want_y rfl rfl rfl (decide_eq_false q27)) (fun w' hw' => e_move (by exact zs6)) ?_
   refine q_val (v := Value.pointer (some (eAddr to_v 1 (Int.toNat (k : Int))))) (want_y rfl rfl rfl (decide_eq_false q27)) (fun w' hw' => e_indexAddr (α := Int) (xs := to) (v := to_v) (i := (k : Int)) Try.underlying27 rfl rfl (r_to_v.bel hw') rfl (by omega) (by omega)) ?_
   refine q_val (v := Value.int .i64 (gI to (k : Int))) (want_y rfl rfl rfl (decide_eq_false q27)) (fun w' hw' => e_load_el1 (α := Int) (xs := to) (v := to_v) (i := (k : Int)) tp3_e rfl (r_to_v.bel hw') (by omega) (by omega) (by decide) rfl) ?_
   refine q_val (v := Value.pointer (some ⟨b3, 0, none⟩)) (want_y rfl rfl rfl (decide_eq_false q27)) (fun w' hw' => e_fieldAddr Try.underlying24 rfl rfl (by exact zs2) rfl) ?_
   replace bx5 := bx5.chg ch15 (not_no _)
   refine q_val (v := Value.int .i64 g.1) (want_y rfl rfl rfl (decide_eq_false q27)) (fun w' hw' => e_load_bx1 tp3_e rfl (bx5.bel hw') rfl) ?_
   refine q_val (v := Value.bool (decide (g.1 ≤ (gI to (k : Int))))) (want_y rfl rfl rfl (decide_eq_false q27)) (fun w' hw' => e_geq (m := (gI to (k : Int))) (n := g.1) rfl rfl) ?_
   refine q_val (v := Value.bool (decide (g.1 ≤ (gI to (k : Int))))) rfl (fun w' hw' => e_pick_f rfl (decide_eq_false q27) rfl) ?_
   refine q_nil ?_
   intro w23 hc24
   replace hc24 := chg_below hc24 g14
   by_cases p6 : g.1 ≤ (gI to (k : Int))
   ·
    refine run_cond_t rfl (decide_eq_true p6) ?_
    refine run_seq ?_
    clear bx5
    refine run_region rfl ?_
    refine lv (Value.agg (List.toArray [Value.int .i64 0, Value.slice none 0 0])) rfl (e_build (vs := []) rfl (by kernel_rfl)) ?_
    refine l_op rfl ?_
    replace bx10 := (bx10.chg ch15 (not_no _)).chg hc24 (not_no _)
    refine o_store_bx (cs' := [Value.int .i64 0, Value.slice none 0 0]) tp24_e (by exact zs4) rfl bx10 rfl (Nat.le_of_ble_eq_true rfl) (AllOne.all (.cons rfl (.cons rfl .nil))) rfl ?_
    intro w25 ch26 bx27
    clear bx10
    refine lv (Value.int .i64 2) rfl (e_assign rfl) ?_
    refine l_nil ?_
    refine run_ret (vs := [Value.agg (List.toArray [Value.int .i64 0, Value.slice none 0 0]), Value.int .i64 2]) Try.func94 (.cell (by exact zs4) (load_bxN (ds := [Value.int .i64 0, Value.slice none 0 0]) tp24_e bx27 rfl rfl) (.tmp rfl .nil)) ?_
    have C28 : Chg (inl [2]) _ _ _ _ := (ch15.n).seq ((hc24.n).seq (ch26.l rfl))
    replace hbase := hbase.chg C28 (is_nl rfl)
    have e0 : ((0, []) : (Int) × (List ((Int) × (Int)))) = ((movedR g to).1) := by
      first
        | (have ha : ∀ v ∈ to, 0 ≤ v ∧ v < g.1 := by rw [List.take_of_length_le (by omega)] at hinv; exact hinv
           simp only [movedR, if_pos hmay]; rw [if_pos (by omega), if_pos ha, if_pos (by assumption)]
           simp only [renR]; rw [hi1, List.take_of_length_le (by omega), List.drop_eq_nil_of_le (by omega), List.append_nil]; done)
        | (have ha : ∀ v ∈ to, 0 ≤ v ∧ v < g.1 := by rw [List.take_of_length_le (by omega)] at hinv; exact hinv
           simp only [movedR, if_pos hmay]; rw [if_pos (by omega), if_pos ha, if_pos (by assumption)]; done)
        | (have ha : ∀ v ∈ to, 0 ≤ v ∧ v < g.1 := by rw [List.take_of_length_le (by omega)] at hinv; exact hinv
           simp only [movedR, if_pos hmay]; rw [if_pos (by omega), if_pos ha, if_neg (by assumption)]; done)
        | (have ha : ¬ ∀ v ∈ to, 0 ≤ v ∧ v < g.1 := fun h => by have := h _ (gI_mem (xs := to) (i := (k : Int)) (by omega) (by assumption)); omega
           simp only [movedR, if_pos hmay]; rw [if_pos (by omega), if_neg ha]; done)
        | (simp only [movedR, if_pos hmay]; rw [if_neg (by omega)]; done)
    have e1 : (2 : Int) = ((movedR g to).2) := by
      first
        | (have ha : ∀ v ∈ to, 0 ≤ v ∧ v < g.1 := by rw [List.take_of_length_le (by omega)] at hinv; exact hinv
           simp only [movedR, if_pos hmay]; rw [if_pos (by omega), if_pos ha, if_pos (by assumption)]
           simp only [renR]; rw [hi1, List.take_of_length_le (by omega), List.drop_eq_nil_of_le (by omega), List.append_nil]; done)
        | (have ha : ∀ v ∈ to, 0 ≤ v ∧ v < g.1 := by rw [List.take_of_length_le (by omega)] at hinv; exact hinv
           simp only [movedR, if_pos hmay]; rw [if_pos (by omega), if_pos ha, if_pos (by assumption)]; done)
        | (have ha : ∀ v ∈ to, 0 ≤ v ∧ v < g.1 := by rw [List.take_of_length_le (by omega)] at hinv; exact hinv
           simp only [movedR, if_pos hmay]; rw [if_pos (by omega), if_pos ha, if_neg (by assumption)]; done)
        | (have ha : ¬ ∀ v ∈ to, 0 ≤ v ∧ v < g.1 := fun h => by have := h _ (gI_mem (xs := to) (i := (k : Int)) (by omega) (by assumption)); omega
           simp only [movedR, if_pos hmay]; rw [if_pos (by omega), if_neg ha]; done)
        | (simp only [movedR, if_pos hmay]; rw [if_neg (by omega)]; done)
    exact ⟨(fin w0 g14 (fun n => 0), (Value.slice none 0 0)), (congr2 (a := (0, [])) (b := 2) (fun (z0 : (Int) × (List ((Int) × (Int)))) (z1 : Int) => Ending.returned (Value.tuple (List.toArray [Value.agg (List.toArray [Value.int .i64 z0.1, Value.slice none 0 0]), Value.int .i64 z1]))) e0 e1), hbase.fresh _, ((congrArg (fun (z : (Int) × (List ((Int) × (Int)))) => z.2) e0) ▸ Ow.nil)⟩
   refine run_cond_f rfl (decide_eq_false p6) ?_
   refine run_skip ?_
   refine run_inBlock ?_
   refine run_region rfl ?_
   refine lv (Value.int .i64 (k : Int)) rfl (e_move (by exact zs6)) ?_
   refine lv (Value.int .i64 ((k : Int) + 1)) rfl (e_add (m := (k : Int)) (n := 1) rfl rfl (by omega)) ?_
   refine lv (Value.int .i64 ((k : Int) + 1)) rfl (e_assign rfl) ?_
   refine l_nil ?_
   replace hbase := hbase.chg ch15 (not_no _)
   replace hbase := hbase.chg hc24 (not_no _)
   replace r_g_v := (r_g_v.chg ch15 (not_no _)).chg hc24 (not_no _)
   replace r_to_v := r_to_v.chg hc24 (not_no _)
   replace bx5 := bx5.chg hc24 (not_no _)
   replace bx10 := (bx10.chg ch15 (not_no _)).chg hc24 (not_no _)
   refine back4 (k + 1, g14) _ _ ⟨hbase, (by exact zs1), (by exact zs2), (by exact zs4), rfl, r_g_v, r_to_v, bx5, bx10, by omega, ?_⟩ ?_
   · show ∀ v ∈ List.take (k + 1) to, 0 ≤ v ∧ v < g.1
     rw [take_succ_gI (by assumption)]
     intro v hv
     rcases List.mem_append.1 hv with h | h
     · exact hinv v h
     · obtain rfl := List.mem_singleton.1 h
       omega
   · show Int.toNat (((List.length to : Int) : Int) - ((k + 1) : Int)) < Int.toNat (((List.length to : Int) : Int) - (k : Int))
     omega
  refine run_cond_f rfl (decide_eq_false p4) ?_
  refine run_exit rfl ?_
  refine run_seq (run_region rfl ?_)
  refine lv (to_v) rfl (e_move (by exact zs1)) ?_
  refine lv (Value.pointer (some ⟨b3, 0, none⟩)) rfl (e_fieldAddr Try.underlying24 rfl rfl (by exact zs2) rfl) ?_
  refine lv (Value.int .i64 g.1) rfl (e_load_bx1 tp3_e rfl bx5 rfl) ?_
  refine l_op rfl ?_
  refine o_call (v := Value.int .i64 (chosenS to g.1)) (e_call (vals := [to_v, Value.int .i64 g.1]) Try.func106 bd106_e nm106_e rfl) (rChosen_ok w13 to to_v (r_to_v).ro g.1) ?_
  intro w29 hb30
  replace hb30 := chg_below hb30 g14
  refine lv (Value.int .i64 (chosenS to g.1)) rfl (e_assign rfl) ?_
  refine l_nil (run_seq (run_seq (run_region rfl ?_)))
  refine lv (Value.int .i64 (chosenS to g.1)) rfl (e_move rfl) ?_
  refine lv (Value.bool (!(decide ((chosenS to g.1) = 0)))) rfl (e_neq (m := chosenS to g.1) (n := 0) rfl rfl) ?_
  refine l_nil ?_
  by_cases p9 : (chosenS to g.1) = 0
  ·
   refine run_cond_f rfl (congrArg Bool.not (decide_eq_true p9)) ?_
   refine run_skip ?_
   refine run_seq (run_region rfl ?_)
   replace bx5 := bx5.chg hb30 (not_no _)
   refine lv (Value.agg (List.toArray [Value.int .i64 g.1, g_v])) rfl (e_load_bxN (ds := [Value.int .i64 g.1, g_v]) tp24_e (by exact zs2) bx5 rfl rfl) ?_
   replace r_g_v := r_g_v.chg hb30 (not_no _)
   refine l_op rfl ?_
   refine o_callx (e_call (vals := [Value.agg (List.toArray [Value.int .i64 g.1, g_v])]) Try.func82 bd82_e nm82_e rfl) (rCopy_ok w29 g g_v (r_g_v).ro (by first | assumption | omega)) ?_
   rintro ⟨d32, v34⟩ w31 ⟨fr33, o35⟩
   obtain ⟨g36, hg36⟩ : ∃ q, q = glue w29.heap.size g14 d32 (fun n => if n = 1 then 3 else 0) := ⟨_, rfl⟩
   have ch37 := chg_glue fr33.below g14 d32 (fun n => if n = 1 then 3 else 0)
   rw [← hg36] at ch37
   replace o35 := o35.glue (γ := g14) (ren := (fun n => if n = 1 then 3 else 0)) (k := 3) fr33.col rfl rfl
   rw [← hg36] at o35
   clear hg36
   refine l_op rfl ?_
   refine o_alloc g36 (is 4) (4, 0) rfl tp24_e ?_
   intro g41 w38 b40 ch39 bx42
   replace bx42 : Bx g41 (is 4) w38 b40 [Value.int .i64 0, Value.slice none 0 0] := bx42
   refine l_op rfl ?_
   replace o35 := o35.chg ch39 (not_no _) (not_no _)
   refine o_store_bx (cs' := [Value.int .i64 g.1, v34]) tp24_e rfl rfl bx42 rfl (Nat.le_of_ble_eq_true rfl) (AllOne.all (.cons rfl (.cons (sl_one o35.flat) .nil))) rfl ?_
   intro w43 ch44 bx45
   clear bx42
   refine l_nil (run_seq (run_seq (run_region rfl ?_)))
   refine lv (Value.int .i64 0) rfl (e_assign rfl) ?_
   refine l_nil ?_
   refine run_block ?_
   refine run_loop (σ := Nat × (List ((Int) × (Int))) × Cmap) (fun ⟨i, es_, gq⟩ f w => Base w0 gq w ∧ f 1 = to_v ∧ f 2 = Value.pointer (some ⟨b3, 0, none⟩) ∧ f 4 = Value.pointer (some ⟨b8, 0, none⟩) ∧ f 8 = Value.pointer (some ⟨b40, 0, none⟩) ∧ f 9 = Value.int .i64 (i : Int) ∧ Sl gq (is 0) w g_v g.2 ∧ Sl gq (is 0) w to_v to ∧ Bx gq (is 1) w b3 [Value.int .i64 g.1, g_v] ∧ Bx gq (is 2) w b8 [Value.int .i64 0, Value.slice none 0 0] ∧ Ow gq (is 3) (is 3) w v34 es_ ∧ Bx gq (is 4) w b40 [Value.int .i64 g.1, v34] ∧ (es_ = (List.take i g.2).map (renS to) ++ List.drop i g.2 ∧ i ≤ g.2.length)) (fun ⟨i, es_, gq⟩ => g.2.length - i) (0, g.2, g41) ?_ ?_
   have C46 : Chg (inl [4]) _ _ _ _ := (hb30.n).seq ((ch37.n).seq ((ch39.n).seq (ch44.l rfl)))
   replace hbase := hbase.chg C46 (is_nl rfl)
   have C47 : Chg (inl [4]) _ _ _ _ := (ch37.n).seq ((ch39.n).seq (ch44.l rfl))
   replace r_g_v := r_g_v.chg C47 (is_nl rfl)
   replace r_to_v := r_to_v.chg C46 (is_nl rfl)
   replace bx5 := bx5.chg C47 (is_nl rfl)
   replace bx10 := bx10.chg C46 (is_nl rfl)
   replace o35 := o35.chg ch44 (is_ne rfl) (is_ne rfl)
   · exact ⟨hbase, (by exact zs1), (by exact zs2), (by exact zs4), rfl, rfl, r_g_v, r_to_v, bx5, bx10, o35, bx45, by simp⟩
   clear r_g_v r_to_v bx5 bx10 o35 bx45 hbase
   rintro ⟨i, es_, g50⟩ f48 w49 ⟨hbase, zs1, zs2, zs4, zs8, zs9, r_g_v, r_to_v, bx5, bx10, o35, bx45, hinv1⟩ back13
   have hi1 := hinv1.1
   have hi2 := hinv1.2
   have hlen : es_.length = g.2.length := by rw [hi1]; exact ren_len (by omega)
   refine run_seq (run_seq (run_region rfl ?_))
   refine lv (Value.int .i64 (i : Int)) rfl (e_move (by exact zs9)) ?_
   refine lv (Value.pointer (some ⟨b40, 1, none⟩)) rfl (e_fieldAddr Try.underlying24 rfl rfl (by exact zs8) rfl) ?_
   refine lv (v34) rfl (e_load_bx1 tp22_e rfl bx45 rfl) ?_
   have len51 := (o35.flat).small
   refine lv (Value.int .i64 (List.length es_ : Int)) rfl (e_len Try.underlying22 rfl o35.flat) ?_
   refine lv (Value.bool (decide ((i : Int) < (List.length es_ : Int)))) rfl (e_lss (m := (i : Int)) (n := (List.length es_ : Int)) rfl rfl) ?_
   refine l_nil ?_
   by_cases p13 : (i : Int) < (List.length es_ : Int)
   ·
    refine run_cond_t rfl (decide_eq_true p13) ?_
    obtain ⟨⟨he1, he2⟩, he3, he4⟩ := hm4 _ (gI_mem (xs := g.2) (i := (i : Int)) (by omega) (by omega))
    refine run_skip ?_
    refine run_seq ?_
    refine run_block ?_
    refine run_region_x g50 [0, 1, 2, 3, 4, 5, 6, 7, 8, 9, 10, 11, 12, 13, 14, 15, 16, 17, 18, 19, 20, 21, 22] mixed_e ?_
    intro w53 ch52
    refine x_pure (v := Value.pointer (some ⟨b40, 1, none⟩)) 0 rfl (by kernel_rfl) (by kernel_rfl) rfl (fun w => e_fieldAddr Try.underlying24 rfl rfl (by exact zs8) rfl) ?_
    replace bx45 := bx45.chg ch52 (not_no _)
    refine x_val (v := v34) 1 [0, 2, 3, 4, 6, 12, 13, 15, 5, 14, 7, 16, 8, 17, 9, 18, 10, 19, 11, 20, 21] rfl (by kernel_rfl) (by kernel_rfl) rfl (e_load_bx1 tp22_e rfl bx45 rfl) ?_
    refine x_pure (v := Value.int .i64 (i : Int)) 2 rfl (by kernel_rfl) (by kernel_rfl) rfl (fun w => e_move (by exact zs9)) ?_
    refine x_pure (v := to_v) 3 rfl (by kernel_rfl) (by kernel_rfl) rfl (fun w => e_move (by exact zs1)) ?_
    refine x_pure (v := Value.pointer (some ⟨b3, 1, none⟩)) 4 rfl (by kernel_rfl) (by kernel_rfl) rfl (fun w => e_fieldAddr Try.underlying24 rfl rfl (by exact zs2) rfl) ?_
    replace bx5 := bx5.chg ch52 (not_no _)
    refine x_val (v := g_v) 5 [4, 3, 2, 1, 0, 6, 12, 13, 15, 14, 16, 17, 18, 19, 20] rfl (by kernel_rfl) (by kernel_rfl) rfl (e_load_bx1 tp22_e rfl bx5 rfl) ?_
    refine x_pure (v := Value.int .i64 (i : Int)) 6 rfl (by kernel_rfl) (by kernel_rfl) rfl (fun w => e_move (by exact zs9)) ?_
    replace r_g_v := r_g_v.chg ch52 (not_no _)
    refine x_val (v := Value.pointer (some (eAddr g_v 2 (Int.toNat (i : Int))))) 7 [6, 5, 4, 3, 2, 1, 0, 12, 13, 15, 14, 16, 17, 18, 19, 20] rfl (by kernel_rfl) (by kernel_rfl) rfl (e_indexAddr (α := (Int) × (Int)) (xs := g.2) (v := g_v) (i := (i : Int)) Try.underlying22 rfl rfl r_g_v rfl (by omega) (by omega)) ?_
    refine x_val (v := Value.pointer (some ⟨(eAddr g_v 2 (Int.toNat (i : Int))).block, (eAddr g_v 2 (Int.toNat (i : Int))).off + 0, none⟩)) 8 [7, 6, 5, 4, 3, 2, 1, 0, 12, 13, 15, 14, 16, 17, 18, 19, 20] rfl (by kernel_rfl) (by kernel_rfl) rfl (e_indexAddr_el Try.underlying60 rfl rfl rfl (by decide) (by decide) rfl) ?_
    refine x_val (v := Value.int .i64 ((gI g.2 (i : Int)).1)) 9 [8, 7, 6, 5, 4, 3, 2, 1, 0, 12, 13, 15, 14, 16, 17, 18, 19, 20] rfl (by kernel_rfl) (by kernel_rfl) rfl (e_load_elF (α := (Int) × (Int)) (xs := g.2) (v := g_v) (i := (i : Int)) tp3_e rfl r_g_v (by omega) (by omega) (by decide) rfl) ?_
    replace r_to_v := r_to_v.chg ch52 (not_no _)
    refine x_val (v := Value.pointer (some (eAddr to_v 1 (Int.toNat ((gI g.2 (i : Int)).1))))) 10 [9, 8, 7, 6, 5, 4, 3, 2, 1, 0, 12, 13, 15, 14, 16, 17, 18, 19, 20] rfl (by kernel_rfl) (by kernel_rfl) rfl (e_indexAddr (α := Int) (xs := to) (v := to_v) (i := (gI g.2 (i : Int)).1) Try.underlying27 rfl rfl r_to_v rfl (by omega) (by omega)) ?_
    refine x_val (v := Value.int .i64 (gI to ((gI g.2 (i : Int)).1))) 11 [10, 9, 8, 7, 6, 5, 4, 3, 2, 1, 0, 12, 13, 15, 14, 16, 17, 18, 19, 20] rfl (by kernel_rfl) (by kernel_rfl) rfl (e_load_el1 (α := Int) (xs := to) (v := to_v) (i := (gI g.2 (i : Int)).1) tp3_e rfl r_to_v (by omega) (by omega) (by decide) rfl) ?_
    refine x_pure (v := to_v) 12 rfl (by kernel_rfl) (by kernel_rfl) rfl (fun w => e_move (by exact zs1)) ?_
    refine x_pure (v := Value.pointer (some ⟨b3, 1, none⟩)) 13 rfl (by kernel_rfl) (by kernel_rfl) rfl (fun w => e_fieldAddr Try.underlying24 rfl rfl (by exact zs2) rfl) ?_
    refine x_val (v := g_v) 14 [13, 12, 11, 10, 9, 8, 7, 6, 5, 4, 3, 2, 1, 0, 15] rfl (by kernel_rfl) (by kernel_rfl) rfl (e_load_bx1 tp22_e rfl bx5 rfl) ?_
    refine x_pure (v := Value.int .i64 (i : Int)) 15 rfl (by kernel_rfl) (by kernel_rfl) rfl (fun w => e_move (by exact zs9)) ?_
    refine x_val (v := Value.pointer (some (eAddr g_v 2 (Int.toNat (i : Int))))) 16 [15, 14, 13, 12, 11, 10, 9, 8, 7, 6, 5, 4, 3, 2, 1, 0] rfl (by kernel_rfl) (by kernel_rfl) rfl (e_indexAddr (α := (Int) × (Int)) (xs := g.2) (v := g_v) (i := (i : Int)) Try.underlying22 rfl rfl r_g_v rfl (by omega) (by omega)) ?_
    refine x_val (v := Value.pointer (some ⟨(eAddr g_v 2 (Int.toNat (i : Int))).block, (eAddr g_v 2 (Int.toNat (i : Int))).off + 1, none⟩)) 17 [16, 15, 14, 13, 12, 11, 10, 9, 8, 7, 6, 5, 4, 3, 2, 1, 0] rfl (by kernel_rfl) (by kernel_rfl) rfl (e_indexAddr_el Try.underlying60 rfl rfl rfl (by decide) (by decide) rfl) ?_
    refine x_val (v := Value.int .i64 ((gI g.2 (i : Int)).2)) 18 [17, 16, 15, 14, 13, 12, 11, 10, 9, 8, 7, 6, 5, 4, 3, 2, 1, 0] rfl (by kernel_rfl) (by kernel_rfl) rfl (e_load_elF (α := (Int) × (Int)) (xs := g.2) (v := g_v) (i := (i : Int)) tp3_e rfl r_g_v (by omega) (by omega) (by decide) rfl) ?_
    refine x_val (v := Value.pointer (some (eAddr to_v 1 (Int.toNat ((gI g.2 (i : Int)).2))))) 19 [18, 17, 16, 15, 14, 13, 12, 11, 10, 9, 8, 7, 6, 5, 4, 3, 2, 1, 0] rfl (by kernel_rfl) (by kernel_rfl) rfl (e_indexAddr (α := Int) (xs := to) (v := to_v) (i := (gI g.2 (i : Int)).2) Try.underlying27 rfl rfl r_to_v rfl (by omega) (by omega)) ?_
    refine x_val (v := Value.int .i64 (gI to ((gI g.2 (i : Int)).2))) 20 [19, 18, 17, 16, 15, 14, 13, 12, 11, 10, 9, 8, 7, 6, 5, 4, 3, 2, 1, 0] rfl (by kernel_rfl) (by kernel_rfl) rfl (e_load_el1 (α := Int) (xs := to) (v := to_v) (i := (gI g.2 (i : Int)).2) tp3_e rfl r_to_v (by omega) (by omega) (by decide) rfl) ?_
    refine x_pure (v := Value.agg (List.toArray [Value.int .i64 (gI to ((gI g.2 (i : Int)).1)), Value.int .i64 (gI to ((gI g.2 (i : Int)).2))])) 21 rfl (by kernel_rfl) (by kernel_rfl) rfl (fun w => e_build (vs := [(0, Value.int .i64 (gI to ((gI g.2 (i : Int)).1))), (1, Value.int .i64 (gI to ((gI g.2 (i : Int)).2)))]) rfl (by kernel_rfl)) ?_
    replace o35 := o35.chg ch52 (not_no _) (not_no _)
    refine x_val (v := Value.pointer (some (eAddr v34 2 (Int.toNat (i : Int))))) 22 [21, 20, 19, 18, 17, 16, 15, 14, 13, 12, 11, 10, 9, 8, 7, 6, 5, 4, 3, 2, 1, 0] rfl (by kernel_rfl) (by kernel_rfl) rfl (e_indexAddr (α := (Int) × (Int)) (xs := es_) (v := v34) (i := (i : Int)) Try.underlying22 rfl rfl o35.flat rfl (by omega) (by omega)) ?_
    refine x_one 23 rfl (by kernel_rfl) rfl ?_
    refine o_store_el (i := (i : Int)) ((gI to ((gI g.2 (i : Int)).1)), (gI to ((gI g.2 (i : Int)).2))) tp60_e rfl rfl o35 (by omega) (by omega) rfl ?_
    intro w54 ch55 bx56
    clear o35
    refine x_nil (by kernel_rfl) ?_
    refine run_inBlock ?_
    refine run_region rfl ?_
    refine lv (Value.int .i64 (i : Int)) rfl (e_move (by exact zs9)) ?_
    refine lv (Value.int .i64 ((i : Int) + 1)) rfl (e_add (m := (i : Int)) (n := 1) rfl rfl (by omega)) ?_
    refine lv (Value.int .i64 ((i : Int) + 1)) rfl (e_assign rfl) ?_
    refine l_nil ?_
    replace hbase := hbase.chg ch52 (not_no _)
    replace hbase := hbase.chg ch55 (is_ne rfl)
    replace r_g_v := r_g_v.chg ch55 (is_ne rfl)
    replace r_to_v := r_to_v.chg ch55 (is_ne rfl)
    replace bx5 := bx5.chg ch55 (is_ne rfl)
    replace bx10 := (bx10.chg ch52 (not_no _)).chg ch55 (is_ne rfl)
    replace bx45 := bx45.chg ch55 (is_ne rfl)
    refine back13 (i + 1, (List.set es_ (Int.toNat (i : Int)) ((gI to ((gI g.2 (i : Int)).1)), (gI to ((gI g.2 (i : Int)).2)))), g50) _ _ ⟨hbase, (by exact zs1), (by exact zs2), (by exact zs4), (by exact zs8), rfl, r_g_v, r_to_v, bx5, bx10, bx56, bx45, ?_⟩ ?_
    · show (List.set es_ (Int.toNat (i : Int)) ((gI to ((gI g.2 (i : Int)).1)), (gI to ((gI g.2 (i : Int)).2)))) = (List.take (i + 1) g.2).map (renS to) ++ List.drop (i + 1) g.2 ∧ (i + 1) ≤ g.2.length
      refine ⟨?_, by omega⟩
      rw [hi1]
      exact ren_next (by omega) rfl rfl
    · show g.2.length - (i + 1) < g.2.length - i
      omega
   refine run_cond_f rfl (decide_eq_false p13) ?_
   refine run_exit rfl ?_
   refine run_seq ?_
   clear bx5
   refine run_region rfl ?_
   refine lv (Value.agg (List.toArray [Value.int .i64 g.1, v34])) rfl (e_load_bxN (ds := [Value.int .i64 g.1, v34]) tp24_e (by exact zs8) bx45 rfl rfl) ?_
   refine l_op rfl ?_
   refine o_store_bx (cs' := [Value.int .i64 g.1, v34]) tp24_e (by exact zs4) rfl bx10 rfl (Nat.le_of_ble_eq_true rfl) (AllOne.all (.cons rfl (.cons (sl_one o35.flat) .nil))) rfl ?_
   intro w57 ch58 bx59
   clear bx10
   refine lv (Value.int .i64 0) rfl (e_assign rfl) ?_
   refine l_nil ?_
   refine run_ret (vs := [Value.agg (List.toArray [Value.int .i64 g.1, v34]), Value.int .i64 0]) Try.func94 (.cell (by exact zs4) (load_bxN (ds := [Value.int .i64 g.1, v34]) tp24_e bx59 rfl rfl) (.tmp rfl .nil)) ?_
   replace hbase := hbase.chg ch58 (is_ne rfl)
   replace o35 := o35.chg ch58 (is_ne rfl) (is_ne rfl)
   have e0 : ((g.1, es_) : (Int) × (List ((Int) × (Int)))) = ((movedR g to).1) := by
     first
       | (have ha : ∀ v ∈ to, 0 ≤ v ∧ v < g.1 := by rw [List.take_of_length_le (by omega)] at hinv; exact hinv
          simp only [movedR, if_pos hmay]; rw [if_pos (by omega), if_pos ha, if_pos (by assumption)]
          simp only [renR]; rw [hi1, List.take_of_length_le (by omega), List.drop_eq_nil_of_le (by omega), List.append_nil]; done)
       | (have ha : ∀ v ∈ to, 0 ≤ v ∧ v < g.1 := by rw [List.take_of_length_le (by omega)] at hinv; exact hinv
          simp only [movedR, if_pos hmay]; rw [if_pos (by omega), if_pos ha, if_pos (by assumption)]; done)
       | (have ha : ∀ v ∈ to, 0 ≤ v ∧ v < g.1 := by rw [List.take_of_length_le (by omega)] at hinv; exact hinv
          simp only [movedR, if_pos hmay]; rw [if_pos (by omega), if_pos ha, if_neg (by assumption)]; done)
       | (have ha : ¬ ∀ v ∈ to, 0 ≤ v ∧ v < g.1 := fun h => by have := h _ (gI_mem (xs := to) (i := (k : Int)) (by omega) (by assumption)); omega
          simp only [movedR, if_pos hmay]; rw [if_pos (by omega), if_neg ha]; done)
       | (simp only [movedR, if_pos hmay]; rw [if_neg (by omega)]; done)
   have e1 : (0 : Int) = ((movedR g to).2) := by
     first
       | (have ha : ∀ v ∈ to, 0 ≤ v ∧ v < g.1 := by rw [List.take_of_length_le (by omega)] at hinv; exact hinv
          simp only [movedR, if_pos hmay]; rw [if_pos (by omega), if_pos ha, if_pos (by assumption)]
          simp only [renR]; rw [hi1, List.take_of_length_le (by omega), List.drop_eq_nil_of_le (by omega), List.append_nil]; done)
       | (have ha : ∀ v ∈ to, 0 ≤ v ∧ v < g.1 := by rw [List.take_of_length_le (by omega)] at hinv; exact hinv
          simp only [movedR, if_pos hmay]; rw [if_pos (by omega), if_pos ha, if_pos (by assumption)]; done)
       | (have ha : ∀ v ∈ to, 0 ≤ v ∧ v < g.1 := by rw [List.take_of_length_le (by omega)] at hinv; exact hinv
          simp only [movedR, if_pos hmay]; rw [if_pos (by omega), if_pos ha, if_neg (by assumption)]; done)
       | (have ha : ¬ ∀ v ∈ to, 0 ≤ v ∧ v < g.1 := fun h => by have := h _ (gI_mem (xs := to) (i := (k : Int)) (by omega) (by assumption)); omega
          simp only [movedR, if_pos hmay]; rw [if_pos (by omega), if_neg ha]; done)
       | (simp only [movedR, if_pos hmay]; rw [if_neg (by omega)]; done)
   exact ⟨(fin w0 g50 (fun n => if n = 3 then 1 else 0), v34), (congr2 (a := (g.1, es_)) (b := 0) (fun (z0 : (Int) × (List ((Int) × (Int)))) (z1 : Int) => Ending.returned (Value.tuple (List.toArray [Value.agg (List.toArray [Value.int .i64 z0.1, v34]), Value.int .i64 z1]))) e0 e1), hbase.fresh _, ((congrArg (fun (z : (Int) × (List ((Int) × (Int)))) => z.2) e0) ▸ (o35.glue (γ := c0) (ren := (fun n => if n = 3 then 1 else 0)) (k := 1) hbase.col rfl rfl))⟩
  refine run_cond_t rfl (congrArg Bool.not (decide_eq_false p9)) ?_
  refine run_seq ?_
  clear bx5
  refine run_region rfl ?_
  refine lv (Value.agg (List.toArray [Value.int .i64 0, Value.slice none 0 0])) rfl (e_build (vs := []) rfl (by kernel_rfl)) ?_
  refine lv (Value.int .i64 (chosenS to g.1)) rfl (e_move rfl) ?_
  refine l_op rfl ?_
  replace bx10 := bx10.chg hb30 (not_no _)
  refine o_store_bx (cs' := [Value.int .i64 0, Value.slice none 0 0]) tp24_e (by exact zs4) rfl bx10 rfl (Nat.le_of_ble_eq_true rfl) (AllOne.all (.cons rfl (.cons rfl .nil))) rfl ?_
  intro w60 ch61 bx62
  clear bx10
  refine lv (Value.int .i64 (chosenS to g.1)) rfl (e_assign rfl) ?_
  refine l_nil ?_
  refine run_ret (vs := [Value.agg (List.toArray [Value.int .i64 0, Value.slice none 0 0]), Value.int .i64 (chosenS to g.1)]) Try.func94 (.cell (by exact zs4) (load_bxN (ds := [Value.int .i64 0, Value.slice none 0 0]) tp24_e bx62 rfl rfl) (.tmp rfl .nil)) ?_
  replace hbase := hbase.chg hb30 (not_no _)
  replace hbase := hbase.chg ch61 (is_ne rfl)
  have e0 : ((0, []) : (Int) × (List ((Int) × (Int)))) = ((movedR g to).1) := by
    first
      | (have ha : ∀ v ∈ to, 0 ≤ v ∧ v < g.1 := by rw [List.take_of_length_le (by omega)] at hinv; exact hinv
         simp only [movedR, if_pos hmay]; rw [if_pos (by omega), if_pos ha, if_pos (by assumption)]
         simp only [renR]; rw [hi1, List.take_of_length_le (by omega), List.drop_eq_nil_of_le (by omega), List.append_nil]; done)
      | (have ha : ∀ v ∈ to, 0 ≤ v ∧ v < g.1 := by rw [List.take_of_length_le (by omega)] at hinv; exact hinv
         simp only [movedR, if_pos hmay]; rw [if_pos (by omega), if_pos ha, if_pos (by assumption)]; done)
      | (have ha : ∀ v ∈ to, 0 ≤ v ∧ v < g.1 := by rw [List.take_of_length_le (by omega)] at hinv; exact hinv
         simp only [movedR, if_pos hmay]; rw [if_pos (by omega), if_pos ha, if_neg (by assumption)]; done)
      | (have ha : ¬ ∀ v ∈ to, 0 ≤ v ∧ v < g.1 := fun h => by have := h _ (gI_mem (xs := to) (i := (k : Int)) (by omega) (by assumption)); omega
         simp only [movedR, if_pos hmay]; rw [if_pos (by omega), if_neg ha]; done)
      | (simp only [movedR, if_pos hmay]; rw [if_neg (by omega)]; done)
  have e1 : (chosenS to g.1 : Int) = ((movedR g to).2) := by
    first
      | (have ha : ∀ v ∈ to, 0 ≤ v ∧ v < g.1 := by rw [List.take_of_length_le (by omega)] at hinv; exact hinv
         simp only [movedR, if_pos hmay]; rw [if_pos (by omega), if_pos ha, if_pos (by assumption)]
         simp only [renR]; rw [hi1, List.take_of_length_le (by omega), List.drop_eq_nil_of_le (by omega), List.append_nil]; done)
      | (have ha : ∀ v ∈ to, 0 ≤ v ∧ v < g.1 := by rw [List.take_of_length_le (by omega)] at hinv; exact hinv
         simp only [movedR, if_pos hmay]; rw [if_pos (by omega), if_pos ha, if_pos (by assumption)]; done)
      | (have ha : ∀ v ∈ to, 0 ≤ v ∧ v < g.1 := by rw [List.take_of_length_le (by omega)] at hinv; exact hinv
         simp only [movedR, if_pos hmay]; rw [if_pos (by omega), if_pos ha, if_neg (by assumption)]; done)
      | (have ha : ¬ ∀ v ∈ to, 0 ≤ v ∧ v < g.1 := fun h => by have := h _ (gI_mem (xs := to) (i := (k : Int)) (by omega) (by assumption)); omega
         simp only [movedR, if_pos hmay]; rw [if_pos (by omega), if_neg ha]; done)
      | (simp only [movedR, if_pos hmay]; rw [if_neg (by omega)]; done)
  exact ⟨(fin w0 g14 (fun n => 0), (Value.slice none 0 0)), (congr2 (a := (0, [])) (b := chosenS to g.1) (fun (z0 : (Int) × (List ((Int) × (Int)))) (z1 : Int) => Ending.returned (Value.tuple (List.toArray [Value.agg (List.toArray [Value.int .i64 z0.1, Value.slice none 0 0]), Value.int .i64 z1]))) e0 e1), hbase.fresh _, ((congrArg (fun (z : (Int) × (List ((Int) × (Int)))) => z.2) e0) ▸ Ow.nil)⟩
 refine run_cond_t rfl (congrArg Bool.not (decide_eq_false p1)) ?_
 refine run_seq ?_
 clear bx5
 refine run_region rfl ?_
 refine lv (Value.agg (List.toArray [Value.int .i64 0, Value.slice none 0 0])) rfl (e_build (vs := []) rfl (by kernel_rfl)) ?_
 refine l_op rfl ?_
 refine o_store_bx (cs' := [Value.int .i64 0, Value.slice none 0 0]) tp24_e rfl rfl bx10 rfl (Nat.le_of_ble_eq_true rfl) (AllOne.all (.cons rfl (.cons rfl .nil))) rfl ?_
 intro w63 ch64 bx65
 clear bx10
 refine lv (Value.int .i64 2) rfl (e_assign rfl) ?_
 refine l_nil ?_
 refine run_ret (vs := [Value.agg (List.toArray [Value.int .i64 0, Value.slice none 0 0]), Value.int .i64 2]) Try.func94 (.cell rfl (load_bxN (ds := [Value.int .i64 0, Value.slice none 0 0]) tp24_e bx65 rfl rfl) (.tmp rfl .nil)) ?_
 have C66 : Chg (inl [2]) _ _ _ _ := (ch2.n).seq ((ch7.n).seq (ch64.l rfl))
 replace hbase := hbase.chg C66 (is_nl rfl)
 have e0 : ((0, []) : (Int) × (List ((Int) × (Int)))) = ((movedR g to).1) := by
   first
     | (have ha : ∀ v ∈ to, 0 ≤ v ∧ v < g.1 := by rw [List.take_of_length_le (by omega)] at hinv; exact hinv
        simp only [movedR, if_pos hmay]; rw [if_pos (by omega), if_pos ha, if_pos (by assumption)]
        simp only [renR]; rw [hi1, List.take_of_length_le (by omega), List.drop_eq_nil_of_le (by omega), List.append_nil]; done)
     | (have ha : ∀ v ∈ to, 0 ≤ v ∧ v < g.1 := by rw [List.take_of_length_le (by omega)] at hinv; exact hinv
        simp only [movedR, if_pos hmay]; rw [if_pos (by omega), if_pos ha, if_pos (by assumption)]; done)
     | (have ha : ∀ v ∈ to, 0 ≤ v ∧ v < g.1 := by rw [List.take_of_length_le (by omega)] at hinv; exact hinv
        simp only [movedR, if_pos hmay]; rw [if_pos (by omega), if_pos ha, if_neg (by assumption)]; done)
     | (have ha : ¬ ∀ v ∈ to, 0 ≤ v ∧ v < g.1 := fun h => by have := h _ (gI_mem (xs := to) (i := (k : Int)) (by omega) (by assumption)); omega
        simp only [movedR, if_pos hmay]; rw [if_pos (by omega), if_neg ha]; done)
     | (simp only [movedR, if_pos hmay]; rw [if_neg (by omega)]; done)
 have e1 : (2 : Int) = ((movedR g to).2) := by
   first
     | (have ha : ∀ v ∈ to, 0 ≤ v ∧ v < g.1 := by rw [List.take_of_length_le (by omega)] at hinv; exact hinv
        simp only [movedR, if_pos hmay]; rw [if_pos (by omega), if_pos ha, if_pos (by assumption)]
        simp only [renR]; rw [hi1, List.take_of_length_le (by omega), List.drop_eq_nil_of_le (by omega), List.append_nil]; done)
     | (have ha : ∀ v ∈ to, 0 ≤ v ∧ v < g.1 := by rw [List.take_of_length_le (by omega)] at hinv; exact hinv
        simp only [movedR, if_pos hmay]; rw [if_pos (by omega), if_pos ha, if_pos (by assumption)]; done)
     | (have ha : ∀ v ∈ to, 0 ≤ v ∧ v < g.1 := by rw [List.take_of_length_le (by omega)] at hinv; exact hinv
        simp only [movedR, if_pos hmay]; rw [if_pos (by omega), if_pos ha, if_neg (by assumption)]; done)
     | (have ha : ¬ ∀ v ∈ to, 0 ≤ v ∧ v < g.1 := fun h => by have := h _ (gI_mem (xs := to) (i := (k : Int)) (by omega) (by assumption)); omega
        simp only [movedR, if_pos hmay]; rw [if_pos (by omega), if_neg ha]; done)
     | (simp only [movedR, if_pos hmay]; rw [if_neg (by omega)]; done)
 exact ⟨(fin w0 g9 (fun n => 0), (Value.slice none 0 0)), (congr2 (a := (0, [])) (b := 2) (fun (z0 : (Int) × (List ((Int) × (Int)))) (z1 : Int) => Ending.returned (Value.tuple (List.toArray [Value.agg (List.toArray [Value.int .i64 z0.1, Value.slice none 0 0]), Value.int .i64 z1]))) e0 e1), hbase.fresh _, ((congrArg (fun (z : (Int) × (List ((Int) × (Int)))) => z.2) e0) ▸ Ow.nil)⟩
end TL
