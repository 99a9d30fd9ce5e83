import Derived.Test.YtgaefcjhggdkcaaTlGenA
import Derived.Test.YtgaefcjhggdkcaaTlRef3
import Derived.Test.YtgaefcjhggdkcaaProg
import Derived.Test.YtgaefcjhggdkcaaTlNet2
import Derived.Test.YtgaefcjhggdkcaaTlEq
import Derived.Test.YtgaefcjhggdkcaaTlHold
import Derived.Test.YtgaefcjhggdkcaaTlDraw
import Derived.Test.YtgaefcjhggdkcaaTlMap
set_option linter.all false
set_option maxRecDepth 20000
namespace TL
open Go Go.Proofs
theorem mixed_r : Try.prog.follows .mixedOrders = true := by kernel_rfl
theorem tp3_r : Tp Try.prog 3 false 1 8 (.int .i64 0) := Tp.of (by kernel_rfl)
theorem tp4_r : Tp Try.prog 4 false 1 1 (.bool false) := Tp.of (by kernel_rfl)
theorem tp22_r : Tp Try.prog 22 false 1 24 (.slice none 0 0) := Tp.of (by kernel_rfl)
theorem tp24_r : Tp Try.prog 24 true 2 32 (.agg #[.int .i64 0, .slice none 0 0]) := Tp.of (by kernel_rfl)
theorem tp71_r : Tp Try.prog 71 true 2 16 (.agg #[.int .i64 0, .int .i64 0]) := Tp.of (by kernel_rfl)
theorem tp78_r : Tp Try.prog 78 true 5 40 (.agg #[.int .i64 0, .int .i64 0, .int .i64 0, .int .i64 0, .bool false]) := Tp.of (by kernel_rfl)
theorem bd24_r : Try.f24.body.isNone = false := rfl
theorem nm24_r : (Try.f24.name == "runtime.NumGoroutine") = false := by decide +kernel
theorem bd62_r : Try.f62.body.isNone = false := rfl
theorem nm62_r : (Try.f62.name == "runtime.NumGoroutine") = false := by decide +kernel
theorem bd66_r : Try.f66.body.isNone = false := rfl
theorem nm66_r : (Try.f66.name == "runtime.NumGoroutine") = false := by decide +kernel
theorem bd74_r : Try.f74.body.isNone = false := rfl
theorem nm74_r : (Try.f74.name == "runtime.NumGoroutine") = false := by decide +kernel
theorem bd100_r : Try.f100.body.isNone = false := rfl
theorem nm100_r : (Try.f100.name == "runtime.NumGoroutine") = false := by decide +kernel
theorem bd101_r : Try.f101.body.isNone = false := rfl
theorem nm101_r : (Try.f101.name == "runtime.NumGoroutine") = false := by decide +kernel
theorem bd102_r : Try.f102.body.isNone = false := rfl
theorem nm102_r : (Try.f102.name == "runtime.NumGoroutine") = false := by decide +kernel
theorem bd110_r : Try.f110.body.isNone = false := rfl
theorem nm110_r : (Try.f110.name == "runtime.NumGoroutine") = false := by decide +kernel

theorem rCopy_ok (w0 : World) (g : (Int) × (List ((Int) × (Int)))) (g_v : Value) (hg_v : Ro w0 g_v g.2) (hlen : g.2.length ≤ 1000000) :
    Calls Try.prog 100 #[Value.agg (List.toArray [Value.int .i64 g.1, g_v])] w0 (fun ee w => ∃ xx : Cmap × Value, ee = .returned ((fun ⟨δ, rv0⟩ => Value.agg (List.toArray [Value.int .i64 g.1, rv0])) xx) ∧ (fun (⟨δ, rv0⟩ : Cmap × Value) (w : World) => Fresh w0 δ w ∧ Ow δ (is 1) (is 1) w rv0 g.2) xx w) := by
 refine calls_of_run Try.func100 rfl (Nat.le_of_ble_eq_true rfl) ?_
 have hbase := Base.start w0
 have r_g_v := hg_v.sl
 refine run_seq ?_
 refine run_region rfl ?_
 refine l_op rfl ?_
 refine o_box c0 (is 1) (1, 0) rfl rfl ?_
 intro g4 w1 b3 ch2 bx5
 replace bx5 : Bx g4 (is 1) w1 b3 [Value.int .i64 g.1, g_v] := bx5
 refine l_op rfl ?_
 refine o_alloc g4 (is 2) (2, 0) rfl tp24_r ?_
 intro g9 w6 b8 ch7 bx10
 replace bx10 : Bx g9 (is 2) w6 b8 [Value.int .i64 0, Value.slice none 0 0] := bx10
 refine l_nil ?_
 refine run_seq ?_
 refine run_region_h g9 (inl [2, 3]) mixed_r ?_
 intro w12 ch11
 refine h_take (v := Value.pointer (some ⟨b3, 0, none⟩)) 0 rfl (by kernel_rfl) (by kernel_rfl) rfl (Chg.refl _ _ _) (fun w' hw' => e_fieldAddr Try.underlying24 rfl rfl rfl rfl) ?_
 replace bx5 := (bx5.chg ch7 (not_no _)).chg ch11 (not_no _)
 refine h_take (v := Value.int .i64 g.1) 1 rfl (by kernel_rfl) (by kernel_rfl) rfl (Chg.refl _ _ _) (fun w' hw' => e_load_bx1 tp3_r rfl (bx5.chg hw' (is_nl rfl)) rfl) ?_
 refine h_take (v := Value.pointer (some ⟨b3, 1, none⟩)) 2 rfl (by kernel_rfl) (by kernel_rfl) rfl (Chg.refl _ _ _) (fun w' hw' => e_fieldAddr Try.underlying24 rfl rfl rfl rfl) ?_
 refine h_take (v := g_v) 3 rfl (by kernel_rfl) (by kernel_rfl) rfl (Chg.refl _ _ _) (fun w' hw' => e_load_bx1 tp22_r rfl (bx5.chg hw' (is_nl rfl)) rfl) ?_
 refine h_one 4 rfl (by kernel_rfl) rfl ?_
 have C13 : Chg (inl []) _ _ _ _ := (ch2.n).seq ((ch7.n).seq (ch11.n))
 replace r_g_v := r_g_v.chg C13 (is_nl rfl)
 refine o_append (α := (Int) × (Int)) (xs := ([])) (ys := g.2) g9 (J := is 3) (S := is 3) (3, 0) rfl Try.underlying22 tp71_r (by decide) rfl rfl rfl Ow.nil r_g_v (by decide) (by first | omega | (simp; done) | (simp; omega)) ?_
 intro g14 w15 v16 ch17 o18
 replace o18 : Ow g14 (is 3) (is 3) w15 v16 g.2 := o18
 have hs19 : Chg (inl [2, 3]) _ _ _ _ := ch17.l rfl
 refine ⟨hs19.same, ?_⟩
 refine h_take (v := Value.agg (List.toArray [Value.int .i64 g.1, v16])) 5 rfl (by kernel_rfl) (by kernel_rfl) rfl hs19.same (fun w' hw' => e_build (vs := [(0, Value.int .i64 g.1), (1, v16)]) rfl (by rw [Sl.form o18.flat]; kernel_rfl)) ?_
 refine h_one 6 rfl (by kernel_rfl) rfl ?_
 replace bx10 := (bx10.chg ch11 (not_no _)).chg ch17 (is_ne rfl)
 refine o_store_bx (cs' := [Value.int .i64 g.1, v16]) tp24_r rfl rfl bx10 rfl (Nat.le_of_ble_eq_true rfl) (AllOne.all (.cons rfl (.cons (sl_one o18.flat) .nil))) rfl ?_
 intro w20 ch21 bx22
 clear bx10
 have hs23 := hs19.seq (ch21.l rfl)
 refine ⟨hs23.same, ?_⟩
 refine h_nil (by kernel_rfl) ?_
 refine run_ret (vs := [Value.agg (List.toArray [Value.int .i64 g.1, v16])]) Try.func100 (.cell rfl (load_bxN (ds := [Value.int .i64 g.1, v16]) tp24_r bx22 rfl rfl) .nil) ?_
 -- return 0
 have C24 : Chg (inl [2, 3]) _ _ _ _ := (ch2.n).seq ((ch7.n).seq ((ch11.n).seq ((ch17.l rfl).seq (ch21.l rfl))))
 replace hbase := hbase.chg C24 (is_nl rfl)
 replace o18 := o18.chg ch21 (is_ne rfl) (is_ne rfl)
 have e0 : (g : (Int) × (List ((Int) × (Int)))) = (g) := by
   rfl
 exact ⟨(fin w0 g14 (fun n => if n = 3 then 1 else 0), v16), (congrArg (a₁ := g) (fun (z0 : (Int) × (List ((Int) × (Int)))) => Ending.returned (Value.agg (List.toArray [Value.int .i64 z0.1, v16]))) e0), hbase.fresh _, ((congrArg (fun (z : (Int) × (List ((Int) × (Int)))) => z.2) e0) ▸ (o18.glue (γ := c0) (ren := (fun n => if n = 3 then 1 else 0)) (k := 1) hbase.col rfl rfl))⟩

theorem rChosen_ok (w0 : World) (l : List Int) (l_v : Value) (hl_v : Ro w0 l_v l) (n : Int) :
    Calls Try.prog 102 #[l_v, Value.int .i64 n] w0 (fun ee w => ee = .returned (Value.int .i64 (chosenS l n)) ∧ RowKit.Below w0.heap.size w0 w) := by
 refine calls_of_run Try.func102 rfl (Nat.le_of_ble_eq_true rfl) ?_
 have hbase := Base.start w0
 have r_l_v := hl_v.sl
 refine run_seq ?_
 refine run_region rfl ?_
 refine l_val (v := Value.int .i64 0) rfl (e_assign rfl) ?_
 refine l_nil ?_
 refine run_seq ?_
 refine run_seq ?_
 refine run_region rfl ?_
 refine l_val (v := Value.int .i64 0) rfl (e_assign rfl) ?_
 refine l_nil ?_
 refine run_block ?_
 refine run_loop (σ := Nat × Cmap) (fun ⟨i, gq⟩ f w => Base w0 gq w ∧ f 0 = l_v ∧ f 1 = Value.int .i64 n ∧ f 5 = Value.int .i64 (i : Int) ∧ Sl gq (is 0) w l_v l ∧ (i : Int) ≤ ((List.length l : Int) : Int) ∧ (ChoInv l n i)) (fun ⟨i, gq⟩ => Int.toNat (((List.length l : Int) : Int) - (i : Int))) (0, c0) ?_ ?_
 · exact ⟨hbase, rfl, rfl, rfl, r_l_v, by omega, by exact ChoInv.start l n⟩
 clear r_l_v
 clear hbase
 rintro ⟨i, g3⟩ f1 w2 ⟨hbase, zs0, zs1, zs5, r_l_v, hle_i, hinv⟩ back2
 refine run_seq ?_
 refine run_seq ?_
 refine run_region rfl ?_
 refine l_val (v := Value.int .i64 (i : Int)) rfl (e_move (by exact zs5)) ?_
 refine l_val (v := l_v) rfl (e_move (by exact zs0)) ?_
 have len4 := (r_l_v).small
 refine l_val (v := Value.int .i64 (List.length l : Int)) rfl (e_len Try.underlying35 rfl r_l_v) ?_
 refine l_val (v := Value.bool (decide ((i : Int) < (List.length l : Int)))) rfl (e_lss (m := (i : Int)) (n := (List.length l : Int)) rfl rfl) ?_
 refine l_nil ?_
 by_cases p2 : (i : Int) < (List.length l : Int)
 ·
  refine run_cond_t rfl (decide_eq_true p2) ?_
  refine run_skip ?_
  refine run_seq ?_
  refine run_block ?_
  refine run_seq ?_
  refine run_seq ?_
  refine run_region rfl ?_
  refine l_val (v := l_v) rfl (e_move (by exact zs0)) ?_
  refine l_val (v := Value.int .i64 (i : Int)) rfl (e_move (by exact zs5)) ?_
  refine l_val (v := Value.pointer (some (eAddr l_v 1 (Int.toNat (i : Int))))) rfl (e_indexAddr (α := Int) (xs := l) (v := l_v) (i := (i : Int)) Try.underlying35 rfl rfl r_l_v rfl (by omega) (by omega)) ?_
  refine l_val (v := Value.int .i64 (gI l (i : Int))) rfl (e_load_el1 (α := Int) (xs := l) (v := l_v) (i := (i : Int)) tp3_r rfl r_l_v (by omega) (by omega) (by decide) rfl) ?_
  refine l_val (v := Value.bool (decide ((gI l (i : Int)) < 0))) rfl (e_lss (m := (gI l (i : Int))) (n := 0) rfl rfl) ?_
  refine l_val (v := Value.bool (decide ((gI l (i : Int)) < 0))) rfl (e_move rfl) ?_
  by_cases q18 : (gI l (i : Int)) < 0
  ·
   refine l_skip (want_n rfl rfl rfl (decide_eq_true q18)) ?_
   refine l_skip (want_n rfl rfl rfl (decide_eq_true q18)) ?_
   refine l_skip (want_n rfl rfl rfl (decide_eq_true q18)) ?_
   refine l_skip (want_n rfl rfl rfl (decide_eq_true q18)) ?_
   refine l_skip (want_n rfl rfl rfl (decide_eq_true q18)) ?_
   refine l_skip (want_n rfl rfl rfl (decide_eq_true q18)) ?_
   refine l_val (v := Value.bool true) rfl (e_pick_t rfl (decide_eq_true q18) rfl) ?_
   refine l_nil ?_
   refine run_cond_t rfl rfl ?_
   refine run_seq ?_
   refine run_region rfl ?_
   refine l_val (v := Value.int .i64 2) rfl (e_assign rfl) ?_
   refine l_nil ?_
   refine run_ret (vs := [Value.int .i64 2]) Try.func102 (.tmp rfl .nil) ?_
   -- return 0
   have e0 : (2 : Int) = (chosenS l n) := by
     first
       | exact hinv.bad (by assumption) (by omega)
       | exact hinv.twice (by assumption) (by omega) (by omega) (by rw [← p9]; exact mem_take_gI (by omega) (by omega))
       | exact hinv.done (by assumption)
   exact ⟨(congrArg (a₁ := 2) (fun (z0 : Int) => Ending.returned (Value.int .i64 z0)) e0), hbase.below⟩
  refine l_val (v := l_v) (want_y rfl rfl rfl (decide_eq_false q18)) (e_move (by exact zs0)) ?_
  refine l_val (v := Value.int .i64 (i : Int)) (want_y rfl rfl rfl (decide_eq_false q18)) (e_move (by exact zs5)) ?_
  refine l_val (v := Value.pointer (some (eAddr l_v 1 (Int.toNat (i : Int))))) (want_y rfl rfl rfl (decide_eq_false q18)) (e_indexAddr (α := Int) (xs := l) (v := l_v) (i := (i : Int)) Try.underlying35 rfl rfl r_l_v rfl (by omega) (by omega)) ?_
  refine l_val (v := Value.int .i64 (gI l (i : Int))) (want_y rfl rfl rfl (decide_eq_false q18)) (e_load_el1 (α := Int) (xs := l) (v := l_v) (i := (i : Int)) tp3_r rfl r_l_v (by omega) (by omega) (by decide) rfl) ?_
  refine l_val (v := Value.int .i64 n) (want_y rfl rfl rfl (decide_eq_false q18)) (e_move (by exact zs1)) ?_
  refine l_val (v := Value.bool (decide (n ≤ (gI l (i : Int))))) (want_y rfl rfl rfl (decide_eq_false q18)) (e_geq (m := (gI l (i : Int))) (n := n) rfl rfl) ?_
  refine l_val (v := Value.bool (decide (n ≤ (gI l (i : Int))))) rfl (e_pick_f rfl (decide_eq_false q18) rfl) ?_
  refine l_nil ?_
  by_cases p4 : n ≤ (gI l (i : Int))
  ·
   refine run_cond_t rfl (decide_eq_true p4) ?_
   refine run_seq ?_
   refine run_region rfl ?_
   refine l_val (v := Value.int .i64 2) rfl (e_assign rfl) ?_
   refine l_nil ?_
   refine run_ret (vs := [Value.int .i64 2]) Try.func102 (.tmp rfl .nil) ?_
   -- return 1
   have e0 : (2 : Int) = (chosenS l n) := by
     first
       | exact hinv.bad (by assumption) (by omega)
       | exact hinv.twice (by assumption) (by omega) (by omega) (by rw [← p9]; exact mem_take_gI (by omega) (by omega))
       | exact hinv.done (by assumption)
   exact ⟨(congrArg (a₁ := 2) (fun (z0 : Int) => Ending.returned (Value.int .i64 z0)) e0), hbase.below⟩
  refine run_cond_f rfl (decide_eq_false p4) ?_
  refine run_skip ?_
  refine run_seq ?_
  refine run_region rfl ?_
  refine l_val (v := Value.int .i64 0) rfl (e_assign rfl) ?_
  refine l_nil ?_
  refine run_block ?_
  refine run_loop (σ := Nat × Cmap) (fun ⟨k, gq⟩ f w => Base w0 gq w ∧ f 0 = l_v ∧ f 1 = Value.int .i64 n ∧ f 5 = Value.int .i64 (i : Int) ∧ f 6 = Value.int .i64 (k : Int) ∧ Sl gq (is 0) w l_v l ∧ (k : Int) ≤ ((i : Int) : Int) ∧ (∀ q : Nat, q < k → ¬ gI l (q : Int) = gI l (i : Int))) (fun ⟨k, gq⟩ => Int.toNat (((i : Int) : Int) - (k : Int))) (0, g3) ?_ ?_
  · exact ⟨hbase, (by exact zs0), (by exact zs1), (by exact zs5), rfl, r_l_v, by omega, by intro q hq; omega⟩
  clear r_l_v
  clear hbase
  rintro ⟨k, g7⟩ f5 w6 ⟨hbase, zs0, zs1, zs5, zs6, r_l_v, hle_k, hin⟩ back7
  refine run_seq ?_
  refine run_seq ?_
  refine run_region rfl ?_
  refine l_val (v := Value.int .i64 (k : Int)) rfl (e_move (by exact zs6)) ?_
  refine l_val (v := Value.int .i64 (i : Int)) rfl (e_move (by exact zs5)) ?_
  refine l_val (v := Value.bool (decide ((k : Int) < (i : Int)))) rfl (e_lss (m := (k : Int)) (n := (i : Int)) rfl rfl) ?_
  refine l_nil ?_
  by_cases p7 : (k : Int) < (i : Int)
  ·
   refine run_cond_t rfl (decide_eq_true p7) ?_
   refine run_skip ?_
   refine run_seq ?_
   refine run_block ?_
   refine run_seq ?_
   refine region_q g7 rfl mixed_r (by kernel_rfl) ?_
   intro w9 ch8
   refine q_val (v := l_v) rfl (fun w' hw' => e_move (by exact zs0)) ?_
   refine q_val (v := Value.int .i64 (k : Int)) rfl (fun w' hw' => e_move (by exact zs6)) ?_
   replace r_l_v := r_l_v.chg ch8 (not_no _)
   refine q_val (v := Value.pointer (some (eAddr l_v 1 (Int.toNat (k : Int))))) rfl (fun w' hw' => e_indexAddr (α := Int) (xs := l) (v := l_v) (i := (k : Int)) Try.underlying35 rfl rfl (r_l_v.bel hw') rfl (by omega) (by omega)) ?_
   refine q_val (v := Value.int .i64 (gI l (k : Int))) rfl (fun w' hw' => e_load_el1 (α := Int) (xs := l) (v := l_v) (i := (k : Int)) tp3_r rfl (r_l_v.bel hw') (by omega) (by omega) (by decide) rfl) ?_
   refine q_val (v := l_v) rfl (fun w' hw' => e_move (by exact zs0)) ?_
   refine q_val (v := Value.int .i64 (i : Int)) rfl (fun w' hw' => e_move (by exact zs5)) ?_
   refine q_val (v := Value.pointer (some (eAddr l_v 1 (Int.toNat (i : Int))))) rfl (fun w' hw' => e_indexAddr (α := Int) (xs := l) (v := l_v) (i := (i : Int)) Try.underlying35 rfl rfl (r_l_v.bel hw') rfl (by omega) (by omega)) ?_
   refine q_val (v := Value.int .i64 (gI l (i : Int))) rfl (fun w' hw' => e_load_el1 (α := Int) (xs := l) (v := l_v) (i := (i : Int)) tp3_r rfl (r_l_v.bel hw') (by omega) (by omega) (by decide) rfl) ?_
   refine q_val (v := Value.bool (decide ((gI l (k : Int)) = (gI l (i : Int))))) rfl (fun w' hw' => e_eql (m := (gI l (k : Int))) (n := (gI l (i : Int))) rfl rfl) ?_
   refine q_nil ?_
   intro w10 hc11
   replace hc11 := chg_below hc11 g7
   by_cases p9 : (gI l (k : Int)) = (gI l (i : Int))
   ·
    refine run_cond_t rfl (decide_eq_true p9) ?_
    refine run_seq ?_
    refine run_region rfl ?_
    refine l_val (v := Value.int .i64 18) rfl (e_assign rfl) ?_
    refine l_nil ?_
    refine run_ret (vs := [Value.int .i64 18]) Try.func102 (.tmp rfl .nil) ?_
    -- return 2
    have e0 : (18 : Int) = (chosenS l n) := by
      first
        | exact hinv.bad (by assumption) (by omega)
        | exact hinv.twice (by assumption) (by omega) (by omega) (by rw [← p9]; exact mem_take_gI (by omega) (by omega))
        | exact hinv.done (by assumption)
    replace hbase := hbase.chg ch8 (not_no _)
    replace hbase := hbase.chg hc11 (not_no _)
    exact ⟨(congrArg (a₁ := 18) (fun (z0 : Int) => Ending.returned (Value.int .i64 z0)) e0), hbase.below⟩
   refine run_cond_f rfl (decide_eq_false p9) ?_
   refine run_skip ?_
   refine run_inBlock ?_
   refine run_region rfl ?_
   refine l_val (v := Value.int .i64 (k : Int)) rfl (e_move (by exact zs6)) ?_
   refine l_val (v := Value.int .i64 ((k : Int) + 1)) rfl (e_add (m := (k : Int)) (n := 1) rfl rfl (by omega)) ?_
   refine l_val (v := Value.int .i64 ((k : Int) + 1)) rfl (e_assign rfl) ?_
   refine l_nil ?_
   replace hbase := hbase.chg ch8 (not_no _)
   replace hbase := hbase.chg hc11 (not_no _)
   replace r_l_v := r_l_v.chg hc11 (not_no _)
   refine back7 (k + 1, g7) _ _ ⟨hbase, (by exact zs0), (by exact zs1), (by exact zs5), rfl, r_l_v, by omega, ?_⟩ ?_
   · show ∀ q : Nat, q < (k + 1) → ¬ gI l (q : Int) = gI l (i : Int)
     intro q hq
     by_cases e : q = k
     · subst e; assumption
     · exact hin q (by omega)
   · show Int.toNat (((i : Int) : Int) - ((k + 1) : Int)) < Int.toNat (((i : Int) : Int) - (k : Int))
     omega
  refine run_cond_f rfl (decide_eq_false p7) ?_
  refine run_exit rfl ?_
  refine run_inBlock ?_
  refine run_region rfl ?_
  refine l_val (v := Value.int .i64 (i : Int)) rfl (e_move (by exact zs5)) ?_
  refine l_val (v := Value.int .i64 ((i : Int) + 1)) rfl (e_add (m := (i : Int)) (n := 1) rfl rfl (by omega)) ?_
  refine l_val (v := Value.int .i64 ((i : Int) + 1)) rfl (e_assign rfl) ?_
  refine l_nil ?_
  refine back2 (i + 1, g7) _ _ ⟨hbase, (by exact zs0), (by exact zs1), rfl, r_l_v, by omega, ?_⟩ ?_
  · show ChoInv l n (i + 1)
    exact hinv.next (by assumption) (by omega) (by omega) (fun hm => by
      obtain ⟨q, hq, e⟩ := List.mem_take_iff_getElem.1 hm
      have := hin q (by omega)
      apply this
      rw [← e]
      simp [gI, show q < l.length by omega])
  · show Int.toNat (((List.length l : Int) : Int) - ((i + 1) : Int)) < Int.toNat (((List.length l : Int) : Int) - (i : Int))
    omega
 refine run_cond_f rfl (decide_eq_false p2) ?_
 refine run_exit rfl ?_
 refine run_seq ?_
 refine run_region rfl ?_
 refine l_val (v := Value.int .i64 0) rfl (e_assign rfl) ?_
 refine l_nil ?_
 refine run_ret (vs := [Value.int .i64 0]) Try.func102 (.tmp rfl .nil) ?_
 -- return 3
 have e0 : (0 : Int) = (chosenS l n) := by
   first
     | exact hinv.bad (by assumption) (by omega)
     | exact hinv.twice (by assumption) (by omega) (by omega) (by rw [← p9]; exact mem_take_gI (by omega) (by omega))
     | exact hinv.done (by assumption)
 exact ⟨(congrArg (a₁ := 0) (fun (z0 : Int) => Ending.returned (Value.int .i64 z0)) e0), hbase.below⟩

theorem Room_ok (w0 : World) (n : Int) (all : Int) (hn : 0 ≤ n ∧ n ≤ 1099511627776) :
    Calls Try.prog 70 #[Value.int .i64 n, Value.int .i64 all] w0 (fun ee w => ee = .returned (Value.int .i64 (min all (n + 2000))) ∧ RowKit.Below w0.heap.size w0 w) := by
 refine calls_of_run Try.func70 rfl (Nat.le_of_ble_eq_true rfl) ?_
 have hbase := Base.start w0
 obtain ⟨hn1, hn2⟩ := hn
 refine run_seq ?_
 refine run_region rfl ?_
 refine l_val (v := Value.int .i64 0) rfl (e_assign rfl) ?_
 refine l_nil ?_
 refine run_seq ?_
 refine run_region rfl ?_
 refine l_val (v := Value.int .i64 all) rfl (e_move rfl) ?_
 refine l_val (v := Value.int .i64 n) rfl (e_move rfl) ?_
 refine l_val (v := Value.int .i64 (n + 2000)) rfl (e_add (m := n) (n := 2000) rfl rfl (by omega)) ?_
 refine l_val (v := Value.int .i64 (min all (n + 2000))) rfl (e_min rfl rfl) ?_
 refine l_val (v := Value.int .i64 (min all (n + 2000))) rfl (e_assign rfl) ?_
 refine l_nil ?_
 refine run_ret (vs := [Value.int .i64 (min all (n + 2000))]) Try.func70 (.tmp rfl .nil) ?_
 -- return 0
 have e0 : (min all (n + 2000) : Int) = (min all (n + 2000)) := by
   rfl
 exact ⟨(congrArg (a₁ := min all (n + 2000)) (fun (z0 : Int) => Ending.returned (Value.int .i64 z0)) e0), hbase.below⟩

theorem From_ok (w0 : World) (g : (Int) × (List ((Int) × (Int)))) (g_v : Value) (hg_v : Ro w0 g_v g.2) (h : Int) (hh : 0 ≤ h ∧ h < 2 * (g.2.length : Int)) (hlen : g.2.length ≤ 1000000) :
    Calls Try.prog 74 #[Value.agg (List.toArray [Value.int .i64 g.1, g_v]), Value.int .i64 h] w0 (fun ee w => ee = .returned (Value.int .i64 (fromS g h)) ∧ RowKit.Below w0.heap.size w0 w) := by
 refine calls_of_run Try.func74 rfl (Nat.le_of_ble_eq_true rfl) ?_
 have hbase := Base.start w0
 have r_g_v := hg_v.sl
 obtain ⟨hh1, hh2⟩ := hh
 refine run_seq ?_
 refine run_region rfl ?_
 refine l_op rfl ?_
 refine o_box c0 (is 1) (1, 0) rfl rfl ?_
 intro g4 w1 b3 ch2 bx5
 replace bx5 : Bx g4 (is 1) w1 b3 [Value.int .i64 g.1, g_v] := bx5
 refine l_val (v := Value.int .i64 0) rfl (e_assign rfl) ?_
 refine l_nil ?_
 refine run_seq ?_
 refine run_region rfl ?_
 refine l_val (v := Value.pointer (some ⟨b3, 1, none⟩)) rfl (e_fieldAddr Try.underlying24 rfl rfl rfl rfl) ?_
 refine l_val (v := g_v) rfl (e_load_bx1 tp22_r rfl bx5 rfl) ?_
 refine l_val (v := Value.int .i64 h) rfl (e_move rfl) ?_
 refine l_val (v := Value.int .i64 (h / 2)) rfl (e_quo (m := h) (n := 2) rfl rfl (by omega) (by omega) (by omega)) ?_
 refine l_val (v := Value.int .i64 h) rfl (e_move rfl) ?_
 refine l_val (v := Value.int .i64 (h % 2)) rfl (e_rem (m := h) (n := 2) rfl rfl (by omega) (by omega)) ?_
 replace r_g_v := r_g_v.chg ch2 (not_no _)
 refine l_val (v := Value.pointer (some (eAddr g_v 2 (Int.toNat (h / 2))))) rfl (e_indexAddr (α := (Int) × (Int)) (xs := g.2) (v := g_v) (i := h / 2) Try.underlying22 rfl rfl r_g_v rfl (by omega) (by omega)) ?_
 refine l_val (v := Value.pointer (some ⟨(eAddr g_v 2 (Int.toNat (h / 2))).block, (eAddr g_v 2 (Int.toNat (h / 2))).off + (Int.toNat (h % 2)), none⟩)) rfl (e_indexAddr_el (i := h % 2) Try.underlying71 rfl rfl rfl (by omega) (by omega) (Nat.mul_one _)) ?_
 refine l_val (v := Value.int .i64 (pI (gI g.2 (h / 2)) (h % 2))) rfl (e_load_elF (α := (Int) × (Int)) (xs := g.2) (v := g_v) (i := h / 2) tp3_r rfl r_g_v (by omega) (by omega) (show Int.toNat (h % 2) < 2 by omega) (pI_cells _ (by omega) (by omega))) ?_
 refine l_val (v := Value.int .i64 (pI (gI g.2 (h / 2)) (h % 2))) rfl (e_assign rfl) ?_
 refine l_nil ?_
 refine run_ret (vs := [Value.int .i64 (pI (gI g.2 (h / 2)) (h % 2))]) Try.func74 (.tmp rfl .nil) ?_
 -- return 0
 have e0 : (pI (gI g.2 (h / 2)) (h % 2) : Int) = (fromS g h) := by
   rfl
 replace hbase := hbase.chg ch2 (not_no _)
 exact ⟨(congrArg (a₁ := pI (gI g.2 (h / 2)) (h % 2)) (fun (z0 : Int) => Ending.returned (Value.int .i64 z0)) e0), hbase.below⟩

theorem rOut_ok (w0 : World) (g : (Int) × (List ((Int) × (Int)))) (g_v : Value) (hg_v : Ro w0 g_v g.2) (v : Int) (hlen : g.2.length ≤ 1000000) :
    Calls Try.prog 59 #[Value.agg (List.toArray [Value.int .i64 g.1, g_v]), Value.int .i64 v] w0 (fun ee w => ∃ xx : Cmap × Value, ee = .returned ((fun ⟨δ, rv0⟩ => rv0) xx) ∧ (fun (⟨δ, rv0⟩ : Cmap × Value) (w : World) => Fresh w0 δ w ∧ Ow δ (is 1) (is 1) w rv0 (outS g v)) xx w) := by
 refine calls_of_run Try.func59 rfl (Nat.le_of_ble_eq_true rfl) ?_
 have hbase := Base.start w0
 have r_g_v := hg_v.sl
 refine run_seq ?_
 refine run_region rfl ?_
 refine l_op rfl ?_
 refine o_box c0 (is 1) (1, 0) rfl rfl ?_
 intro g4 w1 b3 ch2 bx5
 replace bx5 : Bx g4 (is 1) w1 b3 [Value.int .i64 g.1, g_v] := bx5
 refine l_val (v := Value.slice none 0 0) rfl (e_assign rfl) ?_
 refine l_nil ?_
 refine run_seq ?_
 refine run_region rfl ?_
 refine l_val (v := Value.slice none 0 0) rfl (e_assign rfl) ?_
 refine l_nil ?_
 refine run_seq ?_
 refine run_seq ?_
 refine run_region rfl ?_
 refine l_val (v := Value.int .i64 0) rfl (e_assign rfl) ?_
 refine l_nil ?_
 refine run_block ?_
 refine run_loop (σ := Value × (List Int) × Nat × Cmap) (fun ⟨l_v, l, h, gq⟩ f w => Base w0 gq w ∧ f 1 = Value.int .i64 v ∧ f 2 = Value.pointer (some ⟨b3, 0, none⟩) ∧ f 5 = l_v ∧ f 6 = Value.int .i64 (h : Int) ∧ Sl gq (is 0) w g_v g.2 ∧ Bx gq (is 1) w b3 [Value.int .i64 g.1, g_v] ∧ Ow gq (is 3) (is 3) w l_v l ∧ (h : Int) ≤ (2 * (List.length g.2 : Int) : Int) ∧ (l = outH g v h)) (fun ⟨l_v, l, h, gq⟩ => Int.toNat ((2 * (List.length g.2 : Int) : Int) - (h : Int))) (Value.slice none 0 0, [], 0, g4) ?_ ?_
 replace hbase := hbase.chg ch2 (not_no _)
 replace r_g_v := r_g_v.chg ch2 (not_no _)
 · exact ⟨hbase, rfl, rfl, rfl, rfl, r_g_v, bx5, Ow.nil, by omega, by rfl⟩
 clear r_g_v
 clear bx5
 clear hbase
 rintro ⟨l_v, l, h, g8⟩ f6 w7 ⟨hbase, zs1, zs2, zs5, zs6, r_g_v, bx5, o_l, hle_h, hinv⟩ back3
 have hlo : l.length ≤ h := by rw [hinv]; exact outH_len g v h
 refine run_seq ?_
 refine run_seq ?_
 refine run_region rfl ?_
 refine l_val (v := Value.int .i64 (h : Int)) rfl (e_move (by exact zs6)) ?_
 refine l_val (v := Value.pointer (some ⟨b3, 1, none⟩)) rfl (e_fieldAddr Try.underlying24 rfl rfl (by exact zs2) rfl) ?_
 refine l_val (v := g_v) rfl (e_load_bx1 tp22_r rfl bx5 rfl) ?_
 have len9 := (r_g_v).small
 refine l_val (v := Value.int .i64 (List.length g.2 : Int)) rfl (e_len Try.underlying22 rfl r_g_v) ?_
 refine l_val (v := Value.int .i64 (2 * (List.length g.2 : Int))) rfl (e_mul (m := 2) (n := (List.length g.2 : Int)) rfl rfl (by omega)) ?_
 refine l_val (v := Value.bool (decide ((h : Int) < (2 * (List.length g.2 : Int))))) rfl (e_lss (m := (h : Int)) (n := 2 * (List.length g.2 : Int)) rfl rfl) ?_
 refine l_nil ?_
 by_cases p3 : (h : Int) < (2 * (List.length g.2 : Int))
 ·
  refine run_cond_t rfl (decide_eq_true p3) ?_
  refine run_skip ?_
  refine run_seq ?_
  refine run_block ?_
  refine run_seq ?_
  refine run_region rfl ?_
  refine l_val (v := Value.agg (List.toArray [Value.int .i64 g.1, g_v])) rfl (e_load_bxN (ds := [Value.int .i64 g.1, g_v]) tp24_r (by exact zs2) bx5 rfl rfl) ?_
  refine l_val (v := Value.int .i64 (h : Int)) rfl (e_move (by exact zs6)) ?_
  refine l_op rfl ?_
  refine o_call (v := Value.int .i64 (fromS g (h : Int))) (e_call (vals := [Value.agg (List.toArray [Value.int .i64 g.1, g_v]), Value.int .i64 (h : Int)]) Try.func74 bd74_r nm74_r rfl) (From_ok w7 g g_v (r_g_v).ro (h : Int) (by omega) (by omega)) ?_
  intro w10 hb11
  replace hb11 := chg_below hb11 g8
  refine l_val (v := Value.int .i64 v) rfl (e_move (by exact zs1)) ?_
  refine l_val (v := Value.bool (decide ((fromS g (h : Int)) = v))) rfl (e_eql (m := fromS g (h : Int)) (n := v) rfl rfl) ?_
  refine l_nil ?_
  by_cases p5 : (fromS g (h : Int)) = v
  ·
   refine run_cond_t rfl (decide_eq_true p5) ?_
   refine run_region rfl ?_
   refine l_val (v := l_v) rfl (e_move (by exact zs5)) ?_
   refine l_val (v := Value.int .i64 (h : Int)) rfl (e_move (by exact zs6)) ?_
   refine l_op rfl ?_
   refine o_buildSlice (α := Int) g8 (is 2) (is 2) (2, 0) rfl [(h : Int)] Try.underlying35 tp3_r (by decide) (by decide) (vs := [(0, Value.int .i64 (h : Int))]) rfl rfl (.cons rfl .nil) ?_
   intro g12 w13 v14 ch15 o16
   refine l_op rfl ?_
   replace o_l := (o_l.chg hb11 (not_no _) (not_no _)).chg ch15 (not_no _) (not_no _)
   refine o_append (α := Int) (xs := l) (ys := ([(h : Int)])) g12 (J := is 3) (S := is 3) (3, 0) rfl Try.underlying35 tp3_r (by decide) rfl rfl rfl o_l o16.flat (by decide) (by first | omega | (simp; done) | (simp; omega)) ?_
   intro g17 w18 v19 ch20 o21
   clear o_l
   refine l_val (v := v19) rfl (e_assign rfl) ?_
   refine l_nil ?_
   refine run_inBlock ?_
   clear o16
   refine run_region rfl ?_
   refine l_val (v := Value.int .i64 (h : Int)) rfl (e_move (by exact zs6)) ?_
   refine l_val (v := Value.int .i64 ((h : Int) + 1)) rfl (e_add (m := (h : Int)) (n := 1) rfl rfl (by omega)) ?_
   refine l_val (v := Value.int .i64 ((h : Int) + 1)) rfl (e_assign rfl) ?_
   refine l_nil ?_
   have C22 : Chg (inl [3]) _ _ _ _ := (hb11.n).seq ((ch15.n).seq (ch20.l rfl))
   replace hbase := hbase.chg C22 (is_nl rfl)
   replace r_g_v := r_g_v.chg C22 (is_nl rfl)
   replace bx5 := bx5.chg C22 (is_nl rfl)
   refine back3 (v19, (l ++ [(h : Int)]), h + 1, g17) _ _ ⟨hbase, (by exact zs1), (by exact zs2), rfl, rfl, r_g_v, bx5, o21, by omega, ?_⟩ ?_
   · show (l ++ [(h : Int)]) = outH g v (h + 1)
     first
       | (rw [outH_succ, if_pos (by assumption), hinv]; done)
       | (rw [outH_succ, if_neg (by assumption), hinv]; done)
   · show Int.toNat ((2 * (List.length g.2 : Int) : Int) - ((h + 1) : Int)) < Int.toNat ((2 * (List.length g.2 : Int) : Int) - (h : Int))
     omega
  refine run_cond_f rfl (decide_eq_false p5) ?_
  refine run_skip ?_
  refine run_inBlock ?_
  refine run_region rfl ?_
  refine l_val (v := Value.int .i64 (h : Int)) rfl (e_move (by exact zs6)) ?_
  refine l_val (v := Value.int .i64 ((h : Int) + 1)) rfl (e_add (m := (h : Int)) (n := 1) rfl rfl (by omega)) ?_
  refine l_val (v := Value.int .i64 ((h : Int) + 1)) rfl (e_assign rfl) ?_
  refine l_nil ?_
  replace hbase := hbase.chg hb11 (not_no _)
  replace r_g_v := r_g_v.chg hb11 (not_no _)
  replace bx5 := bx5.chg hb11 (not_no _)
  replace o_l := o_l.chg hb11 (not_no _) (not_no _)
  refine back3 (l_v, l, h + 1, g8) _ _ ⟨hbase, (by exact zs1), (by exact zs2), (by exact zs5), rfl, r_g_v, bx5, o_l, by omega, ?_⟩ ?_
  · show l = outH g v (h + 1)
    first
      | (rw [outH_succ, if_pos (by assumption), hinv]; done)
      | (rw [outH_succ, if_neg (by assumption), hinv]; done)
  · show Int.toNat ((2 * (List.length g.2 : Int) : Int) - ((h + 1) : Int)) < Int.toNat ((2 * (List.length g.2 : Int) : Int) - (h : Int))
    omega
 refine run_cond_f rfl (decide_eq_false p3) ?_
 refine run_exit rfl ?_
 refine run_seq ?_
 clear bx5
 refine run_region rfl ?_
 refine l_val (v := l_v) rfl (e_move (by exact zs5)) ?_
 refine l_val (v := l_v) rfl (e_assign rfl) ?_
 refine l_nil ?_
 refine run_ret (vs := [l_v]) Try.func59 (.tmp rfl .nil) ?_
 -- return 0
 have e0 : (l : List Int) = (outS g v) := by
   rw [hinv, outH_all g v (by omega)]
 exact ⟨(fin w0 g8 (fun n => if n = 3 then 1 else 0), l_v), (congrArg (a₁ := l) (fun (z0 : List Int) => Ending.returned (l_v)) e0), hbase.fresh _, (e0 ▸ (o_l.glue (γ := c0) (ren := (fun n => if n = 3 then 1 else 0)) (k := 1) hbase.col rfl rfl))⟩

theorem rDegrees_ok (w0 : World) (g : (Int) × (List ((Int) × (Int)))) (g_v : Value) (hg_v : Ro w0 g_v g.2) (hmay : MayP g) :
    Calls Try.prog 62 #[Value.agg (List.toArray [Value.int .i64 g.1, g_v])] w0 (fun ee w => ∃ xx : Cmap × Value, ee = .returned ((fun ⟨δ, rv0⟩ => rv0) xx) ∧ (fun (⟨δ, rv0⟩ : Cmap × Value) (w : World) => Fresh w0 δ w ∧ Ow δ (is 1) (is 1) w rv0 (degS g)) xx w) := by
 refine calls_of_run Try.func62 rfl (Nat.le_of_ble_eq_true rfl) ?_
 have hbase := Base.start w0
 have r_g_v := hg_v.sl
 have hm0 := hmay
 obtain ⟨hm1, hm2, hm3, hm4⟩ := hm0
 refine run_seq ?_
 refine run_region rfl ?_
 refine l_op rfl ?_
 refine o_box c0 (is 1) (1, 0) rfl rfl ?_
 intro g4 w1 b3 ch2 bx5
 replace bx5 : Bx g4 (is 1) w1 b3 [Value.int .i64 g.1, g_v] := bx5
 refine l_val (v := Value.slice none 0 0) rfl (e_assign rfl) ?_
 refine l_nil ?_
 refine run_seq ?_
 refine run_region rfl ?_
 refine l_val (v := Value.pointer (some ⟨b3, 0, none⟩)) rfl (e_fieldAddr Try.underlying24 rfl rfl rfl rfl) ?_
 refine l_val (v := Value.int .i64 g.1) rfl (e_load_bx1 tp3_r rfl bx5 rfl) ?_
 refine l_op rfl ?_
 refine o_make (α := Int) (l := g.1) (cp := g.1) g4 (is 2) (is 2) (2, 0) rfl (0 : Int) Try.underlying35 tp3_r rfl rfl rfl (by omega) (by omega) (by omega) (by omega) ?_
 intro g6 w7 v8 ch9 o10 _
 refine l_val (v := v8) rfl (e_assign rfl) ?_
 refine l_nil ?_
 refine run_seq ?_
 refine run_seq ?_
 refine run_region rfl ?_
 refine l_val (v := Value.int .i64 0) rfl (e_assign rfl) ?_
 refine l_nil ?_
 refine run_block ?_
 refine run_loop (σ := Nat × (List Int) × Cmap) (fun ⟨h, l, gq⟩ f w => Base w0 gq w ∧ f 1 = Value.pointer (some ⟨b3, 0, none⟩) ∧ f 3 = v8 ∧ f 4 = Value.int .i64 (h : Int) ∧ Sl gq (is 0) w g_v g.2 ∧ Bx gq (is 1) w b3 [Value.int .i64 g.1, g_v] ∧ Ow gq (is 2) (is 2) w v8 l ∧ (h : Int) ≤ (2 * (List.length g.2 : Int) : Int) ∧ (DegH l g h)) (fun ⟨h, l, gq⟩ => Int.toNat ((2 * (List.length g.2 : Int) : Int) - (h : Int))) (0, (List.replicate (Int.toNat g.1) (0 : Int)), g6) ?_ ?_
 replace hbase := hbase.chg ch2 (not_no _)
 replace hbase := hbase.chg ch9 (not_no _)
 replace r_g_v := (r_g_v.chg ch2 (not_no _)).chg ch9 (not_no _)
 replace bx5 := bx5.chg ch9 (not_no _)
 · exact ⟨hbase, rfl, rfl, rfl, r_g_v, bx5, o10, by omega, by exact DegH.start g hm1⟩
 clear r_g_v
 clear bx5
 clear o10
 clear hbase
 rintro ⟨h, l, g13⟩ f11 w12 ⟨hbase, zs1, zs3, zs4, r_g_v, bx5, o10, hle_h, hinv⟩ back3
 have hdl := hinv.len
 refine run_seq ?_
 refine run_seq ?_
 refine run_region rfl ?_
 refine l_val (v := Value.int .i64 (h : Int)) rfl (e_move (by exact zs4)) ?_
 refine l_val (v := Value.pointer (some ⟨b3, 1, none⟩)) rfl (e_fieldAddr Try.underlying24 rfl rfl (by exact zs1) rfl) ?_
 refine l_val (v := g_v) rfl (e_load_bx1 tp22_r rfl bx5 rfl) ?_
 have len14 := (r_g_v).small
 refine l_val (v := Value.int .i64 (List.length g.2 : Int)) rfl (e_len Try.underlying22 rfl r_g_v) ?_
 refine l_val (v := Value.int .i64 (2 * (List.length g.2 : Int))) rfl (e_mul (m := 2) (n := (List.length g.2 : Int)) rfl rfl (by omega)) ?_
 refine l_val (v := Value.bool (decide ((h : Int) < (2 * (List.length g.2 : Int))))) rfl (e_lss (m := (h : Int)) (n := 2 * (List.length g.2 : Int)) rfl rfl) ?_
 refine l_nil ?_
 by_cases p3 : (h : Int) < (2 * (List.length g.2 : Int))
 ·
  refine run_cond_t rfl (decide_eq_true p3) ?_
  obtain ⟨hf1, hf2⟩ := fromS_in hmay (h := (h : Int)) (by omega) (by omega)
  have hbd := hinv.bd hf1 hf2
  refine run_skip ?_
  refine run_seq ?_
  refine run_block ?_
  refine run_region rfl ?_
  refine l_val (v := v8) rfl (e_move (by exact zs3)) ?_
  refine l_val (v := Value.agg (List.toArray [Value.int .i64 g.1, g_v])) rfl (e_load_bxN (ds := [Value.int .i64 g.1, g_v]) tp24_r (by exact zs1) bx5 rfl rfl) ?_
  refine l_val (v := Value.int .i64 (h : Int)) rfl (e_move (by exact zs4)) ?_
  refine l_op rfl ?_
  refine o_call (v := Value.int .i64 (fromS g (h : Int))) (e_call (vals := [Value.agg (List.toArray [Value.int .i64 g.1, g_v]), Value.int .i64 (h : Int)]) Try.func74 bd74_r nm74_r rfl) (From_ok w12 g g_v (r_g_v).ro (h : Int) (by omega) (by omega)) ?_
  intro w15 hb16
  replace hb16 := chg_below hb16 g13
  replace o10 := o10.chg hb16 (not_no _) (not_no _)
  refine l_val (v := Value.pointer (some (eAddr v8 1 (Int.toNat (fromS g (h : Int)))))) rfl (e_indexAddr (α := Int) (xs := l) (v := v8) (i := fromS g (h : Int)) Try.underlying35 rfl rfl o10.flat rfl (by omega) (by omega)) ?_
  refine l_val (v := Value.int .i64 (gI l (fromS g (h : Int)))) rfl (e_load_el1 (α := Int) (xs := l) (v := v8) (i := fromS g (h : Int)) tp3_r rfl o10.flat (by omega) (by omega) (by decide) rfl) ?_
  refine l_val (v := Value.int .i64 ((gI l (fromS g (h : Int))) + 1)) rfl (e_add (m := (gI l (fromS g (h : Int)))) (n := 1) rfl rfl (by omega)) ?_
  refine l_val (v := Value.pointer (some (eAddr v8 1 (Int.toNat (fromS g (h : Int)))))) rfl (e_indexAddr (α := Int) (xs := l) (v := v8) (i := fromS g (h : Int)) Try.underlying35 rfl rfl o10.flat rfl (by omega) (by omega)) ?_
  refine l_op rfl ?_
  refine o_store_el (i := fromS g (h : Int)) ((gI l (fromS g (h : Int))) + 1) tp3_r rfl rfl o10 (by omega) (by omega) rfl ?_
  intro w17 ch18 bx19
  clear o10
  refine l_nil ?_
  refine run_inBlock ?_
  refine run_region rfl ?_
  refine l_val (v := Value.int .i64 (h : Int)) rfl (e_move (by exact zs4)) ?_
  refine l_val (v := Value.int .i64 ((h : Int) + 1)) rfl (e_add (m := (h : Int)) (n := 1) rfl rfl (by omega)) ?_
  refine l_val (v := Value.int .i64 ((h : Int) + 1)) rfl (e_assign rfl) ?_
  refine l_nil ?_
  replace hbase := hbase.chg hb16 (not_no _)
  replace hbase := hbase.chg ch18 (is_ne rfl)
  replace r_g_v := (r_g_v.chg hb16 (not_no _)).chg ch18 (is_ne rfl)
  replace bx5 := (bx5.chg hb16 (not_no _)).chg ch18 (is_ne rfl)
  refine back3 (h + 1, (List.set l (Int.toNat (fromS g (h : Int))) ((gI l (fromS g (h : Int))) + 1)), g13) _ _ ⟨hbase, (by exact zs1), (by exact zs3), rfl, r_g_v, bx5, bx19, by omega, ?_⟩ ?_
  · show DegH (List.set l (Int.toNat (fromS g (h : Int))) ((gI l (fromS g (h : Int))) + 1)) g (h + 1)
    exact hinv.next hf1 hf2
  · show Int.toNat ((2 * (List.length g.2 : Int) : Int) - ((h + 1) : Int)) < Int.toNat ((2 * (List.length g.2 : Int) : Int) - (h : Int))
    omega
 refine run_cond_f rfl (decide_eq_false p3) ?_
 refine run_exit rfl ?_
 refine run_seq ?_
 clear bx5
 refine run_region rfl ?_
 refine l_val (v := v8) rfl (e_move (by exact zs3)) ?_
 refine l_val (v := v8) rfl (e_assign rfl) ?_
 refine l_nil ?_
 refine run_ret (vs := [v8]) Try.func62 (.tmp rfl .nil) ?_
 -- return 0
 have e0 : (l : List Int) = (degS g) := by
   exact hinv.done (by omega)
 exact ⟨(fin w0 g13 (fun n => if n = 2 then 1 else 0), v8), (congrArg (a₁ := l) (fun (z0 : List Int) => Ending.returned (v8)) e0), hbase.fresh _, (e0 ▸ (o10.glue (γ := c0) (ren := (fun n => if n = 2 then 1 else 0)) (k := 1) hbase.col rfl rfl))⟩

theorem pair_ok (w0 : World) (e : (Int) × (Int)) :
    Calls Try.prog 110 #[Value.agg (List.toArray [Value.int .i64 e.1, Value.int .i64 e.2])] w0 (fun ee w => ee = .returned (Value.agg (List.toArray [Value.int .i64 ((lvl e).1), Value.int .i64 ((lvl e).2)])) ∧ RowKit.Below w0.heap.size w0 w) := by
 refine calls_of_run Try.func110 rfl (Nat.le_of_ble_eq_true rfl) ?_
 have hbase := Base.start w0
 refine run_seq ?_
 refine run_region rfl ?_
 refine l_op rfl ?_
 refine o_box c0 (is 1) (1, 0) rfl rfl ?_
 intro g4 w1 b3 ch2 bx5
 replace bx5 : Bx g4 (is 1) w1 b3 [Value.int .i64 e.1, Value.int .i64 e.2] := bx5
 refine l_op rfl ?_
 refine o_alloc g4 (is 2) (2, 0) rfl tp71_r ?_
 intro g9 w6 b8 ch7 bx10
 replace bx10 : Bx g9 (is 2) w6 b8 [Value.int .i64 0, Value.int .i64 0] := bx10
 refine l_nil ?_
 refine run_seq ?_
 refine run_seq ?_
 refine run_region rfl ?_
 refine l_val (v := Value.pointer (some ⟨b3, 0, none⟩)) rfl (e_indexAddr_arr Try.underlying71 rfl rfl rfl (by decide) (by decide) rfl) ?_
 replace bx5 := bx5.chg ch7 (not_no _)
 refine l_val (v := Value.int .i64 e.1) rfl (e_load_bx1 tp3_r rfl bx5 rfl) ?_
 refine l_val (v := Value.pointer (some ⟨b3, 1, none⟩)) rfl (e_indexAddr_arr Try.underlying71 rfl rfl rfl (by decide) (by decide) rfl) ?_
 refine l_val (v := Value.int .i64 e.2) rfl (e_load_bx1 tp3_r rfl bx5 rfl) ?_
 refine l_val (v := Value.bool (decide (e.2 < e.1))) rfl (e_gtr (m := e.1) (n := e.2) rfl rfl) ?_
 refine l_nil ?_
 by_cases p1 : e.2 < e.1
 ·
  refine run_cond_t rfl (decide_eq_true p1) ?_
  refine run_seq ?_
  refine run_region rfl ?_
  refine l_val (v := Value.pointer (some ⟨b3, 1, none⟩)) rfl (e_indexAddr_arr Try.underlying71 rfl rfl rfl (by decide) (by decide) rfl) ?_
  refine l_val (v := Value.int .i64 e.2) rfl (e_load_bx1 tp3_r rfl bx5 rfl) ?_
  refine l_val (v := Value.pointer (some ⟨b3, 0, none⟩)) rfl (e_indexAddr_arr Try.underlying71 rfl rfl rfl (by decide) (by decide) rfl) ?_
  refine l_val (v := Value.int .i64 e.1) rfl (e_load_bx1 tp3_r rfl bx5 rfl) ?_
  refine l_val (v := Value.agg (List.toArray [Value.int .i64 e.2, Value.int .i64 e.1])) rfl (e_build (vs := [(0, Value.int .i64 e.2), (1, Value.int .i64 e.1)]) rfl (by kernel_rfl)) ?_
  refine l_op rfl ?_
  refine o_store_bx (cs' := [Value.int .i64 e.2, Value.int .i64 e.1]) tp71_r rfl rfl bx10 rfl (Nat.le_of_ble_eq_true rfl) (AllOne.all (.cons rfl (.cons rfl .nil))) rfl ?_
  intro w11 ch12 bx13
  clear bx10
  refine l_nil ?_
  refine run_ret (vs := [Value.agg (List.toArray [Value.int .i64 e.2, Value.int .i64 e.1])]) Try.func110 (.cell rfl (load_bxN (ds := [Value.int .i64 e.2, Value.int .i64 e.1]) tp71_r bx13 rfl rfl) .nil) ?_
  -- return 0
  have e0 : ((e.2, e.1) : (Int) × (Int)) = (lvl e) := by
    first
      | exact lvl_swap (by assumption)
      | exact lvl_same (by assumption)
  have C14 : Chg (inl [2]) _ _ _ _ := (ch2.n).seq ((ch7.n).seq (ch12.l rfl))
  replace hbase := hbase.chg C14 (is_nl rfl)
  exact ⟨(congrArg (a₁ := (e.2, e.1)) (fun (z0 : (Int) × (Int)) => Ending.returned (Value.agg (List.toArray [Value.int .i64 z0.1, Value.int .i64 z0.2]))) e0), hbase.below⟩
 refine run_cond_f rfl (decide_eq_false p1) ?_
 refine run_skip ?_
 refine run_seq ?_
 refine run_region rfl ?_
 refine l_val (v := Value.agg (List.toArray [Value.int .i64 e.1, Value.int .i64 e.2])) rfl (e_load_bxN (ds := [Value.int .i64 e.1, Value.int .i64 e.2]) tp71_r rfl bx5 rfl rfl) ?_
 refine l_op rfl ?_
 refine o_store_bx (cs' := [Value.int .i64 e.1, Value.int .i64 e.2]) tp71_r rfl rfl bx10 rfl (Nat.le_of_ble_eq_true rfl) (AllOne.all (.cons rfl (.cons rfl .nil))) rfl ?_
 intro w15 ch16 bx17
 clear bx10
 refine l_nil ?_
 refine run_ret (vs := [Value.agg (List.toArray [Value.int .i64 e.1, Value.int .i64 e.2])]) Try.func110 (.cell rfl (load_bxN (ds := [Value.int .i64 e.1, Value.int .i64 e.2]) tp71_r bx17 rfl rfl) .nil) ?_
 -- return 1
 have e0 : (e : (Int) × (Int)) = (lvl e) := by
   first
     | exact lvl_swap (by assumption)
     | exact lvl_same (by assumption)
 have C18 : Chg (inl [2]) _ _ _ _ := (ch2.n).seq ((ch7.n).seq (ch16.l rfl))
 replace hbase := hbase.chg C18 (is_nl rfl)
 exact ⟨(congrArg (a₁ := e) (fun (z0 : (Int) × (Int)) => Ending.returned (Value.agg (List.toArray [Value.int .i64 z0.1, Value.int .i64 z0.2]))) e0), hbase.below⟩

theorem Parallel_ok (w0 : World) (g : (Int) × (List ((Int) × (Int)))) (g_v : Value) (hg_v : Ro w0 g_v g.2) (e : Int) (he : 0 ≤ e ∧ e < (g.2.length : Int)) (hlen : g.2.length ≤ 1000000) :
    Calls Try.prog 101 #[Value.agg (List.toArray [Value.int .i64 g.1, g_v]), Value.int .i64 e] w0 (fun ee w => ee = .returned (Value.bool (decide (lvl (gI g.2 e) ∈ (g.2.map lvl).take e.toNat))) ∧ RowKit.Below w0.heap.size w0 w) := by
 refine calls_of_run Try.func101 rfl (Nat.le_of_ble_eq_true rfl) ?_
 have hbase := Base.start w0
 have r_g_v := hg_v.sl
 obtain ⟨he1, he2⟩ := he
 refine run_seq ?_
 refine run_region rfl ?_
 refine l_op rfl ?_
 refine o_box c0 (is 1) (1, 0) rfl rfl ?_
 intro g4 w1 b3 ch2 bx5
 replace bx5 : Bx g4 (is 1) w1 b3 [Value.int .i64 g.1, g_v] := bx5
 refine l_val (v := Value.bool false) rfl (e_assign rfl) ?_
 refine l_nil ?_
 refine run_seq ?_
 refine run_seq ?_
 refine run_region rfl ?_
 refine l_val (v := Value.int .i64 0) rfl (e_assign rfl) ?_
 refine l_nil ?_
 refine run_block ?_
 refine run_loop (σ := Nat × Cmap) (fun ⟨i, gq⟩ f w => Base w0 gq w ∧ f 1 = Value.int .i64 e ∧ f 2 = Value.pointer (some ⟨b3, 0, none⟩) ∧ f 5 = Value.int .i64 (i : Int) ∧ Sl gq (is 0) w g_v g.2 ∧ Bx gq (is 1) w b3 [Value.int .i64 g.1, g_v] ∧ (i : Int) ≤ (e : Int) ∧ (∀ j : Nat, j < i → ¬ lvl (gI g.2 j) = lvl (gI g.2 e))) (fun ⟨i, gq⟩ => Int.toNat ((e : Int) - (i : Int))) (0, g4) ?_ ?_
 replace hbase := hbase.chg ch2 (not_no _)
 replace r_g_v := r_g_v.chg ch2 (not_no _)
 · exact ⟨hbase, rfl, rfl, rfl, r_g_v, bx5, by omega, by intro j hj; omega⟩
 clear r_g_v
 clear bx5
 clear hbase
 rintro ⟨i, g8⟩ f6 w7 ⟨hbase, zs1, zs2, zs5, r_g_v, bx5, hle_i, hinv⟩ back2
 refine run_seq ?_
 refine run_seq ?_
 refine run_region rfl ?_
 refine l_val (v := Value.int .i64 (i : Int)) rfl (e_move (by exact zs5)) ?_
 refine l_val (v := Value.int .i64 e) rfl (e_move (by exact zs1)) ?_
 refine l_val (v := Value.bool (decide ((i : Int) < e))) rfl (e_lss (m := (i : Int)) (n := e) rfl rfl) ?_
 refine l_nil ?_
 by_cases p2 : (i : Int) < e
 ·
  refine run_cond_t rfl (decide_eq_true p2) ?_
  refine run_skip ?_
  refine run_seq ?_
  refine run_block ?_
  refine run_seq ?_
  refine region_q g8 rfl mixed_r (by kernel_rfl) ?_
  intro w10 ch9
  refine q_val (v := Value.pointer (some ⟨b3, 1, none⟩)) rfl (fun w' hw' => e_fieldAddr Try.underlying24 rfl rfl (by exact zs2) rfl) ?_
  replace bx5 := bx5.chg ch9 (not_no _)
  refine q_val (v := g_v) rfl (fun w' hw' => e_load_bx1 tp22_r rfl (bx5.bel hw') rfl) ?_
  refine q_val (v := Value.int .i64 (i : Int)) rfl (fun w' hw' => e_move (by exact zs5)) ?_
  replace r_g_v := r_g_v.chg ch9 (not_no _)
  refine q_val (v := Value.pointer (some (eAddr g_v 2 (Int.toNat (i : Int))))) rfl (fun w' hw' => e_indexAddr (α := (Int) × (Int)) (xs := g.2) (v := g_v) (i := (i : Int)) Try.underlying22 rfl rfl (r_g_v.bel hw') rfl (by omega) (by omega)) ?_
  refine q_val (v := Value.agg (List.toArray [Value.int .i64 ((gI g.2 (i : Int)).1), Value.int .i64 ((gI g.2 (i : Int)).2)])) rfl (fun w' hw' => e_load_elN (α := (Int) × (Int)) (xs := g.2) (v := g_v) (i := (i : Int)) tp71_r rfl (r_g_v.bel hw') (by omega) (by omega) rfl) ?_
  refine q_call (v := Value.agg (List.toArray [Value.int .i64 ((lvl (gI g.2 (i : Int))).1), Value.int .i64 ((lvl (gI g.2 (i : Int))).2)])) rfl (fun w' hw' => e_call (vals := [Value.agg (List.toArray [Value.int .i64 ((gI g.2 (i : Int)).1), Value.int .i64 ((gI g.2 (i : Int)).2)])]) Try.func110 bd110_r nm110_r rfl) (fun w' hw' => (pair_ok w' (gI g.2 (i : Int))).mono fun e w2 h2 => ⟨h2.1, hw'.trans (h2.2.mono hw'.size)⟩) ?_
  refine q_val (v := Value.pointer (some ⟨b3, 1, none⟩)) rfl (fun w' hw' => e_fieldAddr Try.underlying24 rfl rfl (by exact zs2) rfl) ?_
  refine q_val (v := g_v) rfl (fun w' hw' => e_load_bx1 tp22_r rfl (bx5.bel hw') rfl) ?_
  refine q_val (v := Value.int .i64 e) rfl (fun w' hw' => e_move (by exact zs1)) ?_
  refine q_val (v := Value.pointer (some (eAddr g_v 2 (Int.toNat e)))) rfl (fun w' hw' => e_indexAddr (α := (Int) × (Int)) (xs := g.2) (v := g_v) (i := e) Try.underlying22 rfl rfl (r_g_v.bel hw') rfl (by omega) (by omega)) ?_
  refine q_val (v := Value.agg (List.toArray [Value.int .i64 ((gI g.2 e).1), Value.int .i64 ((gI g.2 e).2)])) rfl (fun w' hw' => e_load_elN (α := (Int) × (Int)) (xs := g.2) (v := g_v) (i := e) tp71_r rfl (r_g_v.bel hw') (by omega) (by omega) rfl) ?_
  refine q_call (v := Value.agg (List.toArray [Value.int .i64 ((lvl (gI g.2 e)).1), Value.int .i64 ((lvl (gI g.2 e)).2)])) rfl (fun w' hw' => e_call (vals := [Value.agg (List.toArray [Value.int .i64 ((gI g.2 e).1), Value.int .i64 ((gI g.2 e).2)])]) Try.func110 bd110_r nm110_r rfl) (fun w' hw' => (pair_ok w' (gI g.2 e)).mono fun e w2 h2 => ⟨h2.1, hw'.trans (h2.2.mono hw'.size)⟩) ?_
  refine q_val (v := Value.bool (decide ((lvl (gI g.2 (i : Int))) = (lvl (gI g.2 e))))) rfl (fun w' hw' => e_eql_pair (a := (lvl (gI g.2 (i : Int)))) (b := (lvl (gI g.2 e))) Try.underlying71 Try.underlying3 tp3_r (by kernel_rfl) rfl rfl) ?_
  refine q_nil ?_
  intro w11 hc12
  replace hc12 := chg_below hc12 g8
  by_cases p4 : (lvl (gI g.2 (i : Int))) = (lvl (gI g.2 e))
  ·
   refine run_cond_t rfl (decide_eq_true p4) ?_
   refine run_seq ?_
   clear bx5
   refine run_region rfl ?_
   refine l_val (v := Value.bool true) rfl (e_assign rfl) ?_
   refine l_nil ?_
   refine run_ret (vs := [Value.bool true]) Try.func101 (.tmp rfl .nil) ?_
   -- return 0
   have e0 : (true : Bool) = (decide (lvl (gI g.2 e) ∈ (g.2.map lvl).take e.toNat)) := by
     first
       | exact (decide_eq_true (par_yes he2 (by assumption) (by assumption))).symm
       | exact (decide_eq_false (par_not hinv (by omega) (by assumption))).symm
   replace hbase := hbase.chg ch9 (not_no _)
   replace hbase := hbase.chg hc12 (not_no _)
   exact ⟨(congrArg (a₁ := true) (fun (z0 : Bool) => Ending.returned (Value.bool z0)) e0), hbase.below⟩
  refine run_cond_f rfl (decide_eq_false p4) ?_
  refine run_skip ?_
  refine run_inBlock ?_
  refine run_region rfl ?_
  refine l_val (v := Value.int .i64 (i : Int)) rfl (e_move (by exact zs5)) ?_
  refine l_val (v := Value.int .i64 ((i : Int) + 1)) rfl (e_add (m := (i : Int)) (n := 1) rfl rfl (by omega)) ?_
  refine l_val (v := Value.int .i64 ((i : Int) + 1)) rfl (e_assign rfl) ?_
  refine l_nil ?_
  replace hbase := hbase.chg ch9 (not_no _)
  replace hbase := hbase.chg hc12 (not_no _)
  replace r_g_v := r_g_v.chg hc12 (not_no _)
  replace bx5 := bx5.chg hc12 (not_no _)
  refine back2 (i + 1, g8) _ _ ⟨hbase, (by exact zs1), (by exact zs2), rfl, r_g_v, bx5, by omega, ?_⟩ ?_
  · show ∀ j : Nat, j < (i + 1) → ¬ lvl (gI g.2 j) = lvl (gI g.2 e)
    intro j hj
    by_cases e0 : j = i
    · subst e0; assumption
    · exact hinv j (by omega)
  · show Int.toNat ((e : Int) - ((i + 1) : Int)) < Int.toNat ((e : Int) - (i : Int))
    omega
 refine run_cond_f rfl (decide_eq_false p2) ?_
 refine run_exit rfl ?_
 refine run_seq ?_
 clear bx5
 refine run_region rfl ?_
 refine l_val (v := Value.bool false) rfl (e_assign rfl) ?_
 refine l_nil ?_
 refine run_ret (vs := [Value.bool false]) Try.func101 (.tmp rfl .nil) ?_
 -- return 1
 have e0 : (false : Bool) = (decide (lvl (gI g.2 e) ∈ (g.2.map lvl).take e.toNat)) := by
   first
     | exact (decide_eq_true (par_yes he2 (by assumption) (by assumption))).symm
     | exact (decide_eq_false (par_not hinv (by omega) (by assumption))).symm
 exact ⟨(congrArg (a₁ := false) (fun (z0 : Bool) => Ending.returned (Value.bool z0)) e0), hbase.below⟩

theorem rLook_ok (w0 : World) (g : (Int) × (List ((Int) × (Int)))) (g_v : Value) (hg_v : Ro w0 g_v g.2) (hmay : MayP g) :
    Calls Try.prog 63 #[Value.agg (List.toArray [Value.int .i64 g.1, g_v])] w0 (fun ee w => ee = .returned (Value.agg (List.toArray [Value.int .i64 (((lookR g).1).1), Value.int .i64 ((((lookR g).1).2).1), Value.int .i64 (((((lookR g).1).2).2).1), Value.int .i64 ((((((lookR g).1).2).2).2).1), Value.bool ((((((lookR g).1).2).2).2).2)])) ∧ RowKit.Below w0.heap.size w0 w) := by
 refine calls_of_run Try.func63 rfl (Nat.le_of_ble_eq_true rfl) ?_
 have hbase := Base.start w0
 have r_g_v := hg_v.sl
 have hm0 := hmay
 obtain ⟨hm1, hm2, hm3, hm4⟩ := hm0
 refine run_seq ?_
 refine run_region rfl ?_
 refine l_op rfl ?_
 refine o_box c0 (is 1) (1, 0) rfl rfl ?_
 intro g4 w1 b3 ch2 bx5
 replace bx5 : Bx g4 (is 1) w1 b3 [Value.int .i64 g.1, g_v] := bx5
 refine l_op rfl ?_
 refine o_alloc g4 (is 2) (2, 0) rfl tp78_r ?_
 intro g9 w6 b8 ch7 bx10
 replace bx10 : Bx g9 (is 2) w6 b8 [Value.int .i64 0, Value.int .i64 0, Value.int .i64 0, Value.int .i64 0, Value.bool false] := bx10
 refine l_nil ?_
 refine run_seq ?_
 refine run_region rfl ?_
 refine l_op rfl ?_
 refine o_alloc g9 (is 3) (3, 0) rfl tp78_r ?_
 intro g14 w11 b13 ch12 bx15
 replace bx15 : Bx g14 (is 3) w11 b13 [Value.int .i64 0, Value.int .i64 0, Value.int .i64 0, Value.int .i64 0, Value.bool false] := bx15
 refine l_nil ?_
 refine run_seq ?_
 refine run_seq ?_
 refine run_region rfl ?_
 refine l_val (v := Value.int .i64 0) rfl (e_assign rfl) ?_
 refine l_nil ?_
 refine run_block ?_
 refine run_loop (σ := Int × Int × Nat × Cmap) (fun ⟨k_0, k_1, i, gq⟩ f w => Base w0 gq w ∧ f 1 = Value.pointer (some ⟨b3, 0, none⟩) ∧ f 2 = Value.pointer (some ⟨b8, 0, none⟩) ∧ f 3 = Value.pointer (some ⟨b13, 0, none⟩) ∧ f 4 = Value.int .i64 (i : Int) ∧ Sl gq (is 0) w g_v g.2 ∧ Bx gq (is 1) w b3 [Value.int .i64 g.1, g_v] ∧ Bx gq (is 2) w b8 [Value.int .i64 0, Value.int .i64 0, Value.int .i64 0, Value.int .i64 0, Value.bool false] ∧ Bx gq (is 3) w b13 [Value.int .i64 k_0, Value.int .i64 k_1, Value.int .i64 0, Value.int .i64 0, Value.bool false] ∧ (i : Int) ≤ ((List.length g.2 : Int) : Int) ∧ (k_0 = loopsK g i ∧ k_1 = parK g i)) (fun ⟨k_0, k_1, i, gq⟩ => Int.toNat (((List.length g.2 : Int) : Int) - (i : Int))) (0, 0, 0, g14) ?_ ?_
 have C16 : Chg (inl []) _ _ _ _ := (ch2.n).seq ((ch7.n).seq (ch12.n))
 replace hbase := hbase.chg C16 (is_nl rfl)
 replace r_g_v := r_g_v.chg C16 (is_nl rfl)
 replace bx5 := (bx5.chg ch7 (not_no _)).chg ch12 (not_no _)
 replace bx10 := bx10.chg ch12 (not_no _)
 · exact ⟨hbase, rfl, rfl, rfl, rfl, r_g_v, bx5, bx10, bx15, by omega, by exact ⟨rfl, rfl⟩⟩
 clear r_g_v
 clear bx5
 clear bx10
 clear bx15
 clear hbase
 rintro ⟨k_0, k_1, i, g19⟩ f17 w18 ⟨hbase, zs1, zs2, zs3, zs4, r_g_v, bx5, bx10, bx15, hle_i, hinv⟩ back3
 have hk0 := loopsK_le g i
 have hk1 := parK_le g i
 have hi1 := hinv.1
 have hi2 := hinv.2
 refine run_seq ?_
 refine run_seq ?_
 refine run_region rfl ?_
 refine l_val (v := Value.int .i64 (i : Int)) rfl (e_move (by exact zs4)) ?_
 refine l_val (v := Value.pointer (some ⟨b3, 1, none⟩)) rfl (e_fieldAddr Try.underlying24 rfl rfl (by exact zs1) rfl) ?_
 refine l_val (v := g_v) rfl (e_load_bx1 tp22_r rfl bx5 rfl) ?_
 have len20 := (r_g_v).small
 refine l_val (v := Value.int .i64 (List.length g.2 : Int)) rfl (e_len Try.underlying22 rfl r_g_v) ?_
 refine l_val (v := Value.bool (decide ((i : Int) < (List.length g.2 : Int)))) rfl (e_lss (m := (i : Int)) (n := (List.length g.2 : Int)) rfl rfl) ?_
 refine l_nil ?_
 by_cases p3 : (i : Int) < (List.length g.2 : Int)
 ·
  refine run_cond_t rfl (decide_eq_true p3) ?_
  refine run_skip ?_
  refine run_seq ?_
  refine run_block ?_
  refine run_seq ?_
  refine run_seq ?_
  refine region_q g19 rfl mixed_r (by kernel_rfl) ?_
  intro w22 ch21
  refine q_val (v := Value.pointer (some ⟨b3, 1, none⟩)) rfl (fun w' hw' => e_fieldAddr Try.underlying24 rfl rfl (by exact zs1) rfl) ?_
  replace bx5 := bx5.chg ch21 (not_no _)
  refine q_val (v := g_v) rfl (fun w' hw' => e_load_bx1 tp22_r rfl (bx5.bel hw') rfl) ?_
  refine q_val (v := Value.int .i64 (i : Int)) rfl (fun w' hw' => e_move (by exact zs4)) ?_
  replace r_g_v := r_g_v.chg ch21 (not_no _)
  refine q_val (v := Value.pointer (some (eAddr g_v 2 (Int.toNat (i : Int))))) rfl (fun w' hw' => e_indexAddr (α := (Int) × (Int)) (xs := g.2) (v := g_v) (i := (i : Int)) Try.underlying22 rfl rfl (r_g_v.bel hw') rfl (by omega) (by omega)) ?_
  refine q_val (v := Value.pointer (some ⟨(eAddr g_v 2 (Int.toNat (i : Int))).block, (eAddr g_v 2 (Int.toNat (i : Int))).off + 0, none⟩)) rfl (fun w' hw' => e_indexAddr_el Try.underlying71 rfl rfl rfl (by decide) (by decide) rfl) ?_
  refine q_val (v := Value.int .i64 ((gI g.2 (i : Int)).1)) rfl (fun w' hw' => e_load_elF (α := (Int) × (Int)) (xs := g.2) (v := g_v) (i := (i : Int)) tp3_r rfl (r_g_v.bel hw') (by omega) (by omega) (by decide) rfl) ?_
  refine q_val (v := Value.pointer (some ⟨b3, 1, none⟩)) rfl (fun w' hw' => e_fieldAddr Try.underlying24 rfl rfl (by exact zs1) rfl) ?_
  refine q_val (v := g_v) rfl (fun w' hw' => e_load_bx1 tp22_r rfl (bx5.bel hw') rfl) ?_
  refine q_val (v := Value.int .i64 (i : Int)) rfl (fun w' hw' => e_move (by exact zs4)) ?_
  refine q_val (v := Value.pointer (some (eAddr g_v 2 (Int.toNat (i : Int))))) rfl (fun w' hw' => e_indexAddr (α := (Int) × (Int)) (xs := g.2) (v := g_v) (i := (i : Int)) Try.underlying22 rfl rfl (r_g_v.bel hw') rfl (by omega) (by omega)) ?_
  refine q_val (v := Value.pointer (some ⟨(eAddr g_v 2 (Int.toNat (i : Int))).block, (eAddr g_v 2 (Int.toNat (i : Int))).off + 1, none⟩)) rfl (fun w' hw' => e_indexAddr_el Try.underlying71 rfl rfl rfl (by decide) (by decide) rfl) ?_
  refine q_val (v := Value.int .i64 ((gI g.2 (i : Int)).2)) rfl (fun w' hw' => e_load_elF (α := (Int) × (Int)) (xs := g.2) (v := g_v) (i := (i : Int)) tp3_r rfl (r_g_v.bel hw') (by omega) (by omega) (by decide) rfl) ?_
  refine q_val (v := Value.bool (decide (((gI g.2 (i : Int)).1) = ((gI g.2 (i : Int)).2)))) rfl (fun w' hw' => e_eql (m := (gI g.2 (i : Int)).1) (n := (gI g.2 (i : Int)).2) rfl rfl) ?_
  refine q_nil ?_
  intro w23 hc24
  replace hc24 := chg_below hc24 g19
  by_cases p5 : ((gI g.2 (i : Int)).1) = ((gI g.2 (i : Int)).2)
  ·
   refine run_cond_t rfl (decide_eq_true p5) ?_
   refine run_region rfl ?_
   refine l_val (v := Value.pointer (some ⟨b13, 0, none⟩)) rfl (e_fieldAddr Try.underlying78 rfl rfl (by exact zs3) rfl) ?_
   replace bx15 := (bx15.chg ch21 (not_no _)).chg hc24 (not_no _)
   refine l_val (v := Value.int .i64 k_0) rfl (e_load_bx1 tp3_r rfl bx15 rfl) ?_
   refine l_val (v := Value.int .i64 (k_0 + 1)) rfl (e_add (m := k_0) (n := 1) rfl rfl (by omega)) ?_
   refine l_val (v := Value.pointer (some ⟨b13, 0, none⟩)) rfl (e_fieldAddr Try.underlying78 rfl rfl (by exact zs3) rfl) ?_
   refine l_op rfl ?_
   refine o_store_bx (cs' := [Value.int .i64 (k_0 + 1), Value.int .i64 k_1, Value.int .i64 0, Value.int .i64 0, Value.bool false]) tp3_r rfl rfl bx15 rfl (Nat.le_of_ble_eq_true rfl) (AllOne.all (.cons rfl .nil)) rfl ?_
   intro w25 ch26 bx27
   clear bx15
   refine l_nil ?_
   refine run_seq ?_
   refine run_region rfl ?_
   replace bx5 := (bx5.chg hc24 (not_no _)).chg ch26 (is_ne rfl)
   refine l_val (v := Value.agg (List.toArray [Value.int .i64 g.1, g_v])) rfl (e_load_bxN (ds := [Value.int .i64 g.1, g_v]) tp24_r (by exact zs1) bx5 rfl rfl) ?_
   refine l_val (v := Value.int .i64 (i : Int)) rfl (e_move (by exact zs4)) ?_
   replace r_g_v := (r_g_v.chg hc24 (not_no _)).chg ch26 (is_ne rfl)
   refine l_op rfl ?_
   refine o_call (v := Value.bool (decide (lvl (gI g.2 (i : Int)) ∈ (g.2.map lvl).take (i : Int).toNat))) (e_call (vals := [Value.agg (List.toArray [Value.int .i64 g.1, g_v]), Value.int .i64 (i : Int)]) Try.func101 bd101_r nm101_r rfl) (Parallel_ok w25 g g_v (r_g_v).ro (i : Int) (by omega) (by omega)) ?_
   intro w28 hb29
   replace hb29 := chg_below hb29 g19
   refine l_nil ?_
   by_cases p7 : (decide (lvl (gI g.2 (i : Int)) ∈ (g.2.map lvl).take (i : Int).toNat)) = true
   ·
    refine run_cond_t rfl p7 ?_
    refine run_region rfl ?_
    refine l_val (v := Value.pointer (some ⟨b13, 1, none⟩)) rfl (e_fieldAddr Try.underlying78 rfl rfl (by exact zs3) rfl) ?_
    replace bx27 := bx27.chg hb29 (not_no _)
    refine l_val (v := Value.int .i64 k_1) rfl (e_load_bx1 tp3_r rfl bx27 rfl) ?_
    refine l_val (v := Value.int .i64 (k_1 + 1)) rfl (e_add (m := k_1) (n := 1) rfl rfl (by omega)) ?_
    refine l_val (v := Value.pointer (some ⟨b13, 1, none⟩)) rfl (e_fieldAddr Try.underlying78 rfl rfl (by exact zs3) rfl) ?_
    refine l_op rfl ?_
    refine o_store_bx (cs' := [Value.int .i64 (k_0 + 1), Value.int .i64 (k_1 + 1), Value.int .i64 0, Value.int .i64 0, Value.bool false]) tp3_r rfl rfl bx27 rfl (Nat.le_of_ble_eq_true rfl) (AllOne.all (.cons rfl .nil)) rfl ?_
    intro w30 ch31 bx32
    clear bx27
    refine l_nil ?_
    refine run_inBlock ?_
    refine run_region rfl ?_
    refine l_val (v := Value.int .i64 (i : Int)) rfl (e_move (by exact zs4)) ?_
    refine l_val (v := Value.int .i64 ((i : Int) + 1)) rfl (e_add (m := (i : Int)) (n := 1) rfl rfl (by omega)) ?_
    refine l_val (v := Value.int .i64 ((i : Int) + 1)) rfl (e_assign rfl) ?_
    refine l_nil ?_
    have C33 : Chg (inl [3]) _ _ _ _ := (ch21.n).seq ((hc24.n).seq ((ch26.l rfl).seq ((hb29.n).seq (ch31.l rfl))))
    replace hbase := hbase.chg C33 (is_nl rfl)
    replace r_g_v := (r_g_v.chg hb29 (not_no _)).chg ch31 (is_ne rfl)
    replace bx5 := (bx5.chg hb29 (not_no _)).chg ch31 (is_ne rfl)
    replace bx10 := bx10.chg C33 (is_nl rfl)
    refine back3 (k_0 + 1, k_1 + 1, i + 1, g19) _ _ ⟨hbase, (by exact zs1), (by exact zs2), (by exact zs3), rfl, r_g_v, bx5, bx10, bx32, by omega, ?_⟩ ?_
    · show (k_0 + 1) = loopsK g (i + 1) ∧ (k_1 + 1) = parK g (i + 1)
      first
        | exact ⟨look_t (by assumption) hi1 (by assumption), par_t hi2 (by assumption)⟩
        | exact ⟨look_t (by assumption) hi1 (by assumption), par_f hi2 (by assumption)⟩
        | exact ⟨look_f (by assumption) hi1 (by assumption), par_t hi2 (by assumption)⟩
        | exact ⟨look_f (by assumption) hi1 (by assumption), par_f hi2 (by assumption)⟩
    · show Int.toNat (((List.length g.2 : Int) : Int) - ((i + 1) : Int)) < Int.toNat (((List.length g.2 : Int) : Int) - (i : Int))
      omega
   refine run_cond_f rfl (Bool.eq_false_iff.2 p7) ?_
   refine run_skip ?_
   refine run_inBlock ?_
   refine run_region rfl ?_
   refine l_val (v := Value.int .i64 (i : Int)) rfl (e_move (by exact zs4)) ?_
   refine l_val (v := Value.int .i64 ((i : Int) + 1)) rfl (e_add (m := (i : Int)) (n := 1) rfl rfl (by omega)) ?_
   refine l_val (v := Value.int .i64 ((i : Int) + 1)) rfl (e_assign rfl) ?_
   refine l_nil ?_
   have C34 : Chg (inl [3]) _ _ _ _ := (ch21.n).seq ((hc24.n).seq ((ch26.l rfl).seq (hb29.n)))
   replace hbase := hbase.chg C34 (is_nl rfl)
   replace r_g_v := r_g_v.chg hb29 (not_no _)
   replace bx5 := bx5.chg hb29 (not_no _)
   replace bx10 := bx10.chg C34 (is_nl rfl)
   replace bx27 := bx27.chg hb29 (not_no _)
   refine back3 (k_0 + 1, k_1, i + 1, g19) _ _ ⟨hbase, (by exact zs1), (by exact zs2), (by exact zs3), rfl, r_g_v, bx5, bx10, bx27, by omega, ?_⟩ ?_
   · show (k_0 + 1) = loopsK g (i + 1) ∧ k_1 = parK g (i + 1)
     first
       | exact ⟨look_t (by assumption) hi1 (by assumption), par_t hi2 (by assumption)⟩
       | exact ⟨look_t (by assumption) hi1 (by assumption), par_f hi2 (by assumption)⟩
       | exact ⟨look_f (by assumption) hi1 (by assumption), par_t hi2 (by assumption)⟩
       | exact ⟨look_f (by assumption) hi1 (by assumption), par_f hi2 (by assumption)⟩
   · show Int.toNat (((List.length g.2 : Int) : Int) - ((i + 1) : Int)) < Int.toNat (((List.length g.2 : Int) : Int) - (i : Int))
     omega
  refine run_cond_f rfl (decide_eq_false p5) ?_
  refine run_skip ?_
  refine run_seq ?_
  refine run_region rfl ?_
  replace bx5 := bx5.chg hc24 (not_no _)
  refine l_val (v := Value.agg (List.toArray [Value.int .i64 g.1, g_v])) rfl (e_load_bxN (ds := [Value.int .i64 g.1, g_v]) tp24_r (by exact zs1) bx5 rfl rfl) ?_
  refine l_val (v := Value.int .i64 (i : Int)) rfl (e_move (by exact zs4)) ?_
  replace r_g_v := r_g_v.chg hc24 (not_no _)
  refine l_op rfl ?_
  refine o_call (v := Value.bool (decide (lvl (gI g.2 (i : Int)) ∈ (g.2.map lvl).take (i : Int).toNat))) (e_call (vals := [Value.agg (List.toArray [Value.int .i64 g.1, g_v]), Value.int .i64 (i : Int)]) Try.func101 bd101_r nm101_r rfl) (Parallel_ok w23 g g_v (r_g_v).ro (i : Int) (by omega) (by omega)) ?_
  intro w35 hb36
  replace hb36 := chg_below hb36 g19
  refine l_nil ?_
  by_cases p7 : (decide (lvl (gI g.2 (i : Int)) ∈ (g.2.map lvl).take (i : Int).toNat)) = true
  ·
   refine run_cond_t rfl p7 ?_
   refine run_region rfl ?_
   refine l_val (v := Value.pointer (some ⟨b13, 1, none⟩)) rfl (e_fieldAddr Try.underlying78 rfl rfl (by exact zs3) rfl) ?_
   have C37 : Chg (inl []) _ _ _ _ := (ch21.n).seq ((hc24.n).seq (hb36.n))
   replace bx15 := bx15.chg C37 (is_nl rfl)
   refine l_val (v := Value.int .i64 k_1) rfl (e_load_bx1 tp3_r rfl bx15 rfl) ?_
   refine l_val (v := Value.int .i64 (k_1 + 1)) rfl (e_add (m := k_1) (n := 1) rfl rfl (by omega)) ?_
   refine l_val (v := Value.pointer (some ⟨b13, 1, none⟩)) rfl (e_fieldAddr Try.underlying78 rfl rfl (by exact zs3) rfl) ?_
   refine l_op rfl ?_
   refine o_store_bx (cs' := [Value.int .i64 k_0, Value.int .i64 (k_1 + 1), Value.int .i64 0, Value.int .i64 0, Value.bool false]) tp3_r rfl rfl bx15 rfl (Nat.le_of_ble_eq_true rfl) (AllOne.all (.cons rfl .nil)) rfl ?_
   intro w38 ch39 bx40
   clear bx15
   refine l_nil ?_
   refine run_inBlock ?_
   refine run_region rfl ?_
   refine l_val (v := Value.int .i64 (i : Int)) rfl (e_move (by exact zs4)) ?_
   refine l_val (v := Value.int .i64 ((i : Int) + 1)) rfl (e_add (m := (i : Int)) (n := 1) rfl rfl (by omega)) ?_
   refine l_val (v := Value.int .i64 ((i : Int) + 1)) rfl (e_assign rfl) ?_
   refine l_nil ?_
   have C41 : Chg (inl [3]) _ _ _ _ := (ch21.n).seq ((hc24.n).seq ((hb36.n).seq (ch39.l rfl)))
   replace hbase := hbase.chg C41 (is_nl rfl)
   replace r_g_v := (r_g_v.chg hb36 (not_no _)).chg ch39 (is_ne rfl)
   replace bx5 := (bx5.chg hb36 (not_no _)).chg ch39 (is_ne rfl)
   replace bx10 := bx10.chg C41 (is_nl rfl)
   refine back3 (k_0, k_1 + 1, i + 1, g19) _ _ ⟨hbase, (by exact zs1), (by exact zs2), (by exact zs3), rfl, r_g_v, bx5, bx10, bx40, by omega, ?_⟩ ?_
   · show k_0 = loopsK g (i + 1) ∧ (k_1 + 1) = parK g (i + 1)
     first
       | exact ⟨look_t (by assumption) hi1 (by assumption), par_t hi2 (by assumption)⟩
       | exact ⟨look_t (by assumption) hi1 (by assumption), par_f hi2 (by assumption)⟩
       | exact ⟨look_f (by assumption) hi1 (by assumption), par_t hi2 (by assumption)⟩
       | exact ⟨look_f (by assumption) hi1 (by assumption), par_f hi2 (by assumption)⟩
   · show Int.toNat (((List.length g.2 : Int) : Int) - ((i + 1) : Int)) < Int.toNat (((List.length g.2 : Int) : Int) - (i : Int))
     omega
  refine run_cond_f rfl (Bool.eq_false_iff.2 p7) ?_
  refine run_skip ?_
  refine run_inBlock ?_
  refine run_region rfl ?_
  refine l_val (v := Value.int .i64 (i : Int)) rfl (e_move (by exact zs4)) ?_
  refine l_val (v := Value.int .i64 ((i : Int) + 1)) rfl (e_add (m := (i : Int)) (n := 1) rfl rfl (by omega)) ?_
  refine l_val (v := Value.int .i64 ((i : Int) + 1)) rfl (e_assign rfl) ?_
  refine l_nil ?_
  have C42 : Chg (inl []) _ _ _ _ := (ch21.n).seq ((hc24.n).seq (hb36.n))
  replace hbase := hbase.chg C42 (is_nl rfl)
  replace r_g_v := r_g_v.chg hb36 (not_no _)
  replace bx5 := bx5.chg hb36 (not_no _)
  replace bx10 := bx10.chg C42 (is_nl rfl)
  replace bx15 := bx15.chg C42 (is_nl rfl)
  refine back3 (k_0, k_1, i + 1, g19) _ _ ⟨hbase, (by exact zs1), (by exact zs2), (by exact zs3), rfl, r_g_v, bx5, bx10, bx15, by omega, ?_⟩ ?_
  · show k_0 = loopsK g (i + 1) ∧ k_1 = parK g (i + 1)
    first
      | exact ⟨look_t (by assumption) hi1 (by assumption), par_t hi2 (by assumption)⟩
      | exact ⟨look_t (by assumption) hi1 (by assumption), par_f hi2 (by assumption)⟩
      | exact ⟨look_f (by assumption) hi1 (by assumption), par_t hi2 (by assumption)⟩
      | exact ⟨look_f (by assumption) hi1 (by assumption), par_f hi2 (by assumption)⟩
  · show Int.toNat (((List.length g.2 : Int) : Int) - ((i + 1) : Int)) < Int.toNat (((List.length g.2 : Int) : Int) - (i : Int))
    omega
 refine run_cond_f rfl (decide_eq_false p3) ?_
 refine run_exit rfl ?_
 refine run_seq ?_
 refine run_region rfl ?_
 refine l_val (v := Value.agg (List.toArray [Value.int .i64 g.1, g_v])) rfl (e_load_bxN (ds := [Value.int .i64 g.1, g_v]) tp24_r (by exact zs1) bx5 rfl rfl) ?_
 refine l_op rfl ?_
 refine o_callx (e_call (vals := [Value.agg (List.toArray [Value.int .i64 g.1, g_v])]) Try.func62 bd62_r nm62_r rfl) (rDegrees_ok w18 g g_v (r_g_v).ro (by exact hmay)) ?_
 rintro ⟨d44, v46⟩ w43 ⟨fr45, o47⟩
 obtain ⟨g48, hg48⟩ : ∃ q, q = glue w18.heap.size g19 d44 (fun n => if n = 1 then 4 else 0) := ⟨_, rfl⟩
 have ch49 := chg_glue fr45.below g19 d44 (fun n => if n = 1 then 4 else 0)
 rw [← hg48] at ch49
 replace o47 := o47.glue (γ := g19) (ren := (fun n => if n = 1 then 4 else 0)) (k := 4) fr45.col rfl rfl
 rw [← hg48] at o47
 clear hg48
 refine l_val (v := v46) rfl (e_assign rfl) ?_
 refine l_nil ?_
 refine run_seq ?_
 refine run_seq ?_
 clear bx5
 refine run_region rfl ?_
 refine l_val (v := Value.int .i64 0) rfl (e_assign rfl) ?_
 refine l_nil ?_
 refine run_block ?_
 refine run_loop (σ := Int × Int × Nat × Cmap) (fun ⟨k_2, k_3, v, gq⟩ f w => Base w0 gq w ∧ f 2 = Value.pointer (some ⟨b8, 0, none⟩) ∧ f 3 = Value.pointer (some ⟨b13, 0, none⟩) ∧ f 5 = v46 ∧ f 6 = Value.int .i64 (v : Int) ∧ Sl gq (is 0) w g_v g.2 ∧ Bx gq (is 2) w b8 [Value.int .i64 0, Value.int .i64 0, Value.int .i64 0, Value.int .i64 0, Value.bool false] ∧ Bx gq (is 3) w b13 [Value.int .i64 k_0, Value.int .i64 k_1, Value.int .i64 k_2, Value.int .i64 k_3, Value.bool false] ∧ Ow gq (is 4) (is 4) w v46 (degS g) ∧ (v : Int) ≤ ((List.length (degS g) : Int) : Int) ∧ (MinMax k_2 k_3 (degS g) v)) (fun ⟨k_2, k_3, v, gq⟩ => Int.toNat (((List.length (degS g) : Int) : Int) - (v : Int))) (0, 0, 0, g48) ?_ ?_
 replace hbase := hbase.chg ch49 (not_no _)
 replace r_g_v := r_g_v.chg ch49 (not_no _)
 replace bx10 := bx10.chg ch49 (not_no _)
 replace bx15 := bx15.chg ch49 (not_no _)
 · exact ⟨hbase, (by exact zs2), (by exact zs3), rfl, rfl, r_g_v, bx10, bx15, o47, by omega, by exact MinMax.start _⟩
 clear r_g_v
 clear bx10
 clear bx15
 clear o47
 clear hbase
 rintro ⟨k_2, k_3, v, g52⟩ f50 w51 ⟨hbase, zs2, zs3, zs5, zs6, r_g_v, bx10, bx15, o47, hle_v, hinv2⟩ back11
 refine run_seq ?_
 refine run_seq ?_
 refine run_region rfl ?_
 refine l_val (v := Value.int .i64 (v : Int)) rfl (e_move (by exact zs6)) ?_
 refine l_val (v := v46) rfl (e_move (by exact zs5)) ?_
 have len53 := (o47.flat).small
 refine l_val (v := Value.int .i64 (List.length (degS g) : Int)) rfl (e_len Try.underlying35 rfl o47.flat) ?_
 refine l_val (v := Value.bool (decide ((v : Int) < (List.length (degS g) : Int)))) rfl (e_lss (m := (v : Int)) (n := (List.length (degS g) : Int)) rfl rfl) ?_
 refine l_nil ?_
 by_cases p11 : (v : Int) < (List.length (degS g) : Int)
 ·
  refine run_cond_t rfl (decide_eq_true p11) ?_
  refine run_skip ?_
  refine run_seq ?_
  refine run_block ?_
  refine run_seq ?_
  refine run_seq ?_
  refine region_q g52 rfl mixed_r (by kernel_rfl) ?_
  intro w55 ch54
  refine q_val (v := Value.int .i64 (v : Int)) rfl (fun w' hw' => e_move (by exact zs6)) ?_
  refine q_val (v := Value.bool (decide ((v : Int) = 0))) rfl (fun w' hw' => e_eql (m := (v : Int)) (n := 0) rfl rfl) ?_
  refine q_val (v := Value.bool (decide ((v : Int) = 0))) rfl (fun w' hw' => e_move rfl) ?_
  by_cases q48 : (v : Int) = 0
  ·
   refine q_skip (want_n rfl rfl rfl (decide_eq_true q48)) ?_
   refine q_skip (want_n rfl rfl rfl (decide_eq_true q48)) ?_
   refine q_skip (want_n rfl rfl rfl (decide_eq_true q48)) ?_
   refine q_skip (want_n rfl rfl rfl (decide_eq_true q48)) ?_
   refine q_skip (want_n rfl rfl rfl (decide_eq_true q48)) ?_
   refine q_skip (want_n rfl rfl rfl (decide_eq_true q48)) ?_
   refine q_skip (want_n rfl rfl rfl (decide_eq_true q48)) ?_
   refine q_val (v := Value.bool true) rfl (fun w' hw' => e_pick_t rfl (decide_eq_true q48) rfl) ?_
   refine q_nil ?_
   intro w56 hc57
   replace hc57 := chg_below hc57 g52
   refine run_cond_t rfl rfl ?_
   refine run_region rfl ?_
   refine l_val (v := v46) rfl (e_move (by exact zs5)) ?_
   refine l_val (v := Value.int .i64 (v : Int)) rfl (e_move (by exact zs6)) ?_
   replace o47 := (o47.chg ch54 (not_no _) (not_no _)).chg hc57 (not_no _) (not_no _)
   refine l_val (v := Value.pointer (some (eAddr v46 1 (Int.toNat (v : Int))))) rfl (e_indexAddr (α := Int) (xs := degS g) (v := v46) (i := (v : Int)) Try.underlying35 rfl rfl o47.flat rfl (by omega) (by omega)) ?_
   refine l_val (v := Value.int .i64 (gI (degS g) (v : Int))) rfl (e_load_el1 (α := Int) (xs := degS g) (v := v46) (i := (v : Int)) tp3_r rfl o47.flat (by omega) (by omega) (by decide) rfl) ?_
   refine l_val (v := Value.pointer (some ⟨b13, 2, none⟩)) rfl (e_fieldAddr Try.underlying78 rfl rfl (by exact zs3) rfl) ?_
   refine l_op rfl ?_
   replace bx15 := (bx15.chg ch54 (not_no _)).chg hc57 (not_no _)
   refine o_store_bx (cs' := [Value.int .i64 k_0, Value.int .i64 k_1, Value.int .i64 (gI (degS g) (v : Int)), Value.int .i64 k_3, Value.bool false]) tp3_r rfl rfl bx15 rfl (Nat.le_of_ble_eq_true rfl) (AllOne.all (.cons rfl .nil)) rfl ?_
   intro w58 ch59 bx60
   clear bx15
   refine l_nil ?_
   refine run_region_x g52 [0, 1, 2, 3, 4, 5, 6, 7] mixed_r ?_
   intro w62 ch61
   refine x_pure (v := Value.pointer (some ⟨b13, 3, none⟩)) 0 rfl (by kernel_rfl) (by kernel_rfl) rfl (fun w => e_fieldAddr Try.underlying78 rfl rfl (by exact zs3) rfl) ?_
   replace bx60 := bx60.chg ch61 (not_no _)
   refine x_val (v := Value.int .i64 k_3) 1 [0, 2, 3, 4, 5] rfl (by kernel_rfl) (by kernel_rfl) rfl (e_load_bx1 tp3_r rfl bx60 rfl) ?_
   refine x_pure (v := v46) 2 rfl (by kernel_rfl) (by kernel_rfl) rfl (fun w => e_move (by exact zs5)) ?_
   refine x_pure (v := Value.int .i64 (v : Int)) 3 rfl (by kernel_rfl) (by kernel_rfl) rfl (fun w => e_move (by exact zs6)) ?_
   replace o47 := (o47.chg ch59 (is_ne rfl) (is_ne rfl)).chg ch61 (not_no _) (not_no _)
   refine x_val (v := Value.pointer (some (eAddr v46 1 (Int.toNat (v : Int))))) 4 [3, 2, 1, 0] rfl (by kernel_rfl) (by kernel_rfl) rfl (e_indexAddr (α := Int) (xs := degS g) (v := v46) (i := (v : Int)) Try.underlying35 rfl rfl o47.flat rfl (by omega) (by omega)) ?_
   refine x_val (v := Value.int .i64 (gI (degS g) (v : Int))) 5 [4, 3, 2, 1, 0] rfl (by kernel_rfl) (by kernel_rfl) rfl (e_load_el1 (α := Int) (xs := degS g) (v := v46) (i := (v : Int)) tp3_r rfl o47.flat (by omega) (by omega) (by decide) rfl) ?_
   refine x_pure (v := Value.int .i64 (max k_3 (gI (degS g) (v : Int)))) 6 rfl (by kernel_rfl) (by kernel_rfl) rfl (fun w => e_max rfl rfl) ?_
   refine x_pure (v := Value.pointer (some ⟨b13, 3, none⟩)) 7 rfl (by kernel_rfl) (by kernel_rfl) rfl (fun w => e_fieldAddr Try.underlying78 rfl rfl (by exact zs3) rfl) ?_
   refine x_one 8 rfl (by kernel_rfl) rfl ?_
   refine o_store_bx (cs' := [Value.int .i64 k_0, Value.int .i64 k_1, Value.int .i64 (gI (degS g) (v : Int)), Value.int .i64 (max k_3 (gI (degS g) (v : Int))), Value.bool false]) tp3_r rfl rfl bx60 rfl (Nat.le_of_ble_eq_true rfl) (AllOne.all (.cons rfl .nil)) rfl ?_
   intro w63 ch64 bx65
   clear bx60
   refine x_nil (by kernel_rfl) ?_
   refine run_inBlock ?_
   refine run_region rfl ?_
   refine l_val (v := Value.int .i64 (v : Int)) rfl (e_move (by exact zs6)) ?_
   refine l_val (v := Value.int .i64 ((v : Int) + 1)) rfl (e_add (m := (v : Int)) (n := 1) rfl rfl (by omega)) ?_
   refine l_val (v := Value.int .i64 ((v : Int) + 1)) rfl (e_assign rfl) ?_
   refine l_nil ?_
   have C66 : Chg (inl [3]) _ _ _ _ := (ch54.n).seq ((hc57.n).seq ((ch59.l rfl).seq ((ch61.n).seq (ch64.l rfl))))
   replace hbase := hbase.chg C66 (is_nl rfl)
   replace r_g_v := r_g_v.chg C66 (is_nl rfl)
   replace bx10 := bx10.chg C66 (is_nl rfl)
   replace o47 := o47.chg ch64 (is_ne rfl) (is_ne rfl)
   refine back11 ((gI (degS g) (v : Int)), max k_3 (gI (degS g) (v : Int)), v + 1, g52) _ _ ⟨hbase, (by exact zs2), (by exact zs3), (by exact zs5), rfl, r_g_v, bx10, bx65, o47, by omega, ?_⟩ ?_
   · show MinMax (gI (degS g) (v : Int)) (max k_3 (gI (degS g) (v : Int))) (degS g) (v + 1)
     first
       | exact hinv2.next (by assumption) deg_nonneg (by rw [if_pos (.inl (by omega))])
       | exact hinv2.next (by assumption) deg_nonneg (by rw [if_pos (.inr (by assumption))])
       | exact hinv2.next (by assumption) deg_nonneg (by rw [if_neg (by rintro (h | h) <;> omega)])
   · show Int.toNat (((List.length (degS g) : Int) : Int) - ((v + 1) : Int)) < Int.toNat (((List.length (degS g) : Int) : Int) - (v : Int))
     omega
  refine q_val (v := v46) (want_y rfl rfl rfl (decide_eq_false q48)) (fun w' hw' => e_move (by exact zs5)) ?_
  refine q_val (v := Value.int .i64 (v : Int)) (want_y rfl rfl rfl (decide_eq_false q48)) (fun w' hw' => e_move (by exact zs6)) ?_
  replace o47 := o47.chg ch54 (not_no _) (not_no _)
  refine q_val (v := Value.pointer (some (eAddr v46 1 (Int.toNat (v : Int))))) (want_y rfl rfl rfl (decide_eq_false q48)) (fun w' hw' => e_indexAddr (α := Int) (xs := degS g) (v := v46) (i := (v : Int)) Try.underlying35 rfl rfl (o47.flat.bel hw') rfl (by omega) (by omega)) ?_
  refine q_val (v := Value.int .i64 (gI (degS g) (v : Int))) (want_y rfl rfl rfl (decide_eq_false q48)) (fun w' hw' => e_load_el1 (α := Int) (xs := degS g) (v := v46) (i := (v : Int)) tp3_r rfl (o47.flat.bel hw') (by omega) (by omega) (by decide) rfl) ?_
  refine q_val (v := Value.pointer (some ⟨b13, 2, none⟩)) (want_y rfl rfl rfl (decide_eq_false q48)) (fun w' hw' => e_fieldAddr Try.underlying78 rfl rfl (by exact zs3) rfl) ?_
  replace bx15 := bx15.chg ch54 (not_no _)
  refine q_val (v := Value.int .i64 k_2) (want_y rfl rfl rfl (decide_eq_false q48)) (fun w' hw' => e_load_bx1 tp3_r rfl (bx15.bel hw') rfl) ?_
  refine q_val (v := Value.bool (decide ((gI (degS g) (v : Int)) < k_2))) (want_y rfl rfl rfl (decide_eq_false q48)) (fun w' hw' => e_lss (m := (gI (degS g) (v : Int))) (n := k_2) rfl rfl) ?_
  refine q_val (v := Value.bool (decide ((gI (degS g) (v : Int)) < k_2))) rfl (fun w' hw' => e_pick_f rfl (decide_eq_false q48) rfl) ?_
  refine q_nil ?_
  intro w67 hc68
  replace hc68 := chg_below hc68 g52
  by_cases p13 : (gI (degS g) (v : Int)) < k_2
  ·
   refine run_cond_t rfl (decide_eq_true p13) ?_
   refine run_region rfl ?_
   refine l_val (v := v46) rfl (e_move (by exact zs5)) ?_
   refine l_val (v := Value.int .i64 (v : Int)) rfl (e_move (by exact zs6)) ?_
   replace o47 := o47.chg hc68 (not_no _) (not_no _)
   refine l_val (v := Value.pointer (some (eAddr v46 1 (Int.toNat (v : Int))))) rfl (e_indexAddr (α := Int) (xs := degS g) (v := v46) (i := (v : Int)) Try.underlying35 rfl rfl o47.flat rfl (by omega) (by omega)) ?_
   refine l_val (v := Value.int .i64 (gI (degS g) (v : Int))) rfl (e_load_el1 (α := Int) (xs := degS g) (v := v46) (i := (v : Int)) tp3_r rfl o47.flat (by omega) (by omega) (by decide) rfl) ?_
   refine l_val (v := Value.pointer (some ⟨b13, 2, none⟩)) rfl (e_fieldAddr Try.underlying78 rfl rfl (by exact zs3) rfl) ?_
   refine l_op rfl ?_
   replace bx15 := bx15.chg hc68 (not_no _)
   refine o_store_bx (cs' := [Value.int .i64 k_0, Value.int .i64 k_1, Value.int .i64 (gI (degS g) (v : Int)), Value.int .i64 k_3, Value.bool false]) tp3_r rfl rfl bx15 rfl (Nat.le_of_ble_eq_true rfl) (AllOne.all (.cons rfl .nil)) rfl ?_
   intro w69 ch70 bx71
   clear bx15
   refine l_nil ?_
   refine run_region_x g52 [0, 1, 2, 3, 4, 5, 6, 7] mixed_r ?_
   intro w73 ch72
   refine x_pure (v := Value.pointer (some ⟨b13, 3, none⟩)) 0 rfl (by kernel_rfl) (by kernel_rfl) rfl (fun w => e_fieldAddr Try.underlying78 rfl rfl (by exact zs3) rfl) ?_
   replace bx71 := bx71.chg ch72 (not_no _)
   refine x_val (v := Value.int .i64 k_3) 1 [0, 2, 3, 4, 5] rfl (by kernel_rfl) (by kernel_rfl) rfl (e_load_bx1 tp3_r rfl bx71 rfl) ?_
   refine x_pure (v := v46) 2 rfl (by kernel_rfl) (by kernel_rfl) rfl (fun w => e_move (by exact zs5)) ?_
   refine x_pure (v := Value.int .i64 (v : Int)) 3 rfl (by kernel_rfl) (by kernel_rfl) rfl (fun w => e_move (by exact zs6)) ?_
   replace o47 := (o47.chg ch70 (is_ne rfl) (is_ne rfl)).chg ch72 (not_no _) (not_no _)
   refine x_val (v := Value.pointer (some (eAddr v46 1 (Int.toNat (v : Int))))) 4 [3, 2, 1, 0] rfl (by kernel_rfl) (by kernel_rfl) rfl (e_indexAddr (α := Int) (xs := degS g) (v := v46) (i := (v : Int)) Try.underlying35 rfl rfl o47.flat rfl (by omega) (by omega)) ?_
   refine x_val (v := Value.int .i64 (gI (degS g) (v : Int))) 5 [4, 3, 2, 1, 0] rfl (by kernel_rfl) (by kernel_rfl) rfl (e_load_el1 (α := Int) (xs := degS g) (v := v46) (i := (v : Int)) tp3_r rfl o47.flat (by omega) (by omega) (by decide) rfl) ?_
   refine x_pure (v := Value.int .i64 (max k_3 (gI (degS g) (v : Int)))) 6 rfl (by kernel_rfl) (by kernel_rfl) rfl (fun w => e_max rfl rfl) ?_
   refine x_pure (v := Value.pointer (some ⟨b13, 3, none⟩)) 7 rfl (by kernel_rfl) (by kernel_rfl) rfl (fun w => e_fieldAddr Try.underlying78 rfl rfl (by exact zs3) rfl) ?_
   refine x_one 8 rfl (by kernel_rfl) rfl ?_
   refine o_store_bx (cs' := [Value.int .i64 k_0, Value.int .i64 k_1, Value.int .i64 (gI (degS g) (v : Int)), Value.int .i64 (max k_3 (gI (degS g) (v : Int))), Value.bool false]) tp3_r rfl rfl bx71 rfl (Nat.le_of_ble_eq_true rfl) (AllOne.all (.cons rfl .nil)) rfl ?_
   intro w74 ch75 bx76
   clear bx71
   refine x_nil (by kernel_rfl) ?_
   refine run_inBlock ?_
   refine run_region rfl ?_
   refine l_val (v := Value.int .i64 (v : Int)) rfl (e_move (by exact zs6)) ?_
   refine l_val (v := Value.int .i64 ((v : Int) + 1)) rfl (e_add (m := (v : Int)) (n := 1) rfl rfl (by omega)) ?_
   refine l_val (v := Value.int .i64 ((v : Int) + 1)) rfl (e_assign rfl) ?_
   refine l_nil ?_
   have C77 : Chg (inl [3]) _ _ _ _ := (ch54.n).seq ((hc68.n).seq ((ch70.l rfl).seq ((ch72.n).seq (ch75.l rfl))))
   replace hbase := hbase.chg C77 (is_nl rfl)
   replace r_g_v := r_g_v.chg C77 (is_nl rfl)
   replace bx10 := bx10.chg C77 (is_nl rfl)
   replace o47 := o47.chg ch75 (is_ne rfl) (is_ne rfl)
   refine back11 ((gI (degS g) (v : Int)), max k_3 (gI (degS g) (v : Int)), v + 1, g52) _ _ ⟨hbase, (by exact zs2), (by exact zs3), (by exact zs5), rfl, r_g_v, bx10, bx76, o47, by omega, ?_⟩ ?_
   · show MinMax (gI (degS g) (v : Int)) (max k_3 (gI (degS g) (v : Int))) (degS g) (v + 1)
     first
       | exact hinv2.next (by assumption) deg_nonneg (by rw [if_pos (.inl (by omega))])
       | exact hinv2.next (by assumption) deg_nonneg (by rw [if_pos (.inr (by assumption))])
       | exact hinv2.next (by assumption) deg_nonneg (by rw [if_neg (by rintro (h | h) <;> omega)])
   · show Int.toNat (((List.length (degS g) : Int) : Int) - ((v + 1) : Int)) < Int.toNat (((List.length (degS g) : Int) : Int) - (v : Int))
     omega
  refine run_cond_f rfl (decide_eq_false p13) ?_
  refine run_skip ?_
  refine run_region_x g52 [0, 1, 2, 3, 4, 5, 6, 7] mixed_r ?_
  intro w79 ch78
  refine x_pure (v := Value.pointer (some ⟨b13, 3, none⟩)) 0 rfl (by kernel_rfl) (by kernel_rfl) rfl (fun w => e_fieldAddr Try.underlying78 rfl rfl (by exact zs3) rfl) ?_
  replace bx15 := (bx15.chg hc68 (not_no _)).chg ch78 (not_no _)
  refine x_val (v := Value.int .i64 k_3) 1 [0, 2, 3, 4, 5] rfl (by kernel_rfl) (by kernel_rfl) rfl (e_load_bx1 tp3_r rfl bx15 rfl) ?_
  refine x_pure (v := v46) 2 rfl (by kernel_rfl) (by kernel_rfl) rfl (fun w => e_move (by exact zs5)) ?_
  refine x_pure (v := Value.int .i64 (v : Int)) 3 rfl (by kernel_rfl) (by kernel_rfl) rfl (fun w => e_move (by exact zs6)) ?_
  replace o47 := (o47.chg hc68 (not_no _) (not_no _)).chg ch78 (not_no _) (not_no _)
  refine x_val (v := Value.pointer (some (eAddr v46 1 (Int.toNat (v : Int))))) 4 [3, 2, 1, 0] rfl (by kernel_rfl) (by kernel_rfl) rfl (e_indexAddr (α := Int) (xs := degS g) (v := v46) (i := (v : Int)) Try.underlying35 rfl rfl o47.flat rfl (by omega) (by omega)) ?_
  refine x_val (v := Value.int .i64 (gI (degS g) (v : Int))) 5 [4, 3, 2, 1, 0] rfl (by kernel_rfl) (by kernel_rfl) rfl (e_load_el1 (α := Int) (xs := degS g) (v := v46) (i := (v : Int)) tp3_r rfl o47.flat (by omega) (by omega) (by decide) rfl) ?_
  refine x_pure (v := Value.int .i64 (max k_3 (gI (degS g) (v : Int)))) 6 rfl (by kernel_rfl) (by kernel_rfl) rfl (fun w => e_max rfl rfl) ?_
  refine x_pure (v := Value.pointer (some ⟨b13, 3, none⟩)) 7 rfl (by kernel_rfl) (by kernel_rfl) rfl (fun w => e_fieldAddr Try.underlying78 rfl rfl (by exact zs3) rfl) ?_
  refine x_one 8 rfl (by kernel_rfl) rfl ?_
  refine o_store_bx (cs' := [Value.int .i64 k_0, Value.int .i64 k_1, Value.int .i64 k_2, Value.int .i64 (max k_3 (gI (degS g) (v : Int))), Value.bool false]) tp3_r rfl rfl bx15 rfl (Nat.le_of_ble_eq_true rfl) (AllOne.all (.cons rfl .nil)) rfl ?_
  intro w80 ch81 bx82
  clear bx15
  refine x_nil (by kernel_rfl) ?_
  refine run_inBlock ?_
  refine run_region rfl ?_
  refine l_val (v := Value.int .i64 (v : Int)) rfl (e_move (by exact zs6)) ?_
  refine l_val (v := Value.int .i64 ((v : Int) + 1)) rfl (e_add (m := (v : Int)) (n := 1) rfl rfl (by omega)) ?_
  refine l_val (v := Value.int .i64 ((v : Int) + 1)) rfl (e_assign rfl) ?_
  refine l_nil ?_
  have C83 : Chg (inl [3]) _ _ _ _ := (ch54.n).seq ((hc68.n).seq ((ch78.n).seq (ch81.l rfl)))
  replace hbase := hbase.chg C83 (is_nl rfl)
  replace r_g_v := r_g_v.chg C83 (is_nl rfl)
  replace bx10 := bx10.chg C83 (is_nl rfl)
  replace o47 := o47.chg ch81 (is_ne rfl) (is_ne rfl)
  refine back11 (k_2, max k_3 (gI (degS g) (v : Int)), v + 1, g52) _ _ ⟨hbase, (by exact zs2), (by exact zs3), (by exact zs5), rfl, r_g_v, bx10, bx82, o47, by omega, ?_⟩ ?_
  · show MinMax k_2 (max k_3 (gI (degS g) (v : Int))) (degS g) (v + 1)
    first
      | exact hinv2.next (by assumption) deg_nonneg (by rw [if_pos (.inl (by omega))])
      | exact hinv2.next (by assumption) deg_nonneg (by rw [if_pos (.inr (by assumption))])
      | exact hinv2.next (by assumption) deg_nonneg (by rw [if_neg (by rintro (h | h) <;> omega)])
  · show Int.toNat (((List.length (degS g) : Int) : Int) - ((v + 1) : Int)) < Int.toNat (((List.length (degS g) : Int) : Int) - (v : Int))
    omega
 refine run_cond_f rfl (decide_eq_false p11) ?_
 refine run_exit rfl ?_
 refine run_seq ?_
 clear o47
 refine run_region rfl ?_
 refine l_val (v := Value.pointer (some ⟨b13, 0, none⟩)) rfl (e_fieldAddr Try.underlying78 rfl rfl (by exact zs3) rfl) ?_
 refine l_val (v := Value.int .i64 k_0) rfl (e_load_bx1 tp3_r rfl bx15 rfl) ?_
 refine l_val (v := Value.bool (decide (k_0 = 0))) rfl (e_eql (m := k_0) (n := 0) rfl rfl) ?_
 refine l_val (v := Value.bool (decide (k_0 = 0))) rfl (e_move rfl) ?_
 by_cases q73 : k_0 = 0
 ·
  refine l_val (v := Value.pointer (some ⟨b13, 1, none⟩)) (want_y rfl rfl rfl (decide_eq_true q73)) (e_fieldAddr Try.underlying78 rfl rfl (by exact zs3) rfl) ?_
  refine l_val (v := Value.int .i64 k_1) (want_y rfl rfl rfl (decide_eq_true q73)) (e_load_bx1 tp3_r rfl bx15 rfl) ?_
  refine l_val (v := Value.bool (decide (k_1 = 0))) (want_y rfl rfl rfl (decide_eq_true q73)) (e_eql (m := k_1) (n := 0) rfl rfl) ?_
  refine l_val (v := Value.bool (decide (k_1 = 0))) rfl (e_pick_t rfl (decide_eq_true q73) rfl) ?_
  refine l_val (v := Value.pointer (some ⟨b13, 4, none⟩)) rfl (e_fieldAddr Try.underlying78 rfl rfl (by exact zs3) rfl) ?_
  refine l_op rfl ?_
  refine o_store_bx (cs' := [Value.int .i64 k_0, Value.int .i64 k_1, Value.int .i64 k_2, Value.int .i64 k_3, Value.bool (decide (k_1 = 0))]) tp4_r rfl rfl bx15 rfl (Nat.le_of_ble_eq_true rfl) (AllOne.all (.cons rfl .nil)) rfl ?_
  intro w84 ch85 bx86
  clear bx15
  refine l_nil ?_
  refine run_seq ?_
  refine run_region rfl ?_
  refine l_val (v := Value.agg (List.toArray [Value.int .i64 k_0, Value.int .i64 k_1, Value.int .i64 k_2, Value.int .i64 k_3, Value.bool (decide (k_1 = 0))])) rfl (e_load_bxN (ds := [Value.int .i64 k_0, Value.int .i64 k_1, Value.int .i64 k_2, Value.int .i64 k_3, Value.bool (decide (k_1 = 0))]) tp78_r (by exact zs3) bx86 rfl rfl) ?_
  refine l_op rfl ?_
  replace bx10 := bx10.chg ch85 (is_ne rfl)
  refine o_store_bx (cs' := [Value.int .i64 k_0, Value.int .i64 k_1, Value.int .i64 k_2, Value.int .i64 k_3, Value.bool (decide (k_1 = 0))]) tp78_r (by exact zs2) rfl bx10 rfl (Nat.le_of_ble_eq_true rfl) (AllOne.all (.cons rfl (.cons rfl (.cons rfl (.cons rfl (.cons rfl .nil)))))) rfl ?_
  intro w87 ch88 bx89
  clear bx10
  refine l_nil ?_
  refine run_ret (vs := [Value.agg (List.toArray [Value.int .i64 k_0, Value.int .i64 k_1, Value.int .i64 k_2, Value.int .i64 k_3, Value.bool (decide (k_1 = 0))])]) Try.func63 (.cell (by exact zs2) (load_bxN (ds := [Value.int .i64 k_0, Value.int .i64 k_1, Value.int .i64 k_2, Value.int .i64 k_3, Value.bool (decide (k_1 = 0))]) tp78_r bx89 rfl rfl) .nil) ?_
  -- return 0
  have e0 : ((k_0, k_1, k_2, k_3, decide (k_1 = 0)) : (Int) × (Int) × (Int) × (Int) × (Bool)) = ((lookR g).1) := by
    have hmm := hinv2.done (by omega)
    obtain ⟨hi1, hi2⟩ := hinv
    have hig : i = g.2.length := by omega
    subst hig
    exact lookR_of hmay hi1 hi2 hmm.1 hmm.2 (by first | (simp_all; done) | (simp_all; omega))
  replace hbase := hbase.chg ch85 (is_ne rfl)
  replace hbase := hbase.chg ch88 (is_ne rfl)
  exact ⟨(congrArg (a₁ := (k_0, k_1, k_2, k_3, decide (k_1 = 0))) (fun (z0 : (Int) × (Int) × (Int) × (Int) × (Bool)) => Ending.returned (Value.agg (List.toArray [Value.int .i64 z0.1, Value.int .i64 z0.2.1, Value.int .i64 z0.2.2.1, Value.int .i64 z0.2.2.2.1, Value.bool z0.2.2.2.2]))) e0), hbase.below⟩
 refine l_skip (want_n rfl rfl rfl (decide_eq_false q73)) ?_
 refine l_skip (want_n rfl rfl rfl (decide_eq_false q73)) ?_
 refine l_skip (want_n rfl rfl rfl (decide_eq_false q73)) ?_
 refine l_val (v := Value.bool false) rfl (e_pick_f rfl (decide_eq_false q73) rfl) ?_
 refine l_val (v := Value.pointer (some ⟨b13, 4, none⟩)) rfl (e_fieldAddr Try.underlying78 rfl rfl (by exact zs3) rfl) ?_
 refine l_op rfl ?_
 refine o_store_bx (cs' := [Value.int .i64 k_0, Value.int .i64 k_1, Value.int .i64 k_2, Value.int .i64 k_3, Value.bool false]) tp4_r rfl rfl bx15 rfl (Nat.le_of_ble_eq_true rfl) (AllOne.all (.cons rfl .nil)) rfl ?_
 intro w90 ch91 bx92
 clear bx15
 refine l_nil ?_
 refine run_seq ?_
 refine run_region rfl ?_
 refine l_val (v := Value.agg (List.toArray [Value.int .i64 k_0, Value.int .i64 k_1, Value.int .i64 k_2, Value.int .i64 k_3, Value.bool false])) rfl (e_load_bxN (ds := [Value.int .i64 k_0, Value.int .i64 k_1, Value.int .i64 k_2, Value.int .i64 k_3, Value.bool false]) tp78_r (by exact zs3) bx92 rfl rfl) ?_
 refine l_op rfl ?_
 replace bx10 := bx10.chg ch91 (is_ne rfl)
 refine o_store_bx (cs' := [Value.int .i64 k_0, Value.int .i64 k_1, Value.int .i64 k_2, Value.int .i64 k_3, Value.bool false]) tp78_r (by exact zs2) rfl bx10 rfl (Nat.le_of_ble_eq_true rfl) (AllOne.all (.cons rfl (.cons rfl (.cons rfl (.cons rfl (.cons rfl .nil)))))) rfl ?_
 intro w93 ch94 bx95
 clear bx10
 refine l_nil ?_
 refine run_ret (vs := [Value.agg (List.toArray [Value.int .i64 k_0, Value.int .i64 k_1, Value.int .i64 k_2, Value.int .i64 k_3, Value.bool false])]) Try.func63 (.cell (by exact zs2) (load_bxN (ds := [Value.int .i64 k_0, Value.int .i64 k_1, Value.int .i64 k_2, Value.int .i64 k_3, Value.bool false]) tp78_r bx95 rfl rfl) .nil) ?_
 -- return 1
 have e0 : ((k_0, k_1, k_2, k_3, false) : (Int) × (Int) × (Int) × (Int) × (Bool)) = ((lookR g).1) := by
   have hmm := hinv2.done (by omega)
   obtain ⟨hi1, hi2⟩ := hinv
   have hig : i = g.2.length := by omega
   subst hig
   exact lookR_of hmay hi1 hi2 hmm.1 hmm.2 (by first | (simp_all; done) | (simp_all; omega))
 replace hbase := hbase.chg ch91 (is_ne rfl)
 replace hbase := hbase.chg ch94 (is_ne rfl)
 exact ⟨(congrArg (a₁ := (k_0, k_1, k_2, k_3, false)) (fun (z0 : (Int) × (Int) × (Int) × (Int) × (Bool)) => Ending.returned (Value.agg (List.toArray [Value.int .i64 z0.1, Value.int .i64 z0.2.1, Value.int .i64 z0.2.2.1, Value.int .i64 z0.2.2.2.1, Value.bool z0.2.2.2.2]))) e0), hbase.below⟩

theorem rSub_ok (w0 : World) (g : (Int) × (List ((Int) × (Int)))) (g_v : Value) (hg_v : Ro w0 g_v g.2) (keep : List Int) (keep_v : Value) (hkeep_v : Ro w0 keep_v keep) (hmay : MayP g) :
    Calls Try.prog 66 #[Value.agg (List.toArray [Value.int .i64 g.1, g_v]), keep_v] w0 (fun ee w => ∃ xx : Cmap × Value, ee = .returned ((fun ⟨δ, rv0⟩ => Value.tuple (List.toArray [Value.agg (List.toArray [Value.int .i64 (((subR g keep).1).1), rv0]), Value.int .i64 ((subR g keep).2)])) xx) ∧ (fun (⟨δ, rv0⟩ : Cmap × Value) (w : World) => Fresh w0 δ w ∧ Ow δ (is 1) (is 1) w rv0 (((subR g keep).1).2)) xx w) := by
 refine calls_of_run Try.func66 rfl (Nat.le_of_ble_eq_true rfl) ?_
 have hbase := Base.start w0
 have r_g_v := hg_v.sl
 have r_keep_v := hkeep_v.sl
 have hm0 := hmay
 obtain ⟨hm1, hm2, hm3, hm4⟩ := hm0
 refine run_seq ?_
 refine run_region rfl ?_
 refine l_op rfl ?_
 refine o_box c0 (is 1) (1, 0) rfl rfl ?_
 intro g4 w1 b3 ch2 bx5
 replace bx5 : Bx g4 (is 1) w1 b3 [Value.int .i64 g.1, g_v] := bx5
 refine l_op rfl ?_
 refine o_alloc g4 (is 2) (2, 0) rfl tp24_r ?_
 intro g9 w6 b8 ch7 bx10
 replace bx10 : Bx g9 (is 2) w6 b8 [Value.int .i64 0, Value.slice none 0 0] := bx10
 refine l_val (v := Value.int .i64 0) rfl (e_assign rfl) ?_
 refine l_nil ?_
 refine run_seq ?_
 refine run_region rfl ?_
 refine l_val (v := keep_v) rfl (e_move rfl) ?_
 refine l_val (v := Value.pointer (some ⟨b3, 1, none⟩)) rfl (e_fieldAddr Try.underlying24 rfl rfl rfl rfl) ?_
 replace bx5 := bx5.chg ch7 (not_no _)
 refine l_val (v := g_v) rfl (e_load_bx1 tp22_r rfl bx5 rfl) ?_
 replace r_g_v := (r_g_v.chg ch2 (not_no _)).chg ch7 (not_no _)
 have len11 := (r_g_v).small
 refine l_val (v := Value.int .i64 (List.length g.2 : Int)) rfl (e_len Try.underlying22 rfl r_g_v) ?_
 replace r_keep_v := (r_keep_v.chg ch2 (not_no _)).chg ch7 (not_no _)
 refine l_op rfl ?_
 refine o_call (v := Value.int .i64 (chosenS keep (List.length g.2 : Int))) (e_call (vals := [keep_v, Value.int .i64 (List.length g.2 : Int)]) Try.func102 bd102_r nm102_r rfl) (rChosen_ok w6 keep keep_v (r_keep_v).ro (List.length g.2 : Int)) ?_
 intro w12 hb13
 replace hb13 := chg_below hb13 g9
 refine l_val (v := Value.int .i64 (chosenS keep (List.length g.2 : Int))) rfl (e_assign rfl) ?_
 refine l_nil ?_
 refine run_seq ?_
 refine run_seq ?_
 refine run_region rfl ?_
 refine l_val (v := Value.int .i64 (chosenS keep (List.length g.2 : Int))) rfl (e_move rfl) ?_
 refine l_val (v := Value.bool (!(decide ((chosenS keep (List.length g.2 : Int)) = 0)))) rfl (e_neq (m := chosenS keep (List.length g.2 : Int)) (n := 0) rfl rfl) ?_
 refine l_nil ?_
 by_cases p2 : (chosenS keep (List.length g.2 : Int)) = 0
 ·
  have hch := chosenS_ok p2
  refine run_cond_f rfl (congrArg Bool.not (decide_eq_true p2)) ?_
  refine run_skip ?_
  refine run_seq ?_
  refine run_region rfl ?_
  refine l_val (v := Value.pointer (some ⟨b3, 0, none⟩)) rfl (e_fieldAddr Try.underlying24 rfl rfl rfl rfl) ?_
  replace bx5 := bx5.chg hb13 (not_no _)
  refine l_val (v := Value.int .i64 g.1) rfl (e_load_bx1 tp3_r rfl bx5 rfl) ?_
  refine l_val (v := Value.agg (List.toArray [Value.int .i64 g.1, Value.slice none 0 0])) rfl (e_build (vs := [(0, Value.int .i64 g.1)]) rfl (by kernel_rfl)) ?_
  refine l_op rfl ?_
  refine o_alloc g9 (is 3) (3, 0) rfl tp24_r ?_
  intro g17 w14 b16 ch15 bx18
  replace bx18 : Bx g17 (is 3) w14 b16 [Value.int .i64 0, Value.slice none 0 0] := bx18
  refine l_op rfl ?_
  refine o_store_bx (cs' := [Value.int .i64 g.1, Value.slice none 0 0]) tp24_r rfl rfl bx18 rfl (Nat.le_of_ble_eq_true rfl) (AllOne.all (.cons rfl (.cons rfl .nil))) rfl ?_
  intro w19 ch20 bx21
  clear bx18
  refine l_nil ?_
  refine run_seq ?_
  refine run_seq ?_
  refine run_region rfl ?_
  refine l_val (v := Value.int .i64 0) rfl (e_assign rfl) ?_
  refine l_nil ?_
  refine run_block ?_
  refine run_loop (σ := Value × (List ((Int) × (Int))) × Nat × Cmap) (fun ⟨s_1_v, s_1, i, gq⟩ f w => Base w0 gq w ∧ f 1 = keep_v ∧ f 2 = Value.pointer (some ⟨b3, 0, none⟩) ∧ f 4 = Value.pointer (some ⟨b8, 0, none⟩) ∧ f 7 = Value.pointer (some ⟨b16, 0, none⟩) ∧ f 8 = Value.int .i64 (i : Int) ∧ Sl gq (is 0) w g_v g.2 ∧ Sl gq (is 0) w keep_v keep ∧ Bx gq (is 1) w b3 [Value.int .i64 g.1, g_v] ∧ Bx gq (is 2) w b8 [Value.int .i64 0, Value.slice none 0 0] ∧ Bx gq (is 3) w b16 [Value.int .i64 g.1, s_1_v] ∧ Ow gq (is 5) (is 5) w s_1_v s_1 ∧ (i : Int) ≤ ((List.length keep : Int) : Int) ∧ (s_1 = (List.take i keep).map (gI g.2))) (fun ⟨s_1_v, s_1, i, gq⟩ => Int.toNat (((List.length keep : Int) : Int) - (i : Int))) (Value.slice none 0 0, [], 0, g17) ?_ ?_
  have C22 : Chg (inl [3]) _ _ _ _ := (ch2.n).seq ((ch7.n).seq ((hb13.n).seq ((ch15.n).seq (ch20.l rfl))))
  replace hbase := hbase.chg C22 (is_nl rfl)
  have C23 : Chg (inl [3]) _ _ _ _ := (hb13.n).seq ((ch15.n).seq (ch20.l rfl))
  replace r_g_v := r_g_v.chg C23 (is_nl rfl)
  replace r_keep_v := r_keep_v.chg C23 (is_nl rfl)
  replace bx5 := (bx5.chg ch15 (not_no _)).chg ch20 (is_ne rfl)
  replace bx10 := bx10.chg C23 (is_nl rfl)
  · exact ⟨hbase, rfl, rfl, rfl, rfl, rfl, r_g_v, r_keep_v, bx5, bx10, bx21, Ow.nil, by omega, by rfl⟩
  clear r_g_v
  clear r_keep_v
  clear bx5
  clear bx10
  clear bx21
  clear hbase
  rintro ⟨s_1_v, s_1, i, g26⟩ f24 w25 ⟨hbase, zs1, zs2, zs4, zs7, zs8, r_g_v, r_keep_v, bx5, bx10, bx21, o_s_1, hle_i, hinv⟩ back6
  have hlo : s_1.length ≤ i := by rw [hinv]; simp; omega
  refine run_seq ?_
  refine run_seq ?_
  refine run_region rfl ?_
  refine l_val (v := Value.int .i64 (i : Int)) rfl (e_move (by exact zs8)) ?_
  refine l_val (v := keep_v) rfl (e_move (by exact zs1)) ?_
  have len27 := (r_keep_v).small
  refine l_val (v := Value.int .i64 (List.length keep : Int)) rfl (e_len Try.underlying35 rfl r_keep_v) ?_
  refine l_val (v := Value.bool (decide ((i : Int) < (List.length keep : Int)))) rfl (e_lss (m := (i : Int)) (n := (List.length keep : Int)) rfl rfl) ?_
  refine l_nil ?_
  by_cases p6 : (i : Int) < (List.length keep : Int)
  ·
   refine run_cond_t rfl (decide_eq_true p6) ?_
   obtain ⟨hk1, hk2⟩ := hch.1 _ (gI_mem (xs := keep) (i := (i : Int)) (by omega) (by omega))
   refine run_skip ?_
   refine run_seq ?_
   refine run_block ?_
   refine run_region_x g26 [0, 1, 2, 3, 4, 5, 6, 7, 8, 9, 12] mixed_r ?_
   intro w29 ch28
   refine x_pure (v := Value.pointer (some ⟨b16, 1, none⟩)) 0 rfl (by kernel_rfl) (by kernel_rfl) rfl (fun w => e_fieldAddr Try.underlying24 rfl rfl (by exact zs7) rfl) ?_
   replace bx21 := bx21.chg ch28 (not_no _)
   refine x_held (v := s_1_v) 1 [0, 2, 4, 5, 3, 6, 7, 8, 9, 10] rfl (by kernel_rfl) (by kernel_rfl) rfl (fun w' hw' => e_load_bx1 tp22_r rfl (bx21.bel hw') rfl) ?_
   refine x_pure (v := Value.pointer (some ⟨b3, 1, none⟩)) 2 rfl (by kernel_rfl) (by kernel_rfl) rfl (fun w => e_fieldAddr Try.underlying24 rfl rfl (by exact zs2) rfl) ?_
   replace bx5 := bx5.chg ch28 (not_no _)
   refine x_val (v := g_v) 3 [2, 1, 0, 4, 5, 6, 7] rfl (by kernel_rfl) (by kernel_rfl) rfl (e_load_bx1 tp22_r rfl bx5 rfl) ?_
   refine x_pure (v := keep_v) 4 rfl (by kernel_rfl) (by kernel_rfl) rfl (fun w => e_move (by exact zs1)) ?_
   refine x_pure (v := Value.int .i64 (i : Int)) 5 rfl (by kernel_rfl) (by kernel_rfl) rfl (fun w => e_move (by exact zs8)) ?_
   replace r_keep_v := r_keep_v.chg ch28 (not_no _)
   refine x_val (v := Value.pointer (some (eAddr keep_v 1 (Int.toNat (i : Int))))) 6 [5, 4, 3, 2, 1, 0] rfl (by kernel_rfl) (by kernel_rfl) rfl (e_indexAddr (α := Int) (xs := keep) (v := keep_v) (i := (i : Int)) Try.underlying35 rfl rfl r_keep_v rfl (by omega) (by omega)) ?_
   refine x_val (v := Value.int .i64 (gI keep (i : Int))) 7 [6, 5, 4, 3, 2, 1, 0] rfl (by kernel_rfl) (by kernel_rfl) rfl (e_load_el1 (α := Int) (xs := keep) (v := keep_v) (i := (i : Int)) tp3_r rfl r_keep_v (by omega) (by omega) (by decide) rfl) ?_
   replace r_g_v := r_g_v.chg ch28 (not_no _)
   refine x_val (v := Value.pointer (some (eAddr g_v 2 (Int.toNat (gI keep (i : Int)))))) 8 [7, 6, 5, 4, 3, 2, 1, 0] rfl (by kernel_rfl) (by kernel_rfl) rfl (e_indexAddr (α := (Int) × (Int)) (xs := g.2) (v := g_v) (i := (gI keep (i : Int))) Try.underlying22 rfl rfl r_g_v rfl (by omega) (by omega)) ?_
   refine x_val (v := Value.agg (List.toArray [Value.int .i64 ((gI g.2 (gI keep (i : Int))).1), Value.int .i64 ((gI g.2 (gI keep (i : Int))).2)])) 9 [8, 7, 6, 5, 4, 3, 2, 1, 0] rfl (by kernel_rfl) (by kernel_rfl) rfl (e_load_elN (α := (Int) × (Int)) (xs := g.2) (v := g_v) (i := (gI keep (i : Int))) tp71_r rfl r_g_v (by omega) (by omega) rfl) ?_
   refine x_one 10 rfl (by kernel_rfl) rfl ?_
   refine o_buildSlice (α := (Int) × (Int)) g26 (is 4) (is 4) (4, 0) rfl [(gI g.2 (gI keep (i : Int)))] Try.underlying22 tp71_r (by decide) (by decide) (vs := [(0, Value.agg (List.toArray [Value.int .i64 ((gI g.2 (gI keep (i : Int))).1), Value.int .i64 ((gI g.2 (gI keep (i : Int))).2)]))]) rfl rfl (.cons rfl .nil) ?_
   intro g30 w31 v32 ch33 o34
   refine x_one 11 rfl (by kernel_rfl) rfl ?_
   replace o_s_1 := (o_s_1.chg ch28 (not_no _) (not_no _)).chg ch33 (not_no _) (not_no _)
   refine o_append (α := (Int) × (Int)) (xs := s_1) (ys := ([(gI g.2 (gI keep (i : Int)))])) g30 (J := is 5) (S := is 5) (5, 0) rfl Try.underlying22 tp71_r (by decide) rfl rfl rfl o_s_1 o34.flat (by decide) (by first | omega | (simp; done) | (simp; omega)) ?_
   intro g35 w36 v37 ch38 o39
   clear o_s_1
   refine x_pure (v := Value.pointer (some ⟨b16, 1, none⟩)) 12 rfl (by kernel_rfl) (by kernel_rfl) rfl (fun w => e_fieldAddr Try.underlying24 rfl rfl (by exact zs7) rfl) ?_
   refine x_one 13 rfl (by kernel_rfl) rfl ?_
   replace bx21 := (bx21.chg ch33 (not_no _)).chg ch38 (is_ne rfl)
   refine o_store_bx1 (cs' := [Value.int .i64 g.1, v37]) tp22_r rfl rfl bx21 (sl_cells1 o39.flat) (Nat.le_of_ble_eq_true rfl) (sl_one o39.flat) rfl ?_
   intro w40 ch41 bx42
   clear bx21
   refine x_nil (by kernel_rfl) ?_
   refine run_inBlock ?_
   clear o34
   refine run_region rfl ?_
   refine l_val (v := Value.int .i64 (i : Int)) rfl (e_move (by exact zs8)) ?_
   refine l_val (v := Value.int .i64 ((i : Int) + 1)) rfl (e_add (m := (i : Int)) (n := 1) rfl rfl (by omega)) ?_
   refine l_val (v := Value.int .i64 ((i : Int) + 1)) rfl (e_assign rfl) ?_
   refine l_nil ?_
   have C43 : Chg (inl [3, 5]) _ _ _ _ := (ch28.n).seq ((ch33.n).seq ((ch38.l rfl).seq (ch41.l rfl)))
   replace hbase := hbase.chg C43 (is_nl rfl)
   have C44 : Chg (inl [3, 5]) _ _ _ _ := (ch33.n).seq ((ch38.l rfl).seq (ch41.l rfl))
   replace r_g_v := r_g_v.chg C44 (is_nl rfl)
   replace r_keep_v := r_keep_v.chg C44 (is_nl rfl)
   replace bx5 := bx5.chg C44 (is_nl rfl)
   replace bx10 := bx10.chg C43 (is_nl rfl)
   replace o39 := o39.chg ch41 (is_ne rfl) (is_ne rfl)
   refine back6 (v37, (s_1 ++ [(gI g.2 (gI keep (i : Int)))]), i + 1, g35) _ _ ⟨hbase, (by exact zs1), (by exact zs2), (by exact zs4), (by exact zs7), rfl, r_g_v, r_keep_v, bx5, bx10, bx42, o39, by omega, ?_⟩ ?_
   · show (s_1 ++ [(gI g.2 (gI keep (i : Int)))]) = (List.take (i + 1) keep).map (gI g.2)
     rw [take_succ_gI (by assumption), hinv]; simp
   · show Int.toNat (((List.length keep : Int) : Int) - ((i + 1) : Int)) < Int.toNat (((List.length keep : Int) : Int) - (i : Int))
     omega
  refine run_cond_f rfl (decide_eq_false p6) ?_
  refine run_exit rfl ?_
  refine run_seq ?_
  clear bx5
  refine run_region rfl ?_
  refine l_val (v := Value.agg (List.toArray [Value.int .i64 g.1, s_1_v])) rfl (e_load_bxN (ds := [Value.int .i64 g.1, s_1_v]) tp24_r (by exact zs7) bx21 rfl rfl) ?_
  refine l_op rfl ?_
  refine o_store_bx (cs' := [Value.int .i64 g.1, s_1_v]) tp24_r (by exact zs4) rfl bx10 rfl (Nat.le_of_ble_eq_true rfl) (AllOne.all (.cons rfl (.cons (sl_one o_s_1.flat) .nil))) rfl ?_
  intro w45 ch46 bx47
  clear bx10
  refine l_val (v := Value.int .i64 0) rfl (e_assign rfl) ?_
  refine l_nil ?_
  refine run_ret (vs := [Value.agg (List.toArray [Value.int .i64 g.1, s_1_v]), Value.int .i64 0]) Try.func66 (.cell (by exact zs4) (load_bxN (ds := [Value.int .i64 g.1, s_1_v]) tp24_r bx47 rfl rfl) (.tmp rfl .nil)) ?_
  -- return 0
  replace hbase := hbase.chg ch46 (is_ne rfl)
  replace o_s_1 := o_s_1.chg ch46 (is_ne rfl) (is_ne rfl)
  have e0 : ((g.1, s_1) : (Int) × (List ((Int) × (Int)))) = ((subR g keep).1) := by
    first
      | (have hk : List.take i keep = keep := List.take_of_length_le (by omega)
         simp only [subR, if_pos hmay, if_pos p2, hinv, hk]; done)
      | (simp only [subR, if_pos hmay, if_neg p2]; done)
  have e1 : (0 : Int) = ((subR g keep).2) := by
    first
      | (have hk : List.take i keep = keep := List.take_of_length_le (by omega)
         simp only [subR, if_pos hmay, if_pos p2, hinv, hk]; done)
      | (simp only [subR, if_pos hmay, if_neg p2]; done)
  exact ⟨(fin w0 g26 (fun n => if n = 5 then 1 else 0), s_1_v), (congr2 (a := (g.1, s_1)) (b := 0) (fun (z0 : (Int) × (List ((Int) × (Int)))) (z1 : Int) => Ending.returned (Value.tuple (List.toArray [Value.agg (List.toArray [Value.int .i64 z0.1, s_1_v]), Value.int .i64 z1]))) e0 e1), hbase.fresh _, ((congrArg (fun (z : (Int) × (List ((Int) × (Int)))) => z.2) e0) ▸ (o_s_1.glue (γ := c0) (ren := (fun n => if n = 5 then 1 else 0)) (k := 1) hbase.col rfl rfl))⟩
 refine run_cond_t rfl (congrArg Bool.not (decide_eq_false p2)) ?_
 refine run_seq ?_
 clear bx5
 refine run_region rfl ?_
 refine l_val (v := Value.agg (List.toArray [Value.int .i64 0, Value.slice none 0 0])) rfl (e_build (vs := []) rfl (by kernel_rfl)) ?_
 refine l_val (v := Value.int .i64 (chosenS keep (List.length g.2 : Int))) rfl (e_move rfl) ?_
 refine l_op rfl ?_
 replace bx10 := bx10.chg hb13 (not_no _)
 refine o_store_bx (cs' := [Value.int .i64 0, Value.slice none 0 0]) tp24_r rfl rfl bx10 rfl (Nat.le_of_ble_eq_true rfl) (AllOne.all (.cons rfl (.cons rfl .nil))) rfl ?_
 intro w48 ch49 bx50
 clear bx10
 refine l_val (v := Value.int .i64 (chosenS keep (List.length g.2 : Int))) rfl (e_assign rfl) ?_
 refine l_nil ?_
 refine run_ret (vs := [Value.agg (List.toArray [Value.int .i64 0, Value.slice none 0 0]), Value.int .i64 (chosenS keep (List.length g.2 : Int))]) Try.func66 (.cell rfl (load_bxN (ds := [Value.int .i64 0, Value.slice none 0 0]) tp24_r bx50 rfl rfl) (.tmp rfl .nil)) ?_
 -- return 1
 have C51 : Chg (inl [2]) _ _ _ _ := (ch2.n).seq ((ch7.n).seq ((hb13.n).seq (ch49.l rfl)))
 replace hbase := hbase.chg C51 (is_nl rfl)
 have e0 : ((0, []) : (Int) × (List ((Int) × (Int)))) = ((subR g keep).1) := by
   first
     | (have hk : List.take i keep = keep := List.take_of_length_le (by omega)
        simp only [subR, if_pos hmay, if_pos p2, hinv, hk]; done)
     | (simp only [subR, if_pos hmay, if_neg p2]; done)
 have e1 : (chosenS keep (List.length g.2 : Int) : Int) = ((subR g keep).2) := by
   first
     | (have hk : List.take i keep = keep := List.take_of_length_le (by omega)
        simp only [subR, if_pos hmay, if_pos p2, hinv, hk]; done)
     | (simp only [subR, if_pos hmay, if_neg p2]; done)
 exact ⟨(fin w0 g9 (fun n => 0), (Value.slice none 0 0)), (congr2 (a := (0, [])) (b := chosenS keep (List.length g.2 : Int)) (fun (z0 : (Int) × (List ((Int) × (Int)))) (z1 : Int) => Ending.returned (Value.tuple (List.toArray [Value.agg (List.toArray [Value.int .i64 z0.1, Value.slice none 0 0]), Value.int .i64 z1]))) e0 e1), hbase.fresh _, ((congrArg (fun (z : (Int) × (List ((Int) × (Int)))) => z.2) e0) ▸ Ow.nil)⟩

theorem rPart_ok (w0 : World) (g : (Int) × (List ((Int) × (Int)))) (g_v : Value) (hg_v : Ro w0 g_v g.2) (nodes : List Int) (nodes_v : Value) (hnodes_v : Ro w0 nodes_v nodes) (hmay : MayP g) :
    Calls Try.prog 67 #[Value.agg (List.toArray [Value.int .i64 g.1, g_v]), nodes_v] w0 (fun ee w => ∃ xx : Cmap × Value × Value, ee = .returned ((fun ⟨δ, rv0, rv1⟩ => Value.tuple (List.toArray [Value.agg (List.toArray [Value.int .i64 (((partR g nodes).1).1), rv0]), rv1, Value.int .i64 ((partR g nodes).2.2)])) xx) ∧ (fun (⟨δ, rv0, rv1⟩ : Cmap × Value × Value) (w : World) => Fresh w0 δ w ∧ Ow δ (is 1) (is 1) w rv0 (((partR g nodes).1).2) ∧ Ow δ (is 2) (is 2) w rv1 ((partR g nodes).2.1)) xx w) := by
 refine calls_of_run Try.func67 rfl (Nat.le_of_ble_eq_true rfl) ?_
 have hbase := Base.start w0
 have r_g_v := hg_v.sl
 have r_nodes_v := hnodes_v.sl
 have hm0 := hmay
 obtain ⟨hm1, hm2, hm3, hm4⟩ := hm0
 refine run_seq ?_
 refine run_region rfl ?_
 refine l_op rfl ?_
 refine o_box c0 (is 1) (1, 0) rfl rfl ?_
 intro g4 w1 b3 ch2 bx5
 replace bx5 : Bx g4 (is 1) w1 b3 [Value.int .i64 g.1, g_v] := bx5
 refine l_op rfl ?_
 refine o_alloc g4 (is 2) (2, 0) rfl tp24_r ?_
 intro g9 w6 b8 ch7 bx10
 replace bx10 : Bx g9 (is 2) w6 b8 [Value.int .i64 0, Value.slice none 0 0] := bx10
 refine l_val (v := Value.slice none 0 0) rfl (e_assign rfl) ?_
 refine l_val (v := Value.int .i64 0) rfl (e_assign rfl) ?_
 refine l_nil ?_
 refine run_seq ?_
 refine run_region rfl ?_
 refine l_val (v := nodes_v) rfl (e_move rfl) ?_
 refine l_val (v := Value.pointer (some ⟨b3, 0, none⟩)) rfl (e_fieldAddr Try.underlying24 rfl rfl rfl rfl) ?_
 replace bx5 := bx5.chg ch7 (not_no _)
 refine l_val (v := Value.int .i64 g.1) rfl (e_load_bx1 tp3_r rfl bx5 rfl) ?_
 replace r_nodes_v := (r_nodes_v.chg ch2 (not_no _)).chg ch7 (not_no _)
 refine l_op rfl ?_
 refine o_call (v := Value.int .i64 (chosenS nodes g.1)) (e_call (vals := [nodes_v, Value.int .i64 g.1]) Try.func102 bd102_r nm102_r rfl) (rChosen_ok w6 nodes nodes_v (r_nodes_v).ro g.1) ?_
 intro w11 hb12
 replace hb12 := chg_below hb12 g9
 refine l_val (v := Value.int .i64 (chosenS nodes g.1)) rfl (e_assign rfl) ?_
 refine l_nil ?_
 refine run_seq ?_
 refine run_seq ?_
 refine run_region rfl ?_
 refine l_val (v := Value.int .i64 (chosenS nodes g.1)) rfl (e_move rfl) ?_
 refine l_val (v := Value.bool (!(decide ((chosenS nodes g.1) = 0)))) rfl (e_neq (m := chosenS nodes g.1) (n := 0) rfl rfl) ?_
 refine l_nil ?_
 by_cases p2 : (chosenS nodes g.1) = 0
 ·
  have hch := chosenS_ok p2
  refine run_cond_f rfl (congrArg Bool.not (decide_eq_true p2)) ?_
  refine run_skip ?_
  refine run_seq ?_
  refine run_region rfl ?_
  refine l_val (v := Value.pointer (some ⟨b3, 0, none⟩)) rfl (e_fieldAddr Try.underlying24 rfl rfl rfl rfl) ?_
  replace bx5 := bx5.chg hb12 (not_no _)
  refine l_val (v := Value.int .i64 g.1) rfl (e_load_bx1 tp3_r rfl bx5 rfl) ?_
  refine l_op rfl ?_
  refine o_make (α := Int) (l := g.1) (cp := g.1) g9 (is 3) (is 3) (3, 0) rfl (0 : Int) Try.underlying35 tp3_r rfl rfl rfl (by omega) (by omega) (by omega) (by omega) ?_
  intro g13 w14 v15 ch16 o17 _
  refine l_val (v := v15) rfl (e_assign rfl) ?_
  refine l_nil ?_
  refine run_seq ?_
  refine run_seq ?_
  refine run_region rfl ?_
  refine l_val (v := Value.int .i64 0) rfl (e_assign rfl) ?_
  refine l_nil ?_
  refine run_block ?_
  refine run_loop (σ := Nat × (List Int) × Cmap) (fun ⟨i, at_, gq⟩ f w => Base w0 gq w ∧ f 1 = nodes_v ∧ f 2 = Value.pointer (some ⟨b3, 0, none⟩) ∧ f 4 = Value.pointer (some ⟨b8, 0, none⟩) ∧ f 8 = v15 ∧ f 9 = Value.int .i64 (i : Int) ∧ Sl gq (is 0) w g_v g.2 ∧ Sl gq (is 0) w nodes_v nodes ∧ Bx gq (is 1) w b3 [Value.int .i64 g.1, g_v] ∧ Bx gq (is 2) w b8 [Value.int .i64 0, Value.slice none 0 0] ∧ Ow gq (is 3) (is 3) w v15 at_ ∧ (i : Int) ≤ ((List.length nodes : Int) : Int) ∧ (PosInv at_ nodes g.1 i)) (fun ⟨i, at_, gq⟩ => Int.toNat (((List.length nodes : Int) : Int) - (i : Int))) (0, (List.replicate (Int.toNat g.1) (0 : Int)), g13) ?_ ?_
  have C18 : Chg (inl []) _ _ _ _ := (ch2.n).seq ((ch7.n).seq ((hb12.n).seq (ch16.n)))
  replace hbase := hbase.chg C18 (is_nl rfl)
  replace r_g_v := r_g_v.chg C18 (is_nl rfl)
  replace r_nodes_v := (r_nodes_v.chg hb12 (not_no _)).chg ch16 (not_no _)
  replace bx5 := bx5.chg ch16 (not_no _)
  replace bx10 := (bx10.chg hb12 (not_no _)).chg ch16 (not_no _)
  · exact ⟨hbase, rfl, rfl, rfl, rfl, rfl, r_g_v, r_nodes_v, bx5, bx10, o17, by omega, by exact PosInv.start nodes g.1 hm1⟩
  clear r_g_v
  clear r_nodes_v
  clear bx5
  clear bx10
  clear o17
  clear hbase
  rintro ⟨i, at_, g21⟩ f19 w20 ⟨hbase, zs1, zs2, zs4, zs8, zs9, r_g_v, r_nodes_v, bx5, bx10, o17, hle_i, hpi⟩ back6
  have htl := hpi.len
  refine run_seq ?_
  refine run_seq ?_
  refine run_region rfl ?_
  refine l_val (v := Value.int .i64 (i : Int)) rfl (e_move (by exact zs9)) ?_
  refine l_val (v := nodes_v) rfl (e_move (by exact zs1)) ?_
  have len22 := (r_nodes_v).small
  refine l_val (v := Value.int .i64 (List.length nodes : Int)) rfl (e_len Try.underlying35 rfl r_nodes_v) ?_
  refine l_val (v := Value.bool (decide ((i : Int) < (List.length nodes : Int)))) rfl (e_lss (m := (i : Int)) (n := (List.length nodes : Int)) rfl rfl) ?_
  refine l_nil ?_
  by_cases p6 : (i : Int) < (List.length nodes : Int)
  ·
   refine run_cond_t rfl (decide_eq_true p6) ?_
   obtain ⟨hk1, hk2⟩ := hch.1 _ (gI_mem (xs := nodes) (i := (i : Int)) (by omega) (by omega))
   refine run_skip ?_
   refine run_seq ?_
   refine run_block ?_
   refine run_region rfl ?_
   refine l_val (v := v15) rfl (e_move (by exact zs8)) ?_
   refine l_val (v := nodes_v) rfl (e_move (by exact zs1)) ?_
   refine l_val (v := Value.int .i64 (i : Int)) rfl (e_move (by exact zs9)) ?_
   refine l_val (v := Value.pointer (some (eAddr nodes_v 1 (Int.toNat (i : Int))))) rfl (e_indexAddr (α := Int) (xs := nodes) (v := nodes_v) (i := (i : Int)) Try.underlying35 rfl rfl r_nodes_v rfl (by omega) (by omega)) ?_
   refine l_val (v := Value.int .i64 (gI nodes (i : Int))) rfl (e_load_el1 (α := Int) (xs := nodes) (v := nodes_v) (i := (i : Int)) tp3_r rfl r_nodes_v (by omega) (by omega) (by decide) rfl) ?_
   refine l_val (v := Value.int .i64 (i : Int)) rfl (e_move (by exact zs9)) ?_
   refine l_val (v := Value.int .i64 ((i : Int) + 1)) rfl (e_add (m := (i : Int)) (n := 1) rfl rfl (by omega)) ?_
   refine l_val (v := Value.pointer (some (eAddr v15 1 (Int.toNat (gI nodes (i : Int)))))) rfl (e_indexAddr (α := Int) (xs := at_) (v := v15) (i := (gI nodes (i : Int))) Try.underlying35 rfl rfl o17.flat rfl (by omega) (by omega)) ?_
   refine l_op rfl ?_
   refine o_store_el (i := (gI nodes (i : Int))) ((i : Int) + 1) tp3_r rfl rfl o17 (by omega) (by omega) rfl ?_
   intro w23 ch24 bx25
   clear o17
   refine l_nil ?_
   refine run_inBlock ?_
   refine run_region rfl ?_
   refine l_val (v := Value.int .i64 (i : Int)) rfl (e_move (by exact zs9)) ?_
   refine l_val (v := Value.int .i64 ((i : Int) + 1)) rfl (e_add (m := (i : Int)) (n := 1) rfl rfl (by omega)) ?_
   refine l_val (v := Value.int .i64 ((i : Int) + 1)) rfl (e_assign rfl) ?_
   refine l_nil ?_
   replace hbase := hbase.chg ch24 (is_ne rfl)
   replace r_g_v := r_g_v.chg ch24 (is_ne rfl)
   replace r_nodes_v := r_nodes_v.chg ch24 (is_ne rfl)
   replace bx5 := bx5.chg ch24 (is_ne rfl)
   replace bx10 := bx10.chg ch24 (is_ne rfl)
   refine back6 (i + 1, (List.set at_ (Int.toNat (gI nodes (i : Int))) ((i : Int) + 1)), g21) _ _ ⟨hbase, (by exact zs1), (by exact zs2), (by exact zs4), (by exact zs8), rfl, r_g_v, r_nodes_v, bx5, bx10, bx25, by omega, ?_⟩ ?_
   · show PosInv (List.set at_ (Int.toNat (gI nodes (i : Int))) ((i : Int) + 1)) nodes g.1 (i + 1)
     exact hpi.next (by omega) hk1 hk2 hch.2
   · show Int.toNat (((List.length nodes : Int) : Int) - ((i + 1) : Int)) < Int.toNat (((List.length nodes : Int) : Int) - (i : Int))
     omega
  refine run_cond_f rfl (decide_eq_false p6) ?_
  refine run_exit rfl ?_
  refine run_seq ?_
  refine run_region rfl ?_
  refine l_val (v := nodes_v) rfl (e_move (by exact zs1)) ?_
  refine l_val (v := Value.int .i64 (List.length nodes : Int)) rfl (e_len Try.underlying35 rfl r_nodes_v) ?_
  refine l_val (v := Value.agg (List.toArray [Value.int .i64 (List.length nodes : Int), Value.slice none 0 0])) rfl (e_build (vs := [(0, Value.int .i64 (List.length nodes : Int))]) rfl (by kernel_rfl)) ?_
  refine l_op rfl ?_
  refine o_alloc g21 (is 4) (4, 0) rfl tp24_r ?_
  intro g29 w26 b28 ch27 bx30
  replace bx30 : Bx g29 (is 4) w26 b28 [Value.int .i64 0, Value.slice none 0 0] := bx30
  refine l_op rfl ?_
  refine o_store_bx (cs' := [Value.int .i64 (List.length nodes : Int), Value.slice none 0 0]) tp24_r rfl rfl bx30 rfl (Nat.le_of_ble_eq_true rfl) (AllOne.all (.cons rfl (.cons rfl .nil))) rfl ?_
  intro w31 ch32 bx33
  clear bx30
  refine l_nil ?_
  refine run_seq ?_
  refine run_region rfl ?_
  refine l_val (v := Value.slice none 0 0) rfl (e_assign rfl) ?_
  refine l_nil ?_
  refine run_seq ?_
  refine run_seq ?_
  refine run_region rfl ?_
  refine l_val (v := Value.int .i64 0) rfl (e_assign rfl) ?_
  refine l_nil ?_
  refine run_block ?_
  refine run_loop (σ := Value × (List ((Int) × (Int))) × Value × (List Int) × Nat × Cmap) (fun ⟨s_1_v, s_1, l_v, l, k, gq⟩ f w => Base w0 gq w ∧ f 2 = Value.pointer (some ⟨b3, 0, none⟩) ∧ f 4 = Value.pointer (some ⟨b8, 0, none⟩) ∧ f 8 = v15 ∧ f 10 = Value.pointer (some ⟨b28, 0, none⟩) ∧ f 11 = l_v ∧ f 12 = Value.int .i64 (k : Int) ∧ Sl gq (is 0) w g_v g.2 ∧ Sl gq (is 0) w nodes_v nodes ∧ Bx gq (is 1) w b3 [Value.int .i64 g.1, g_v] ∧ Bx gq (is 2) w b8 [Value.int .i64 0, Value.slice none 0 0] ∧ Ow gq (is 3) (is 3) w v15 at_ ∧ Bx gq (is 4) w b28 [Value.int .i64 (List.length nodes : Int), s_1_v] ∧ Ow gq (is 6) (is 6) w s_1_v s_1 ∧ Ow gq (is 8) (is 8) w l_v l ∧ (k : Int) ≤ ((List.length g.2 : Int) : Int) ∧ (l = partWk g nodes k ∧ s_1 = (partWk g nodes k).map (fun i => (posS nodes (gI g.2 i).1 - 1, posS nodes (gI g.2 i).2 - 1)))) (fun ⟨s_1_v, s_1, l_v, l, k, gq⟩ => Int.toNat (((List.length g.2 : Int) : Int) - (k : Int))) (Value.slice none 0 0, [], Value.slice none 0 0, [], 0, g29) ?_ ?_
  replace hbase := hbase.chg ch27 (not_no _)
  replace hbase := hbase.chg ch32 (is_ne rfl)
  replace r_g_v := (r_g_v.chg ch27 (not_no _)).chg ch32 (is_ne rfl)
  replace r_nodes_v := (r_nodes_v.chg ch27 (not_no _)).chg ch32 (is_ne rfl)
  replace bx5 := (bx5.chg ch27 (not_no _)).chg ch32 (is_ne rfl)
  replace bx10 := (bx10.chg ch27 (not_no _)).chg ch32 (is_ne rfl)
  replace o17 := (o17.chg ch27 (not_no _) (not_no _)).chg ch32 (is_ne rfl) (is_ne rfl)
  · exact ⟨hbase, (by exact zs2), (by exact zs4), (by exact zs8), rfl, rfl, rfl, r_g_v, r_nodes_v, bx5, bx10, o17, bx33, Ow.nil, Ow.nil, by omega, by exact ⟨rfl, rfl⟩⟩
  clear r_g_v
  clear r_nodes_v
  clear bx5
  clear bx10
  clear o17
  clear bx33
  clear hbase
  rintro ⟨s_1_v, s_1, l_v, l, k, g36⟩ f34 w35 ⟨hbase, zs2, zs4, zs8, zs10, zs11, zs12, r_g_v, r_nodes_v, bx5, bx10, o17, bx33, o_s_1, o_l, hle_k, hinv⟩ back12
  have hi1 := hinv.1
  have hi2 := hinv.2
  have hw2 := partWk_len g nodes k
  have hw3 : l.length ≤ k := by rw [hi1]; exact hw2
  have hw4 : s_1.length ≤ k := by rw [hi2, List.length_map]; exact hw2
  have hto : ∀ v, 0 ≤ v → v < g.1 → gI at_ v = posS nodes v := by have := hpi.pos; rwa [List.take_of_length_le (by omega)] at this
  have htl := hpi.len
  refine run_seq ?_
  refine run_seq ?_
  refine run_region rfl ?_
  refine l_val (v := Value.int .i64 (k : Int)) rfl (e_move (by exact zs12)) ?_
  refine l_val (v := Value.pointer (some ⟨b3, 1, none⟩)) rfl (e_fieldAddr Try.underlying24 rfl rfl (by exact zs2) rfl) ?_
  refine l_val (v := g_v) rfl (e_load_bx1 tp22_r rfl bx5 rfl) ?_
  have len37 := (r_g_v).small
  refine l_val (v := Value.int .i64 (List.length g.2 : Int)) rfl (e_len Try.underlying22 rfl r_g_v) ?_
  refine l_val (v := Value.bool (decide ((k : Int) < (List.length g.2 : Int)))) rfl (e_lss (m := (k : Int)) (n := (List.length g.2 : Int)) rfl rfl) ?_
  refine l_nil ?_
  by_cases p12 : (k : Int) < (List.length g.2 : Int)
  ·
   refine run_cond_t rfl (decide_eq_true p12) ?_
   obtain ⟨⟨he1, he2⟩, he3, he4⟩ := hm4 _ (gI_mem (xs := g.2) (i := (k : Int)) (by omega) (by omega))
   have hg1 := hto _ he1 he2
   have hg2 := hto _ he3 he4
   have hn1 := posS_le nodes (gI g.2 (k : Int)).1
   have hn2 := posS_le nodes (gI g.2 (k : Int)).2
   have hn3 := posS_nonneg nodes (gI g.2 (k : Int)).1
   have hn4 := posS_nonneg nodes (gI g.2 (k : Int)).2
   refine run_skip ?_
   refine run_seq ?_
   refine run_block ?_
   refine run_seq ?_
   refine region_q g36 rfl mixed_r (by kernel_rfl) ?_
   intro w39 ch38
   refine q_val (v := v15) rfl (fun w' hw' => e_move (by exact zs8)) ?_
   refine q_val (v := Value.pointer (some ⟨b3, 1, none⟩)) rfl (fun w' hw' => e_fieldAddr Try.underlying24 rfl rfl (by exact zs2) rfl) ?_
   replace bx5 := bx5.chg ch38 (not_no _)
   refine q_val (v := g_v) rfl (fun w' hw' => e_load_bx1 tp22_r rfl (bx5.bel hw') rfl) ?_
   refine q_val (v := Value.int .i64 (k : Int)) rfl (fun w' hw' => e_move (by exact zs12)) ?_
   replace r_g_v := r_g_v.chg ch38 (not_no _)
   refine q_val (v := Value.pointer (some (eAddr g_v 2 (Int.toNat (k : Int))))) rfl (fun w' hw' => e_indexAddr (α := (Int) × (Int)) (xs := g.2) (v := g_v) (i := (k : Int)) Try.underlying22 rfl rfl (r_g_v.bel hw') rfl (by omega) (by omega)) ?_
   refine q_val (v := Value.pointer (some ⟨(eAddr g_v 2 (Int.toNat (k : Int))).block, (eAddr g_v 2 (Int.toNat (k : Int))).off + 0, none⟩)) rfl (fun w' hw' => e_indexAddr_el Try.underlying71 rfl rfl rfl (by decide) (by decide) rfl) ?_
   refine q_val (v := Value.int .i64 ((gI g.2 (k : Int)).1)) rfl (fun w' hw' => e_load_elF (α := (Int) × (Int)) (xs := g.2) (v := g_v) (i := (k : Int)) tp3_r rfl (r_g_v.bel hw') (by omega) (by omega) (by decide) rfl) ?_
   replace o17 := o17.chg ch38 (not_no _) (not_no _)
   refine q_val (v := Value.pointer (some (eAddr v15 1 (Int.toNat ((gI g.2 (k : Int)).1))))) rfl (fun w' hw' => e_indexAddr (α := Int) (xs := at_) (v := v15) (i := (gI g.2 (k : Int)).1) Try.underlying35 rfl rfl (o17.flat.bel hw') rfl (by omega) (by omega)) ?_
   refine q_val (v := Value.int .i64 (gI at_ ((gI g.2 (k : Int)).1))) rfl (fun w' hw' => e_load_el1 (α := Int) (xs := at_) (v := v15) (i := (gI g.2 (k : Int)).1) tp3_r rfl (o17.flat.bel hw') (by omega) (by omega) (by decide) rfl) ?_
   refine q_val (v := v15) rfl (fun w' hw' => e_move (by exact zs8)) ?_
   refine q_val (v := Value.pointer (some ⟨b3, 1, none⟩)) rfl (fun w' hw' => e_fieldAddr Try.underlying24 rfl rfl (by exact zs2) rfl) ?_
   refine q_val (v := g_v) rfl (fun w' hw' => e_load_bx1 tp22_r rfl (bx5.bel hw') rfl) ?_
   refine q_val (v := Value.int .i64 (k : Int)) rfl (fun w' hw' => e_move (by exact zs12)) ?_
   refine q_val (v := Value.pointer (some (eAddr g_v 2 (Int.toNat (k : Int))))) rfl (fun w' hw' => e_indexAddr (α := (Int) × (Int)) (xs := g.2) (v := g_v) (i := (k : Int)) Try.underlying22 rfl rfl (r_g_v.bel hw') rfl (by omega) (by omega)) ?_
   refine q_val (v := Value.pointer (some ⟨(eAddr g_v 2 (Int.toNat (k : Int))).block, (eAddr g_v 2 (Int.toNat (k : Int))).off + 1, none⟩)) rfl (fun w' hw' => e_indexAddr_el Try.underlying71 rfl rfl rfl (by decide) (by decide) rfl) ?_
   refine q_val (v := Value.int .i64 ((gI g.2 (k : Int)).2)) rfl (fun w' hw' => e_load_elF (α := (Int) × (Int)) (xs := g.2) (v := g_v) (i := (k : Int)) tp3_r rfl (r_g_v.bel hw') (by omega) (by omega) (by decide) rfl) ?_
   refine q_val (v := Value.pointer (some (eAddr v15 1 (Int.toNat ((gI g.2 (k : Int)).2))))) rfl (fun w' hw' => e_indexAddr (α := Int) (xs := at_) (v := v15) (i := (gI g.2 (k : Int)).2) Try.underlying35 rfl rfl (o17.flat.bel hw') rfl (by omega) (by omega)) ?_
   refine q_val (v := Value.int .i64 (gI at_ ((gI g.2 (k : Int)).2))) rfl (fun w' hw' => e_load_el1 (α := Int) (xs := at_) (v := v15) (i := (gI g.2 (k : Int)).2) tp3_r rfl (o17.flat.bel hw') (by omega) (by omega) (by decide) rfl) ?_
   refine q_val (v := Value.int .i64 (gI at_ ((gI g.2 (k : Int)).1))) rfl (fun w' hw' => e_assign rfl) ?_
   refine q_val (v := Value.int .i64 (gI at_ ((gI g.2 (k : Int)).2))) rfl (fun w' hw' => e_assign rfl) ?_
   refine q_nil ?_
   intro w40 hc41
   replace hc41 := chg_below hc41 g36
   refine run_seq ?_
   refine run_region rfl ?_
   refine l_val (v := Value.int .i64 (gI at_ ((gI g.2 (k : Int)).1))) rfl (e_move rfl) ?_
   refine l_val (v := Value.bool (decide (0 < (gI at_ ((gI g.2 (k : Int)).1))))) rfl (e_gtr (m := (gI at_ ((gI g.2 (k : Int)).1))) (n := 0) rfl rfl) ?_
   refine l_val (v := Value.bool (decide (0 < (gI at_ ((gI g.2 (k : Int)).1))))) rfl (e_move rfl) ?_
   by_cases q70 : 0 < (gI at_ ((gI g.2 (k : Int)).1))
   ·
    refine l_val (v := Value.int .i64 (gI at_ ((gI g.2 (k : Int)).2))) (want_y rfl rfl rfl (decide_eq_true q70)) (e_move rfl) ?_
    refine l_val (v := Value.bool (decide (0 < (gI at_ ((gI g.2 (k : Int)).2))))) (want_y rfl rfl rfl (decide_eq_true q70)) (e_gtr (m := (gI at_ ((gI g.2 (k : Int)).2))) (n := 0) rfl rfl) ?_
    refine l_val (v := Value.bool (decide (0 < (gI at_ ((gI g.2 (k : Int)).2))))) rfl (e_pick_t rfl (decide_eq_true q70) rfl) ?_
    refine l_nil ?_
    by_cases p15 : 0 < (gI at_ ((gI g.2 (k : Int)).2))
    ·
     refine run_cond_t rfl (decide_eq_true p15) ?_
     refine run_seq ?_
     refine run_region rfl ?_
     refine l_val (v := Value.pointer (some ⟨b28, 1, none⟩)) rfl (e_fieldAddr Try.underlying24 rfl rfl (by exact zs10) rfl) ?_
     replace bx33 := (bx33.chg ch38 (not_no _)).chg hc41 (not_no _)
     refine l_val (v := s_1_v) rfl (e_load_bx1 tp22_r rfl bx33 rfl) ?_
     refine l_val (v := Value.int .i64 (gI at_ ((gI g.2 (k : Int)).1))) rfl (e_move rfl) ?_
     refine l_val (v := Value.int .i64 ((gI at_ ((gI g.2 (k : Int)).1)) - 1)) rfl (e_sub (m := (gI at_ ((gI g.2 (k : Int)).1))) (n := 1) rfl rfl (by omega)) ?_
     refine l_val (v := Value.int .i64 (gI at_ ((gI g.2 (k : Int)).2))) rfl (e_move rfl) ?_
     refine l_val (v := Value.int .i64 ((gI at_ ((gI g.2 (k : Int)).2)) - 1)) rfl (e_sub (m := (gI at_ ((gI g.2 (k : Int)).2))) (n := 1) rfl rfl (by omega)) ?_
     refine l_val (v := Value.agg (List.toArray [Value.int .i64 ((gI at_ ((gI g.2 (k : Int)).1)) - 1), Value.int .i64 ((gI at_ ((gI g.2 (k : Int)).2)) - 1)])) rfl (e_build (vs := [(0, Value.int .i64 ((gI at_ ((gI g.2 (k : Int)).1)) - 1)), (1, Value.int .i64 ((gI at_ ((gI g.2 (k : Int)).2)) - 1))]) rfl (by kernel_rfl)) ?_
     refine l_op rfl ?_
     refine o_buildSlice (α := (Int) × (Int)) g36 (is 5) (is 5) (5, 0) rfl [((gI at_ ((gI g.2 (k : Int)).1)) - 1, (gI at_ ((gI g.2 (k : Int)).2)) - 1)] Try.underlying22 tp71_r (by decide) (by decide) (vs := [(0, Value.agg (List.toArray [Value.int .i64 ((gI at_ ((gI g.2 (k : Int)).1)) - 1), Value.int .i64 ((gI at_ ((gI g.2 (k : Int)).2)) - 1)]))]) rfl rfl (.cons rfl .nil) ?_
     intro g42 w43 v44 ch45 o46
     refine l_op rfl ?_
     have C47 : Chg (inl []) _ _ _ _ := (ch38.n).seq ((hc41.n).seq (ch45.n))
     replace o_s_1 := o_s_1.chg C47 (is_nl rfl) (is_nl rfl)
     refine o_append (α := (Int) × (Int)) (xs := s_1) (ys := ([((gI at_ ((gI g.2 (k : Int)).1)) - 1, (gI at_ ((gI g.2 (k : Int)).2)) - 1)])) g42 (J := is 6) (S := is 6) (6, 0) rfl Try.underlying22 tp71_r (by decide) rfl rfl rfl o_s_1 o46.flat (by decide) (by first | omega | (simp; done) | (simp; omega)) ?_
     intro g48 w49 v50 ch51 o52
     clear o_s_1
     refine l_val (v := Value.pointer (some ⟨b28, 1, none⟩)) rfl (e_fieldAddr Try.underlying24 rfl rfl (by exact zs10) rfl) ?_
     refine l_op rfl ?_
     replace bx33 := (bx33.chg ch45 (not_no _)).chg ch51 (is_ne rfl)
     refine o_store_bx1 (cs' := [Value.int .i64 (List.length nodes : Int), v50]) tp22_r rfl rfl bx33 (sl_cells1 o52.flat) (Nat.le_of_ble_eq_true rfl) (sl_one o52.flat) rfl ?_
     intro w53 ch54 bx55
     clear bx33
     refine l_nil ?_
     clear o46
     refine run_region rfl ?_
     refine l_val (v := l_v) rfl (e_move (by exact zs11)) ?_
     refine l_val (v := Value.int .i64 (k : Int)) rfl (e_move (by exact zs12)) ?_
     refine l_op rfl ?_
     refine o_buildSlice (α := Int) g48 (is 7) (is 7) (7, 0) rfl [(k : Int)] Try.underlying35 tp3_r (by decide) (by decide) (vs := [(0, Value.int .i64 (k : Int))]) rfl rfl (.cons rfl .nil) ?_
     intro g56 w57 v58 ch59 o60
     refine l_op rfl ?_
     have C61 : Chg (inl [4, 6]) _ _ _ _ := (ch38.n).seq ((hc41.n).seq ((ch45.n).seq ((ch51.l rfl).seq ((ch54.l rfl).seq (ch59.n)))))
     replace o_l := o_l.chg C61 (is_nl rfl) (is_nl rfl)
     refine o_append (α := Int) (xs := l) (ys := ([(k : Int)])) g56 (J := is 8) (S := is 8) (8, 0) rfl Try.underlying35 tp3_r (by decide) rfl rfl rfl o_l o60.flat (by decide) (by first | omega | (simp; done) | (simp; omega)) ?_
     intro g62 w63 v64 ch65 o66
     clear o_l
     refine l_val (v := v64) rfl (e_assign rfl) ?_
     refine l_nil ?_
     refine run_inBlock ?_
     clear o60
     refine run_region rfl ?_
     refine l_val (v := Value.int .i64 (k : Int)) rfl (e_move (by exact zs12)) ?_
     refine l_val (v := Value.int .i64 ((k : Int) + 1)) rfl (e_add (m := (k : Int)) (n := 1) rfl rfl (by omega)) ?_
     refine l_val (v := Value.int .i64 ((k : Int) + 1)) rfl (e_assign rfl) ?_
     refine l_nil ?_
     have C67 : Chg (inl [4, 6, 8]) _ _ _ _ := (ch38.n).seq ((hc41.n).seq ((ch45.n).seq ((ch51.l rfl).seq ((ch54.l rfl).seq ((ch59.n).seq (ch65.l rfl))))))
     replace hbase := hbase.chg C67 (is_nl rfl)
     have C68 : Chg (inl [4, 6, 8]) _ _ _ _ := (hc41.n).seq ((ch45.n).seq ((ch51.l rfl).seq ((ch54.l rfl).seq ((ch59.n).seq (ch65.l rfl)))))
     replace r_g_v := r_g_v.chg C68 (is_nl rfl)
     replace r_nodes_v := r_nodes_v.chg C67 (is_nl rfl)
     replace bx5 := bx5.chg C68 (is_nl rfl)
     replace bx10 := bx10.chg C67 (is_nl rfl)
     replace o17 := o17.chg C68 (is_nl rfl) (is_nl rfl)
     replace bx55 := (bx55.chg ch59 (not_no _)).chg ch65 (is_ne rfl)
     have C69 : Chg (inl [4, 8]) _ _ _ _ := (ch54.l rfl).seq ((ch59.n).seq (ch65.l rfl))
     replace o52 := o52.chg C69 (is_nl rfl) (is_nl rfl)
     refine back12 (v50, (s_1 ++ [((gI at_ ((gI g.2 (k : Int)).1)) - 1, (gI at_ ((gI g.2 (k : Int)).2)) - 1)]), v64, (l ++ [(k : Int)]), k + 1, g62) _ _ ⟨hbase, (by exact zs2), (by exact zs4), (by exact zs8), (by exact zs10), rfl, rfl, r_g_v, r_nodes_v, bx5, bx10, o17, bx55, o52, o66, by omega, ?_⟩ ?_
     · show (l ++ [(k : Int)]) = partWk g nodes (k + 1) ∧ (s_1 ++ [((gI at_ ((gI g.2 (k : Int)).1)) - 1, (gI at_ ((gI g.2 (k : Int)).2)) - 1)]) = (partWk g nodes (k + 1)).map (fun i => (posS nodes (gI g.2 i).1 - 1, posS nodes (gI g.2 i).2 - 1))
       first
         | (rw [partWk_yes (by omega) (by omega), hi1, hi2, hg1, hg2]; simp; done)
         | (rw [partWk_no1 (by omega)]; exact hinv)
         | (rw [partWk_no2 (by omega)]; exact hinv)
     · show Int.toNat (((List.length g.2 : Int) : Int) - ((k + 1) : Int)) < Int.toNat (((List.length g.2 : Int) : Int) - (k : Int))
       omega
    refine run_cond_f rfl (decide_eq_false p15) ?_
    refine run_skip ?_
    refine run_inBlock ?_
    refine run_region rfl ?_
    refine l_val (v := Value.int .i64 (k : Int)) rfl (e_move (by exact zs12)) ?_
    refine l_val (v := Value.int .i64 ((k : Int) + 1)) rfl (e_add (m := (k : Int)) (n := 1) rfl rfl (by omega)) ?_
    refine l_val (v := Value.int .i64 ((k : Int) + 1)) rfl (e_assign rfl) ?_
    refine l_nil ?_
    replace hbase := hbase.chg ch38 (not_no _)
    replace hbase := hbase.chg hc41 (not_no _)
    replace r_g_v := r_g_v.chg hc41 (not_no _)
    replace r_nodes_v := (r_nodes_v.chg ch38 (not_no _)).chg hc41 (not_no _)
    replace bx5 := bx5.chg hc41 (not_no _)
    replace bx10 := (bx10.chg ch38 (not_no _)).chg hc41 (not_no _)
    replace o17 := o17.chg hc41 (not_no _) (not_no _)
    replace bx33 := (bx33.chg ch38 (not_no _)).chg hc41 (not_no _)
    replace o_s_1 := (o_s_1.chg ch38 (not_no _) (not_no _)).chg hc41 (not_no _) (not_no _)
    replace o_l := (o_l.chg ch38 (not_no _) (not_no _)).chg hc41 (not_no _) (not_no _)
    refine back12 (s_1_v, s_1, l_v, l, k + 1, g36) _ _ ⟨hbase, (by exact zs2), (by exact zs4), (by exact zs8), (by exact zs10), (by exact zs11), rfl, r_g_v, r_nodes_v, bx5, bx10, o17, bx33, o_s_1, o_l, by omega, ?_⟩ ?_
    · show l = partWk g nodes (k + 1) ∧ s_1 = (partWk g nodes (k + 1)).map (fun i => (posS nodes (gI g.2 i).1 - 1, posS nodes (gI g.2 i).2 - 1))
      first
        | (rw [partWk_yes (by omega) (by omega), hi1, hi2, hg1, hg2]; simp; done)
        | (rw [partWk_no1 (by omega)]; exact hinv)
        | (rw [partWk_no2 (by omega)]; exact hinv)
    · show Int.toNat (((List.length g.2 : Int) : Int) - ((k + 1) : Int)) < Int.toNat (((List.length g.2 : Int) : Int) - (k : Int))
      omega
   refine l_skip (want_n rfl rfl rfl (decide_eq_false q70)) ?_
   refine l_skip (want_n rfl rfl rfl (decide_eq_false q70)) ?_
   refine l_val (v := Value.bool false) rfl (e_pick_f rfl (decide_eq_false q70) rfl) ?_
   refine l_nil ?_
   refine run_cond_f rfl rfl ?_
   refine run_skip ?_
   refine run_inBlock ?_
   refine run_region rfl ?_
   refine l_val (v := Value.int .i64 (k : Int)) rfl (e_move (by exact zs12)) ?_
   refine l_val (v := Value.int .i64 ((k : Int) + 1)) rfl (e_add (m := (k : Int)) (n := 1) rfl rfl (by omega)) ?_
   refine l_val (v := Value.int .i64 ((k : Int) + 1)) rfl (e_assign rfl) ?_
   refine l_nil ?_
   replace hbase := hbase.chg ch38 (not_no _)
   replace hbase := hbase.chg hc41 (not_no _)
   replace r_g_v := r_g_v.chg hc41 (not_no _)
   replace r_nodes_v := (r_nodes_v.chg ch38 (not_no _)).chg hc41 (not_no _)
   replace bx5 := bx5.chg hc41 (not_no _)
   replace bx10 := (bx10.chg ch38 (not_no _)).chg hc41 (not_no _)
   replace o17 := o17.chg hc41 (not_no _) (not_no _)
   replace bx33 := (bx33.chg ch38 (not_no _)).chg hc41 (not_no _)
   replace o_s_1 := (o_s_1.chg ch38 (not_no _) (not_no _)).chg hc41 (not_no _) (not_no _)
   replace o_l := (o_l.chg ch38 (not_no _) (not_no _)).chg hc41 (not_no _) (not_no _)
   refine back12 (s_1_v, s_1, l_v, l, k + 1, g36) _ _ ⟨hbase, (by exact zs2), (by exact zs4), (by exact zs8), (by exact zs10), (by exact zs11), rfl, r_g_v, r_nodes_v, bx5, bx10, o17, bx33, o_s_1, o_l, by omega, ?_⟩ ?_
   · show l = partWk g nodes (k + 1) ∧ s_1 = (partWk g nodes (k + 1)).map (fun i => (posS nodes (gI g.2 i).1 - 1, posS nodes (gI g.2 i).2 - 1))
     first
       | (rw [partWk_yes (by omega) (by omega), hi1, hi2, hg1, hg2]; simp; done)
       | (rw [partWk_no1 (by omega)]; exact hinv)
       | (rw [partWk_no2 (by omega)]; exact hinv)
   · show Int.toNat (((List.length g.2 : Int) : Int) - ((k + 1) : Int)) < Int.toNat (((List.length g.2 : Int) : Int) - (k : Int))
     omega
  refine run_cond_f rfl (decide_eq_false p12) ?_
  refine run_exit rfl ?_
  refine run_seq ?_
  clear bx5
  clear o17
  refine run_region rfl ?_
  refine l_val (v := Value.agg (List.toArray [Value.int .i64 (List.length nodes : Int), s_1_v])) rfl (e_load_bxN (ds := [Value.int .i64 (List.length nodes : Int), s_1_v]) tp24_r (by exact zs10) bx33 rfl rfl) ?_
  refine l_val (v := l_v) rfl (e_move (by exact zs11)) ?_
  refine l_op rfl ?_
  refine o_store_bx (cs' := [Value.int .i64 (List.length nodes : Int), s_1_v]) tp24_r (by exact zs4) rfl bx10 rfl (Nat.le_of_ble_eq_true rfl) (AllOne.all (.cons rfl (.cons (sl_one o_s_1.flat) .nil))) rfl ?_
  intro w70 ch71 bx72
  clear bx10
  refine l_val (v := l_v) rfl (e_assign rfl) ?_
  refine l_val (v := Value.int .i64 0) rfl (e_assign rfl) ?_
  refine l_nil ?_
  refine run_ret (vs := [Value.agg (List.toArray [Value.int .i64 (List.length nodes : Int), s_1_v]), l_v, Value.int .i64 0]) Try.func67 (.cell (by exact zs4) (load_bxN (ds := [Value.int .i64 (List.length nodes : Int), s_1_v]) tp24_r bx72 rfl rfl) (.tmp rfl (.tmp rfl .nil))) ?_
  -- return 0
  replace hbase := hbase.chg ch71 (is_ne rfl)
  replace o_s_1 := o_s_1.chg ch71 (is_ne rfl) (is_ne rfl)
  replace o_l := o_l.chg ch71 (is_ne rfl) (is_ne rfl)
  have e0 : (((List.length nodes : Int), s_1) : (Int) × (List ((Int) × (Int)))) = ((partR g nodes).1) := by
    first
      | (have hk : k = g.2.length := by omega
         subst hk
         obtain ⟨e1, e2⟩ := hinv
         simp only [partR, if_pos hmay, if_pos p2, e1, e2, partWk, partW]; done)
      | (simp only [partR, if_pos hmay, if_neg p2]; done)
  have e1 : (l : List Int) = ((partR g nodes).2.1) := by
    first
      | (have hk : k = g.2.length := by omega
         subst hk
         obtain ⟨e1, e2⟩ := hinv
         simp only [partR, if_pos hmay, if_pos p2, e1, e2, partWk, partW]; done)
      | (simp only [partR, if_pos hmay, if_neg p2]; done)
  have e2 : (0 : Int) = ((partR g nodes).2.2) := by
    first
      | (have hk : k = g.2.length := by omega
         subst hk
         obtain ⟨e1, e2⟩ := hinv
         simp only [partR, if_pos hmay, if_pos p2, e1, e2, partWk, partW]; done)
      | (simp only [partR, if_pos hmay, if_neg p2]; done)
  exact ⟨(fin w0 g36 (fun n => if n = 6 then 1 else if n = 8 then 2 else 0), s_1_v, l_v), (congr3 (a := ((List.length nodes : Int), s_1)) (b := l) (c := 0) (fun (z0 : (Int) × (List ((Int) × (Int)))) (z1 : List Int) (z2 : Int) => Ending.returned (Value.tuple (List.toArray [Value.agg (List.toArray [Value.int .i64 z0.1, s_1_v]), l_v, Value.int .i64 z2]))) e0 e1 e2), hbase.fresh _, ((congrArg (fun (z : (Int) × (List ((Int) × (Int)))) => z.2) e0) ▸ (o_s_1.glue (γ := c0) (ren := (fun n => if n = 6 then 1 else if n = 8 then 2 else 0)) (k := 1) hbase.col rfl rfl)), (e1 ▸ (o_l.glue (γ := c0) (ren := (fun n => if n = 6 then 1 else if n = 8 then 2 else 0)) (k := 2) hbase.col rfl rfl))⟩
 refine run_cond_t rfl (congrArg Bool.not (decide_eq_false p2)) ?_
 refine run_seq ?_
 clear bx5
 refine run_region rfl ?_
 refine l_val (v := Value.agg (List.toArray [Value.int .i64 0, Value.slice none 0 0])) rfl (e_build (vs := []) rfl (by kernel_rfl)) ?_
 refine l_val (v := Value.int .i64 (chosenS nodes g.1)) rfl (e_move rfl) ?_
 refine l_op rfl ?_
 replace bx10 := bx10.chg hb12 (not_no _)
 refine o_store_bx (cs' := [Value.int .i64 0, Value.slice none 0 0]) tp24_r rfl rfl bx10 rfl (Nat.le_of_ble_eq_true rfl) (AllOne.all (.cons rfl (.cons rfl .nil))) rfl ?_
 intro w73 ch74 bx75
 clear bx10
 refine l_val (v := Value.slice none 0 0) rfl (e_assign rfl) ?_
 refine l_val (v := Value.int .i64 (chosenS nodes g.1)) rfl (e_assign rfl) ?_
 refine l_nil ?_
 refine run_ret (vs := [Value.agg (List.toArray [Value.int .i64 0, Value.slice none 0 0]), Value.slice none 0 0, Value.int .i64 (chosenS nodes g.1)]) Try.func67 (.cell rfl (load_bxN (ds := [Value.int .i64 0, Value.slice none 0 0]) tp24_r bx75 rfl rfl) (.tmp rfl (.tmp rfl .nil))) ?_
 -- return 1
 have C76 : Chg (inl [2]) _ _ _ _ := (ch2.n).seq ((ch7.n).seq ((hb12.n).seq (ch74.l rfl)))
 replace hbase := hbase.chg C76 (is_nl rfl)
 have e0 : ((0, []) : (Int) × (List ((Int) × (Int)))) = ((partR g nodes).1) := by
   first
     | (have hk : k = g.2.length := by omega
        subst hk
        obtain ⟨e1, e2⟩ := hinv
        simp only [partR, if_pos hmay, if_pos p2, e1, e2, partWk, partW]; done)
     | (simp only [partR, if_pos hmay, if_neg p2]; done)
 have e1 : ([] : List Int) = ((partR g nodes).2.1) := by
   first
     | (have hk : k = g.2.length := by omega
        subst hk
        obtain ⟨e1, e2⟩ := hinv
        simp only [partR, if_pos hmay, if_pos p2, e1, e2, partWk, partW]; done)
     | (simp only [partR, if_pos hmay, if_neg p2]; done)
 have e2 : (chosenS nodes g.1 : Int) = ((partR g nodes).2.2) := by
   first
     | (have hk : k = g.2.length := by omega
        subst hk
        obtain ⟨e1, e2⟩ := hinv
        simp only [partR, if_pos hmay, if_pos p2, e1, e2, partWk, partW]; done)
     | (simp only [partR, if_pos hmay, if_neg p2]; done)
 exact ⟨(fin w0 g9 (fun n => 0), (Value.slice none 0 0), (Value.slice none 0 0)), (congr3 (a := (0, [])) (b := []) (c := chosenS nodes g.1) (fun (z0 : (Int) × (List ((Int) × (Int)))) (z1 : List Int) (z2 : Int) => Ending.returned (Value.tuple (List.toArray [Value.agg (List.toArray [Value.int .i64 z0.1, Value.slice none 0 0]), Value.slice none 0 0, Value.int .i64 z2]))) e0 e1 e2), hbase.fresh _, ((congrArg (fun (z : (Int) × (List ((Int) × (Int)))) => z.2) e0) ▸ Ow.nil), (e1 ▸ Ow.nil)⟩

theorem rSplit_ok (w0 : World) (g : (Int) × (List ((Int) × (Int)))) (g_v : Value) (hg_v : Ro w0 g_v g.2) (e : Int) (hmay : MayP g) :
    Calls Try.prog 60 #[Value.agg (List.toArray [Value.int .i64 g.1, g_v]), Value.int .i64 e] w0 (fun ee w => ∃ xx : Cmap × Value, ee = .returned ((fun ⟨δ, rv0⟩ => Value.tuple (List.toArray [Value.agg (List.toArray [Value.int .i64 (((splitR g e).1).1), rv0]), Value.int .i64 ((splitR g e).2)])) xx) ∧ (fun (⟨δ, rv0⟩ : Cmap × Value) (w : World) => Fresh w0 δ w ∧ Ow δ (is 1) (is 1) w rv0 (((splitR g e).1).2)) xx w) := by
 refine calls_of_run Try.func60 rfl (Nat.le_of_ble_eq_true rfl) ?_
 have hbase := Base.start w0
 have r_g_v := hg_v.sl
 have hm0 := hmay
 obtain ⟨hm1, hm2, hm3, hm4⟩ := hm0
 refine run_seq ?_
 refine run_region rfl ?_
 refine l_op rfl ?_
 refine o_box c0 (is 1) (1, 0) rfl rfl ?_
 intro g4 w1 b3 ch2 bx5
 replace bx5 : Bx g4 (is 1) w1 b3 [Value.int .i64 g.1, g_v] := bx5
 refine l_op rfl ?_
 refine o_alloc g4 (is 2) (2, 0) rfl tp24_r ?_
 intro g9 w6 b8 ch7 bx10
 replace bx10 : Bx g9 (is 2) w6 b8 [Value.int .i64 0, Value.slice none 0 0] := bx10
 refine l_val (v := Value.int .i64 0) rfl (e_assign rfl) ?_
 refine l_nil ?_
 refine run_seq ?_
 refine run_seq ?_
 refine run_region rfl ?_
 refine l_val (v := Value.int .i64 e) rfl (e_move rfl) ?_
 refine l_val (v := Value.bool (decide (e < 0))) rfl (e_lss (m := e) (n := 0) rfl rfl) ?_
 refine l_val (v := Value.bool (decide (e < 0))) rfl (e_move rfl) ?_
 by_cases q9 : e < 0
 ·
  refine l_skip (want_n rfl rfl rfl (decide_eq_true q9)) ?_
  refine l_skip (want_n rfl rfl rfl (decide_eq_true q9)) ?_
  refine l_skip (want_n rfl rfl rfl (decide_eq_true q9)) ?_
  refine l_skip (want_n rfl rfl rfl (decide_eq_true q9)) ?_
  refine l_skip (want_n rfl rfl rfl (decide_eq_true q9)) ?_
  refine l_val (v := Value.bool true) rfl (e_pick_t rfl (decide_eq_true q9) rfl) ?_
  refine l_nil ?_
  refine run_cond_t rfl rfl ?_
  refine run_seq ?_
  clear bx5
  refine run_region rfl ?_
  refine l_val (v := Value.agg (List.toArray [Value.int .i64 0, Value.slice none 0 0])) rfl (e_build (vs := []) rfl (by kernel_rfl)) ?_
  refine l_op rfl ?_
  refine o_store_bx (cs' := [Value.int .i64 0, Value.slice none 0 0]) tp24_r rfl rfl bx10 rfl (Nat.le_of_ble_eq_true rfl) (AllOne.all (.cons rfl (.cons rfl .nil))) rfl ?_
  intro w11 ch12 bx13
  clear bx10
  refine l_val (v := Value.int .i64 2) rfl (e_assign rfl) ?_
  refine l_nil ?_
  refine run_ret (vs := [Value.agg (List.toArray [Value.int .i64 0, Value.slice none 0 0]), Value.int .i64 2]) Try.func60 (.cell rfl (load_bxN (ds := [Value.int .i64 0, Value.slice none 0 0]) tp24_r bx13 rfl rfl) (.tmp rfl .nil)) ?_
  -- return 0
  have C14 : Chg (inl [2]) _ _ _ _ := (ch2.n).seq ((ch7.n).seq (ch12.l rfl))
  replace hbase := hbase.chg C14 (is_nl rfl)
  have e0 : ((0, []) : (Int) × (List ((Int) × (Int)))) = ((splitR g e).1) := by
    first
      | (have hn : ¬ (0 ≤ e ∧ e < (g.2.length : Int)) := fun h => by omega
         simp only [splitR, if_pos hmay, if_neg hn]; done)
      | (have ha : 0 ≤ e ∧ e < (g.2.length : Int) := by omega
         have hs := splitR_eq hmay ha
         have hs2 := hs.1 (of_decide_eq_true p7)
         simp only [splitR, if_pos hmay, if_pos ha, if_pos hs2]; done)
      | (have ha : 0 ≤ e ∧ e < (g.2.length : Int) := by omega
         have hs := splitR_eq hmay ha
         have hs2 : ¬ (g.1 < 1024 ∧ g.2.length < 3072) := fun h => p7 (decide_eq_true (hs.2 h))
         simp only [splitR, if_pos hmay, if_pos ha, if_neg hs2]; done)
  have e1 : (2 : Int) = ((splitR g e).2) := by
    first
      | (have hn : ¬ (0 ≤ e ∧ e < (g.2.length : Int)) := fun h => by omega
         simp only [splitR, if_pos hmay, if_neg hn]; done)
      | (have ha : 0 ≤ e ∧ e < (g.2.length : Int) := by omega
         have hs := splitR_eq hmay ha
         have hs2 := hs.1 (of_decide_eq_true p7)
         simp only [splitR, if_pos hmay, if_pos ha, if_pos hs2]; done)
      | (have ha : 0 ≤ e ∧ e < (g.2.length : Int) := by omega
         have hs := splitR_eq hmay ha
         have hs2 : ¬ (g.1 < 1024 ∧ g.2.length < 3072) := fun h => p7 (decide_eq_true (hs.2 h))
         simp only [splitR, if_pos hmay, if_pos ha, if_neg hs2]; done)
  exact ⟨(fin w0 g9 (fun n => 0), (Value.slice none 0 0)), (congr2 (a := (0, [])) (b := 2) (fun (z0 : (Int) × (List ((Int) × (Int)))) (z1 : Int) => Ending.returned (Value.tuple (List.toArray [Value.agg (List.toArray [Value.int .i64 z0.1, Value.slice none 0 0]), Value.int .i64 z1]))) e0 e1), hbase.fresh _, ((congrArg (fun (z : (Int) × (List ((Int) × (Int)))) => z.2) e0) ▸ Ow.nil)⟩
 refine l_val (v := Value.int .i64 e) (want_y rfl rfl rfl (decide_eq_false q9)) (e_move rfl) ?_
 refine l_val (v := Value.pointer (some ⟨b3, 1, none⟩)) (want_y rfl rfl rfl (decide_eq_false q9)) (e_fieldAddr Try.underlying24 rfl rfl rfl rfl) ?_
 replace bx5 := bx5.chg ch7 (not_no _)
 refine l_val (v := g_v) (want_y rfl rfl rfl (decide_eq_false q9)) (e_load_bx1 tp22_r rfl bx5 rfl) ?_
 replace r_g_v := (r_g_v.chg ch2 (not_no _)).chg ch7 (not_no _)
 have len15 := (r_g_v).small
 refine l_val (v := Value.int .i64 (List.length g.2 : Int)) (want_y rfl rfl rfl (decide_eq_false q9)) (e_len Try.underlying22 rfl r_g_v) ?_
 refine l_val (v := Value.bool (decide ((List.length g.2 : Int) ≤ e))) (want_y rfl rfl rfl (decide_eq_false q9)) (e_geq (m := e) (n := (List.length g.2 : Int)) rfl rfl) ?_
 refine l_val (v := Value.bool (decide ((List.length g.2 : Int) ≤ e))) rfl (e_pick_f rfl (decide_eq_false q9) rfl) ?_
 refine l_nil ?_
 by_cases p1 : (List.length g.2 : Int) ≤ e
 ·
  refine run_cond_t rfl (decide_eq_true p1) ?_
  refine run_seq ?_
  clear bx5
  refine run_region rfl ?_
  refine l_val (v := Value.agg (List.toArray [Value.int .i64 0, Value.slice none 0 0])) rfl (e_build (vs := []) rfl (by kernel_rfl)) ?_
  refine l_op rfl ?_
  refine o_store_bx (cs' := [Value.int .i64 0, Value.slice none 0 0]) tp24_r rfl rfl bx10 rfl (Nat.le_of_ble_eq_true rfl) (AllOne.all (.cons rfl (.cons rfl .nil))) rfl ?_
  intro w16 ch17 bx18
  clear bx10
  refine l_val (v := Value.int .i64 2) rfl (e_assign rfl) ?_
  refine l_nil ?_
  refine run_ret (vs := [Value.agg (List.toArray [Value.int .i64 0, Value.slice none 0 0]), Value.int .i64 2]) Try.func60 (.cell rfl (load_bxN (ds := [Value.int .i64 0, Value.slice none 0 0]) tp24_r bx18 rfl rfl) (.tmp rfl .nil)) ?_
  -- return 1
  have C19 : Chg (inl [2]) _ _ _ _ := (ch2.n).seq ((ch7.n).seq (ch17.l rfl))
  replace hbase := hbase.chg C19 (is_nl rfl)
  have e0 : ((0, []) : (Int) × (List ((Int) × (Int)))) = ((splitR g e).1) := by
    first
      | (have hn : ¬ (0 ≤ e ∧ e < (g.2.length : Int)) := fun h => by omega
         simp only [splitR, if_pos hmay, if_neg hn]; done)
      | (have ha : 0 ≤ e ∧ e < (g.2.length : Int) := by omega
         have hs := splitR_eq hmay ha
         have hs2 := hs.1 (of_decide_eq_true p7)
         simp only [splitR, if_pos hmay, if_pos ha, if_pos hs2]; done)
      | (have ha : 0 ≤ e ∧ e < (g.2.length : Int) := by omega
         have hs := splitR_eq hmay ha
         have hs2 : ¬ (g.1 < 1024 ∧ g.2.length < 3072) := fun h => p7 (decide_eq_true (hs.2 h))
         simp only [splitR, if_pos hmay, if_pos ha, if_neg hs2]; done)
  have e1 : (2 : Int) = ((splitR g e).2) := by
    first
      | (have hn : ¬ (0 ≤ e ∧ e < (g.2.length : Int)) := fun h => by omega
         simp only [splitR, if_pos hmay, if_neg hn]; done)
      | (have ha : 0 ≤ e ∧ e < (g.2.length : Int) := by omega
         have hs := splitR_eq hmay ha
         have hs2 := hs.1 (of_decide_eq_true p7)
         simp only [splitR, if_pos hmay, if_pos ha, if_pos hs2]; done)
      | (have ha : 0 ≤ e ∧ e < (g.2.length : Int) := by omega
         have hs := splitR_eq hmay ha
         have hs2 : ¬ (g.1 < 1024 ∧ g.2.length < 3072) := fun h => p7 (decide_eq_true (hs.2 h))
         simp only [splitR, if_pos hmay, if_pos ha, if_neg hs2]; done)
  exact ⟨(fin w0 g9 (fun n => 0), (Value.slice none 0 0)), (congr2 (a := (0, [])) (b := 2) (fun (z0 : (Int) × (List ((Int) × (Int)))) (z1 : Int) => Ending.returned (Value.tuple (List.toArray [Value.agg (List.toArray [Value.int .i64 z0.1, Value.slice none 0 0]), Value.int .i64 z1]))) e0 e1), hbase.fresh _, ((congrArg (fun (z : (Int) × (List ((Int) × (Int)))) => z.2) e0) ▸ Ow.nil)⟩
 refine run_cond_f rfl (decide_eq_false p1) ?_
 refine run_skip ?_
 refine run_seq ?_
 refine run_region rfl ?_
 refine l_val (v := Value.agg (List.toArray [Value.int .i64 g.1, g_v])) rfl (e_load_bxN (ds := [Value.int .i64 g.1, g_v]) tp24_r rfl bx5 rfl rfl) ?_
 refine l_op rfl ?_
 refine o_callx (e_call (vals := [Value.agg (List.toArray [Value.int .i64 g.1, g_v])]) Try.func100 bd100_r nm100_r rfl) (rCopy_ok w6 g g_v (r_g_v).ro (by omega)) ?_
 rintro ⟨d21, v23⟩ w20 ⟨fr22, o24⟩
 obtain ⟨g25, hg25⟩ : ∃ q, q = glue w6.heap.size g9 d21 (fun n => if n = 1 then 3 else 0) := ⟨_, rfl⟩
 have ch26 := chg_glue fr22.below g9 d21 (fun n => if n = 1 then 3 else 0)
 rw [← hg25] at ch26
 replace o24 := o24.glue (γ := g9) (ren := (fun n => if n = 1 then 3 else 0)) (k := 3) fr22.col rfl rfl
 rw [← hg25] at o24
 clear hg25
 refine l_op rfl ?_
 refine o_alloc g25 (is 4) (4, 0) rfl tp24_r ?_
 intro g30 w27 b29 ch28 bx31
 replace bx31 : Bx g30 (is 4) w27 b29 [Value.int .i64 0, Value.slice none 0 0] := bx31
 refine l_op rfl ?_
 replace o24 := o24.chg ch28 (not_no _) (not_no _)
 refine o_store_bx (cs' := [Value.int .i64 g.1, v23]) tp24_r rfl rfl bx31 rfl (Nat.le_of_ble_eq_true rfl) (AllOne.all (.cons rfl (.cons (sl_one o24.flat) .nil))) rfl ?_
 intro w32 ch33 bx34
 clear bx31
 refine l_nil ?_
 refine run_seq ?_
 refine run_region_x g30 [0, 1, 2, 3, 4, 5, 6] mixed_r ?_
 intro w36 ch35
 refine x_pure (v := Value.pointer (some ⟨b29, 1, none⟩)) 0 rfl (by kernel_rfl) (by kernel_rfl) rfl (fun w => e_fieldAddr Try.underlying24 rfl rfl rfl rfl) ?_
 replace bx34 := bx34.chg ch35 (not_no _)
 refine x_val (v := v23) 1 [0, 2, 3, 4] rfl (by kernel_rfl) (by kernel_rfl) rfl (e_load_bx1 tp22_r rfl bx34 rfl) ?_
 refine x_pure (v := Value.int .i64 e) 2 rfl (by kernel_rfl) (by kernel_rfl) rfl (fun w => e_move rfl) ?_
 refine x_pure (v := Value.pointer (some ⟨b3, 0, none⟩)) 3 rfl (by kernel_rfl) (by kernel_rfl) rfl (fun w => e_fieldAddr Try.underlying24 rfl rfl rfl rfl) ?_
 have C37 : Chg (inl [4]) _ _ _ _ := (ch26.n).seq ((ch28.n).seq ((ch33.l rfl).seq (ch35.n)))
 replace bx5 := bx5.chg C37 (is_nl rfl)
 refine x_val (v := Value.int .i64 g.1) 4 [3, 2, 1, 0, 5] rfl (by kernel_rfl) (by kernel_rfl) rfl (e_load_bx1 tp3_r rfl bx5 rfl) ?_
 replace o24 := (o24.chg ch33 (is_ne rfl) (is_ne rfl)).chg ch35 (not_no _) (not_no _)
 refine x_val (v := Value.pointer (some (eAddr v23 2 (Int.toNat e)))) 5 [4, 3, 2, 1, 0] rfl (by kernel_rfl) (by kernel_rfl) rfl (e_indexAddr (α := (Int) × (Int)) (xs := g.2) (v := v23) (i := e) Try.underlying22 rfl rfl o24.flat rfl (by omega) (by omega)) ?_
 refine x_val (v := Value.pointer (some ⟨(eAddr v23 2 (Int.toNat e)).block, (eAddr v23 2 (Int.toNat e)).off + 1, none⟩)) 6 [5, 4, 3, 2, 1, 0] rfl (by kernel_rfl) (by kernel_rfl) rfl (e_indexAddr_el Try.underlying71 rfl rfl rfl (by decide) (by decide) rfl) ?_
 refine x_one 7 rfl (by kernel_rfl) rfl ?_
 refine o_store_elF (i := e) (q := 1) ((gI g.2 e).1, g.1) tp3_r rfl rfl o24 (by omega) (by omega) (by decide) rfl rfl rfl ?_
 intro w38 ch39 bx40
 clear o24
 refine x_nil (by kernel_rfl) ?_
 refine run_seq ?_
 refine run_region_x g30 [0, 1, 2, 3, 4, 5, 6, 7, 8, 9, 10, 13] mixed_r ?_
 intro w42 ch41
 refine x_pure (v := Value.pointer (some ⟨b29, 1, none⟩)) 0 rfl (by kernel_rfl) (by kernel_rfl) rfl (fun w => e_fieldAddr Try.underlying24 rfl rfl rfl rfl) ?_
 replace bx34 := (bx34.chg ch39 (is_ne rfl)).chg ch41 (not_no _)
 refine x_held (v := v23) 1 [0, 2, 4, 6, 3, 5, 7, 8, 9, 10, 11] rfl (by kernel_rfl) (by kernel_rfl) rfl (fun w' hw' => e_load_bx1 tp22_r rfl (bx34.bel hw') rfl) ?_
 refine x_pure (v := Value.pointer (some ⟨b3, 0, none⟩)) 2 rfl (by kernel_rfl) (by kernel_rfl) rfl (fun w => e_fieldAddr Try.underlying24 rfl rfl rfl rfl) ?_
 replace bx5 := (bx5.chg ch39 (is_ne rfl)).chg ch41 (not_no _)
 refine x_val (v := Value.int .i64 g.1) 3 [2, 1, 0, 4, 6, 5, 7, 8, 9] rfl (by kernel_rfl) (by kernel_rfl) rfl (e_load_bx1 tp3_r rfl bx5 rfl) ?_
 refine x_pure (v := Value.pointer (some ⟨b3, 1, none⟩)) 4 rfl (by kernel_rfl) (by kernel_rfl) rfl (fun w => e_fieldAddr Try.underlying24 rfl rfl rfl rfl) ?_
 refine x_val (v := g_v) 5 [4, 3, 2, 1, 0, 6] rfl (by kernel_rfl) (by kernel_rfl) rfl (e_load_bx1 tp22_r rfl bx5 rfl) ?_
 refine x_pure (v := Value.int .i64 e) 6 rfl (by kernel_rfl) (by kernel_rfl) rfl (fun w => e_move rfl) ?_
 have C43 : Chg (inl [3, 4]) _ _ _ _ := (ch26.n).seq ((ch28.n).seq ((ch33.l rfl).seq ((ch35.n).seq ((ch39.l rfl).seq (ch41.n)))))
 replace r_g_v := r_g_v.chg C43 (is_nl rfl)
 refine x_val (v := Value.pointer (some (eAddr g_v 2 (Int.toNat e)))) 7 [6, 5, 4, 3, 2, 1, 0] rfl (by kernel_rfl) (by kernel_rfl) rfl (e_indexAddr (α := (Int) × (Int)) (xs := g.2) (v := g_v) (i := e) Try.underlying22 rfl rfl r_g_v rfl (by omega) (by omega)) ?_
 refine x_val (v := Value.pointer (some ⟨(eAddr g_v 2 (Int.toNat e)).block, (eAddr g_v 2 (Int.toNat e)).off + 1, none⟩)) 8 [7, 6, 5, 4, 3, 2, 1, 0] rfl (by kernel_rfl) (by kernel_rfl) rfl (e_indexAddr_el Try.underlying71 rfl rfl rfl (by decide) (by decide) rfl) ?_
 refine x_val (v := Value.int .i64 ((gI g.2 e).2)) 9 [8, 7, 6, 5, 4, 3, 2, 1, 0] rfl (by kernel_rfl) (by kernel_rfl) rfl (e_load_elF (α := (Int) × (Int)) (xs := g.2) (v := g_v) (i := e) tp3_r rfl r_g_v (by omega) (by omega) (by decide) rfl) ?_
 refine x_pure (v := Value.agg (List.toArray [Value.int .i64 g.1, Value.int .i64 ((gI g.2 e).2)])) 10 rfl (by kernel_rfl) (by kernel_rfl) rfl (fun w => e_build (vs := [(0, Value.int .i64 g.1), (1, Value.int .i64 ((gI g.2 e).2))]) rfl (by kernel_rfl)) ?_
 refine x_one 11 rfl (by kernel_rfl) rfl ?_
 refine o_buildSlice (α := (Int) × (Int)) g30 (is 5) (is 5) (5, 0) rfl [(g.1, (gI g.2 e).2)] Try.underlying22 tp71_r (by decide) (by decide) (vs := [(0, Value.agg (List.toArray [Value.int .i64 g.1, Value.int .i64 ((gI g.2 e).2)]))]) rfl rfl (.cons rfl .nil) ?_
 intro g44 w45 v46 ch47 o48
 refine x_one 12 rfl (by kernel_rfl) rfl ?_
 replace bx40 := (bx40.chg ch41 (not_no _) (not_no _)).chg ch47 (not_no _) (not_no _)
 refine o_append (α := (Int) × (Int)) (xs := (List.set g.2 (Int.toNat e) ((gI g.2 e).1, g.1))) (ys := ([(g.1, (gI g.2 e).2)])) g44 (J := is 3) (S := is 3) (3, 0) rfl Try.underlying22 tp71_r (by decide) rfl rfl rfl bx40 o48.flat (by decide) (by first | omega | (simp; done) | (simp; omega)) ?_
 intro g49 w50 v51 ch52 o53
 clear bx40
 refine x_pure (v := Value.pointer (some ⟨b29, 1, none⟩)) 13 rfl (by kernel_rfl) (by kernel_rfl) rfl (fun w => e_fieldAddr Try.underlying24 rfl rfl rfl rfl) ?_
 refine x_one 14 rfl (by kernel_rfl) rfl ?_
 replace bx34 := (bx34.chg ch47 (not_no _)).chg ch52 (is_ne rfl)
 refine o_store_bx1 (cs' := [Value.int .i64 g.1, v51]) tp22_r rfl rfl bx34 (sl_cells1 o53.flat) (Nat.le_of_ble_eq_true rfl) (sl_one o53.flat) rfl ?_
 intro w54 ch55 bx56
 clear bx34
 refine x_nil (by kernel_rfl) ?_
 refine run_seq ?_
 clear bx5
 clear o48
 refine run_region rfl ?_
 refine l_val (v := Value.pointer (some ⟨b29, 0, none⟩)) rfl (e_fieldAddr Try.underlying24 rfl rfl rfl rfl) ?_
 refine l_val (v := Value.int .i64 g.1) rfl (e_load_bx1 tp3_r rfl bx56 rfl) ?_
 refine l_val (v := Value.int .i64 (g.1 + 1)) rfl (e_add (m := g.1) (n := 1) rfl rfl (by omega)) ?_
 refine l_val (v := Value.pointer (some ⟨b29, 0, none⟩)) rfl (e_fieldAddr Try.underlying24 rfl rfl rfl rfl) ?_
 refine l_op rfl ?_
 refine o_store_bx (cs' := [Value.int .i64 (g.1 + 1), v51]) tp3_r rfl rfl bx56 rfl (Nat.le_of_ble_eq_true rfl) (AllOne.all (.cons rfl .nil)) rfl ?_
 intro w57 ch58 bx59
 clear bx56
 refine l_nil ?_
 refine run_seq ?_
 refine run_seq ?_
 refine run_region rfl ?_
 refine l_val (v := Value.agg (List.toArray [Value.int .i64 (g.1 + 1), v51])) rfl (e_load_bxN (ds := [Value.int .i64 (g.1 + 1), v51]) tp24_r rfl bx59 rfl rfl) ?_
 replace o53 := (o53.chg ch55 (is_ne rfl) (is_ne rfl)).chg ch58 (is_ne rfl) (is_ne rfl)
 refine l_op rfl ?_
 refine o_call (v := Value.bool (mayB (g.1 + 1, ((List.set g.2 (Int.toNat e) ((gI g.2 e).1, g.1)) ++ [(g.1, (gI g.2 e).2)])))) (e_call (vals := [Value.agg (List.toArray [Value.int .i64 (g.1 + 1), v51])]) Try.func24 bd24_r nm24_r rfl) (rMay_ok w57 (g.1 + 1, ((List.set g.2 (Int.toNat e) ((gI g.2 e).1, g.1)) ++ [(g.1, (gI g.2 e).2)])) v51 (o53.flat).ro) ?_
 intro w60 hb61
 replace hb61 := chg_below hb61 g49
 refine l_val (v := Value.bool (!(mayB (g.1 + 1, ((List.set g.2 (Int.toNat e) ((gI g.2 e).1, g.1)) ++ [(g.1, (gI g.2 e).2)]))))) rfl (e_not (b := (mayB (g.1 + 1, ((List.set g.2 (Int.toNat e) ((gI g.2 e).1, g.1)) ++ [(g.1, (gI g.2 e).2)])))) rfl) ?_
 refine l_nil ?_
 by_cases p7 : (mayB (g.1 + 1, ((List.set g.2 (Int.toNat e) ((gI g.2 e).1, g.1)) ++ [(g.1, (gI g.2 e).2)]))) = true
 ·
  refine run_cond_f rfl (congrArg Bool.not p7) ?_
  refine run_skip ?_
  refine run_seq ?_
  refine run_region rfl ?_
  replace bx59 := bx59.chg hb61 (not_no _)
  refine l_val (v := Value.agg (List.toArray [Value.int .i64 (g.1 + 1), v51])) rfl (e_load_bxN (ds := [Value.int .i64 (g.1 + 1), v51]) tp24_r rfl bx59 rfl rfl) ?_
  refine l_op rfl ?_
  have C65 : Chg (inl [3, 4]) _ _ _ _ := (ch26.n).seq ((ch28.n).seq ((ch33.l rfl).seq ((ch35.n).seq ((ch39.l rfl).seq ((ch41.n).seq ((ch47.n).seq ((ch52.l rfl).seq ((ch55.l rfl).seq ((ch58.l rfl).seq (hb61.n))))))))))
  replace bx10 := bx10.chg C65 (is_nl rfl)
  replace o53 := o53.chg hb61 (not_no _) (not_no _)
  refine o_store_bx (cs' := [Value.int .i64 (g.1 + 1), v51]) tp24_r rfl rfl bx10 rfl (Nat.le_of_ble_eq_true rfl) (AllOne.all (.cons rfl (.cons (sl_one o53.flat) .nil))) rfl ?_
  intro w62 ch63 bx64
  clear bx10
  refine l_val (v := Value.int .i64 0) rfl (e_assign rfl) ?_
  refine l_nil ?_
  refine run_ret (vs := [Value.agg (List.toArray [Value.int .i64 (g.1 + 1), v51]), Value.int .i64 0]) Try.func60 (.cell rfl (load_bxN (ds := [Value.int .i64 (g.1 + 1), v51]) tp24_r bx64 rfl rfl) (.tmp rfl .nil)) ?_
  -- return 2
  have C66 : Chg (inl [2, 3, 4]) _ _ _ _ := (ch2.n).seq ((ch7.n).seq ((ch26.n).seq ((ch28.n).seq ((ch33.l rfl).seq ((ch35.n).seq ((ch39.l rfl).seq ((ch41.n).seq ((ch47.n).seq ((ch52.l rfl).seq ((ch55.l rfl).seq ((ch58.l rfl).seq ((hb61.n).seq (ch63.l rfl)))))))))))))
  replace hbase := hbase.chg C66 (is_nl rfl)
  replace o53 := o53.chg ch63 (is_ne rfl) (is_ne rfl)
  have e0 : ((g.1 + 1, ((List.set g.2 (Int.toNat e) ((gI g.2 e).1, g.1)) ++ [(g.1, (gI g.2 e).2)])) : (Int) × (List ((Int) × (Int)))) = ((splitR g e).1) := by
    first
      | (have hn : ¬ (0 ≤ e ∧ e < (g.2.length : Int)) := fun h => by omega
         simp only [splitR, if_pos hmay, if_neg hn]; done)
      | (have ha : 0 ≤ e ∧ e < (g.2.length : Int) := by omega
         have hs := splitR_eq hmay ha
         have hs2 := hs.1 (of_decide_eq_true p7)
         simp only [splitR, if_pos hmay, if_pos ha, if_pos hs2]; done)
      | (have ha : 0 ≤ e ∧ e < (g.2.length : Int) := by omega
         have hs := splitR_eq hmay ha
         have hs2 : ¬ (g.1 < 1024 ∧ g.2.length < 3072) := fun h => p7 (decide_eq_true (hs.2 h))
         simp only [splitR, if_pos hmay, if_pos ha, if_neg hs2]; done)
  have e1 : (0 : Int) = ((splitR g e).2) := by
    first
      | (have hn : ¬ (0 ≤ e ∧ e < (g.2.length : Int)) := fun h => by omega
         simp only [splitR, if_pos hmay, if_neg hn]; done)
      | (have ha : 0 ≤ e ∧ e < (g.2.length : Int) := by omega
         have hs := splitR_eq hmay ha
         have hs2 := hs.1 (of_decide_eq_true p7)
         simp only [splitR, if_pos hmay, if_pos ha, if_pos hs2]; done)
      | (have ha : 0 ≤ e ∧ e < (g.2.length : Int) := by omega
         have hs := splitR_eq hmay ha
         have hs2 : ¬ (g.1 < 1024 ∧ g.2.length < 3072) := fun h => p7 (decide_eq_true (hs.2 h))
         simp only [splitR, if_pos hmay, if_pos ha, if_neg hs2]; done)
  exact ⟨(fin w0 g49 (fun n => if n = 3 then 1 else 0), v51), (congr2 (a := (g.1 + 1, ((List.set g.2 (Int.toNat e) ((gI g.2 e).1, g.1)) ++ [(g.1, (gI g.2 e).2)]))) (b := 0) (fun (z0 : (Int) × (List ((Int) × (Int)))) (z1 : Int) => Ending.returned (Value.tuple (List.toArray [Value.agg (List.toArray [Value.int .i64 z0.1, v51]), Value.int .i64 z1]))) e0 e1), hbase.fresh _, ((congrArg (fun (z : (Int) × (List ((Int) × (Int)))) => z.2) e0) ▸ (o53.glue (γ := c0) (ren := (fun n => if n = 3 then 1 else 0)) (k := 1) hbase.col rfl rfl))⟩
 refine run_cond_t rfl (congrArg Bool.not (Bool.eq_false_iff.2 p7)) ?_
 refine run_seq ?_
 clear o53
 clear bx59
 refine run_region rfl ?_
 refine l_val (v := Value.agg (List.toArray [Value.int .i64 0, Value.slice none 0 0])) rfl (e_build (vs := []) rfl (by kernel_rfl)) ?_
 refine l_op rfl ?_
 have C70 : Chg (inl [3, 4]) _ _ _ _ := (ch26.n).seq ((ch28.n).seq ((ch33.l rfl).seq ((ch35.n).seq ((ch39.l rfl).seq ((ch41.n).seq ((ch47.n).seq ((ch52.l rfl).seq ((ch55.l rfl).seq ((ch58.l rfl).seq (hb61.n))))))))))
 replace bx10 := bx10.chg C70 (is_nl rfl)
 refine o_store_bx (cs' := [Value.int .i64 0, Value.slice none 0 0]) tp24_r rfl rfl bx10 rfl (Nat.le_of_ble_eq_true rfl) (AllOne.all (.cons rfl (.cons rfl .nil))) rfl ?_
 intro w67 ch68 bx69
 clear bx10
 refine l_val (v := Value.int .i64 3) rfl (e_assign rfl) ?_
 refine l_nil ?_
 refine run_ret (vs := [Value.agg (List.toArray [Value.int .i64 0, Value.slice none 0 0]), Value.int .i64 3]) Try.func60 (.cell rfl (load_bxN (ds := [Value.int .i64 0, Value.slice none 0 0]) tp24_r bx69 rfl rfl) (.tmp rfl .nil)) ?_
 -- return 3
 have C71 : Chg (inl [2, 3, 4]) _ _ _ _ := (ch2.n).seq ((ch7.n).seq ((ch26.n).seq ((ch28.n).seq ((ch33.l rfl).seq ((ch35.n).seq ((ch39.l rfl).seq ((ch41.n).seq ((ch47.n).seq ((ch52.l rfl).seq ((ch55.l rfl).seq ((ch58.l rfl).seq ((hb61.n).seq (ch68.l rfl)))))))))))))
 replace hbase := hbase.chg C71 (is_nl rfl)
 have e0 : ((0, []) : (Int) × (List ((Int) × (Int)))) = ((splitR g e).1) := by
   first
     | (have hn : ¬ (0 ≤ e ∧ e < (g.2.length : Int)) := fun h => by omega
        simp only [splitR, if_pos hmay, if_neg hn]; done)
     | (have ha : 0 ≤ e ∧ e < (g.2.length : Int) := by omega
        have hs := splitR_eq hmay ha
        have hs2 := hs.1 (of_decide_eq_true p7)
        simp only [splitR, if_pos hmay, if_pos ha, if_pos hs2]; done)
     | (have ha : 0 ≤ e ∧ e < (g.2.length : Int) := by omega
        have hs := splitR_eq hmay ha
        have hs2 : ¬ (g.1 < 1024 ∧ g.2.length < 3072) := fun h => p7 (decide_eq_true (hs.2 h))
        simp only [splitR, if_pos hmay, if_pos ha, if_neg hs2]; done)
 have e1 : (3 : Int) = ((splitR g e).2) := by
   first
     | (have hn : ¬ (0 ≤ e ∧ e < (g.2.length : Int)) := fun h => by omega
        simp only [splitR, if_pos hmay, if_neg hn]; done)
     | (have ha : 0 ≤ e ∧ e < (g.2.length : Int) := by omega
        have hs := splitR_eq hmay ha
        have hs2 := hs.1 (of_decide_eq_true p7)
        simp only [splitR, if_pos hmay, if_pos ha, if_pos hs2]; done)
     | (have ha : 0 ≤ e ∧ e < (g.2.length : Int) := by omega
        have hs := splitR_eq hmay ha
        have hs2 : ¬ (g.1 < 1024 ∧ g.2.length < 3072) := fun h => p7 (decide_eq_true (hs.2 h))
        simp only [splitR, if_pos hmay, if_pos ha, if_neg hs2]; done)
 exact ⟨(fin w0 g49 (fun n => 0), (Value.slice none 0 0)), (congr2 (a := (0, [])) (b := 3) (fun (z0 : (Int) × (List ((Int) × (Int)))) (z1 : Int) => Ending.returned (Value.tuple (List.toArray [Value.agg (List.toArray [Value.int .i64 z0.1, Value.slice none 0 0]), Value.int .i64 z1]))) e0 e1), hbase.fresh _, ((congrArg (fun (z : (Int) × (List ((Int) × (Int)))) => z.2) e0) ▸ Ow.nil)⟩

theorem rMerge_ok (w0 : World) (g : (Int) × (List ((Int) × (Int)))) (g_v : Value) (hg_v : Ro w0 g_v g.2) (u : Int) (v : Int) (hmay : MayP g) :
    Calls Try.prog 69 #[Value.agg (List.toArray [Value.int .i64 g.1, g_v]), Value.int .i64 u, Value.int .i64 v] w0 (fun ee w => ∃ xx : Cmap × Value × Value, ee = .returned ((fun ⟨δ, rv0, rv1⟩ => Value.tuple (List.toArray [Value.agg (List.toArray [Value.int .i64 (((mergeR g u v).1).1), rv0]), rv1, Value.int .i64 ((mergeR g u v).2.2)])) xx) ∧ (fun (⟨δ, rv0, rv1⟩ : Cmap × Value × Value) (w : World) => Fresh w0 δ w ∧ Ow δ (is 1) (is 1) w rv0 (((mergeR g u v).1).2) ∧ Ow δ (is 2) (is 2) w rv1 ((mergeR g u v).2.1)) xx w) := by
 refine calls_of_run Try.func69 rfl (Nat.le_of_ble_eq_true rfl) ?_
 have hbase := Base.start w0
 have r_g_v := hg_v.sl
 have hm0 := hmay
 obtain ⟨hm1, hm2, hm3, hm4⟩ := hm0
 refine run_seq ?_
 refine run_region rfl ?_
 refine l_op rfl ?_
 refine o_box c0 (is 1) (1, 0) rfl rfl ?_
 intro g4 w1 b3 ch2 bx5
 replace bx5 : Bx g4 (is 1) w1 b3 [Value.int .i64 g.1, g_v] := bx5
 refine l_op rfl ?_
 refine o_alloc g4 (is 2) (2, 0) rfl tp24_r ?_
 intro g9 w6 b8 ch7 bx10
 replace bx10 : Bx g9 (is 2) w6 b8 [Value.int .i64 0, Value.slice none 0 0] := bx10
 refine l_val (v := Value.slice none 0 0) rfl (e_assign rfl) ?_
 refine l_val (v := Value.int .i64 0) rfl (e_assign rfl) ?_
 refine l_nil ?_
 refine run_seq ?_
 refine run_seq ?_
 refine run_region rfl ?_
 refine l_val (v := Value.int .i64 u) rfl (e_move rfl) ?_
 refine l_val (v := Value.bool (decide (u < 0))) rfl (e_lss (m := u) (n := 0) rfl rfl) ?_
 refine l_val (v := Value.bool (decide (u < 0))) rfl (e_move rfl) ?_
 by_cases q16 : u < 0
 ·
  refine l_skip (want_n rfl rfl rfl (decide_eq_true q16)) ?_
  refine l_skip (want_n rfl rfl rfl (decide_eq_true q16)) ?_
  refine l_val (v := Value.bool true) rfl (e_pick_t rfl (decide_eq_true q16) rfl) ?_
  refine l_val (v := Value.bool true) rfl (e_move rfl) ?_
  refine l_skip (want_n rfl rfl rfl rfl) ?_
  refine l_skip (want_n rfl rfl rfl rfl) ?_
  refine l_skip (want_n rfl rfl rfl rfl) ?_
  refine l_skip (want_n rfl rfl rfl rfl) ?_
  refine l_val (v := Value.bool true) rfl (e_pick_t rfl rfl rfl) ?_
  refine l_val (v := Value.bool true) rfl (e_move rfl) ?_
  refine l_skip (want_n rfl rfl rfl rfl) ?_
  refine l_skip (want_n rfl rfl rfl rfl) ?_
  refine l_skip (want_n rfl rfl rfl rfl) ?_
  refine l_skip (want_n rfl rfl rfl rfl) ?_
  refine l_val (v := Value.bool true) rfl (e_pick_t rfl rfl rfl) ?_
  refine l_nil ?_
  refine run_cond_t rfl rfl ?_
  refine run_seq ?_
  clear bx5
  refine run_region rfl ?_
  refine l_val (v := Value.agg (List.toArray [Value.int .i64 0, Value.slice none 0 0])) rfl (e_build (vs := []) rfl (by kernel_rfl)) ?_
  refine l_op rfl ?_
  refine o_store_bx (cs' := [Value.int .i64 0, Value.slice none 0 0]) tp24_r rfl rfl bx10 rfl (Nat.le_of_ble_eq_true rfl) (AllOne.all (.cons rfl (.cons rfl .nil))) rfl ?_
  intro w11 ch12 bx13
  clear bx10
  refine l_val (v := Value.slice none 0 0) rfl (e_assign rfl) ?_
  refine l_val (v := Value.int .i64 2) rfl (e_assign rfl) ?_
  refine l_nil ?_
  refine run_ret (vs := [Value.agg (List.toArray [Value.int .i64 0, Value.slice none 0 0]), Value.slice none 0 0, Value.int .i64 2]) Try.func69 (.cell rfl (load_bxN (ds := [Value.int .i64 0, Value.slice none 0 0]) tp24_r bx13 rfl rfl) (.tmp rfl (.tmp rfl .nil))) ?_
  -- return 0
  have C14 : Chg (inl [2]) _ _ _ _ := (ch2.n).seq ((ch7.n).seq (ch12.l rfl))
  replace hbase := hbase.chg C14 (is_nl rfl)
  have e0 : ((0, []) : (Int) × (List ((Int) × (Int)))) = ((mergeR g u v).1) := by
    first
      | (have hn : ¬ ((0 ≤ u ∧ u < g.1) ∧ 0 ≤ v ∧ v < g.1) := fun h => by omega
         simp only [mergeR, if_pos hmay, if_neg hn]; done)
      | (have ha : (0 ≤ u ∧ u < g.1) ∧ 0 ≤ v ∧ v < g.1 := by omega
         have he : u = v := by assumption
         simp only [mergeR, if_pos hmay, if_pos ha, if_pos he]; done)
      | (have ha : (0 ≤ u ∧ u < g.1) ∧ 0 ≤ v ∧ v < g.1 := by omega
         have he : ¬ u = v := by assumption
         have h1 := hinv.done (by omega) hm1
         rw [List.take_of_length_le (by omega)] at hinv2
         simp only [mergeR, if_pos hmay, if_pos ha, if_neg he, renR, hinv2, h1]; done)
  have e1 : ([] : List Int) = ((mergeR g u v).2.1) := by
    first
      | (have hn : ¬ ((0 ≤ u ∧ u < g.1) ∧ 0 ≤ v ∧ v < g.1) := fun h => by omega
         simp only [mergeR, if_pos hmay, if_neg hn]; done)
      | (have ha : (0 ≤ u ∧ u < g.1) ∧ 0 ≤ v ∧ v < g.1 := by omega
         have he : u = v := by assumption
         simp only [mergeR, if_pos hmay, if_pos ha, if_pos he]; done)
      | (have ha : (0 ≤ u ∧ u < g.1) ∧ 0 ≤ v ∧ v < g.1 := by omega
         have he : ¬ u = v := by assumption
         have h1 := hinv.done (by omega) hm1
         rw [List.take_of_length_le (by omega)] at hinv2
         simp only [mergeR, if_pos hmay, if_pos ha, if_neg he, renR, hinv2, h1]; done)
  have e2 : (2 : Int) = ((mergeR g u v).2.2) := by
    first
      | (have hn : ¬ ((0 ≤ u ∧ u < g.1) ∧ 0 ≤ v ∧ v < g.1) := fun h => by omega
         simp only [mergeR, if_pos hmay, if_neg hn]; done)
      | (have ha : (0 ≤ u ∧ u < g.1) ∧ 0 ≤ v ∧ v < g.1 := by omega
         have he : u = v := by assumption
         simp only [mergeR, if_pos hmay, if_pos ha, if_pos he]; done)
      | (have ha : (0 ≤ u ∧ u < g.1) ∧ 0 ≤ v ∧ v < g.1 := by omega
         have he : ¬ u = v := by assumption
         have h1 := hinv.done (by omega) hm1
         rw [List.take_of_length_le (by omega)] at hinv2
         simp only [mergeR, if_pos hmay, if_pos ha, if_neg he, renR, hinv2, h1]; done)
  exact ⟨(fin w0 g9 (fun n => 0), (Value.slice none 0 0), (Value.slice none 0 0)), (congr3 (a := (0, [])) (b := []) (c := 2) (fun (z0 : (Int) × (List ((Int) × (Int)))) (z1 : List Int) (z2 : Int) => Ending.returned (Value.tuple (List.toArray [Value.agg (List.toArray [Value.int .i64 z0.1, Value.slice none 0 0]), Value.slice none 0 0, Value.int .i64 z2]))) e0 e1 e2), hbase.fresh _, ((congrArg (fun (z : (Int) × (List ((Int) × (Int)))) => z.2) e0) ▸ Ow.nil), (e1 ▸ Ow.nil)⟩
 refine l_val (v := Value.int .i64 v) (want_y rfl rfl rfl (decide_eq_false q16)) (e_move rfl) ?_
 refine l_val (v := Value.bool (decide (v < 0))) (want_y rfl rfl rfl (decide_eq_false q16)) (e_lss (m := v) (n := 0) rfl rfl) ?_
 refine l_val (v := Value.bool (decide (v < 0))) rfl (e_pick_f rfl (decide_eq_false q16) rfl) ?_
 refine l_val (v := Value.bool (decide (v < 0))) rfl (e_move rfl) ?_
 by_cases q20 : v < 0
 ·
  refine l_skip (want_n rfl rfl rfl (decide_eq_true q20)) ?_
  refine l_skip (want_n rfl rfl rfl (decide_eq_true q20)) ?_
  refine l_skip (want_n rfl rfl rfl (decide_eq_true q20)) ?_
  refine l_skip (want_n rfl rfl rfl (decide_eq_true q20)) ?_
  refine l_val (v := Value.bool true) rfl (e_pick_t rfl (decide_eq_true q20) rfl) ?_
  refine l_val (v := Value.bool true) rfl (e_move rfl) ?_
  refine l_skip (want_n rfl rfl rfl rfl) ?_
  refine l_skip (want_n rfl rfl rfl rfl) ?_
  refine l_skip (want_n rfl rfl rfl rfl) ?_
  refine l_skip (want_n rfl rfl rfl rfl) ?_
  refine l_val (v := Value.bool true) rfl (e_pick_t rfl rfl rfl) ?_
  refine l_nil ?_
  refine run_cond_t rfl rfl ?_
  refine run_seq ?_
  clear bx5
  refine run_region rfl ?_
  refine l_val (v := Value.agg (List.toArray [Value.int .i64 0, Value.slice none 0 0])) rfl (e_build (vs := []) rfl (by kernel_rfl)) ?_
  refine l_op rfl ?_
  refine o_store_bx (cs' := [Value.int .i64 0, Value.slice none 0 0]) tp24_r rfl rfl bx10 rfl (Nat.le_of_ble_eq_true rfl) (AllOne.all (.cons rfl (.cons rfl .nil))) rfl ?_
  intro w15 ch16 bx17
  clear bx10
  refine l_val (v := Value.slice none 0 0) rfl (e_assign rfl) ?_
  refine l_val (v := Value.int .i64 2) rfl (e_assign rfl) ?_
  refine l_nil ?_
  refine run_ret (vs := [Value.agg (List.toArray [Value.int .i64 0, Value.slice none 0 0]), Value.slice none 0 0, Value.int .i64 2]) Try.func69 (.cell rfl (load_bxN (ds := [Value.int .i64 0, Value.slice none 0 0]) tp24_r bx17 rfl rfl) (.tmp rfl (.tmp rfl .nil))) ?_
  -- return 1
  have C18 : Chg (inl [2]) _ _ _ _ := (ch2.n).seq ((ch7.n).seq (ch16.l rfl))
  replace hbase := hbase.chg C18 (is_nl rfl)
  have e0 : ((0, []) : (Int) × (List ((Int) × (Int)))) = ((mergeR g u v).1) := by
    first
      | (have hn : ¬ ((0 ≤ u ∧ u < g.1) ∧ 0 ≤ v ∧ v < g.1) := fun h => by omega
         simp only [mergeR, if_pos hmay, if_neg hn]; done)
      | (have ha : (0 ≤ u ∧ u < g.1) ∧ 0 ≤ v ∧ v < g.1 := by omega
         have he : u = v := by assumption
         simp only [mergeR, if_pos hmay, if_pos ha, if_pos he]; done)
      | (have ha : (0 ≤ u ∧ u < g.1) ∧ 0 ≤ v ∧ v < g.1 := by omega
         have he : ¬ u = v := by assumption
         have h1 := hinv.done (by omega) hm1
         rw [List.take_of_length_le (by omega)] at hinv2
         simp only [mergeR, if_pos hmay, if_pos ha, if_neg he, renR, hinv2, h1]; done)
  have e1 : ([] : List Int) = ((mergeR g u v).2.1) := by
    first
      | (have hn : ¬ ((0 ≤ u ∧ u < g.1) ∧ 0 ≤ v ∧ v < g.1) := fun h => by omega
         simp only [mergeR, if_pos hmay, if_neg hn]; done)
      | (have ha : (0 ≤ u ∧ u < g.1) ∧ 0 ≤ v ∧ v < g.1 := by omega
         have he : u = v := by assumption
         simp only [mergeR, if_pos hmay, if_pos ha, if_pos he]; done)
      | (have ha : (0 ≤ u ∧ u < g.1) ∧ 0 ≤ v ∧ v < g.1 := by omega
         have he : ¬ u = v := by assumption
         have h1 := hinv.done (by omega) hm1
         rw [List.take_of_length_le (by omega)] at hinv2
         simp only [mergeR, if_pos hmay, if_pos ha, if_neg he, renR, hinv2, h1]; done)
  have e2 : (2 : Int) = ((mergeR g u v).2.2) := by
    first
      | (have hn : ¬ ((0 ≤ u ∧ u < g.1) ∧ 0 ≤ v ∧ v < g.1) := fun h => by omega
         simp only [mergeR, if_pos hmay, if_neg hn]; done)
      | (have ha : (0 ≤ u ∧ u < g.1) ∧ 0 ≤ v ∧ v < g.1 := by omega
         have he : u = v := by assumption
         simp only [mergeR, if_pos hmay, if_pos ha, if_pos he]; done)
      | (have ha : (0 ≤ u ∧ u < g.1) ∧ 0 ≤ v ∧ v < g.1 := by omega
         have he : ¬ u = v := by assumption
         have h1 := hinv.done (by omega) hm1
         rw [List.take_of_length_le (by omega)] at hinv2
         simp only [mergeR, if_pos hmay, if_pos ha, if_neg he, renR, hinv2, h1]; done)
  exact ⟨(fin w0 g9 (fun n => 0), (Value.slice none 0 0), (Value.slice none 0 0)), (congr3 (a := (0, [])) (b := []) (c := 2) (fun (z0 : (Int) × (List ((Int) × (Int)))) (z1 : List Int) (z2 : Int) => Ending.returned (Value.tuple (List.toArray [Value.agg (List.toArray [Value.int .i64 z0.1, Value.slice none 0 0]), Value.slice none 0 0, Value.int .i64 z2]))) e0 e1 e2), hbase.fresh _, ((congrArg (fun (z : (Int) × (List ((Int) × (Int)))) => z.2) e0) ▸ Ow.nil), (e1 ▸ Ow.nil)⟩
 refine l_val (v := Value.int .i64 u) (want_y rfl rfl rfl (decide_eq_false q20)) (e_move rfl) ?_
 refine l_val (v := Value.pointer (some ⟨b3, 0, none⟩)) (want_y rfl rfl rfl (decide_eq_false q20)) (e_fieldAddr Try.underlying24 rfl rfl rfl rfl) ?_
 replace bx5 := bx5.chg ch7 (not_no _)
 refine l_val (v := Value.int .i64 g.1) (want_y rfl rfl rfl (decide_eq_false q20)) (e_load_bx1 tp3_r rfl bx5 rfl) ?_
 refine l_val (v := Value.bool (decide (g.1 ≤ u))) (want_y rfl rfl rfl (decide_eq_false q20)) (e_geq (m := u) (n := g.1) rfl rfl) ?_
 refine l_val (v := Value.bool (decide (g.1 ≤ u))) rfl (e_pick_f rfl (decide_eq_false q20) rfl) ?_
 refine l_val (v := Value.bool (decide (g.1 ≤ u))) rfl (e_move rfl) ?_
 by_cases q26 : g.1 ≤ u
 ·
  refine l_skip (want_n rfl rfl rfl (decide_eq_true q26)) ?_
  refine l_skip (want_n rfl rfl rfl (decide_eq_true q26)) ?_
  refine l_skip (want_n rfl rfl rfl (decide_eq_true q26)) ?_
  refine l_skip (want_n rfl rfl rfl (decide_eq_true q26)) ?_
  refine l_val (v := Value.bool true) rfl (e_pick_t rfl (decide_eq_true q26) rfl) ?_
  refine l_nil ?_
  refine run_cond_t rfl rfl ?_
  refine run_seq ?_
  clear bx5
  refine run_region rfl ?_
  refine l_val (v := Value.agg (List.toArray [Value.int .i64 0, Value.slice none 0 0])) rfl (e_build (vs := []) rfl (by kernel_rfl)) ?_
  refine l_op rfl ?_
  refine o_store_bx (cs' := [Value.int .i64 0, Value.slice none 0 0]) tp24_r rfl rfl bx10 rfl (Nat.le_of_ble_eq_true rfl) (AllOne.all (.cons rfl (.cons rfl .nil))) rfl ?_
  intro w19 ch20 bx21
  clear bx10
  refine l_val (v := Value.slice none 0 0) rfl (e_assign rfl) ?_
  refine l_val (v := Value.int .i64 2) rfl (e_assign rfl) ?_
  refine l_nil ?_
  refine run_ret (vs := [Value.agg (List.toArray [Value.int .i64 0, Value.slice none 0 0]), Value.slice none 0 0, Value.int .i64 2]) Try.func69 (.cell rfl (load_bxN (ds := [Value.int .i64 0, Value.slice none 0 0]) tp24_r bx21 rfl rfl) (.tmp rfl (.tmp rfl .nil))) ?_
  -- return 2
  have C22 : Chg (inl [2]) _ _ _ _ := (ch2.n).seq ((ch7.n).seq (ch20.l rfl))
  replace hbase := hbase.chg C22 (is_nl rfl)
  have e0 : ((0, []) : (Int) × (List ((Int) × (Int)))) = ((mergeR g u v).1) := by
    first
      | (have hn : ¬ ((0 ≤ u ∧ u < g.1) ∧ 0 ≤ v ∧ v < g.1) := fun h => by omega
         simp only [mergeR, if_pos hmay, if_neg hn]; done)
      | (have ha : (0 ≤ u ∧ u < g.1) ∧ 0 ≤ v ∧ v < g.1 := by omega
         have he : u = v := by assumption
         simp only [mergeR, if_pos hmay, if_pos ha, if_pos he]; done)
      | (have ha : (0 ≤ u ∧ u < g.1) ∧ 0 ≤ v ∧ v < g.1 := by omega
         have he : ¬ u = v := by assumption
         have h1 := hinv.done (by omega) hm1
         rw [List.take_of_length_le (by omega)] at hinv2
         simp only [mergeR, if_pos hmay, if_pos ha, if_neg he, renR, hinv2, h1]; done)
  have e1 : ([] : List Int) = ((mergeR g u v).2.1) := by
    first
      | (have hn : ¬ ((0 ≤ u ∧ u < g.1) ∧ 0 ≤ v ∧ v < g.1) := fun h => by omega
         simp only [mergeR, if_pos hmay, if_neg hn]; done)
      | (have ha : (0 ≤ u ∧ u < g.1) ∧ 0 ≤ v ∧ v < g.1 := by omega
         have he : u = v := by assumption
         simp only [mergeR, if_pos hmay, if_pos ha, if_pos he]; done)
      | (have ha : (0 ≤ u ∧ u < g.1) ∧ 0 ≤ v ∧ v < g.1 := by omega
         have he : ¬ u = v := by assumption
         have h1 := hinv.done (by omega) hm1
         rw [List.take_of_length_le (by omega)] at hinv2
         simp only [mergeR, if_pos hmay, if_pos ha, if_neg he, renR, hinv2, h1]; done)
  have e2 : (2 : Int) = ((mergeR g u v).2.2) := by
    first
      | (have hn : ¬ ((0 ≤ u ∧ u < g.1) ∧ 0 ≤ v ∧ v < g.1) := fun h => by omega
         simp only [mergeR, if_pos hmay, if_neg hn]; done)
      | (have ha : (0 ≤ u ∧ u < g.1) ∧ 0 ≤ v ∧ v < g.1 := by omega
         have he : u = v := by assumption
         simp only [mergeR, if_pos hmay, if_pos ha, if_pos he]; done)
      | (have ha : (0 ≤ u ∧ u < g.1) ∧ 0 ≤ v ∧ v < g.1 := by omega
         have he : ¬ u = v := by assumption
         have h1 := hinv.done (by omega) hm1
         rw [List.take_of_length_le (by omega)] at hinv2
         simp only [mergeR, if_pos hmay, if_pos ha, if_neg he, renR, hinv2, h1]; done)
  exact ⟨(fin w0 g9 (fun n => 0), (Value.slice none 0 0), (Value.slice none 0 0)), (congr3 (a := (0, [])) (b := []) (c := 2) (fun (z0 : (Int) × (List ((Int) × (Int)))) (z1 : List Int) (z2 : Int) => Ending.returned (Value.tuple (List.toArray [Value.agg (List.toArray [Value.int .i64 z0.1, Value.slice none 0 0]), Value.slice none 0 0, Value.int .i64 z2]))) e0 e1 e2), hbase.fresh _, ((congrArg (fun (z : (Int) × (List ((Int) × (Int)))) => z.2) e0) ▸ Ow.nil), (e1 ▸ Ow.nil)⟩
 refine l_val (v := Value.int .i64 v) (want_y rfl rfl rfl (decide_eq_false q26)) (e_move rfl) ?_
 refine l_val (v := Value.pointer (some ⟨b3, 0, none⟩)) (want_y rfl rfl rfl (decide_eq_false q26)) (e_fieldAddr Try.underlying24 rfl rfl rfl rfl) ?_
 refine l_val (v := Value.int .i64 g.1) (want_y rfl rfl rfl (decide_eq_false q26)) (e_load_bx1 tp3_r rfl bx5 rfl) ?_
 refine l_val (v := Value.bool (decide (g.1 ≤ v))) (want_y rfl rfl rfl (decide_eq_false q26)) (e_geq (m := v) (n := g.1) rfl rfl) ?_
 refine l_val (v := Value.bool (decide (g.1 ≤ v))) rfl (e_pick_f rfl (decide_eq_false q26) rfl) ?_
 refine l_nil ?_
 by_cases p1 : g.1 ≤ v
 ·
  refine run_cond_t rfl (decide_eq_true p1) ?_
  refine run_seq ?_
  clear bx5
  refine run_region rfl ?_
  refine l_val (v := Value.agg (List.toArray [Value.int .i64 0, Value.slice none 0 0])) rfl (e_build (vs := []) rfl (by kernel_rfl)) ?_
  refine l_op rfl ?_
  refine o_store_bx (cs' := [Value.int .i64 0, Value.slice none 0 0]) tp24_r rfl rfl bx10 rfl (Nat.le_of_ble_eq_true rfl) (AllOne.all (.cons rfl (.cons rfl .nil))) rfl ?_
  intro w23 ch24 bx25
  clear bx10
  refine l_val (v := Value.slice none 0 0) rfl (e_assign rfl) ?_
  refine l_val (v := Value.int .i64 2) rfl (e_assign rfl) ?_
  refine l_nil ?_
  refine run_ret (vs := [Value.agg (List.toArray [Value.int .i64 0, Value.slice none 0 0]), Value.slice none 0 0, Value.int .i64 2]) Try.func69 (.cell rfl (load_bxN (ds := [Value.int .i64 0, Value.slice none 0 0]) tp24_r bx25 rfl rfl) (.tmp rfl (.tmp rfl .nil))) ?_
  -- return 3
  have C26 : Chg (inl [2]) _ _ _ _ := (ch2.n).seq ((ch7.n).seq (ch24.l rfl))
  replace hbase := hbase.chg C26 (is_nl rfl)
  have e0 : ((0, []) : (Int) × (List ((Int) × (Int)))) = ((mergeR g u v).1) := by
    first
      | (have hn : ¬ ((0 ≤ u ∧ u < g.1) ∧ 0 ≤ v ∧ v < g.1) := fun h => by omega
         simp only [mergeR, if_pos hmay, if_neg hn]; done)
      | (have ha : (0 ≤ u ∧ u < g.1) ∧ 0 ≤ v ∧ v < g.1 := by omega
         have he : u = v := by assumption
         simp only [mergeR, if_pos hmay, if_pos ha, if_pos he]; done)
      | (have ha : (0 ≤ u ∧ u < g.1) ∧ 0 ≤ v ∧ v < g.1 := by omega
         have he : ¬ u = v := by assumption
         have h1 := hinv.done (by omega) hm1
         rw [List.take_of_length_le (by omega)] at hinv2
         simp only [mergeR, if_pos hmay, if_pos ha, if_neg he, renR, hinv2, h1]; done)
  have e1 : ([] : List Int) = ((mergeR g u v).2.1) := by
    first
      | (have hn : ¬ ((0 ≤ u ∧ u < g.1) ∧ 0 ≤ v ∧ v < g.1) := fun h => by omega
         simp only [mergeR, if_pos hmay, if_neg hn]; done)
      | (have ha : (0 ≤ u ∧ u < g.1) ∧ 0 ≤ v ∧ v < g.1 := by omega
         have he : u = v := by assumption
         simp only [mergeR, if_pos hmay, if_pos ha, if_pos he]; done)
      | (have ha : (0 ≤ u ∧ u < g.1) ∧ 0 ≤ v ∧ v < g.1 := by omega
         have he : ¬ u = v := by assumption
         have h1 := hinv.done (by omega) hm1
         rw [List.take_of_length_le (by omega)] at hinv2
         simp only [mergeR, if_pos hmay, if_pos ha, if_neg he, renR, hinv2, h1]; done)
  have e2 : (2 : Int) = ((mergeR g u v).2.2) := by
    first
      | (have hn : ¬ ((0 ≤ u ∧ u < g.1) ∧ 0 ≤ v ∧ v < g.1) := fun h => by omega
         simp only [mergeR, if_pos hmay, if_neg hn]; done)
      | (have ha : (0 ≤ u ∧ u < g.1) ∧ 0 ≤ v ∧ v < g.1 := by omega
         have he : u = v := by assumption
         simp only [mergeR, if_pos hmay, if_pos ha, if_pos he]; done)
      | (have ha : (0 ≤ u ∧ u < g.1) ∧ 0 ≤ v ∧ v < g.1 := by omega
         have he : ¬ u = v := by assumption
         have h1 := hinv.done (by omega) hm1
         rw [List.take_of_length_le (by omega)] at hinv2
         simp only [mergeR, if_pos hmay, if_pos ha, if_neg he, renR, hinv2, h1]; done)
  exact ⟨(fin w0 g9 (fun n => 0), (Value.slice none 0 0), (Value.slice none 0 0)), (congr3 (a := (0, [])) (b := []) (c := 2) (fun (z0 : (Int) × (List ((Int) × (Int)))) (z1 : List Int) (z2 : Int) => Ending.returned (Value.tuple (List.toArray [Value.agg (List.toArray [Value.int .i64 z0.1, Value.slice none 0 0]), Value.slice none 0 0, Value.int .i64 z2]))) e0 e1 e2), hbase.fresh _, ((congrArg (fun (z : (Int) × (List ((Int) × (Int)))) => z.2) e0) ▸ Ow.nil), (e1 ▸ Ow.nil)⟩
 refine run_cond_f rfl (decide_eq_false p1) ?_
 refine run_skip ?_
 refine run_seq ?_
 refine run_seq ?_
 refine run_region rfl ?_
 refine l_val (v := Value.int .i64 u) rfl (e_move rfl) ?_
 refine l_val (v := Value.int .i64 v) rfl (e_move rfl) ?_
 refine l_val (v := Value.bool (decide (u = v))) rfl (e_eql (m := u) (n := v) rfl rfl) ?_
 refine l_nil ?_
 by_cases p3 : u = v
 ·
  refine run_cond_t rfl (decide_eq_true p3) ?_
  refine run_seq ?_
  clear bx5
  refine run_region rfl ?_
  refine l_val (v := Value.agg (List.toArray [Value.int .i64 0, Value.slice none 0 0])) rfl (e_build (vs := []) rfl (by kernel_rfl)) ?_
  refine l_op rfl ?_
  refine o_store_bx (cs' := [Value.int .i64 0, Value.slice none 0 0]) tp24_r rfl rfl bx10 rfl (Nat.le_of_ble_eq_true rfl) (AllOne.all (.cons rfl (.cons rfl .nil))) rfl ?_
  intro w27 ch28 bx29
  clear bx10
  refine l_val (v := Value.slice none 0 0) rfl (e_assign rfl) ?_
  refine l_val (v := Value.int .i64 1) rfl (e_assign rfl) ?_
  refine l_nil ?_
  refine run_ret (vs := [Value.agg (List.toArray [Value.int .i64 0, Value.slice none 0 0]), Value.slice none 0 0, Value.int .i64 1]) Try.func69 (.cell rfl (load_bxN (ds := [Value.int .i64 0, Value.slice none 0 0]) tp24_r bx29 rfl rfl) (.tmp rfl (.tmp rfl .nil))) ?_
  -- return 4
  have C30 : Chg (inl [2]) _ _ _ _ := (ch2.n).seq ((ch7.n).seq (ch28.l rfl))
  replace hbase := hbase.chg C30 (is_nl rfl)
  have e0 : ((0, []) : (Int) × (List ((Int) × (Int)))) = ((mergeR g u v).1) := by
    first
      | (have hn : ¬ ((0 ≤ u ∧ u < g.1) ∧ 0 ≤ v ∧ v < g.1) := fun h => by omega
         simp only [mergeR, if_pos hmay, if_neg hn]; done)
      | (have ha : (0 ≤ u ∧ u < g.1) ∧ 0 ≤ v ∧ v < g.1 := by omega
         have he : u = v := by assumption
         simp only [mergeR, if_pos hmay, if_pos ha, if_pos he]; done)
      | (have ha : (0 ≤ u ∧ u < g.1) ∧ 0 ≤ v ∧ v < g.1 := by omega
         have he : ¬ u = v := by assumption
         have h1 := hinv.done (by omega) hm1
         rw [List.take_of_length_le (by omega)] at hinv2
         simp only [mergeR, if_pos hmay, if_pos ha, if_neg he, renR, hinv2, h1]; done)
  have e1 : ([] : List Int) = ((mergeR g u v).2.1) := by
    first
      | (have hn : ¬ ((0 ≤ u ∧ u < g.1) ∧ 0 ≤ v ∧ v < g.1) := fun h => by omega
         simp only [mergeR, if_pos hmay, if_neg hn]; done)
      | (have ha : (0 ≤ u ∧ u < g.1) ∧ 0 ≤ v ∧ v < g.1 := by omega
         have he : u = v := by assumption
         simp only [mergeR, if_pos hmay, if_pos ha, if_pos he]; done)
      | (have ha : (0 ≤ u ∧ u < g.1) ∧ 0 ≤ v ∧ v < g.1 := by omega
         have he : ¬ u = v := by assumption
         have h1 := hinv.done (by omega) hm1
         rw [List.take_of_length_le (by omega)] at hinv2
         simp only [mergeR, if_pos hmay, if_pos ha, if_neg he, renR, hinv2, h1]; done)
  have e2 : (1 : Int) = ((mergeR g u v).2.2) := by
    first
      | (have hn : ¬ ((0 ≤ u ∧ u < g.1) ∧ 0 ≤ v ∧ v < g.1) := fun h => by omega
         simp only [mergeR, if_pos hmay, if_neg hn]; done)
      | (have ha : (0 ≤ u ∧ u < g.1) ∧ 0 ≤ v ∧ v < g.1 := by omega
         have he : u = v := by assumption
         simp only [mergeR, if_pos hmay, if_pos ha, if_pos he]; done)
      | (have ha : (0 ≤ u ∧ u < g.1) ∧ 0 ≤ v ∧ v < g.1 := by omega
         have he : ¬ u = v := by assumption
         have h1 := hinv.done (by omega) hm1
         rw [List.take_of_length_le (by omega)] at hinv2
         simp only [mergeR, if_pos hmay, if_pos ha, if_neg he, renR, hinv2, h1]; done)
  exact ⟨(fin w0 g9 (fun n => 0), (Value.slice none 0 0), (Value.slice none 0 0)), (congr3 (a := (0, [])) (b := []) (c := 1) (fun (z0 : (Int) × (List ((Int) × (Int)))) (z1 : List Int) (z2 : Int) => Ending.returned (Value.tuple (List.toArray [Value.agg (List.toArray [Value.int .i64 z0.1, Value.slice none 0 0]), Value.slice none 0 0, Value.int .i64 z2]))) e0 e1 e2), hbase.fresh _, ((congrArg (fun (z : (Int) × (List ((Int) × (Int)))) => z.2) e0) ▸ Ow.nil), (e1 ▸ Ow.nil)⟩
 refine run_cond_f rfl (decide_eq_false p3) ?_
 refine run_skip ?_
 refine run_seq ?_
 refine run_region rfl ?_
 refine l_val (v := Value.pointer (some ⟨b3, 0, none⟩)) rfl (e_fieldAddr Try.underlying24 rfl rfl rfl rfl) ?_
 refine l_val (v := Value.int .i64 g.1) rfl (e_load_bx1 tp3_r rfl bx5 rfl) ?_
 refine l_op rfl ?_
 refine o_make (α := Int) (l := g.1) (cp := g.1) g9 (is 3) (is 3) (3, 0) rfl (0 : Int) Try.underlying35 tp3_r rfl rfl rfl (by omega) (by omega) (by omega) (by omega) ?_
 intro g31 w32 v33 ch34 o35 _
 refine l_val (v := v33) rfl (e_assign rfl) ?_
 refine l_nil ?_
 refine run_seq ?_
 refine run_seq ?_
 refine run_region rfl ?_
 refine l_val (v := Value.int .i64 0) rfl (e_assign rfl) ?_
 refine l_nil ?_
 refine run_block ?_
 refine run_loop (σ := Nat × (List Int) × Cmap) (fun ⟨w_, at_, gq⟩ f w => Base w0 gq w ∧ f 1 = Value.int .i64 u ∧ f 2 = Value.int .i64 v ∧ f 3 = Value.pointer (some ⟨b3, 0, none⟩) ∧ f 6 = Value.pointer (some ⟨b8, 0, none⟩) ∧ f 9 = v33 ∧ f 10 = Value.int .i64 (w_ : Int) ∧ Sl gq (is 0) w g_v g.2 ∧ Bx gq (is 1) w b3 [Value.int .i64 g.1, g_v] ∧ Bx gq (is 2) w b8 [Value.int .i64 0, Value.slice none 0 0] ∧ Ow gq (is 3) (is 3) w v33 at_ ∧ (w_ : Int) ≤ (g.1 : Int) ∧ (MrgR at_ g.1 u v w_)) (fun ⟨w_, at_, gq⟩ => Int.toNat ((g.1 : Int) - (w_ : Int))) (0, (List.replicate (Int.toNat g.1) (0 : Int)), g31) ?_ ?_
 have C36 : Chg (inl []) _ _ _ _ := (ch2.n).seq ((ch7.n).seq (ch34.n))
 replace hbase := hbase.chg C36 (is_nl rfl)
 replace r_g_v := r_g_v.chg C36 (is_nl rfl)
 replace bx5 := bx5.chg ch34 (not_no _)
 replace bx10 := bx10.chg ch34 (not_no _)
 · exact ⟨hbase, rfl, rfl, rfl, rfl, rfl, rfl, r_g_v, bx5, bx10, o35, by omega, by exact MrgR.start hm1⟩
 clear r_g_v
 clear bx5
 clear bx10
 clear o35
 clear hbase
 rintro ⟨w_, at_, g39⟩ f37 w38 ⟨hbase, zs1, zs2, zs3, zs6, zs9, zs10, r_g_v, bx5, bx10, o35, hle_w_, hinv⟩ back7
 have hal := hinv.len
 refine run_seq ?_
 refine run_seq ?_
 refine run_region rfl ?_
 refine l_val (v := Value.int .i64 (w_ : Int)) rfl (e_move (by exact zs10)) ?_
 refine l_val (v := Value.pointer (some ⟨b3, 0, none⟩)) rfl (e_fieldAddr Try.underlying24 rfl rfl (by exact zs3) rfl) ?_
 refine l_val (v := Value.int .i64 g.1) rfl (e_load_bx1 tp3_r rfl bx5 rfl) ?_
 refine l_val (v := Value.bool (decide ((w_ : Int) < g.1))) rfl (e_lss (m := (w_ : Int)) (n := g.1) rfl rfl) ?_
 refine l_nil ?_
 by_cases p7 : (w_ : Int) < g.1
 ·
  refine run_cond_t rfl (decide_eq_true p7) ?_
  refine run_skip ?_
  refine run_seq ?_
  refine run_block ?_
  refine run_seq ?_
  refine run_region rfl ?_
  refine l_val (v := Value.int .i64 (w_ : Int)) rfl (e_move (by exact zs10)) ?_
  refine l_val (v := Value.int .i64 (w_ : Int)) rfl (e_assign rfl) ?_
  refine l_nil ?_
  refine run_seq ?_
  refine run_seq ?_
  refine run_region rfl ?_
  refine l_val (v := Value.int .i64 (w_ : Int)) rfl (e_move (by exact zs10)) ?_
  refine l_val (v := Value.int .i64 v) rfl (e_move (by exact zs2)) ?_
  refine l_val (v := Value.bool (decide ((w_ : Int) = v))) rfl (e_eql (m := (w_ : Int)) (n := v) rfl rfl) ?_
  refine l_nil ?_
  by_cases p10 : (w_ : Int) = v
  ·
   refine run_cond_t rfl (decide_eq_true p10) ?_
   refine run_region rfl ?_
   refine l_val (v := Value.int .i64 u) rfl (e_move (by exact zs1)) ?_
   refine l_val (v := Value.int .i64 u) rfl (e_assign rfl) ?_
   refine l_nil ?_
   refine run_seq ?_
   refine run_seq ?_
   refine run_region rfl ?_
   refine l_val (v := Value.int .i64 u) rfl (e_move rfl) ?_
   refine l_val (v := Value.int .i64 v) rfl (e_move (by exact zs2)) ?_
   refine l_val (v := Value.bool (decide (v < u))) rfl (e_gtr (m := u) (n := v) rfl rfl) ?_
   refine l_nil ?_
   by_cases p12 : v < u
   ·
    refine run_cond_t rfl (decide_eq_true p12) ?_
    refine run_region rfl ?_
    refine l_val (v := Value.int .i64 u) rfl (e_move rfl) ?_
    refine l_val (v := Value.int .i64 (u - 1)) rfl (e_sub (m := u) (n := 1) rfl rfl (by omega)) ?_
    refine l_val (v := Value.int .i64 (u - 1)) rfl (e_assign rfl) ?_
    refine l_nil ?_
    refine run_region rfl ?_
    refine l_val (v := v33) rfl (e_move (by exact zs9)) ?_
    refine l_val (v := Value.int .i64 (w_ : Int)) rfl (e_move (by exact zs10)) ?_
    refine l_val (v := Value.int .i64 (u - 1)) rfl (e_move rfl) ?_
    refine l_val (v := Value.pointer (some (eAddr v33 1 (Int.toNat (w_ : Int))))) rfl (e_indexAddr (α := Int) (xs := at_) (v := v33) (i := (w_ : Int)) Try.underlying35 rfl rfl o35.flat rfl (by omega) (by omega)) ?_
    refine l_op rfl ?_
    refine o_store_el (i := (w_ : Int)) (u - 1) tp3_r rfl rfl o35 (by omega) (by omega) rfl ?_
    intro w40 ch41 bx42
    clear o35
    refine l_nil ?_
    refine run_inBlock ?_
    refine run_region rfl ?_
    refine l_val (v := Value.int .i64 (w_ : Int)) rfl (e_move (by exact zs10)) ?_
    refine l_val (v := Value.int .i64 ((w_ : Int) + 1)) rfl (e_add (m := (w_ : Int)) (n := 1) rfl rfl (by omega)) ?_
    refine l_val (v := Value.int .i64 ((w_ : Int) + 1)) rfl (e_assign rfl) ?_
    refine l_nil ?_
    replace hbase := hbase.chg ch41 (is_ne rfl)
    replace r_g_v := r_g_v.chg ch41 (is_ne rfl)
    replace bx5 := bx5.chg ch41 (is_ne rfl)
    replace bx10 := bx10.chg ch41 (is_ne rfl)
    refine back7 (w_ + 1, (List.set at_ (Int.toNat (w_ : Int)) (u - 1)), g39) _ _ ⟨hbase, (by exact zs1), (by exact zs2), (by exact zs3), (by exact zs6), (by exact zs9), rfl, r_g_v, bx5, bx10, bx42, by omega, ?_⟩ ?_
    · show MrgR (List.set at_ (Int.toNat (w_ : Int)) (u - 1)) g.1 u v (w_ + 1)
      exact hinv.next (by omega) (by unfold mergeN; repeat' split; all_goals omega)
    · show Int.toNat ((g.1 : Int) - ((w_ + 1) : Int)) < Int.toNat ((g.1 : Int) - (w_ : Int))
      omega
   refine run_cond_f rfl (decide_eq_false p12) ?_
   refine run_skip ?_
   refine run_region rfl ?_
   refine l_val (v := v33) rfl (e_move (by exact zs9)) ?_
   refine l_val (v := Value.int .i64 (w_ : Int)) rfl (e_move (by exact zs10)) ?_
   refine l_val (v := Value.int .i64 u) rfl (e_move rfl) ?_
   refine l_val (v := Value.pointer (some (eAddr v33 1 (Int.toNat (w_ : Int))))) rfl (e_indexAddr (α := Int) (xs := at_) (v := v33) (i := (w_ : Int)) Try.underlying35 rfl rfl o35.flat rfl (by omega) (by omega)) ?_
   refine l_op rfl ?_
   refine o_store_el (i := (w_ : Int)) u tp3_r rfl rfl o35 (by omega) (by omega) rfl ?_
   intro w43 ch44 bx45
   clear o35
   refine l_nil ?_
   refine run_inBlock ?_
   refine run_region rfl ?_
   refine l_val (v := Value.int .i64 (w_ : Int)) rfl (e_move (by exact zs10)) ?_
   refine l_val (v := Value.int .i64 ((w_ : Int) + 1)) rfl (e_add (m := (w_ : Int)) (n := 1) rfl rfl (by omega)) ?_
   refine l_val (v := Value.int .i64 ((w_ : Int) + 1)) rfl (e_assign rfl) ?_
   refine l_nil ?_
   replace hbase := hbase.chg ch44 (is_ne rfl)
   replace r_g_v := r_g_v.chg ch44 (is_ne rfl)
   replace bx5 := bx5.chg ch44 (is_ne rfl)
   replace bx10 := bx10.chg ch44 (is_ne rfl)
   refine back7 (w_ + 1, (List.set at_ (Int.toNat (w_ : Int)) u), g39) _ _ ⟨hbase, (by exact zs1), (by exact zs2), (by exact zs3), (by exact zs6), (by exact zs9), rfl, r_g_v, bx5, bx10, bx45, by omega, ?_⟩ ?_
   · show MrgR (List.set at_ (Int.toNat (w_ : Int)) u) g.1 u v (w_ + 1)
     exact hinv.next (by omega) (by unfold mergeN; repeat' split; all_goals omega)
   · show Int.toNat ((g.1 : Int) - ((w_ + 1) : Int)) < Int.toNat ((g.1 : Int) - (w_ : Int))
     omega
  refine run_cond_f rfl (decide_eq_false p10) ?_
  refine run_skip ?_
  refine run_seq ?_
  refine run_seq ?_
  refine run_region rfl ?_
  refine l_val (v := Value.int .i64 (w_ : Int)) rfl (e_move rfl) ?_
  refine l_val (v := Value.int .i64 v) rfl (e_move (by exact zs2)) ?_
  refine l_val (v := Value.bool (decide (v < (w_ : Int)))) rfl (e_gtr (m := (w_ : Int)) (n := v) rfl rfl) ?_
  refine l_nil ?_
  by_cases p12 : v < (w_ : Int)
  ·
   refine run_cond_t rfl (decide_eq_true p12) ?_
   refine run_region rfl ?_
   refine l_val (v := Value.int .i64 (w_ : Int)) rfl (e_move rfl) ?_
   refine l_val (v := Value.int .i64 ((w_ : Int) - 1)) rfl (e_sub (m := (w_ : Int)) (n := 1) rfl rfl (by omega)) ?_
   refine l_val (v := Value.int .i64 ((w_ : Int) - 1)) rfl (e_assign rfl) ?_
   refine l_nil ?_
   refine run_region rfl ?_
   refine l_val (v := v33) rfl (e_move (by exact zs9)) ?_
   refine l_val (v := Value.int .i64 (w_ : Int)) rfl (e_move (by exact zs10)) ?_
   refine l_val (v := Value.int .i64 ((w_ : Int) - 1)) rfl (e_move rfl) ?_
   refine l_val (v := Value.pointer (some (eAddr v33 1 (Int.toNat (w_ : Int))))) rfl (e_indexAddr (α := Int) (xs := at_) (v := v33) (i := (w_ : Int)) Try.underlying35 rfl rfl o35.flat rfl (by omega) (by omega)) ?_
   refine l_op rfl ?_
   refine o_store_el (i := (w_ : Int)) ((w_ : Int) - 1) tp3_r rfl rfl o35 (by omega) (by omega) rfl ?_
   intro w46 ch47 bx48
   clear o35
   refine l_nil ?_
   refine run_inBlock ?_
   refine run_region rfl ?_
   refine l_val (v := Value.int .i64 (w_ : Int)) rfl (e_move (by exact zs10)) ?_
   refine l_val (v := Value.int .i64 ((w_ : Int) + 1)) rfl (e_add (m := (w_ : Int)) (n := 1) rfl rfl (by omega)) ?_
   refine l_val (v := Value.int .i64 ((w_ : Int) + 1)) rfl (e_assign rfl) ?_
   refine l_nil ?_
   replace hbase := hbase.chg ch47 (is_ne rfl)
   replace r_g_v := r_g_v.chg ch47 (is_ne rfl)
   replace bx5 := bx5.chg ch47 (is_ne rfl)
   replace bx10 := bx10.chg ch47 (is_ne rfl)
   refine back7 (w_ + 1, (List.set at_ (Int.toNat (w_ : Int)) ((w_ : Int) - 1)), g39) _ _ ⟨hbase, (by exact zs1), (by exact zs2), (by exact zs3), (by exact zs6), (by exact zs9), rfl, r_g_v, bx5, bx10, bx48, by omega, ?_⟩ ?_
   · show MrgR (List.set at_ (Int.toNat (w_ : Int)) ((w_ : Int) - 1)) g.1 u v (w_ + 1)
     exact hinv.next (by omega) (by unfold mergeN; repeat' split; all_goals omega)
   · show Int.toNat ((g.1 : Int) - ((w_ + 1) : Int)) < Int.toNat ((g.1 : Int) - (w_ : Int))
     omega
  refine run_cond_f rfl (decide_eq_false p12) ?_
  refine run_skip ?_
  refine run_region rfl ?_
  refine l_val (v := v33) rfl (e_move (by exact zs9)) ?_
  refine l_val (v := Value.int .i64 (w_ : Int)) rfl (e_move (by exact zs10)) ?_
  refine l_val (v := Value.int .i64 (w_ : Int)) rfl (e_move rfl) ?_
  refine l_val (v := Value.pointer (some (eAddr v33 1 (Int.toNat (w_ : Int))))) rfl (e_indexAddr (α := Int) (xs := at_) (v := v33) (i := (w_ : Int)) Try.underlying35 rfl rfl o35.flat rfl (by omega) (by omega)) ?_
  refine l_op rfl ?_
  refine o_store_el (i := (w_ : Int)) (w_ : Int) tp3_r rfl rfl o35 (by omega) (by omega) rfl ?_
  intro w49 ch50 bx51
  clear o35
  refine l_nil ?_
  refine run_inBlock ?_
  refine run_region rfl ?_
  refine l_val (v := Value.int .i64 (w_ : Int)) rfl (e_move (by exact zs10)) ?_
  refine l_val (v := Value.int .i64 ((w_ : Int) + 1)) rfl (e_add (m := (w_ : Int)) (n := 1) rfl rfl (by omega)) ?_
  refine l_val (v := Value.int .i64 ((w_ : Int) + 1)) rfl (e_assign rfl) ?_
  refine l_nil ?_
  replace hbase := hbase.chg ch50 (is_ne rfl)
  replace r_g_v := r_g_v.chg ch50 (is_ne rfl)
  replace bx5 := bx5.chg ch50 (is_ne rfl)
  replace bx10 := bx10.chg ch50 (is_ne rfl)
  refine back7 (w_ + 1, (List.set at_ (Int.toNat (w_ : Int)) (w_ : Int)), g39) _ _ ⟨hbase, (by exact zs1), (by exact zs2), (by exact zs3), (by exact zs6), (by exact zs9), rfl, r_g_v, bx5, bx10, bx51, by omega, ?_⟩ ?_
  · show MrgR (List.set at_ (Int.toNat (w_ : Int)) (w_ : Int)) g.1 u v (w_ + 1)
    exact hinv.next (by omega) (by unfold mergeN; repeat' split; all_goals omega)
  · show Int.toNat ((g.1 : Int) - ((w_ + 1) : Int)) < Int.toNat ((g.1 : Int) - (w_ : Int))
    omega
 refine run_cond_f rfl (decide_eq_false p7) ?_
 refine run_exit rfl ?_
 refine run_seq ?_
 refine run_region rfl ?_
 refine l_val (v := Value.pointer (some ⟨b3, 0, none⟩)) rfl (e_fieldAddr Try.underlying24 rfl rfl (by exact zs3) rfl) ?_
 refine l_val (v := Value.int .i64 g.1) rfl (e_load_bx1 tp3_r rfl bx5 rfl) ?_
 refine l_val (v := Value.int .i64 (g.1 - 1)) rfl (e_sub (m := g.1) (n := 1) rfl rfl (by omega)) ?_
 refine l_val (v := Value.agg (List.toArray [Value.int .i64 (g.1 - 1), Value.slice none 0 0])) rfl (e_build (vs := [(0, Value.int .i64 (g.1 - 1))]) rfl (by kernel_rfl)) ?_
 refine l_op rfl ?_
 refine o_alloc g39 (is 4) (4, 0) rfl tp24_r ?_
 intro g55 w52 b54 ch53 bx56
 replace bx56 : Bx g55 (is 4) w52 b54 [Value.int .i64 0, Value.slice none 0 0] := bx56
 refine l_op rfl ?_
 refine o_store_bx (cs' := [Value.int .i64 (g.1 - 1), Value.slice none 0 0]) tp24_r rfl rfl bx56 rfl (Nat.le_of_ble_eq_true rfl) (AllOne.all (.cons rfl (.cons rfl .nil))) rfl ?_
 intro w57 ch58 bx59
 clear bx56
 refine l_nil ?_
 refine run_seq ?_
 refine run_seq ?_
 refine run_region rfl ?_
 refine l_val (v := Value.int .i64 0) rfl (e_assign rfl) ?_
 refine l_nil ?_
 refine run_block ?_
 refine run_loop (σ := Value × (List ((Int) × (Int))) × Nat × Cmap) (fun ⟨s_1_v, s_1, i, gq⟩ f w => Base w0 gq w ∧ f 3 = Value.pointer (some ⟨b3, 0, none⟩) ∧ f 6 = Value.pointer (some ⟨b8, 0, none⟩) ∧ f 9 = v33 ∧ f 12 = Value.pointer (some ⟨b54, 0, none⟩) ∧ f 13 = Value.int .i64 (i : Int) ∧ Sl gq (is 0) w g_v g.2 ∧ Bx gq (is 1) w b3 [Value.int .i64 g.1, g_v] ∧ Bx gq (is 2) w b8 [Value.int .i64 0, Value.slice none 0 0] ∧ Ow gq (is 3) (is 3) w v33 at_ ∧ Bx gq (is 4) w b54 [Value.int .i64 (g.1 - 1), s_1_v] ∧ Ow gq (is 6) (is 6) w s_1_v s_1 ∧ (i : Int) ≤ ((List.length g.2 : Int) : Int) ∧ (s_1 = (List.take i g.2).map (renS at_))) (fun ⟨s_1_v, s_1, i, gq⟩ => Int.toNat (((List.length g.2 : Int) : Int) - (i : Int))) (Value.slice none 0 0, [], 0, g55) ?_ ?_
 replace hbase := hbase.chg ch53 (not_no _)
 replace hbase := hbase.chg ch58 (is_ne rfl)
 replace r_g_v := (r_g_v.chg ch53 (not_no _)).chg ch58 (is_ne rfl)
 replace bx5 := (bx5.chg ch53 (not_no _)).chg ch58 (is_ne rfl)
 replace bx10 := (bx10.chg ch53 (not_no _)).chg ch58 (is_ne rfl)
 replace o35 := (o35.chg ch53 (not_no _) (not_no _)).chg ch58 (is_ne rfl) (is_ne rfl)
 · exact ⟨hbase, (by exact zs3), (by exact zs6), (by exact zs9), rfl, rfl, r_g_v, bx5, bx10, o35, bx59, Ow.nil, by omega, by rfl⟩
 clear r_g_v
 clear bx5
 clear bx10
 clear o35
 clear bx59
 clear hbase
 rintro ⟨s_1_v, s_1, i, g62⟩ f60 w61 ⟨hbase, zs3, zs6, zs9, zs12, zs13, r_g_v, bx5, bx10, o35, bx59, o_s_1, hle_i, hinv2⟩ back17
 have hal := hinv.len
 have hlo : s_1.length ≤ i := by rw [hinv2]; simp; omega
 refine run_seq ?_
 refine run_seq ?_
 refine run_region rfl ?_
 refine l_val (v := Value.int .i64 (i : Int)) rfl (e_move (by exact zs13)) ?_
 refine l_val (v := Value.pointer (some ⟨b3, 1, none⟩)) rfl (e_fieldAddr Try.underlying24 rfl rfl (by exact zs3) rfl) ?_
 refine l_val (v := g_v) rfl (e_load_bx1 tp22_r rfl bx5 rfl) ?_
 have len63 := (r_g_v).small
 refine l_val (v := Value.int .i64 (List.length g.2 : Int)) rfl (e_len Try.underlying22 rfl r_g_v) ?_
 refine l_val (v := Value.bool (decide ((i : Int) < (List.length g.2 : Int)))) rfl (e_lss (m := (i : Int)) (n := (List.length g.2 : Int)) rfl rfl) ?_
 refine l_nil ?_
 by_cases p17 : (i : Int) < (List.length g.2 : Int)
 ·
  refine run_cond_t rfl (decide_eq_true p17) ?_
  obtain ⟨⟨he1, he2⟩, he3, he4⟩ := hm4 _ (gI_mem (xs := g.2) (i := (i : Int)) (by omega) (by omega))
  refine run_skip ?_
  refine run_seq ?_
  refine run_block ?_
  refine run_region_x g62 [0, 1, 2, 3, 4, 5, 6, 7, 8, 9, 10, 11, 12, 13, 14, 15, 16, 17, 18, 19, 20, 23] mixed_r ?_
  intro w65 ch64
  refine x_pure (v := Value.pointer (some ⟨b54, 1, none⟩)) 0 rfl (by kernel_rfl) (by kernel_rfl) rfl (fun w => e_fieldAddr Try.underlying24 rfl rfl (by exact zs12) rfl) ?_
  replace bx59 := bx59.chg ch64 (not_no _)
  refine x_held (v := s_1_v) 1 [0, 2, 3, 5, 11, 12, 14, 4, 13, 6, 15, 7, 16, 8, 17, 9, 18, 10, 19, 20, 21] rfl (by kernel_rfl) (by kernel_rfl) rfl (fun w' hw' => e_load_bx1 tp22_r rfl (bx59.bel hw') rfl) ?_
  refine x_pure (v := v33) 2 rfl (by kernel_rfl) (by kernel_rfl) rfl (fun w => e_move (by exact zs9)) ?_
  refine x_pure (v := Value.pointer (some ⟨b3, 1, none⟩)) 3 rfl (by kernel_rfl) (by kernel_rfl) rfl (fun w => e_fieldAddr Try.underlying24 rfl rfl (by exact zs3) rfl) ?_
  replace bx5 := bx5.chg ch64 (not_no _)
  refine x_val (v := g_v) 4 [3, 2, 1, 0, 5, 11, 12, 14, 13, 15, 16, 17, 18, 19] rfl (by kernel_rfl) (by kernel_rfl) rfl (e_load_bx1 tp22_r rfl bx5 rfl) ?_
  refine x_pure (v := Value.int .i64 (i : Int)) 5 rfl (by kernel_rfl) (by kernel_rfl) rfl (fun w => e_move (by exact zs13)) ?_
  replace r_g_v := r_g_v.chg ch64 (not_no _)
  refine x_val (v := Value.pointer (some (eAddr g_v 2 (Int.toNat (i : Int))))) 6 [5, 4, 3, 2, 1, 0, 11, 12, 14, 13, 15, 16, 17, 18, 19] rfl (by kernel_rfl) (by kernel_rfl) rfl (e_indexAddr (α := (Int) × (Int)) (xs := g.2) (v := g_v) (i := (i : Int)) Try.underlying22 rfl rfl r_g_v rfl (by omega) (by omega)) ?_
  refine x_val (v := Value.pointer (some ⟨(eAddr g_v 2 (Int.toNat (i : Int))).block, (eAddr g_v 2 (Int.toNat (i : Int))).off + 0, none⟩)) 7 [6, 5, 4, 3, 2, 1, 0, 11, 12, 14, 13, 15, 16, 17, 18, 19] rfl (by kernel_rfl) (by kernel_rfl) rfl (e_indexAddr_el Try.underlying71 rfl rfl rfl (by decide) (by decide) rfl) ?_
  refine x_val (v := Value.int .i64 ((gI g.2 (i : Int)).1)) 8 [7, 6, 5, 4, 3, 2, 1, 0, 11, 12, 14, 13, 15, 16, 17, 18, 19] rfl (by kernel_rfl) (by kernel_rfl) rfl (e_load_elF (α := (Int) × (Int)) (xs := g.2) (v := g_v) (i := (i : Int)) tp3_r rfl r_g_v (by omega) (by omega) (by decide) rfl) ?_
  replace o35 := o35.chg ch64 (not_no _) (not_no _)
  refine x_val (v := Value.pointer (some (eAddr v33 1 (Int.toNat ((gI g.2 (i : Int)).1))))) 9 [8, 7, 6, 5, 4, 3, 2, 1, 0, 11, 12, 14, 13, 15, 16, 17, 18, 19] rfl (by kernel_rfl) (by kernel_rfl) rfl (e_indexAddr (α := Int) (xs := at_) (v := v33) (i := (gI g.2 (i : Int)).1) Try.underlying35 rfl rfl o35.flat rfl (by omega) (by omega)) ?_
  refine x_val (v := Value.int .i64 (gI at_ ((gI g.2 (i : Int)).1))) 10 [9, 8, 7, 6, 5, 4, 3, 2, 1, 0, 11, 12, 14, 13, 15, 16, 17, 18, 19] rfl (by kernel_rfl) (by kernel_rfl) rfl (e_load_el1 (α := Int) (xs := at_) (v := v33) (i := (gI g.2 (i : Int)).1) tp3_r rfl o35.flat (by omega) (by omega) (by decide) rfl) ?_
  refine x_pure (v := v33) 11 rfl (by kernel_rfl) (by kernel_rfl) rfl (fun w => e_move (by exact zs9)) ?_
  refine x_pure (v := Value.pointer (some ⟨b3, 1, none⟩)) 12 rfl (by kernel_rfl) (by kernel_rfl) rfl (fun w => e_fieldAddr Try.underlying24 rfl rfl (by exact zs3) rfl) ?_
  refine x_val (v := g_v) 13 [12, 11, 10, 9, 8, 7, 6, 5, 4, 3, 2, 1, 0, 14] rfl (by kernel_rfl) (by kernel_rfl) rfl (e_load_bx1 tp22_r rfl bx5 rfl) ?_
  refine x_pure (v := Value.int .i64 (i : Int)) 14 rfl (by kernel_rfl) (by kernel_rfl) rfl (fun w => e_move (by exact zs13)) ?_
  refine x_val (v := Value.pointer (some (eAddr g_v 2 (Int.toNat (i : Int))))) 15 [14, 13, 12, 11, 10, 9, 8, 7, 6, 5, 4, 3, 2, 1, 0] rfl (by kernel_rfl) (by kernel_rfl) rfl (e_indexAddr (α := (Int) × (Int)) (xs := g.2) (v := g_v) (i := (i : Int)) Try.underlying22 rfl rfl r_g_v rfl (by omega) (by omega)) ?_
  refine x_val (v := Value.pointer (some ⟨(eAddr g_v 2 (Int.toNat (i : Int))).block, (eAddr g_v 2 (Int.toNat (i : Int))).off + 1, none⟩)) 16 [15, 14, 13, 12, 11, 10, 9, 8, 7, 6, 5, 4, 3, 2, 1, 0] rfl (by kernel_rfl) (by kernel_rfl) rfl (e_indexAddr_el Try.underlying71 rfl rfl rfl (by decide) (by decide) rfl) ?_
  refine x_val (v := Value.int .i64 ((gI g.2 (i : Int)).2)) 17 [16, 15, 14, 13, 12, 11, 10, 9, 8, 7, 6, 5, 4, 3, 2, 1, 0] rfl (by kernel_rfl) (by kernel_rfl) rfl (e_load_elF (α := (Int) × (Int)) (xs := g.2) (v := g_v) (i := (i : Int)) tp3_r rfl r_g_v (by omega) (by omega) (by decide) rfl) ?_
  refine x_val (v := Value.pointer (some (eAddr v33 1 (Int.toNat ((gI g.2 (i : Int)).2))))) 18 [17, 16, 15, 14, 13, 12, 11, 10, 9, 8, 7, 6, 5, 4, 3, 2, 1, 0] rfl (by kernel_rfl) (by kernel_rfl) rfl (e_indexAddr (α := Int) (xs := at_) (v := v33) (i := (gI g.2 (i : Int)).2) Try.underlying35 rfl rfl o35.flat rfl (by omega) (by omega)) ?_
  refine x_val (v := Value.int .i64 (gI at_ ((gI g.2 (i : Int)).2))) 19 [18, 17, 16, 15, 14, 13, 12, 11, 10, 9, 8, 7, 6, 5, 4, 3, 2, 1, 0] rfl (by kernel_rfl) (by kernel_rfl) rfl (e_load_el1 (α := Int) (xs := at_) (v := v33) (i := (gI g.2 (i : Int)).2) tp3_r rfl o35.flat (by omega) (by omega) (by decide) rfl) ?_
  refine x_pure (v := Value.agg (List.toArray [Value.int .i64 (gI at_ ((gI g.2 (i : Int)).1)), Value.int .i64 (gI at_ ((gI g.2 (i : Int)).2))])) 20 rfl (by kernel_rfl) (by kernel_rfl) rfl (fun w => e_build (vs := [(0, Value.int .i64 (gI at_ ((gI g.2 (i : Int)).1))), (1, Value.int .i64 (gI at_ ((gI g.2 (i : Int)).2)))]) rfl (by kernel_rfl)) ?_
  refine x_one 21 rfl (by kernel_rfl) rfl ?_
  refine o_buildSlice (α := (Int) × (Int)) g62 (is 5) (is 5) (5, 0) rfl [((gI at_ ((gI g.2 (i : Int)).1)), (gI at_ ((gI g.2 (i : Int)).2)))] Try.underlying22 tp71_r (by decide) (by decide) (vs := [(0, Value.agg (List.toArray [Value.int .i64 (gI at_ ((gI g.2 (i : Int)).1)), Value.int .i64 (gI at_ ((gI g.2 (i : Int)).2))]))]) rfl rfl (.cons rfl .nil) ?_
  intro g66 w67 v68 ch69 o70
  refine x_one 22 rfl (by kernel_rfl) rfl ?_
  replace o_s_1 := (o_s_1.chg ch64 (not_no _) (not_no _)).chg ch69 (not_no _) (not_no _)
  refine o_append (α := (Int) × (Int)) (xs := s_1) (ys := ([((gI at_ ((gI g.2 (i : Int)).1)), (gI at_ ((gI g.2 (i : Int)).2)))])) g66 (J := is 6) (S := is 6) (6, 0) rfl Try.underlying22 tp71_r (by decide) rfl rfl rfl o_s_1 o70.flat (by decide) (by first | omega | (simp; done) | (simp; omega)) ?_
  intro g71 w72 v73 ch74 o75
  clear o_s_1
  refine x_pure (v := Value.pointer (some ⟨b54, 1, none⟩)) 23 rfl (by kernel_rfl) (by kernel_rfl) rfl (fun w => e_fieldAddr Try.underlying24 rfl rfl (by exact zs12) rfl) ?_
  refine x_one 24 rfl (by kernel_rfl) rfl ?_
  replace bx59 := (bx59.chg ch69 (not_no _)).chg ch74 (is_ne rfl)
  refine o_store_bx1 (cs' := [Value.int .i64 (g.1 - 1), v73]) tp22_r rfl rfl bx59 (sl_cells1 o75.flat) (Nat.le_of_ble_eq_true rfl) (sl_one o75.flat) rfl ?_
  intro w76 ch77 bx78
  clear bx59
  refine x_nil (by kernel_rfl) ?_
  refine run_inBlock ?_
  clear o70
  refine run_region rfl ?_
  refine l_val (v := Value.int .i64 (i : Int)) rfl (e_move (by exact zs13)) ?_
  refine l_val (v := Value.int .i64 ((i : Int) + 1)) rfl (e_add (m := (i : Int)) (n := 1) rfl rfl (by omega)) ?_
  refine l_val (v := Value.int .i64 ((i : Int) + 1)) rfl (e_assign rfl) ?_
  refine l_nil ?_
  have C79 : Chg (inl [4, 6]) _ _ _ _ := (ch64.n).seq ((ch69.n).seq ((ch74.l rfl).seq (ch77.l rfl)))
  replace hbase := hbase.chg C79 (is_nl rfl)
  have C80 : Chg (inl [4, 6]) _ _ _ _ := (ch69.n).seq ((ch74.l rfl).seq (ch77.l rfl))
  replace r_g_v := r_g_v.chg C80 (is_nl rfl)
  replace bx5 := bx5.chg C80 (is_nl rfl)
  replace bx10 := bx10.chg C79 (is_nl rfl)
  replace o35 := o35.chg C80 (is_nl rfl) (is_nl rfl)
  replace o75 := o75.chg ch77 (is_ne rfl) (is_ne rfl)
  refine back17 (v73, (s_1 ++ [((gI at_ ((gI g.2 (i : Int)).1)), (gI at_ ((gI g.2 (i : Int)).2)))]), i + 1, g71) _ _ ⟨hbase, (by exact zs3), (by exact zs6), (by exact zs9), (by exact zs12), rfl, r_g_v, bx5, bx10, o35, bx78, o75, by omega, ?_⟩ ?_
  · show (s_1 ++ [((gI at_ ((gI g.2 (i : Int)).1)), (gI at_ ((gI g.2 (i : Int)).2)))]) = (List.take (i + 1) g.2).map (renS at_)
    rw [take_succ_gI (by omega), hinv2]; simp [renS]
  · show Int.toNat (((List.length g.2 : Int) : Int) - ((i + 1) : Int)) < Int.toNat (((List.length g.2 : Int) : Int) - (i : Int))
    omega
 refine run_cond_f rfl (decide_eq_false p17) ?_
 refine run_exit rfl ?_
 refine run_seq ?_
 clear bx5
 refine run_region rfl ?_
 refine l_val (v := Value.agg (List.toArray [Value.int .i64 (g.1 - 1), s_1_v])) rfl (e_load_bxN (ds := [Value.int .i64 (g.1 - 1), s_1_v]) tp24_r (by exact zs12) bx59 rfl rfl) ?_
 refine l_val (v := v33) rfl (e_move (by exact zs9)) ?_
 refine l_op rfl ?_
 refine o_store_bx (cs' := [Value.int .i64 (g.1 - 1), s_1_v]) tp24_r (by exact zs6) rfl bx10 rfl (Nat.le_of_ble_eq_true rfl) (AllOne.all (.cons rfl (.cons (sl_one o_s_1.flat) .nil))) rfl ?_
 intro w81 ch82 bx83
 clear bx10
 refine l_val (v := v33) rfl (e_assign rfl) ?_
 refine l_val (v := Value.int .i64 0) rfl (e_assign rfl) ?_
 refine l_nil ?_
 refine run_ret (vs := [Value.agg (List.toArray [Value.int .i64 (g.1 - 1), s_1_v]), v33, Value.int .i64 0]) Try.func69 (.cell (by exact zs6) (load_bxN (ds := [Value.int .i64 (g.1 - 1), s_1_v]) tp24_r bx83 rfl rfl) (.tmp rfl (.tmp rfl .nil))) ?_
 -- return 5
 replace hbase := hbase.chg ch82 (is_ne rfl)
 replace o_s_1 := o_s_1.chg ch82 (is_ne rfl) (is_ne rfl)
 replace o35 := o35.chg ch82 (is_ne rfl) (is_ne rfl)
 have e0 : ((g.1 - 1, s_1) : (Int) × (List ((Int) × (Int)))) = ((mergeR g u v).1) := by
   first
     | (have hn : ¬ ((0 ≤ u ∧ u < g.1) ∧ 0 ≤ v ∧ v < g.1) := fun h => by omega
        simp only [mergeR, if_pos hmay, if_neg hn]; done)
     | (have ha : (0 ≤ u ∧ u < g.1) ∧ 0 ≤ v ∧ v < g.1 := by omega
        have he : u = v := by assumption
        simp only [mergeR, if_pos hmay, if_pos ha, if_pos he]; done)
     | (have ha : (0 ≤ u ∧ u < g.1) ∧ 0 ≤ v ∧ v < g.1 := by omega
        have he : ¬ u = v := by assumption
        have h1 := hinv.done (by omega) hm1
        rw [List.take_of_length_le (by omega)] at hinv2
        simp only [mergeR, if_pos hmay, if_pos ha, if_neg he, renR, hinv2, h1]; done)
 have e1 : (at_ : List Int) = ((mergeR g u v).2.1) := by
   first
     | (have hn : ¬ ((0 ≤ u ∧ u < g.1) ∧ 0 ≤ v ∧ v < g.1) := fun h => by omega
        simp only [mergeR, if_pos hmay, if_neg hn]; done)
     | (have ha : (0 ≤ u ∧ u < g.1) ∧ 0 ≤ v ∧ v < g.1 := by omega
        have he : u = v := by assumption
        simp only [mergeR, if_pos hmay, if_pos ha, if_pos he]; done)
     | (have ha : (0 ≤ u ∧ u < g.1) ∧ 0 ≤ v ∧ v < g.1 := by omega
        have he : ¬ u = v := by assumption
        have h1 := hinv.done (by omega) hm1
        rw [List.take_of_length_le (by omega)] at hinv2
        simp only [mergeR, if_pos hmay, if_pos ha, if_neg he, renR, hinv2, h1]; done)
 have e2 : (0 : Int) = ((mergeR g u v).2.2) := by
   first
     | (have hn : ¬ ((0 ≤ u ∧ u < g.1) ∧ 0 ≤ v ∧ v < g.1) := fun h => by omega
        simp only [mergeR, if_pos hmay, if_neg hn]; done)
     | (have ha : (0 ≤ u ∧ u < g.1) ∧ 0 ≤ v ∧ v < g.1 := by omega
        have he : u = v := by assumption
        simp only [mergeR, if_pos hmay, if_pos ha, if_pos he]; done)
     | (have ha : (0 ≤ u ∧ u < g.1) ∧ 0 ≤ v ∧ v < g.1 := by omega
        have he : ¬ u = v := by assumption
        have h1 := hinv.done (by omega) hm1
        rw [List.take_of_length_le (by omega)] at hinv2
        simp only [mergeR, if_pos hmay, if_pos ha, if_neg he, renR, hinv2, h1]; done)
 exact ⟨(fin w0 g62 (fun n => if n = 6 then 1 else if n = 3 then 2 else 0), s_1_v, v33), (congr3 (a := (g.1 - 1, s_1)) (b := at_) (c := 0) (fun (z0 : (Int) × (List ((Int) × (Int)))) (z1 : List Int) (z2 : Int) => Ending.returned (Value.tuple (List.toArray [Value.agg (List.toArray [Value.int .i64 z0.1, s_1_v]), v33, Value.int .i64 z2]))) e0 e1 e2), hbase.fresh _, ((congrArg (fun (z : (Int) × (List ((Int) × (Int)))) => z.2) e0) ▸ (o_s_1.glue (γ := c0) (ren := (fun n => if n = 6 then 1 else if n = 3 then 2 else 0)) (k := 1) hbase.col rfl rfl)), (e1 ▸ (o35.glue (γ := c0) (ren := (fun n => if n = 6 then 1 else if n = 3 then 2 else 0)) (k := 2) hbase.col rfl rfl))⟩

theorem rBare_ok (w0 : World) (g : (Int) × (List ((Int) × (Int)))) (g_v : Value) (hg_v : Ro w0 g_v g.2) (hmay : MayP g) :
    Calls Try.prog 61 #[Value.agg (List.toArray [Value.int .i64 g.1, g_v])] w0 (fun ee w => ∃ xx : Cmap × Value × Value, ee = .returned ((fun ⟨δ, rv0, rv1⟩ => Value.tuple (List.toArray [Value.agg (List.toArray [Value.int .i64 (((bareR g).1).1), rv0]), rv1])) xx) ∧ (fun (⟨δ, rv0, rv1⟩ : Cmap × Value × Value) (w : World) => Fresh w0 δ w ∧ Ow δ (is 1) (is 1) w rv0 (((bareR g).1).2) ∧ Ow δ (is 2) (is 2) w rv1 ((bareR g).2.1)) xx w) := by
 refine calls_of_run Try.func61 rfl (Nat.le_of_ble_eq_true rfl) ?_
 have hbase := Base.start w0
 have r_g_v := hg_v.sl
 have hm0 := hmay
 obtain ⟨hm1, hm2, hm3, hm4⟩ := hm0
 refine run_seq ?_
 refine run_region rfl ?_
 refine l_op rfl ?_
 refine o_box c0 (is 1) (1, 0) rfl rfl ?_
 intro g4 w1 b3 ch2 bx5
 replace bx5 : Bx g4 (is 1) w1 b3 [Value.int .i64 g.1, g_v] := bx5
 refine l_op rfl ?_
 refine o_alloc g4 (is 2) (2, 0) rfl tp24_r ?_
 intro g9 w6 b8 ch7 bx10
 replace bx10 : Bx g9 (is 2) w6 b8 [Value.int .i64 0, Value.slice none 0 0] := bx10
 refine l_val (v := Value.slice none 0 0) rfl (e_assign rfl) ?_
 refine l_nil ?_
 refine run_seq ?_
 refine run_region rfl ?_
 refine l_val (v := Value.slice none 0 0) rfl (e_assign rfl) ?_
 refine l_nil ?_
 refine run_seq ?_
 refine run_seq ?_
 refine run_region rfl ?_
 refine l_val (v := Value.int .i64 0) rfl (e_assign rfl) ?_
 refine l_nil ?_
 refine run_block ?_
 refine run_loop (σ := Nat × Value × (List Int) × Cmap) (fun ⟨i, keep_v, keep, gq⟩ f w => Base w0 gq w ∧ f 1 = Value.pointer (some ⟨b3, 0, none⟩) ∧ f 2 = Value.pointer (some ⟨b8, 0, none⟩) ∧ f 4 = keep_v ∧ f 5 = Value.int .i64 (i : Int) ∧ Sl gq (is 0) w g_v g.2 ∧ Bx gq (is 1) w b3 [Value.int .i64 g.1, g_v] ∧ Bx gq (is 2) w b8 [Value.int .i64 0, Value.slice none 0 0] ∧ Ow gq (is 4) (is 4) w keep_v keep ∧ (i : Int) ≤ ((List.length g.2 : Int) : Int) ∧ (keep = bareK g i)) (fun ⟨i, keep_v, keep, gq⟩ => Int.toNat (((List.length g.2 : Int) : Int) - (i : Int))) (0, Value.slice none 0 0, [], g9) ?_ ?_
 replace hbase := hbase.chg ch2 (not_no _)
 replace hbase := hbase.chg ch7 (not_no _)
 replace r_g_v := (r_g_v.chg ch2 (not_no _)).chg ch7 (not_no _)
 replace bx5 := bx5.chg ch7 (not_no _)
 · exact ⟨hbase, rfl, rfl, rfl, rfl, r_g_v, bx5, bx10, Ow.nil, by omega, by rfl⟩
 clear r_g_v
 clear bx5
 clear bx10
 clear hbase
 rintro ⟨i, keep_v, keep, g13⟩ f11 w12 ⟨hbase, zs1, zs2, zs4, zs5, r_g_v, bx5, bx10, o_keep, hle_i, hinv⟩ back3
 have hkl : keep.length ≤ i := by rw [hinv]; exact bareK_len g i
 refine run_seq ?_
 refine run_seq ?_
 refine run_region rfl ?_
 refine l_val (v := Value.int .i64 (i : Int)) rfl (e_move (by exact zs5)) ?_
 refine l_val (v := Value.pointer (some ⟨b3, 1, none⟩)) rfl (e_fieldAddr Try.underlying24 rfl rfl (by exact zs1) rfl) ?_
 refine l_val (v := g_v) rfl (e_load_bx1 tp22_r rfl bx5 rfl) ?_
 have len14 := (r_g_v).small
 refine l_val (v := Value.int .i64 (List.length g.2 : Int)) rfl (e_len Try.underlying22 rfl r_g_v) ?_
 refine l_val (v := Value.bool (decide ((i : Int) < (List.length g.2 : Int)))) rfl (e_lss (m := (i : Int)) (n := (List.length g.2 : Int)) rfl rfl) ?_
 refine l_nil ?_
 by_cases p3 : (i : Int) < (List.length g.2 : Int)
 ·
  refine run_cond_t rfl (decide_eq_true p3) ?_
  refine run_skip ?_
  refine run_seq ?_
  refine run_block ?_
  refine run_seq ?_
  refine region_q g13 rfl mixed_r (by kernel_rfl) ?_
  intro w16 ch15
  refine q_val (v := Value.pointer (some ⟨b3, 1, none⟩)) rfl (fun w' hw' => e_fieldAddr Try.underlying24 rfl rfl (by exact zs1) rfl) ?_
  replace bx5 := bx5.chg ch15 (not_no _)
  refine q_val (v := g_v) rfl (fun w' hw' => e_load_bx1 tp22_r rfl (bx5.bel hw') rfl) ?_
  refine q_val (v := Value.int .i64 (i : Int)) rfl (fun w' hw' => e_move (by exact zs5)) ?_
  replace r_g_v := r_g_v.chg ch15 (not_no _)
  refine q_val (v := Value.pointer (some (eAddr g_v 2 (Int.toNat (i : Int))))) rfl (fun w' hw' => e_indexAddr (α := (Int) × (Int)) (xs := g.2) (v := g_v) (i := (i : Int)) Try.underlying22 rfl rfl (r_g_v.bel hw') rfl (by omega) (by omega)) ?_
  refine q_val (v := Value.pointer (some ⟨(eAddr g_v 2 (Int.toNat (i : Int))).block, (eAddr g_v 2 (Int.toNat (i : Int))).off + 0, none⟩)) rfl (fun w' hw' => e_indexAddr_el Try.underlying71 rfl rfl rfl (by decide) (by decide) rfl) ?_
  refine q_val (v := Value.int .i64 ((gI g.2 (i : Int)).1)) rfl (fun w' hw' => e_load_elF (α := (Int) × (Int)) (xs := g.2) (v := g_v) (i := (i : Int)) tp3_r rfl (r_g_v.bel hw') (by omega) (by omega) (by decide) rfl) ?_
  refine q_val (v := Value.pointer (some ⟨b3, 1, none⟩)) rfl (fun w' hw' => e_fieldAddr Try.underlying24 rfl rfl (by exact zs1) rfl) ?_
  refine q_val (v := g_v) rfl (fun w' hw' => e_load_bx1 tp22_r rfl (bx5.bel hw') rfl) ?_
  refine q_val (v := Value.int .i64 (i : Int)) rfl (fun w' hw' => e_move (by exact zs5)) ?_
  refine q_val (v := Value.pointer (some (eAddr g_v 2 (Int.toNat (i : Int))))) rfl (fun w' hw' => e_indexAddr (α := (Int) × (Int)) (xs := g.2) (v := g_v) (i := (i : Int)) Try.underlying22 rfl rfl (r_g_v.bel hw') rfl (by omega) (by omega)) ?_
  refine q_val (v := Value.pointer (some ⟨(eAddr g_v 2 (Int.toNat (i : Int))).block, (eAddr g_v 2 (Int.toNat (i : Int))).off + 1, none⟩)) rfl (fun w' hw' => e_indexAddr_el Try.underlying71 rfl rfl rfl (by decide) (by decide) rfl) ?_
  refine q_val (v := Value.int .i64 ((gI g.2 (i : Int)).2)) rfl (fun w' hw' => e_load_elF (α := (Int) × (Int)) (xs := g.2) (v := g_v) (i := (i : Int)) tp3_r rfl (r_g_v.bel hw') (by omega) (by omega) (by decide) rfl) ?_
  refine q_val (v := Value.bool (!(decide (((gI g.2 (i : Int)).1) = ((gI g.2 (i : Int)).2))))) rfl (fun w' hw' => e_neq (m := (gI g.2 (i : Int)).1) (n := (gI g.2 (i : Int)).2) rfl rfl) ?_
  refine q_val (v := Value.bool (!(decide (((gI g.2 (i : Int)).1) = ((gI g.2 (i : Int)).2))))) rfl (fun w' hw' => e_move rfl) ?_
  by_cases q28 : ((gI g.2 (i : Int)).1) = ((gI g.2 (i : Int)).2)
  ·
   refine q_skip (want_n rfl rfl rfl (congrArg Bool.not (decide_eq_true q28))) ?_
   refine q_skip (want_n rfl rfl rfl (congrArg Bool.not (decide_eq_true q28))) ?_
   refine q_skip (want_n rfl rfl rfl (congrArg Bool.not (decide_eq_true q28))) ?_
   refine q_skip (want_n rfl rfl rfl (congrArg Bool.not (decide_eq_true q28))) ?_
   refine q_val (v := Value.bool false) rfl (fun w' hw' => e_pick_f rfl (congrArg Bool.not (decide_eq_true q28)) rfl) ?_
   refine q_nil ?_
   intro w17 hc18
   replace hc18 := chg_below hc18 g13
   refine run_cond_f rfl rfl ?_
   refine run_skip ?_
   refine run_inBlock ?_
   refine run_region rfl ?_
   refine l_val (v := Value.int .i64 (i : Int)) rfl (e_move (by exact zs5)) ?_
   refine l_val (v := Value.int .i64 ((i : Int) + 1)) rfl (e_add (m := (i : Int)) (n := 1) rfl rfl (by omega)) ?_
   refine l_val (v := Value.int .i64 ((i : Int) + 1)) rfl (e_assign rfl) ?_
   refine l_nil ?_
   replace hbase := hbase.chg ch15 (not_no _)
   replace hbase := hbase.chg hc18 (not_no _)
   replace r_g_v := r_g_v.chg hc18 (not_no _)
   replace bx5 := bx5.chg hc18 (not_no _)
   replace bx10 := (bx10.chg ch15 (not_no _)).chg hc18 (not_no _)
   replace o_keep := (o_keep.chg ch15 (not_no _) (not_no _)).chg hc18 (not_no _) (not_no _)
   refine back3 (i + 1, keep_v, keep, g13) _ _ ⟨hbase, (by exact zs1), (by exact zs2), (by exact zs4), rfl, r_g_v, bx5, bx10, o_keep, by omega, ?_⟩ ?_
   · show keep = bareK g (i + 1)
     first
       | (rw [bareK_succ, if_pos ((bareP_iff (by assumption)).2 ⟨by assumption, fun h => by simp_all⟩), hinv]; done)
       | (rw [bareK_succ, if_neg (fun h => by have := (bareP_iff (by assumption)).1 h; simp_all), hinv]; done)
   · show Int.toNat (((List.length g.2 : Int) : Int) - ((i + 1) : Int)) < Int.toNat (((List.length g.2 : Int) : Int) - (i : Int))
     omega
  refine q_val (v := Value.agg (List.toArray [Value.int .i64 g.1, g_v])) (want_y rfl rfl rfl (congrArg Bool.not (decide_eq_false q28))) (fun w' hw' => e_load_bxN (ds := [Value.int .i64 g.1, g_v]) tp24_r (by exact zs1) (bx5.bel hw') rfl rfl) ?_
  refine q_val (v := Value.int .i64 (i : Int)) (want_y rfl rfl rfl (congrArg Bool.not (decide_eq_false q28))) (fun w' hw' => e_move (by exact zs5)) ?_
  refine q_call (v := Value.bool (decide (lvl (gI g.2 (i : Int)) ∈ (g.2.map lvl).take (i : Int).toNat))) (want_y rfl rfl rfl (congrArg Bool.not (decide_eq_false q28))) (fun w' hw' => e_call (vals := [Value.agg (List.toArray [Value.int .i64 g.1, g_v]), Value.int .i64 (i : Int)]) Try.func101 bd101_r nm101_r rfl) (fun w' hw' => (Parallel_ok w' g g_v ((r_g_v.bel hw')).ro (i : Int) (by omega) (by omega)).mono fun e w2 h2 => ⟨h2.1, hw'.trans (h2.2.mono hw'.size)⟩) ?_
  refine q_val (v := Value.bool (!(decide (lvl (gI g.2 (i : Int)) ∈ (g.2.map lvl).take (i : Int).toNat)))) (want_y rfl rfl rfl (congrArg Bool.not (decide_eq_false q28))) (fun w' hw' => e_not (b := (decide (lvl (gI g.2 (i : Int)) ∈ (g.2.map lvl).take (i : Int).toNat))) rfl) ?_
  refine q_val (v := Value.bool (!(decide (lvl (gI g.2 (i : Int)) ∈ (g.2.map lvl).take (i : Int).toNat)))) rfl (fun w' hw' => e_pick_t rfl (congrArg Bool.not (decide_eq_false q28)) rfl) ?_
  refine q_nil ?_
  intro w19 hc20
  replace hc20 := chg_below hc20 g13
  by_cases p5 : (decide (lvl (gI g.2 (i : Int)) ∈ (g.2.map lvl).take (i : Int).toNat)) = true
  ·
   refine run_cond_f rfl (congrArg Bool.not p5) ?_
   refine run_skip ?_
   refine run_inBlock ?_
   refine run_region rfl ?_
   refine l_val (v := Value.int .i64 (i : Int)) rfl (e_move (by exact zs5)) ?_
   refine l_val (v := Value.int .i64 ((i : Int) + 1)) rfl (e_add (m := (i : Int)) (n := 1) rfl rfl (by omega)) ?_
   refine l_val (v := Value.int .i64 ((i : Int) + 1)) rfl (e_assign rfl) ?_
   refine l_nil ?_
   replace hbase := hbase.chg ch15 (not_no _)
   replace hbase := hbase.chg hc20 (not_no _)
   replace r_g_v := r_g_v.chg hc20 (not_no _)
   replace bx5 := bx5.chg hc20 (not_no _)
   replace bx10 := (bx10.chg ch15 (not_no _)).chg hc20 (not_no _)
   replace o_keep := (o_keep.chg ch15 (not_no _) (not_no _)).chg hc20 (not_no _) (not_no _)
   refine back3 (i + 1, keep_v, keep, g13) _ _ ⟨hbase, (by exact zs1), (by exact zs2), (by exact zs4), rfl, r_g_v, bx5, bx10, o_keep, by omega, ?_⟩ ?_
   · show keep = bareK g (i + 1)
     first
       | (rw [bareK_succ, if_pos ((bareP_iff (by assumption)).2 ⟨by assumption, fun h => by simp_all⟩), hinv]; done)
       | (rw [bareK_succ, if_neg (fun h => by have := (bareP_iff (by assumption)).1 h; simp_all), hinv]; done)
   · show Int.toNat (((List.length g.2 : Int) : Int) - ((i + 1) : Int)) < Int.toNat (((List.length g.2 : Int) : Int) - (i : Int))
     omega
  refine run_cond_t rfl (congrArg Bool.not (Bool.eq_false_iff.2 p5)) ?_
  refine run_region rfl ?_
  refine l_val (v := keep_v) rfl (e_move (by exact zs4)) ?_
  refine l_val (v := Value.int .i64 (i : Int)) rfl (e_move (by exact zs5)) ?_
  refine l_op rfl ?_
  refine o_buildSlice (α := Int) g13 (is 3) (is 3) (3, 0) rfl [(i : Int)] Try.underlying35 tp3_r (by decide) (by decide) (vs := [(0, Value.int .i64 (i : Int))]) rfl rfl (.cons rfl .nil) ?_
  intro g21 w22 v23 ch24 o25
  refine l_op rfl ?_
  have C26 : Chg (inl []) _ _ _ _ := (ch15.n).seq ((hc20.n).seq (ch24.n))
  replace o_keep := o_keep.chg C26 (is_nl rfl) (is_nl rfl)
  refine o_append (α := Int) (xs := keep) (ys := ([(i : Int)])) g21 (J := is 4) (S := is 4) (4, 0) rfl Try.underlying35 tp3_r (by decide) rfl rfl rfl o_keep o25.flat (by decide) (by first | omega | (simp; done) | (simp; omega)) ?_
  intro g27 w28 v29 ch30 o31
  clear o_keep
  refine l_val (v := v29) rfl (e_assign rfl) ?_
  refine l_nil ?_
  refine run_inBlock ?_
  clear o25
  refine run_region rfl ?_
  refine l_val (v := Value.int .i64 (i : Int)) rfl (e_move (by exact zs5)) ?_
  refine l_val (v := Value.int .i64 ((i : Int) + 1)) rfl (e_add (m := (i : Int)) (n := 1) rfl rfl (by omega)) ?_
  refine l_val (v := Value.int .i64 ((i : Int) + 1)) rfl (e_assign rfl) ?_
  refine l_nil ?_
  have C32 : Chg (inl [4]) _ _ _ _ := (ch15.n).seq ((hc20.n).seq ((ch24.n).seq (ch30.l rfl)))
  replace hbase := hbase.chg C32 (is_nl rfl)
  have C33 : Chg (inl [4]) _ _ _ _ := (hc20.n).seq ((ch24.n).seq (ch30.l rfl))
  replace r_g_v := r_g_v.chg C33 (is_nl rfl)
  replace bx5 := bx5.chg C33 (is_nl rfl)
  replace bx10 := bx10.chg C32 (is_nl rfl)
  refine back3 (i + 1, v29, (keep ++ [(i : Int)]), g27) _ _ ⟨hbase, (by exact zs1), (by exact zs2), rfl, rfl, r_g_v, bx5, bx10, o31, by omega, ?_⟩ ?_
  · show (keep ++ [(i : Int)]) = bareK g (i + 1)
    first
      | (rw [bareK_succ, if_pos ((bareP_iff (by assumption)).2 ⟨by assumption, fun h => by simp_all⟩), hinv]; done)
      | (rw [bareK_succ, if_neg (fun h => by have := (bareP_iff (by assumption)).1 h; simp_all), hinv]; done)
  · show Int.toNat (((List.length g.2 : Int) : Int) - ((i + 1) : Int)) < Int.toNat (((List.length g.2 : Int) : Int) - (i : Int))
    omega
 refine run_cond_f rfl (decide_eq_false p3) ?_
 refine run_exit rfl ?_
 refine run_seq ?_
 refine run_region rfl ?_
 refine l_val (v := Value.agg (List.toArray [Value.int .i64 g.1, g_v])) rfl (e_load_bxN (ds := [Value.int .i64 g.1, g_v]) tp24_r (by exact zs1) bx5 rfl rfl) ?_
 refine l_val (v := keep_v) rfl (e_move (by exact zs4)) ?_
 refine l_op rfl ?_
 refine o_callx (e_call (vals := [Value.agg (List.toArray [Value.int .i64 g.1, g_v]), keep_v]) Try.func66 bd66_r nm66_r rfl) (rSub_ok w12 g g_v (r_g_v).ro keep keep_v (o_keep.flat).ro (by exact hmay)) ?_
 rintro ⟨d35, v37⟩ w34 ⟨fr36, o38⟩
 obtain ⟨g39, hg39⟩ : ∃ q, q = glue w12.heap.size g13 d35 (fun n => if n = 1 then 5 else 0) := ⟨_, rfl⟩
 have ch40 := chg_glue fr36.below g13 d35 (fun n => if n = 1 then 5 else 0)
 rw [← hg39] at ch40
 replace o38 := o38.glue (γ := g13) (ren := (fun n => if n = 1 then 5 else 0)) (k := 5) fr36.col rfl rfl
 rw [← hg39] at o38
 clear hg39
 refine l_val (v := Value.tuple (List.toArray [Value.agg (List.toArray [Value.int .i64 (((subR g keep).1).1), v37]), Value.int .i64 ((subR g keep).2)])) rfl (e_move rfl) ?_
 refine l_val (v := Value.agg (List.toArray [Value.int .i64 (((subR g keep).1).1), v37])) rfl (e_extract rfl rfl) ?_
 refine l_val (v := Value.int .i64 ((subR g keep).2)) rfl (e_extract rfl rfl) ?_
 refine l_op rfl ?_
 refine o_alloc g39 (is 6) (6, 0) rfl tp24_r ?_
 intro g44 w41 b43 ch42 bx45
 replace bx45 : Bx g44 (is 6) w41 b43 [Value.int .i64 0, Value.slice none 0 0] := bx45
 refine l_op rfl ?_
 replace o38 := o38.chg ch42 (not_no _) (not_no _)
 refine o_store_bx (cs' := [Value.int .i64 (((subR g keep).1).1), v37]) tp24_r rfl rfl bx45 rfl (Nat.le_of_ble_eq_true rfl) (AllOne.all (.cons rfl (.cons (sl_one o38.flat) .nil))) rfl ?_
 intro w46 ch47 bx48
 clear bx45
 refine l_val (v := Value.int .i64 ((subR g keep).2)) rfl (e_assign rfl) ?_
 refine l_nil ?_
 refine run_seq ?_
 clear bx5
 refine run_region rfl ?_
 refine l_val (v := Value.agg (List.toArray [Value.int .i64 (((subR g keep).1).1), v37])) rfl (e_load_bxN (ds := [Value.int .i64 (((subR g keep).1).1), v37]) tp24_r rfl bx48 rfl rfl) ?_
 refine l_val (v := keep_v) rfl (e_move (by exact zs4)) ?_
 refine l_op rfl ?_
 have C52 : Chg (inl [6]) _ _ _ _ := (ch40.n).seq ((ch42.n).seq (ch47.l rfl))
 replace bx10 := bx10.chg C52 (is_nl rfl)
 replace o38 := o38.chg ch47 (is_ne rfl) (is_ne rfl)
 refine o_store_bx (cs' := [Value.int .i64 (((subR g keep).1).1), v37]) tp24_r (by exact zs2) rfl bx10 rfl (Nat.le_of_ble_eq_true rfl) (AllOne.all (.cons rfl (.cons (sl_one o38.flat) .nil))) rfl ?_
 intro w49 ch50 bx51
 clear bx10
 refine l_val (v := keep_v) rfl (e_assign rfl) ?_
 refine l_nil ?_
 refine run_ret (vs := [Value.agg (List.toArray [Value.int .i64 (((subR g keep).1).1), v37]), keep_v]) Try.func61 (.cell (by exact zs2) (load_bxN (ds := [Value.int .i64 (((subR g keep).1).1), v37]) tp24_r bx51 rfl rfl) (.tmp rfl .nil)) ?_
 -- return 0
 have C53 : Chg (inl [2, 6]) _ _ _ _ := (ch40.n).seq ((ch42.n).seq ((ch47.l rfl).seq (ch50.l rfl)))
 replace hbase := hbase.chg C53 (is_nl rfl)
 replace o38 := o38.chg ch50 (is_ne rfl) (is_ne rfl)
 replace o_keep := o_keep.chg C53 (is_nl rfl) (is_nl rfl)
 have e0 : (((subR g keep).1) : (Int) × (List ((Int) × (Int)))) = ((bareR g).1) := by
   first
     | (have hk : i = g.2.length := by omega
        subst hk
        rw [hinv]
        simp only [subR, bareR, if_pos hmay, if_pos (bareK_chosen g)]; done)
     | (have hk : i = g.2.length := by omega
        subst hk
        simp only [bareR, if_pos hmay, hinv]; done)
 have e1 : (keep : List Int) = ((bareR g).2.1) := by
   first
     | (have hk : i = g.2.length := by omega
        subst hk
        rw [hinv]
        simp only [subR, bareR, if_pos hmay, if_pos (bareK_chosen g)]; done)
     | (have hk : i = g.2.length := by omega
        subst hk
        simp only [bareR, if_pos hmay, hinv]; done)
 exact ⟨(fin w0 g44 (fun n => if n = 5 then 1 else if n = 4 then 2 else 0), v37, keep_v), (congr2 (a := ((subR g keep).1)) (b := keep) (fun (z0 : (Int) × (List ((Int) × (Int)))) (z1 : List Int) => Ending.returned (Value.tuple (List.toArray [Value.agg (List.toArray [Value.int .i64 z0.1, v37]), keep_v]))) e0 e1), hbase.fresh _, ((congrArg (fun (z : (Int) × (List ((Int) × (Int)))) => z.2) e0) ▸ (o38.glue (γ := c0) (ren := (fun n => if n = 5 then 1 else if n = 4 then 2 else 0)) (k := 1) hbase.col rfl rfl)), (e1 ▸ (o_keep.glue (γ := c0) (ren := (fun n => if n = 5 then 1 else if n = 4 then 2 else 0)) (k := 2) hbase.col rfl rfl))⟩
end TL
