import Derived.Test.YtilohhkbelkmdaaTlGenA
import Derived.Test.YtilohhkbelkmdaaTlP2
import Derived.Test.YtilohhkbelkmdaaProg
set_option linter.all false
set_option maxRecDepth 20000
namespace TL
open Go Go.Proofs
theorem mixed_r : Try.prog.follows .mixedOrders = true := by kernel_rfl
theorem tp3_r : Tp Try.prog 3 false 1 8 (.int .i64 0) := Tp.of (by kernel_rfl)
theorem tp22_r : Tp Try.prog 22 false 1 24 (.slice none 0 0) := Tp.of (by kernel_rfl)
theorem tp24_r : Tp Try.prog 24 true 2 32 (.agg #[.int .i64 0, .slice none 0 0]) := Tp.of (by kernel_rfl)
theorem tp60_r : Tp Try.prog 60 true 2 16 (.agg #[.int .i64 0, .int .i64 0]) := Tp.of (by kernel_rfl)
theorem bd106_r : Try.f106.body.isNone = false := rfl
theorem nm106_r : (Try.f106.name == "runtime.NumGoroutine") = false := by decide +kernel
theorem rCopy_ok (w0 : World) (g : (Int) × (List ((Int) × (Int)))) (g_v : Value) (hg_v : Ro w0 g_v g.2) (hlen : g.2.length ≤ 1000000) :
    Calls Try.prog 82 #[Value.agg (List.toArray [Value.int .i64 g.1, g_v])] w0 (fun ee w => ∃ xx : Cmap × Value, ee = .returned ((fun ⟨δ, rv0⟩ => Value.agg (List.toArray [Value.int .i64 g.1, rv0])) xx) ∧ (fun (⟨δ, rv0⟩ : Cmap × Value) (w : World) => Fresh w0 δ w ∧ Ow δ (is 1) (is 1) w rv0 g.2) xx w) := by
 refine calls_of_run Try.func82 rfl (Nat.le_of_ble_eq_true rfl) ?_
 have hbase := Base.start w0
 have r_g_v := hg_v.sl
 refine run_seq (run_region rfl (l_op rfl ?_))
 refine o_box c0 (is 1) (1, 0) rfl rfl ?_
 intro g4 w1 b3 ch2 bx5
 replace bx5 : Bx g4 (is 1) w1 b3 [Value.int .i64 g.1, g_v] := bx5
 refine l_op rfl ?_
 refine o_alloc g4 (is 2) (2, 0) rfl tp24_r ?_
 intro g9 w6 b8 ch7 bx10
 replace bx10 : Bx g9 (is 2) w6 b8 [Value.int .i64 0, Value.slice none 0 0] := bx10
 refine l_nil (run_seq ?_)
 refine run_region_h g9 (inl [2, 3]) mixed_r ?_
 intro w12 ch11
 refine h_take (v := Value.pointer (some ⟨b3, 0, none⟩)) 0 rfl (by kernel_rfl) (by kernel_rfl) rfl (Chg.refl _ _ _) (fun w' hw' => e_fieldAddr Try.underlying24 rfl rfl rfl rfl) ?_
 replace bx5 := (bx5.chg ch7 (not_no _)).chg ch11 (not_no _)
 refine h_take (v := Value.int .i64 g.1) 1 rfl (by kernel_rfl) (by kernel_rfl) rfl (Chg.refl _ _ _) (fun w' hw' => e_load_bx1 tp3_r rfl (bx5.chg hw' (is_nl rfl)) rfl) ?_
 refine h_take (v := Value.pointer (some ⟨b3, 1, none⟩)) 2 rfl (by kernel_rfl) (by kernel_rfl) rfl (Chg.refl _ _ _) (fun w' hw' => e_fieldAddr Try.underlying24 rfl rfl rfl rfl) ?_
 refine h_take (v := g_v) 3 rfl (by kernel_rfl) (by kernel_rfl) rfl (Chg.refl _ _ _) (fun w' hw' => e_load_bx1 tp22_r rfl (bx5.chg hw' (is_nl rfl)) rfl) ?_
 refine h_one 4 rfl (by kernel_rfl) rfl ?_
 have C13 : Chg (inl []) _ _ _ _ := (ch2.n).seq ((ch7.n).seq (ch11.n))
 replace r_g_v := r_g_v.chg C13 (is_nl rfl)
 refine o_append (α := (Int) × (Int)) (xs := ([])) (ys := g.2) g9 (J := is 3) (S := is 3) (3, 0) rfl Try.underlying22 tp60_r (by decide) rfl rfl rfl Ow.nil r_g_v (by decide) (by first | omega | (simp; done) | (simp; omega)) ?_
 intro g14 w15 v16 ch17 o18
 replace o18 : Ow g14 (is 3) (is 3) w15 v16 g.2 := o18
 have hs19 : Chg (inl [2, 3]) _ _ _ _ := ch17.l rfl
 refine ⟨hs19.same, ?_⟩
 refine h_take (v := Value.agg (List.toArray [Value.int .i64 g.1, v16])) 5 rfl (by kernel_rfl) (by kernel_rfl) rfl hs19.same (fun w' hw' => e_build (vs := [(0, Value.int .i64 g.1), (1, v16)]) rfl (by rw [Sl.form o18.flat]; kernel_rfl)) ?_
 refine h_one 6 rfl (by kernel_rfl) rfl ?_
 replace bx10 := (bx10.chg ch11 (not_no _)).chg ch17 (is_ne rfl)
 refine o_store_bx (cs' := [Value.int .i64 g.1, v16]) tp24_r rfl rfl bx10 rfl (Nat.le_of_ble_eq_true rfl) (AllOne.all (.cons rfl (.cons (sl_one o18.flat) .nil))) rfl ?_
 intro w20 ch21 bx22
 clear bx10
 have hs23 := hs19.seq (ch21.l rfl)
 refine ⟨hs23.same, ?_⟩
 refine h_nil (by kernel_rfl) ?_
 refine run_ret (vs := [Value.agg (List.toArray [Value.int .i64 g.1, v16])]) Try.func82 (.cell rfl (load_bxN (ds := [Value.int .i64 g.1, v16]) tp24_r bx22 rfl rfl) .nil) ?_
 have C24 : Chg (inl [2, 3]) _ _ _ _ := (ch2.n).seq ((ch7.n).seq ((ch11.n).seq ((ch17.l rfl).seq (ch21.l rfl))))
 replace hbase := hbase.chg C24 (is_nl rfl)
 replace o18 := o18.chg ch21 (is_ne rfl) (is_ne rfl)
 have e0 : (g : (Int) × (List ((Int) × (Int)))) = (g) := by
   rfl
 exact ⟨(fin w0 g14 (fun n => if n = 3 then 1 else 0), v16), (congrArg (a₁ := g) (fun (z0 : (Int) × (List ((Int) × (Int)))) => Ending.returned (Value.agg (List.toArray [Value.int .i64 z0.1, v16]))) e0), hbase.fresh _, ((congrArg (fun (z : (Int) × (List ((Int) × (Int)))) => z.2) e0) ▸ (o18.glue (γ := c0) (ren := (fun n => if n = 3 then 1 else 0)) (k := 1) hbase.col rfl rfl))⟩
theorem rChosen_ok (w0 : World) (l : List Int) (l_v : Value) (hl_v : Ro w0 l_v l) (n : Int) :
    Calls Try.prog 106 #[l_v, Value.int .i64 n] w0 (fun ee w => ee = .returned (Value.int .i64 (chosenS l n)) ∧ Bel w0.heap.size w0 w) := by
 refine calls_of_run Try.func106 rfl (Nat.le_of_ble_eq_true rfl) ?_
 have hbase := Base.start w0
 have r_l_v := hl_v.sl
 refine run_seq (run_region rfl ?_)
 refine lv (Value.int .i64 0) rfl (e_assign rfl) ?_
 refine l_nil (run_seq (run_seq (run_region rfl ?_)))
 refine lv (Value.int .i64 0) rfl (e_assign rfl) ?_
 refine l_nil ?_
 refine run_block ?_
 refine run_loop (σ := Nat × Cmap) (fun ⟨i, gq⟩ f w => Base w0 gq w ∧ f 0 = l_v ∧ f 1 = Value.int .i64 n ∧ f 5 = Value.int .i64 (i : Int) ∧ Sl gq (is 0) w l_v l ∧ (i : Int) ≤ ((List.length l : Int) : Int) ∧ (ChoInv l n i)) (fun ⟨i, gq⟩ => Int.toNat (((List.length l : Int) : Int) - (i : Int))) (0, c0) ?_ ?_
 · exact ⟨hbase, rfl, rfl, rfl, r_l_v, by omega, by exact ChoInv.start l n⟩
 clear r_l_v hbase
 rintro ⟨i, g3⟩ f1 w2 ⟨hbase, zs0, zs1, zs5, r_l_v, hle_i, hinv⟩ back2
 refine run_seq (run_seq (run_region rfl ?_))
 refine lv (Value.int .i64 (i : Int)) rfl (e_move (by exact zs5)) ?_
 refine lv (l_v) rfl (e_move (by exact zs0)) ?_
 have len4 := (r_l_v).small
 refine lv (Value.int .i64 (List.length l : Int)) rfl (e_len Try.underlying27 rfl r_l_v) ?_
 refine lv (Value.bool (decide ((i : Int) < (List.length l : Int)))) rfl (e_lss (m := (i : Int)) (n := (List.length l : Int)) rfl rfl) ?_
 refine l_nil ?_
 by_cases p2 : (i : Int) < (List.length l : Int)
 ·
  refine run_cond_t rfl (decide_eq_true p2) ?_
  refine run_skip ?_
  refine run_seq ?_
  refine run_block ?_
  refine run_seq (run_seq (run_region rfl ?_))
  refine lv (l_v) rfl (e_move (by exact zs0)) ?_
  refine lv (Value.int .i64 (i : Int)) rfl (e_move (by exact zs5)) ?_
  refine lv (Value.pointer (some (eAddr l_v 1 (Int.toNat (i : Int))))) rfl (e_indexAddr (α := Int) (xs := l) (v := l_v) (i := (i : Int)) Try.underlying27 rfl rfl r_l_v rfl (by omega) (by omega)) ?_
  refine lv (Value.int .i64 (gI l (i : Int))) rfl (e_load_el1 (α := Int) (xs := l) (v := l_v) (i := (i : Int)) tp3_r rfl r_l_v (by omega) (by omega) (by decide) rfl) ?_
  refine lv (Value.bool (decide ((gI l (i : Int)) < 0))) rfl (e_lss (m := (gI l (i : Int))) (n := 0) rfl rfl) ?_
  refine lv (Value.bool (decide ((gI l (i : Int)) < 0))) rfl (e_move rfl) ?_
  by_cases q18 : (gI l (i : Int)) < 0
  ·
   refine l_skip (want_n rfl rfl rfl (decide_eq_true q18)) ?_
   refine l_skip (want_n rfl rfl rfl (decide_eq_true q18)) ?_
   refine l_skip (want_n rfl rfl rfl (decide_eq_true q18)) ?_
   refine l_skip (want_n rfl rfl rfl (decide_eq_true q18)) ?_
   refine l_skip (want_n rfl rfl rfl (decide_eq_true q18)) ?_
   refine l_skip (want_n rfl rfl rfl (decide_eq_true q18)) ?_
   refine lv (Value.bool true) rfl (e_pick_t rfl (decide_eq_true q18) rfl) ?_
   refine l_nil ?_
   refine run_cond_t rfl rfl ?_
   refine run_seq (run_region rfl ?_)
   refine lv (Value.int .i64 2) rfl (e_assign rfl) ?_
   refine l_nil ?_
   refine run_ret (vs := [Value.int .i64 2]) Try.func106 (.tmp rfl .nil) ?_
   have e0 : (2 : Int) = (chosenS l n) := by
     first
       | exact hinv.bad (by assumption) (by omega)
       | exact hinv.twice (by assumption) (by omega) (by omega) (by rw [← p9]; exact mem_take_gI (by omega) (by omega))
       | exact hinv.done (by assumption)
   exact ⟨(congrArg (a₁ := 2) (fun (z0 : Int) => Ending.returned (Value.int .i64 z0)) e0), hbase.below⟩
  refine lv (l_v) (want_y rfl rfl rfl (decide_eq_false q18)) (e_move (by exact zs0)) ?_
  refine lv (Value.int .i64 (i : Int)) (want_y rfl rfl rfl (decide_eq_false q18)) (e_move (by exact zs5)) ?_
  refine lv (Value.pointer (some (eAddr l_v 1 (Int.toNat (i : Int))))) (want_y rfl rfl rfl (decide_eq_false q18)) (e_indexAddr (α := Int) (xs := l) (v := l_v) (i := (i : Int)) Try.underlying27 rfl rfl r_l_v rfl (by omega) (by omega)) ?_
  refine lv (Value.int .i64 (gI l (i : Int))) (want_y rfl rfl rfl (decide_eq_false q18)) (e_load_el1 (α := Int) (xs := l) (v := l_v) (i := (i : Int)) tp3_r rfl r_l_v (by omega) (by omega) (by decide) rfl) ?_
  refine lv (Value.int .i64 n) (want_y rfl rfl rfl (decide_eq_false q18)) (e_move (by exact zs1)) ?_
  refine lv (Value.bool (decide (n ≤ (gI l (i : Int))))) (want_y rfl rfl rfl (decide_eq_false q18)) (e_geq (m := (gI l (i : Int))) (n := n) rfl rfl) ?_
  refine lv (Value.bool (decide (n ≤ (gI l (i : Int))))) rfl (e_pick_f rfl (decide_eq_false q18) rfl) ?_
  refine l_nil ?_
  by_cases p4 : n ≤ (gI l (i : Int))
  ·
   refine run_cond_t rfl (decide_eq_true p4) ?_
   refine run_seq (run_region rfl ?_)
   refine lv (Value.int .i64 2) rfl (e_assign rfl) ?_
   refine l_nil ?_
   refine run_ret (vs := [Value.int .i64 2]) Try.func106 (.tmp rfl .nil) ?_
   have e0 : (2 : Int) = (chosenS l n) := by
     first
       | exact hinv.bad (by assumption) (by omega)
       | exact hinv.twice (by assumption) (by omega) (by omega) (by rw [← p9]; exact mem_take_gI (by omega) (by omega))
       | exact hinv.done (by assumption)
   exact ⟨(congrArg (a₁ := 2) (fun (z0 : Int) => Ending.returned (Value.int .i64 z0)) e0), hbase.below⟩
  refine run_cond_f rfl (decide_eq_false p4) ?_
  refine run_skip ?_
  refine run_seq (run_region rfl ?_)
  refine lv (Value.int .i64 0) rfl (e_assign rfl) ?_
  refine l_nil ?_
  refine run_block ?_
  refine run_loop (σ := Nat × Cmap) (fun ⟨k, gq⟩ f w => Base w0 gq w ∧ f 0 = l_v ∧ f 1 = Value.int .i64 n ∧ f 5 = Value.int .i64 (i : Int) ∧ f 6 = Value.int .i64 (k : Int) ∧ Sl gq (is 0) w l_v l ∧ (k : Int) ≤ ((i : Int) : Int) ∧ (∀ q : Nat, q < k → ¬ gI l (q : Int) = gI l (i : Int))) (fun ⟨k, gq⟩ => Int.toNat (((i : Int) : Int) - (k : Int))) (0, g3) ?_ ?_
  · exact ⟨hbase, (by exact zs0), (by exact zs1), (by exact zs5), rfl, r_l_v, by omega, by intro q hq; omega⟩
  clear r_l_v hbase
  rintro ⟨k, g7⟩ f5 w6 ⟨hbase, zs0, zs1, zs5, zs6, r_l_v, hle_k, hin⟩ back7
  refine run_seq (run_seq (run_region rfl ?_))
  refine lv (Value.int .i64 (k : Int)) rfl (e_move (by exact zs6)) ?_
  refine lv (Value.int .i64 (i : Int)) rfl (e_move (by exact zs5)) ?_
  refine lv (Value.bool (decide ((k : Int) < (i : Int)))) rfl (e_lss (m := (k : Int)) (n := (i : Int)) rfl rfl) ?_
  refine l_nil ?_
  by_cases p7 : (k : Int) < (i : Int)
  ·
   refine run_cond_t rfl (decide_eq_true p7) ?_
   refine run_skip ?_
   refine run_seq ?_
   refine run_block ?_
   refine run_seq ?_
   refine region_q g7 rfl mixed_r (by kernel_rfl) ?_
   intro w9 ch8
   refine q_val (v := l_v) rfl (fun w' hw' => e_move (by exact zs0)) ?_
   refine q_val (v := Value.int .i64 (k : Int)) rfl (fun w' hw' => e_move (by exact zs6)) ?_
   replace r_l_v := r_l_v.chg ch8 (not_no _)
   refine q_val (v := Value.pointer (some (eAddr l_v 1 (Int.toNat (k : Int))))) rfl (fun w' hw' => e_indexAddr (α := Int) (xs := l) (v := l_v) (i := (k : Int)) Try.underlying27 rfl rfl (r_l_v.bel hw') rfl (by omega) (by omega)) ?_
   refine q_val (v := Value.int .i64 (gI l (k : Int))) rfl (fun w' hw' => e_load_el1 (α := Int) (xs := l) (v := l_v) (i := (k : Int)) tp3_r rfl (r_l_v.bel hw') (by omega) (by omega) (by decide) rfl) ?_
   refine q_val (v := l_v) rfl (fun w' hw' => e_move (by exact zs0)) ?_
   refine q_val (v := Value.int .i64 (i : Int)) rfl (fun w' hw' => e_move (by exact zs5)) ?_
   refine q_val (v := Value.pointer (some (eAddr l_v 1 (Int.toNat (i : Int))))) rfl (fun w' hw' => e_indexAddr (α := Int) (xs := l) (v := l_v) (i := (i : Int)) Try.underlying27 rfl rfl (r_l_v.bel hw') rfl (by omega) (by omega)) ?_
   refine q_val (v := Value.int .i64 (gI l (i : Int))) rfl (fun w' hw' => e_load_el1 (α := Int) (xs := l) (v := l_v) (i := (i : Int)) tp3_r rfl (r_l_v.bel hw') (by omega) (by omega) (by decide) rfl) ?_
   refine q_val (v := Value.bool (decide ((gI l (k : Int)) = (gI l (i : Int))))) rfl (fun w' hw' => e_eql (m := (gI l (k : Int))) (n := (gI l (i : Int))) rfl rfl) ?_
   refine q_nil ?_
   intro w10 hc11
   replace hc11 := chg_below hc11 g7
   by_cases p9 : (gI l (k : Int)) = (gI l (i : Int))
   ·
    refine run_cond_t rfl (decide_eq_true p9) ?_
    refine run_seq (run_region rfl ?_)
    refine lv (Value.int .i64 18) rfl (e_assign rfl) ?_
    refine l_nil ?_
    refine run_ret (vs := [Value.int .i64 18]) Try.func106 (.tmp rfl .nil) ?_
    have e0 : (18 : Int) = (chosenS l n) := by
      first
        | exact hinv.bad (by assumption) (by omega)
        | exact hinv.twice (by assumption) (by omega) (by omega) (by rw [← p9]; exact mem_take_gI (by omega) (by omega))
        | exact hinv.done (by assumption)
    replace hbase := hbase.chg ch8 (not_no _)
    replace hbase := hbase.chg hc11 (not_no _)
    exact ⟨(congrArg (a₁ := 18) (fun (z0 : Int) => Ending.returned (Value.int .i64 z0)) e0), hbase.below⟩
   refine run_cond_f rfl (decide_eq_false p9) ?_
   refine run_skip ?_
   refine run_inBlock ?_
   refine run_region rfl ?_
   refine lv (Value.int .i64 (k : Int)) rfl (e_move (by exact zs6)) ?_
   refine lv (Value.int .i64 ((k : Int) + 1)) rfl (e_add (m := (k : Int)) (n := 1) rfl rfl (by omega)) ?_
   refine lv (Value.int .i64 ((k : Int) + 1)) rfl (e_assign rfl) ?_
   refine l_nil ?_
   replace hbase := hbase.chg ch8 (not_no _)
   replace hbase := hbase.chg hc11 (not_no _)
   replace r_l_v := r_l_v.chg hc11 (not_no _)
   refine back7 (k + 1, g7) _ _ ⟨hbase, (by exact zs0), (by exact zs1), (by exact zs5), rfl, r_l_v, by omega, ?_⟩ ?_
   · show ∀ q : Nat, q < (k + 1) → ¬ gI l (q : Int) = gI l (i : Int)
     intro q hq
     by_cases e : q = k
     · subst e; assumption
     · exact hin q (by omega)
   · show Int.toNat (((i : Int) : Int) - ((k + 1) : Int)) < Int.toNat (((i : Int) : Int) - (k : Int))
     omega
  refine run_cond_f rfl (decide_eq_false p7) ?_
  refine run_exit rfl ?_
  refine run_inBlock ?_
  refine run_region rfl ?_
  refine lv (Value.int .i64 (i : Int)) rfl (e_move (by exact zs5)) ?_
  refine lv (Value.int .i64 ((i : Int) + 1)) rfl (e_add (m := (i : Int)) (n := 1) rfl rfl (by omega)) ?_
  refine lv (Value.int .i64 ((i : Int) + 1)) rfl (e_assign rfl) ?_
  refine l_nil ?_
  refine back2 (i + 1, g7) _ _ ⟨hbase, (by exact zs0), (by exact zs1), rfl, r_l_v, by omega, ?_⟩ ?_
  · show ChoInv l n (i + 1)
    exact hinv.next (by assumption) (by omega) (by omega) (fun hm => by
      obtain ⟨q, hq, e⟩ := List.mem_take_iff_getElem.1 hm
      have := hin q (by omega)
      apply this
      rw [← e]
      simp [gI, show q < l.length by omega])
  · show Int.toNat (((List.length l : Int) : Int) - ((i + 1) : Int)) < Int.toNat (((List.length l : Int) : Int) - (i : Int))
    omega
 refine run_cond_f rfl (decide_eq_false p2) ?_
 refine run_exit rfl ?_
 refine run_seq (run_region rfl ?_)
 refine lv (Value.int .i64 0) rfl (e_assign rfl) ?_
 refine l_nil ?_
 refine run_ret (vs := [Value.int .i64 0]) Try.func106 (.tmp rfl .nil) ?_
 have e0 : (0 : Int) = (chosenS l n) := by
   first
     | exact hinv.bad (by assumption) (by omega)
     | exact hinv.twice (by assumption) (by omega) (by omega) (by rw [← p9]; exact mem_take_gI (by omega) (by omega))
     | exact hinv.done (by assumption)
 exact ⟨(congrArg (a₁ := 0) (fun (z0 : Int) => Ending.returned (Value.int .i64 z0)) e0), hbase.below⟩
theorem Room_ok (w0 : World) (n : Int) (all : Int) (hn : 0 ≤ n ∧ n ≤ 1099511627776) :
    Calls Try.prog 65 #[Value.int .i64 n, Value.int .i64 all] w0 (fun ee w => ee = .returned (Value.int .i64 (min all (n + 2000))) ∧ Bel w0.heap.size w0 w) := by
 refine calls_of_run Try.func65 rfl (Nat.le_of_ble_eq_true rfl) ?_
 have hbase := Base.start w0
 obtain ⟨hn1, hn2⟩ := hn
 refine run_seq (run_region rfl ?_)
 refine lv (Value.int .i64 0) rfl (e_assign rfl) ?_
 refine l_nil (run_seq (run_region rfl ?_))
 refine lv (Value.int .i64 all) rfl (e_move rfl) ?_
 refine lv (Value.int .i64 n) rfl (e_move rfl) ?_
 refine lv (Value.int .i64 (n + 2000)) rfl (e_add (m := n) (n := 2000) rfl rfl (by omega)) ?_
 refine lv (Value.int .i64 (min all (n + 2000))) rfl (e_min rfl rfl) ?_
 refine lv (Value.int .i64 (min all (n + 2000))) rfl (e_assign rfl) ?_
 refine l_nil ?_
 refine run_ret (vs := [Value.int .i64 (min all (n + 2000))]) Try.func65 (.tmp rfl .nil) ?_
 have e0 : (min all (n + 2000) : Int) = (min all (n + 2000)) := by
   rfl
 exact ⟨(congrArg (a₁ := min all (n + 2000)) (fun (z0 : Int) => Ending.returned (Value.int .i64 z0)) e0), hbase.below⟩
theorem From_ok (w0 : World) (g : (Int) × (List ((Int) × (Int)))) (g_v : Value) (hg_v : Ro w0 g_v g.2) (h : Int) (hh : 0 ≤ h ∧ h < 2 * (g.2.length : Int)) (hlen : g.2.length ≤ 1000000) :
    Calls Try.prog 52 #[Value.agg (List.toArray [Value.int .i64 g.1, g_v]), Value.int .i64 h] w0 (fun ee w => ee = .returned (Value.int .i64 (fromS g h)) ∧ Bel w0.heap.size w0 w) := by
 refine calls_of_run Try.func52 rfl (Nat.le_of_ble_eq_true rfl) ?_
 have hbase := Base.start w0
 have r_g_v := hg_v.sl
 obtain ⟨hh1, hh2⟩ := hh
 refine run_seq (run_region rfl (l_op rfl ?_))
 refine o_box c0 (is 1) (1, 0) rfl rfl ?_
 intro g4 w1 b3 ch2 bx5
 replace bx5 : Bx g4 (is 1) w1 b3 [Value.int .i64 g.1, g_v] := bx5
 refine lv (Value.int .i64 0) rfl (e_assign rfl) ?_
 refine l_nil (run_seq (run_region rfl ?_))
 refine lv (Value.pointer (some ⟨b3, 1, none⟩)) rfl (e_fieldAddr Try.underlying24 rfl rfl rfl rfl) ?_
 refine lv (g_v) rfl (e_load_bx1 tp22_r rfl bx5 rfl) ?_
 refine lv (Value.int .i64 h) rfl (e_move rfl) ?_
 refine lv (Value.int .i64 (h / 2)) rfl (e_quo (m := h) (n := 2) rfl rfl (by omega) (by omega) (by omega)) ?_
 refine lv (Value.int .i64 h) rfl (e_move rfl) ?_
 refine lv (Value.int .i64 (h % 2)) rfl (e_rem (m := h) (n := 2) rfl rfl (by omega) (by omega)) ?_
 replace r_g_v := r_g_v.chg ch2 (not_no _)
 refine lv (Value.pointer (some (eAddr g_v 2 (Int.toNat (h / 2))))) rfl (e_indexAddr (α := (Int) × (Int)) (xs := g.2) (v := g_v) (i := h / 2) Try.underlying22 rfl rfl r_g_v rfl (by omega) (by omega)) ?_
 refine lv (Value.pointer (some ⟨(eAddr g_v 2 (Int.toNat (h / 2))).block, (eAddr g_v 2 (Int.toNat (h / 2))).off + (Int.toNat (h % 2)), none⟩)) rfl (e_indexAddr_el (i := h % 2) Try.underlying60 rfl rfl rfl (by omega) (by omega) (Nat.mul_one _)) ?_
 refine lv (Value.int .i64 (pI (gI g.2 (h / 2)) (h % 2))) rfl (e_load_elF (α := (Int) × (Int)) (xs := g.2) (v := g_v) (i := h / 2) tp3_r rfl r_g_v (by omega) (by omega) (show Int.toNat (h % 2) < 2 by omega) (pI_cells _ (by omega) (by omega))) ?_
 refine lv (Value.int .i64 (pI (gI g.2 (h / 2)) (h % 2))) rfl (e_assign rfl) ?_
 refine l_nil ?_
 refine run_ret (vs := [Value.int .i64 (pI (gI g.2 (h / 2)) (h % 2))]) Try.func52 (.tmp rfl .nil) ?_
 have e0 : (pI (gI g.2 (h / 2)) (h % 2) : Int) = (fromS g h) := by
   rfl
 replace hbase := hbase.chg ch2 (not_no _)
 exact ⟨(congrArg (a₁ := pI (gI g.2 (h / 2)) (h % 2)) (fun (z0 : Int) => Ending.returned (Value.int .i64 z0)) e0), hbase.below⟩
theorem rSub_ok (w0 : World) (g : (Int) × (List ((Int) × (Int)))) (g_v : Value) (hg_v : Ro w0 g_v g.2) (keep : List Int) (keep_v : Value) (hkeep_v : Ro w0 keep_v keep) (hmay : MayP g) :
    Calls Try.prog 93 #[Value.agg (List.toArray [Value.int .i64 g.1, g_v]), keep_v] w0 (fun ee w => ∃ xx : Cmap × Value, ee = .returned ((fun ⟨δ, rv0⟩ => Value.tuple (List.toArray [Value.agg (List.toArray [Value.int .i64 (((subR g keep).1).1), rv0]), Value.int .i64 ((subR g keep).2)])) xx) ∧ (fun (⟨δ, rv0⟩ : Cmap × Value) (w : World) => Fresh w0 δ w ∧ Ow δ (is 1) (is 1) w rv0 (((subR g keep).1).2)) xx w) := by
 refine calls_of_run Try.func93 rfl (Nat.le_of_ble_eq_true rfl) ?_
 have hbase := Base.start w0
 have r_g_v := hg_v.sl
 have r_keep_v := hkeep_v.sl
 have hm0 := hmay
 obtain ⟨hm1, hm2, hm3, hm4⟩ := hm0
 refine run_seq (run_region rfl (l_op rfl ?_))
 refine o_box c0 (is 1) (1, 0) rfl rfl ?_
 intro g4 w1 b3 ch2 bx5
 replace bx5 : Bx g4 (is 1) w1 b3 [Value.int .i64 g.1, g_v] := bx5
 refine l_op rfl ?_
 refine o_alloc g4 (is 2) (2, 0) rfl tp24_r ?_
 intro g9 w6 b8 ch7 bx10
 replace bx10 : Bx g9 (is 2) w6 b8 [Value.int .i64 0, Value.slice none 0 0] := bx10
 refine lv (Value.int .i64 0) rfl (e_assign rfl) ?_
 refine l_nil (run_seq (run_region rfl ?_))
 refine lv (keep_v) rfl (e_move rfl) ?_
 refine lv (Value.pointer (some ⟨b3, 1, none⟩)) rfl (e_fieldAddr Try.underlying24 rfl rfl rfl rfl) ?_
 replace bx5 := bx5.chg ch7 (not_no _)
 refine lv (g_v) rfl (e_load_bx1 tp22_r rfl bx5 rfl) ?_
 replace r_g_v := (r_g_v.chg ch2 (not_no _)).chg ch7 (not_no _)
 have len11 := (r_g_v).small
 refine lv (Value.int .i64 (List.length g.2 : Int)) rfl (e_len Try.underlying22 rfl r_g_v) ?_
 replace r_keep_v := (r_keep_v.chg ch2 (not_no _)).chg ch7 (not_no _)
 refine l_op rfl ?_
 refine o_call (v := Value.int .i64 (chosenS keep (List.length g.2 : Int))) (e_call (vals := [keep_v, Value.int .i64 (List.length g.2 : Int)]) Try.func106 bd106_r nm106_r rfl) (rChosen_ok w6 keep keep_v (r_keep_v).ro (List.length g.2 : Int)) ?_
 intro w12 hb13
 replace hb13 := chg_below hb13 g9
 refine lv (Value.int .i64 (chosenS keep (List.length g.2 : Int))) rfl (e_assign rfl) ?_
 refine l_nil (run_seq (run_seq (run_region rfl ?_)))
 refine lv (Value.int .i64 (chosenS keep (List.length g.2 : Int))) rfl (e_move rfl) ?_
 refine lv (Value.bool (!(decide ((chosenS keep (List.length g.2 : Int)) = 0)))) rfl (e_neq (m := chosenS keep (List.length g.2 : Int)) (n := 0) rfl rfl) ?_
 refine l_nil ?_
 by_cases p2 : (chosenS keep (List.length g.2 : Int)) = 0
 ·
  have hch := chosenS_ok p2
  refine run_cond_f rfl (congrArg Bool.not (decide_eq_true p2)) ?_
  refine run_skip ?_
  refine run_seq (run_region rfl ?_)
  refine lv (Value.pointer (some ⟨b3, 0, none⟩)) rfl (e_fieldAddr Try.underlying24 rfl rfl rfl rfl) ?_
  replace bx5 := bx5.chg hb13 (not_no _)
  refine lv (Value.int .i64 g.1) rfl (e_load_bx1 tp3_r rfl bx5 rfl) ?_
  refine lv (Value.agg (List.toArray [Value.int .i64 g.1, Value.slice none 0 0])) rfl (e_build (vs := [(0, Value.int .i64 g.1)]) rfl (by kernel_rfl)) ?_
  refine l_op rfl ?_
  refine o_alloc g9 (is 3) (3, 0) rfl tp24_r ?_
  intro g17 w14 b16 ch15 bx18
  replace bx18 : Bx g17 (is 3) w14 b16 [Value.int .i64 0, Value.slice none 0 0] := bx18
  refine l_op rfl ?_
  refine o_store_bx (cs' := [Value.int .i64 g.1, Value.slice none 0 0]) tp24_r rfl rfl bx18 rfl (Nat.le_of_ble_eq_true rfl) (AllOne.all (.cons rfl (.cons rfl .nil))) rfl ?_
  intro w19 ch20 bx21
  clear bx18
  refine l_nil (run_seq (run_seq (run_region rfl ?_)))
  refine lv (Value.int .i64 0) rfl (e_assign rfl) ?_
  refine l_nil ?_
  refine run_block ?_
  refine run_loop (σ := Value × (List ((Int) × (Int))) × Nat × Cmap) (fun ⟨s_1_v, s_1, i, gq⟩ f w => Base w0 gq w ∧ f 1 = keep_v ∧ f 2 = Value.pointer (some ⟨b3, 0, none⟩) ∧ f 4 = Value.pointer (some ⟨b8, 0, none⟩) ∧ f 7 = Value.pointer (some ⟨b16, 0, none⟩) ∧ f 8 = Value.int .i64 (i : Int) ∧ Sl gq (is 0) w g_v g.2 ∧ Sl gq (is 0) w keep_v keep ∧ Bx gq (is 1) w b3 [Value.int .i64 g.1, g_v] ∧ Bx gq (is 2) w b8 [Value.int .i64 0, Value.slice none 0 0] ∧ Bx gq (is 3) w b16 [Value.int .i64 g.1, s_1_v] ∧ Ow gq (is 5) (is 5) w s_1_v s_1 ∧ (i : Int) ≤ ((List.length keep : Int) : Int) ∧ (s_1 = (List.take i keep).map (gI g.2))) (fun ⟨s_1_v, s_1, i, gq⟩ => Int.toNat (((List.length keep : Int) : Int) - (i : Int))) (Value.slice none 0 0, [], 0, g17) ?_ ?_
  have C22 : Chg (inl [3]) _ _ _ _ := (ch2.n).seq ((ch7.n).seq ((hb13.n).seq ((ch15.n).seq (ch20.l rfl))))
  replace hbase := hbase.chg C22 (is_nl rfl)
  have C23 : Chg (inl [3]) _ _ _ _ := (hb13.n).seq ((ch15.n).seq (ch20.l rfl))
  replace r_g_v := r_g_v.chg C23 (is_nl rfl)
  replace r_keep_v := r_keep_v.chg C23 (is_nl rfl)
  replace bx5 := (bx5.chg ch15 (not_no _)).chg ch20 (is_ne rfl)
  replace bx10 := bx10.chg C23 (is_nl rfl)
  · exact ⟨hbase, rfl, rfl, rfl, rfl, rfl, r_g_v, r_keep_v, bx5, bx10, bx21, Ow.nil, by omega, by rfl⟩
  clear r_g_v r_keep_v bx5 bx10 bx21 hbase
  rintro ⟨s_1_v, s_1, i, g26⟩ f24 w25 ⟨hbase, zs1, zs2, zs4, zs7, zs8, r_g_v, r_keep_v, bx5, bx10, bx21, o_s_1, hle_i, hinv⟩ back6
  have hlo : s_1.length ≤ i := by rw [hinv]; simp; omega
  refine run_seq (run_seq (run_region rfl ?_))
  refine lv (Value.int .i64 (i : Int)) rfl (e_move (by exact zs8)) ?_
  refine lv (keep_v) rfl (e_move (by exact zs1)) ?_
  have len27 := (r_keep_v).small
  refine lv (Value.int .i64 (List.length keep : Int)) rfl (e_len Try.underlying27 rfl r_keep_v) ?_
  refine lv (Value.bool (decide ((i : Int) < (List.length keep : Int)))) rfl (e_lss (m := (i : Int)) (n := (List.length keep : Int)) rfl rfl) ?_
  refine l_nil ?_
  by_cases p6 : (i : Int) < (List.length keep : Int)
  ·
   refine run_cond_t rfl (decide_eq_true p6) ?_
   obtain ⟨hk1, hk2⟩ := hch.1 _ (gI_mem (xs := keep) (i := (i : Int)) (by omega) (by omega))
   refine run_skip ?_
   refine run_seq ?_
   refine run_block ?_
   refine run_region_x g26 [0, 1, 2, 3, 4, 5, 6, 7, 8, 9, 12] mixed_r ?_
   intro w29 ch28
   refine x_pure (v := Value.pointer (some ⟨b16, 1, none⟩)) 0 rfl (by kernel_rfl) (by kernel_rfl) rfl (fun w => e_fieldAddr Try.underlying24 rfl rfl (by exact zs7) rfl) ?_
   replace bx21 := bx21.chg ch28 (not_no _)
   refine x_held (v := s_1_v) 1 [0, 2, 4, 5, 3, 6, 7, 8, 9, 10] rfl (by kernel_rfl) (by kernel_rfl) rfl (fun w' hw' => e_load_bx1 tp22_r rfl (bx21.bel hw') rfl) ?_
   refine x_pure (v := Value.pointer (some ⟨b3, 1, none⟩)) 2 rfl (by kernel_rfl) (by kernel_rfl) rfl (fun w => e_fieldAddr Try.underlying24 rfl rfl (by exact zs2) rfl) ?_
   replace bx5 := bx5.chg ch28 (not_no _)
   refine x_val (v := g_v) 3 [2, 1, 0, 4, 5, 6, 7] rfl (by kernel_rfl) (by kernel_rfl) rfl (e_load_bx1 tp22_r rfl bx5 rfl) ?_
   refine x_pure (v := keep_v) 4 rfl (by kernel_rfl) (by kernel_rfl) rfl (fun w => e_move (by exact zs1)) ?_
   refine x_pure (v := Value.int .i64 (i : Int)) 5 rfl (by kernel_rfl) (by kernel_rfl) rfl (fun w => e_move (by exact zs8)) ?_
   replace r_keep_v := r_keep_v.chg ch28 (not_no _)
   refine x_val (v := Value.pointer (some (eAddr keep_v 1 (Int.toNat (i : Int))))) 6 [5, 4, 3, 2, 1, 0] rfl (by kernel_rfl) (by kernel_rfl) rfl (e_indexAddr (α := Int) (xs := keep) (v := keep_v) (i := (i : Int)) Try.underlying27 rfl rfl r_keep_v rfl (by omega) (by omega)) ?_
   refine x_val (v := Value.int .i64 (gI keep (i : Int))) 7 [6, 5, 4, 3, 2, 1, 0] rfl (by kernel_rfl) (by kernel_rfl) rfl (e_load_el1 (α := Int) (xs := keep) (v := keep_v) (i := (i : Int)) tp3_r rfl r_keep_v (by omega) (by omega) (by decide) rfl) ?_
   replace r_g_v := r_g_v.chg ch28 (not_no _)
   refine x_val (v := Value.pointer (some (eAddr g_v 2 (Int.toNat (gI keep (i : Int)))))) 8 [7, 6, 5, 4, 3, 2, 1, 0] rfl (by kernel_rfl) (by kernel_rfl) rfl (e_indexAddr (α := (Int) × (Int)) (xs := g.2) (v := g_v) (i := (gI keep (i : Int))) Try.underlying22 rfl rfl r_g_v rfl (by omega) (by omega)) ?_
   refine x_val (v := Value.agg (List.toArray [Value.int .i64 ((gI g.2 (gI keep (i : Int))).1), Value.int .i64 ((gI g.2 (gI keep (i : Int))).2)])) 9 [8, 7, 6, 5, 4, 3, 2, 1, 0] rfl (by kernel_rfl) (by kernel_rfl) rfl (e_load_elN (α := (Int) × (Int)) (xs := g.2) (v := g_v) (i := (gI keep (i : Int))) tp60_r rfl r_g_v (by omega) (by omega) rfl) ?_
   refine x_one 10 rfl (by kernel_rfl) rfl ?_
   refine o_buildSlice (α := (Int) × (Int)) g26 (is 4) (is 4) (4, 0) rfl [(gI g.2 (gI keep (i : Int)))] Try.underlying22 tp60_r (by decide) (by decide) (vs := [(0, Value.agg (List.toArray [Value.int .i64 ((gI g.2 (gI keep (i : Int))).1), Value.int .i64 ((gI g.2 (gI keep (i : Int))).2)]))]) rfl rfl (.cons rfl .nil) ?_
   intro g30 w31 v32 ch33 o34
   refine x_one 11 rfl (by kernel_rfl) rfl ?_
   replace o_s_1 := (o_s_1.chg ch28 (not_no _) (not_no _)).chg ch33 (not_no _) (not_no _)
   refine o_append (α := (Int) × (Int)) (xs := s_1) (ys := ([(gI g.2 (gI keep (i : Int)))])) g30 (J := is 5) (S := is 5) (5, 0) rfl Try.underlying22 tp60_r (by decide) rfl rfl rfl o_s_1 o34.flat (by decide) (by first | omega | (simp; done) | (simp; omega)) ?_
   intro g35 w36 v37 ch38 o39
   clear o_s_1
   refine x_pure (v := Value.pointer (some ⟨b16, 1, none⟩)) 12 rfl (by kernel_rfl) (by kernel_rfl) rfl (fun w => e_fieldAddr Try.underlying24 rfl rfl (by exact zs7) rfl) ?_
   refine x_one 13 rfl (by kernel_rfl) rfl ?_
   replace bx21 := (bx21.chg ch33 (not_no _)).chg ch38 (is_ne rfl)
   refine o_store_bx1 (cs' := [Value.int .i64 g.1, v37]) tp22_r rfl rfl bx21 (sl_cells1 o39.flat) (Nat.le_of_ble_eq_true rfl) (sl_one o39.flat) rfl ?_
   intro w40 ch41 bx42
   clear bx21
   refine x_nil (by kernel_rfl) ?_
   refine run_inBlock ?_
   clear o34
   refine run_region rfl ?_
   refine lv (Value.int .i64 (i : Int)) rfl (e_move (by exact zs8)) ?_
   refine lv (Value.int .i64 ((i : Int) + 1)) rfl (e_add (m := (i : Int)) (n := 1) rfl rfl (by omega)) ?_
   refine lv (Value.int .i64 ((i : Int) + 1)) rfl (e_assign rfl) ?_
   refine l_nil ?_
   have C43 : Chg (inl [3, 5]) _ _ _ _ := (ch28.n).seq ((ch33.n).seq ((ch38.l rfl).seq (ch41.l rfl)))
   replace hbase := hbase.chg C43 (is_nl rfl)
   have C44 : Chg (inl [3, 5]) _ _ _ _ := (ch33.n).seq ((ch38.l rfl).seq (ch41.l rfl))
   replace r_g_v := r_g_v.chg C44 (is_nl rfl)
   replace r_keep_v := r_keep_v.chg C44 (is_nl rfl)
   replace bx5 := bx5.chg C44 (is_nl rfl)
   replace bx10 := bx10.chg C43 (is_nl rfl)
   replace o39 := o39.chg ch41 (is_ne rfl) (is_ne rfl)
   refine back6 (v37, (s_1 ++ [(gI g.2 (gI keep (i : Int)))]), i + 1, g35) _ _ ⟨hbase, (by exact zs1), (by exact zs2), (by exact zs4), (by exact zs7), rfl, r_g_v, r_keep_v, bx5, bx10, bx42, o39, by omega, ?_⟩ ?_
   · show (s_1 ++ [(gI g.2 (gI keep (i : Int)))]) = (List.take (i + 1) keep).map (gI g.2)
     rw [take_succ_gI (by assumption), hinv]; simp
   · show Int.toNat (((List.length keep : Int) : Int) - ((i + 1) : Int)) < Int.toNat (((List.length keep : Int) : Int) - (i : Int))
     omega
  refine run_cond_f rfl (decide_eq_false p6) ?_
  refine run_exit rfl ?_
  refine run_seq ?_
  clear bx5
  refine run_region rfl ?_
  refine lv (Value.agg (List.toArray [Value.int .i64 g.1, s_1_v])) rfl (e_load_bxN (ds := [Value.int .i64 g.1, s_1_v]) tp24_r (by exact zs7) bx21 rfl rfl) ?_
  refine l_op rfl ?_
  refine o_store_bx (cs' := [Value.int .i64 g.1, s_1_v]) tp24_r (by exact zs4) rfl bx10 rfl (Nat.le_of_ble_eq_true rfl) (AllOne.all (.cons rfl (.cons (sl_one o_s_1.flat) .nil))) rfl ?_
  intro w45 ch46 bx47
  clear bx10
  refine lv (Value.int .i64 0) rfl (e_assign rfl) ?_
  refine l_nil ?_
  refine run_ret (vs := [Value.agg (List.toArray [Value.int .i64 g.1, s_1_v]), Value.int .i64 0]) Try.func93 (.cell (by exact zs4) (load_bxN (ds := [Value.int .i64 g.1, s_1_v]) tp24_r bx47 rfl rfl) (.tmp rfl .nil)) ?_
  replace hbase := hbase.chg ch46 (is_ne rfl)
  replace o_s_1 := o_s_1.chg ch46 (is_ne rfl) (is_ne rfl)
  have e0 : ((g.1, s_1) : (Int) × (List ((Int) × (Int)))) = ((subR g keep).1) := by
    first
      | (have hk : List.take i keep = keep := List.take_of_length_le (by omega)
         simp only [subR, if_pos hmay, if_pos p2, hinv, hk]; done)
      | (simp only [subR, if_pos hmay, if_neg p2]; done)
  have e1 : (0 : Int) = ((subR g keep).2) := by
    first
      | (have hk : List.take i keep = keep := List.take_of_length_le (by omega)
         simp only [subR, if_pos hmay, if_pos p2, hinv, hk]; done)
      | (simp only [subR, if_pos hmay, if_neg p2]; done)
  exact ⟨(fin w0 g26 (fun n => if n = 5 then 1 else 0), s_1_v), (congr2 (a := (g.1, s_1)) (b := 0) (fun (z0 : (Int) × (List ((Int) × (Int)))) (z1 : Int) => Ending.returned (Value.tuple (List.toArray [Value.agg (List.toArray [Value.int .i64 z0.1, s_1_v]), Value.int .i64 z1]))) e0 e1), hbase.fresh _, ((congrArg (fun (z : (Int) × (List ((Int) × (Int)))) => z.2) e0) ▸ (o_s_1.glue (γ := c0) (ren := (fun n => if n = 5 then 1 else 0)) (k := 1) hbase.col rfl rfl))⟩
 refine run_cond_t rfl (congrArg Bool.not (decide_eq_false p2)) ?_
 refine run_seq ?_
 clear bx5
 refine run_region rfl ?_
 refine lv (Value.agg (List.toArray [Value.int .i64 0, Value.slice none 0 0])) rfl (e_build (vs := []) rfl (by kernel_rfl)) ?_
 refine lv (Value.int .i64 (chosenS keep (List.length g.2 : Int))) rfl (e_move rfl) ?_
 refine l_op rfl ?_
 replace bx10 := bx10.chg hb13 (not_no _)
 refine o_store_bx (cs' := [Value.int .i64 0, Value.slice none 0 0]) tp24_r rfl rfl bx10 rfl (Nat.le_of_ble_eq_true rfl) (AllOne.all (.cons rfl (.cons rfl .nil))) rfl ?_
 intro w48 ch49 bx50
 clear bx10
 refine lv (Value.int .i64 (chosenS keep (List.length g.2 : Int))) rfl (e_assign rfl) ?_
 refine l_nil ?_
 refine run_ret (vs := [Value.agg (List.toArray [Value.int .i64 0, Value.slice none 0 0]), Value.int .i64 (chosenS keep (List.length g.2 : Int))]) Try.func93 (.cell rfl (load_bxN (ds := [Value.int .i64 0, Value.slice none 0 0]) tp24_r bx50 rfl rfl) (.tmp rfl .nil)) ?_
 have C51 : Chg (inl [2]) _ _ _ _ := (ch2.n).seq ((ch7.n).seq ((hb13.n).seq (ch49.l rfl)))
 replace hbase := hbase.chg C51 (is_nl rfl)
 have e0 : ((0, []) : (Int) × (List ((Int) × (Int)))) = ((subR g keep).1) := by
   first
     | (have hk : List.take i keep = keep := List.take_of_length_le (by omega)
        simp only [subR, if_pos hmay, if_pos p2, hinv, hk]; done)
     | (simp only [subR, if_pos hmay, if_neg p2]; done)
 have e1 : (chosenS keep (List.length g.2 : Int) : Int) = ((subR g keep).2) := by
   first
     | (have hk : List.take i keep = keep := List.take_of_length_le (by omega)
        simp only [subR, if_pos hmay, if_pos p2, hinv, hk]; done)
     | (simp only [subR, if_pos hmay, if_neg p2]; done)
 exact ⟨(fin w0 g9 (fun n => 0), (Value.slice none 0 0)), (congr2 (a := (0, [])) (b := chosenS keep (List.length g.2 : Int)) (fun (z0 : (Int) × (List ((Int) × (Int)))) (z1 : Int) => Ending.returned (Value.tuple (List.toArray [Value.agg (List.toArray [Value.int .i64 z0.1, Value.slice none 0 0]), Value.int .i64 z1]))) e0 e1), hbase.fresh _, ((congrArg (fun (z : (Int) × (List ((Int) × (Int)))) => z.2) e0) ▸ Ow.nil)⟩
end TL
