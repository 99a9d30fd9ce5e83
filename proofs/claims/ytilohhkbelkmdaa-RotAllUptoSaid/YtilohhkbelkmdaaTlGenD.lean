import Derived.Test.YtilohhkbelkmdaaTlGenA
import Derived.Test.YtilohhkbelkmdaaProg
import Derived.Test.YtilohhkbelkmdaaTlP2
set_option linter.all false
set_option maxRecDepth 20000
namespace TL
open Go Go.Proofs
theorem mixed_d : Try.prog.follows .mixedOrders = true := by kernel_rfl
theorem tp3_d : Tp Try.prog 3 false 1 8 (.int .i64 0) := Tp.of (by kernel_rfl)
theorem tp22_d : Tp Try.prog 22 false 1 24 (.slice none 0 0) := Tp.of (by kernel_rfl)
theorem tp24_d : Tp Try.prog 24 true 2 32 (.agg #[.int .i64 0, .slice none 0 0]) := Tp.of (by kernel_rfl)
theorem tp60_d : Tp Try.prog 60 true 2 16 (.agg #[.int .i64 0, .int .i64 0]) := Tp.of (by kernel_rfl)
theorem bd33_d : Try.f33.body.isNone = false := rfl
theorem nm33_d : (Try.f33.name == "runtime.NumGoroutine") = false := by decide +kernel
theorem Twin_ok (w0 : World) (g : (Int) × (List ((Int) × (Int)))) (g_v : Value) (hg_v : Ro w0 g_v g.2) (hlen : g.2.length ≤ 1000000) :
    Calls Try.prog 13 #[Value.agg (List.toArray [Value.int .i64 g.1, g_v])] w0 (fun ee w => ∃ xx : Cmap × Value, ee = .returned ((fun ⟨δ, rv0⟩ => Value.agg (List.toArray [Value.int .i64 g.1, rv0])) xx) ∧ (fun (⟨δ, rv0⟩ : Cmap × Value) (w : World) => Fresh w0 δ w ∧ Ow δ (is 1) (is 1) w (upV rv0) (g.2 ++ [((-7 : Int), (7 : Int))])) xx w) := by
 refine calls_of_run Try.func13 rfl (Nat.le_of_ble_eq_true rfl) ?_
 have hbase := Base.start w0
 have r_g_v := hg_v.sl
 refine run_seq (run_region rfl (l_op rfl ?_))
 refine o_box c0 (is 1) (1, 0) rfl rfl ?_
 intro g4 w1 b3 ch2 bx5
 replace bx5 : Bx g4 (is 1) w1 b3 [Value.int .i64 g.1, g_v] := bx5
 refine l_op rfl ?_
 refine o_alloc g4 (is 2) (2, 0) rfl tp24_d ?_
 intro g9 w6 b8 ch7 bx10
 replace bx10 : Bx g9 (is 2) w6 b8 [Value.int .i64 0, Value.slice none 0 0] := bx10
 refine l_nil (run_seq ?_)
 refine region_midh (σ := Value × Cmap) (fun ⟨v29, gq⟩ f w => Base w0 gq w ∧ f 2 = Value.pointer (some ⟨b8, 0, none⟩) ∧ Sl gq (is 0) w g_v g.2 ∧ Ow gq (is 3) (is 3) w v29 (g.2 ++ [(-7, 7)]) ∧ Sl gq (is 3) w (subV v29 2 (Int.toNat 0) (Int.toNat (List.length g.2 : Int))) (List.drop (Int.toNat 0) (List.take (Int.toNat (List.length g.2 : Int)) (g.2 ++ [(-7, 7)]))) ∧ Bx gq (is 2) w b8 [Value.int .i64 g.1, (subV v29 2 (Int.toNat 0) (Int.toNat (List.length g.2 : Int)))]) g9 (inl [2, 3]) mixed_d ?_ ?_
 ·
  intro mid
  intro w12 ch11
  refine h_take (v := Value.pointer (some ⟨b3, 0, none⟩)) 0 rfl (by kernel_rfl) (by kernel_rfl) rfl (Chg.refl _ _ _) (fun w' hw' => e_fieldAddr Try.underlying24 rfl rfl rfl rfl) ?_
  replace bx5 := (bx5.chg ch7 (not_no _)).chg ch11 (not_no _)
  refine h_take (v := Value.int .i64 g.1) 1 rfl (by kernel_rfl) (by kernel_rfl) rfl (Chg.refl _ _ _) (fun w' hw' => e_load_bx1 tp3_d rfl (bx5.chg hw' (is_nl rfl)) rfl) ?_
  refine h_take (v := Value.pointer (some ⟨b3, 1, none⟩)) 2 rfl (by kernel_rfl) (by kernel_rfl) rfl (Chg.refl _ _ _) (fun w' hw' => e_fieldAddr Try.underlying24 rfl rfl rfl rfl) ?_
  refine h_take (v := g_v) 3 rfl (by kernel_rfl) (by kernel_rfl) rfl (Chg.refl _ _ _) (fun w' hw' => e_load_bx1 tp22_d rfl (bx5.chg hw' (is_nl rfl)) rfl) ?_
  refine h_take (v := Value.agg (List.toArray [Value.int .i64 (-7), Value.int .i64 7])) 5 rfl (by kernel_rfl) (by kernel_rfl) rfl (Chg.refl _ _ _) (fun w' hw' => e_build (vs := [(0, Value.int .i64 (-7)), (1, Value.int .i64 7)]) rfl (by kernel_rfl)) ?_
  refine h_take (v := Value.pointer (some ⟨b3, 1, none⟩)) 8 rfl (by kernel_rfl) (by kernel_rfl) rfl (Chg.refl _ _ _) (fun w' hw' => e_fieldAddr Try.underlying24 rfl rfl rfl rfl) ?_
  refine h_take (v := g_v) 9 rfl (by kernel_rfl) (by kernel_rfl) rfl (Chg.refl _ _ _) (fun w' hw' => e_load_bx1 tp22_d rfl (bx5.chg hw' (is_nl rfl)) rfl) ?_
  have C13 : Chg (inl []) _ _ _ _ := (ch2.n).seq ((ch7.n).seq (ch11.n))
  replace r_g_v := r_g_v.chg C13 (is_nl rfl)
  have len14 := (r_g_v).small
  refine h_take (v := Value.int .i64 (List.length g.2 : Int)) 10 rfl (by kernel_rfl) (by kernel_rfl) rfl (Chg.refl _ _ _) (fun w' hw' => e_len Try.underlying22 rfl r_g_v) ?_
  refine h_many 4 [6] (by kernel_rfl) ⟨h_of 4 rfl (by kernel_rfl) rfl ?_, h_of 6 rfl (by kernel_rfl) rfl ?_, trivial⟩
  ·
   refine o_append (α := (Int) × (Int)) (xs := ([])) (ys := g.2) g9 (J := is 3) (S := is 3) (3, 0) rfl Try.underlying22 tp60_d (by decide) rfl rfl rfl Ow.nil r_g_v (by decide) (by first | omega | (simp; done) | (simp; omega)) ?_
   intro g15 w16 v17 ch18 o19
   replace o19 : Ow g15 (is 3) (is 3) w16 v17 g.2 := o19
   have hs20 : Chg (inl [2, 3]) _ _ _ _ := ch18.l rfl
   refine ⟨hs20.same, ?_⟩
   refine h_one 6 rfl (by kernel_rfl) rfl ?_
   refine o_buildSlice (α := (Int) × (Int)) g15 (is 4) (is 4) (4, 0) rfl [(-7, 7)] Try.underlying22 tp60_d (by decide) (by decide) (vs := [(0, Value.agg (List.toArray [Value.int .i64 (-7), Value.int .i64 7]))]) rfl rfl (.cons rfl .nil) ?_
   intro g21 w22 v23 ch24 o25
   have hs26 := hs20.seq (ch24.n)
   refine ⟨hs26.same, ?_⟩
   refine h_one 7 rfl (by kernel_rfl) rfl ?_
   replace o19 := o19.chg ch24 (not_no _) (not_no _)
   refine o_append (α := (Int) × (Int)) (xs := g.2) (ys := ([(-7, 7)])) g21 (J := is 3) (S := is 3) (3, 0) rfl Try.underlying22 tp60_d (by decide) rfl rfl rfl o19 o25.flat (by decide) (by first | omega | (simp; done) | (simp; omega)) ?_
   intro g27 w28 v29 ch30 o31
   clear o19
   have hs32 := hs26.seq (ch30.l rfl)
   refine ⟨hs32.same, ?_⟩
   refine h_take (v := (subV v29 2 (Int.toNat 0) (Int.toNat (List.length g.2 : Int)))) 11 rfl (by kernel_rfl) (by kernel_rfl) rfl hs32.same (fun w' hw' => e_slice (α := (Int) × (Int)) (xs := (g.2 ++ [(-7, 7)])) (v := v29) (l := 0) (h := (List.length g.2 : Int)) Try.underlying22 rfl rfl o31.flat (.inr ⟨rfl, rfl⟩) (.inl (congrArg some rfl)) (by first | omega | (simp only [List.length_append, List.length_cons, List.length_nil]; omega)) (by first | omega | (simp only [List.length_append, List.length_cons, List.length_nil]; omega)) (by first | omega | (simp only [List.length_append, List.length_cons, List.length_nil]; omega))) ?_
   have r34 := sl_sub o31.flat (show Int.toNat 0 ≤ Int.toNat (List.length g.2 : Int) by first | omega | (simp only [List.length_append, List.length_cons, List.length_nil]; omega)) (show Int.toNat (List.length g.2 : Int) ≤ List.length _ by first | omega | (simp only [List.length_append, List.length_cons, List.length_nil]; omega))
   refine h_take (v := Value.agg (List.toArray [Value.int .i64 g.1, (subV v29 2 (Int.toNat 0) (Int.toNat (List.length g.2 : Int)))])) 12 rfl (by kernel_rfl) (by kernel_rfl) rfl hs32.same (fun w' hw' => e_build (vs := [(0, Value.int .i64 g.1), (1, (subV v29 2 (Int.toNat 0) (Int.toNat (List.length g.2 : Int))))]) rfl (by erw [Sl.form r34]; kernel_rfl)) ?_
   refine h_one 13 rfl (by kernel_rfl) rfl ?_
   have C38 : Chg (inl [3]) _ _ _ _ := (ch11.n).seq ((ch18.l rfl).seq ((ch24.n).seq (ch30.l rfl)))
   replace bx10 := bx10.chg C38 (is_nl rfl)
   refine o_store_bx (cs' := [Value.int .i64 g.1, (subV v29 2 (Int.toNat 0) (Int.toNat (List.length g.2 : Int)))]) tp24_d rfl rfl bx10 rfl (Nat.le_of_ble_eq_true rfl) (AllOne.all (.cons rfl (.cons (sl_one r34) .nil))) rfl ?_
   intro w35 ch36 bx37
   clear bx10
   have hs39 := hs32.seq (ch36.l rfl)
   refine ⟨hs39.same, ?_⟩
   refine h_nil (by kernel_rfl) ?_
   have C40 : Chg (inl [2, 3]) _ _ _ _ := (ch2.n).seq ((ch7.n).seq ((ch11.n).seq ((ch18.l rfl).seq ((ch24.n).seq ((ch30.l rfl).seq (ch36.l rfl))))))
   replace hbase := hbase.chg C40 (is_nl rfl)
   replace o31 := o31.chg ch36 (is_ne rfl) (is_ne rfl)
   replace r34 := r34.chg ch36 (is_ne rfl)
   exact mid (v29, g27) _ _ ⟨hbase, rfl, (r_g_v.chg hs39 (is_nl rfl)), o31, r34, bx37⟩
  ·
   refine o_buildSlice (α := (Int) × (Int)) g9 (is 4) (is 4) (4, 0) rfl [(-7, 7)] Try.underlying22 tp60_d (by decide) (by decide) (vs := [(0, Value.agg (List.toArray [Value.int .i64 (-7), Value.int .i64 7]))]) rfl rfl (.cons rfl .nil) ?_
   intro g41 w42 v43 ch44 o45
   have hs46 : Chg (inl [2, 3]) _ _ _ _ := ch44.n
   refine ⟨hs46.same, ?_⟩
   refine h_one 4 rfl (by kernel_rfl) rfl ?_
   refine o_append (α := (Int) × (Int)) (xs := ([])) (ys := g.2) g41 (J := is 3) (S := is 3) (3, 0) rfl Try.underlying22 tp60_d (by decide) rfl rfl rfl Ow.nil (r_g_v.chg hs46 (is_nl rfl)) (by decide) (by first | omega | (simp; done) | (simp; omega)) ?_
   intro g47 w48 v49 ch50 o51
   replace o51 : Ow g47 (is 3) (is 3) w48 v49 g.2 := o51
   have hs52 := hs46.seq (ch50.l rfl)
   refine ⟨hs52.same, ?_⟩
   refine h_one 7 rfl (by kernel_rfl) rfl ?_
   replace o45 := o45.chg ch50 (is_ne rfl) (is_ne rfl)
   refine o_append (α := (Int) × (Int)) (xs := g.2) (ys := ([(-7, 7)])) g47 (J := is 3) (S := is 3) (3, 0) rfl Try.underlying22 tp60_d (by decide) rfl rfl rfl o51 o45.flat (by decide) (by first | omega | (simp; done) | (simp; omega)) ?_
   intro g53 w54 v55 ch56 o57
   clear o51
   have hs58 := hs52.seq (ch56.l rfl)
   refine ⟨hs58.same, ?_⟩
   refine h_take (v := (subV v55 2 (Int.toNat 0) (Int.toNat (List.length g.2 : Int)))) 11 rfl (by kernel_rfl) (by kernel_rfl) rfl hs58.same (fun w' hw' => e_slice (α := (Int) × (Int)) (xs := (g.2 ++ [(-7, 7)])) (v := v55) (l := 0) (h := (List.length g.2 : Int)) Try.underlying22 rfl rfl o57.flat (.inr ⟨rfl, rfl⟩) (.inl (congrArg some rfl)) (by first | omega | (simp only [List.length_append, List.length_cons, List.length_nil]; omega)) (by first | omega | (simp only [List.length_append, List.length_cons, List.length_nil]; omega)) (by first | omega | (simp only [List.length_append, List.length_cons, List.length_nil]; omega))) ?_
   have r60 := sl_sub o57.flat (show Int.toNat 0 ≤ Int.toNat (List.length g.2 : Int) by first | omega | (simp only [List.length_append, List.length_cons, List.length_nil]; omega)) (show Int.toNat (List.length g.2 : Int) ≤ List.length _ by first | omega | (simp only [List.length_append, List.length_cons, List.length_nil]; omega))
   refine h_take (v := Value.agg (List.toArray [Value.int .i64 g.1, (subV v55 2 (Int.toNat 0) (Int.toNat (List.length g.2 : Int)))])) 12 rfl (by kernel_rfl) (by kernel_rfl) rfl hs58.same (fun w' hw' => e_build (vs := [(0, Value.int .i64 g.1), (1, (subV v55 2 (Int.toNat 0) (Int.toNat (List.length g.2 : Int))))]) rfl (by erw [Sl.form r60]; kernel_rfl)) ?_
   refine h_one 13 rfl (by kernel_rfl) rfl ?_
   have C64 : Chg (inl [3]) _ _ _ _ := (ch11.n).seq ((ch44.n).seq ((ch50.l rfl).seq (ch56.l rfl)))
   replace bx10 := bx10.chg C64 (is_nl rfl)
   refine o_store_bx (cs' := [Value.int .i64 g.1, (subV v55 2 (Int.toNat 0) (Int.toNat (List.length g.2 : Int)))]) tp24_d rfl rfl bx10 rfl (Nat.le_of_ble_eq_true rfl) (AllOne.all (.cons rfl (.cons (sl_one r60) .nil))) rfl ?_
   intro w61 ch62 bx63
   clear bx10
   have hs65 := hs58.seq (ch62.l rfl)
   refine ⟨hs65.same, ?_⟩
   refine h_nil (by kernel_rfl) ?_
   have C66 : Chg (inl [2, 3]) _ _ _ _ := (ch2.n).seq ((ch7.n).seq ((ch11.n).seq ((ch44.n).seq ((ch50.l rfl).seq ((ch56.l rfl).seq (ch62.l rfl))))))
   replace hbase := hbase.chg C66 (is_nl rfl)
   replace o57 := o57.chg ch62 (is_ne rfl) (is_ne rfl)
   replace r60 := r60.chg ch62 (is_ne rfl)
   exact mid (v55, g53) _ _ ⟨hbase, rfl, (r_g_v.chg hs65 (is_nl rfl)), o57, r60, bx63⟩
 clear r_g_v bx5 bx10 hbase
 rintro ⟨v29, g69⟩ f67 w68 ⟨hbase, zs2, r_g_v, o31, r34, bx37⟩
 refine run_ret (vs := [Value.agg (List.toArray [Value.int .i64 g.1, (subV v29 2 (Int.toNat 0) (Int.toNat (List.length g.2 : Int)))])]) Try.func13 (.cell (by exact zs2) (load_bxN (ds := [Value.int .i64 g.1, (subV v29 2 (Int.toNat 0) (Int.toNat (List.length g.2 : Int)))]) tp24_d bx37 rfl rfl) .nil) ?_
 have e0 : ((g.1, (List.drop (Int.toNat 0) (List.take (Int.toNat (List.length g.2 : Int)) (g.2 ++ [(-7, 7)])))) : (Int) × (List ((Int) × (Int)))) = (g) := by
   simp
 exact ⟨(fin w0 g69 (fun n => if n = 3 then 1 else 0), (subV v29 2 (Int.toNat 0) (Int.toNat (List.length g.2 : Int)))), (congrArg (a₁ := (g.1, (List.drop (Int.toNat 0) (List.take (Int.toNat (List.length g.2 : Int)) (g.2 ++ [(-7, 7)]))))) (fun (z0 : (Int) × (List ((Int) × (Int)))) => Ending.returned (Value.agg (List.toArray [Value.int .i64 z0.1, (subV v29 2 (Int.toNat 0) (Int.toNat (List.length g.2 : Int)))]))) e0), hbase.fresh _, (upV_sub (o31.glue (γ := c0) (ren := (fun n => if n = 3 then 1 else 0)) (k := 1) hbase.col rfl rfl) (by simp))⟩
theorem rSame_ok (w0 : World) (a : (Int) × (List ((Int) × (Int)))) (a_v : Value) (ha_v : Ro w0 a_v a.2) (b : (Int) × (List ((Int) × (Int)))) (b_v : Value) (hb_v : Ro w0 b_v b.2) :
    Calls Try.prog 33 #[Value.agg (List.toArray [Value.int .i64 a.1, a_v]), Value.agg (List.toArray [Value.int .i64 b.1, b_v])] w0 (fun ee w => ee = .returned (Value.bool (decide (a = b))) ∧ Bel w0.heap.size w0 w) := by
 refine calls_of_run Try.func33 rfl (Nat.le_of_ble_eq_true rfl) ?_
 have hbase := Base.start w0
 have r_a_v := ha_v.sl
 have r_b_v := hb_v.sl
 refine run_seq (run_region rfl (l_op rfl ?_))
 refine o_box c0 (is 1) (1, 0) rfl rfl ?_
 intro g4 w1 b3 ch2 bx5
 replace bx5 : Bx g4 (is 1) w1 b3 [Value.int .i64 a.1, a_v] := bx5
 refine l_op rfl ?_
 refine o_box g4 (is 2) (2, 0) rfl rfl ?_
 intro g9 w6 b8 ch7 bx10
 replace bx10 : Bx g9 (is 2) w6 b8 [Value.int .i64 b.1, b_v] := bx10
 refine lv (Value.bool false) rfl (e_assign rfl) ?_
 refine l_nil (run_seq (run_seq (run_region rfl ?_)))
 refine lv (Value.pointer (some ⟨b3, 0, none⟩)) rfl (e_fieldAddr Try.underlying24 rfl rfl rfl rfl) ?_
 replace bx5 := bx5.chg ch7 (not_no _)
 refine lv (Value.int .i64 a.1) rfl (e_load_bx1 tp3_d rfl bx5 rfl) ?_
 refine lv (Value.pointer (some ⟨b8, 0, none⟩)) rfl (e_fieldAddr Try.underlying24 rfl rfl rfl rfl) ?_
 refine lv (Value.int .i64 b.1) rfl (e_load_bx1 tp3_d rfl bx10 rfl) ?_
 refine lv (Value.bool (!(decide (a.1 = b.1)))) rfl (e_neq (m := a.1) (n := b.1) rfl rfl) ?_
 refine lv (Value.bool (!(decide (a.1 = b.1)))) rfl (e_move rfl) ?_
 by_cases q11 : a.1 = b.1
 ·
  refine lv (Value.pointer (some ⟨b3, 1, none⟩)) (want_y rfl rfl rfl (congrArg Bool.not (decide_eq_true q11))) (e_fieldAddr Try.underlying24 rfl rfl rfl rfl) ?_
  refine lv (a_v) (want_y rfl rfl rfl (congrArg Bool.not (decide_eq_true q11))) (e_load_bx1 tp22_d rfl bx5 rfl) ?_
  replace r_a_v := (r_a_v.chg ch2 (not_no _)).chg ch7 (not_no _)
  have len11 := (r_a_v).small
  refine lv (Value.int .i64 (List.length a.2 : Int)) (want_y rfl rfl rfl (congrArg Bool.not (decide_eq_true q11))) (e_len Try.underlying22 rfl r_a_v) ?_
  refine lv (Value.pointer (some ⟨b8, 1, none⟩)) (want_y rfl rfl rfl (congrArg Bool.not (decide_eq_true q11))) (e_fieldAddr Try.underlying24 rfl rfl rfl rfl) ?_
  refine lv (b_v) (want_y rfl rfl rfl (congrArg Bool.not (decide_eq_true q11))) (e_load_bx1 tp22_d rfl bx10 rfl) ?_
  replace r_b_v := (r_b_v.chg ch2 (not_no _)).chg ch7 (not_no _)
  have len12 := (r_b_v).small
  refine lv (Value.int .i64 (List.length b.2 : Int)) (want_y rfl rfl rfl (congrArg Bool.not (decide_eq_true q11))) (e_len Try.underlying22 rfl r_b_v) ?_
  refine lv (Value.bool (!(decide ((List.length a.2 : Int) = (List.length b.2 : Int))))) (want_y rfl rfl rfl (congrArg Bool.not (decide_eq_true q11))) (e_neq (m := (List.length a.2 : Int)) (n := (List.length b.2 : Int)) rfl rfl) ?_
  refine lv (Value.bool (!(decide ((List.length a.2 : Int) = (List.length b.2 : Int))))) rfl (e_pick_f rfl (congrArg Bool.not (decide_eq_true q11)) rfl) ?_
  refine l_nil ?_
  by_cases p1 : (List.length a.2 : Int) = (List.length b.2 : Int)
  ·
   refine run_cond_f rfl (congrArg Bool.not (decide_eq_true p1)) ?_
   refine run_skip ?_
   refine run_seq (run_seq (run_region rfl ?_))
   refine lv (Value.int .i64 0) rfl (e_assign rfl) ?_
   refine l_nil ?_
   refine run_block ?_
   refine run_loop (σ := Nat × Cmap) (fun ⟨k, gq⟩ f w => Base w0 gq w ∧ f 2 = Value.pointer (some ⟨b3, 0, none⟩) ∧ f 3 = Value.pointer (some ⟨b8, 0, none⟩) ∧ f 5 = Value.int .i64 (k : Int) ∧ Sl gq (is 0) w a_v a.2 ∧ Sl gq (is 0) w b_v b.2 ∧ Bx gq (is 1) w b3 [Value.int .i64 a.1, a_v] ∧ Bx gq (is 2) w b8 [Value.int .i64 b.1, b_v] ∧ (k : Int) ≤ ((List.length a.2 : Int) : Int) ∧ (List.take k a.2 = List.take k b.2)) (fun ⟨k, gq⟩ => Int.toNat (((List.length a.2 : Int) : Int) - (k : Int))) (0, g9) ?_ ?_
   replace hbase := hbase.chg ch2 (not_no _)
   replace hbase := hbase.chg ch7 (not_no _)
   · exact ⟨hbase, rfl, rfl, rfl, r_a_v, r_b_v, bx5, bx10, by omega, by simp⟩
   clear r_a_v r_b_v bx5 bx10 hbase
   rintro ⟨k, g15⟩ f13 w14 ⟨hbase, zs2, zs3, zs5, r_a_v, r_b_v, bx5, bx10, hle_k, hinv⟩ back4
   refine run_seq (run_seq (run_region rfl ?_))
   refine lv (Value.int .i64 (k : Int)) rfl (e_move (by exact zs5)) ?_
   refine lv (Value.pointer (some ⟨b3, 1, none⟩)) rfl (e_fieldAddr Try.underlying24 rfl rfl (by exact zs2) rfl) ?_
   refine lv (a_v) rfl (e_load_bx1 tp22_d rfl bx5 rfl) ?_
   refine lv (Value.int .i64 (List.length a.2 : Int)) rfl (e_len Try.underlying22 rfl r_a_v) ?_
   refine lv (Value.bool (decide ((k : Int) < (List.length a.2 : Int)))) rfl (e_lss (m := (k : Int)) (n := (List.length a.2 : Int)) rfl rfl) ?_
   refine l_nil ?_
   by_cases p4 : (k : Int) < (List.length a.2 : Int)
   ·
    refine run_cond_t rfl (decide_eq_true p4) ?_
    refine run_skip ?_
    refine run_seq ?_
    refine run_block ?_
    refine run_seq ?_
    refine region_q g15 rfl mixed_d (by kernel_rfl) ?_
    intro w17 ch16
    refine q_val (v := Value.pointer (some ⟨b3, 1, none⟩)) rfl (fun w' hw' => e_fieldAddr Try.underlying24 rfl rfl (by exact zs2) rfl) ?_
    replace bx5 := bx5.chg ch16 (not_no _)
    refine q_val (v := a_v) rfl (fun w' hw' => e_load_bx1 tp22_d rfl (bx5.bel hw') rfl) ?_
    refine q_val (v := Value.int .i64 (k : Int)) rfl (fun w' hw' => e_move (by exact zs5)) ?_
    replace r_a_v := r_a_v.chg ch16 (not_no _)
    refine q_val (v := Value.pointer (some (eAddr a_v 2 (Int.toNat (k : Int))))) rfl (fun w' hw' => e_indexAddr (α := (Int) × (Int)) (xs := a.2) (v := a_v) (i := (k : Int)) Try.underlying22 rfl rfl (r_a_v.bel hw') rfl (by omega) (by omega)) ?_
    refine q_val (v := Value.agg (List.toArray [Value.int .i64 ((gI a.2 (k : Int)).1), Value.int .i64 ((gI a.2 (k : Int)).2)])) rfl (fun w' hw' => e_load_elN (α := (Int) × (Int)) (xs := a.2) (v := a_v) (i := (k : Int)) tp60_d rfl (r_a_v.bel hw') (by omega) (by omega) rfl) ?_
    refine q_val (v := Value.pointer (some ⟨b8, 1, none⟩)) rfl (fun w' hw' => e_fieldAddr Try.underlying24 rfl rfl (by exact zs3) rfl) ?_
    replace bx10 := bx10.chg ch16 (not_no _)
    refine q_val (v := b_v) rfl (fun w' hw' => e_load_bx1 tp22_d rfl (bx10.bel hw') rfl) ?_
    refine q_val (v := Value.int .i64 (k : Int)) rfl (fun w' hw' => e_move (by exact zs5)) ?_
    replace r_b_v := r_b_v.chg ch16 (not_no _)
    refine q_val (v := Value.pointer (some (eAddr b_v 2 (Int.toNat (k : Int))))) rfl (fun w' hw' => e_indexAddr (α := (Int) × (Int)) (xs := b.2) (v := b_v) (i := (k : Int)) Try.underlying22 rfl rfl (r_b_v.bel hw') rfl (by omega) (by omega)) ?_
    refine q_val (v := Value.agg (List.toArray [Value.int .i64 ((gI b.2 (k : Int)).1), Value.int .i64 ((gI b.2 (k : Int)).2)])) rfl (fun w' hw' => e_load_elN (α := (Int) × (Int)) (xs := b.2) (v := b_v) (i := (k : Int)) tp60_d rfl (r_b_v.bel hw') (by omega) (by omega) rfl) ?_
    refine q_val (v := Value.bool (!(decide ((gI a.2 (k : Int)) = (gI b.2 (k : Int)))))) rfl (fun w' hw' => e_neq_pair (a := (gI a.2 (k : Int))) (b := (gI b.2 (k : Int))) Try.underlying60 Try.underlying3 tp3_d (by kernel_rfl) rfl rfl) ?_
    refine q_nil ?_
    intro w18 hc19
    replace hc19 := chg_below hc19 g15
    by_cases p6 : (gI a.2 (k : Int)) = (gI b.2 (k : Int))
    ·
     refine run_cond_f rfl (congrArg Bool.not (decide_eq_true p6)) ?_
     refine run_skip ?_
     refine run_inBlock ?_
     refine run_region rfl ?_
     refine lv (Value.int .i64 (k : Int)) rfl (e_move (by exact zs5)) ?_
     refine lv (Value.int .i64 ((k : Int) + 1)) rfl (e_add (m := (k : Int)) (n := 1) rfl rfl (by omega)) ?_
     refine lv (Value.int .i64 ((k : Int) + 1)) rfl (e_assign rfl) ?_
     refine l_nil ?_
     replace hbase := hbase.chg ch16 (not_no _)
     replace hbase := hbase.chg hc19 (not_no _)
     replace r_a_v := r_a_v.chg hc19 (not_no _)
     replace r_b_v := r_b_v.chg hc19 (not_no _)
     replace bx5 := bx5.chg hc19 (not_no _)
     replace bx10 := bx10.chg hc19 (not_no _)
     refine back4 (k + 1, g15) _ _ ⟨hbase, (by exact zs2), (by exact zs3), rfl, r_a_v, r_b_v, bx5, bx10, by omega, ?_⟩ ?_
     · show List.take (k + 1) a.2 = List.take (k + 1) b.2
       rw [take_succ_gI (by assumption), take_succ_gI (by omega), hinv]; simp_all
     · show Int.toNat (((List.length a.2 : Int) : Int) - ((k + 1) : Int)) < Int.toNat (((List.length a.2 : Int) : Int) - (k : Int))
       omega
    refine run_cond_t rfl (congrArg Bool.not (decide_eq_false p6)) ?_
    refine run_seq ?_
    clear bx5 bx10
    refine run_region rfl ?_
    refine lv (Value.bool false) rfl (e_assign rfl) ?_
    refine l_nil ?_
    refine run_ret (vs := [Value.bool false]) Try.func33 (.tmp rfl .nil) ?_
    have e0 : (false : Bool) = (decide (a = b)) := by
      first
        | (have e := hinv; rw [List.take_of_length_le (by omega), List.take_of_length_le (by omega)] at e; exact (decide_eq_true (Prod.ext (by assumption) e)).symm)
        | (refine (decide_eq_false fun h => ?_).symm; subst h; simp_all; done)
        | (refine (decide_eq_false fun h => ?_).symm; subst h; omega)
    replace hbase := hbase.chg ch16 (not_no _)
    replace hbase := hbase.chg hc19 (not_no _)
    exact ⟨(congrArg (a₁ := false) (fun (z0 : Bool) => Ending.returned (Value.bool z0)) e0), hbase.below⟩
   refine run_cond_f rfl (decide_eq_false p4) ?_
   refine run_exit rfl ?_
   refine run_seq ?_
   clear bx5 bx10
   refine run_region rfl ?_
   refine lv (Value.bool true) rfl (e_assign rfl) ?_
   refine l_nil ?_
   refine run_ret (vs := [Value.bool true]) Try.func33 (.tmp rfl .nil) ?_
   have e0 : (true : Bool) = (decide (a = b)) := by
     first
       | (have e := hinv; rw [List.take_of_length_le (by omega), List.take_of_length_le (by omega)] at e; exact (decide_eq_true (Prod.ext (by assumption) e)).symm)
       | (refine (decide_eq_false fun h => ?_).symm; subst h; simp_all; done)
       | (refine (decide_eq_false fun h => ?_).symm; subst h; omega)
   exact ⟨(congrArg (a₁ := true) (fun (z0 : Bool) => Ending.returned (Value.bool z0)) e0), hbase.below⟩
  refine run_cond_t rfl (congrArg Bool.not (decide_eq_false p1)) ?_
  refine run_seq ?_
  clear bx5 bx10
  refine run_region rfl ?_
  refine lv (Value.bool false) rfl (e_assign rfl) ?_
  refine l_nil ?_
  refine run_ret (vs := [Value.bool false]) Try.func33 (.tmp rfl .nil) ?_
  have e0 : (false : Bool) = (decide (a = b)) := by
    first
      | (have e := hinv; rw [List.take_of_length_le (by omega), List.take_of_length_le (by omega)] at e; exact (decide_eq_true (Prod.ext (by assumption) e)).symm)
      | (refine (decide_eq_false fun h => ?_).symm; subst h; simp_all; done)
      | (refine (decide_eq_false fun h => ?_).symm; subst h; omega)
  replace hbase := hbase.chg ch2 (not_no _)
  replace hbase := hbase.chg ch7 (not_no _)
  exact ⟨(congrArg (a₁ := false) (fun (z0 : Bool) => Ending.returned (Value.bool z0)) e0), hbase.below⟩
 refine l_skip (want_n rfl rfl rfl (congrArg Bool.not (decide_eq_false q11))) ?_
 refine l_skip (want_n rfl rfl rfl (congrArg Bool.not (decide_eq_false q11))) ?_
 refine l_skip (want_n rfl rfl rfl (congrArg Bool.not (decide_eq_false q11))) ?_
 refine l_skip (want_n rfl rfl rfl (congrArg Bool.not (decide_eq_false q11))) ?_
 refine l_skip (want_n rfl rfl rfl (congrArg Bool.not (decide_eq_false q11))) ?_
 refine l_skip (want_n rfl rfl rfl (congrArg Bool.not (decide_eq_false q11))) ?_
 refine l_skip (want_n rfl rfl rfl (congrArg Bool.not (decide_eq_false q11))) ?_
 refine lv (Value.bool true) rfl (e_pick_t rfl (congrArg Bool.not (decide_eq_false q11)) rfl) ?_
 refine l_nil ?_
 refine run_cond_t rfl rfl ?_
 refine run_seq ?_
 clear bx5 bx10
 refine run_region rfl ?_
 refine lv (Value.bool false) rfl (e_assign rfl) ?_
 refine l_nil ?_
 refine run_ret (vs := [Value.bool false]) Try.func33 (.tmp rfl .nil) ?_
 have e0 : (false : Bool) = (decide (a = b)) := by
   first
     | (have e := hinv; rw [List.take_of_length_le (by omega), List.take_of_length_le (by omega)] at e; exact (decide_eq_true (Prod.ext (by assumption) e)).symm)
     | (refine (decide_eq_false fun h => ?_).symm; subst h; simp_all; done)
     | (refine (decide_eq_false fun h => ?_).symm; subst h; omega)
 replace hbase := hbase.chg ch2 (not_no _)
 replace hbase := hbase.chg ch7 (not_no _)
 exact ⟨(congrArg (a₁ := false) (fun (z0 : Bool) => Ending.returned (Value.bool z0)) e0), hbase.below⟩
theorem Kept_ok (w0 : World) (t : (Int) × (List ((Int) × (Int)))) (t_v : Value) (ht_v : Ro w0 t_v t.2) (g : (Int) × (List ((Int) × (Int)))) (g_v : Value) (hg_v : Ro w0 g_v g.2) (hmark : Ro w0 (upV t_v) (t.2 ++ [((-7 : Int), (7 : Int))])) :
    Calls Try.prog 18 #[Value.agg (List.toArray [Value.int .i64 t.1, t_v]), Value.agg (List.toArray [Value.int .i64 g.1, g_v])] w0 (fun ee w => ee = .returned (Value.bool (decide (t = g))) ∧ Bel w0.heap.size w0 w) := by
 refine calls_of_run Try.func18 rfl (Nat.le_of_ble_eq_true rfl) ?_
 have hbase := Base.start w0
 have r_t_v := ht_v.sl
 have r_g_v := hg_v.sl
 have r_up := hmark.sl
 refine run_seq (run_region rfl (l_op rfl ?_))
 refine o_box c0 (is 1) (1, 0) rfl rfl ?_
 intro g4 w1 b3 ch2 bx5
 replace bx5 : Bx g4 (is 1) w1 b3 [Value.int .i64 t.1, t_v] := bx5
 refine l_op rfl ?_
 refine o_box g4 (is 2) (2, 0) rfl rfl ?_
 intro g9 w6 b8 ch7 bx10
 replace bx10 : Bx g9 (is 2) w6 b8 [Value.int .i64 g.1, g_v] := bx10
 refine lv (Value.bool false) rfl (e_assign rfl) ?_
 refine l_nil (run_seq ?_)
 refine region_q g9 rfl mixed_d (by kernel_rfl) ?_
 intro w12 ch11
 replace bx5 := (bx5.chg ch7 (not_no _)).chg ch11 (not_no _)
 refine q_val (v := Value.agg (List.toArray [Value.int .i64 t.1, t_v])) rfl (fun w' hw' => e_load_bxN (ds := [Value.int .i64 t.1, t_v]) tp24_d rfl (bx5.bel hw') rfl rfl) ?_
 replace bx10 := bx10.chg ch11 (not_no _)
 refine q_val (v := Value.agg (List.toArray [Value.int .i64 g.1, g_v])) rfl (fun w' hw' => e_load_bxN (ds := [Value.int .i64 g.1, g_v]) tp24_d rfl (bx10.bel hw') rfl rfl) ?_
 have C13 : Chg (inl []) _ _ _ _ := (ch2.n).seq ((ch7.n).seq (ch11.n))
 replace r_t_v := r_t_v.chg C13 (is_nl rfl)
 replace r_g_v := r_g_v.chg C13 (is_nl rfl)
 refine q_call (v := Value.bool (decide (t = g))) rfl (fun w' hw' => e_call (vals := [Value.agg (List.toArray [Value.int .i64 t.1, t_v]), Value.agg (List.toArray [Value.int .i64 g.1, g_v])]) Try.func33 bd33_d nm33_d rfl) (fun w' hw' => (rSame_ok w' t t_v ((r_t_v.bel hw')).ro g g_v ((r_g_v.bel hw')).ro).mono fun e w2 h2 => ⟨h2.1, hw'.trans (h2.2.mono hw'.size)⟩) ?_
 refine q_val (v := Value.bool (decide (t = g))) rfl (fun w' hw' => e_move rfl) ?_
 by_cases q8 : (decide (t = g)) = true
 ·
  refine q_val (v := Value.pointer (some ⟨b3, 1, none⟩)) (want_y rfl rfl rfl q8) (fun w' hw' => e_fieldAddr Try.underlying24 rfl rfl rfl rfl) ?_
  refine q_val (v := t_v) (want_y rfl rfl rfl q8) (fun w' hw' => e_load_bx1 tp22_d rfl (bx5.bel hw') rfl) ?_
  refine q_val (v := Value.pointer (some ⟨b8, 1, none⟩)) (want_y rfl rfl rfl q8) (fun w' hw' => e_fieldAddr Try.underlying24 rfl rfl rfl rfl) ?_
  refine q_val (v := g_v) (want_y rfl rfl rfl q8) (fun w' hw' => e_load_bx1 tp22_d rfl (bx10.bel hw') rfl) ?_
  have len14 := (r_g_v).small
  refine q_val (v := Value.int .i64 (List.length g.2 : Int)) (want_y rfl rfl rfl q8) (fun w' hw' => e_len Try.underlying22 rfl (r_g_v.bel hw')) ?_
  refine q_val (v := Value.int .i64 ((List.length g.2 : Int) + 1)) (want_y rfl rfl rfl q8) (fun w' hw' => e_add (m := (List.length g.2 : Int)) (n := 1) rfl rfl (by omega)) ?_
  replace r_up := r_up.chg C13 (is_nl rfl)
  refine q_val (v := (upV t_v)) (want_y rfl rfl rfl q8) (fun w' hw' => e_slice_up (α := Int × Int) Try.underlying22 rfl rfl (r_up.bel hw') rfl (by rw [show t.2.length = g.2.length from congrArg (fun z => z.2.length) (of_decide_eq_true q8)])) ?_
  refine q_val (v := Value.pointer (some ⟨b8, 1, none⟩)) (want_y rfl rfl rfl q8) (fun w' hw' => e_fieldAddr Try.underlying24 rfl rfl rfl rfl) ?_
  refine q_val (v := g_v) (want_y rfl rfl rfl q8) (fun w' hw' => e_load_bx1 tp22_d rfl (bx10.bel hw') rfl) ?_
  refine q_val (v := Value.int .i64 (List.length g.2 : Int)) (want_y rfl rfl rfl q8) (fun w' hw' => e_len Try.underlying22 rfl (r_g_v.bel hw')) ?_
  refine q_val (v := Value.pointer (some (eAddr (upV t_v) 2 (Int.toNat (List.length g.2 : Int))))) (want_y rfl rfl rfl q8) (fun w' hw' => e_indexAddr (α := (Int) × (Int)) (xs := t.2 ++ [((-7 : Int), (7 : Int))]) (v := (upV t_v)) (i := (List.length g.2 : Int)) Try.underlying22 rfl rfl (r_up.bel hw') rfl (by (have hl : t.2.length = g.2.length := congrArg (fun z => z.2.length) (of_decide_eq_true q8)); first | omega | (simp only [List.length_append, List.length_cons, List.length_nil]; omega)) (by (have hl : t.2.length = g.2.length := congrArg (fun z => z.2.length) (of_decide_eq_true q8)); first | omega | (simp only [List.length_append, List.length_cons, List.length_nil]; omega))) ?_
  refine q_val (v := Value.agg (List.toArray [Value.int .i64 ((gI (t.2 ++ [((-7 : Int), (7 : Int))]) (List.length g.2 : Int)).1), Value.int .i64 ((gI (t.2 ++ [((-7 : Int), (7 : Int))]) (List.length g.2 : Int)).2)])) (want_y rfl rfl rfl q8) (fun w' hw' => e_load_elN (α := (Int) × (Int)) (xs := t.2 ++ [((-7 : Int), (7 : Int))]) (v := (upV t_v)) (i := (List.length g.2 : Int)) tp60_d rfl (r_up.bel hw') (by (have hl : t.2.length = g.2.length := congrArg (fun z => z.2.length) (of_decide_eq_true q8)); first | omega | (simp only [List.length_append, List.length_cons, List.length_nil]; omega)) (by (have hl : t.2.length = g.2.length := congrArg (fun z => z.2.length) (of_decide_eq_true q8)); first | omega | (simp only [List.length_append, List.length_cons, List.length_nil]; omega)) rfl) ?_
  refine q_val (v := Value.agg (List.toArray [Value.int .i64 (-7), Value.int .i64 7])) (want_y rfl rfl rfl q8) (fun w' hw' => e_build (vs := [(0, Value.int .i64 (-7)), (1, Value.int .i64 7)]) rfl (by kernel_rfl)) ?_
  refine q_val (v := Value.bool (decide ((gI (t.2 ++ [((-7 : Int), (7 : Int))]) (List.length g.2 : Int)) = (-7, 7)))) (want_y rfl rfl rfl q8) (fun w' hw' => e_eql_pair (a := (gI (t.2 ++ [((-7 : Int), (7 : Int))]) (List.length g.2 : Int))) (b := (-7, 7)) Try.underlying60 Try.underlying3 tp3_d (by kernel_rfl) rfl rfl) ?_
  refine q_val (v := Value.bool (decide ((gI (t.2 ++ [((-7 : Int), (7 : Int))]) (List.length g.2 : Int)) = (-7, 7)))) rfl (fun w' hw' => e_pick_t rfl q8 rfl) ?_
  refine q_val (v := Value.bool (decide ((gI (t.2 ++ [((-7 : Int), (7 : Int))]) (List.length g.2 : Int)) = (-7, 7)))) rfl (fun w' hw' => e_assign rfl) ?_
  refine q_nil ?_
  intro w15 hc16
  replace hc16 := chg_below hc16 g9
  refine run_ret (vs := [Value.bool (decide ((gI (t.2 ++ [((-7 : Int), (7 : Int))]) (List.length g.2 : Int)) = (-7, 7)))]) Try.func18 (.tmp rfl .nil) ?_
  have e0 : (decide ((gI (t.2 ++ [((-7 : Int), (7 : Int))]) (List.length g.2 : Int)) = (-7, 7)) : Bool) = (decide (t = g)) := by
    first
      | (have hh := of_decide_eq_true q8
         subst hh
         simp [gI]; done)
      | (rw [Bool.eq_false_iff] at q8; simp_all; done)
      | simp_all
  have C17 : Chg (inl []) _ _ _ _ := (ch2.n).seq ((ch7.n).seq ((ch11.n).seq (hc16.n)))
  replace hbase := hbase.chg C17 (is_nl rfl)
  exact ⟨(congrArg (a₁ := decide ((gI (t.2 ++ [((-7 : Int), (7 : Int))]) (List.length g.2 : Int)) = (-7, 7))) (fun (z0 : Bool) => Ending.returned (Value.bool z0)) e0), hbase.below⟩
 refine q_skip (want_n rfl rfl rfl (Bool.eq_false_iff.2 q8)) ?_
 refine q_skip (want_n rfl rfl rfl (Bool.eq_false_iff.2 q8)) ?_
 refine q_skip (want_n rfl rfl rfl (Bool.eq_false_iff.2 q8)) ?_
 refine q_skip (want_n rfl rfl rfl (Bool.eq_false_iff.2 q8)) ?_
 refine q_skip (want_n rfl rfl rfl (Bool.eq_false_iff.2 q8)) ?_
 refine q_skip (want_n rfl rfl rfl (Bool.eq_false_iff.2 q8)) ?_
 refine q_skip (want_n rfl rfl rfl (Bool.eq_false_iff.2 q8)) ?_
 refine q_skip (want_n rfl rfl rfl (Bool.eq_false_iff.2 q8)) ?_
 refine q_skip (want_n rfl rfl rfl (Bool.eq_false_iff.2 q8)) ?_
 refine q_skip (want_n rfl rfl rfl (Bool.eq_false_iff.2 q8)) ?_
 refine q_skip (want_n rfl rfl rfl (Bool.eq_false_iff.2 q8)) ?_
 refine q_skip (want_n rfl rfl rfl (Bool.eq_false_iff.2 q8)) ?_
 refine q_skip (want_n rfl rfl rfl (Bool.eq_false_iff.2 q8)) ?_
 refine q_skip (want_n rfl rfl rfl (Bool.eq_false_iff.2 q8)) ?_
 refine q_val (v := Value.bool false) rfl (fun w' hw' => e_pick_f rfl (Bool.eq_false_iff.2 q8) rfl) ?_
 refine q_val (v := Value.bool false) rfl (fun w' hw' => e_assign rfl) ?_
 refine q_nil ?_
 intro w18 hc19
 replace hc19 := chg_below hc19 g9
 refine run_ret (vs := [Value.bool false]) Try.func18 (.tmp rfl .nil) ?_
 have e0 : (false : Bool) = (decide (t = g)) := by
   first
     | (have hh := of_decide_eq_true q8
        subst hh
        simp [gI]; done)
     | (rw [Bool.eq_false_iff] at q8; simp_all; done)
     | simp_all
 have C20 : Chg (inl []) _ _ _ _ := (ch2.n).seq ((ch7.n).seq ((ch11.n).seq (hc19.n)))
 replace hbase := hbase.chg C20 (is_nl rfl)
 exact ⟨(congrArg (a₁ := false) (fun (z0 : Bool) => Ending.returned (Value.bool z0)) e0), hbase.below⟩
end TL
