import Derived.Test.YtklfjhklnlpdgaaTlGenA
import Derived.Test.YtklfjhklnlpdgaaProg
import Derived.Test.YtklfjhklnlpdgaaTlNet2
import Derived.Test.YtklfjhklnlpdgaaTlMark
import Derived.Test.YtklfjhklnlpdgaaTlDraw
import Derived.Test.YtklfjhklnlpdgaaTlMap
set_option linter.all false
set_option maxRecDepth 20000
namespace TL
open Go Go.Proofs
theorem mixed_d : Try.prog.follows .mixedOrders = true := by kernel_rfl
theorem tp3_d : Tp Try.prog 3 false 1 8 (.int .i64 0) := Tp.of (by kernel_rfl)
theorem tp22_d : Tp Try.prog 22 false 1 24 (.slice none 0 0) := Tp.of (by kernel_rfl)
theorem tp24_d : Tp Try.prog 24 true 2 32 (.agg #[.int .i64 0, .slice none 0 0]) := Tp.of (by kernel_rfl)
theorem tp60_d : Tp Try.prog 60 true 2 16 (.agg #[.int .i64 0, .int .i64 0]) := Tp.of (by kernel_rfl)
theorem bd19_d : Try.f19.body.isNone = false := rfl
theorem nm19_d : (Try.f19.name == "runtime.NumGoroutine") = false := by decide +kernel

theorem Twin_ok (w0 : World) (g : (Int) × (List ((Int) × (Int)))) (g_v : Value) (hg_v : Ro w0 g_v g.2) (hlen : g.2.length ≤ 1000000) :
    Calls Try.prog 16 #[Value.agg (List.toArray [Value.int .i64 g.1, g_v])] w0 (fun ee w => ∃ xx : Cmap × Value, ee = .returned ((fun ⟨δ, rv0⟩ => Value.agg (List.toArray [Value.int .i64 g.1, rv0])) xx) ∧ (fun (⟨δ, rv0⟩ : Cmap × Value) (w : World) => Fresh w0 δ w ∧ Ow δ (is 1) (is 1) w (upV rv0) (g.2 ++ [((-7 : Int), (7 : Int))])) xx w) := by
  refine calls_of_run Try.func16 rfl (Nat.le_of_ble_eq_true rfl) ?_
  have hbase := Base.start w0
  have r_g_v := hg_v.sl
  refine run_seq ?_
  refine run_region rfl ?_
  refine l_op rfl ?_
  refine o_box c0 (is 1) (1, 0) rfl rfl ?_
  intro g4 w1 b3 ch2 bx5
  replace hbase := hbase.chg ch2 (not_no _)
  replace r_g_v := r_g_v.chg ch2 (not_no _)
  replace bx5 : Bx g4 (is 1) w1 b3 [Value.int .i64 g.1, g_v] := bx5
  refine l_op rfl ?_
  refine o_alloc g4 (is 2) (2, 0) rfl tp24_d ?_
  intro g9 w6 b8 ch7 bx10
  replace hbase := hbase.chg ch7 (not_no _)
  replace r_g_v := r_g_v.chg ch7 (not_no _)
  replace bx5 := bx5.chg ch7 (not_no _)
  replace bx10 : Bx g9 (is 2) w6 b8 [Value.int .i64 0, Value.slice none 0 0] := bx10
  refine l_nil ?_
  refine run_seq ?_
  refine run_region_x g9 [0, 2, 3, 5, 8, 10, 11, 12] mixed_d ?_
  intro w12 ch11
  replace hbase := hbase.chg ch11 (not_no _)
  replace r_g_v := r_g_v.chg ch11 (not_no _)
  replace bx5 := bx5.chg ch11 (not_no _)
  replace bx10 := bx10.chg ch11 (not_no _)
  refine x_pure (v := Value.pointer (some ⟨b3, 0, none⟩)) 0 rfl (by kernel_rfl) (by kernel_rfl) rfl (fun w => e_fieldAddr Try.underlying24 rfl rfl rfl rfl) ?_
  refine x_pure (v := Value.pointer (some ⟨b3, 1, none⟩)) 2 rfl (by kernel_rfl) (by kernel_rfl) rfl (fun w => e_fieldAddr Try.underlying24 rfl rfl rfl rfl) ?_
  refine x_held (v := g_v) 3 [2, 0, 1, 5, 8, 6, 9, 10] rfl (by kernel_rfl) (by kernel_rfl) rfl (fun w' hw' => e_load_bx1 tp22_d rfl (bx5.bel hw') rfl) ?_
  refine x_pure (v := Value.agg (List.toArray [Value.int .i64 (-7), Value.int .i64 7])) 5 rfl (by kernel_rfl) (by kernel_rfl) rfl (fun w => e_build (vs := [(0, Value.int .i64 (-7)), (1, Value.int .i64 7)]) rfl (by kernel_rfl)) ?_
  refine x_pure (v := Value.pointer (some ⟨b3, 1, none⟩)) 8 rfl (by kernel_rfl) (by kernel_rfl) rfl (fun w => e_fieldAddr Try.underlying24 rfl rfl rfl rfl) ?_
  refine x_many 1 [4, 6, 9] (by kernel_rfl) ⟨x_of 1 rfl (by kernel_rfl) rfl ?_, x_of 4 rfl (by kernel_rfl) rfl ?_, x_of 6 rfl (by kernel_rfl) rfl ?_, x_of 9 rfl (by kernel_rfl) rfl ?_, trivial⟩
  · skip
    refine o_of_val (v := Value.int .i64 g.1) (e_load_bx1 tp3_d rfl bx5 rfl) ?_
    refine x_many 4 [6, 9] (by kernel_rfl) ⟨x_of 4 rfl (by kernel_rfl) rfl ?_, x_of 6 rfl (by kernel_rfl) rfl ?_, x_of 9 rfl (by kernel_rfl) rfl ?_, trivial⟩
    · skip
      refine o_append (α := (Int) × (Int)) (xs := ([])) (ys := g.2) g9 (J := is 3) (S := is 3) (3, 0) rfl Try.underlying22 tp60_d (by decide) rfl rfl rfl Ow.nil r_g_v (by decide) (by first | omega | (simp; done) | (simp; omega)) ?_
      intro g13 w14 v15 ch16 o17
      replace hbase := hbase.chg ch16 (is_ne rfl)
      replace r_g_v := r_g_v.chg ch16 (is_ne rfl)
      replace bx5 := bx5.chg ch16 (is_ne rfl)
      replace bx10 := bx10.chg ch16 (is_ne rfl)
      replace o17 : Ow g13 (is 3) (is 3) w14 v15 g.2 := o17
      refine x_two 6 9 rfl rfl (by kernel_rfl) rfl rfl ?_ ?_
      · skip
        refine o_buildSlice (α := (Int) × (Int)) g13 (is 4) (is 4) (4, 0) rfl [(-7, 7)] Try.underlying22 tp60_d (by decide) (by decide) (vs := [(0, Value.agg (List.toArray [Value.int .i64 (-7), Value.int .i64 7]))]) rfl rfl (.cons rfl .nil) ?_
        intro g18 w19 v20 ch21 o22
        replace hbase := hbase.chg ch21 (not_no _)
        replace r_g_v := r_g_v.chg ch21 (not_no _)
        replace bx5 := bx5.chg ch21 (not_no _)
        replace bx10 := bx10.chg ch21 (not_no _)
        replace o17 := o17.chg ch21 (not_no _) (not_no _)
        refine x_two 7 9 rfl rfl (by kernel_rfl) rfl rfl ?_ ?_
        · skip
          refine o_append (α := (Int) × (Int)) (xs := g.2) (ys := ([(-7, 7)])) g18 (J := is 3) (S := is 3) (3, 0) rfl Try.underlying22 tp60_d (by decide) rfl rfl rfl o17 o22.flat (by decide) (by first | omega | (simp; done) | (simp; omega)) ?_
          intro g23 w24 v25 ch26 o27
          replace hbase := hbase.chg ch26 (is_ne rfl)
          replace r_g_v := r_g_v.chg ch26 (is_ne rfl)
          replace bx5 := bx5.chg ch26 (is_ne rfl)
          replace bx10 := bx10.chg ch26 (is_ne rfl)
          replace o22 := o22.chg ch26 (is_ne rfl) (is_ne rfl)
          clear o17
          refine x_one 9 rfl (by kernel_rfl) rfl ?_
          refine o_of_val (v := g_v) (e_load_bx1 tp22_d rfl bx5 rfl) ?_
          have len28 := (r_g_v).small
          refine x_pure (v := Value.int .i64 (List.length g.2 : Int)) 10 rfl (by kernel_rfl) (by kernel_rfl) rfl (fun w => e_len Try.underlying22 rfl r_g_v) ?_
          refine x_pure (v := (subV v25 2 (Int.toNat 0) (Int.toNat (List.length g.2 : Int)))) 11 rfl (by kernel_rfl) (by kernel_rfl) rfl (fun w => e_slice (α := (Int) × (Int)) (xs := (g.2 ++ [(-7, 7)])) (v := v25) (l := 0) (h := (List.length g.2 : Int)) Try.underlying22 rfl rfl o27.flat (.inr ⟨rfl, rfl⟩) (.inl (congrArg some rfl)) (by first | omega | (simp only [List.length_append, List.length_cons, List.length_nil]; omega)) (by first | omega | (simp only [List.length_append, List.length_cons, List.length_nil]; omega)) (by first | omega | (simp only [List.length_append, List.length_cons, List.length_nil]; omega))) ?_
          have r30 := sl_sub o27.flat (show Int.toNat 0 ≤ Int.toNat (List.length g.2 : Int) by first | omega | (simp only [List.length_append, List.length_cons, List.length_nil]; omega)) (show Int.toNat (List.length g.2 : Int) ≤ List.length _ by first | omega | (simp only [List.length_append, List.length_cons, List.length_nil]; omega))
          refine x_pure (v := Value.agg (List.toArray [Value.int .i64 g.1, (subV v25 2 (Int.toNat 0) (Int.toNat (List.length g.2 : Int)))])) 12 rfl (by kernel_rfl) (by kernel_rfl) rfl (fun w => e_build (vs := [(0, Value.int .i64 g.1), (1, (subV v25 2 (Int.toNat 0) (Int.toNat (List.length g.2 : Int))))]) rfl (by erw [Sl.form r30]; kernel_rfl)) ?_
          refine x_one 13 rfl (by kernel_rfl) rfl ?_
          refine o_store_bx (cs' := [Value.int .i64 g.1, (subV v25 2 (Int.toNat 0) (Int.toNat (List.length g.2 : Int)))]) tp24_d rfl rfl bx10 rfl (Nat.le_of_ble_eq_true rfl) (AllOne.all (.cons rfl (.cons (sl_one r30) .nil))) rfl ?_
          intro w31 ch32 bx33
          replace hbase := hbase.chg ch32 (is_ne rfl)
          replace r_g_v := r_g_v.chg ch32 (is_ne rfl)
          replace bx5 := bx5.chg ch32 (is_ne rfl)
          replace o22 := o22.chg ch32 (is_ne rfl) (is_ne rfl)
          replace o27 := o27.chg ch32 (is_ne rfl) (is_ne rfl)
          replace r30 := r30.chg ch32 (is_ne rfl)
          clear bx10
          refine x_nil (by kernel_rfl) ?_
          refine run_ret (vs := [Value.agg (List.toArray [Value.int .i64 g.1, (subV v25 2 (Int.toNat 0) (Int.toNat (List.length g.2 : Int)))])]) Try.func16 (.cell rfl (load_bxN (ds := [Value.int .i64 g.1, (subV v25 2 (Int.toNat 0) (Int.toNat (List.length g.2 : Int)))]) tp24_d bx33 rfl rfl) .nil) ?_
          -- return 0
          have e0 : ((g.1, (List.drop (Int.toNat 0) (List.take (Int.toNat (List.length g.2 : Int)) (g.2 ++ [(-7, 7)])))) : (Int) × (List ((Int) × (Int)))) = (g) := by
            simp
          exact ⟨(fin w0 g23 (fun n => if n = 3 then 1 else 0), (subV v25 2 (Int.toNat 0) (Int.toNat (List.length g.2 : Int)))), (congrArg (a₁ := (g.1, (List.drop (Int.toNat 0) (List.take (Int.toNat (List.length g.2 : Int)) (g.2 ++ [(-7, 7)]))))) (fun (z0 : (Int) × (List ((Int) × (Int)))) => Ending.returned (Value.agg (List.toArray [Value.int .i64 z0.1, (subV v25 2 (Int.toNat 0) (Int.toNat (List.length g.2 : Int)))]))) e0), hbase.fresh _, (upV_sub (o27.glue (γ := c0) (ren := (fun n => if n = 3 then 1 else 0)) (k := 1) hbase.col rfl rfl) (by simp))⟩
        · skip
          refine o_of_val (v := g_v) (e_load_bx1 tp22_d rfl bx5 rfl) ?_
          have len34 := (r_g_v).small
          refine x_pure (v := Value.int .i64 (List.length g.2 : Int)) 10 rfl (by kernel_rfl) (by kernel_rfl) rfl (fun w => e_len Try.underlying22 rfl r_g_v) ?_
          refine x_one 7 rfl (by kernel_rfl) rfl ?_
          refine o_append (α := (Int) × (Int)) (xs := g.2) (ys := ([(-7, 7)])) g18 (J := is 3) (S := is 3) (3, 0) rfl Try.underlying22 tp60_d (by decide) rfl rfl rfl o17 o22.flat (by decide) (by first | omega | (simp; done) | (simp; omega)) ?_
          intro g35 w36 v37 ch38 o39
          replace hbase := hbase.chg ch38 (is_ne rfl)
          replace r_g_v := r_g_v.chg ch38 (is_ne rfl)
          replace bx5 := bx5.chg ch38 (is_ne rfl)
          replace bx10 := bx10.chg ch38 (is_ne rfl)
          replace o22 := o22.chg ch38 (is_ne rfl) (is_ne rfl)
          clear o17
          refine x_pure (v := (subV v37 2 (Int.toNat 0) (Int.toNat (List.length g.2 : Int)))) 11 rfl (by kernel_rfl) (by kernel_rfl) rfl (fun w => e_slice (α := (Int) × (Int)) (xs := (g.2 ++ [(-7, 7)])) (v := v37) (l := 0) (h := (List.length g.2 : Int)) Try.underlying22 rfl rfl o39.flat (.inr ⟨rfl, rfl⟩) (.inl (congrArg some rfl)) (by first | omega | (simp only [List.length_append, List.length_cons, List.length_nil]; omega)) (by first | omega | (simp only [List.length_append, List.length_cons, List.length_nil]; omega)) (by first | omega | (simp only [List.length_append, List.length_cons, List.length_nil]; omega))) ?_
          have r41 := sl_sub o39.flat (show Int.toNat 0 ≤ Int.toNat (List.length g.2 : Int) by first | omega | (simp only [List.length_append, List.length_cons, List.length_nil]; omega)) (show Int.toNat (List.length g.2 : Int) ≤ List.length _ by first | omega | (simp only [List.length_append, List.length_cons, List.length_nil]; omega))
          refine x_pure (v := Value.agg (List.toArray [Value.int .i64 g.1, (subV v37 2 (Int.toNat 0) (Int.toNat (List.length g.2 : Int)))])) 12 rfl (by kernel_rfl) (by kernel_rfl) rfl (fun w => e_build (vs := [(0, Value.int .i64 g.1), (1, (subV v37 2 (Int.toNat 0) (Int.toNat (List.length g.2 : Int))))]) rfl (by erw [Sl.form r41]; kernel_rfl)) ?_
          refine x_one 13 rfl (by kernel_rfl) rfl ?_
          refine o_store_bx (cs' := [Value.int .i64 g.1, (subV v37 2 (Int.toNat 0) (Int.toNat (List.length g.2 : Int)))]) tp24_d rfl rfl bx10 rfl (Nat.le_of_ble_eq_true rfl) (AllOne.all (.cons rfl (.cons (sl_one r41) .nil))) rfl ?_
          intro w42 ch43 bx44
          replace hbase := hbase.chg ch43 (is_ne rfl)
          replace r_g_v := r_g_v.chg ch43 (is_ne rfl)
          replace bx5 := bx5.chg ch43 (is_ne rfl)
          replace o22 := o22.chg ch43 (is_ne rfl) (is_ne rfl)
          replace o39 := o39.chg ch43 (is_ne rfl) (is_ne rfl)
          replace r41 := r41.chg ch43 (is_ne rfl)
          clear bx10
          refine x_nil (by kernel_rfl) ?_
          refine run_ret (vs := [Value.agg (List.toArray [Value.int .i64 g.1, (subV v37 2 (Int.toNat 0) (Int.toNat (List.length g.2 : Int)))])]) Try.func16 (.cell rfl (load_bxN (ds := [Value.int .i64 g.1, (subV v37 2 (Int.toNat 0) (Int.toNat (List.length g.2 : Int)))]) tp24_d bx44 rfl rfl) .nil) ?_
          -- return 1
          have e0 : ((g.1, (List.drop (Int.toNat 0) (List.take (Int.toNat (List.length g.2 : Int)) (g.2 ++ [(-7, 7)])))) : (Int) × (List ((Int) × (Int)))) = (g) := by
            simp
          exact ⟨(fin w0 g35 (fun n => if n = 3 then 1 else 0), (subV v37 2 (Int.toNat 0) (Int.toNat (List.length g.2 : Int)))), (congrArg (a₁ := (g.1, (List.drop (Int.toNat 0) (List.take (Int.toNat (List.length g.2 : Int)) (g.2 ++ [(-7, 7)]))))) (fun (z0 : (Int) × (List ((Int) × (Int)))) => Ending.returned (Value.agg (List.toArray [Value.int .i64 z0.1, (subV v37 2 (Int.toNat 0) (Int.toNat (List.length g.2 : Int)))]))) e0), hbase.fresh _, (upV_sub (o39.glue (γ := c0) (ren := (fun n => if n = 3 then 1 else 0)) (k := 1) hbase.col rfl rfl) (by simp))⟩
      · skip
        refine o_of_val (v := g_v) (e_load_bx1 tp22_d rfl bx5 rfl) ?_
        have len45 := (r_g_v).small
        refine x_pure (v := Value.int .i64 (List.length g.2 : Int)) 10 rfl (by kernel_rfl) (by kernel_rfl) rfl (fun w => e_len Try.underlying22 rfl r_g_v) ?_
        refine x_one 6 rfl (by kernel_rfl) rfl ?_
        refine o_buildSlice (α := (Int) × (Int)) g13 (is 4) (is 4) (4, 0) rfl [(-7, 7)] Try.underlying22 tp60_d (by decide) (by decide) (vs := [(0, Value.agg (List.toArray [Value.int .i64 (-7), Value.int .i64 7]))]) rfl rfl (.cons rfl .nil) ?_
        intro g46 w47 v48 ch49 o50
        replace hbase := hbase.chg ch49 (not_no _)
        replace r_g_v := r_g_v.chg ch49 (not_no _)
        replace bx5 := bx5.chg ch49 (not_no _)
        replace bx10 := bx10.chg ch49 (not_no _)
        replace o17 := o17.chg ch49 (not_no _) (not_no _)
        refine x_one 7 rfl (by kernel_rfl) rfl ?_
        refine o_append (α := (Int) × (Int)) (xs := g.2) (ys := ([(-7, 7)])) g46 (J := is 3) (S := is 3) (3, 0) rfl Try.underlying22 tp60_d (by decide) rfl rfl rfl o17 o50.flat (by decide) (by first | omega | (simp; done) | (simp; omega)) ?_
        intro g51 w52 v53 ch54 o55
        replace hbase := hbase.chg ch54 (is_ne rfl)
        replace r_g_v := r_g_v.chg ch54 (is_ne rfl)
        replace bx5 := bx5.chg ch54 (is_ne rfl)
        replace bx10 := bx10.chg ch54 (is_ne rfl)
        replace o50 := o50.chg ch54 (is_ne rfl) (is_ne rfl)
        clear o17
        refine x_pure (v := (subV v53 2 (Int.toNat 0) (Int.toNat (List.length g.2 : Int)))) 11 rfl (by kernel_rfl) (by kernel_rfl) rfl (fun w => e_slice (α := (Int) × (Int)) (xs := (g.2 ++ [(-7, 7)])) (v := v53) (l := 0) (h := (List.length g.2 : Int)) Try.underlying22 rfl rfl o55.flat (.inr ⟨rfl, rfl⟩) (.inl (congrArg some rfl)) (by first | omega | (simp only [List.length_append, List.length_cons, List.length_nil]; omega)) (by first | omega | (simp only [List.length_append, List.length_cons, List.length_nil]; omega)) (by first | omega | (simp only [List.length_append, List.length_cons, List.length_nil]; omega))) ?_
        have r57 := sl_sub o55.flat (show Int.toNat 0 ≤ Int.toNat (List.length g.2 : Int) by first | omega | (simp only [List.length_append, List.length_cons, List.length_nil]; omega)) (show Int.toNat (List.length g.2 : Int) ≤ List.length _ by first | omega | (simp only [List.length_append, List.length_cons, List.length_nil]; omega))
        refine x_pure (v := Value.agg (List.toArray [Value.int .i64 g.1, (subV v53 2 (Int.toNat 0) (Int.toNat (List.length g.2 : Int)))])) 12 rfl (by kernel_rfl) (by kernel_rfl) rfl (fun w => e_build (vs := [(0, Value.int .i64 g.1), (1, (subV v53 2 (Int.toNat 0) (Int.toNat (List.length g.2 : Int))))]) rfl (by erw [Sl.form r57]; kernel_rfl)) ?_
        refine x_one 13 rfl (by kernel_rfl) rfl ?_
        refine o_store_bx (cs' := [Value.int .i64 g.1, (subV v53 2 (Int.toNat 0) (Int.toNat (List.length g.2 : Int)))]) tp24_d rfl rfl bx10 rfl (Nat.le_of_ble_eq_true rfl) (AllOne.all (.cons rfl (.cons (sl_one r57) .nil))) rfl ?_
        intro w58 ch59 bx60
        replace hbase := hbase.chg ch59 (is_ne rfl)
        replace r_g_v := r_g_v.chg ch59 (is_ne rfl)
        replace bx5 := bx5.chg ch59 (is_ne rfl)
        replace o50 := o50.chg ch59 (is_ne rfl) (is_ne rfl)
        replace o55 := o55.chg ch59 (is_ne rfl) (is_ne rfl)
        replace r57 := r57.chg ch59 (is_ne rfl)
        clear bx10
        refine x_nil (by kernel_rfl) ?_
        refine run_ret (vs := [Value.agg (List.toArray [Value.int .i64 g.1, (subV v53 2 (Int.toNat 0) (Int.toNat (List.length g.2 : Int)))])]) Try.func16 (.cell rfl (load_bxN (ds := [Value.int .i64 g.1, (subV v53 2 (Int.toNat 0) (Int.toNat (List.length g.2 : Int)))]) tp24_d bx60 rfl rfl) .nil) ?_
        -- return 2
        have e0 : ((g.1, (List.drop (Int.toNat 0) (List.take (Int.toNat (List.length g.2 : Int)) (g.2 ++ [(-7, 7)])))) : (Int) × (List ((Int) × (Int)))) = (g) := by
          simp
        exact ⟨(fin w0 g51 (fun n => if n = 3 then 1 else 0), (subV v53 2 (Int.toNat 0) (Int.toNat (List.length g.2 : Int)))), (congrArg (a₁ := (g.1, (List.drop (Int.toNat 0) (List.take (Int.toNat (List.length g.2 : Int)) (g.2 ++ [(-7, 7)]))))) (fun (z0 : (Int) × (List ((Int) × (Int)))) => Ending.returned (Value.agg (List.toArray [Value.int .i64 z0.1, (subV v53 2 (Int.toNat 0) (Int.toNat (List.length g.2 : Int)))]))) e0), hbase.fresh _, (upV_sub (o55.glue (γ := c0) (ren := (fun n => if n = 3 then 1 else 0)) (k := 1) hbase.col rfl rfl) (by simp))⟩
    · skip
      refine o_buildSlice (α := (Int) × (Int)) g9 (is 4) (is 4) (4, 0) rfl [(-7, 7)] Try.underlying22 tp60_d (by decide) (by decide) (vs := [(0, Value.agg (List.toArray [Value.int .i64 (-7), Value.int .i64 7]))]) rfl rfl (.cons rfl .nil) ?_
      intro g61 w62 v63 ch64 o65
      replace hbase := hbase.chg ch64 (not_no _)
      replace r_g_v := r_g_v.chg ch64 (not_no _)
      replace bx5 := bx5.chg ch64 (not_no _)
      replace bx10 := bx10.chg ch64 (not_no _)
      refine x_two 4 9 rfl rfl (by kernel_rfl) rfl rfl ?_ ?_
      · skip
        refine o_append (α := (Int) × (Int)) (xs := ([])) (ys := g.2) g61 (J := is 3) (S := is 3) (3, 0) rfl Try.underlying22 tp60_d (by decide) rfl rfl rfl Ow.nil r_g_v (by decide) (by first | omega | (simp; done) | (simp; omega)) ?_
        intro g66 w67 v68 ch69 o70
        replace hbase := hbase.chg ch69 (is_ne rfl)
        replace r_g_v := r_g_v.chg ch69 (is_ne rfl)
        replace bx5 := bx5.chg ch69 (is_ne rfl)
        replace bx10 := bx10.chg ch69 (is_ne rfl)
        replace o65 := o65.chg ch69 (is_ne rfl) (is_ne rfl)
        replace o70 : Ow g66 (is 3) (is 3) w67 v68 g.2 := o70
        refine x_two 7 9 rfl rfl (by kernel_rfl) rfl rfl ?_ ?_
        · skip
          refine o_append (α := (Int) × (Int)) (xs := g.2) (ys := ([(-7, 7)])) g66 (J := is 3) (S := is 3) (3, 0) rfl Try.underlying22 tp60_d (by decide) rfl rfl rfl o70 o65.flat (by decide) (by first | omega | (simp; done) | (simp; omega)) ?_
          intro g71 w72 v73 ch74 o75
          replace hbase := hbase.chg ch74 (is_ne rfl)
          replace r_g_v := r_g_v.chg ch74 (is_ne rfl)
          replace bx5 := bx5.chg ch74 (is_ne rfl)
          replace bx10 := bx10.chg ch74 (is_ne rfl)
          replace o65 := o65.chg ch74 (is_ne rfl) (is_ne rfl)
          clear o70
          refine x_one 9 rfl (by kernel_rfl) rfl ?_
          refine o_of_val (v := g_v) (e_load_bx1 tp22_d rfl bx5 rfl) ?_
          have len76 := (r_g_v).small
          refine x_pure (v := Value.int .i64 (List.length g.2 : Int)) 10 rfl (by kernel_rfl) (by kernel_rfl) rfl (fun w => e_len Try.underlying22 rfl r_g_v) ?_
          refine x_pure (v := (subV v73 2 (Int.toNat 0) (Int.toNat (List.length g.2 : Int)))) 11 rfl (by kernel_rfl) (by kernel_rfl) rfl (fun w => e_slice (α := (Int) × (Int)) (xs := (g.2 ++ [(-7, 7)])) (v := v73) (l := 0) (h := (List.length g.2 : Int)) Try.underlying22 rfl rfl o75.flat (.inr ⟨rfl, rfl⟩) (.inl (congrArg some rfl)) (by first | omega | (simp only [List.length_append, List.length_cons, List.length_nil]; omega)) (by first | omega | (simp only [List.length_append, List.length_cons, List.length_nil]; omega)) (by first | omega | (simp only [List.length_append, List.length_cons, List.length_nil]; omega))) ?_
          have r78 := sl_sub o75.flat (show Int.toNat 0 ≤ Int.toNat (List.length g.2 : Int) by first | omega | (simp only [List.length_append, List.length_cons, List.length_nil]; omega)) (show Int.toNat (List.length g.2 : Int) ≤ List.length _ by first | omega | (simp only [List.length_append, List.length_cons, List.length_nil]; omega))
          refine x_pure (v := Value.agg (List.toArray [Value.int .i64 g.1, (subV v73 2 (Int.toNat 0) (Int.toNat (List.length g.2 : Int)))])) 12 rfl (by kernel_rfl) (by kernel_rfl) rfl (fun w => e_build (vs := [(0, Value.int .i64 g.1), (1, (subV v73 2 (Int.toNat 0) (Int.toNat (List.length g.2 : Int))))]) rfl (by erw [Sl.form r78]; kernel_rfl)) ?_
          refine x_one 13 rfl (by kernel_rfl) rfl ?_
          refine o_store_bx (cs' := [Value.int .i64 g.1, (subV v73 2 (Int.toNat 0) (Int.toNat (List.length g.2 : Int)))]) tp24_d rfl rfl bx10 rfl (Nat.le_of_ble_eq_true rfl) (AllOne.all (.cons rfl (.cons (sl_one r78) .nil))) rfl ?_
          intro w79 ch80 bx81
          replace hbase := hbase.chg ch80 (is_ne rfl)
          replace r_g_v := r_g_v.chg ch80 (is_ne rfl)
          replace bx5 := bx5.chg ch80 (is_ne rfl)
          replace o65 := o65.chg ch80 (is_ne rfl) (is_ne rfl)
          replace o75 := o75.chg ch80 (is_ne rfl) (is_ne rfl)
          replace r78 := r78.chg ch80 (is_ne rfl)
          clear bx10
          refine x_nil (by kernel_rfl) ?_
          refine run_ret (vs := [Value.agg (List.toArray [Value.int .i64 g.1, (subV v73 2 (Int.toNat 0) (Int.toNat (List.length g.2 : Int)))])]) Try.func16 (.cell rfl (load_bxN (ds := [Value.int .i64 g.1, (subV v73 2 (Int.toNat 0) (Int.toNat (List.length g.2 : Int)))]) tp24_d bx81 rfl rfl) .nil) ?_
          -- return 3
          have e0 : ((g.1, (List.drop (Int.toNat 0) (List.take (Int.toNat (List.length g.2 : Int)) (g.2 ++ [(-7, 7)])))) : (Int) × (List ((Int) × (Int)))) = (g) := by
            simp
          exact ⟨(fin w0 g71 (fun n => if n = 3 then 1 else 0), (subV v73 2 (Int.toNat 0) (Int.toNat (List.length g.2 : Int)))), (congrArg (a₁ := (g.1, (List.drop (Int.toNat 0) (List.take (Int.toNat (List.length g.2 : Int)) (g.2 ++ [(-7, 7)]))))) (fun (z0 : (Int) × (List ((Int) × (Int)))) => Ending.returned (Value.agg (List.toArray [Value.int .i64 z0.1, (subV v73 2 (Int.toNat 0) (Int.toNat (List.length g.2 : Int)))]))) e0), hbase.fresh _, (upV_sub (o75.glue (γ := c0) (ren := (fun n => if n = 3 then 1 else 0)) (k := 1) hbase.col rfl rfl) (by simp))⟩
        · skip
          refine o_of_val (v := g_v) (e_load_bx1 tp22_d rfl bx5 rfl) ?_
          have len82 := (r_g_v).small
          refine x_pure (v := Value.int .i64 (List.length g.2 : Int)) 10 rfl (by kernel_rfl) (by kernel_rfl) rfl (fun w => e_len Try.underlying22 rfl r_g_v) ?_
          refine x_one 7 rfl (by kernel_rfl) rfl ?_
          refine o_append (α := (Int) × (Int)) (xs := g.2) (ys := ([(-7, 7)])) g66 (J := is 3) (S := is 3) (3, 0) rfl Try.underlying22 tp60_d (by decide) rfl rfl rfl o70 o65.flat (by decide) (by first | omega | (simp; done) | (simp; omega)) ?_
          intro g83 w84 v85 ch86 o87
          replace hbase := hbase.chg ch86 (is_ne rfl)
          replace r_g_v := r_g_v.chg ch86 (is_ne rfl)
          replace bx5 := bx5.chg ch86 (is_ne rfl)
          replace bx10 := bx10.chg ch86 (is_ne rfl)
          replace o65 := o65.chg ch86 (is_ne rfl) (is_ne rfl)
          clear o70
          refine x_pure (v := (subV v85 2 (Int.toNat 0) (Int.toNat (List.length g.2 : Int)))) 11 rfl (by kernel_rfl) (by kernel_rfl) rfl (fun w => e_slice (α := (Int) × (Int)) (xs := (g.2 ++ [(-7, 7)])) (v := v85) (l := 0) (h := (List.length g.2 : Int)) Try.underlying22 rfl rfl o87.flat (.inr ⟨rfl, rfl⟩) (.inl (congrArg some rfl)) (by first | omega | (simp only [List.length_append, List.length_cons, List.length_nil]; omega)) (by first | omega | (simp only [List.length_append, List.length_cons, List.length_nil]; omega)) (by first | omega | (simp only [List.length_append, List.length_cons, List.length_nil]; omega))) ?_
          have r89 := sl_sub o87.flat (show Int.toNat 0 ≤ Int.toNat (List.length g.2 : Int) by first | omega | (simp only [List.length_append, List.length_cons, List.length_nil]; omega)) (show Int.toNat (List.length g.2 : Int) ≤ List.length _ by first | omega | (simp only [List.length_append, List.length_cons, List.length_nil]; omega))
          refine x_pure (v := Value.agg (List.toArray [Value.int .i64 g.1, (subV v85 2 (Int.toNat 0) (Int.toNat (List.length g.2 : Int)))])) 12 rfl (by kernel_rfl) (by kernel_rfl) rfl (fun w => e_build (vs := [(0, Value.int .i64 g.1), (1, (subV v85 2 (Int.toNat 0) (Int.toNat (List.length g.2 : Int))))]) rfl (by erw [Sl.form r89]; kernel_rfl)) ?_
          refine x_one 13 rfl (by kernel_rfl) rfl ?_
          refine o_store_bx (cs' := [Value.int .i64 g.1, (subV v85 2 (Int.toNat 0) (Int.toNat (List.length g.2 : Int)))]) tp24_d rfl rfl bx10 rfl (Nat.le_of_ble_eq_true rfl) (AllOne.all (.cons rfl (.cons (sl_one r89) .nil))) rfl ?_
          intro w90 ch91 bx92
          replace hbase := hbase.chg ch91 (is_ne rfl)
          replace r_g_v := r_g_v.chg ch91 (is_ne rfl)
          replace bx5 := bx5.chg ch91 (is_ne rfl)
          replace o65 := o65.chg ch91 (is_ne rfl) (is_ne rfl)
          replace o87 := o87.chg ch91 (is_ne rfl) (is_ne rfl)
          replace r89 := r89.chg ch91 (is_ne rfl)
          clear bx10
          refine x_nil (by kernel_rfl) ?_
          refine run_ret (vs := [Value.agg (List.toArray [Value.int .i64 g.1, (subV v85 2 (Int.toNat 0) (Int.toNat (List.length g.2 : Int)))])]) Try.func16 (.cell rfl (load_bxN (ds := [Value.int .i64 g.1, (subV v85 2 (Int.toNat 0) (Int.toNat (List.length g.2 : Int)))]) tp24_d bx92 rfl rfl) .nil) ?_
          -- return 4
          have e0 : ((g.1, (List.drop (Int.toNat 0) (List.take (Int.toNat (List.length g.2 : Int)) (g.2 ++ [(-7, 7)])))) : (Int) × (List ((Int) × (Int)))) = (g) := by
            simp
          exact ⟨(fin w0 g83 (fun n => if n = 3 then 1 else 0), (subV v85 2 (Int.toNat 0) (Int.toNat (List.length g.2 : Int)))), (congrArg (a₁ := (g.1, (List.drop (Int.toNat 0) (List.take (Int.toNat (List.length g.2 : Int)) (g.2 ++ [(-7, 7)]))))) (fun (z0 : (Int) × (List ((Int) × (Int)))) => Ending.returned (Value.agg (List.toArray [Value.int .i64 z0.1, (subV v85 2 (Int.toNat 0) (Int.toNat (List.length g.2 : Int)))]))) e0), hbase.fresh _, (upV_sub (o87.glue (γ := c0) (ren := (fun n => if n = 3 then 1 else 0)) (k := 1) hbase.col rfl rfl) (by simp))⟩
      · skip
        refine o_of_val (v := g_v) (e_load_bx1 tp22_d rfl bx5 rfl) ?_
        have len93 := (r_g_v).small
        refine x_pure (v := Value.int .i64 (List.length g.2 : Int)) 10 rfl (by kernel_rfl) (by kernel_rfl) rfl (fun w => e_len Try.underlying22 rfl r_g_v) ?_
        refine x_one 4 rfl (by kernel_rfl) rfl ?_
        refine o_append (α := (Int) × (Int)) (xs := ([])) (ys := g.2) g61 (J := is 3) (S := is 3) (3, 0) rfl Try.underlying22 tp60_d (by decide) rfl rfl rfl Ow.nil r_g_v (by decide) (by first | omega | (simp; done) | (simp; omega)) ?_
        intro g94 w95 v96 ch97 o98
        replace hbase := hbase.chg ch97 (is_ne rfl)
        replace r_g_v := r_g_v.chg ch97 (is_ne rfl)
        replace bx5 := bx5.chg ch97 (is_ne rfl)
        replace bx10 := bx10.chg ch97 (is_ne rfl)
        replace o65 := o65.chg ch97 (is_ne rfl) (is_ne rfl)
        replace o98 : Ow g94 (is 3) (is 3) w95 v96 g.2 := o98
        refine x_one 7 rfl (by kernel_rfl) rfl ?_
        refine o_append (α := (Int) × (Int)) (xs := g.2) (ys := ([(-7, 7)])) g94 (J := is 3) (S := is 3) (3, 0) rfl Try.underlying22 tp60_d (by decide) rfl rfl rfl o98 o65.flat (by decide) (by first | omega | (simp; done) | (simp; omega)) ?_
        intro g99 w100 v101 ch102 o103
        replace hbase := hbase.chg ch102 (is_ne rfl)
        replace r_g_v := r_g_v.chg ch102 (is_ne rfl)
        replace bx5 := bx5.chg ch102 (is_ne rfl)
        replace bx10 := bx10.chg ch102 (is_ne rfl)
        replace o65 := o65.chg ch102 (is_ne rfl) (is_ne rfl)
        clear o98
        refine x_pure (v := (subV v101 2 (Int.toNat 0) (Int.toNat (List.length g.2 : Int)))) 11 rfl (by kernel_rfl) (by kernel_rfl) rfl (fun w => e_slice (α := (Int) × (Int)) (xs := (g.2 ++ [(-7, 7)])) (v := v101) (l := 0) (h := (List.length g.2 : Int)) Try.underlying22 rfl rfl o103.flat (.inr ⟨rfl, rfl⟩) (.inl (congrArg some rfl)) (by first | omega | (simp only [List.length_append, List.length_cons, List.length_nil]; omega)) (by first | omega | (simp only [List.length_append, List.length_cons, List.length_nil]; omega)) (by first | omega | (simp only [List.length_append, List.length_cons, List.length_nil]; omega))) ?_
        have r105 := sl_sub o103.flat (show Int.toNat 0 ≤ Int.toNat (List.length g.2 : Int) by first | omega | (simp only [List.length_append, List.length_cons, List.length_nil]; omega)) (show Int.toNat (List.length g.2 : Int) ≤ List.length _ by first | omega | (simp only [List.length_append, List.length_cons, List.length_nil]; omega))
        refine x_pure (v := Value.agg (List.toArray [Value.int .i64 g.1, (subV v101 2 (Int.toNat 0) (Int.toNat (List.length g.2 : Int)))])) 12 rfl (by kernel_rfl) (by kernel_rfl) rfl (fun w => e_build (vs := [(0, Value.int .i64 g.1), (1, (subV v101 2 (Int.toNat 0) (Int.toNat (List.length g.2 : Int))))]) rfl (by erw [Sl.form r105]; kernel_rfl)) ?_
        refine x_one 13 rfl (by kernel_rfl) rfl ?_
        refine o_store_bx (cs' := [Value.int .i64 g.1, (subV v101 2 (Int.toNat 0) (Int.toNat (List.length g.2 : Int)))]) tp24_d rfl rfl bx10 rfl (Nat.le_of_ble_eq_true rfl) (AllOne.all (.cons rfl (.cons (sl_one r105) .nil))) rfl ?_
        intro w106 ch107 bx108
        replace hbase := hbase.chg ch107 (is_ne rfl)
        replace r_g_v := r_g_v.chg ch107 (is_ne rfl)
        replace bx5 := bx5.chg ch107 (is_ne rfl)
        replace o65 := o65.chg ch107 (is_ne rfl) (is_ne rfl)
        replace o103 := o103.chg ch107 (is_ne rfl) (is_ne rfl)
        replace r105 := r105.chg ch107 (is_ne rfl)
        clear bx10
        refine x_nil (by kernel_rfl) ?_
        refine run_ret (vs := [Value.agg (List.toArray [Value.int .i64 g.1, (subV v101 2 (Int.toNat 0) (Int.toNat (List.length g.2 : Int)))])]) Try.func16 (.cell rfl (load_bxN (ds := [Value.int .i64 g.1, (subV v101 2 (Int.toNat 0) (Int.toNat (List.length g.2 : Int)))]) tp24_d bx108 rfl rfl) .nil) ?_
        -- return 5
        have e0 : ((g.1, (List.drop (Int.toNat 0) (List.take (Int.toNat (List.length g.2 : Int)) (g.2 ++ [(-7, 7)])))) : (Int) × (List ((Int) × (Int)))) = (g) := by
          simp
        exact ⟨(fin w0 g99 (fun n => if n = 3 then 1 else 0), (subV v101 2 (Int.toNat 0) (Int.toNat (List.length g.2 : Int)))), (congrArg (a₁ := (g.1, (List.drop (Int.toNat 0) (List.take (Int.toNat (List.length g.2 : Int)) (g.2 ++ [(-7, 7)]))))) (fun (z0 : (Int) × (List ((Int) × (Int)))) => Ending.returned (Value.agg (List.toArray [Value.int .i64 z0.1, (subV v101 2 (Int.toNat 0) (Int.toNat (List.length g.2 : Int)))]))) e0), hbase.fresh _, (upV_sub (o103.glue (γ := c0) (ren := (fun n => if n = 3 then 1 else 0)) (k := 1) hbase.col rfl rfl) (by simp))⟩
    · skip
      refine o_of_val (v := g_v) (e_load_bx1 tp22_d rfl bx5 rfl) ?_
      have len109 := (r_g_v).small
      refine x_pure (v := Value.int .i64 (List.length g.2 : Int)) 10 rfl (by kernel_rfl) (by kernel_rfl) rfl (fun w => e_len Try.underlying22 rfl r_g_v) ?_
      refine x_two 4 6 rfl rfl (by kernel_rfl) rfl rfl ?_ ?_
      · skip
        refine o_append (α := (Int) × (Int)) (xs := ([])) (ys := g.2) g9 (J := is 3) (S := is 3) (3, 0) rfl Try.underlying22 tp60_d (by decide) rfl rfl rfl Ow.nil r_g_v (by decide) (by first | omega | (simp; done) | (simp; omega)) ?_
        intro g110 w111 v112 ch113 o114
        replace hbase := hbase.chg ch113 (is_ne rfl)
        replace r_g_v := r_g_v.chg ch113 (is_ne rfl)
        replace bx5 := bx5.chg ch113 (is_ne rfl)
        replace bx10 := bx10.chg ch113 (is_ne rfl)
        replace o114 : Ow g110 (is 3) (is 3) w111 v112 g.2 := o114
        refine x_one 6 rfl (by kernel_rfl) rfl ?_
        refine o_buildSlice (α := (Int) × (Int)) g110 (is 4) (is 4) (4, 0) rfl [(-7, 7)] Try.underlying22 tp60_d (by decide) (by decide) (vs := [(0, Value.agg (List.toArray [Value.int .i64 (-7), Value.int .i64 7]))]) rfl rfl (.cons rfl .nil) ?_
        intro g115 w116 v117 ch118 o119
        replace hbase := hbase.chg ch118 (not_no _)
        replace r_g_v := r_g_v.chg ch118 (not_no _)
        replace bx5 := bx5.chg ch118 (not_no _)
        replace bx10 := bx10.chg ch118 (not_no _)
        replace o114 := o114.chg ch118 (not_no _) (not_no _)
        refine x_one 7 rfl (by kernel_rfl) rfl ?_
        refine o_append (α := (Int) × (Int)) (xs := g.2) (ys := ([(-7, 7)])) g115 (J := is 3) (S := is 3) (3, 0) rfl Try.underlying22 tp60_d (by decide) rfl rfl rfl o114 o119.flat (by decide) (by first | omega | (simp; done) | (simp; omega)) ?_
        intro g120 w121 v122 ch123 o124
        replace hbase := hbase.chg ch123 (is_ne rfl)
        replace r_g_v := r_g_v.chg ch123 (is_ne rfl)
        replace bx5 := bx5.chg ch123 (is_ne rfl)
        replace bx10 := bx10.chg ch123 (is_ne rfl)
        replace o119 := o119.chg ch123 (is_ne rfl) (is_ne rfl)
        clear o114
        refine x_pure (v := (subV v122 2 (Int.toNat 0) (Int.toNat (List.length g.2 : Int)))) 11 rfl (by kernel_rfl) (by kernel_rfl) rfl (fun w => e_slice (α := (Int) × (Int)) (xs := (g.2 ++ [(-7, 7)])) (v := v122) (l := 0) (h := (List.length g.2 : Int)) Try.underlying22 rfl rfl o124.flat (.inr ⟨rfl, rfl⟩) (.inl (congrArg some rfl)) (by first | omega | (simp only [List.length_append, List.length_cons, List.length_nil]; omega)) (by first | omega | (simp only [List.length_append, List.length_cons, List.length_nil]; omega)) (by first | omega | (simp only [List.length_append, List.length_cons, List.length_nil]; omega))) ?_
        have r126 := sl_sub o124.flat (show Int.toNat 0 ≤ Int.toNat (List.length g.2 : Int) by first | omega | (simp only [List.length_append, List.length_cons, List.length_nil]; omega)) (show Int.toNat (List.length g.2 : Int) ≤ List.length _ by first | omega | (simp only [List.length_append, List.length_cons, List.length_nil]; omega))
        refine x_pure (v := Value.agg (List.toArray [Value.int .i64 g.1, (subV v122 2 (Int.toNat 0) (Int.toNat (List.length g.2 : Int)))])) 12 rfl (by kernel_rfl) (by kernel_rfl) rfl (fun w => e_build (vs := [(0, Value.int .i64 g.1), (1, (subV v122 2 (Int.toNat 0) (Int.toNat (List.length g.2 : Int))))]) rfl (by erw [Sl.form r126]; kernel_rfl)) ?_
        refine x_one 13 rfl (by kernel_rfl) rfl ?_
        refine o_store_bx (cs' := [Value.int .i64 g.1, (subV v122 2 (Int.toNat 0) (Int.toNat (List.length g.2 : Int)))]) tp24_d rfl rfl bx10 rfl (Nat.le_of_ble_eq_true rfl) (AllOne.all (.cons rfl (.cons (sl_one r126) .nil))) rfl ?_
        intro w127 ch128 bx129
        replace hbase := hbase.chg ch128 (is_ne rfl)
        replace r_g_v := r_g_v.chg ch128 (is_ne rfl)
        replace bx5 := bx5.chg ch128 (is_ne rfl)
        replace o119 := o119.chg ch128 (is_ne rfl) (is_ne rfl)
        replace o124 := o124.chg ch128 (is_ne rfl) (is_ne rfl)
        replace r126 := r126.chg ch128 (is_ne rfl)
        clear bx10
        refine x_nil (by kernel_rfl) ?_
        refine run_ret (vs := [Value.agg (List.toArray [Value.int .i64 g.1, (subV v122 2 (Int.toNat 0) (Int.toNat (List.length g.2 : Int)))])]) Try.func16 (.cell rfl (load_bxN (ds := [Value.int .i64 g.1, (subV v122 2 (Int.toNat 0) (Int.toNat (List.length g.2 : Int)))]) tp24_d bx129 rfl rfl) .nil) ?_
        -- return 6
        have e0 : ((g.1, (List.drop (Int.toNat 0) (List.take (Int.toNat (List.length g.2 : Int)) (g.2 ++ [(-7, 7)])))) : (Int) × (List ((Int) × (Int)))) = (g) := by
          simp
        exact ⟨(fin w0 g120 (fun n => if n = 3 then 1 else 0), (subV v122 2 (Int.toNat 0) (Int.toNat (List.length g.2 : Int)))), (congrArg (a₁ := (g.1, (List.drop (Int.toNat 0) (List.take (Int.toNat (List.length g.2 : Int)) (g.2 ++ [(-7, 7)]))))) (fun (z0 : (Int) × (List ((Int) × (Int)))) => Ending.returned (Value.agg (List.toArray [Value.int .i64 z0.1, (subV v122 2 (Int.toNat 0) (Int.toNat (List.length g.2 : Int)))]))) e0), hbase.fresh _, (upV_sub (o124.glue (γ := c0) (ren := (fun n => if n = 3 then 1 else 0)) (k := 1) hbase.col rfl rfl) (by simp))⟩
      · skip
        refine o_buildSlice (α := (Int) × (Int)) g9 (is 4) (is 4) (4, 0) rfl [(-7, 7)] Try.underlying22 tp60_d (by decide) (by decide) (vs := [(0, Value.agg (List.toArray [Value.int .i64 (-7), Value.int .i64 7]))]) rfl rfl (.cons rfl .nil) ?_
        intro g130 w131 v132 ch133 o134
        replace hbase := hbase.chg ch133 (not_no _)
        replace r_g_v := r_g_v.chg ch133 (not_no _)
        replace bx5 := bx5.chg ch133 (not_no _)
        replace bx10 := bx10.chg ch133 (not_no _)
        refine x_one 4 rfl (by kernel_rfl) rfl ?_
        refine o_append (α := (Int) × (Int)) (xs := ([])) (ys := g.2) g130 (J := is 3) (S := is 3) (3, 0) rfl Try.underlying22 tp60_d (by decide) rfl rfl rfl Ow.nil r_g_v (by decide) (by first | omega | (simp; done) | (simp; omega)) ?_
        intro g135 w136 v137 ch138 o139
        replace hbase := hbase.chg ch138 (is_ne rfl)
        replace r_g_v := r_g_v.chg ch138 (is_ne rfl)
        replace bx5 := bx5.chg ch138 (is_ne rfl)
        replace bx10 := bx10.chg ch138 (is_ne rfl)
        replace o134 := o134.chg ch138 (is_ne rfl) (is_ne rfl)
        replace o139 : Ow g135 (is 3) (is 3) w136 v137 g.2 := o139
        refine x_one 7 rfl (by kernel_rfl) rfl ?_
        refine o_append (α := (Int) × (Int)) (xs := g.2) (ys := ([(-7, 7)])) g135 (J := is 3) (S := is 3) (3, 0) rfl Try.underlying22 tp60_d (by decide) rfl rfl rfl o139 o134.flat (by decide) (by first | omega | (simp; done) | (simp; omega)) ?_
        intro g140 w141 v142 ch143 o144
        replace hbase := hbase.chg ch143 (is_ne rfl)
        replace r_g_v := r_g_v.chg ch143 (is_ne rfl)
        replace bx5 := bx5.chg ch143 (is_ne rfl)
        replace bx10 := bx10.chg ch143 (is_ne rfl)
        replace o134 := o134.chg ch143 (is_ne rfl) (is_ne rfl)
        clear o139
        refine x_pure (v := (subV v142 2 (Int.toNat 0) (Int.toNat (List.length g.2 : Int)))) 11 rfl (by kernel_rfl) (by kernel_rfl) rfl (fun w => e_slice (α := (Int) × (Int)) (xs := (g.2 ++ [(-7, 7)])) (v := v142) (l := 0) (h := (List.length g.2 : Int)) Try.underlying22 rfl rfl o144.flat (.inr ⟨rfl, rfl⟩) (.inl (congrArg some rfl)) (by first | omega | (simp only [List.length_append, List.length_cons, List.length_nil]; omega)) (by first | omega | (simp only [List.length_append, List.length_cons, List.length_nil]; omega)) (by first | omega | (simp only [List.length_append, List.length_cons, List.length_nil]; omega))) ?_
        have r146 := sl_sub o144.flat (show Int.toNat 0 ≤ Int.toNat (List.length g.2 : Int) by first | omega | (simp only [List.length_append, List.length_cons, List.length_nil]; omega)) (show Int.toNat (List.length g.2 : Int) ≤ List.length _ by first | omega | (simp only [List.length_append, List.length_cons, List.length_nil]; omega))
        refine x_pure (v := Value.agg (List.toArray [Value.int .i64 g.1, (subV v142 2 (Int.toNat 0) (Int.toNat (List.length g.2 : Int)))])) 12 rfl (by kernel_rfl) (by kernel_rfl) rfl (fun w => e_build (vs := [(0, Value.int .i64 g.1), (1, (subV v142 2 (Int.toNat 0) (Int.toNat (List.length g.2 : Int))))]) rfl (by erw [Sl.form r146]; kernel_rfl)) ?_
        refine x_one 13 rfl (by kernel_rfl) rfl ?_
        refine o_store_bx (cs' := [Value.int .i64 g.1, (subV v142 2 (Int.toNat 0) (Int.toNat (List.length g.2 : Int)))]) tp24_d rfl rfl bx10 rfl (Nat.le_of_ble_eq_true rfl) (AllOne.all (.cons rfl (.cons (sl_one r146) .nil))) rfl ?_
        intro w147 ch148 bx149
        replace hbase := hbase.chg ch148 (is_ne rfl)
        replace r_g_v := r_g_v.chg ch148 (is_ne rfl)
        replace bx5 := bx5.chg ch148 (is_ne rfl)
        replace o134 := o134.chg ch148 (is_ne rfl) (is_ne rfl)
        replace o144 := o144.chg ch148 (is_ne rfl) (is_ne rfl)
        replace r146 := r146.chg ch148 (is_ne rfl)
        clear bx10
        refine x_nil (by kernel_rfl) ?_
        refine run_ret (vs := [Value.agg (List.toArray [Value.int .i64 g.1, (subV v142 2 (Int.toNat 0) (Int.toNat (List.length g.2 : Int)))])]) Try.func16 (.cell rfl (load_bxN (ds := [Value.int .i64 g.1, (subV v142 2 (Int.toNat 0) (Int.toNat (List.length g.2 : Int)))]) tp24_d bx149 rfl rfl) .nil) ?_
        -- return 7
        have e0 : ((g.1, (List.drop (Int.toNat 0) (List.take (Int.toNat (List.length g.2 : Int)) (g.2 ++ [(-7, 7)])))) : (Int) × (List ((Int) × (Int)))) = (g) := by
          simp
        exact ⟨(fin w0 g140 (fun n => if n = 3 then 1 else 0), (subV v142 2 (Int.toNat 0) (Int.toNat (List.length g.2 : Int)))), (congrArg (a₁ := (g.1, (List.drop (Int.toNat 0) (List.take (Int.toNat (List.length g.2 : Int)) (g.2 ++ [(-7, 7)]))))) (fun (z0 : (Int) × (List ((Int) × (Int)))) => Ending.returned (Value.agg (List.toArray [Value.int .i64 z0.1, (subV v142 2 (Int.toNat 0) (Int.toNat (List.length g.2 : Int)))]))) e0), hbase.fresh _, (upV_sub (o144.glue (γ := c0) (ren := (fun n => if n = 3 then 1 else 0)) (k := 1) hbase.col rfl rfl) (by simp))⟩
  · skip
    refine o_append (α := (Int) × (Int)) (xs := ([])) (ys := g.2) g9 (J := is 3) (S := is 3) (3, 0) rfl Try.underlying22 tp60_d (by decide) rfl rfl rfl Ow.nil r_g_v (by decide) (by first | omega | (simp; done) | (simp; omega)) ?_
    intro g150 w151 v152 ch153 o154
    replace hbase := hbase.chg ch153 (is_ne rfl)
    replace r_g_v := r_g_v.chg ch153 (is_ne rfl)
    replace bx5 := bx5.chg ch153 (is_ne rfl)
    replace bx10 := bx10.chg ch153 (is_ne rfl)
    replace o154 : Ow g150 (is 3) (is 3) w151 v152 g.2 := o154
    refine x_many 1 [6, 9] (by kernel_rfl) ⟨x_of 1 rfl (by kernel_rfl) rfl ?_, x_of 6 rfl (by kernel_rfl) rfl ?_, x_of 9 rfl (by kernel_rfl) rfl ?_, trivial⟩
    · skip
      refine o_of_val (v := Value.int .i64 g.1) (e_load_bx1 tp3_d rfl bx5 rfl) ?_
      refine x_two 6 9 rfl rfl (by kernel_rfl) rfl rfl ?_ ?_
      · skip
        refine o_buildSlice (α := (Int) × (Int)) g150 (is 4) (is 4) (4, 0) rfl [(-7, 7)] Try.underlying22 tp60_d (by decide) (by decide) (vs := [(0, Value.agg (List.toArray [Value.int .i64 (-7), Value.int .i64 7]))]) rfl rfl (.cons rfl .nil) ?_
        intro g155 w156 v157 ch158 o159
        replace hbase := hbase.chg ch158 (not_no _)
        replace r_g_v := r_g_v.chg ch158 (not_no _)
        replace bx5 := bx5.chg ch158 (not_no _)
        replace bx10 := bx10.chg ch158 (not_no _)
        replace o154 := o154.chg ch158 (not_no _) (not_no _)
        refine x_two 7 9 rfl rfl (by kernel_rfl) rfl rfl ?_ ?_
        · skip
          refine o_append (α := (Int) × (Int)) (xs := g.2) (ys := ([(-7, 7)])) g155 (J := is 3) (S := is 3) (3, 0) rfl Try.underlying22 tp60_d (by decide) rfl rfl rfl o154 o159.flat (by decide) (by first | omega | (simp; done) | (simp; omega)) ?_
          intro g160 w161 v162 ch163 o164
          replace hbase := hbase.chg ch163 (is_ne rfl)
          replace r_g_v := r_g_v.chg ch163 (is_ne rfl)
          replace bx5 := bx5.chg ch163 (is_ne rfl)
          replace bx10 := bx10.chg ch163 (is_ne rfl)
          replace o159 := o159.chg ch163 (is_ne rfl) (is_ne rfl)
          clear o154
          refine x_one 9 rfl (by kernel_rfl) rfl ?_
          refine o_of_val (v := g_v) (e_load_bx1 tp22_d rfl bx5 rfl) ?_
          have len165 := (r_g_v).small
          refine x_pure (v := Value.int .i64 (List.length g.2 : Int)) 10 rfl (by kernel_rfl) (by kernel_rfl) rfl (fun w => e_len Try.underlying22 rfl r_g_v) ?_
          refine x_pure (v := (subV v162 2 (Int.toNat 0) (Int.toNat (List.length g.2 : Int)))) 11 rfl (by kernel_rfl) (by kernel_rfl) rfl (fun w => e_slice (α := (Int) × (Int)) (xs := (g.2 ++ [(-7, 7)])) (v := v162) (l := 0) (h := (List.length g.2 : Int)) Try.underlying22 rfl rfl o164.flat (.inr ⟨rfl, rfl⟩) (.inl (congrArg some rfl)) (by first | omega | (simp only [List.length_append, List.length_cons, List.length_nil]; omega)) (by first | omega | (simp only [List.length_append, List.length_cons, List.length_nil]; omega)) (by first | omega | (simp only [List.length_append, List.length_cons, List.length_nil]; omega))) ?_
          have r167 := sl_sub o164.flat (show Int.toNat 0 ≤ Int.toNat (List.length g.2 : Int) by first | omega | (simp only [List.length_append, List.length_cons, List.length_nil]; omega)) (show Int.toNat (List.length g.2 : Int) ≤ List.length _ by first | omega | (simp only [List.length_append, List.length_cons, List.length_nil]; omega))
          refine x_pure (v := Value.agg (List.toArray [Value.int .i64 g.1, (subV v162 2 (Int.toNat 0) (Int.toNat (List.length g.2 : Int)))])) 12 rfl (by kernel_rfl) (by kernel_rfl) rfl (fun w => e_build (vs := [(0, Value.int .i64 g.1), (1, (subV v162 2 (Int.toNat 0) (Int.toNat (List.length g.2 : Int))))]) rfl (by erw [Sl.form r167]; kernel_rfl)) ?_
          refine x_one 13 rfl (by kernel_rfl) rfl ?_
          refine o_store_bx (cs' := [Value.int .i64 g.1, (subV v162 2 (Int.toNat 0) (Int.toNat (List.length g.2 : Int)))]) tp24_d rfl rfl bx10 rfl (Nat.le_of_ble_eq_true rfl) (AllOne.all (.cons rfl (.cons (sl_one r167) .nil))) rfl ?_
          intro w168 ch169 bx170
          replace hbase := hbase.chg ch169 (is_ne rfl)
          replace r_g_v := r_g_v.chg ch169 (is_ne rfl)
          replace bx5 := bx5.chg ch169 (is_ne rfl)
          replace o159 := o159.chg ch169 (is_ne rfl) (is_ne rfl)
          replace o164 := o164.chg ch169 (is_ne rfl) (is_ne rfl)
          replace r167 := r167.chg ch169 (is_ne rfl)
          clear bx10
          refine x_nil (by kernel_rfl) ?_
          refine run_ret (vs := [Value.agg (List.toArray [Value.int .i64 g.1, (subV v162 2 (Int.toNat 0) (Int.toNat (List.length g.2 : Int)))])]) Try.func16 (.cell rfl (load_bxN (ds := [Value.int .i64 g.1, (subV v162 2 (Int.toNat 0) (Int.toNat (List.length g.2 : Int)))]) tp24_d bx170 rfl rfl) .nil) ?_
          -- return 8
          have e0 : ((g.1, (List.drop (Int.toNat 0) (List.take (Int.toNat (List.length g.2 : Int)) (g.2 ++ [(-7, 7)])))) : (Int) × (List ((Int) × (Int)))) = (g) := by
            simp
          exact ⟨(fin w0 g160 (fun n => if n = 3 then 1 else 0), (subV v162 2 (Int.toNat 0) (Int.toNat (List.length g.2 : Int)))), (congrArg (a₁ := (g.1, (List.drop (Int.toNat 0) (List.take (Int.toNat (List.length g.2 : Int)) (g.2 ++ [(-7, 7)]))))) (fun (z0 : (Int) × (List ((Int) × (Int)))) => Ending.returned (Value.agg (List.toArray [Value.int .i64 z0.1, (subV v162 2 (Int.toNat 0) (Int.toNat (List.length g.2 : Int)))]))) e0), hbase.fresh _, (upV_sub (o164.glue (γ := c0) (ren := (fun n => if n = 3 then 1 else 0)) (k := 1) hbase.col rfl rfl) (by simp))⟩
        · skip
          refine o_of_val (v := g_v) (e_load_bx1 tp22_d rfl bx5 rfl) ?_
          have len171 := (r_g_v).small
          refine x_pure (v := Value.int .i64 (List.length g.2 : Int)) 10 rfl (by kernel_rfl) (by kernel_rfl) rfl (fun w => e_len Try.underlying22 rfl r_g_v) ?_
          refine x_one 7 rfl (by kernel_rfl) rfl ?_
          refine o_append (α := (Int) × (Int)) (xs := g.2) (ys := ([(-7, 7)])) g155 (J := is 3) (S := is 3) (3, 0) rfl Try.underlying22 tp60_d (by decide) rfl rfl rfl o154 o159.flat (by decide) (by first | omega | (simp; done) | (simp; omega)) ?_
          intro g172 w173 v174 ch175 o176
          replace hbase := hbase.chg ch175 (is_ne rfl)
          replace r_g_v := r_g_v.chg ch175 (is_ne rfl)
          replace bx5 := bx5.chg ch175 (is_ne rfl)
          replace bx10 := bx10.chg ch175 (is_ne rfl)
          replace o159 := o159.chg ch175 (is_ne rfl) (is_ne rfl)
          clear o154
          refine x_pure (v := (subV v174 2 (Int.toNat 0) (Int.toNat (List.length g.2 : Int)))) 11 rfl (by kernel_rfl) (by kernel_rfl) rfl (fun w => e_slice (α := (Int) × (Int)) (xs := (g.2 ++ [(-7, 7)])) (v := v174) (l := 0) (h := (List.length g.2 : Int)) Try.underlying22 rfl rfl o176.flat (.inr ⟨rfl, rfl⟩) (.inl (congrArg some rfl)) (by first | omega | (simp only [List.length_append, List.length_cons, List.length_nil]; omega)) (by first | omega | (simp only [List.length_append, List.length_cons, List.length_nil]; omega)) (by first | omega | (simp only [List.length_append, List.length_cons, List.length_nil]; omega))) ?_
          have r178 := sl_sub o176.flat (show Int.toNat 0 ≤ Int.toNat (List.length g.2 : Int) by first | omega | (simp only [List.length_append, List.length_cons, List.length_nil]; omega)) (show Int.toNat (List.length g.2 : Int) ≤ List.length _ by first | omega | (simp only [List.length_append, List.length_cons, List.length_nil]; omega))
          refine x_pure (v := Value.agg (List.toArray [Value.int .i64 g.1, (subV v174 2 (Int.toNat 0) (Int.toNat (List.length g.2 : Int)))])) 12 rfl (by kernel_rfl) (by kernel_rfl) rfl (fun w => e_build (vs := [(0, Value.int .i64 g.1), (1, (subV v174 2 (Int.toNat 0) (Int.toNat (List.length g.2 : Int))))]) rfl (by erw [Sl.form r178]; kernel_rfl)) ?_
          refine x_one 13 rfl (by kernel_rfl) rfl ?_
          refine o_store_bx (cs' := [Value.int .i64 g.1, (subV v174 2 (Int.toNat 0) (Int.toNat (List.length g.2 : Int)))]) tp24_d rfl rfl bx10 rfl (Nat.le_of_ble_eq_true rfl) (AllOne.all (.cons rfl (.cons (sl_one r178) .nil))) rfl ?_
          intro w179 ch180 bx181
          replace hbase := hbase.chg ch180 (is_ne rfl)
          replace r_g_v := r_g_v.chg ch180 (is_ne rfl)
          replace bx5 := bx5.chg ch180 (is_ne rfl)
          replace o159 := o159.chg ch180 (is_ne rfl) (is_ne rfl)
          replace o176 := o176.chg ch180 (is_ne rfl) (is_ne rfl)
          replace r178 := r178.chg ch180 (is_ne rfl)
          clear bx10
          refine x_nil (by kernel_rfl) ?_
          refine run_ret (vs := [Value.agg (List.toArray [Value.int .i64 g.1, (subV v174 2 (Int.toNat 0) (Int.toNat (List.length g.2 : Int)))])]) Try.func16 (.cell rfl (load_bxN (ds := [Value.int .i64 g.1, (subV v174 2 (Int.toNat 0) (Int.toNat (List.length g.2 : Int)))]) tp24_d bx181 rfl rfl) .nil) ?_
          -- return 9
          have e0 : ((g.1, (List.drop (Int.toNat 0) (List.take (Int.toNat (List.length g.2 : Int)) (g.2 ++ [(-7, 7)])))) : (Int) × (List ((Int) × (Int)))) = (g) := by
            simp
          exact ⟨(fin w0 g172 (fun n => if n = 3 then 1 else 0), (subV v174 2 (Int.toNat 0) (Int.toNat (List.length g.2 : Int)))), (congrArg (a₁ := (g.1, (List.drop (Int.toNat 0) (List.take (Int.toNat (List.length g.2 : Int)) (g.2 ++ [(-7, 7)]))))) (fun (z0 : (Int) × (List ((Int) × (Int)))) => Ending.returned (Value.agg (List.toArray [Value.int .i64 z0.1, (subV v174 2 (Int.toNat 0) (Int.toNat (List.length g.2 : Int)))]))) e0), hbase.fresh _, (upV_sub (o176.glue (γ := c0) (ren := (fun n => if n = 3 then 1 else 0)) (k := 1) hbase.col rfl rfl) (by simp))⟩
      · skip
        refine o_of_val (v := g_v) (e_load_bx1 tp22_d rfl bx5 rfl) ?_
        have len182 := (r_g_v).small
        refine x_pure (v := Value.int .i64 (List.length g.2 : Int)) 10 rfl (by kernel_rfl) (by kernel_rfl) rfl (fun w => e_len Try.underlying22 rfl r_g_v) ?_
        refine x_one 6 rfl (by kernel_rfl) rfl ?_
        refine o_buildSlice (α := (Int) × (Int)) g150 (is 4) (is 4) (4, 0) rfl [(-7, 7)] Try.underlying22 tp60_d (by decide) (by decide) (vs := [(0, Value.agg (List.toArray [Value.int .i64 (-7), Value.int .i64 7]))]) rfl rfl (.cons rfl .nil) ?_
        intro g183 w184 v185 ch186 o187
        replace hbase := hbase.chg ch186 (not_no _)
        replace r_g_v := r_g_v.chg ch186 (not_no _)
        replace bx5 := bx5.chg ch186 (not_no _)
        replace bx10 := bx10.chg ch186 (not_no _)
        replace o154 := o154.chg ch186 (not_no _) (not_no _)
        refine x_one 7 rfl (by kernel_rfl) rfl ?_
        refine o_append (α := (Int) × (Int)) (xs := g.2) (ys := ([(-7, 7)])) g183 (J := is 3) (S := is 3) (3, 0) rfl Try.underlying22 tp60_d (by decide) rfl rfl rfl o154 o187.flat (by decide) (by first | omega | (simp; done) | (simp; omega)) ?_
        intro g188 w189 v190 ch191 o192
        replace hbase := hbase.chg ch191 (is_ne rfl)
        replace r_g_v := r_g_v.chg ch191 (is_ne rfl)
        replace bx5 := bx5.chg ch191 (is_ne rfl)
        replace bx10 := bx10.chg ch191 (is_ne rfl)
        replace o187 := o187.chg ch191 (is_ne rfl) (is_ne rfl)
        clear o154
        refine x_pure (v := (subV v190 2 (Int.toNat 0) (Int.toNat (List.length g.2 : Int)))) 11 rfl (by kernel_rfl) (by kernel_rfl) rfl (fun w => e_slice (α := (Int) × (Int)) (xs := (g.2 ++ [(-7, 7)])) (v := v190) (l := 0) (h := (List.length g.2 : Int)) Try.underlying22 rfl rfl o192.flat (.inr ⟨rfl, rfl⟩) (.inl (congrArg some rfl)) (by first | omega | (simp only [List.length_append, List.length_cons, List.length_nil]; omega)) (by first | omega | (simp only [List.length_append, List.length_cons, List.length_nil]; omega)) (by first | omega | (simp only [List.length_append, List.length_cons, List.length_nil]; omega))) ?_
        have r194 := sl_sub o192.flat (show Int.toNat 0 ≤ Int.toNat (List.length g.2 : Int) by first | omega | (simp only [List.length_append, List.length_cons, List.length_nil]; omega)) (show Int.toNat (List.length g.2 : Int) ≤ List.length _ by first | omega | (simp only [List.length_append, List.length_cons, List.length_nil]; omega))
        refine x_pure (v := Value.agg (List.toArray [Value.int .i64 g.1, (subV v190 2 (Int.toNat 0) (Int.toNat (List.length g.2 : Int)))])) 12 rfl (by kernel_rfl) (by kernel_rfl) rfl (fun w => e_build (vs := [(0, Value.int .i64 g.1), (1, (subV v190 2 (Int.toNat 0) (Int.toNat (List.length g.2 : Int))))]) rfl (by erw [Sl.form r194]; kernel_rfl)) ?_
        refine x_one 13 rfl (by kernel_rfl) rfl ?_
        refine o_store_bx (cs' := [Value.int .i64 g.1, (subV v190 2 (Int.toNat 0) (Int.toNat (List.length g.2 : Int)))]) tp24_d rfl rfl bx10 rfl (Nat.le_of_ble_eq_true rfl) (AllOne.all (.cons rfl (.cons (sl_one r194) .nil))) rfl ?_
        intro w195 ch196 bx197
        replace hbase := hbase.chg ch196 (is_ne rfl)
        replace r_g_v := r_g_v.chg ch196 (is_ne rfl)
        replace bx5 := bx5.chg ch196 (is_ne rfl)
        replace o187 := o187.chg ch196 (is_ne rfl) (is_ne rfl)
        replace o192 := o192.chg ch196 (is_ne rfl) (is_ne rfl)
        replace r194 := r194.chg ch196 (is_ne rfl)
        clear bx10
        refine x_nil (by kernel_rfl) ?_
        refine run_ret (vs := [Value.agg (List.toArray [Value.int .i64 g.1, (subV v190 2 (Int.toNat 0) (Int.toNat (List.length g.2 : Int)))])]) Try.func16 (.cell rfl (load_bxN (ds := [Value.int .i64 g.1, (subV v190 2 (Int.toNat 0) (Int.toNat (List.length g.2 : Int)))]) tp24_d bx197 rfl rfl) .nil) ?_
        -- return 10
        have e0 : ((g.1, (List.drop (Int.toNat 0) (List.take (Int.toNat (List.length g.2 : Int)) (g.2 ++ [(-7, 7)])))) : (Int) × (List ((Int) × (Int)))) = (g) := by
          simp
        exact ⟨(fin w0 g188 (fun n => if n = 3 then 1 else 0), (subV v190 2 (Int.toNat 0) (Int.toNat (List.length g.2 : Int)))), (congrArg (a₁ := (g.1, (List.drop (Int.toNat 0) (List.take (Int.toNat (List.length g.2 : Int)) (g.2 ++ [(-7, 7)]))))) (fun (z0 : (Int) × (List ((Int) × (Int)))) => Ending.returned (Value.agg (List.toArray [Value.int .i64 z0.1, (subV v190 2 (Int.toNat 0) (Int.toNat (List.length g.2 : Int)))]))) e0), hbase.fresh _, (upV_sub (o192.glue (γ := c0) (ren := (fun n => if n = 3 then 1 else 0)) (k := 1) hbase.col rfl rfl) (by simp))⟩
    · skip
      refine o_buildSlice (α := (Int) × (Int)) g150 (is 4) (is 4) (4, 0) rfl [(-7, 7)] Try.underlying22 tp60_d (by decide) (by decide) (vs := [(0, Value.agg (List.toArray [Value.int .i64 (-7), Value.int .i64 7]))]) rfl rfl (.cons rfl .nil) ?_
      intro g198 w199 v200 ch201 o202
      replace hbase := hbase.chg ch201 (not_no _)
      replace r_g_v := r_g_v.chg ch201 (not_no _)
      replace bx5 := bx5.chg ch201 (not_no _)
      replace bx10 := bx10.chg ch201 (not_no _)
      replace o154 := o154.chg ch201 (not_no _) (not_no _)
      refine x_many 1 [7, 9] (by kernel_rfl) ⟨x_of 1 rfl (by kernel_rfl) rfl ?_, x_of 7 rfl (by kernel_rfl) rfl ?_, x_of 9 rfl (by kernel_rfl) rfl ?_, trivial⟩
      · skip
        refine o_of_val (v := Value.int .i64 g.1) (e_load_bx1 tp3_d rfl bx5 rfl) ?_
        refine x_two 7 9 rfl rfl (by kernel_rfl) rfl rfl ?_ ?_
        · skip
          refine o_append (α := (Int) × (Int)) (xs := g.2) (ys := ([(-7, 7)])) g198 (J := is 3) (S := is 3) (3, 0) rfl Try.underlying22 tp60_d (by decide) rfl rfl rfl o154 o202.flat (by decide) (by first | omega | (simp; done) | (simp; omega)) ?_
          intro g203 w204 v205 ch206 o207
          replace hbase := hbase.chg ch206 (is_ne rfl)
          replace r_g_v := r_g_v.chg ch206 (is_ne rfl)
          replace bx5 := bx5.chg ch206 (is_ne rfl)
          replace bx10 := bx10.chg ch206 (is_ne rfl)
          replace o202 := o202.chg ch206 (is_ne rfl) (is_ne rfl)
          clear o154
          refine x_one 9 rfl (by kernel_rfl) rfl ?_
          refine o_of_val (v := g_v) (e_load_bx1 tp22_d rfl bx5 rfl) ?_
          have len208 := (r_g_v).small
          refine x_pure (v := Value.int .i64 (List.length g.2 : Int)) 10 rfl (by kernel_rfl) (by kernel_rfl) rfl (fun w => e_len Try.underlying22 rfl r_g_v) ?_
          refine x_pure (v := (subV v205 2 (Int.toNat 0) (Int.toNat (List.length g.2 : Int)))) 11 rfl (by kernel_rfl) (by kernel_rfl) rfl (fun w => e_slice (α := (Int) × (Int)) (xs := (g.2 ++ [(-7, 7)])) (v := v205) (l := 0) (h := (List.length g.2 : Int)) Try.underlying22 rfl rfl o207.flat (.inr ⟨rfl, rfl⟩) (.inl (congrArg some rfl)) (by first | omega | (simp only [List.length_append, List.length_cons, List.length_nil]; omega)) (by first | omega | (simp only [List.length_append, List.length_cons, List.length_nil]; omega)) (by first | omega | (simp only [List.length_append, List.length_cons, List.length_nil]; omega))) ?_
          have r210 := sl_sub o207.flat (show Int.toNat 0 ≤ Int.toNat (List.length g.2 : Int) by first | omega | (simp only [List.length_append, List.length_cons, List.length_nil]; omega)) (show Int.toNat (List.length g.2 : Int) ≤ List.length _ by first | omega | (simp only [List.length_append, List.length_cons, List.length_nil]; omega))
          refine x_pure (v := Value.agg (List.toArray [Value.int .i64 g.1, (subV v205 2 (Int.toNat 0) (Int.toNat (List.length g.2 : Int)))])) 12 rfl (by kernel_rfl) (by kernel_rfl) rfl (fun w => e_build (vs := [(0, Value.int .i64 g.1), (1, (subV v205 2 (Int.toNat 0) (Int.toNat (List.length g.2 : Int))))]) rfl (by erw [Sl.form r210]; kernel_rfl)) ?_
          refine x_one 13 rfl (by kernel_rfl) rfl ?_
          refine o_store_bx (cs' := [Value.int .i64 g.1, (subV v205 2 (Int.toNat 0) (Int.toNat (List.length g.2 : Int)))]) tp24_d rfl rfl bx10 rfl (Nat.le_of_ble_eq_true rfl) (AllOne.all (.cons rfl (.cons (sl_one r210) .nil))) rfl ?_
          intro w211 ch212 bx213
          replace hbase := hbase.chg ch212 (is_ne rfl)
          replace r_g_v := r_g_v.chg ch212 (is_ne rfl)
          replace bx5 := bx5.chg ch212 (is_ne rfl)
          replace o202 := o202.chg ch212 (is_ne rfl) (is_ne rfl)
          replace o207 := o207.chg ch212 (is_ne rfl) (is_ne rfl)
          replace r210 := r210.chg ch212 (is_ne rfl)
          clear bx10
          refine x_nil (by kernel_rfl) ?_
          refine run_ret (vs := [Value.agg (List.toArray [Value.int .i64 g.1, (subV v205 2 (Int.toNat 0) (Int.toNat (List.length g.2 : Int)))])]) Try.func16 (.cell rfl (load_bxN (ds := [Value.int .i64 g.1, (subV v205 2 (Int.toNat 0) (Int.toNat (List.length g.2 : Int)))]) tp24_d bx213 rfl rfl) .nil) ?_
          -- return 11
          have e0 : ((g.1, (List.drop (Int.toNat 0) (List.take (Int.toNat (List.length g.2 : Int)) (g.2 ++ [(-7, 7)])))) : (Int) × (List ((Int) × (Int)))) = (g) := by
            simp
          exact ⟨(fin w0 g203 (fun n => if n = 3 then 1 else 0), (subV v205 2 (Int.toNat 0) (Int.toNat (List.length g.2 : Int)))), (congrArg (a₁ := (g.1, (List.drop (Int.toNat 0) (List.take (Int.toNat (List.length g.2 : Int)) (g.2 ++ [(-7, 7)]))))) (fun (z0 : (Int) × (List ((Int) × (Int)))) => Ending.returned (Value.agg (List.toArray [Value.int .i64 z0.1, (subV v205 2 (Int.toNat 0) (Int.toNat (List.length g.2 : Int)))]))) e0), hbase.fresh _, (upV_sub (o207.glue (γ := c0) (ren := (fun n => if n = 3 then 1 else 0)) (k := 1) hbase.col rfl rfl) (by simp))⟩
        · skip
          refine o_of_val (v := g_v) (e_load_bx1 tp22_d rfl bx5 rfl) ?_
          have len214 := (r_g_v).small
          refine x_pure (v := Value.int .i64 (List.length g.2 : Int)) 10 rfl (by kernel_rfl) (by kernel_rfl) rfl (fun w => e_len Try.underlying22 rfl r_g_v) ?_
          refine x_one 7 rfl (by kernel_rfl) rfl ?_
          refine o_append (α := (Int) × (Int)) (xs := g.2) (ys := ([(-7, 7)])) g198 (J := is 3) (S := is 3) (3, 0) rfl Try.underlying22 tp60_d (by decide) rfl rfl rfl o154 o202.flat (by decide) (by first | omega | (simp; done) | (simp; omega)) ?_
          intro g215 w216 v217 ch218 o219
          replace hbase := hbase.chg ch218 (is_ne rfl)
          replace r_g_v := r_g_v.chg ch218 (is_ne rfl)
          replace bx5 := bx5.chg ch218 (is_ne rfl)
          replace bx10 := bx10.chg ch218 (is_ne rfl)
          replace o202 := o202.chg ch218 (is_ne rfl) (is_ne rfl)
          clear o154
          refine x_pure (v := (subV v217 2 (Int.toNat 0) (Int.toNat (List.length g.2 : Int)))) 11 rfl (by kernel_rfl) (by kernel_rfl) rfl (fun w => e_slice (α := (Int) × (Int)) (xs := (g.2 ++ [(-7, 7)])) (v := v217) (l := 0) (h := (List.length g.2 : Int)) Try.underlying22 rfl rfl o219.flat (.inr ⟨rfl, rfl⟩) (.inl (congrArg some rfl)) (by first | omega | (simp only [List.length_append, List.length_cons, List.length_nil]; omega)) (by first | omega | (simp only [List.length_append, List.length_cons, List.length_nil]; omega)) (by first | omega | (simp only [List.length_append, List.length_cons, List.length_nil]; omega))) ?_
          have r221 := sl_sub o219.flat (show Int.toNat 0 ≤ Int.toNat (List.length g.2 : Int) by first | omega | (simp only [List.length_append, List.length_cons, List.length_nil]; omega)) (show Int.toNat (List.length g.2 : Int) ≤ List.length _ by first | omega | (simp only [List.length_append, List.length_cons, List.length_nil]; omega))
          refine x_pure (v := Value.agg (List.toArray [Value.int .i64 g.1, (subV v217 2 (Int.toNat 0) (Int.toNat (List.length g.2 : Int)))])) 12 rfl (by kernel_rfl) (by kernel_rfl) rfl (fun w => e_build (vs := [(0, Value.int .i64 g.1), (1, (subV v217 2 (Int.toNat 0) (Int.toNat (List.length g.2 : Int))))]) rfl (by erw [Sl.form r221]; kernel_rfl)) ?_
          refine x_one 13 rfl (by kernel_rfl) rfl ?_
          refine o_store_bx (cs' := [Value.int .i64 g.1, (subV v217 2 (Int.toNat 0) (Int.toNat (List.length g.2 : Int)))]) tp24_d rfl rfl bx10 rfl (Nat.le_of_ble_eq_true rfl) (AllOne.all (.cons rfl (.cons (sl_one r221) .nil))) rfl ?_
          intro w222 ch223 bx224
          replace hbase := hbase.chg ch223 (is_ne rfl)
          replace r_g_v := r_g_v.chg ch223 (is_ne rfl)
          replace bx5 := bx5.chg ch223 (is_ne rfl)
          replace o202 := o202.chg ch223 (is_ne rfl) (is_ne rfl)
          replace o219 := o219.chg ch223 (is_ne rfl) (is_ne rfl)
          replace r221 := r221.chg ch223 (is_ne rfl)
          clear bx10
          refine x_nil (by kernel_rfl) ?_
          refine run_ret (vs := [Value.agg (List.toArray [Value.int .i64 g.1, (subV v217 2 (Int.toNat 0) (Int.toNat (List.length g.2 : Int)))])]) Try.func16 (.cell rfl (load_bxN (ds := [Value.int .i64 g.1, (subV v217 2 (Int.toNat 0) (Int.toNat (List.length g.2 : Int)))]) tp24_d bx224 rfl rfl) .nil) ?_
          -- return 12
          have e0 : ((g.1, (List.drop (Int.toNat 0) (List.take (Int.toNat (List.length g.2 : Int)) (g.2 ++ [(-7, 7)])))) : (Int) × (List ((Int) × (Int)))) = (g) := by
            simp
          exact ⟨(fin w0 g215 (fun n => if n = 3 then 1 else 0), (subV v217 2 (Int.toNat 0) (Int.toNat (List.length g.2 : Int)))), (congrArg (a₁ := (g.1, (List.drop (Int.toNat 0) (List.take (Int.toNat (List.length g.2 : Int)) (g.2 ++ [(-7, 7)]))))) (fun (z0 : (Int) × (List ((Int) × (Int)))) => Ending.returned (Value.agg (List.toArray [Value.int .i64 z0.1, (subV v217 2 (Int.toNat 0) (Int.toNat (List.length g.2 : Int)))]))) e0), hbase.fresh _, (upV_sub (o219.glue (γ := c0) (ren := (fun n => if n = 3 then 1 else 0)) (k := 1) hbase.col rfl rfl) (by simp))⟩
      · skip
        refine o_append (α := (Int) × (Int)) (xs := g.2) (ys := ([(-7, 7)])) g198 (J := is 3) (S := is 3) (3, 0) rfl Try.underlying22 tp60_d (by decide) rfl rfl rfl o154 o202.flat (by decide) (by first | omega | (simp; done) | (simp; omega)) ?_
        intro g225 w226 v227 ch228 o229
        replace hbase := hbase.chg ch228 (is_ne rfl)
        replace r_g_v := r_g_v.chg ch228 (is_ne rfl)
        replace bx5 := bx5.chg ch228 (is_ne rfl)
        replace bx10 := bx10.chg ch228 (is_ne rfl)
        replace o202 := o202.chg ch228 (is_ne rfl) (is_ne rfl)
        clear o154
        refine x_two 1 9 rfl rfl (by kernel_rfl) rfl rfl ?_ ?_
        · skip
          refine o_of_val (v := Value.int .i64 g.1) (e_load_bx1 tp3_d rfl bx5 rfl) ?_
          refine x_one 9 rfl (by kernel_rfl) rfl ?_
          refine o_of_val (v := g_v) (e_load_bx1 tp22_d rfl bx5 rfl) ?_
          have len230 := (r_g_v).small
          refine x_pure (v := Value.int .i64 (List.length g.2 : Int)) 10 rfl (by kernel_rfl) (by kernel_rfl) rfl (fun w => e_len Try.underlying22 rfl r_g_v) ?_
          refine x_pure (v := (subV v227 2 (Int.toNat 0) (Int.toNat (List.length g.2 : Int)))) 11 rfl (by kernel_rfl) (by kernel_rfl) rfl (fun w => e_slice (α := (Int) × (Int)) (xs := (g.2 ++ [(-7, 7)])) (v := v227) (l := 0) (h := (List.length g.2 : Int)) Try.underlying22 rfl rfl o229.flat (.inr ⟨rfl, rfl⟩) (.inl (congrArg some rfl)) (by first | omega | (simp only [List.length_append, List.length_cons, List.length_nil]; omega)) (by first | omega | (simp only [List.length_append, List.length_cons, List.length_nil]; omega)) (by first | omega | (simp only [List.length_append, List.length_cons, List.length_nil]; omega))) ?_
          have r232 := sl_sub o229.flat (show Int.toNat 0 ≤ Int.toNat (List.length g.2 : Int) by first | omega | (simp only [List.length_append, List.length_cons, List.length_nil]; omega)) (show Int.toNat (List.length g.2 : Int) ≤ List.length _ by first | omega | (simp only [List.length_append, List.length_cons, List.length_nil]; omega))
          refine x_pure (v := Value.agg (List.toArray [Value.int .i64 g.1, (subV v227 2 (Int.toNat 0) (Int.toNat (List.length g.2 : Int)))])) 12 rfl (by kernel_rfl) (by kernel_rfl) rfl (fun w => e_build (vs := [(0, Value.int .i64 g.1), (1, (subV v227 2 (Int.toNat 0) (Int.toNat (List.length g.2 : Int))))]) rfl (by erw [Sl.form r232]; kernel_rfl)) ?_
          refine x_one 13 rfl (by kernel_rfl) rfl ?_
          refine o_store_bx (cs' := [Value.int .i64 g.1, (subV v227 2 (Int.toNat 0) (Int.toNat (List.length g.2 : Int)))]) tp24_d rfl rfl bx10 rfl (Nat.le_of_ble_eq_true rfl) (AllOne.all (.cons rfl (.cons (sl_one r232) .nil))) rfl ?_
          intro w233 ch234 bx235
          replace hbase := hbase.chg ch234 (is_ne rfl)
          replace r_g_v := r_g_v.chg ch234 (is_ne rfl)
          replace bx5 := bx5.chg ch234 (is_ne rfl)
          replace o202 := o202.chg ch234 (is_ne rfl) (is_ne rfl)
          replace o229 := o229.chg ch234 (is_ne rfl) (is_ne rfl)
          replace r232 := r232.chg ch234 (is_ne rfl)
          clear bx10
          refine x_nil (by kernel_rfl) ?_
          refine run_ret (vs := [Value.agg (List.toArray [Value.int .i64 g.1, (subV v227 2 (Int.toNat 0) (Int.toNat (List.length g.2 : Int)))])]) Try.func16 (.cell rfl (load_bxN (ds := [Value.int .i64 g.1, (subV v227 2 (Int.toNat 0) (Int.toNat (List.length g.2 : Int)))]) tp24_d bx235 rfl rfl) .nil) ?_
          -- return 13
          have e0 : ((g.1, (List.drop (Int.toNat 0) (List.take (Int.toNat (List.length g.2 : Int)) (g.2 ++ [(-7, 7)])))) : (Int) × (List ((Int) × (Int)))) = (g) := by
            simp
          exact ⟨(fin w0 g225 (fun n => if n = 3 then 1 else 0), (subV v227 2 (Int.toNat 0) (Int.toNat (List.length g.2 : Int)))), (congrArg (a₁ := (g.1, (List.drop (Int.toNat 0) (List.take (Int.toNat (List.length g.2 : Int)) (g.2 ++ [(-7, 7)]))))) (fun (z0 : (Int) × (List ((Int) × (Int)))) => Ending.returned (Value.agg (List.toArray [Value.int .i64 z0.1, (subV v227 2 (Int.toNat 0) (Int.toNat (List.length g.2 : Int)))]))) e0), hbase.fresh _, (upV_sub (o229.glue (γ := c0) (ren := (fun n => if n = 3 then 1 else 0)) (k := 1) hbase.col rfl rfl) (by simp))⟩
        · skip
          refine o_of_val (v := g_v) (e_load_bx1 tp22_d rfl bx5 rfl) ?_
          have len236 := (r_g_v).small
          refine x_pure (v := Value.int .i64 (List.length g.2 : Int)) 10 rfl (by kernel_rfl) (by kernel_rfl) rfl (fun w => e_len Try.underlying22 rfl r_g_v) ?_
          refine x_pure (v := (subV v227 2 (Int.toNat 0) (Int.toNat (List.length g.2 : Int)))) 11 rfl (by kernel_rfl) (by kernel_rfl) rfl (fun w => e_slice (α := (Int) × (Int)) (xs := (g.2 ++ [(-7, 7)])) (v := v227) (l := 0) (h := (List.length g.2 : Int)) Try.underlying22 rfl rfl o229.flat (.inr ⟨rfl, rfl⟩) (.inl (congrArg some rfl)) (by first | omega | (simp only [List.length_append, List.length_cons, List.length_nil]; omega)) (by first | omega | (simp only [List.length_append, List.length_cons, List.length_nil]; omega)) (by first | omega | (simp only [List.length_append, List.length_cons, List.length_nil]; omega))) ?_
          have r238 := sl_sub o229.flat (show Int.toNat 0 ≤ Int.toNat (List.length g.2 : Int) by first | omega | (simp only [List.length_append, List.length_cons, List.length_nil]; omega)) (show Int.toNat (List.length g.2 : Int) ≤ List.length _ by first | omega | (simp only [List.length_append, List.length_cons, List.length_nil]; omega))
          refine x_one 1 rfl (by kernel_rfl) rfl ?_
          refine o_of_val (v := Value.int .i64 g.1) (e_load_bx1 tp3_d rfl bx5 rfl) ?_
          refine x_pure (v := Value.agg (List.toArray [Value.int .i64 g.1, (subV v227 2 (Int.toNat 0) (Int.toNat (List.length g.2 : Int)))])) 12 rfl (by kernel_rfl) (by kernel_rfl) rfl (fun w => e_build (vs := [(0, Value.int .i64 g.1), (1, (subV v227 2 (Int.toNat 0) (Int.toNat (List.length g.2 : Int))))]) rfl (by erw [Sl.form r238]; kernel_rfl)) ?_
          refine x_one 13 rfl (by kernel_rfl) rfl ?_
          refine o_store_bx (cs' := [Value.int .i64 g.1, (subV v227 2 (Int.toNat 0) (Int.toNat (List.length g.2 : Int)))]) tp24_d rfl rfl bx10 rfl (Nat.le_of_ble_eq_true rfl) (AllOne.all (.cons rfl (.cons (sl_one r238) .nil))) rfl ?_
          intro w239 ch240 bx241
          replace hbase := hbase.chg ch240 (is_ne rfl)
          replace r_g_v := r_g_v.chg ch240 (is_ne rfl)
          replace bx5 := bx5.chg ch240 (is_ne rfl)
          replace o202 := o202.chg ch240 (is_ne rfl) (is_ne rfl)
          replace o229 := o229.chg ch240 (is_ne rfl) (is_ne rfl)
          replace r238 := r238.chg ch240 (is_ne rfl)
          clear bx10
          refine x_nil (by kernel_rfl) ?_
          refine run_ret (vs := [Value.agg (List.toArray [Value.int .i64 g.1, (subV v227 2 (Int.toNat 0) (Int.toNat (List.length g.2 : Int)))])]) Try.func16 (.cell rfl (load_bxN (ds := [Value.int .i64 g.1, (subV v227 2 (Int.toNat 0) (Int.toNat (List.length g.2 : Int)))]) tp24_d bx241 rfl rfl) .nil) ?_
          -- return 14
          have e0 : ((g.1, (List.drop (Int.toNat 0) (List.take (Int.toNat (List.length g.2 : Int)) (g.2 ++ [(-7, 7)])))) : (Int) × (List ((Int) × (Int)))) = (g) := by
            simp
          exact ⟨(fin w0 g225 (fun n => if n = 3 then 1 else 0), (subV v227 2 (Int.toNat 0) (Int.toNat (List.length g.2 : Int)))), (congrArg (a₁ := (g.1, (List.drop (Int.toNat 0) (List.take (Int.toNat (List.length g.2 : Int)) (g.2 ++ [(-7, 7)]))))) (fun (z0 : (Int) × (List ((Int) × (Int)))) => Ending.returned (Value.agg (List.toArray [Value.int .i64 z0.1, (subV v227 2 (Int.toNat 0) (Int.toNat (List.length g.2 : Int)))]))) e0), hbase.fresh _, (upV_sub (o229.glue (γ := c0) (ren := (fun n => if n = 3 then 1 else 0)) (k := 1) hbase.col rfl rfl) (by simp))⟩
      · skip
        refine o_of_val (v := g_v) (e_load_bx1 tp22_d rfl bx5 rfl) ?_
        have len242 := (r_g_v).small
        refine x_pure (v := Value.int .i64 (List.length g.2 : Int)) 10 rfl (by kernel_rfl) (by kernel_rfl) rfl (fun w => e_len Try.underlying22 rfl r_g_v) ?_
        refine x_two 1 7 rfl rfl (by kernel_rfl) rfl rfl ?_ ?_
        · skip
          refine o_of_val (v := Value.int .i64 g.1) (e_load_bx1 tp3_d rfl bx5 rfl) ?_
          refine x_one 7 rfl (by kernel_rfl) rfl ?_
          refine o_append (α := (Int) × (Int)) (xs := g.2) (ys := ([(-7, 7)])) g198 (J := is 3) (S := is 3) (3, 0) rfl Try.underlying22 tp60_d (by decide) rfl rfl rfl o154 o202.flat (by decide) (by first | omega | (simp; done) | (simp; omega)) ?_
          intro g243 w244 v245 ch246 o247
          replace hbase := hbase.chg ch246 (is_ne rfl)
          replace r_g_v := r_g_v.chg ch246 (is_ne rfl)
          replace bx5 := bx5.chg ch246 (is_ne rfl)
          replace bx10 := bx10.chg ch246 (is_ne rfl)
          replace o202 := o202.chg ch246 (is_ne rfl) (is_ne rfl)
          clear o154
          refine x_pure (v := (subV v245 2 (Int.toNat 0) (Int.toNat (List.length g.2 : Int)))) 11 rfl (by kernel_rfl) (by kernel_rfl) rfl (fun w => e_slice (α := (Int) × (Int)) (xs := (g.2 ++ [(-7, 7)])) (v := v245) (l := 0) (h := (List.length g.2 : Int)) Try.underlying22 rfl rfl o247.flat (.inr ⟨rfl, rfl⟩) (.inl (congrArg some rfl)) (by first | omega | (simp only [List.length_append, List.length_cons, List.length_nil]; omega)) (by first | omega | (simp only [List.length_append, List.length_cons, List.length_nil]; omega)) (by first | omega | (simp only [List.length_append, List.length_cons, List.length_nil]; omega))) ?_
          have r249 := sl_sub o247.flat (show Int.toNat 0 ≤ Int.toNat (List.length g.2 : Int) by first | omega | (simp only [List.length_append, List.length_cons, List.length_nil]; omega)) (show Int.toNat (List.length g.2 : Int) ≤ List.length _ by first | omega | (simp only [List.length_append, List.length_cons, List.length_nil]; omega))
          refine x_pure (v := Value.agg (List.toArray [Value.int .i64 g.1, (subV v245 2 (Int.toNat 0) (Int.toNat (List.length g.2 : Int)))])) 12 rfl (by kernel_rfl) (by kernel_rfl) rfl (fun w => e_build (vs := [(0, Value.int .i64 g.1), (1, (subV v245 2 (Int.toNat 0) (Int.toNat (List.length g.2 : Int))))]) rfl (by erw [Sl.form r249]; kernel_rfl)) ?_
          refine x_one 13 rfl (by kernel_rfl) rfl ?_
          refine o_store_bx (cs' := [Value.int .i64 g.1, (subV v245 2 (Int.toNat 0) (Int.toNat (List.length g.2 : Int)))]) tp24_d rfl rfl bx10 rfl (Nat.le_of_ble_eq_true rfl) (AllOne.all (.cons rfl (.cons (sl_one r249) .nil))) rfl ?_
          intro w250 ch251 bx252
          replace hbase := hbase.chg ch251 (is_ne rfl)
          replace r_g_v := r_g_v.chg ch251 (is_ne rfl)
          replace bx5 := bx5.chg ch251 (is_ne rfl)
          replace o202 := o202.chg ch251 (is_ne rfl) (is_ne rfl)
          replace o247 := o247.chg ch251 (is_ne rfl) (is_ne rfl)
          replace r249 := r249.chg ch251 (is_ne rfl)
          clear bx10
          refine x_nil (by kernel_rfl) ?_
          refine run_ret (vs := [Value.agg (List.toArray [Value.int .i64 g.1, (subV v245 2 (Int.toNat 0) (Int.toNat (List.length g.2 : Int)))])]) Try.func16 (.cell rfl (load_bxN (ds := [Value.int .i64 g.1, (subV v245 2 (Int.toNat 0) (Int.toNat (List.length g.2 : Int)))]) tp24_d bx252 rfl rfl) .nil) ?_
          -- return 15
          have e0 : ((g.1, (List.drop (Int.toNat 0) (List.take (Int.toNat (List.length g.2 : Int)) (g.2 ++ [(-7, 7)])))) : (Int) × (List ((Int) × (Int)))) = (g) := by
            simp
          exact ⟨(fin w0 g243 (fun n => if n = 3 then 1 else 0), (subV v245 2 (Int.toNat 0) (Int.toNat (List.length g.2 : Int)))), (congrArg (a₁ := (g.1, (List.drop (Int.toNat 0) (List.take (Int.toNat (List.length g.2 : Int)) (g.2 ++ [(-7, 7)]))))) (fun (z0 : (Int) × (List ((Int) × (Int)))) => Ending.returned (Value.agg (List.toArray [Value.int .i64 z0.1, (subV v245 2 (Int.toNat 0) (Int.toNat (List.length g.2 : Int)))]))) e0), hbase.fresh _, (upV_sub (o247.glue (γ := c0) (ren := (fun n => if n = 3 then 1 else 0)) (k := 1) hbase.col rfl rfl) (by simp))⟩
        · skip
          refine o_append (α := (Int) × (Int)) (xs := g.2) (ys := ([(-7, 7)])) g198 (J := is 3) (S := is 3) (3, 0) rfl Try.underlying22 tp60_d (by decide) rfl rfl rfl o154 o202.flat (by decide) (by first | omega | (simp; done) | (simp; omega)) ?_
          intro g253 w254 v255 ch256 o257
          replace hbase := hbase.chg ch256 (is_ne rfl)
          replace r_g_v := r_g_v.chg ch256 (is_ne rfl)
          replace bx5 := bx5.chg ch256 (is_ne rfl)
          replace bx10 := bx10.chg ch256 (is_ne rfl)
          replace o202 := o202.chg ch256 (is_ne rfl) (is_ne rfl)
          clear o154
          refine x_pure (v := (subV v255 2 (Int.toNat 0) (Int.toNat (List.length g.2 : Int)))) 11 rfl (by kernel_rfl) (by kernel_rfl) rfl (fun w => e_slice (α := (Int) × (Int)) (xs := (g.2 ++ [(-7, 7)])) (v := v255) (l := 0) (h := (List.length g.2 : Int)) Try.underlying22 rfl rfl o257.flat (.inr ⟨rfl, rfl⟩) (.inl (congrArg some rfl)) (by first | omega | (simp only [List.length_append, List.length_cons, List.length_nil]; omega)) (by first | omega | (simp only [List.length_append, List.length_cons, List.length_nil]; omega)) (by first | omega | (simp only [List.length_append, List.length_cons, List.length_nil]; omega))) ?_
          have r259 := sl_sub o257.flat (show Int.toNat 0 ≤ Int.toNat (List.length g.2 : Int) by first | omega | (simp only [List.length_append, List.length_cons, List.length_nil]; omega)) (show Int.toNat (List.length g.2 : Int) ≤ List.length _ by first | omega | (simp only [List.length_append, List.length_cons, List.length_nil]; omega))
          refine x_one 1 rfl (by kernel_rfl) rfl ?_
          refine o_of_val (v := Value.int .i64 g.1) (e_load_bx1 tp3_d rfl bx5 rfl) ?_
          refine x_pure (v := Value.agg (List.toArray [Value.int .i64 g.1, (subV v255 2 (Int.toNat 0) (Int.toNat (List.length g.2 : Int)))])) 12 rfl (by kernel_rfl) (by kernel_rfl) rfl (fun w => e_build (vs := [(0, Value.int .i64 g.1), (1, (subV v255 2 (Int.toNat 0) (Int.toNat (List.length g.2 : Int))))]) rfl (by erw [Sl.form r259]; kernel_rfl)) ?_
          refine x_one 13 rfl (by kernel_rfl) rfl ?_
          refine o_store_bx (cs' := [Value.int .i64 g.1, (subV v255 2 (Int.toNat 0) (Int.toNat (List.length g.2 : Int)))]) tp24_d rfl rfl bx10 rfl (Nat.le_of_ble_eq_true rfl) (AllOne.all (.cons rfl (.cons (sl_one r259) .nil))) rfl ?_
          intro w260 ch261 bx262
          replace hbase := hbase.chg ch261 (is_ne rfl)
          replace r_g_v := r_g_v.chg ch261 (is_ne rfl)
          replace bx5 := bx5.chg ch261 (is_ne rfl)
          replace o202 := o202.chg ch261 (is_ne rfl) (is_ne rfl)
          replace o257 := o257.chg ch261 (is_ne rfl) (is_ne rfl)
          replace r259 := r259.chg ch261 (is_ne rfl)
          clear bx10
          refine x_nil (by kernel_rfl) ?_
          refine run_ret (vs := [Value.agg (List.toArray [Value.int .i64 g.1, (subV v255 2 (Int.toNat 0) (Int.toNat (List.length g.2 : Int)))])]) Try.func16 (.cell rfl (load_bxN (ds := [Value.int .i64 g.1, (subV v255 2 (Int.toNat 0) (Int.toNat (List.length g.2 : Int)))]) tp24_d bx262 rfl rfl) .nil) ?_
          -- return 16
          have e0 : ((g.1, (List.drop (Int.toNat 0) (List.take (Int.toNat (List.length g.2 : Int)) (g.2 ++ [(-7, 7)])))) : (Int) × (List ((Int) × (Int)))) = (g) := by
            simp
          exact ⟨(fin w0 g253 (fun n => if n = 3 then 1 else 0), (subV v255 2 (Int.toNat 0) (Int.toNat (List.length g.2 : Int)))), (congrArg (a₁ := (g.1, (List.drop (Int.toNat 0) (List.take (Int.toNat (List.length g.2 : Int)) (g.2 ++ [(-7, 7)]))))) (fun (z0 : (Int) × (List ((Int) × (Int)))) => Ending.returned (Value.agg (List.toArray [Value.int .i64 z0.1, (subV v255 2 (Int.toNat 0) (Int.toNat (List.length g.2 : Int)))]))) e0), hbase.fresh _, (upV_sub (o257.glue (γ := c0) (ren := (fun n => if n = 3 then 1 else 0)) (k := 1) hbase.col rfl rfl) (by simp))⟩
    · skip
      refine o_of_val (v := g_v) (e_load_bx1 tp22_d rfl bx5 rfl) ?_
      have len263 := (r_g_v).small
      refine x_pure (v := Value.int .i64 (List.length g.2 : Int)) 10 rfl (by kernel_rfl) (by kernel_rfl) rfl (fun w => e_len Try.underlying22 rfl r_g_v) ?_
      refine x_two 1 6 rfl rfl (by kernel_rfl) rfl rfl ?_ ?_
      · skip
        refine o_of_val (v := Value.int .i64 g.1) (e_load_bx1 tp3_d rfl bx5 rfl) ?_
        refine x_one 6 rfl (by kernel_rfl) rfl ?_
        refine o_buildSlice (α := (Int) × (Int)) g150 (is 4) (is 4) (4, 0) rfl [(-7, 7)] Try.underlying22 tp60_d (by decide) (by decide) (vs := [(0, Value.agg (List.toArray [Value.int .i64 (-7), Value.int .i64 7]))]) rfl rfl (.cons rfl .nil) ?_
        intro g264 w265 v266 ch267 o268
        replace hbase := hbase.chg ch267 (not_no _)
        replace r_g_v := r_g_v.chg ch267 (not_no _)
        replace bx5 := bx5.chg ch267 (not_no _)
        replace bx10 := bx10.chg ch267 (not_no _)
        replace o154 := o154.chg ch267 (not_no _) (not_no _)
        refine x_one 7 rfl (by kernel_rfl) rfl ?_
        refine o_append (α := (Int) × (Int)) (xs := g.2) (ys := ([(-7, 7)])) g264 (J := is 3) (S := is 3) (3, 0) rfl Try.underlying22 tp60_d (by decide) rfl rfl rfl o154 o268.flat (by decide) (by first | omega | (simp; done) | (simp; omega)) ?_
        intro g269 w270 v271 ch272 o273
        replace hbase := hbase.chg ch272 (is_ne rfl)
        replace r_g_v := r_g_v.chg ch272 (is_ne rfl)
        replace bx5 := bx5.chg ch272 (is_ne rfl)
        replace bx10 := bx10.chg ch272 (is_ne rfl)
        replace o268 := o268.chg ch272 (is_ne rfl) (is_ne rfl)
        clear o154
        refine x_pure (v := (subV v271 2 (Int.toNat 0) (Int.toNat (List.length g.2 : Int)))) 11 rfl (by kernel_rfl) (by kernel_rfl) rfl (fun w => e_slice (α := (Int) × (Int)) (xs := (g.2 ++ [(-7, 7)])) (v := v271) (l := 0) (h := (List.length g.2 : Int)) Try.underlying22 rfl rfl o273.flat (.inr ⟨rfl, rfl⟩) (.inl (congrArg some rfl)) (by first | omega | (simp only [List.length_append, List.length_cons, List.length_nil]; omega)) (by first | omega | (simp only [List.length_append, List.length_cons, List.length_nil]; omega)) (by first | omega | (simp only [List.length_append, List.length_cons, List.length_nil]; omega))) ?_
        have r275 := sl_sub o273.flat (show Int.toNat 0 ≤ Int.toNat (List.length g.2 : Int) by first | omega | (simp only [List.length_append, List.length_cons, List.length_nil]; omega)) (show Int.toNat (List.length g.2 : Int) ≤ List.length _ by first | omega | (simp only [List.length_append, List.length_cons, List.length_nil]; omega))
        refine x_pure (v := Value.agg (List.toArray [Value.int .i64 g.1, (subV v271 2 (Int.toNat 0) (Int.toNat (List.length g.2 : Int)))])) 12 rfl (by kernel_rfl) (by kernel_rfl) rfl (fun w => e_build (vs := [(0, Value.int .i64 g.1), (1, (subV v271 2 (Int.toNat 0) (Int.toNat (List.length g.2 : Int))))]) rfl (by erw [Sl.form r275]; kernel_rfl)) ?_
        refine x_one 13 rfl (by kernel_rfl) rfl ?_
        refine o_store_bx (cs' := [Value.int .i64 g.1, (subV v271 2 (Int.toNat 0) (Int.toNat (List.length g.2 : Int)))]) tp24_d rfl rfl bx10 rfl (Nat.le_of_ble_eq_true rfl) (AllOne.all (.cons rfl (.cons (sl_one r275) .nil))) rfl ?_
        intro w276 ch277 bx278
        replace hbase := hbase.chg ch277 (is_ne rfl)
        replace r_g_v := r_g_v.chg ch277 (is_ne rfl)
        replace bx5 := bx5.chg ch277 (is_ne rfl)
        replace o268 := o268.chg ch277 (is_ne rfl) (is_ne rfl)
        replace o273 := o273.chg ch277 (is_ne rfl) (is_ne rfl)
        replace r275 := r275.chg ch277 (is_ne rfl)
        clear bx10
        refine x_nil (by kernel_rfl) ?_
        refine run_ret (vs := [Value.agg (List.toArray [Value.int .i64 g.1, (subV v271 2 (Int.toNat 0) (Int.toNat (List.length g.2 : Int)))])]) Try.func16 (.cell rfl (load_bxN (ds := [Value.int .i64 g.1, (subV v271 2 (Int.toNat 0) (Int.toNat (List.length g.2 : Int)))]) tp24_d bx278 rfl rfl) .nil) ?_
        -- return 17
        have e0 : ((g.1, (List.drop (Int.toNat 0) (List.take (Int.toNat (List.length g.2 : Int)) (g.2 ++ [(-7, 7)])))) : (Int) × (List ((Int) × (Int)))) = (g) := by
          simp
        exact ⟨(fin w0 g269 (fun n => if n = 3 then 1 else 0), (subV v271 2 (Int.toNat 0) (Int.toNat (List.length g.2 : Int)))), (congrArg (a₁ := (g.1, (List.drop (Int.toNat 0) (List.take (Int.toNat (List.length g.2 : Int)) (g.2 ++ [(-7, 7)]))))) (fun (z0 : (Int) × (List ((Int) × (Int)))) => Ending.returned (Value.agg (List.toArray [Value.int .i64 z0.1, (subV v271 2 (Int.toNat 0) (Int.toNat (List.length g.2 : Int)))]))) e0), hbase.fresh _, (upV_sub (o273.glue (γ := c0) (ren := (fun n => if n = 3 then 1 else 0)) (k := 1) hbase.col rfl rfl) (by simp))⟩
      · skip
        refine o_buildSlice (α := (Int) × (Int)) g150 (is 4) (is 4) (4, 0) rfl [(-7, 7)] Try.underlying22 tp60_d (by decide) (by decide) (vs := [(0, Value.agg (List.toArray [Value.int .i64 (-7), Value.int .i64 7]))]) rfl rfl (.cons rfl .nil) ?_
        intro g279 w280 v281 ch282 o283
        replace hbase := hbase.chg ch282 (not_no _)
        replace r_g_v := r_g_v.chg ch282 (not_no _)
        replace bx5 := bx5.chg ch282 (not_no _)
        replace bx10 := bx10.chg ch282 (not_no _)
        replace o154 := o154.chg ch282 (not_no _) (not_no _)
        refine x_two 1 7 rfl rfl (by kernel_rfl) rfl rfl ?_ ?_
        · skip
          refine o_of_val (v := Value.int .i64 g.1) (e_load_bx1 tp3_d rfl bx5 rfl) ?_
          refine x_one 7 rfl (by kernel_rfl) rfl ?_
          refine o_append (α := (Int) × (Int)) (xs := g.2) (ys := ([(-7, 7)])) g279 (J := is 3) (S := is 3) (3, 0) rfl Try.underlying22 tp60_d (by decide) rfl rfl rfl o154 o283.flat (by decide) (by first | omega | (simp; done) | (simp; omega)) ?_
          intro g284 w285 v286 ch287 o288
          replace hbase := hbase.chg ch287 (is_ne rfl)
          replace r_g_v := r_g_v.chg ch287 (is_ne rfl)
          replace bx5 := bx5.chg ch287 (is_ne rfl)
          replace bx10 := bx10.chg ch287 (is_ne rfl)
          replace o283 := o283.chg ch287 (is_ne rfl) (is_ne rfl)
          clear o154
          refine x_pure (v := (subV v286 2 (Int.toNat 0) (Int.toNat (List.length g.2 : Int)))) 11 rfl (by kernel_rfl) (by kernel_rfl) rfl (fun w => e_slice (α := (Int) × (Int)) (xs := (g.2 ++ [(-7, 7)])) (v := v286) (l := 0) (h := (List.length g.2 : Int)) Try.underlying22 rfl rfl o288.flat (.inr ⟨rfl, rfl⟩) (.inl (congrArg some rfl)) (by first | omega | (simp only [List.length_append, List.length_cons, List.length_nil]; omega)) (by first | omega | (simp only [List.length_append, List.length_cons, List.length_nil]; omega)) (by first | omega | (simp only [List.length_append, List.length_cons, List.length_nil]; omega))) ?_
          have r290 := sl_sub o288.flat (show Int.toNat 0 ≤ Int.toNat (List.length g.2 : Int) by first | omega | (simp only [List.length_append, List.length_cons, List.length_nil]; omega)) (show Int.toNat (List.length g.2 : Int) ≤ List.length _ by first | omega | (simp only [List.length_append, List.length_cons, List.length_nil]; omega))
          refine x_pure (v := Value.agg (List.toArray [Value.int .i64 g.1, (subV v286 2 (Int.toNat 0) (Int.toNat (List.length g.2 : Int)))])) 12 rfl (by kernel_rfl) (by kernel_rfl) rfl (fun w => e_build (vs := [(0, Value.int .i64 g.1), (1, (subV v286 2 (Int.toNat 0) (Int.toNat (List.length g.2 : Int))))]) rfl (by erw [Sl.form r290]; kernel_rfl)) ?_
          refine x_one 13 rfl (by kernel_rfl) rfl ?_
          refine o_store_bx (cs' := [Value.int .i64 g.1, (subV v286 2 (Int.toNat 0) (Int.toNat (List.length g.2 : Int)))]) tp24_d rfl rfl bx10 rfl (Nat.le_of_ble_eq_true rfl) (AllOne.all (.cons rfl (.cons (sl_one r290) .nil))) rfl ?_
          intro w291 ch292 bx293
          replace hbase := hbase.chg ch292 (is_ne rfl)
          replace r_g_v := r_g_v.chg ch292 (is_ne rfl)
          replace bx5 := bx5.chg ch292 (is_ne rfl)
          replace o283 := o283.chg ch292 (is_ne rfl) (is_ne rfl)
          replace o288 := o288.chg ch292 (is_ne rfl) (is_ne rfl)
          replace r290 := r290.chg ch292 (is_ne rfl)
          clear bx10
          refine x_nil (by kernel_rfl) ?_
          refine run_ret (vs := [Value.agg (List.toArray [Value.int .i64 g.1, (subV v286 2 (Int.toNat 0) (Int.toNat (List.length g.2 : Int)))])]) Try.func16 (.cell rfl (load_bxN (ds := [Value.int .i64 g.1, (subV v286 2 (Int.toNat 0) (Int.toNat (List.length g.2 : Int)))]) tp24_d bx293 rfl rfl) .nil) ?_
          -- return 18
          have e0 : ((g.1, (List.drop (Int.toNat 0) (List.take (Int.toNat (List.length g.2 : Int)) (g.2 ++ [(-7, 7)])))) : (Int) × (List ((Int) × (Int)))) = (g) := by
            simp
          exact ⟨(fin w0 g284 (fun n => if n = 3 then 1 else 0), (subV v286 2 (Int.toNat 0) (Int.toNat (List.length g.2 : Int)))), (congrArg (a₁ := (g.1, (List.drop (Int.toNat 0) (List.take (Int.toNat (List.length g.2 : Int)) (g.2 ++ [(-7, 7)]))))) (fun (z0 : (Int) × (List ((Int) × (Int)))) => Ending.returned (Value.agg (List.toArray [Value.int .i64 z0.1, (subV v286 2 (Int.toNat 0) (Int.toNat (List.length g.2 : Int)))]))) e0), hbase.fresh _, (upV_sub (o288.glue (γ := c0) (ren := (fun n => if n = 3 then 1 else 0)) (k := 1) hbase.col rfl rfl) (by simp))⟩
        · skip
          refine o_append (α := (Int) × (Int)) (xs := g.2) (ys := ([(-7, 7)])) g279 (J := is 3) (S := is 3) (3, 0) rfl Try.underlying22 tp60_d (by decide) rfl rfl rfl o154 o283.flat (by decide) (by first | omega | (simp; done) | (simp; omega)) ?_
          intro g294 w295 v296 ch297 o298
          replace hbase := hbase.chg ch297 (is_ne rfl)
          replace r_g_v := r_g_v.chg ch297 (is_ne rfl)
          replace bx5 := bx5.chg ch297 (is_ne rfl)
          replace bx10 := bx10.chg ch297 (is_ne rfl)
          replace o283 := o283.chg ch297 (is_ne rfl) (is_ne rfl)
          clear o154
          refine x_pure (v := (subV v296 2 (Int.toNat 0) (Int.toNat (List.length g.2 : Int)))) 11 rfl (by kernel_rfl) (by kernel_rfl) rfl (fun w => e_slice (α := (Int) × (Int)) (xs := (g.2 ++ [(-7, 7)])) (v := v296) (l := 0) (h := (List.length g.2 : Int)) Try.underlying22 rfl rfl o298.flat (.inr ⟨rfl, rfl⟩) (.inl (congrArg some rfl)) (by first | omega | (simp only [List.length_append, List.length_cons, List.length_nil]; omega)) (by first | omega | (simp only [List.length_append, List.length_cons, List.length_nil]; omega)) (by first | omega | (simp only [List.length_append, List.length_cons, List.length_nil]; omega))) ?_
          have r300 := sl_sub o298.flat (show Int.toNat 0 ≤ Int.toNat (List.length g.2 : Int) by first | omega | (simp only [List.length_append, List.length_cons, List.length_nil]; omega)) (show Int.toNat (List.length g.2 : Int) ≤ List.length _ by first | omega | (simp only [List.length_append, List.length_cons, List.length_nil]; omega))
          refine x_one 1 rfl (by kernel_rfl) rfl ?_
          refine o_of_val (v := Value.int .i64 g.1) (e_load_bx1 tp3_d rfl bx5 rfl) ?_
          refine x_pure (v := Value.agg (List.toArray [Value.int .i64 g.1, (subV v296 2 (Int.toNat 0) (Int.toNat (List.length g.2 : Int)))])) 12 rfl (by kernel_rfl) (by kernel_rfl) rfl (fun w => e_build (vs := [(0, Value.int .i64 g.1), (1, (subV v296 2 (Int.toNat 0) (Int.toNat (List.length g.2 : Int))))]) rfl (by erw [Sl.form r300]; kernel_rfl)) ?_
          refine x_one 13 rfl (by kernel_rfl) rfl ?_
          refine o_store_bx (cs' := [Value.int .i64 g.1, (subV v296 2 (Int.toNat 0) (Int.toNat (List.length g.2 : Int)))]) tp24_d rfl rfl bx10 rfl (Nat.le_of_ble_eq_true rfl) (AllOne.all (.cons rfl (.cons (sl_one r300) .nil))) rfl ?_
          intro w301 ch302 bx303
          replace hbase := hbase.chg ch302 (is_ne rfl)
          replace r_g_v := r_g_v.chg ch302 (is_ne rfl)
          replace bx5 := bx5.chg ch302 (is_ne rfl)
          replace o283 := o283.chg ch302 (is_ne rfl) (is_ne rfl)
          replace o298 := o298.chg ch302 (is_ne rfl) (is_ne rfl)
          replace r300 := r300.chg ch302 (is_ne rfl)
          clear bx10
          refine x_nil (by kernel_rfl) ?_
          refine run_ret (vs := [Value.agg (List.toArray [Value.int .i64 g.1, (subV v296 2 (Int.toNat 0) (Int.toNat (List.length g.2 : Int)))])]) Try.func16 (.cell rfl (load_bxN (ds := [Value.int .i64 g.1, (subV v296 2 (Int.toNat 0) (Int.toNat (List.length g.2 : Int)))]) tp24_d bx303 rfl rfl) .nil) ?_
          -- return 19
          have e0 : ((g.1, (List.drop (Int.toNat 0) (List.take (Int.toNat (List.length g.2 : Int)) (g.2 ++ [(-7, 7)])))) : (Int) × (List ((Int) × (Int)))) = (g) := by
            simp
          exact ⟨(fin w0 g294 (fun n => if n = 3 then 1 else 0), (subV v296 2 (Int.toNat 0) (Int.toNat (List.length g.2 : Int)))), (congrArg (a₁ := (g.1, (List.drop (Int.toNat 0) (List.take (Int.toNat (List.length g.2 : Int)) (g.2 ++ [(-7, 7)]))))) (fun (z0 : (Int) × (List ((Int) × (Int)))) => Ending.returned (Value.agg (List.toArray [Value.int .i64 z0.1, (subV v296 2 (Int.toNat 0) (Int.toNat (List.length g.2 : Int)))]))) e0), hbase.fresh _, (upV_sub (o298.glue (γ := c0) (ren := (fun n => if n = 3 then 1 else 0)) (k := 1) hbase.col rfl rfl) (by simp))⟩
  · skip
    refine o_buildSlice (α := (Int) × (Int)) g9 (is 4) (is 4) (4, 0) rfl [(-7, 7)] Try.underlying22 tp60_d (by decide) (by decide) (vs := [(0, Value.agg (List.toArray [Value.int .i64 (-7), Value.int .i64 7]))]) rfl rfl (.cons rfl .nil) ?_
    intro g304 w305 v306 ch307 o308
    replace hbase := hbase.chg ch307 (not_no _)
    replace r_g_v := r_g_v.chg ch307 (not_no _)
    replace bx5 := bx5.chg ch307 (not_no _)
    replace bx10 := bx10.chg ch307 (not_no _)
    refine x_many 1 [4, 9] (by kernel_rfl) ⟨x_of 1 rfl (by kernel_rfl) rfl ?_, x_of 4 rfl (by kernel_rfl) rfl ?_, x_of 9 rfl (by kernel_rfl) rfl ?_, trivial⟩
    · skip
      refine o_of_val (v := Value.int .i64 g.1) (e_load_bx1 tp3_d rfl bx5 rfl) ?_
      refine x_two 4 9 rfl rfl (by kernel_rfl) rfl rfl ?_ ?_
      · skip
        refine o_append (α := (Int) × (Int)) (xs := ([])) (ys := g.2) g304 (J := is 3) (S := is 3) (3, 0) rfl Try.underlying22 tp60_d (by decide) rfl rfl rfl Ow.nil r_g_v (by decide) (by first | omega | (simp; done) | (simp; omega)) ?_
        intro g309 w310 v311 ch312 o313
        replace hbase := hbase.chg ch312 (is_ne rfl)
        replace r_g_v := r_g_v.chg ch312 (is_ne rfl)
        replace bx5 := bx5.chg ch312 (is_ne rfl)
        replace bx10 := bx10.chg ch312 (is_ne rfl)
        replace o308 := o308.chg ch312 (is_ne rfl) (is_ne rfl)
        replace o313 : Ow g309 (is 3) (is 3) w310 v311 g.2 := o313
        refine x_two 7 9 rfl rfl (by kernel_rfl) rfl rfl ?_ ?_
        · skip
          refine o_append (α := (Int) × (Int)) (xs := g.2) (ys := ([(-7, 7)])) g309 (J := is 3) (S := is 3) (3, 0) rfl Try.underlying22 tp60_d (by decide) rfl rfl rfl o313 o308.flat (by decide) (by first | omega | (simp; done) | (simp; omega)) ?_
          intro g314 w315 v316 ch317 o318
          replace hbase := hbase.chg ch317 (is_ne rfl)
          replace r_g_v := r_g_v.chg ch317 (is_ne rfl)
          replace bx5 := bx5.chg ch317 (is_ne rfl)
          replace bx10 := bx10.chg ch317 (is_ne rfl)
          replace o308 := o308.chg ch317 (is_ne rfl) (is_ne rfl)
          clear o313
          refine x_one 9 rfl (by kernel_rfl) rfl ?_
          refine o_of_val (v := g_v) (e_load_bx1 tp22_d rfl bx5 rfl) ?_
          have len319 := (r_g_v).small
          refine x_pure (v := Value.int .i64 (List.length g.2 : Int)) 10 rfl (by kernel_rfl) (by kernel_rfl) rfl (fun w => e_len Try.underlying22 rfl r_g_v) ?_
          refine x_pure (v := (subV v316 2 (Int.toNat 0) (Int.toNat (List.length g.2 : Int)))) 11 rfl (by kernel_rfl) (by kernel_rfl) rfl (fun w => e_slice (α := (Int) × (Int)) (xs := (g.2 ++ [(-7, 7)])) (v := v316) (l := 0) (h := (List.length g.2 : Int)) Try.underlying22 rfl rfl o318.flat (.inr ⟨rfl, rfl⟩) (.inl (congrArg some rfl)) (by first | omega | (simp only [List.length_append, List.length_cons, List.length_nil]; omega)) (by first | omega | (simp only [List.length_append, List.length_cons, List.length_nil]; omega)) (by first | omega | (simp only [List.length_append, List.length_cons, List.length_nil]; omega))) ?_
          have r321 := sl_sub o318.flat (show Int.toNat 0 ≤ Int.toNat (List.length g.2 : Int) by first | omega | (simp only [List.length_append, List.length_cons, List.length_nil]; omega)) (show Int.toNat (List.length g.2 : Int) ≤ List.length _ by first | omega | (simp only [List.length_append, List.length_cons, List.length_nil]; omega))
          refine x_pure (v := Value.agg (List.toArray [Value.int .i64 g.1, (subV v316 2 (Int.toNat 0) (Int.toNat (List.length g.2 : Int)))])) 12 rfl (by kernel_rfl) (by kernel_rfl) rfl (fun w => e_build (vs := [(0, Value.int .i64 g.1), (1, (subV v316 2 (Int.toNat 0) (Int.toNat (List.length g.2 : Int))))]) rfl (by erw [Sl.form r321]; kernel_rfl)) ?_
          refine x_one 13 rfl (by kernel_rfl) rfl ?_
          refine o_store_bx (cs' := [Value.int .i64 g.1, (subV v316 2 (Int.toNat 0) (Int.toNat (List.length g.2 : Int)))]) tp24_d rfl rfl bx10 rfl (Nat.le_of_ble_eq_true rfl) (AllOne.all (.cons rfl (.cons (sl_one r321) .nil))) rfl ?_
          intro w322 ch323 bx324
          replace hbase := hbase.chg ch323 (is_ne rfl)
          replace r_g_v := r_g_v.chg ch323 (is_ne rfl)
          replace bx5 := bx5.chg ch323 (is_ne rfl)
          replace o308 := o308.chg ch323 (is_ne rfl) (is_ne rfl)
          replace o318 := o318.chg ch323 (is_ne rfl) (is_ne rfl)
          replace r321 := r321.chg ch323 (is_ne rfl)
          clear bx10
          refine x_nil (by kernel_rfl) ?_
          refine run_ret (vs := [Value.agg (List.toArray [Value.int .i64 g.1, (subV v316 2 (Int.toNat 0) (Int.toNat (List.length g.2 : Int)))])]) Try.func16 (.cell rfl (load_bxN (ds := [Value.int .i64 g.1, (subV v316 2 (Int.toNat 0) (Int.toNat (List.length g.2 : Int)))]) tp24_d bx324 rfl rfl) .nil) ?_
          -- return 20
          have e0 : ((g.1, (List.drop (Int.toNat 0) (List.take (Int.toNat (List.length g.2 : Int)) (g.2 ++ [(-7, 7)])))) : (Int) × (List ((Int) × (Int)))) = (g) := by
            simp
          exact ⟨(fin w0 g314 (fun n => if n = 3 then 1 else 0), (subV v316 2 (Int.toNat 0) (Int.toNat (List.length g.2 : Int)))), (congrArg (a₁ := (g.1, (List.drop (Int.toNat 0) (List.take (Int.toNat (List.length g.2 : Int)) (g.2 ++ [(-7, 7)]))))) (fun (z0 : (Int) × (List ((Int) × (Int)))) => Ending.returned (Value.agg (List.toArray [Value.int .i64 z0.1, (subV v316 2 (Int.toNat 0) (Int.toNat (List.length g.2 : Int)))]))) e0), hbase.fresh _, (upV_sub (o318.glue (γ := c0) (ren := (fun n => if n = 3 then 1 else 0)) (k := 1) hbase.col rfl rfl) (by simp))⟩
        · skip
          refine o_of_val (v := g_v) (e_load_bx1 tp22_d rfl bx5 rfl) ?_
          have len325 := (r_g_v).small
          refine x_pure (v := Value.int .i64 (List.length g.2 : Int)) 10 rfl (by kernel_rfl) (by kernel_rfl) rfl (fun w => e_len Try.underlying22 rfl r_g_v) ?_
          refine x_one 7 rfl (by kernel_rfl) rfl ?_
          refine o_append (α := (Int) × (Int)) (xs := g.2) (ys := ([(-7, 7)])) g309 (J := is 3) (S := is 3) (3, 0) rfl Try.underlying22 tp60_d (by decide) rfl rfl rfl o313 o308.flat (by decide) (by first | omega | (simp; done) | (simp; omega)) ?_
          intro g326 w327 v328 ch329 o330
          replace hbase := hbase.chg ch329 (is_ne rfl)
          replace r_g_v := r_g_v.chg ch329 (is_ne rfl)
          replace bx5 := bx5.chg ch329 (is_ne rfl)
          replace bx10 := bx10.chg ch329 (is_ne rfl)
          replace o308 := o308.chg ch329 (is_ne rfl) (is_ne rfl)
          clear o313
          refine x_pure (v := (subV v328 2 (Int.toNat 0) (Int.toNat (List.length g.2 : Int)))) 11 rfl (by kernel_rfl) (by kernel_rfl) rfl (fun w => e_slice (α := (Int) × (Int)) (xs := (g.2 ++ [(-7, 7)])) (v := v328) (l := 0) (h := (List.length g.2 : Int)) Try.underlying22 rfl rfl o330.flat (.inr ⟨rfl, rfl⟩) (.inl (congrArg some rfl)) (by first | omega | (simp only [List.length_append, List.length_cons, List.length_nil]; omega)) (by first | omega | (simp only [List.length_append, List.length_cons, List.length_nil]; omega)) (by first | omega | (simp only [List.length_append, List.length_cons, List.length_nil]; omega))) ?_
          have r332 := sl_sub o330.flat (show Int.toNat 0 ≤ Int.toNat (List.length g.2 : Int) by first | omega | (simp only [List.length_append, List.length_cons, List.length_nil]; omega)) (show Int.toNat (List.length g.2 : Int) ≤ List.length _ by first | omega | (simp only [List.length_append, List.length_cons, List.length_nil]; omega))
          refine x_pure (v := Value.agg (List.toArray [Value.int .i64 g.1, (subV v328 2 (Int.toNat 0) (Int.toNat (List.length g.2 : Int)))])) 12 rfl (by kernel_rfl) (by kernel_rfl) rfl (fun w => e_build (vs := [(0, Value.int .i64 g.1), (1, (subV v328 2 (Int.toNat 0) (Int.toNat (List.length g.2 : Int))))]) rfl (by erw [Sl.form r332]; kernel_rfl)) ?_
          refine x_one 13 rfl (by kernel_rfl) rfl ?_
          refine o_store_bx (cs' := [Value.int .i64 g.1, (subV v328 2 (Int.toNat 0) (Int.toNat (List.length g.2 : Int)))]) tp24_d rfl rfl bx10 rfl (Nat.le_of_ble_eq_true rfl) (AllOne.all (.cons rfl (.cons (sl_one r332) .nil))) rfl ?_
          intro w333 ch334 bx335
          replace hbase := hbase.chg ch334 (is_ne rfl)
          replace r_g_v := r_g_v.chg ch334 (is_ne rfl)
          replace bx5 := bx5.chg ch334 (is_ne rfl)
          replace o308 := o308.chg ch334 (is_ne rfl) (is_ne rfl)
          replace o330 := o330.chg ch334 (is_ne rfl) (is_ne rfl)
          replace r332 := r332.chg ch334 (is_ne rfl)
          clear bx10
          refine x_nil (by kernel_rfl) ?_
          refine run_ret (vs := [Value.agg (List.toArray [Value.int .i64 g.1, (subV v328 2 (Int.toNat 0) (Int.toNat (List.length g.2 : Int)))])]) Try.func16 (.cell rfl (load_bxN (ds := [Value.int .i64 g.1, (subV v328 2 (Int.toNat 0) (Int.toNat (List.length g.2 : Int)))]) tp24_d bx335 rfl rfl) .nil) ?_
          -- return 21
          have e0 : ((g.1, (List.drop (Int.toNat 0) (List.take (Int.toNat (List.length g.2 : Int)) (g.2 ++ [(-7, 7)])))) : (Int) × (List ((Int) × (Int)))) = (g) := by
            simp
          exact ⟨(fin w0 g326 (fun n => if n = 3 then 1 else 0), (subV v328 2 (Int.toNat 0) (Int.toNat (List.length g.2 : Int)))), (congrArg (a₁ := (g.1, (List.drop (Int.toNat 0) (List.take (Int.toNat (List.length g.2 : Int)) (g.2 ++ [(-7, 7)]))))) (fun (z0 : (Int) × (List ((Int) × (Int)))) => Ending.returned (Value.agg (List.toArray [Value.int .i64 z0.1, (subV v328 2 (Int.toNat 0) (Int.toNat (List.length g.2 : Int)))]))) e0), hbase.fresh _, (upV_sub (o330.glue (γ := c0) (ren := (fun n => if n = 3 then 1 else 0)) (k := 1) hbase.col rfl rfl) (by simp))⟩
      · skip
        refine o_of_val (v := g_v) (e_load_bx1 tp22_d rfl bx5 rfl) ?_
        have len336 := (r_g_v).small
        refine x_pure (v := Value.int .i64 (List.length g.2 : Int)) 10 rfl (by kernel_rfl) (by kernel_rfl) rfl (fun w => e_len Try.underlying22 rfl r_g_v) ?_
        refine x_one 4 rfl (by kernel_rfl) rfl ?_
        refine o_append (α := (Int) × (Int)) (xs := ([])) (ys := g.2) g304 (J := is 3) (S := is 3) (3, 0) rfl Try.underlying22 tp60_d (by decide) rfl rfl rfl Ow.nil r_g_v (by decide) (by first | omega | (simp; done) | (simp; omega)) ?_
        intro g337 w338 v339 ch340 o341
        replace hbase := hbase.chg ch340 (is_ne rfl)
        replace r_g_v := r_g_v.chg ch340 (is_ne rfl)
        replace bx5 := bx5.chg ch340 (is_ne rfl)
        replace bx10 := bx10.chg ch340 (is_ne rfl)
        replace o308 := o308.chg ch340 (is_ne rfl) (is_ne rfl)
        replace o341 : Ow g337 (is 3) (is 3) w338 v339 g.2 := o341
        refine x_one 7 rfl (by kernel_rfl) rfl ?_
        refine o_append (α := (Int) × (Int)) (xs := g.2) (ys := ([(-7, 7)])) g337 (J := is 3) (S := is 3) (3, 0) rfl Try.underlying22 tp60_d (by decide) rfl rfl rfl o341 o308.flat (by decide) (by first | omega | (simp; done) | (simp; omega)) ?_
        intro g342 w343 v344 ch345 o346
        replace hbase := hbase.chg ch345 (is_ne rfl)
        replace r_g_v := r_g_v.chg ch345 (is_ne rfl)
        replace bx5 := bx5.chg ch345 (is_ne rfl)
        replace bx10 := bx10.chg ch345 (is_ne rfl)
        replace o308 := o308.chg ch345 (is_ne rfl) (is_ne rfl)
        clear o341
        refine x_pure (v := (subV v344 2 (Int.toNat 0) (Int.toNat (List.length g.2 : Int)))) 11 rfl (by kernel_rfl) (by kernel_rfl) rfl (fun w => e_slice (α := (Int) × (Int)) (xs := (g.2 ++ [(-7, 7)])) (v := v344) (l := 0) (h := (List.length g.2 : Int)) Try.underlying22 rfl rfl o346.flat (.inr ⟨rfl, rfl⟩) (.inl (congrArg some rfl)) (by first | omega | (simp only [List.length_append, List.length_cons, List.length_nil]; omega)) (by first | omega | (simp only [List.length_append, List.length_cons, List.length_nil]; omega)) (by first | omega | (simp only [List.length_append, List.length_cons, List.length_nil]; omega))) ?_
        have r348 := sl_sub o346.flat (show Int.toNat 0 ≤ Int.toNat (List.length g.2 : Int) by first | omega | (simp only [List.length_append, List.length_cons, List.length_nil]; omega)) (show Int.toNat (List.length g.2 : Int) ≤ List.length _ by first | omega | (simp only [List.length_append, List.length_cons, List.length_nil]; omega))
        refine x_pure (v := Value.agg (List.toArray [Value.int .i64 g.1, (subV v344 2 (Int.toNat 0) (Int.toNat (List.length g.2 : Int)))])) 12 rfl (by kernel_rfl) (by kernel_rfl) rfl (fun w => e_build (vs := [(0, Value.int .i64 g.1), (1, (subV v344 2 (Int.toNat 0) (Int.toNat (List.length g.2 : Int))))]) rfl (by erw [Sl.form r348]; kernel_rfl)) ?_
        refine x_one 13 rfl (by kernel_rfl) rfl ?_
        refine o_store_bx (cs' := [Value.int .i64 g.1, (subV v344 2 (Int.toNat 0) (Int.toNat (List.length g.2 : Int)))]) tp24_d rfl rfl bx10 rfl (Nat.le_of_ble_eq_true rfl) (AllOne.all (.cons rfl (.cons (sl_one r348) .nil))) rfl ?_
        intro w349 ch350 bx351
        replace hbase := hbase.chg ch350 (is_ne rfl)
        replace r_g_v := r_g_v.chg ch350 (is_ne rfl)
        replace bx5 := bx5.chg ch350 (is_ne rfl)
        replace o308 := o308.chg ch350 (is_ne rfl) (is_ne rfl)
        replace o346 := o346.chg ch350 (is_ne rfl) (is_ne rfl)
        replace r348 := r348.chg ch350 (is_ne rfl)
        clear bx10
        refine x_nil (by kernel_rfl) ?_
        refine run_ret (vs := [Value.agg (List.toArray [Value.int .i64 g.1, (subV v344 2 (Int.toNat 0) (Int.toNat (List.length g.2 : Int)))])]) Try.func16 (.cell rfl (load_bxN (ds := [Value.int .i64 g.1, (subV v344 2 (Int.toNat 0) (Int.toNat (List.length g.2 : Int)))]) tp24_d bx351 rfl rfl) .nil) ?_
        -- return 22
        have e0 : ((g.1, (List.drop (Int.toNat 0) (List.take (Int.toNat (List.length g.2 : Int)) (g.2 ++ [(-7, 7)])))) : (Int) × (List ((Int) × (Int)))) = (g) := by
          simp
        exact ⟨(fin w0 g342 (fun n => if n = 3 then 1 else 0), (subV v344 2 (Int.toNat 0) (Int.toNat (List.length g.2 : Int)))), (congrArg (a₁ := (g.1, (List.drop (Int.toNat 0) (List.take (Int.toNat (List.length g.2 : Int)) (g.2 ++ [(-7, 7)]))))) (fun (z0 : (Int) × (List ((Int) × (Int)))) => Ending.returned (Value.agg (List.toArray [Value.int .i64 z0.1, (subV v344 2 (Int.toNat 0) (Int.toNat (List.length g.2 : Int)))]))) e0), hbase.fresh _, (upV_sub (o346.glue (γ := c0) (ren := (fun n => if n = 3 then 1 else 0)) (k := 1) hbase.col rfl rfl) (by simp))⟩
    · skip
      refine o_append (α := (Int) × (Int)) (xs := ([])) (ys := g.2) g304 (J := is 3) (S := is 3) (3, 0) rfl Try.underlying22 tp60_d (by decide) rfl rfl rfl Ow.nil r_g_v (by decide) (by first | omega | (simp; done) | (simp; omega)) ?_
      intro g352 w353 v354 ch355 o356
      replace hbase := hbase.chg ch355 (is_ne rfl)
      replace r_g_v := r_g_v.chg ch355 (is_ne rfl)
      replace bx5 := bx5.chg ch355 (is_ne rfl)
      replace bx10 := bx10.chg ch355 (is_ne rfl)
      replace o308 := o308.chg ch355 (is_ne rfl) (is_ne rfl)
      replace o356 : Ow g352 (is 3) (is 3) w353 v354 g.2 := o356
      refine x_many 1 [7, 9] (by kernel_rfl) ⟨x_of 1 rfl (by kernel_rfl) rfl ?_, x_of 7 rfl (by kernel_rfl) rfl ?_, x_of 9 rfl (by kernel_rfl) rfl ?_, trivial⟩
      · skip
        refine o_of_val (v := Value.int .i64 g.1) (e_load_bx1 tp3_d rfl bx5 rfl) ?_
        refine x_two 7 9 rfl rfl (by kernel_rfl) rfl rfl ?_ ?_
        · skip
          refine o_append (α := (Int) × (Int)) (xs := g.2) (ys := ([(-7, 7)])) g352 (J := is 3) (S := is 3) (3, 0) rfl Try.underlying22 tp60_d (by decide) rfl rfl rfl o356 o308.flat (by decide) (by first | omega | (simp; done) | (simp; omega)) ?_
          intro g357 w358 v359 ch360 o361
          replace hbase := hbase.chg ch360 (is_ne rfl)
          replace r_g_v := r_g_v.chg ch360 (is_ne rfl)
          replace bx5 := bx5.chg ch360 (is_ne rfl)
          replace bx10 := bx10.chg ch360 (is_ne rfl)
          replace o308 := o308.chg ch360 (is_ne rfl) (is_ne rfl)
          clear o356
          refine x_one 9 rfl (by kernel_rfl) rfl ?_
          refine o_of_val (v := g_v) (e_load_bx1 tp22_d rfl bx5 rfl) ?_
          have len362 := (r_g_v).small
          refine x_pure (v := Value.int .i64 (List.length g.2 : Int)) 10 rfl (by kernel_rfl) (by kernel_rfl) rfl (fun w => e_len Try.underlying22 rfl r_g_v) ?_
          refine x_pure (v := (subV v359 2 (Int.toNat 0) (Int.toNat (List.length g.2 : Int)))) 11 rfl (by kernel_rfl) (by kernel_rfl) rfl (fun w => e_slice (α := (Int) × (Int)) (xs := (g.2 ++ [(-7, 7)])) (v := v359) (l := 0) (h := (List.length g.2 : Int)) Try.underlying22 rfl rfl o361.flat (.inr ⟨rfl, rfl⟩) (.inl (congrArg some rfl)) (by first | omega | (simp only [List.length_append, List.length_cons, List.length_nil]; omega)) (by first | omega | (simp only [List.length_append, List.length_cons, List.length_nil]; omega)) (by first | omega | (simp only [List.length_append, List.length_cons, List.length_nil]; omega))) ?_
          have r364 := sl_sub o361.flat (show Int.toNat 0 ≤ Int.toNat (List.length g.2 : Int) by first | omega | (simp only [List.length_append, List.length_cons, List.length_nil]; omega)) (show Int.toNat (List.length g.2 : Int) ≤ List.length _ by first | omega | (simp only [List.length_append, List.length_cons, List.length_nil]; omega))
          refine x_pure (v := Value.agg (List.toArray [Value.int .i64 g.1, (subV v359 2 (Int.toNat 0) (Int.toNat (List.length g.2 : Int)))])) 12 rfl (by kernel_rfl) (by kernel_rfl) rfl (fun w => e_build (vs := [(0, Value.int .i64 g.1), (1, (subV v359 2 (Int.toNat 0) (Int.toNat (List.length g.2 : Int))))]) rfl (by erw [Sl.form r364]; kernel_rfl)) ?_
          refine x_one 13 rfl (by kernel_rfl) rfl ?_
          refine o_store_bx (cs' := [Value.int .i64 g.1, (subV v359 2 (Int.toNat 0) (Int.toNat (List.length g.2 : Int)))]) tp24_d rfl rfl bx10 rfl (Nat.le_of_ble_eq_true rfl) (AllOne.all (.cons rfl (.cons (sl_one r364) .nil))) rfl ?_
          intro w365 ch366 bx367
          replace hbase := hbase.chg ch366 (is_ne rfl)
          replace r_g_v := r_g_v.chg ch366 (is_ne rfl)
          replace bx5 := bx5.chg ch366 (is_ne rfl)
          replace o308 := o308.chg ch366 (is_ne rfl) (is_ne rfl)
          replace o361 := o361.chg ch366 (is_ne rfl) (is_ne rfl)
          replace r364 := r364.chg ch366 (is_ne rfl)
          clear bx10
          refine x_nil (by kernel_rfl) ?_
          refine run_ret (vs := [Value.agg (List.toArray [Value.int .i64 g.1, (subV v359 2 (Int.toNat 0) (Int.toNat (List.length g.2 : Int)))])]) Try.func16 (.cell rfl (load_bxN (ds := [Value.int .i64 g.1, (subV v359 2 (Int.toNat 0) (Int.toNat (List.length g.2 : Int)))]) tp24_d bx367 rfl rfl) .nil) ?_
          -- return 23
          have e0 : ((g.1, (List.drop (Int.toNat 0) (List.take (Int.toNat (List.length g.2 : Int)) (g.2 ++ [(-7, 7)])))) : (Int) × (List ((Int) × (Int)))) = (g) := by
            simp
          exact ⟨(fin w0 g357 (fun n => if n = 3 then 1 else 0), (subV v359 2 (Int.toNat 0) (Int.toNat (List.length g.2 : Int)))), (congrArg (a₁ := (g.1, (List.drop (Int.toNat 0) (List.take (Int.toNat (List.length g.2 : Int)) (g.2 ++ [(-7, 7)]))))) (fun (z0 : (Int) × (List ((Int) × (Int)))) => Ending.returned (Value.agg (List.toArray [Value.int .i64 z0.1, (subV v359 2 (Int.toNat 0) (Int.toNat (List.length g.2 : Int)))]))) e0), hbase.fresh _, (upV_sub (o361.glue (γ := c0) (ren := (fun n => if n = 3 then 1 else 0)) (k := 1) hbase.col rfl rfl) (by simp))⟩
        · skip
          refine o_of_val (v := g_v) (e_load_bx1 tp22_d rfl bx5 rfl) ?_
          have len368 := (r_g_v).small
          refine x_pure (v := Value.int .i64 (List.length g.2 : Int)) 10 rfl (by kernel_rfl) (by kernel_rfl) rfl (fun w => e_len Try.underlying22 rfl r_g_v) ?_
          refine x_one 7 rfl (by kernel_rfl) rfl ?_
          refine o_append (α := (Int) × (Int)) (xs := g.2) (ys := ([(-7, 7)])) g352 (J := is 3) (S := is 3) (3, 0) rfl Try.underlying22 tp60_d (by decide) rfl rfl rfl o356 o308.flat (by decide) (by first | omega | (simp; done) | (simp; omega)) ?_
          intro g369 w370 v371 ch372 o373
          replace hbase := hbase.chg ch372 (is_ne rfl)
          replace r_g_v := r_g_v.chg ch372 (is_ne rfl)
          replace bx5 := bx5.chg ch372 (is_ne rfl)
          replace bx10 := bx10.chg ch372 (is_ne rfl)
          replace o308 := o308.chg ch372 (is_ne rfl) (is_ne rfl)
          clear o356
          refine x_pure (v := (subV v371 2 (Int.toNat 0) (Int.toNat (List.length g.2 : Int)))) 11 rfl (by kernel_rfl) (by kernel_rfl) rfl (fun w => e_slice (α := (Int) × (Int)) (xs := (g.2 ++ [(-7, 7)])) (v := v371) (l := 0) (h := (List.length g.2 : Int)) Try.underlying22 rfl rfl o373.flat (.inr ⟨rfl, rfl⟩) (.inl (congrArg some rfl)) (by first | omega | (simp only [List.length_append, List.length_cons, List.length_nil]; omega)) (by first | omega | (simp only [List.length_append, List.length_cons, List.length_nil]; omega)) (by first | omega | (simp only [List.length_append, List.length_cons, List.length_nil]; omega))) ?_
          have r375 := sl_sub o373.flat (show Int.toNat 0 ≤ Int.toNat (List.length g.2 : Int) by first | omega | (simp only [List.length_append, List.length_cons, List.length_nil]; omega)) (show Int.toNat (List.length g.2 : Int) ≤ List.length _ by first | omega | (simp only [List.length_append, List.length_cons, List.length_nil]; omega))
          refine x_pure (v := Value.agg (List.toArray [Value.int .i64 g.1, (subV v371 2 (Int.toNat 0) (Int.toNat (List.length g.2 : Int)))])) 12 rfl (by kernel_rfl) (by kernel_rfl) rfl (fun w => e_build (vs := [(0, Value.int .i64 g.1), (1, (subV v371 2 (Int.toNat 0) (Int.toNat (List.length g.2 : Int))))]) rfl (by erw [Sl.form r375]; kernel_rfl)) ?_
          refine x_one 13 rfl (by kernel_rfl) rfl ?_
          refine o_store_bx (cs' := [Value.int .i64 g.1, (subV v371 2 (Int.toNat 0) (Int.toNat (List.length g.2 : Int)))]) tp24_d rfl rfl bx10 rfl (Nat.le_of_ble_eq_true rfl) (AllOne.all (.cons rfl (.cons (sl_one r375) .nil))) rfl ?_
          intro w376 ch377 bx378
          replace hbase := hbase.chg ch377 (is_ne rfl)
          replace r_g_v := r_g_v.chg ch377 (is_ne rfl)
          replace bx5 := bx5.chg ch377 (is_ne rfl)
          replace o308 := o308.chg ch377 (is_ne rfl) (is_ne rfl)
          replace o373 := o373.chg ch377 (is_ne rfl) (is_ne rfl)
          replace r375 := r375.chg ch377 (is_ne rfl)
          clear bx10
          refine x_nil (by kernel_rfl) ?_
          refine run_ret (vs := [Value.agg (List.toArray [Value.int .i64 g.1, (subV v371 2 (Int.toNat 0) (Int.toNat (List.length g.2 : Int)))])]) Try.func16 (.cell rfl (load_bxN (ds := [Value.int .i64 g.1, (subV v371 2 (Int.toNat 0) (Int.toNat (List.length g.2 : Int)))]) tp24_d bx378 rfl rfl) .nil) ?_
          -- return 24
          have e0 : ((g.1, (List.drop (Int.toNat 0) (List.take (Int.toNat (List.length g.2 : Int)) (g.2 ++ [(-7, 7)])))) : (Int) × (List ((Int) × (Int)))) = (g) := by
            simp
          exact ⟨(fin w0 g369 (fun n => if n = 3 then 1 else 0), (subV v371 2 (Int.toNat 0) (Int.toNat (List.length g.2 : Int)))), (congrArg (a₁ := (g.1, (List.drop (Int.toNat 0) (List.take (Int.toNat (List.length g.2 : Int)) (g.2 ++ [(-7, 7)]))))) (fun (z0 : (Int) × (List ((Int) × (Int)))) => Ending.returned (Value.agg (List.toArray [Value.int .i64 z0.1, (subV v371 2 (Int.toNat 0) (Int.toNat (List.length g.2 : Int)))]))) e0), hbase.fresh _, (upV_sub (o373.glue (γ := c0) (ren := (fun n => if n = 3 then 1 else 0)) (k := 1) hbase.col rfl rfl) (by simp))⟩
      · skip
        refine o_append (α := (Int) × (Int)) (xs := g.2) (ys := ([(-7, 7)])) g352 (J := is 3) (S := is 3) (3, 0) rfl Try.underlying22 tp60_d (by decide) rfl rfl rfl o356 o308.flat (by decide) (by first | omega | (simp; done) | (simp; omega)) ?_
        intro g379 w380 v381 ch382 o383
        replace hbase := hbase.chg ch382 (is_ne rfl)
        replace r_g_v := r_g_v.chg ch382 (is_ne rfl)
        replace bx5 := bx5.chg ch382 (is_ne rfl)
        replace bx10 := bx10.chg ch382 (is_ne rfl)
        replace o308 := o308.chg ch382 (is_ne rfl) (is_ne rfl)
        clear o356
        refine x_two 1 9 rfl rfl (by kernel_rfl) rfl rfl ?_ ?_
        · skip
          refine o_of_val (v := Value.int .i64 g.1) (e_load_bx1 tp3_d rfl bx5 rfl) ?_
          refine x_one 9 rfl (by kernel_rfl) rfl ?_
          refine o_of_val (v := g_v) (e_load_bx1 tp22_d rfl bx5 rfl) ?_
          have len384 := (r_g_v).small
          refine x_pure (v := Value.int .i64 (List.length g.2 : Int)) 10 rfl (by kernel_rfl) (by kernel_rfl) rfl (fun w => e_len Try.underlying22 rfl r_g_v) ?_
          refine x_pure (v := (subV v381 2 (Int.toNat 0) (Int.toNat (List.length g.2 : Int)))) 11 rfl (by kernel_rfl) (by kernel_rfl) rfl (fun w => e_slice (α := (Int) × (Int)) (xs := (g.2 ++ [(-7, 7)])) (v := v381) (l := 0) (h := (List.length g.2 : Int)) Try.underlying22 rfl rfl o383.flat (.inr ⟨rfl, rfl⟩) (.inl (congrArg some rfl)) (by first | omega | (simp only [List.length_append, List.length_cons, List.length_nil]; omega)) (by first | omega | (simp only [List.length_append, List.length_cons, List.length_nil]; omega)) (by first | omega | (simp only [List.length_append, List.length_cons, List.length_nil]; omega))) ?_
          have r386 := sl_sub o383.flat (show Int.toNat 0 ≤ Int.toNat (List.length g.2 : Int) by first | omega | (simp only [List.length_append, List.length_cons, List.length_nil]; omega)) (show Int.toNat (List.length g.2 : Int) ≤ List.length _ by first | omega | (simp only [List.length_append, List.length_cons, List.length_nil]; omega))
          refine x_pure (v := Value.agg (List.toArray [Value.int .i64 g.1, (subV v381 2 (Int.toNat 0) (Int.toNat (List.length g.2 : Int)))])) 12 rfl (by kernel_rfl) (by kernel_rfl) rfl (fun w => e_build (vs := [(0, Value.int .i64 g.1), (1, (subV v381 2 (Int.toNat 0) (Int.toNat (List.length g.2 : Int))))]) rfl (by erw [Sl.form r386]; kernel_rfl)) ?_
          refine x_one 13 rfl (by kernel_rfl) rfl ?_
          refine o_store_bx (cs' := [Value.int .i64 g.1, (subV v381 2 (Int.toNat 0) (Int.toNat (List.length g.2 : Int)))]) tp24_d rfl rfl bx10 rfl (Nat.le_of_ble_eq_true rfl) (AllOne.all (.cons rfl (.cons (sl_one r386) .nil))) rfl ?_
          intro w387 ch388 bx389
          replace hbase := hbase.chg ch388 (is_ne rfl)
          replace r_g_v := r_g_v.chg ch388 (is_ne rfl)
          replace bx5 := bx5.chg ch388 (is_ne rfl)
          replace o308 := o308.chg ch388 (is_ne rfl) (is_ne rfl)
          replace o383 := o383.chg ch388 (is_ne rfl) (is_ne rfl)
          replace r386 := r386.chg ch388 (is_ne rfl)
          clear bx10
          refine x_nil (by kernel_rfl) ?_
          refine run_ret (vs := [Value.agg (List.toArray [Value.int .i64 g.1, (subV v381 2 (Int.toNat 0) (Int.toNat (List.length g.2 : Int)))])]) Try.func16 (.cell rfl (load_bxN (ds := [Value.int .i64 g.1, (subV v381 2 (Int.toNat 0) (Int.toNat (List.length g.2 : Int)))]) tp24_d bx389 rfl rfl) .nil) ?_
          -- return 25
          have e0 : ((g.1, (List.drop (Int.toNat 0) (List.take (Int.toNat (List.length g.2 : Int)) (g.2 ++ [(-7, 7)])))) : (Int) × (List ((Int) × (Int)))) = (g) := by
            simp
          exact ⟨(fin w0 g379 (fun n => if n = 3 then 1 else 0), (subV v381 2 (Int.toNat 0) (Int.toNat (List.length g.2 : Int)))), (congrArg (a₁ := (g.1, (List.drop (Int.toNat 0) (List.take (Int.toNat (List.length g.2 : Int)) (g.2 ++ [(-7, 7)]))))) (fun (z0 : (Int) × (List ((Int) × (Int)))) => Ending.returned (Value.agg (List.toArray [Value.int .i64 z0.1, (subV v381 2 (Int.toNat 0) (Int.toNat (List.length g.2 : Int)))]))) e0), hbase.fresh _, (upV_sub (o383.glue (γ := c0) (ren := (fun n => if n = 3 then 1 else 0)) (k := 1) hbase.col rfl rfl) (by simp))⟩
        · skip
          refine o_of_val (v := g_v) (e_load_bx1 tp22_d rfl bx5 rfl) ?_
          have len390 := (r_g_v).small
          refine x_pure (v := Value.int .i64 (List.length g.2 : Int)) 10 rfl (by kernel_rfl) (by kernel_rfl) rfl (fun w => e_len Try.underlying22 rfl r_g_v) ?_
          refine x_pure (v := (subV v381 2 (Int.toNat 0) (Int.toNat (List.length g.2 : Int)))) 11 rfl (by kernel_rfl) (by kernel_rfl) rfl (fun w => e_slice (α := (Int) × (Int)) (xs := (g.2 ++ [(-7, 7)])) (v := v381) (l := 0) (h := (List.length g.2 : Int)) Try.underlying22 rfl rfl o383.flat (.inr ⟨rfl, rfl⟩) (.inl (congrArg some rfl)) (by first | omega | (simp only [List.length_append, List.length_cons, List.length_nil]; omega)) (by first | omega | (simp only [List.length_append, List.length_cons, List.length_nil]; omega)) (by first | omega | (simp only [List.length_append, List.length_cons, List.length_nil]; omega))) ?_
          have r392 := sl_sub o383.flat (show Int.toNat 0 ≤ Int.toNat (List.length g.2 : Int) by first | omega | (simp only [List.length_append, List.length_cons, List.length_nil]; omega)) (show Int.toNat (List.length g.2 : Int) ≤ List.length _ by first | omega | (simp only [List.length_append, List.length_cons, List.length_nil]; omega))
          refine x_one 1 rfl (by kernel_rfl) rfl ?_
          refine o_of_val (v := Value.int .i64 g.1) (e_load_bx1 tp3_d rfl bx5 rfl) ?_
          refine x_pure (v := Value.agg (List.toArray [Value.int .i64 g.1, (subV v381 2 (Int.toNat 0) (Int.toNat (List.length g.2 : Int)))])) 12 rfl (by kernel_rfl) (by kernel_rfl) rfl (fun w => e_build (vs := [(0, Value.int .i64 g.1), (1, (subV v381 2 (Int.toNat 0) (Int.toNat (List.length g.2 : Int))))]) rfl (by erw [Sl.form r392]; kernel_rfl)) ?_
          refine x_one 13 rfl (by kernel_rfl) rfl ?_
          refine o_store_bx (cs' := [Value.int .i64 g.1, (subV v381 2 (Int.toNat 0) (Int.toNat (List.length g.2 : Int)))]) tp24_d rfl rfl bx10 rfl (Nat.le_of_ble_eq_true rfl) (AllOne.all (.cons rfl (.cons (sl_one r392) .nil))) rfl ?_
          intro w393 ch394 bx395
          replace hbase := hbase.chg ch394 (is_ne rfl)
          replace r_g_v := r_g_v.chg ch394 (is_ne rfl)
          replace bx5 := bx5.chg ch394 (is_ne rfl)
          replace o308 := o308.chg ch394 (is_ne rfl) (is_ne rfl)
          replace o383 := o383.chg ch394 (is_ne rfl) (is_ne rfl)
          replace r392 := r392.chg ch394 (is_ne rfl)
          clear bx10
          refine x_nil (by kernel_rfl) ?_
          refine run_ret (vs := [Value.agg (List.toArray [Value.int .i64 g.1, (subV v381 2 (Int.toNat 0) (Int.toNat (List.length g.2 : Int)))])]) Try.func16 (.cell rfl (load_bxN (ds := [Value.int .i64 g.1, (subV v381 2 (Int.toNat 0) (Int.toNat (List.length g.2 : Int)))]) tp24_d bx395 rfl rfl) .nil) ?_
          -- return 26
          have e0 : ((g.1, (List.drop (Int.toNat 0) (List.take (Int.toNat (List.length g.2 : Int)) (g.2 ++ [(-7, 7)])))) : (Int) × (List ((Int) × (Int)))) = (g) := by
            simp
          exact ⟨(fin w0 g379 (fun n => if n = 3 then 1 else 0), (subV v381 2 (Int.toNat 0) (Int.toNat (List.length g.2 : Int)))), (congrArg (a₁ := (g.1, (List.drop (Int.toNat 0) (List.take (Int.toNat (List.length g.2 : Int)) (g.2 ++ [(-7, 7)]))))) (fun (z0 : (Int) × (List ((Int) × (Int)))) => Ending.returned (Value.agg (List.toArray [Value.int .i64 z0.1, (subV v381 2 (Int.toNat 0) (Int.toNat (List.length g.2 : Int)))]))) e0), hbase.fresh _, (upV_sub (o383.glue (γ := c0) (ren := (fun n => if n = 3 then 1 else 0)) (k := 1) hbase.col rfl rfl) (by simp))⟩
      · skip
        refine o_of_val (v := g_v) (e_load_bx1 tp22_d rfl bx5 rfl) ?_
        have len396 := (r_g_v).small
        refine x_pure (v := Value.int .i64 (List.length g.2 : Int)) 10 rfl (by kernel_rfl) (by kernel_rfl) rfl (fun w => e_len Try.underlying22 rfl r_g_v) ?_
        refine x_two 1 7 rfl rfl (by kernel_rfl) rfl rfl ?_ ?_
        · skip
          refine o_of_val (v := Value.int .i64 g.1) (e_load_bx1 tp3_d rfl bx5 rfl) ?_
          refine x_one 7 rfl (by kernel_rfl) rfl ?_
          refine o_append (α := (Int) × (Int)) (xs := g.2) (ys := ([(-7, 7)])) g352 (J := is 3) (S := is 3) (3, 0) rfl Try.underlying22 tp60_d (by decide) rfl rfl rfl o356 o308.flat (by decide) (by first | omega | (simp; done) | (simp; omega)) ?_
          intro g397 w398 v399 ch400 o401
          replace hbase := hbase.chg ch400 (is_ne rfl)
          replace r_g_v := r_g_v.chg ch400 (is_ne rfl)
          replace bx5 := bx5.chg ch400 (is_ne rfl)
          replace bx10 := bx10.chg ch400 (is_ne rfl)
          replace o308 := o308.chg ch400 (is_ne rfl) (is_ne rfl)
          clear o356
          refine x_pure (v := (subV v399 2 (Int.toNat 0) (Int.toNat (List.length g.2 : Int)))) 11 rfl (by kernel_rfl) (by kernel_rfl) rfl (fun w => e_slice (α := (Int) × (Int)) (xs := (g.2 ++ [(-7, 7)])) (v := v399) (l := 0) (h := (List.length g.2 : Int)) Try.underlying22 rfl rfl o401.flat (.inr ⟨rfl, rfl⟩) (.inl (congrArg some rfl)) (by first | omega | (simp only [List.length_append, List.length_cons, List.length_nil]; omega)) (by first | omega | (simp only [List.length_append, List.length_cons, List.length_nil]; omega)) (by first | omega | (simp only [List.length_append, List.length_cons, List.length_nil]; omega))) ?_
          have r403 := sl_sub o401.flat (show Int.toNat 0 ≤ Int.toNat (List.length g.2 : Int) by first | omega | (simp only [List.length_append, List.length_cons, List.length_nil]; omega)) (show Int.toNat (List.length g.2 : Int) ≤ List.length _ by first | omega | (simp only [List.length_append, List.length_cons, List.length_nil]; omega))
          refine x_pure (v := Value.agg (List.toArray [Value.int .i64 g.1, (subV v399 2 (Int.toNat 0) (Int.toNat (List.length g.2 : Int)))])) 12 rfl (by kernel_rfl) (by kernel_rfl) rfl (fun w => e_build (vs := [(0, Value.int .i64 g.1), (1, (subV v399 2 (Int.toNat 0) (Int.toNat (List.length g.2 : Int))))]) rfl (by erw [Sl.form r403]; kernel_rfl)) ?_
          refine x_one 13 rfl (by kernel_rfl) rfl ?_
          refine o_store_bx (cs' := [Value.int .i64 g.1, (subV v399 2 (Int.toNat 0) (Int.toNat (List.length g.2 : Int)))]) tp24_d rfl rfl bx10 rfl (Nat.le_of_ble_eq_true rfl) (AllOne.all (.cons rfl (.cons (sl_one r403) .nil))) rfl ?_
          intro w404 ch405 bx406
          replace hbase := hbase.chg ch405 (is_ne rfl)
          replace r_g_v := r_g_v.chg ch405 (is_ne rfl)
          replace bx5 := bx5.chg ch405 (is_ne rfl)
          replace o308 := o308.chg ch405 (is_ne rfl) (is_ne rfl)
          replace o401 := o401.chg ch405 (is_ne rfl) (is_ne rfl)
          replace r403 := r403.chg ch405 (is_ne rfl)
          clear bx10
          refine x_nil (by kernel_rfl) ?_
          refine run_ret (vs := [Value.agg (List.toArray [Value.int .i64 g.1, (subV v399 2 (Int.toNat 0) (Int.toNat (List.length g.2 : Int)))])]) Try.func16 (.cell rfl (load_bxN (ds := [Value.int .i64 g.1, (subV v399 2 (Int.toNat 0) (Int.toNat (List.length g.2 : Int)))]) tp24_d bx406 rfl rfl) .nil) ?_
          -- return 27
          have e0 : ((g.1, (List.drop (Int.toNat 0) (List.take (Int.toNat (List.length g.2 : Int)) (g.2 ++ [(-7, 7)])))) : (Int) × (List ((Int) × (Int)))) = (g) := by
            simp
          exact ⟨(fin w0 g397 (fun n => if n = 3 then 1 else 0), (subV v399 2 (Int.toNat 0) (Int.toNat (List.length g.2 : Int)))), (congrArg (a₁ := (g.1, (List.drop (Int.toNat 0) (List.take (Int.toNat (List.length g.2 : Int)) (g.2 ++ [(-7, 7)]))))) (fun (z0 : (Int) × (List ((Int) × (Int)))) => Ending.returned (Value.agg (List.toArray [Value.int .i64 z0.1, (subV v399 2 (Int.toNat 0) (Int.toNat (List.length g.2 : Int)))]))) e0), hbase.fresh _, (upV_sub (o401.glue (γ := c0) (ren := (fun n => if n = 3 then 1 else 0)) (k := 1) hbase.col rfl rfl) (by simp))⟩
        · skip
          refine o_append (α := (Int) × (Int)) (xs := g.2) (ys := ([(-7, 7)])) g352 (J := is 3) (S := is 3) (3, 0) rfl Try.underlying22 tp60_d (by decide) rfl rfl rfl o356 o308.flat (by decide) (by first | omega | (simp; done) | (simp; omega)) ?_
          intro g407 w408 v409 ch410 o411
          replace hbase := hbase.chg ch410 (is_ne rfl)
          replace r_g_v := r_g_v.chg ch410 (is_ne rfl)
          replace bx5 := bx5.chg ch410 (is_ne rfl)
          replace bx10 := bx10.chg ch410 (is_ne rfl)
          replace o308 := o308.chg ch410 (is_ne rfl) (is_ne rfl)
          clear o356
          refine x_pure (v := (subV v409 2 (Int.toNat 0) (Int.toNat (List.length g.2 : Int)))) 11 rfl (by kernel_rfl) (by kernel_rfl) rfl (fun w => e_slice (α := (Int) × (Int)) (xs := (g.2 ++ [(-7, 7)])) (v := v409) (l := 0) (h := (List.length g.2 : Int)) Try.underlying22 rfl rfl o411.flat (.inr ⟨rfl, rfl⟩) (.inl (congrArg some rfl)) (by first | omega | (simp only [List.length_append, List.length_cons, List.length_nil]; omega)) (by first | omega | (simp only [List.length_append, List.length_cons, List.length_nil]; omega)) (by first | omega | (simp only [List.length_append, List.length_cons, List.length_nil]; omega))) ?_
          have r413 := sl_sub o411.flat (show Int.toNat 0 ≤ Int.toNat (List.length g.2 : Int) by first | omega | (simp only [List.length_append, List.length_cons, List.length_nil]; omega)) (show Int.toNat (List.length g.2 : Int) ≤ List.length _ by first | omega | (simp only [List.length_append, List.length_cons, List.length_nil]; omega))
          refine x_one 1 rfl (by kernel_rfl) rfl ?_
          refine o_of_val (v := Value.int .i64 g.1) (e_load_bx1 tp3_d rfl bx5 rfl) ?_
          refine x_pure (v := Value.agg (List.toArray [Value.int .i64 g.1, (subV v409 2 (Int.toNat 0) (Int.toNat (List.length g.2 : Int)))])) 12 rfl (by kernel_rfl) (by kernel_rfl) rfl (fun w => e_build (vs := [(0, Value.int .i64 g.1), (1, (subV v409 2 (Int.toNat 0) (Int.toNat (List.length g.2 : Int))))]) rfl (by erw [Sl.form r413]; kernel_rfl)) ?_
          refine x_one 13 rfl (by kernel_rfl) rfl ?_
          refine o_store_bx (cs' := [Value.int .i64 g.1, (subV v409 2 (Int.toNat 0) (Int.toNat (List.length g.2 : Int)))]) tp24_d rfl rfl bx10 rfl (Nat.le_of_ble_eq_true rfl) (AllOne.all (.cons rfl (.cons (sl_one r413) .nil))) rfl ?_
          intro w414 ch415 bx416
          replace hbase := hbase.chg ch415 (is_ne rfl)
          replace r_g_v := r_g_v.chg ch415 (is_ne rfl)
          replace bx5 := bx5.chg ch415 (is_ne rfl)
          replace o308 := o308.chg ch415 (is_ne rfl) (is_ne rfl)
          replace o411 := o411.chg ch415 (is_ne rfl) (is_ne rfl)
          replace r413 := r413.chg ch415 (is_ne rfl)
          clear bx10
          refine x_nil (by kernel_rfl) ?_
          refine run_ret (vs := [Value.agg (List.toArray [Value.int .i64 g.1, (subV v409 2 (Int.toNat 0) (Int.toNat (List.length g.2 : Int)))])]) Try.func16 (.cell rfl (load_bxN (ds := [Value.int .i64 g.1, (subV v409 2 (Int.toNat 0) (Int.toNat (List.length g.2 : Int)))]) tp24_d bx416 rfl rfl) .nil) ?_
          -- return 28
          have e0 : ((g.1, (List.drop (Int.toNat 0) (List.take (Int.toNat (List.length g.2 : Int)) (g.2 ++ [(-7, 7)])))) : (Int) × (List ((Int) × (Int)))) = (g) := by
            simp
          exact ⟨(fin w0 g407 (fun n => if n = 3 then 1 else 0), (subV v409 2 (Int.toNat 0) (Int.toNat (List.length g.2 : Int)))), (congrArg (a₁ := (g.1, (List.drop (Int.toNat 0) (List.take (Int.toNat (List.length g.2 : Int)) (g.2 ++ [(-7, 7)]))))) (fun (z0 : (Int) × (List ((Int) × (Int)))) => Ending.returned (Value.agg (List.toArray [Value.int .i64 z0.1, (subV v409 2 (Int.toNat 0) (Int.toNat (List.length g.2 : Int)))]))) e0), hbase.fresh _, (upV_sub (o411.glue (γ := c0) (ren := (fun n => if n = 3 then 1 else 0)) (k := 1) hbase.col rfl rfl) (by simp))⟩
    · skip
      refine o_of_val (v := g_v) (e_load_bx1 tp22_d rfl bx5 rfl) ?_
      have len417 := (r_g_v).small
      refine x_pure (v := Value.int .i64 (List.length g.2 : Int)) 10 rfl (by kernel_rfl) (by kernel_rfl) rfl (fun w => e_len Try.underlying22 rfl r_g_v) ?_
      refine x_two 1 4 rfl rfl (by kernel_rfl) rfl rfl ?_ ?_
      · skip
        refine o_of_val (v := Value.int .i64 g.1) (e_load_bx1 tp3_d rfl bx5 rfl) ?_
        refine x_one 4 rfl (by kernel_rfl) rfl ?_
        refine o_append (α := (Int) × (Int)) (xs := ([])) (ys := g.2) g304 (J := is 3) (S := is 3) (3, 0) rfl Try.underlying22 tp60_d (by decide) rfl rfl rfl Ow.nil r_g_v (by decide) (by first | omega | (simp; done) | (simp; omega)) ?_
        intro g418 w419 v420 ch421 o422
        replace hbase := hbase.chg ch421 (is_ne rfl)
        replace r_g_v := r_g_v.chg ch421 (is_ne rfl)
        replace bx5 := bx5.chg ch421 (is_ne rfl)
        replace bx10 := bx10.chg ch421 (is_ne rfl)
        replace o308 := o308.chg ch421 (is_ne rfl) (is_ne rfl)
        replace o422 : Ow g418 (is 3) (is 3) w419 v420 g.2 := o422
        refine x_one 7 rfl (by kernel_rfl) rfl ?_
        refine o_append (α := (Int) × (Int)) (xs := g.2) (ys := ([(-7, 7)])) g418 (J := is 3) (S := is 3) (3, 0) rfl Try.underlying22 tp60_d (by decide) rfl rfl rfl o422 o308.flat (by decide) (by first | omega | (simp; done) | (simp; omega)) ?_
        intro g423 w424 v425 ch426 o427
        replace hbase := hbase.chg ch426 (is_ne rfl)
        replace r_g_v := r_g_v.chg ch426 (is_ne rfl)
        replace bx5 := bx5.chg ch426 (is_ne rfl)
        replace bx10 := bx10.chg ch426 (is_ne rfl)
        replace o308 := o308.chg ch426 (is_ne rfl) (is_ne rfl)
        clear o422
        refine x_pure (v := (subV v425 2 (Int.toNat 0) (Int.toNat (List.length g.2 : Int)))) 11 rfl (by kernel_rfl) (by kernel_rfl) rfl (fun w => e_slice (α := (Int) × (Int)) (xs := (g.2 ++ [(-7, 7)])) (v := v425) (l := 0) (h := (List.length g.2 : Int)) Try.underlying22 rfl rfl o427.flat (.inr ⟨rfl, rfl⟩) (.inl (congrArg some rfl)) (by first | omega | (simp only [List.length_append, List.length_cons, List.length_nil]; omega)) (by first | omega | (simp only [List.length_append, List.length_cons, List.length_nil]; omega)) (by first | omega | (simp only [List.length_append, List.length_cons, List.length_nil]; omega))) ?_
        have r429 := sl_sub o427.flat (show Int.toNat 0 ≤ Int.toNat (List.length g.2 : Int) by first | omega | (simp only [List.length_append, List.length_cons, List.length_nil]; omega)) (show Int.toNat (List.length g.2 : Int) ≤ List.length _ by first | omega | (simp only [List.length_append, List.length_cons, List.length_nil]; omega))
        refine x_pure (v := Value.agg (List.toArray [Value.int .i64 g.1, (subV v425 2 (Int.toNat 0) (Int.toNat (List.length g.2 : Int)))])) 12 rfl (by kernel_rfl) (by kernel_rfl) rfl (fun w => e_build (vs := [(0, Value.int .i64 g.1), (1, (subV v425 2 (Int.toNat 0) (Int.toNat (List.length g.2 : Int))))]) rfl (by erw [Sl.form r429]; kernel_rfl)) ?_
        refine x_one 13 rfl (by kernel_rfl) rfl ?_
        refine o_store_bx (cs' := [Value.int .i64 g.1, (subV v425 2 (Int.toNat 0) (Int.toNat (List.length g.2 : Int)))]) tp24_d rfl rfl bx10 rfl (Nat.le_of_ble_eq_true rfl) (AllOne.all (.cons rfl (.cons (sl_one r429) .nil))) rfl ?_
        intro w430 ch431 bx432
        replace hbase := hbase.chg ch431 (is_ne rfl)
        replace r_g_v := r_g_v.chg ch431 (is_ne rfl)
        replace bx5 := bx5.chg ch431 (is_ne rfl)
        replace o308 := o308.chg ch431 (is_ne rfl) (is_ne rfl)
        replace o427 := o427.chg ch431 (is_ne rfl) (is_ne rfl)
        replace r429 := r429.chg ch431 (is_ne rfl)
        clear bx10
        refine x_nil (by kernel_rfl) ?_
        refine run_ret (vs := [Value.agg (List.toArray [Value.int .i64 g.1, (subV v425 2 (Int.toNat 0) (Int.toNat (List.length g.2 : Int)))])]) Try.func16 (.cell rfl (load_bxN (ds := [Value.int .i64 g.1, (subV v425 2 (Int.toNat 0) (Int.toNat (List.length g.2 : Int)))]) tp24_d bx432 rfl rfl) .nil) ?_
        -- return 29
        have e0 : ((g.1, (List.drop (Int.toNat 0) (List.take (Int.toNat (List.length g.2 : Int)) (g.2 ++ [(-7, 7)])))) : (Int) × (List ((Int) × (Int)))) = (g) := by
          simp
        exact ⟨(fin w0 g423 (fun n => if n = 3 then 1 else 0), (subV v425 2 (Int.toNat 0) (Int.toNat (List.length g.2 : Int)))), (congrArg (a₁ := (g.1, (List.drop (Int.toNat 0) (List.take (Int.toNat (List.length g.2 : Int)) (g.2 ++ [(-7, 7)]))))) (fun (z0 : (Int) × (List ((Int) × (Int)))) => Ending.returned (Value.agg (List.toArray [Value.int .i64 z0.1, (subV v425 2 (Int.toNat 0) (Int.toNat (List.length g.2 : Int)))]))) e0), hbase.fresh _, (upV_sub (o427.glue (γ := c0) (ren := (fun n => if n = 3 then 1 else 0)) (k := 1) hbase.col rfl rfl) (by simp))⟩
      · skip
        refine o_append (α := (Int) × (Int)) (xs := ([])) (ys := g.2) g304 (J := is 3) (S := is 3) (3, 0) rfl Try.underlying22 tp60_d (by decide) rfl rfl rfl Ow.nil r_g_v (by decide) (by first | omega | (simp; done) | (simp; omega)) ?_
        intro g433 w434 v435 ch436 o437
        replace hbase := hbase.chg ch436 (is_ne rfl)
        replace r_g_v := r_g_v.chg ch436 (is_ne rfl)
        replace bx5 := bx5.chg ch436 (is_ne rfl)
        replace bx10 := bx10.chg ch436 (is_ne rfl)
        replace o308 := o308.chg ch436 (is_ne rfl) (is_ne rfl)
        replace o437 : Ow g433 (is 3) (is 3) w434 v435 g.2 := o437
        refine x_two 1 7 rfl rfl (by kernel_rfl) rfl rfl ?_ ?_
        · skip
          refine o_of_val (v := Value.int .i64 g.1) (e_load_bx1 tp3_d rfl bx5 rfl) ?_
          refine x_one 7 rfl (by kernel_rfl) rfl ?_
          refine o_append (α := (Int) × (Int)) (xs := g.2) (ys := ([(-7, 7)])) g433 (J := is 3) (S := is 3) (3, 0) rfl Try.underlying22 tp60_d (by decide) rfl rfl rfl o437 o308.flat (by decide) (by first | omega | (simp; done) | (simp; omega)) ?_
          intro g438 w439 v440 ch441 o442
          replace hbase := hbase.chg ch441 (is_ne rfl)
          replace r_g_v := r_g_v.chg ch441 (is_ne rfl)
          replace bx5 := bx5.chg ch441 (is_ne rfl)
          replace bx10 := bx10.chg ch441 (is_ne rfl)
          replace o308 := o308.chg ch441 (is_ne rfl) (is_ne rfl)
          clear o437
          refine x_pure (v := (subV v440 2 (Int.toNat 0) (Int.toNat (List.length g.2 : Int)))) 11 rfl (by kernel_rfl) (by kernel_rfl) rfl (fun w => e_slice (α := (Int) × (Int)) (xs := (g.2 ++ [(-7, 7)])) (v := v440) (l := 0) (h := (List.length g.2 : Int)) Try.underlying22 rfl rfl o442.flat (.inr ⟨rfl, rfl⟩) (.inl (congrArg some rfl)) (by first | omega | (simp only [List.length_append, List.length_cons, List.length_nil]; omega)) (by first | omega | (simp only [List.length_append, List.length_cons, List.length_nil]; omega)) (by first | omega | (simp only [List.length_append, List.length_cons, List.length_nil]; omega))) ?_
          have r444 := sl_sub o442.flat (show Int.toNat 0 ≤ Int.toNat (List.length g.2 : Int) by first | omega | (simp only [List.length_append, List.length_cons, List.length_nil]; omega)) (show Int.toNat (List.length g.2 : Int) ≤ List.length _ by first | omega | (simp only [List.length_append, List.length_cons, List.length_nil]; omega))
          refine x_pure (v := Value.agg (List.toArray [Value.int .i64 g.1, (subV v440 2 (Int.toNat 0) (Int.toNat (List.length g.2 : Int)))])) 12 rfl (by kernel_rfl) (by kernel_rfl) rfl (fun w => e_build (vs := [(0, Value.int .i64 g.1), (1, (subV v440 2 (Int.toNat 0) (Int.toNat (List.length g.2 : Int))))]) rfl (by erw [Sl.form r444]; kernel_rfl)) ?_
          refine x_one 13 rfl (by kernel_rfl) rfl ?_
          refine o_store_bx (cs' := [Value.int .i64 g.1, (subV v440 2 (Int.toNat 0) (Int.toNat (List.length g.2 : Int)))]) tp24_d rfl rfl bx10 rfl (Nat.le_of_ble_eq_true rfl) (AllOne.all (.cons rfl (.cons (sl_one r444) .nil))) rfl ?_
          intro w445 ch446 bx447
          replace hbase := hbase.chg ch446 (is_ne rfl)
          replace r_g_v := r_g_v.chg ch446 (is_ne rfl)
          replace bx5 := bx5.chg ch446 (is_ne rfl)
          replace o308 := o308.chg ch446 (is_ne rfl) (is_ne rfl)
          replace o442 := o442.chg ch446 (is_ne rfl) (is_ne rfl)
          replace r444 := r444.chg ch446 (is_ne rfl)
          clear bx10
          refine x_nil (by kernel_rfl) ?_
          refine run_ret (vs := [Value.agg (List.toArray [Value.int .i64 g.1, (subV v440 2 (Int.toNat 0) (Int.toNat (List.length g.2 : Int)))])]) Try.func16 (.cell rfl (load_bxN (ds := [Value.int .i64 g.1, (subV v440 2 (Int.toNat 0) (Int.toNat (List.length g.2 : Int)))]) tp24_d bx447 rfl rfl) .nil) ?_
          -- return 30
          have e0 : ((g.1, (List.drop (Int.toNat 0) (List.take (Int.toNat (List.length g.2 : Int)) (g.2 ++ [(-7, 7)])))) : (Int) × (List ((Int) × (Int)))) = (g) := by
            simp
          exact ⟨(fin w0 g438 (fun n => if n = 3 then 1 else 0), (subV v440 2 (Int.toNat 0) (Int.toNat (List.length g.2 : Int)))), (congrArg (a₁ := (g.1, (List.drop (Int.toNat 0) (List.take (Int.toNat (List.length g.2 : Int)) (g.2 ++ [(-7, 7)]))))) (fun (z0 : (Int) × (List ((Int) × (Int)))) => Ending.returned (Value.agg (List.toArray [Value.int .i64 z0.1, (subV v440 2 (Int.toNat 0) (Int.toNat (List.length g.2 : Int)))]))) e0), hbase.fresh _, (upV_sub (o442.glue (γ := c0) (ren := (fun n => if n = 3 then 1 else 0)) (k := 1) hbase.col rfl rfl) (by simp))⟩
        · skip
          refine o_append (α := (Int) × (Int)) (xs := g.2) (ys := ([(-7, 7)])) g433 (J := is 3) (S := is 3) (3, 0) rfl Try.underlying22 tp60_d (by decide) rfl rfl rfl o437 o308.flat (by decide) (by first | omega | (simp; done) | (simp; omega)) ?_
          intro g448 w449 v450 ch451 o452
          replace hbase := hbase.chg ch451 (is_ne rfl)
          replace r_g_v := r_g_v.chg ch451 (is_ne rfl)
          replace bx5 := bx5.chg ch451 (is_ne rfl)
          replace bx10 := bx10.chg ch451 (is_ne rfl)
          replace o308 := o308.chg ch451 (is_ne rfl) (is_ne rfl)
          clear o437
          refine x_pure (v := (subV v450 2 (Int.toNat 0) (Int.toNat (List.length g.2 : Int)))) 11 rfl (by kernel_rfl) (by kernel_rfl) rfl (fun w => e_slice (α := (Int) × (Int)) (xs := (g.2 ++ [(-7, 7)])) (v := v450) (l := 0) (h := (List.length g.2 : Int)) Try.underlying22 rfl rfl o452.flat (.inr ⟨rfl, rfl⟩) (.inl (congrArg some rfl)) (by first | omega | (simp only [List.length_append, List.length_cons, List.length_nil]; omega)) (by first | omega | (simp only [List.length_append, List.length_cons, List.length_nil]; omega)) (by first | omega | (simp only [List.length_append, List.length_cons, List.length_nil]; omega))) ?_
          have r454 := sl_sub o452.flat (show Int.toNat 0 ≤ Int.toNat (List.length g.2 : Int) by first | omega | (simp only [List.length_append, List.length_cons, List.length_nil]; omega)) (show Int.toNat (List.length g.2 : Int) ≤ List.length _ by first | omega | (simp only [List.length_append, List.length_cons, List.length_nil]; omega))
          refine x_one 1 rfl (by kernel_rfl) rfl ?_
          refine o_of_val (v := Value.int .i64 g.1) (e_load_bx1 tp3_d rfl bx5 rfl) ?_
          refine x_pure (v := Value.agg (List.toArray [Value.int .i64 g.1, (subV v450 2 (Int.toNat 0) (Int.toNat (List.length g.2 : Int)))])) 12 rfl (by kernel_rfl) (by kernel_rfl) rfl (fun w => e_build (vs := [(0, Value.int .i64 g.1), (1, (subV v450 2 (Int.toNat 0) (Int.toNat (List.length g.2 : Int))))]) rfl (by erw [Sl.form r454]; kernel_rfl)) ?_
          refine x_one 13 rfl (by kernel_rfl) rfl ?_
          refine o_store_bx (cs' := [Value.int .i64 g.1, (subV v450 2 (Int.toNat 0) (Int.toNat (List.length g.2 : Int)))]) tp24_d rfl rfl bx10 rfl (Nat.le_of_ble_eq_true rfl) (AllOne.all (.cons rfl (.cons (sl_one r454) .nil))) rfl ?_
          intro w455 ch456 bx457
          replace hbase := hbase.chg ch456 (is_ne rfl)
          replace r_g_v := r_g_v.chg ch456 (is_ne rfl)
          replace bx5 := bx5.chg ch456 (is_ne rfl)
          replace o308 := o308.chg ch456 (is_ne rfl) (is_ne rfl)
          replace o452 := o452.chg ch456 (is_ne rfl) (is_ne rfl)
          replace r454 := r454.chg ch456 (is_ne rfl)
          clear bx10
          refine x_nil (by kernel_rfl) ?_
          refine run_ret (vs := [Value.agg (List.toArray [Value.int .i64 g.1, (subV v450 2 (Int.toNat 0) (Int.toNat (List.length g.2 : Int)))])]) Try.func16 (.cell rfl (load_bxN (ds := [Value.int .i64 g.1, (subV v450 2 (Int.toNat 0) (Int.toNat (List.length g.2 : Int)))]) tp24_d bx457 rfl rfl) .nil) ?_
          -- return 31
          have e0 : ((g.1, (List.drop (Int.toNat 0) (List.take (Int.toNat (List.length g.2 : Int)) (g.2 ++ [(-7, 7)])))) : (Int) × (List ((Int) × (Int)))) = (g) := by
            simp
          exact ⟨(fin w0 g448 (fun n => if n = 3 then 1 else 0), (subV v450 2 (Int.toNat 0) (Int.toNat (List.length g.2 : Int)))), (congrArg (a₁ := (g.1, (List.drop (Int.toNat 0) (List.take (Int.toNat (List.length g.2 : Int)) (g.2 ++ [(-7, 7)]))))) (fun (z0 : (Int) × (List ((Int) × (Int)))) => Ending.returned (Value.agg (List.toArray [Value.int .i64 z0.1, (subV v450 2 (Int.toNat 0) (Int.toNat (List.length g.2 : Int)))]))) e0), hbase.fresh _, (upV_sub (o452.glue (γ := c0) (ren := (fun n => if n = 3 then 1 else 0)) (k := 1) hbase.col rfl rfl) (by simp))⟩
  · skip
    refine o_of_val (v := g_v) (e_load_bx1 tp22_d rfl bx5 rfl) ?_
    have len458 := (r_g_v).small
    refine x_pure (v := Value.int .i64 (List.length g.2 : Int)) 10 rfl (by kernel_rfl) (by kernel_rfl) rfl (fun w => e_len Try.underlying22 rfl r_g_v) ?_
    refine x_many 1 [4, 6] (by kernel_rfl) ⟨x_of 1 rfl (by kernel_rfl) rfl ?_, x_of 4 rfl (by kernel_rfl) rfl ?_, x_of 6 rfl (by kernel_rfl) rfl ?_, trivial⟩
    · skip
      refine o_of_val (v := Value.int .i64 g.1) (e_load_bx1 tp3_d rfl bx5 rfl) ?_
      refine x_two 4 6 rfl rfl (by kernel_rfl) rfl rfl ?_ ?_
      · skip
        refine o_append (α := (Int) × (Int)) (xs := ([])) (ys := g.2) g9 (J := is 3) (S := is 3) (3, 0) rfl Try.underlying22 tp60_d (by decide) rfl rfl rfl Ow.nil r_g_v (by decide) (by first | omega | (simp; done) | (simp; omega)) ?_
        intro g459 w460 v461 ch462 o463
        replace hbase := hbase.chg ch462 (is_ne rfl)
        replace r_g_v := r_g_v.chg ch462 (is_ne rfl)
        replace bx5 := bx5.chg ch462 (is_ne rfl)
        replace bx10 := bx10.chg ch462 (is_ne rfl)
        replace o463 : Ow g459 (is 3) (is 3) w460 v461 g.2 := o463
        refine x_one 6 rfl (by kernel_rfl) rfl ?_
        refine o_buildSlice (α := (Int) × (Int)) g459 (is 4) (is 4) (4, 0) rfl [(-7, 7)] Try.underlying22 tp60_d (by decide) (by decide) (vs := [(0, Value.agg (List.toArray [Value.int .i64 (-7), Value.int .i64 7]))]) rfl rfl (.cons rfl .nil) ?_
        intro g464 w465 v466 ch467 o468
        replace hbase := hbase.chg ch467 (not_no _)
        replace r_g_v := r_g_v.chg ch467 (not_no _)
        replace bx5 := bx5.chg ch467 (not_no _)
        replace bx10 := bx10.chg ch467 (not_no _)
        replace o463 := o463.chg ch467 (not_no _) (not_no _)
        refine x_one 7 rfl (by kernel_rfl) rfl ?_
        refine o_append (α := (Int) × (Int)) (xs := g.2) (ys := ([(-7, 7)])) g464 (J := is 3) (S := is 3) (3, 0) rfl Try.underlying22 tp60_d (by decide) rfl rfl rfl o463 o468.flat (by decide) (by first | omega | (simp; done) | (simp; omega)) ?_
        intro g469 w470 v471 ch472 o473
        replace hbase := hbase.chg ch472 (is_ne rfl)
        replace r_g_v := r_g_v.chg ch472 (is_ne rfl)
        replace bx5 := bx5.chg ch472 (is_ne rfl)
        replace bx10 := bx10.chg ch472 (is_ne rfl)
        replace o468 := o468.chg ch472 (is_ne rfl) (is_ne rfl)
        clear o463
        refine x_pure (v := (subV v471 2 (Int.toNat 0) (Int.toNat (List.length g.2 : Int)))) 11 rfl (by kernel_rfl) (by kernel_rfl) rfl (fun w => e_slice (α := (Int) × (Int)) (xs := (g.2 ++ [(-7, 7)])) (v := v471) (l := 0) (h := (List.length g.2 : Int)) Try.underlying22 rfl rfl o473.flat (.inr ⟨rfl, rfl⟩) (.inl (congrArg some rfl)) (by first | omega | (simp only [List.length_append, List.length_cons, List.length_nil]; omega)) (by first | omega | (simp only [List.length_append, List.length_cons, List.length_nil]; omega)) (by first | omega | (simp only [List.length_append, List.length_cons, List.length_nil]; omega))) ?_
        have r475 := sl_sub o473.flat (show Int.toNat 0 ≤ Int.toNat (List.length g.2 : Int) by first | omega | (simp only [List.length_append, List.length_cons, List.length_nil]; omega)) (show Int.toNat (List.length g.2 : Int) ≤ List.length _ by first | omega | (simp only [List.length_append, List.length_cons, List.length_nil]; omega))
        refine x_pure (v := Value.agg (List.toArray [Value.int .i64 g.1, (subV v471 2 (Int.toNat 0) (Int.toNat (List.length g.2 : Int)))])) 12 rfl (by kernel_rfl) (by kernel_rfl) rfl (fun w => e_build (vs := [(0, Value.int .i64 g.1), (1, (subV v471 2 (Int.toNat 0) (Int.toNat (List.length g.2 : Int))))]) rfl (by erw [Sl.form r475]; kernel_rfl)) ?_
        refine x_one 13 rfl (by kernel_rfl) rfl ?_
        refine o_store_bx (cs' := [Value.int .i64 g.1, (subV v471 2 (Int.toNat 0) (Int.toNat (List.length g.2 : Int)))]) tp24_d rfl rfl bx10 rfl (Nat.le_of_ble_eq_true rfl) (AllOne.all (.cons rfl (.cons (sl_one r475) .nil))) rfl ?_
        intro w476 ch477 bx478
        replace hbase := hbase.chg ch477 (is_ne rfl)
        replace r_g_v := r_g_v.chg ch477 (is_ne rfl)
        replace bx5 := bx5.chg ch477 (is_ne rfl)
        replace o468 := o468.chg ch477 (is_ne rfl) (is_ne rfl)
        replace o473 := o473.chg ch477 (is_ne rfl) (is_ne rfl)
        replace r475 := r475.chg ch477 (is_ne rfl)
        clear bx10
        refine x_nil (by kernel_rfl) ?_
        refine run_ret (vs := [Value.agg (List.toArray [Value.int .i64 g.1, (subV v471 2 (Int.toNat 0) (Int.toNat (List.length g.2 : Int)))])]) Try.func16 (.cell rfl (load_bxN (ds := [Value.int .i64 g.1, (subV v471 2 (Int.toNat 0) (Int.toNat (List.length g.2 : Int)))]) tp24_d bx478 rfl rfl) .nil) ?_
        -- return 32
        have e0 : ((g.1, (List.drop (Int.toNat 0) (List.take (Int.toNat (List.length g.2 : Int)) (g.2 ++ [(-7, 7)])))) : (Int) × (List ((Int) × (Int)))) = (g) := by
          simp
        exact ⟨(fin w0 g469 (fun n => if n = 3 then 1 else 0), (subV v471 2 (Int.toNat 0) (Int.toNat (List.length g.2 : Int)))), (congrArg (a₁ := (g.1, (List.drop (Int.toNat 0) (List.take (Int.toNat (List.length g.2 : Int)) (g.2 ++ [(-7, 7)]))))) (fun (z0 : (Int) × (List ((Int) × (Int)))) => Ending.returned (Value.agg (List.toArray [Value.int .i64 z0.1, (subV v471 2 (Int.toNat 0) (Int.toNat (List.length g.2 : Int)))]))) e0), hbase.fresh _, (upV_sub (o473.glue (γ := c0) (ren := (fun n => if n = 3 then 1 else 0)) (k := 1) hbase.col rfl rfl) (by simp))⟩
      · skip
        refine o_buildSlice (α := (Int) × (Int)) g9 (is 4) (is 4) (4, 0) rfl [(-7, 7)] Try.underlying22 tp60_d (by decide) (by decide) (vs := [(0, Value.agg (List.toArray [Value.int .i64 (-7), Value.int .i64 7]))]) rfl rfl (.cons rfl .nil) ?_
        intro g479 w480 v481 ch482 o483
        replace hbase := hbase.chg ch482 (not_no _)
        replace r_g_v := r_g_v.chg ch482 (not_no _)
        replace bx5 := bx5.chg ch482 (not_no _)
        replace bx10 := bx10.chg ch482 (not_no _)
        refine x_one 4 rfl (by kernel_rfl) rfl ?_
        refine o_append (α := (Int) × (Int)) (xs := ([])) (ys := g.2) g479 (J := is 3) (S := is 3) (3, 0) rfl Try.underlying22 tp60_d (by decide) rfl rfl rfl Ow.nil r_g_v (by decide) (by first | omega | (simp; done) | (simp; omega)) ?_
        intro g484 w485 v486 ch487 o488
        replace hbase := hbase.chg ch487 (is_ne rfl)
        replace r_g_v := r_g_v.chg ch487 (is_ne rfl)
        replace bx5 := bx5.chg ch487 (is_ne rfl)
        replace bx10 := bx10.chg ch487 (is_ne rfl)
        replace o483 := o483.chg ch487 (is_ne rfl) (is_ne rfl)
        replace o488 : Ow g484 (is 3) (is 3) w485 v486 g.2 := o488
        refine x_one 7 rfl (by kernel_rfl) rfl ?_
        refine o_append (α := (Int) × (Int)) (xs := g.2) (ys := ([(-7, 7)])) g484 (J := is 3) (S := is 3) (3, 0) rfl Try.underlying22 tp60_d (by decide) rfl rfl rfl o488 o483.flat (by decide) (by first | omega | (simp; done) | (simp; omega)) ?_
        intro g489 w490 v491 ch492 o493
        replace hbase := hbase.chg ch492 (is_ne rfl)
        replace r_g_v := r_g_v.chg ch492 (is_ne rfl)
        replace bx5 := bx5.chg ch492 (is_ne rfl)
        replace bx10 := bx10.chg ch492 (is_ne rfl)
        replace o483 := o483.chg ch492 (is_ne rfl) (is_ne rfl)
        clear o488
        refine x_pure (v := (subV v491 2 (Int.toNat 0) (Int.toNat (List.length g.2 : Int)))) 11 rfl (by kernel_rfl) (by kernel_rfl) rfl (fun w => e_slice (α := (Int) × (Int)) (xs := (g.2 ++ [(-7, 7)])) (v := v491) (l := 0) (h := (List.length g.2 : Int)) Try.underlying22 rfl rfl o493.flat (.inr ⟨rfl, rfl⟩) (.inl (congrArg some rfl)) (by first | omega | (simp only [List.length_append, List.length_cons, List.length_nil]; omega)) (by first | omega | (simp only [List.length_append, List.length_cons, List.length_nil]; omega)) (by first | omega | (simp only [List.length_append, List.length_cons, List.length_nil]; omega))) ?_
        have r495 := sl_sub o493.flat (show Int.toNat 0 ≤ Int.toNat (List.length g.2 : Int) by first | omega | (simp only [List.length_append, List.length_cons, List.length_nil]; omega)) (show Int.toNat (List.length g.2 : Int) ≤ List.length _ by first | omega | (simp only [List.length_append, List.length_cons, List.length_nil]; omega))
        refine x_pure (v := Value.agg (List.toArray [Value.int .i64 g.1, (subV v491 2 (Int.toNat 0) (Int.toNat (List.length g.2 : Int)))])) 12 rfl (by kernel_rfl) (by kernel_rfl) rfl (fun w => e_build (vs := [(0, Value.int .i64 g.1), (1, (subV v491 2 (Int.toNat 0) (Int.toNat (List.length g.2 : Int))))]) rfl (by erw [Sl.form r495]; kernel_rfl)) ?_
        refine x_one 13 rfl (by kernel_rfl) rfl ?_
        refine o_store_bx (cs' := [Value.int .i64 g.1, (subV v491 2 (Int.toNat 0) (Int.toNat (List.length g.2 : Int)))]) tp24_d rfl rfl bx10 rfl (Nat.le_of_ble_eq_true rfl) (AllOne.all (.cons rfl (.cons (sl_one r495) .nil))) rfl ?_
        intro w496 ch497 bx498
        replace hbase := hbase.chg ch497 (is_ne rfl)
        replace r_g_v := r_g_v.chg ch497 (is_ne rfl)
        replace bx5 := bx5.chg ch497 (is_ne rfl)
        replace o483 := o483.chg ch497 (is_ne rfl) (is_ne rfl)
        replace o493 := o493.chg ch497 (is_ne rfl) (is_ne rfl)
        replace r495 := r495.chg ch497 (is_ne rfl)
        clear bx10
        refine x_nil (by kernel_rfl) ?_
        refine run_ret (vs := [Value.agg (List.toArray [Value.int .i64 g.1, (subV v491 2 (Int.toNat 0) (Int.toNat (List.length g.2 : Int)))])]) Try.func16 (.cell rfl (load_bxN (ds := [Value.int .i64 g.1, (subV v491 2 (Int.toNat 0) (Int.toNat (List.length g.2 : Int)))]) tp24_d bx498 rfl rfl) .nil) ?_
        -- return 33
        have e0 : ((g.1, (List.drop (Int.toNat 0) (List.take (Int.toNat (List.length g.2 : Int)) (g.2 ++ [(-7, 7)])))) : (Int) × (List ((Int) × (Int)))) = (g) := by
          simp
        exact ⟨(fin w0 g489 (fun n => if n = 3 then 1 else 0), (subV v491 2 (Int.toNat 0) (Int.toNat (List.length g.2 : Int)))), (congrArg (a₁ := (g.1, (List.drop (Int.toNat 0) (List.take (Int.toNat (List.length g.2 : Int)) (g.2 ++ [(-7, 7)]))))) (fun (z0 : (Int) × (List ((Int) × (Int)))) => Ending.returned (Value.agg (List.toArray [Value.int .i64 z0.1, (subV v491 2 (Int.toNat 0) (Int.toNat (List.length g.2 : Int)))]))) e0), hbase.fresh _, (upV_sub (o493.glue (γ := c0) (ren := (fun n => if n = 3 then 1 else 0)) (k := 1) hbase.col rfl rfl) (by simp))⟩
    · skip
      refine o_append (α := (Int) × (Int)) (xs := ([])) (ys := g.2) g9 (J := is 3) (S := is 3) (3, 0) rfl Try.underlying22 tp60_d (by decide) rfl rfl rfl Ow.nil r_g_v (by decide) (by first | omega | (simp; done) | (simp; omega)) ?_
      intro g499 w500 v501 ch502 o503
      replace hbase := hbase.chg ch502 (is_ne rfl)
      replace r_g_v := r_g_v.chg ch502 (is_ne rfl)
      replace bx5 := bx5.chg ch502 (is_ne rfl)
      replace bx10 := bx10.chg ch502 (is_ne rfl)
      replace o503 : Ow g499 (is 3) (is 3) w500 v501 g.2 := o503
      refine x_two 1 6 rfl rfl (by kernel_rfl) rfl rfl ?_ ?_
      · skip
        refine o_of_val (v := Value.int .i64 g.1) (e_load_bx1 tp3_d rfl bx5 rfl) ?_
        refine x_one 6 rfl (by kernel_rfl) rfl ?_
        refine o_buildSlice (α := (Int) × (Int)) g499 (is 4) (is 4) (4, 0) rfl [(-7, 7)] Try.underlying22 tp60_d (by decide) (by decide) (vs := [(0, Value.agg (List.toArray [Value.int .i64 (-7), Value.int .i64 7]))]) rfl rfl (.cons rfl .nil) ?_
        intro g504 w505 v506 ch507 o508
        replace hbase := hbase.chg ch507 (not_no _)
        replace r_g_v := r_g_v.chg ch507 (not_no _)
        replace bx5 := bx5.chg ch507 (not_no _)
        replace bx10 := bx10.chg ch507 (not_no _)
        replace o503 := o503.chg ch507 (not_no _) (not_no _)
        refine x_one 7 rfl (by kernel_rfl) rfl ?_
        refine o_append (α := (Int) × (Int)) (xs := g.2) (ys := ([(-7, 7)])) g504 (J := is 3) (S := is 3) (3, 0) rfl Try.underlying22 tp60_d (by decide) rfl rfl rfl o503 o508.flat (by decide) (by first | omega | (simp; done) | (simp; omega)) ?_
        intro g509 w510 v511 ch512 o513
        replace hbase := hbase.chg ch512 (is_ne rfl)
        replace r_g_v := r_g_v.chg ch512 (is_ne rfl)
        replace bx5 := bx5.chg ch512 (is_ne rfl)
        replace bx10 := bx10.chg ch512 (is_ne rfl)
        replace o508 := o508.chg ch512 (is_ne rfl) (is_ne rfl)
        clear o503
        refine x_pure (v := (subV v511 2 (Int.toNat 0) (Int.toNat (List.length g.2 : Int)))) 11 rfl (by kernel_rfl) (by kernel_rfl) rfl (fun w => e_slice (α := (Int) × (Int)) (xs := (g.2 ++ [(-7, 7)])) (v := v511) (l := 0) (h := (List.length g.2 : Int)) Try.underlying22 rfl rfl o513.flat (.inr ⟨rfl, rfl⟩) (.inl (congrArg some rfl)) (by first | omega | (simp only [List.length_append, List.length_cons, List.length_nil]; omega)) (by first | omega | (simp only [List.length_append, List.length_cons, List.length_nil]; omega)) (by first | omega | (simp only [List.length_append, List.length_cons, List.length_nil]; omega))) ?_
        have r515 := sl_sub o513.flat (show Int.toNat 0 ≤ Int.toNat (List.length g.2 : Int) by first | omega | (simp only [List.length_append, List.length_cons, List.length_nil]; omega)) (show Int.toNat (List.length g.2 : Int) ≤ List.length _ by first | omega | (simp only [List.length_append, List.length_cons, List.length_nil]; omega))
        refine x_pure (v := Value.agg (List.toArray [Value.int .i64 g.1, (subV v511 2 (Int.toNat 0) (Int.toNat (List.length g.2 : Int)))])) 12 rfl (by kernel_rfl) (by kernel_rfl) rfl (fun w => e_build (vs := [(0, Value.int .i64 g.1), (1, (subV v511 2 (Int.toNat 0) (Int.toNat (List.length g.2 : Int))))]) rfl (by erw [Sl.form r515]; kernel_rfl)) ?_
        refine x_one 13 rfl (by kernel_rfl) rfl ?_
        refine o_store_bx (cs' := [Value.int .i64 g.1, (subV v511 2 (Int.toNat 0) (Int.toNat (List.length g.2 : Int)))]) tp24_d rfl rfl bx10 rfl (Nat.le_of_ble_eq_true rfl) (AllOne.all (.cons rfl (.cons (sl_one r515) .nil))) rfl ?_
        intro w516 ch517 bx518
        replace hbase := hbase.chg ch517 (is_ne rfl)
        replace r_g_v := r_g_v.chg ch517 (is_ne rfl)
        replace bx5 := bx5.chg ch517 (is_ne rfl)
        replace o508 := o508.chg ch517 (is_ne rfl) (is_ne rfl)
        replace o513 := o513.chg ch517 (is_ne rfl) (is_ne rfl)
        replace r515 := r515.chg ch517 (is_ne rfl)
        clear bx10
        refine x_nil (by kernel_rfl) ?_
        refine run_ret (vs := [Value.agg (List.toArray [Value.int .i64 g.1, (subV v511 2 (Int.toNat 0) (Int.toNat (List.length g.2 : Int)))])]) Try.func16 (.cell rfl (load_bxN (ds := [Value.int .i64 g.1, (subV v511 2 (Int.toNat 0) (Int.toNat (List.length g.2 : Int)))]) tp24_d bx518 rfl rfl) .nil) ?_
        -- return 34
        have e0 : ((g.1, (List.drop (Int.toNat 0) (List.take (Int.toNat (List.length g.2 : Int)) (g.2 ++ [(-7, 7)])))) : (Int) × (List ((Int) × (Int)))) = (g) := by
          simp
        exact ⟨(fin w0 g509 (fun n => if n = 3 then 1 else 0), (subV v511 2 (Int.toNat 0) (Int.toNat (List.length g.2 : Int)))), (congrArg (a₁ := (g.1, (List.drop (Int.toNat 0) (List.take (Int.toNat (List.length g.2 : Int)) (g.2 ++ [(-7, 7)]))))) (fun (z0 : (Int) × (List ((Int) × (Int)))) => Ending.returned (Value.agg (List.toArray [Value.int .i64 z0.1, (subV v511 2 (Int.toNat 0) (Int.toNat (List.length g.2 : Int)))]))) e0), hbase.fresh _, (upV_sub (o513.glue (γ := c0) (ren := (fun n => if n = 3 then 1 else 0)) (k := 1) hbase.col rfl rfl) (by simp))⟩
      · skip
        refine o_buildSlice (α := (Int) × (Int)) g499 (is 4) (is 4) (4, 0) rfl [(-7, 7)] Try.underlying22 tp60_d (by decide) (by decide) (vs := [(0, Value.agg (List.toArray [Value.int .i64 (-7), Value.int .i64 7]))]) rfl rfl (.cons rfl .nil) ?_
        intro g519 w520 v521 ch522 o523
        replace hbase := hbase.chg ch522 (not_no _)
        replace r_g_v := r_g_v.chg ch522 (not_no _)
        replace bx5 := bx5.chg ch522 (not_no _)
        replace bx10 := bx10.chg ch522 (not_no _)
        replace o503 := o503.chg ch522 (not_no _) (not_no _)
        refine x_two 1 7 rfl rfl (by kernel_rfl) rfl rfl ?_ ?_
        · skip
          refine o_of_val (v := Value.int .i64 g.1) (e_load_bx1 tp3_d rfl bx5 rfl) ?_
          refine x_one 7 rfl (by kernel_rfl) rfl ?_
          refine o_append (α := (Int) × (Int)) (xs := g.2) (ys := ([(-7, 7)])) g519 (J := is 3) (S := is 3) (3, 0) rfl Try.underlying22 tp60_d (by decide) rfl rfl rfl o503 o523.flat (by decide) (by first | omega | (simp; done) | (simp; omega)) ?_
          intro g524 w525 v526 ch527 o528
          replace hbase := hbase.chg ch527 (is_ne rfl)
          replace r_g_v := r_g_v.chg ch527 (is_ne rfl)
          replace bx5 := bx5.chg ch527 (is_ne rfl)
          replace bx10 := bx10.chg ch527 (is_ne rfl)
          replace o523 := o523.chg ch527 (is_ne rfl) (is_ne rfl)
          clear o503
          refine x_pure (v := (subV v526 2 (Int.toNat 0) (Int.toNat (List.length g.2 : Int)))) 11 rfl (by kernel_rfl) (by kernel_rfl) rfl (fun w => e_slice (α := (Int) × (Int)) (xs := (g.2 ++ [(-7, 7)])) (v := v526) (l := 0) (h := (List.length g.2 : Int)) Try.underlying22 rfl rfl o528.flat (.inr ⟨rfl, rfl⟩) (.inl (congrArg some rfl)) (by first | omega | (simp only [List.length_append, List.length_cons, List.length_nil]; omega)) (by first | omega | (simp only [List.length_append, List.length_cons, List.length_nil]; omega)) (by first | omega | (simp only [List.length_append, List.length_cons, List.length_nil]; omega))) ?_
          have r530 := sl_sub o528.flat (show Int.toNat 0 ≤ Int.toNat (List.length g.2 : Int) by first | omega | (simp only [List.length_append, List.length_cons, List.length_nil]; omega)) (show Int.toNat (List.length g.2 : Int) ≤ List.length _ by first | omega | (simp only [List.length_append, List.length_cons, List.length_nil]; omega))
          refine x_pure (v := Value.agg (List.toArray [Value.int .i64 g.1, (subV v526 2 (Int.toNat 0) (Int.toNat (List.length g.2 : Int)))])) 12 rfl (by kernel_rfl) (by kernel_rfl) rfl (fun w => e_build (vs := [(0, Value.int .i64 g.1), (1, (subV v526 2 (Int.toNat 0) (Int.toNat (List.length g.2 : Int))))]) rfl (by erw [Sl.form r530]; kernel_rfl)) ?_
          refine x_one 13 rfl (by kernel_rfl) rfl ?_
          refine o_store_bx (cs' := [Value.int .i64 g.1, (subV v526 2 (Int.toNat 0) (Int.toNat (List.length g.2 : Int)))]) tp24_d rfl rfl bx10 rfl (Nat.le_of_ble_eq_true rfl) (AllOne.all (.cons rfl (.cons (sl_one r530) .nil))) rfl ?_
          intro w531 ch532 bx533
          replace hbase := hbase.chg ch532 (is_ne rfl)
          replace r_g_v := r_g_v.chg ch532 (is_ne rfl)
          replace bx5 := bx5.chg ch532 (is_ne rfl)
          replace o523 := o523.chg ch532 (is_ne rfl) (is_ne rfl)
          replace o528 := o528.chg ch532 (is_ne rfl) (is_ne rfl)
          replace r530 := r530.chg ch532 (is_ne rfl)
          clear bx10
          refine x_nil (by kernel_rfl) ?_
          refine run_ret (vs := [Value.agg (List.toArray [Value.int .i64 g.1, (subV v526 2 (Int.toNat 0) (Int.toNat (List.length g.2 : Int)))])]) Try.func16 (.cell rfl (load_bxN (ds := [Value.int .i64 g.1, (subV v526 2 (Int.toNat 0) (Int.toNat (List.length g.2 : Int)))]) tp24_d bx533 rfl rfl) .nil) ?_
          -- return 35
          have e0 : ((g.1, (List.drop (Int.toNat 0) (List.take (Int.toNat (List.length g.2 : Int)) (g.2 ++ [(-7, 7)])))) : (Int) × (List ((Int) × (Int)))) = (g) := by
            simp
          exact ⟨(fin w0 g524 (fun n => if n = 3 then 1 else 0), (subV v526 2 (Int.toNat 0) (Int.toNat (List.length g.2 : Int)))), (congrArg (a₁ := (g.1, (List.drop (Int.toNat 0) (List.take (Int.toNat (List.length g.2 : Int)) (g.2 ++ [(-7, 7)]))))) (fun (z0 : (Int) × (List ((Int) × (Int)))) => Ending.returned (Value.agg (List.toArray [Value.int .i64 z0.1, (subV v526 2 (Int.toNat 0) (Int.toNat (List.length g.2 : Int)))]))) e0), hbase.fresh _, (upV_sub (o528.glue (γ := c0) (ren := (fun n => if n = 3 then 1 else 0)) (k := 1) hbase.col rfl rfl) (by simp))⟩
        · skip
          refine o_append (α := (Int) × (Int)) (xs := g.2) (ys := ([(-7, 7)])) g519 (J := is 3) (S := is 3) (3, 0) rfl Try.underlying22 tp60_d (by decide) rfl rfl rfl o503 o523.flat (by decide) (by first | omega | (simp; done) | (simp; omega)) ?_
          intro g534 w535 v536 ch537 o538
          replace hbase := hbase.chg ch537 (is_ne rfl)
          replace r_g_v := r_g_v.chg ch537 (is_ne rfl)
          replace bx5 := bx5.chg ch537 (is_ne rfl)
          replace bx10 := bx10.chg ch537 (is_ne rfl)
          replace o523 := o523.chg ch537 (is_ne rfl) (is_ne rfl)
          clear o503
          refine x_pure (v := (subV v536 2 (Int.toNat 0) (Int.toNat (List.length g.2 : Int)))) 11 rfl (by kernel_rfl) (by kernel_rfl) rfl (fun w => e_slice (α := (Int) × (Int)) (xs := (g.2 ++ [(-7, 7)])) (v := v536) (l := 0) (h := (List.length g.2 : Int)) Try.underlying22 rfl rfl o538.flat (.inr ⟨rfl, rfl⟩) (.inl (congrArg some rfl)) (by first | omega | (simp only [List.length_append, List.length_cons, List.length_nil]; omega)) (by first | omega | (simp only [List.length_append, List.length_cons, List.length_nil]; omega)) (by first | omega | (simp only [List.length_append, List.length_cons, List.length_nil]; omega))) ?_
          have r540 := sl_sub o538.flat (show Int.toNat 0 ≤ Int.toNat (List.length g.2 : Int) by first | omega | (simp only [List.length_append, List.length_cons, List.length_nil]; omega)) (show Int.toNat (List.length g.2 : Int) ≤ List.length _ by first | omega | (simp only [List.length_append, List.length_cons, List.length_nil]; omega))
          refine x_one 1 rfl (by kernel_rfl) rfl ?_
          refine o_of_val (v := Value.int .i64 g.1) (e_load_bx1 tp3_d rfl bx5 rfl) ?_
          refine x_pure (v := Value.agg (List.toArray [Value.int .i64 g.1, (subV v536 2 (Int.toNat 0) (Int.toNat (List.length g.2 : Int)))])) 12 rfl (by kernel_rfl) (by kernel_rfl) rfl (fun w => e_build (vs := [(0, Value.int .i64 g.1), (1, (subV v536 2 (Int.toNat 0) (Int.toNat (List.length g.2 : Int))))]) rfl (by erw [Sl.form r540]; kernel_rfl)) ?_
          refine x_one 13 rfl (by kernel_rfl) rfl ?_
          refine o_store_bx (cs' := [Value.int .i64 g.1, (subV v536 2 (Int.toNat 0) (Int.toNat (List.length g.2 : Int)))]) tp24_d rfl rfl bx10 rfl (Nat.le_of_ble_eq_true rfl) (AllOne.all (.cons rfl (.cons (sl_one r540) .nil))) rfl ?_
          intro w541 ch542 bx543
          replace hbase := hbase.chg ch542 (is_ne rfl)
          replace r_g_v := r_g_v.chg ch542 (is_ne rfl)
          replace bx5 := bx5.chg ch542 (is_ne rfl)
          replace o523 := o523.chg ch542 (is_ne rfl) (is_ne rfl)
          replace o538 := o538.chg ch542 (is_ne rfl) (is_ne rfl)
          replace r540 := r540.chg ch542 (is_ne rfl)
          clear bx10
          refine x_nil (by kernel_rfl) ?_
          refine run_ret (vs := [Value.agg (List.toArray [Value.int .i64 g.1, (subV v536 2 (Int.toNat 0) (Int.toNat (List.length g.2 : Int)))])]) Try.func16 (.cell rfl (load_bxN (ds := [Value.int .i64 g.1, (subV v536 2 (Int.toNat 0) (Int.toNat (List.length g.2 : Int)))]) tp24_d bx543 rfl rfl) .nil) ?_
          -- return 36
          have e0 : ((g.1, (List.drop (Int.toNat 0) (List.take (Int.toNat (List.length g.2 : Int)) (g.2 ++ [(-7, 7)])))) : (Int) × (List ((Int) × (Int)))) = (g) := by
            simp
          exact ⟨(fin w0 g534 (fun n => if n = 3 then 1 else 0), (subV v536 2 (Int.toNat 0) (Int.toNat (List.length g.2 : Int)))), (congrArg (a₁ := (g.1, (List.drop (Int.toNat 0) (List.take (Int.toNat (List.length g.2 : Int)) (g.2 ++ [(-7, 7)]))))) (fun (z0 : (Int) × (List ((Int) × (Int)))) => Ending.returned (Value.agg (List.toArray [Value.int .i64 z0.1, (subV v536 2 (Int.toNat 0) (Int.toNat (List.length g.2 : Int)))]))) e0), hbase.fresh _, (upV_sub (o538.glue (γ := c0) (ren := (fun n => if n = 3 then 1 else 0)) (k := 1) hbase.col rfl rfl) (by simp))⟩
    · skip
      refine o_buildSlice (α := (Int) × (Int)) g9 (is 4) (is 4) (4, 0) rfl [(-7, 7)] Try.underlying22 tp60_d (by decide) (by decide) (vs := [(0, Value.agg (List.toArray [Value.int .i64 (-7), Value.int .i64 7]))]) rfl rfl (.cons rfl .nil) ?_
      intro g544 w545 v546 ch547 o548
      replace hbase := hbase.chg ch547 (not_no _)
      replace r_g_v := r_g_v.chg ch547 (not_no _)
      replace bx5 := bx5.chg ch547 (not_no _)
      replace bx10 := bx10.chg ch547 (not_no _)
      refine x_two 1 4 rfl rfl (by kernel_rfl) rfl rfl ?_ ?_
      · skip
        refine o_of_val (v := Value.int .i64 g.1) (e_load_bx1 tp3_d rfl bx5 rfl) ?_
        refine x_one 4 rfl (by kernel_rfl) rfl ?_
        refine o_append (α := (Int) × (Int)) (xs := ([])) (ys := g.2) g544 (J := is 3) (S := is 3) (3, 0) rfl Try.underlying22 tp60_d (by decide) rfl rfl rfl Ow.nil r_g_v (by decide) (by first | omega | (simp; done) | (simp; omega)) ?_
        intro g549 w550 v551 ch552 o553
        replace hbase := hbase.chg ch552 (is_ne rfl)
        replace r_g_v := r_g_v.chg ch552 (is_ne rfl)
        replace bx5 := bx5.chg ch552 (is_ne rfl)
        replace bx10 := bx10.chg ch552 (is_ne rfl)
        replace o548 := o548.chg ch552 (is_ne rfl) (is_ne rfl)
        replace o553 : Ow g549 (is 3) (is 3) w550 v551 g.2 := o553
        refine x_one 7 rfl (by kernel_rfl) rfl ?_
        refine o_append (α := (Int) × (Int)) (xs := g.2) (ys := ([(-7, 7)])) g549 (J := is 3) (S := is 3) (3, 0) rfl Try.underlying22 tp60_d (by decide) rfl rfl rfl o553 o548.flat (by decide) (by first | omega | (simp; done) | (simp; omega)) ?_
        intro g554 w555 v556 ch557 o558
        replace hbase := hbase.chg ch557 (is_ne rfl)
        replace r_g_v := r_g_v.chg ch557 (is_ne rfl)
        replace bx5 := bx5.chg ch557 (is_ne rfl)
        replace bx10 := bx10.chg ch557 (is_ne rfl)
        replace o548 := o548.chg ch557 (is_ne rfl) (is_ne rfl)
        clear o553
        refine x_pure (v := (subV v556 2 (Int.toNat 0) (Int.toNat (List.length g.2 : Int)))) 11 rfl (by kernel_rfl) (by kernel_rfl) rfl (fun w => e_slice (α := (Int) × (Int)) (xs := (g.2 ++ [(-7, 7)])) (v := v556) (l := 0) (h := (List.length g.2 : Int)) Try.underlying22 rfl rfl o558.flat (.inr ⟨rfl, rfl⟩) (.inl (congrArg some rfl)) (by first | omega | (simp only [List.length_append, List.length_cons, List.length_nil]; omega)) (by first | omega | (simp only [List.length_append, List.length_cons, List.length_nil]; omega)) (by first | omega | (simp only [List.length_append, List.length_cons, List.length_nil]; omega))) ?_
        have r560 := sl_sub o558.flat (show Int.toNat 0 ≤ Int.toNat (List.length g.2 : Int) by first | omega | (simp only [List.length_append, List.length_cons, List.length_nil]; omega)) (show Int.toNat (List.length g.2 : Int) ≤ List.length _ by first | omega | (simp only [List.length_append, List.length_cons, List.length_nil]; omega))
        refine x_pure (v := Value.agg (List.toArray [Value.int .i64 g.1, (subV v556 2 (Int.toNat 0) (Int.toNat (List.length g.2 : Int)))])) 12 rfl (by kernel_rfl) (by kernel_rfl) rfl (fun w => e_build (vs := [(0, Value.int .i64 g.1), (1, (subV v556 2 (Int.toNat 0) (Int.toNat (List.length g.2 : Int))))]) rfl (by erw [Sl.form r560]; kernel_rfl)) ?_
        refine x_one 13 rfl (by kernel_rfl) rfl ?_
        refine o_store_bx (cs' := [Value.int .i64 g.1, (subV v556 2 (Int.toNat 0) (Int.toNat (List.length g.2 : Int)))]) tp24_d rfl rfl bx10 rfl (Nat.le_of_ble_eq_true rfl) (AllOne.all (.cons rfl (.cons (sl_one r560) .nil))) rfl ?_
        intro w561 ch562 bx563
        replace hbase := hbase.chg ch562 (is_ne rfl)
        replace r_g_v := r_g_v.chg ch562 (is_ne rfl)
        replace bx5 := bx5.chg ch562 (is_ne rfl)
        replace o548 := o548.chg ch562 (is_ne rfl) (is_ne rfl)
        replace o558 := o558.chg ch562 (is_ne rfl) (is_ne rfl)
        replace r560 := r560.chg ch562 (is_ne rfl)
        clear bx10
        refine x_nil (by kernel_rfl) ?_
        refine run_ret (vs := [Value.agg (List.toArray [Value.int .i64 g.1, (subV v556 2 (Int.toNat 0) (Int.toNat (List.length g.2 : Int)))])]) Try.func16 (.cell rfl (load_bxN (ds := [Value.int .i64 g.1, (subV v556 2 (Int.toNat 0) (Int.toNat (List.length g.2 : Int)))]) tp24_d bx563 rfl rfl) .nil) ?_
        -- return 37
        have e0 : ((g.1, (List.drop (Int.toNat 0) (List.take (Int.toNat (List.length g.2 : Int)) (g.2 ++ [(-7, 7)])))) : (Int) × (List ((Int) × (Int)))) = (g) := by
          simp
        exact ⟨(fin w0 g554 (fun n => if n = 3 then 1 else 0), (subV v556 2 (Int.toNat 0) (Int.toNat (List.length g.2 : Int)))), (congrArg (a₁ := (g.1, (List.drop (Int.toNat 0) (List.take (Int.toNat (List.length g.2 : Int)) (g.2 ++ [(-7, 7)]))))) (fun (z0 : (Int) × (List ((Int) × (Int)))) => Ending.returned (Value.agg (List.toArray [Value.int .i64 z0.1, (subV v556 2 (Int.toNat 0) (Int.toNat (List.length g.2 : Int)))]))) e0), hbase.fresh _, (upV_sub (o558.glue (γ := c0) (ren := (fun n => if n = 3 then 1 else 0)) (k := 1) hbase.col rfl rfl) (by simp))⟩
      · skip
        refine o_append (α := (Int) × (Int)) (xs := ([])) (ys := g.2) g544 (J := is 3) (S := is 3) (3, 0) rfl Try.underlying22 tp60_d (by decide) rfl rfl rfl Ow.nil r_g_v (by decide) (by first | omega | (simp; done) | (simp; omega)) ?_
        intro g564 w565 v566 ch567 o568
        replace hbase := hbase.chg ch567 (is_ne rfl)
        replace r_g_v := r_g_v.chg ch567 (is_ne rfl)
        replace bx5 := bx5.chg ch567 (is_ne rfl)
        replace bx10 := bx10.chg ch567 (is_ne rfl)
        replace o548 := o548.chg ch567 (is_ne rfl) (is_ne rfl)
        replace o568 : Ow g564 (is 3) (is 3) w565 v566 g.2 := o568
        refine x_two 1 7 rfl rfl (by kernel_rfl) rfl rfl ?_ ?_
        · skip
          refine o_of_val (v := Value.int .i64 g.1) (e_load_bx1 tp3_d rfl bx5 rfl) ?_
          refine x_one 7 rfl (by kernel_rfl) rfl ?_
          refine o_append (α := (Int) × (Int)) (xs := g.2) (ys := ([(-7, 7)])) g564 (J := is 3) (S := is 3) (3, 0) rfl Try.underlying22 tp60_d (by decide) rfl rfl rfl o568 o548.flat (by decide) (by first | omega | (simp; done) | (simp; omega)) ?_
          intro g569 w570 v571 ch572 o573
          replace hbase := hbase.chg ch572 (is_ne rfl)
          replace r_g_v := r_g_v.chg ch572 (is_ne rfl)
          replace bx5 := bx5.chg ch572 (is_ne rfl)
          replace bx10 := bx10.chg ch572 (is_ne rfl)
          replace o548 := o548.chg ch572 (is_ne rfl) (is_ne rfl)
          clear o568
          refine x_pure (v := (subV v571 2 (Int.toNat 0) (Int.toNat (List.length g.2 : Int)))) 11 rfl (by kernel_rfl) (by kernel_rfl) rfl (fun w => e_slice (α := (Int) × (Int)) (xs := (g.2 ++ [(-7, 7)])) (v := v571) (l := 0) (h := (List.length g.2 : Int)) Try.underlying22 rfl rfl o573.flat (.inr ⟨rfl, rfl⟩) (.inl (congrArg some rfl)) (by first | omega | (simp only [List.length_append, List.length_cons, List.length_nil]; omega)) (by first | omega | (simp only [List.length_append, List.length_cons, List.length_nil]; omega)) (by first | omega | (simp only [List.length_append, List.length_cons, List.length_nil]; omega))) ?_
          have r575 := sl_sub o573.flat (show Int.toNat 0 ≤ Int.toNat (List.length g.2 : Int) by first | omega | (simp only [List.length_append, List.length_cons, List.length_nil]; omega)) (show Int.toNat (List.length g.2 : Int) ≤ List.length _ by first | omega | (simp only [List.length_append, List.length_cons, List.length_nil]; omega))
          refine x_pure (v := Value.agg (List.toArray [Value.int .i64 g.1, (subV v571 2 (Int.toNat 0) (Int.toNat (List.length g.2 : Int)))])) 12 rfl (by kernel_rfl) (by kernel_rfl) rfl (fun w => e_build (vs := [(0, Value.int .i64 g.1), (1, (subV v571 2 (Int.toNat 0) (Int.toNat (List.length g.2 : Int))))]) rfl (by erw [Sl.form r575]; kernel_rfl)) ?_
          refine x_one 13 rfl (by kernel_rfl) rfl ?_
          refine o_store_bx (cs' := [Value.int .i64 g.1, (subV v571 2 (Int.toNat 0) (Int.toNat (List.length g.2 : Int)))]) tp24_d rfl rfl bx10 rfl (Nat.le_of_ble_eq_true rfl) (AllOne.all (.cons rfl (.cons (sl_one r575) .nil))) rfl ?_
          intro w576 ch577 bx578
          replace hbase := hbase.chg ch577 (is_ne rfl)
          replace r_g_v := r_g_v.chg ch577 (is_ne rfl)
          replace bx5 := bx5.chg ch577 (is_ne rfl)
          replace o548 := o548.chg ch577 (is_ne rfl) (is_ne rfl)
          replace o573 := o573.chg ch577 (is_ne rfl) (is_ne rfl)
          replace r575 := r575.chg ch577 (is_ne rfl)
          clear bx10
          refine x_nil (by kernel_rfl) ?_
          refine run_ret (vs := [Value.agg (List.toArray [Value.int .i64 g.1, (subV v571 2 (Int.toNat 0) (Int.toNat (List.length g.2 : Int)))])]) Try.func16 (.cell rfl (load_bxN (ds := [Value.int .i64 g.1, (subV v571 2 (Int.toNat 0) (Int.toNat (List.length g.2 : Int)))]) tp24_d bx578 rfl rfl) .nil) ?_
          -- return 38
          have e0 : ((g.1, (List.drop (Int.toNat 0) (List.take (Int.toNat (List.length g.2 : Int)) (g.2 ++ [(-7, 7)])))) : (Int) × (List ((Int) × (Int)))) = (g) := by
            simp
          exact ⟨(fin w0 g569 (fun n => if n = 3 then 1 else 0), (subV v571 2 (Int.toNat 0) (Int.toNat (List.length g.2 : Int)))), (congrArg (a₁ := (g.1, (List.drop (Int.toNat 0) (List.take (Int.toNat (List.length g.2 : Int)) (g.2 ++ [(-7, 7)]))))) (fun (z0 : (Int) × (List ((Int) × (Int)))) => Ending.returned (Value.agg (List.toArray [Value.int .i64 z0.1, (subV v571 2 (Int.toNat 0) (Int.toNat (List.length g.2 : Int)))]))) e0), hbase.fresh _, (upV_sub (o573.glue (γ := c0) (ren := (fun n => if n = 3 then 1 else 0)) (k := 1) hbase.col rfl rfl) (by simp))⟩
        · skip
          refine o_append (α := (Int) × (Int)) (xs := g.2) (ys := ([(-7, 7)])) g564 (J := is 3) (S := is 3) (3, 0) rfl Try.underlying22 tp60_d (by decide) rfl rfl rfl o568 o548.flat (by decide) (by first | omega | (simp; done) | (simp; omega)) ?_
          intro g579 w580 v581 ch582 o583
          replace hbase := hbase.chg ch582 (is_ne rfl)
          replace r_g_v := r_g_v.chg ch582 (is_ne rfl)
          replace bx5 := bx5.chg ch582 (is_ne rfl)
          replace bx10 := bx10.chg ch582 (is_ne rfl)
          replace o548 := o548.chg ch582 (is_ne rfl) (is_ne rfl)
          clear o568
          refine x_pure (v := (subV v581 2 (Int.toNat 0) (Int.toNat (List.length g.2 : Int)))) 11 rfl (by kernel_rfl) (by kernel_rfl) rfl (fun w => e_slice (α := (Int) × (Int)) (xs := (g.2 ++ [(-7, 7)])) (v := v581) (l := 0) (h := (List.length g.2 : Int)) Try.underlying22 rfl rfl o583.flat (.inr ⟨rfl, rfl⟩) (.inl (congrArg some rfl)) (by first | omega | (simp only [List.length_append, List.length_cons, List.length_nil]; omega)) (by first | omega | (simp only [List.length_append, List.length_cons, List.length_nil]; omega)) (by first | omega | (simp only [List.length_append, List.length_cons, List.length_nil]; omega))) ?_
          have r585 := sl_sub o583.flat (show Int.toNat 0 ≤ Int.toNat (List.length g.2 : Int) by first | omega | (simp only [List.length_append, List.length_cons, List.length_nil]; omega)) (show Int.toNat (List.length g.2 : Int) ≤ List.length _ by first | omega | (simp only [List.length_append, List.length_cons, List.length_nil]; omega))
          refine x_one 1 rfl (by kernel_rfl) rfl ?_
          refine o_of_val (v := Value.int .i64 g.1) (e_load_bx1 tp3_d rfl bx5 rfl) ?_
          refine x_pure (v := Value.agg (List.toArray [Value.int .i64 g.1, (subV v581 2 (Int.toNat 0) (Int.toNat (List.length g.2 : Int)))])) 12 rfl (by kernel_rfl) (by kernel_rfl) rfl (fun w => e_build (vs := [(0, Value.int .i64 g.1), (1, (subV v581 2 (Int.toNat 0) (Int.toNat (List.length g.2 : Int))))]) rfl (by erw [Sl.form r585]; kernel_rfl)) ?_
          refine x_one 13 rfl (by kernel_rfl) rfl ?_
          refine o_store_bx (cs' := [Value.int .i64 g.1, (subV v581 2 (Int.toNat 0) (Int.toNat (List.length g.2 : Int)))]) tp24_d rfl rfl bx10 rfl (Nat.le_of_ble_eq_true rfl) (AllOne.all (.cons rfl (.cons (sl_one r585) .nil))) rfl ?_
          intro w586 ch587 bx588
          replace hbase := hbase.chg ch587 (is_ne rfl)
          replace r_g_v := r_g_v.chg ch587 (is_ne rfl)
          replace bx5 := bx5.chg ch587 (is_ne rfl)
          replace o548 := o548.chg ch587 (is_ne rfl) (is_ne rfl)
          replace o583 := o583.chg ch587 (is_ne rfl) (is_ne rfl)
          replace r585 := r585.chg ch587 (is_ne rfl)
          clear bx10
          refine x_nil (by kernel_rfl) ?_
          refine run_ret (vs := [Value.agg (List.toArray [Value.int .i64 g.1, (subV v581 2 (Int.toNat 0) (Int.toNat (List.length g.2 : Int)))])]) Try.func16 (.cell rfl (load_bxN (ds := [Value.int .i64 g.1, (subV v581 2 (Int.toNat 0) (Int.toNat (List.length g.2 : Int)))]) tp24_d bx588 rfl rfl) .nil) ?_
          -- return 39
          have e0 : ((g.1, (List.drop (Int.toNat 0) (List.take (Int.toNat (List.length g.2 : Int)) (g.2 ++ [(-7, 7)])))) : (Int) × (List ((Int) × (Int)))) = (g) := by
            simp
          exact ⟨(fin w0 g579 (fun n => if n = 3 then 1 else 0), (subV v581 2 (Int.toNat 0) (Int.toNat (List.length g.2 : Int)))), (congrArg (a₁ := (g.1, (List.drop (Int.toNat 0) (List.take (Int.toNat (List.length g.2 : Int)) (g.2 ++ [(-7, 7)]))))) (fun (z0 : (Int) × (List ((Int) × (Int)))) => Ending.returned (Value.agg (List.toArray [Value.int .i64 z0.1, (subV v581 2 (Int.toNat 0) (Int.toNat (List.length g.2 : Int)))]))) e0), hbase.fresh _, (upV_sub (o583.glue (γ := c0) (ren := (fun n => if n = 3 then 1 else 0)) (k := 1) hbase.col rfl rfl) (by simp))⟩

theorem rSame_ok (w0 : World) (a : (Int) × (List ((Int) × (Int)))) (a_v : Value) (ha_v : Ro w0 a_v a.2) (b : (Int) × (List ((Int) × (Int)))) (b_v : Value) (hb_v : Ro w0 b_v b.2) :
    Calls Try.prog 19 #[Value.agg (List.toArray [Value.int .i64 a.1, a_v]), Value.agg (List.toArray [Value.int .i64 b.1, b_v])] w0 (fun ee w => ee = .returned (Value.bool (decide (a = b))) ∧ RowKit.Below w0.heap.size w0 w) := by
  refine calls_of_run Try.func19 rfl (Nat.le_of_ble_eq_true rfl) ?_
  have hbase := Base.start w0
  have r_a_v := ha_v.sl
  have r_b_v := hb_v.sl
  refine run_seq ?_
  refine run_region rfl ?_
  refine l_op rfl ?_
  refine o_box c0 (is 1) (1, 0) rfl rfl ?_
  intro g4 w1 b3 ch2 bx5
  replace hbase := hbase.chg ch2 (not_no _)
  replace r_a_v := r_a_v.chg ch2 (not_no _)
  replace r_b_v := r_b_v.chg ch2 (not_no _)
  replace bx5 : Bx g4 (is 1) w1 b3 [Value.int .i64 a.1, a_v] := bx5
  refine l_op rfl ?_
  refine o_box g4 (is 2) (2, 0) rfl rfl ?_
  intro g9 w6 b8 ch7 bx10
  replace hbase := hbase.chg ch7 (not_no _)
  replace r_a_v := r_a_v.chg ch7 (not_no _)
  replace r_b_v := r_b_v.chg ch7 (not_no _)
  replace bx5 := bx5.chg ch7 (not_no _)
  replace bx10 : Bx g9 (is 2) w6 b8 [Value.int .i64 b.1, b_v] := bx10
  refine l_val (v := Value.bool false) rfl (e_assign rfl) ?_
  refine l_nil ?_
  refine run_seq ?_
  refine run_seq ?_
  refine run_region rfl ?_
  refine l_val (v := Value.pointer (some ⟨b3, 0, none⟩)) rfl (e_fieldAddr Try.underlying24 rfl rfl rfl rfl) ?_
  refine l_val (v := Value.int .i64 a.1) rfl (e_load_bx1 tp3_d rfl bx5 rfl) ?_
  refine l_val (v := Value.pointer (some ⟨b8, 0, none⟩)) rfl (e_fieldAddr Try.underlying24 rfl rfl rfl rfl) ?_
  refine l_val (v := Value.int .i64 b.1) rfl (e_load_bx1 tp3_d rfl bx10 rfl) ?_
  refine l_val (v := Value.bool (!(decide (a.1 = b.1)))) rfl (e_neq (m := a.1) (n := b.1) rfl rfl) ?_
  refine l_val (v := Value.bool (!(decide (a.1 = b.1)))) rfl (e_move rfl) ?_
  by_cases q11 : a.1 = b.1
  · skip
    refine l_val (v := Value.pointer (some ⟨b3, 1, none⟩)) (want_y rfl rfl rfl (congrArg Bool.not (decide_eq_true q11))) (e_fieldAddr Try.underlying24 rfl rfl rfl rfl) ?_
    refine l_val (v := a_v) (want_y rfl rfl rfl (congrArg Bool.not (decide_eq_true q11))) (e_load_bx1 tp22_d rfl bx5 rfl) ?_
    have len11 := (r_a_v).small
    refine l_val (v := Value.int .i64 (List.length a.2 : Int)) (want_y rfl rfl rfl (congrArg Bool.not (decide_eq_true q11))) (e_len Try.underlying22 rfl r_a_v) ?_
    refine l_val (v := Value.pointer (some ⟨b8, 1, none⟩)) (want_y rfl rfl rfl (congrArg Bool.not (decide_eq_true q11))) (e_fieldAddr Try.underlying24 rfl rfl rfl rfl) ?_
    refine l_val (v := b_v) (want_y rfl rfl rfl (congrArg Bool.not (decide_eq_true q11))) (e_load_bx1 tp22_d rfl bx10 rfl) ?_
    have len12 := (r_b_v).small
    refine l_val (v := Value.int .i64 (List.length b.2 : Int)) (want_y rfl rfl rfl (congrArg Bool.not (decide_eq_true q11))) (e_len Try.underlying22 rfl r_b_v) ?_
    refine l_val (v := Value.bool (!(decide ((List.length a.2 : Int) = (List.length b.2 : Int))))) (want_y rfl rfl rfl (congrArg Bool.not (decide_eq_true q11))) (e_neq (m := (List.length a.2 : Int)) (n := (List.length b.2 : Int)) rfl rfl) ?_
    refine l_val (v := Value.bool (!(decide ((List.length a.2 : Int) = (List.length b.2 : Int))))) rfl (e_pick_f rfl (congrArg Bool.not (decide_eq_true q11)) rfl) ?_
    refine l_nil ?_
    by_cases p1 : (List.length a.2 : Int) = (List.length b.2 : Int)
    · skip
      refine run_cond_f rfl (congrArg Bool.not (decide_eq_true p1)) ?_
      refine run_skip ?_
      refine run_seq ?_
      refine run_seq ?_
      refine run_region rfl ?_
      refine l_val (v := Value.int .i64 0) rfl (e_assign rfl) ?_
      refine l_nil ?_
      refine run_block ?_
      refine run_loop (σ := Nat × Cmap) (fun ⟨k, gq⟩ f w => Base w0 gq w ∧ f 2 = Value.pointer (some ⟨b3, 0, none⟩) ∧ f 3 = Value.pointer (some ⟨b8, 0, none⟩) ∧ f 5 = Value.int .i64 (k : Int) ∧ Sl gq (is 0) w a_v a.2 ∧ Sl gq (is 0) w b_v b.2 ∧ Bx gq (is 1) w b3 [Value.int .i64 a.1, a_v] ∧ Bx gq (is 2) w b8 [Value.int .i64 b.1, b_v] ∧ (k : Int) ≤ ((List.length a.2 : Int) : Int) ∧ (List.take k a.2 = List.take k b.2)) (fun ⟨k, gq⟩ => Int.toNat (((List.length a.2 : Int) : Int) - (k : Int))) (0, g9) ?_ ?_
      · exact ⟨hbase, rfl, rfl, rfl, r_a_v, r_b_v, bx5, bx10, by omega, by simp⟩
      clear r_a_v
      clear r_b_v
      clear bx5
      clear bx10
      clear hbase
      rintro ⟨k, g15⟩ f13 w14 ⟨hbase, zs2, zs3, zs5, r_a_v, r_b_v, bx5, bx10, hle_k, hinv⟩ back4
      refine run_seq ?_
      refine run_seq ?_
      refine run_region rfl ?_
      refine l_val (v := Value.int .i64 (k : Int)) rfl (e_move (by exact zs5)) ?_
      refine l_val (v := Value.pointer (some ⟨b3, 1, none⟩)) rfl (e_fieldAddr Try.underlying24 rfl rfl (by exact zs2) rfl) ?_
      refine l_val (v := a_v) rfl (e_load_bx1 tp22_d rfl bx5 rfl) ?_
      refine l_val (v := Value.int .i64 (List.length a.2 : Int)) rfl (e_len Try.underlying22 rfl r_a_v) ?_
      refine l_val (v := Value.bool (decide ((k : Int) < (List.length a.2 : Int)))) rfl (e_lss (m := (k : Int)) (n := (List.length a.2 : Int)) rfl rfl) ?_
      refine l_nil ?_
      by_cases p4 : (k : Int) < (List.length a.2 : Int)
      · skip
        refine run_cond_t rfl (decide_eq_true p4) ?_
        refine run_skip ?_
        refine run_seq ?_
        refine run_block ?_
        refine run_seq ?_
        refine region_q g15 rfl mixed_d (by kernel_rfl) ?_
        intro w17 ch16
        replace hbase := hbase.chg ch16 (not_no _)
        replace r_a_v := r_a_v.chg ch16 (not_no _)
        replace r_b_v := r_b_v.chg ch16 (not_no _)
        replace bx5 := bx5.chg ch16 (not_no _)
        replace bx10 := bx10.chg ch16 (not_no _)
        refine q_val (v := Value.pointer (some ⟨b3, 1, none⟩)) rfl (fun w' hw' => e_fieldAddr Try.underlying24 rfl rfl (by exact zs2) rfl) ?_
        refine q_val (v := a_v) rfl (fun w' hw' => e_load_bx1 tp22_d rfl (bx5.bel hw') rfl) ?_
        refine q_val (v := Value.int .i64 (k : Int)) rfl (fun w' hw' => e_move (by exact zs5)) ?_
        refine q_val (v := Value.pointer (some (eAddr a_v 2 (Int.toNat (k : Int))))) rfl (fun w' hw' => e_indexAddr (α := (Int) × (Int)) (xs := a.2) (v := a_v) (i := (k : Int)) Try.underlying22 rfl rfl (r_a_v.bel hw') rfl (by omega) (by omega)) ?_
        refine q_val (v := Value.agg (List.toArray [Value.int .i64 ((gI a.2 (k : Int)).1), Value.int .i64 ((gI a.2 (k : Int)).2)])) rfl (fun w' hw' => e_load_elN (α := (Int) × (Int)) (xs := a.2) (v := a_v) (i := (k : Int)) tp60_d rfl (r_a_v.bel hw') (by omega) (by omega) rfl) ?_
        refine q_val (v := Value.pointer (some ⟨b8, 1, none⟩)) rfl (fun w' hw' => e_fieldAddr Try.underlying24 rfl rfl (by exact zs3) rfl) ?_
        refine q_val (v := b_v) rfl (fun w' hw' => e_load_bx1 tp22_d rfl (bx10.bel hw') rfl) ?_
        refine q_val (v := Value.int .i64 (k : Int)) rfl (fun w' hw' => e_move (by exact zs5)) ?_
        refine q_val (v := Value.pointer (some (eAddr b_v 2 (Int.toNat (k : Int))))) rfl (fun w' hw' => e_indexAddr (α := (Int) × (Int)) (xs := b.2) (v := b_v) (i := (k : Int)) Try.underlying22 rfl rfl (r_b_v.bel hw') rfl (by omega) (by omega)) ?_
        refine q_val (v := Value.agg (List.toArray [Value.int .i64 ((gI b.2 (k : Int)).1), Value.int .i64 ((gI b.2 (k : Int)).2)])) rfl (fun w' hw' => e_load_elN (α := (Int) × (Int)) (xs := b.2) (v := b_v) (i := (k : Int)) tp60_d rfl (r_b_v.bel hw') (by omega) (by omega) rfl) ?_
        refine q_val (v := Value.bool (!(decide ((gI a.2 (k : Int)) = (gI b.2 (k : Int)))))) rfl (fun w' hw' => e_neq_pair (a := (gI a.2 (k : Int))) (b := (gI b.2 (k : Int))) Try.underlying60 Try.underlying3 tp3_d (by kernel_rfl) rfl rfl) ?_
        refine q_nil ?_
        intro w18 hc19
        replace hc19 := chg_below hc19 g15
        replace hbase := hbase.chg hc19 (not_no _)
        replace r_a_v := r_a_v.chg hc19 (not_no _)
        replace r_b_v := r_b_v.chg hc19 (not_no _)
        replace bx5 := bx5.chg hc19 (not_no _)
        replace bx10 := bx10.chg hc19 (not_no _)
        by_cases p6 : (gI a.2 (k : Int)) = (gI b.2 (k : Int))
        · skip
          refine run_cond_f rfl (congrArg Bool.not (decide_eq_true p6)) ?_
          refine run_skip ?_
          refine run_inBlock ?_
          refine run_region rfl ?_
          refine l_val (v := Value.int .i64 (k : Int)) rfl (e_move (by exact zs5)) ?_
          refine l_val (v := Value.int .i64 ((k : Int) + 1)) rfl (e_add (m := (k : Int)) (n := 1) rfl rfl (by omega)) ?_
          refine l_val (v := Value.int .i64 ((k : Int) + 1)) rfl (e_assign rfl) ?_
          refine l_nil ?_
          refine back4 (k + 1, g15) _ _ ⟨hbase, (by exact zs2), (by exact zs3), rfl, r_a_v, r_b_v, bx5, bx10, by omega, ?_⟩ ?_
          · show List.take (k + 1) a.2 = List.take (k + 1) b.2
            rw [take_succ_gI (by assumption), take_succ_gI (by omega), hinv]; simp_all
          · show Int.toNat (((List.length a.2 : Int) : Int) - ((k + 1) : Int)) < Int.toNat (((List.length a.2 : Int) : Int) - (k : Int))
            omega
        · skip
          refine run_cond_t rfl (congrArg Bool.not (decide_eq_false p6)) ?_
          refine run_seq ?_
          clear bx5
          clear bx10
          refine run_region rfl ?_
          refine l_val (v := Value.bool false) rfl (e_assign rfl) ?_
          refine l_nil ?_
          refine run_ret (vs := [Value.bool false]) Try.func19 (.tmp rfl .nil) ?_
          -- return 0
          have e0 : (false : Bool) = (decide (a = b)) := by
            first
              | (have e := hinv; rw [List.take_of_length_le (by omega), List.take_of_length_le (by omega)] at e; exact (decide_eq_true (Prod.ext (by assumption) e)).symm)
              | (refine (decide_eq_false fun h => ?_).symm; subst h; simp_all; done)
              | (refine (decide_eq_false fun h => ?_).symm; subst h; omega)
          exact ⟨(congrArg (a₁ := false) (fun (z0 : Bool) => Ending.returned (Value.bool z0)) e0), hbase.below⟩
      · skip
        refine run_cond_f rfl (decide_eq_false p4) ?_
        refine run_exit rfl ?_
        refine run_seq ?_
        clear bx5
        clear bx10
        refine run_region rfl ?_
        refine l_val (v := Value.bool true) rfl (e_assign rfl) ?_
        refine l_nil ?_
        refine run_ret (vs := [Value.bool true]) Try.func19 (.tmp rfl .nil) ?_
        -- return 1
        have e0 : (true : Bool) = (decide (a = b)) := by
          first
            | (have e := hinv; rw [List.take_of_length_le (by omega), List.take_of_length_le (by omega)] at e; exact (decide_eq_true (Prod.ext (by assumption) e)).symm)
            | (refine (decide_eq_false fun h => ?_).symm; subst h; simp_all; done)
            | (refine (decide_eq_false fun h => ?_).symm; subst h; omega)
        exact ⟨(congrArg (a₁ := true) (fun (z0 : Bool) => Ending.returned (Value.bool z0)) e0), hbase.below⟩
    · skip
      refine run_cond_t rfl (congrArg Bool.not (decide_eq_false p1)) ?_
      refine run_seq ?_
      clear bx5
      clear bx10
      refine run_region rfl ?_
      refine l_val (v := Value.bool false) rfl (e_assign rfl) ?_
      refine l_nil ?_
      refine run_ret (vs := [Value.bool false]) Try.func19 (.tmp rfl .nil) ?_
      -- return 2
      have e0 : (false : Bool) = (decide (a = b)) := by
        first
          | (have e := hinv; rw [List.take_of_length_le (by omega), List.take_of_length_le (by omega)] at e; exact (decide_eq_true (Prod.ext (by assumption) e)).symm)
          | (refine (decide_eq_false fun h => ?_).symm; subst h; simp_all; done)
          | (refine (decide_eq_false fun h => ?_).symm; subst h; omega)
      exact ⟨(congrArg (a₁ := false) (fun (z0 : Bool) => Ending.returned (Value.bool z0)) e0), hbase.below⟩
  · skip
    refine l_skip (want_n rfl rfl rfl (congrArg Bool.not (decide_eq_false q11))) ?_
    refine l_skip (want_n rfl rfl rfl (congrArg Bool.not (decide_eq_false q11))) ?_
    refine l_skip (want_n rfl rfl rfl (congrArg Bool.not (decide_eq_false q11))) ?_
    refine l_skip (want_n rfl rfl rfl (congrArg Bool.not (decide_eq_false q11))) ?_
    refine l_skip (want_n rfl rfl rfl (congrArg Bool.not (decide_eq_false q11))) ?_
    refine l_skip (want_n rfl rfl rfl (congrArg Bool.not (decide_eq_false q11))) ?_
    refine l_skip (want_n rfl rfl rfl (congrArg Bool.not (decide_eq_false q11))) ?_
    refine l_val (v := Value.bool true) rfl (e_pick_t rfl (congrArg Bool.not (decide_eq_false q11)) rfl) ?_
    refine l_nil ?_
    refine run_cond_t rfl rfl ?_
    refine run_seq ?_
    clear bx5
    clear bx10
    refine run_region rfl ?_
    refine l_val (v := Value.bool false) rfl (e_assign rfl) ?_
    refine l_nil ?_
    refine run_ret (vs := [Value.bool false]) Try.func19 (.tmp rfl .nil) ?_
    -- return 3
    have e0 : (false : Bool) = (decide (a = b)) := by
      first
        | (have e := hinv; rw [List.take_of_length_le (by omega), List.take_of_length_le (by omega)] at e; exact (decide_eq_true (Prod.ext (by assumption) e)).symm)
        | (refine (decide_eq_false fun h => ?_).symm; subst h; simp_all; done)
        | (refine (decide_eq_false fun h => ?_).symm; subst h; omega)
    exact ⟨(congrArg (a₁ := false) (fun (z0 : Bool) => Ending.returned (Value.bool z0)) e0), hbase.below⟩

theorem Kept_ok (w0 : World) (t : (Int) × (List ((Int) × (Int)))) (t_v : Value) (ht_v : Ro w0 t_v t.2) (g : (Int) × (List ((Int) × (Int)))) (g_v : Value) (hg_v : Ro w0 g_v g.2) (hmark : Ro w0 (upV t_v) (t.2 ++ [((-7 : Int), (7 : Int))])) :
    Calls Try.prog 20 #[Value.agg (List.toArray [Value.int .i64 t.1, t_v]), Value.agg (List.toArray [Value.int .i64 g.1, g_v])] w0 (fun ee w => ee = .returned (Value.bool (decide (t = g))) ∧ RowKit.Below w0.heap.size w0 w) := by
  refine calls_of_run Try.func20 rfl (Nat.le_of_ble_eq_true rfl) ?_
  have hbase := Base.start w0
  have r_t_v := ht_v.sl
  have r_g_v := hg_v.sl
  have r_up := hmark.sl
  refine run_seq ?_
  refine run_region rfl ?_
  refine l_op rfl ?_
  refine o_box c0 (is 1) (1, 0) rfl rfl ?_
  intro g4 w1 b3 ch2 bx5
  replace hbase := hbase.chg ch2 (not_no _)
  replace r_t_v := r_t_v.chg ch2 (not_no _)
  replace r_g_v := r_g_v.chg ch2 (not_no _)
  replace r_up := r_up.chg ch2 (not_no _)
  replace bx5 : Bx g4 (is 1) w1 b3 [Value.int .i64 t.1, t_v] := bx5
  refine l_op rfl ?_
  refine o_box g4 (is 2) (2, 0) rfl rfl ?_
  intro g9 w6 b8 ch7 bx10
  replace hbase := hbase.chg ch7 (not_no _)
  replace r_t_v := r_t_v.chg ch7 (not_no _)
  replace r_g_v := r_g_v.chg ch7 (not_no _)
  replace r_up := r_up.chg ch7 (not_no _)
  replace bx5 := bx5.chg ch7 (not_no _)
  replace bx10 : Bx g9 (is 2) w6 b8 [Value.int .i64 g.1, g_v] := bx10
  refine l_val (v := Value.bool false) rfl (e_assign rfl) ?_
  refine l_nil ?_
  refine run_seq ?_
  refine region_q g9 rfl mixed_d (by kernel_rfl) ?_
  intro w12 ch11
  replace hbase := hbase.chg ch11 (not_no _)
  replace r_t_v := r_t_v.chg ch11 (not_no _)
  replace r_g_v := r_g_v.chg ch11 (not_no _)
  replace r_up := r_up.chg ch11 (not_no _)
  replace bx5 := bx5.chg ch11 (not_no _)
  replace bx10 := bx10.chg ch11 (not_no _)
  refine q_val (v := Value.agg (List.toArray [Value.int .i64 t.1, t_v])) rfl (fun w' hw' => e_load_bxN (ds := [Value.int .i64 t.1, t_v]) tp24_d rfl (bx5.bel hw') rfl rfl) ?_
  refine q_val (v := Value.agg (List.toArray [Value.int .i64 g.1, g_v])) rfl (fun w' hw' => e_load_bxN (ds := [Value.int .i64 g.1, g_v]) tp24_d rfl (bx10.bel hw') rfl rfl) ?_
  refine q_call (v := Value.bool (decide (t = g))) rfl (fun w' hw' => e_call (vals := [Value.agg (List.toArray [Value.int .i64 t.1, t_v]), Value.agg (List.toArray [Value.int .i64 g.1, g_v])]) Try.func19 bd19_d nm19_d rfl) (fun w' hw' => (rSame_ok w' t t_v ((r_t_v.bel hw')).ro g g_v ((r_g_v.bel hw')).ro).mono fun e w2 h2 => ⟨h2.1, hw'.trans (h2.2.mono hw'.size)⟩) ?_
  refine q_val (v := Value.bool (decide (t = g))) rfl (fun w' hw' => e_move rfl) ?_
  by_cases q8 : (decide (t = g)) = true
  · skip
    refine q_val (v := Value.pointer (some ⟨b3, 1, none⟩)) (want_y rfl rfl rfl q8) (fun w' hw' => e_fieldAddr Try.underlying24 rfl rfl rfl rfl) ?_
    refine q_val (v := t_v) (want_y rfl rfl rfl q8) (fun w' hw' => e_load_bx1 tp22_d rfl (bx5.bel hw') rfl) ?_
    refine q_val (v := Value.pointer (some ⟨b8, 1, none⟩)) (want_y rfl rfl rfl q8) (fun w' hw' => e_fieldAddr Try.underlying24 rfl rfl rfl rfl) ?_
    refine q_val (v := g_v) (want_y rfl rfl rfl q8) (fun w' hw' => e_load_bx1 tp22_d rfl (bx10.bel hw') rfl) ?_
    have len13 := (r_g_v).small
    refine q_val (v := Value.int .i64 (List.length g.2 : Int)) (want_y rfl rfl rfl q8) (fun w' hw' => e_len Try.underlying22 rfl (r_g_v.bel hw')) ?_
    refine q_val (v := Value.int .i64 ((List.length g.2 : Int) + 1)) (want_y rfl rfl rfl q8) (fun w' hw' => e_add (m := (List.length g.2 : Int)) (n := 1) rfl rfl (by omega)) ?_
    refine q_val (v := (upV t_v)) (want_y rfl rfl rfl q8) (fun w' hw' => e_slice_up (α := Int × Int) Try.underlying22 rfl rfl (r_up.bel hw') rfl (by rw [show t.2.length = g.2.length from congrArg (fun z => z.2.length) (of_decide_eq_true q8)])) ?_
    refine q_val (v := Value.pointer (some ⟨b8, 1, none⟩)) (want_y rfl rfl rfl q8) (fun w' hw' => e_fieldAddr Try.underlying24 rfl rfl rfl rfl) ?_
    refine q_val (v := g_v) (want_y rfl rfl rfl q8) (fun w' hw' => e_load_bx1 tp22_d rfl (bx10.bel hw') rfl) ?_
    refine q_val (v := Value.int .i64 (List.length g.2 : Int)) (want_y rfl rfl rfl q8) (fun w' hw' => e_len Try.underlying22 rfl (r_g_v.bel hw')) ?_
    refine q_val (v := Value.pointer (some (eAddr (upV t_v) 2 (Int.toNat (List.length g.2 : Int))))) (want_y rfl rfl rfl q8) (fun w' hw' => e_indexAddr (α := (Int) × (Int)) (xs := t.2 ++ [((-7 : Int), (7 : Int))]) (v := (upV t_v)) (i := (List.length g.2 : Int)) Try.underlying22 rfl rfl (r_up.bel hw') rfl (by (have hl : t.2.length = g.2.length := congrArg (fun z => z.2.length) (of_decide_eq_true q8)); first | omega | (simp only [List.length_append, List.length_cons, List.length_nil]; omega)) (by (have hl : t.2.length = g.2.length := congrArg (fun z => z.2.length) (of_decide_eq_true q8)); first | omega | (simp only [List.length_append, List.length_cons, List.length_nil]; omega))) ?_
    refine q_val (v := Value.agg (List.toArray [Value.int .i64 ((gI (t.2 ++ [((-7 : Int), (7 : Int))]) (List.length g.2 : Int)).1), Value.int .i64 ((gI (t.2 ++ [((-7 : Int), (7 : Int))]) (List.length g.2 : Int)).2)])) (want_y rfl rfl rfl q8) (fun w' hw' => e_load_elN (α := (Int) × (Int)) (xs := t.2 ++ [((-7 : Int), (7 : Int))]) (v := (upV t_v)) (i := (List.length g.2 : Int)) tp60_d rfl (r_up.bel hw') (by (have hl : t.2.length = g.2.length := congrArg (fun z => z.2.length) (of_decide_eq_true q8)); first | omega | (simp only [List.length_append, List.length_cons, List.length_nil]; omega)) (by (have hl : t.2.length = g.2.length := congrArg (fun z => z.2.length) (of_decide_eq_true q8)); first | omega | (simp only [List.length_append, List.length_cons, List.length_nil]; omega)) rfl) ?_
    refine q_val (v := Value.agg (List.toArray [Value.int .i64 (-7), Value.int .i64 7])) (want_y rfl rfl rfl q8) (fun w' hw' => e_build (vs := [(0, Value.int .i64 (-7)), (1, Value.int .i64 7)]) rfl (by kernel_rfl)) ?_
    refine q_val (v := Value.bool (decide ((gI (t.2 ++ [((-7 : Int), (7 : Int))]) (List.length g.2 : Int)) = (-7, 7)))) (want_y rfl rfl rfl q8) (fun w' hw' => e_eql_pair (a := (gI (t.2 ++ [((-7 : Int), (7 : Int))]) (List.length g.2 : Int))) (b := (-7, 7)) Try.underlying60 Try.underlying3 tp3_d (by kernel_rfl) rfl rfl) ?_
    refine q_val (v := Value.bool (decide ((gI (t.2 ++ [((-7 : Int), (7 : Int))]) (List.length g.2 : Int)) = (-7, 7)))) rfl (fun w' hw' => e_pick_t rfl q8 rfl) ?_
    refine q_val (v := Value.bool (decide ((gI (t.2 ++ [((-7 : Int), (7 : Int))]) (List.length g.2 : Int)) = (-7, 7)))) rfl (fun w' hw' => e_assign rfl) ?_
    refine q_nil ?_
    intro w14 hc15
    replace hc15 := chg_below hc15 g9
    replace hbase := hbase.chg hc15 (not_no _)
    replace r_t_v := r_t_v.chg hc15 (not_no _)
    replace r_g_v := r_g_v.chg hc15 (not_no _)
    replace r_up := r_up.chg hc15 (not_no _)
    replace bx5 := bx5.chg hc15 (not_no _)
    replace bx10 := bx10.chg hc15 (not_no _)
    refine run_ret (vs := [Value.bool (decide ((gI (t.2 ++ [((-7 : Int), (7 : Int))]) (List.length g.2 : Int)) = (-7, 7)))]) Try.func20 (.tmp rfl .nil) ?_
    -- return 0
    have e0 : (decide ((gI (t.2 ++ [((-7 : Int), (7 : Int))]) (List.length g.2 : Int)) = (-7, 7)) : Bool) = (decide (t = g)) := by
      first
        | (have hh := of_decide_eq_true q8
           subst hh
           simp [gI]; done)
        | (rw [Bool.eq_false_iff] at q8; simp_all; done)
        | simp_all
    exact ⟨(congrArg (a₁ := decide ((gI (t.2 ++ [((-7 : Int), (7 : Int))]) (List.length g.2 : Int)) = (-7, 7))) (fun (z0 : Bool) => Ending.returned (Value.bool z0)) e0), hbase.below⟩
  · skip
    refine q_skip (want_n rfl rfl rfl (Bool.eq_false_iff.2 q8)) ?_
    refine q_skip (want_n rfl rfl rfl (Bool.eq_false_iff.2 q8)) ?_
    refine q_skip (want_n rfl rfl rfl (Bool.eq_false_iff.2 q8)) ?_
    refine q_skip (want_n rfl rfl rfl (Bool.eq_false_iff.2 q8)) ?_
    refine q_skip (want_n rfl rfl rfl (Bool.eq_false_iff.2 q8)) ?_
    refine q_skip (want_n rfl rfl rfl (Bool.eq_false_iff.2 q8)) ?_
    refine q_skip (want_n rfl rfl rfl (Bool.eq_false_iff.2 q8)) ?_
    refine q_skip (want_n rfl rfl rfl (Bool.eq_false_iff.2 q8)) ?_
    refine q_skip (want_n rfl rfl rfl (Bool.eq_false_iff.2 q8)) ?_
    refine q_skip (want_n rfl rfl rfl (Bool.eq_false_iff.2 q8)) ?_
    refine q_skip (want_n rfl rfl rfl (Bool.eq_false_iff.2 q8)) ?_
    refine q_skip (want_n rfl rfl rfl (Bool.eq_false_iff.2 q8)) ?_
    refine q_skip (want_n rfl rfl rfl (Bool.eq_false_iff.2 q8)) ?_
    refine q_skip (want_n rfl rfl rfl (Bool.eq_false_iff.2 q8)) ?_
    refine q_val (v := Value.bool false) rfl (fun w' hw' => e_pick_f rfl (Bool.eq_false_iff.2 q8) rfl) ?_
    refine q_val (v := Value.bool false) rfl (fun w' hw' => e_assign rfl) ?_
    refine q_nil ?_
    intro w16 hc17
    replace hc17 := chg_below hc17 g9
    replace hbase := hbase.chg hc17 (not_no _)
    replace r_t_v := r_t_v.chg hc17 (not_no _)
    replace r_g_v := r_g_v.chg hc17 (not_no _)
    replace r_up := r_up.chg hc17 (not_no _)
    replace bx5 := bx5.chg hc17 (not_no _)
    replace bx10 := bx10.chg hc17 (not_no _)
    refine run_ret (vs := [Value.bool false]) Try.func20 (.tmp rfl .nil) ?_
    -- return 1
    have e0 : (false : Bool) = (decide (t = g)) := by
      first
        | (have hh := of_decide_eq_true q8
           subst hh
           simp [gI]; done)
        | (rw [Bool.eq_false_iff] at q8; simp_all; done)
        | simp_all
    exact ⟨(congrArg (a₁ := false) (fun (z0 : Bool) => Ending.returned (Value.bool z0)) e0), hbase.below⟩
end TL
