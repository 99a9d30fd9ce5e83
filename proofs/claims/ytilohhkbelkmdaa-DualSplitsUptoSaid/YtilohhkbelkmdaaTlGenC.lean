import Derived.Test.YtilohhkbelkmdaaTlGenA
import Derived.Test.YtilohhkbelkmdaaProg
import Derived.Test.YtilohhkbelkmdaaTlP3
set_option linter.all false
set_option maxRecDepth 20000
namespace TL
open Go Go.Proofs
theorem mixed_c : Try.prog.follows .mixedOrders = true := by kernel_rfl
theorem tp3_c : Tp Try.prog 3 false 1 8 (.int .i64 0) := Tp.of (by kernel_rfl)
theorem tp22_c : Tp Try.prog 22 false 1 24 (.slice none 0 0) := Tp.of (by kernel_rfl)
theorem tp24_c : Tp Try.prog 24 true 2 32 (.agg #[.int .i64 0, .slice none 0 0]) := Tp.of (by kernel_rfl)
theorem tp60_c : Tp Try.prog 60 true 2 16 (.agg #[.int .i64 0, .int .i64 0]) := Tp.of (by kernel_rfl)
theorem copied_ok (w0 : World) (g : (Int) × (List ((Int) × (Int)))) (g_v : Value) (hg_v : Ro w0 g_v g.2) (hmay : MayP g) :
    Calls Try.prog 95 #[Value.agg (List.toArray [Value.int .i64 g.1, g_v])] w0 (fun ee w => ∃ xx : Cmap × Value, ee = .returned ((fun ⟨δ, rv0⟩ => Value.agg (List.toArray [Value.int .i64 g.1, rv0])) xx) ∧ (fun (⟨δ, rv0⟩ : Cmap × Value) (w : World) => Fresh w0 δ w ∧ Ow δ (is 1) (is 1) w rv0 g.2) xx w) := by
 refine calls_of_run Try.func95 rfl (Nat.le_of_ble_eq_true rfl) ?_
 have hbase := Base.start w0
 have r_g_v := hg_v.sl
 obtain ⟨hm1, hm2, hm3, hm4⟩ := hmay
 refine run_seq (run_region rfl (l_op rfl ?_))
 refine o_box c0 (is 1) (1, 0) rfl rfl ?_
 intro g4 w1 b3 ch2 bx5
 replace bx5 : Bx g4 (is 1) w1 b3 [Value.int .i64 g.1, g_v] := bx5
 refine l_op rfl ?_
 refine o_alloc g4 (is 2) (2, 0) rfl tp24_c ?_
 intro g9 w6 b8 ch7 bx10
 replace bx10 : Bx g9 (is 2) w6 b8 [Value.int .i64 0, Value.slice none 0 0] := bx10
 refine l_nil (run_seq ?_)
 refine run_region_h g9 (inl [2, 3]) mixed_c ?_
 intro w12 ch11
 refine h_take (v := Value.pointer (some ⟨b3, 0, none⟩)) 0 rfl (by kernel_rfl) (by kernel_rfl) rfl (Chg.refl _ _ _) (fun w' hw' => e_fieldAddr Try.underlying24 rfl rfl rfl rfl) ?_
 replace bx5 := (bx5.chg ch7 (not_no _)).chg ch11 (not_no _)
 refine h_take (v := Value.int .i64 g.1) 1 rfl (by kernel_rfl) (by kernel_rfl) rfl (Chg.refl _ _ _) (fun w' hw' => e_load_bx1 tp3_c rfl (bx5.chg hw' (is_nl rfl)) rfl) ?_
 refine h_take (v := Value.pointer (some ⟨b3, 1, none⟩)) 2 rfl (by kernel_rfl) (by kernel_rfl) rfl (Chg.refl _ _ _) (fun w' hw' => e_fieldAddr Try.underlying24 rfl rfl rfl rfl) ?_
 refine h_take (v := g_v) 3 rfl (by kernel_rfl) (by kernel_rfl) rfl (Chg.refl _ _ _) (fun w' hw' => e_load_bx1 tp22_c rfl (bx5.chg hw' (is_nl rfl)) rfl) ?_
 have C13 : Chg (inl []) _ _ _ _ := (ch2.n).seq ((ch7.n).seq (ch11.n))
 replace r_g_v := r_g_v.chg C13 (is_nl rfl)
 have len14 := (r_g_v).small
 refine h_take (v := Value.int .i64 (List.length g.2 : Int)) 4 rfl (by kernel_rfl) (by kernel_rfl) rfl (Chg.refl _ _ _) (fun w' hw' => e_len Try.underlying22 rfl r_g_v) ?_
 refine h_take (v := Value.int .i64 ((List.length g.2 : Int) + 1)) 5 rfl (by kernel_rfl) (by kernel_rfl) rfl (Chg.refl _ _ _) (fun w' hw' => e_add (m := (List.length g.2 : Int)) (n := 1) rfl rfl (by omega)) ?_
 refine h_take (v := Value.pointer (some ⟨b3, 1, none⟩)) 7 rfl (by kernel_rfl) (by kernel_rfl) rfl (Chg.refl _ _ _) (fun w' hw' => e_fieldAddr Try.underlying24 rfl rfl rfl rfl) ?_
 refine h_take (v := g_v) 8 rfl (by kernel_rfl) (by kernel_rfl) rfl (Chg.refl _ _ _) (fun w' hw' => e_load_bx1 tp22_c rfl (bx5.chg hw' (is_nl rfl)) rfl) ?_
 refine h_one 6 rfl (by kernel_rfl) rfl ?_
 refine o_make (α := (Int) × (Int)) (l := 0) (cp := (List.length g.2 : Int) + 1) g9 (is 3) (is 3) (3, 0) rfl ((0 : Int), (0 : Int)) Try.underlying22 tp60_c rfl rfl rfl (by omega) (by omega) (by omega) (by omega) ?_
 intro g15 w16 v17 ch18 o19 _
 have hs20 : Chg (inl [2, 3]) _ _ _ _ := ch18.n
 refine ⟨hs20.same, ?_⟩
 refine h_one 9 rfl (by kernel_rfl) rfl ?_
 refine o_append (α := (Int) × (Int)) (xs := (List.replicate (Int.toNat 0) ((0 : Int), (0 : Int)))) (ys := g.2) g15 (J := is 3) (S := is 3) (3, 0) rfl Try.underlying22 tp60_c (by decide) rfl rfl rfl o19 (r_g_v.chg hs20 (is_nl rfl)) (by decide) (by first | omega | (simp; done) | (simp; omega)) ?_
 intro g21 w22 v23 ch24 o25
 clear o19
 have hs26 := hs20.seq (ch24.l rfl)
 refine ⟨hs26.same, ?_⟩
 refine h_take (v := Value.agg (List.toArray [Value.int .i64 g.1, v23])) 10 rfl (by kernel_rfl) (by kernel_rfl) rfl hs26.same (fun w' hw' => e_build (vs := [(0, Value.int .i64 g.1), (1, v23)]) rfl (by rw [Sl.form o25.flat]; kernel_rfl)) ?_
 refine h_one 11 rfl (by kernel_rfl) rfl ?_
 have C30 : Chg (inl [3]) _ _ _ _ := (ch11.n).seq ((ch18.n).seq (ch24.l rfl))
 replace bx10 := bx10.chg C30 (is_nl rfl)
 refine o_store_bx (cs' := [Value.int .i64 g.1, v23]) tp24_c rfl rfl bx10 rfl (Nat.le_of_ble_eq_true rfl) (AllOne.all (.cons rfl (.cons (sl_one o25.flat) .nil))) rfl ?_
 intro w27 ch28 bx29
 clear bx10
 have hs31 := hs26.seq (ch28.l rfl)
 refine ⟨hs31.same, ?_⟩
 refine h_nil (by kernel_rfl) ?_
 refine run_ret (vs := [Value.agg (List.toArray [Value.int .i64 g.1, v23])]) Try.func95 (.cell rfl (load_bxN (ds := [Value.int .i64 g.1, v23]) tp24_c bx29 rfl rfl) .nil) ?_
 -- return 0
 have C32 : Chg (inl [2, 3]) _ _ _ _ := (ch2.n).seq ((ch7.n).seq ((ch11.n).seq ((ch18.n).seq ((ch24.l rfl).seq (ch28.l rfl)))))
 replace hbase := hbase.chg C32 (is_nl rfl)
 replace o25 := o25.chg ch28 (is_ne rfl) (is_ne rfl)
 have e0 : ((g.1, ((List.replicate (Int.toNat 0) ((0 : Int), (0 : Int))) ++ g.2)) : (Int) × (List ((Int) × (Int)))) = (g) := by
   rfl
 exact ⟨(fin w0 g21 (fun n => if n = 3 then 1 else 0), v23), (congrArg (a₁ := (g.1, ((List.replicate (Int.toNat 0) ((0 : Int), (0 : Int))) ++ g.2))) (fun (z0 : (Int) × (List ((Int) × (Int)))) => Ending.returned (Value.agg (List.toArray [Value.int .i64 z0.1, v23]))) e0), hbase.fresh _, ((congrArg (fun (z : (Int) × (List ((Int) × (Int)))) => z.2) e0) ▸ (o25.glue (γ := c0) (ren := (fun n => if n = 3 then 1 else 0)) (k := 1) hbase.col rfl rfl))⟩
end TL
