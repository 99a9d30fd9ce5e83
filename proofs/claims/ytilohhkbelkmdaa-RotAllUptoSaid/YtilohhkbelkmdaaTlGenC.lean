import Derived.Test.YtilohhkbelkmdaaTlGenA
import Derived.Test.YtilohhkbelkmdaaProg
import Derived.Test.YtilohhkbelkmdaaTlP2
set_option linter.all false
set_option maxRecDepth 20000
namespace TL
open Go Go.Proofs
theorem mixed_c : Try.prog.follows .mixedOrders = true := by kernel_rfl
theorem tp3_c : Tp Try.prog 3 false 1 8 (.int .i64 0) := Tp.of (by kernel_rfl)
theorem tp22_c : Tp Try.prog 22 false 1 24 (.slice none 0 0) := Tp.of (by kernel_rfl)
theorem tp24_c : Tp Try.prog 24 true 2 32 (.agg #[.int .i64 0, .slice none 0 0]) := Tp.of (by kernel_rfl)
theorem tp60_c : Tp Try.prog 60 true 2 16 (.agg #[.int .i64 0, .int .i64 0]) := Tp.of (by kernel_rfl)
theorem bd53_c : Try.f53.body.isNone = false := rfl
theorem nm53_c : (Try.f53.name == "runtime.NumGoroutine") = false := by decide +kernel
theorem bd95_c : Try.f95.body.isNone = false := rfl
theorem nm95_c : (Try.f95.name == "runtime.NumGoroutine") = false := by decide +kernel
theorem bd103_c : Try.f103.body.isNone = false := rfl
theorem nm103_c : (Try.f103.name == "runtime.NumGoroutine") = false := by decide +kernel
theorem bd104_c : Try.f104.body.isNone = false := rfl
theorem nm104_c : (Try.f104.name == "runtime.NumGoroutine") = false := by decide +kernel
theorem bd105_c : Try.f105.body.isNone = false := rfl
theorem nm105_c : (Try.f105.name == "runtime.NumGoroutine") = false := by decide +kernel
theorem copied_ok (w0 : World) (g : (Int) × (List ((Int) × (Int)))) (g_v : Value) (hg_v : Ro w0 g_v g.2) (hmay : MayP g) :
    Calls Try.prog 95 #[Value.agg (List.toArray [Value.int .i64 g.1, g_v])] w0 (fun ee w => ∃ xx : Cmap × Value, ee = .returned ((fun ⟨δ, rv0⟩ => Value.agg (List.toArray [Value.int .i64 g.1, rv0])) xx) ∧ (fun (⟨δ, rv0⟩ : Cmap × Value) (w : World) => Fresh w0 δ w ∧ Ow δ (is 1) (is 1) w rv0 g.2) xx w) := by
 refine calls_of_run Try.func95 rfl (Nat.le_of_ble_eq_true rfl) ?_
 have hbase := Base.start w0
 have r_g_v := hg_v.sl
 obtain ⟨hm1, hm2, hm3, hm4⟩ := hmay
 refine run_seq (run_region rfl (l_op rfl ?_))
 refine o_box c0 (is 1) (1, 0) rfl rfl ?_
 intro g4 w1 b3 ch2 bx5
 replace bx5 : Bx g4 (is 1) w1 b3 [Value.int .i64 g.1, g_v] := bx5
 refine l_op rfl ?_
 refine o_alloc g4 (is 2) (2, 0) rfl tp24_c ?_
 intro g9 w6 b8 ch7 bx10
 replace bx10 : Bx g9 (is 2) w6 b8 [Value.int .i64 0, Value.slice none 0 0] := bx10
 refine l_nil (run_seq ?_)
 refine run_region_h g9 (inl [2, 3]) mixed_c ?_
 intro w12 ch11
 refine h_take (v := Value.pointer (some ⟨b3, 0, none⟩)) 0 rfl (by kernel_rfl) (by kernel_rfl) rfl (Chg.refl _ _ _) (fun w' hw' => e_fieldAddr Try.underlying24 rfl rfl rfl rfl) ?_
 replace bx5 := (bx5.chg ch7 (not_no _)).chg ch11 (not_no _)
 refine h_take (v := Value.int .i64 g.1) 1 rfl (by kernel_rfl) (by kernel_rfl) rfl (Chg.refl _ _ _) (fun w' hw' => e_load_bx1 tp3_c rfl (bx5.chg hw' (is_nl rfl)) rfl) ?_
 refine h_take (v := Value.pointer (some ⟨b3, 1, none⟩)) 2 rfl (by kernel_rfl) (by kernel_rfl) rfl (Chg.refl _ _ _) (fun w' hw' => e_fieldAddr Try.underlying24 rfl rfl rfl rfl) ?_
 refine h_take (v := g_v) 3 rfl (by kernel_rfl) (by kernel_rfl) rfl (Chg.refl _ _ _) (fun w' hw' => e_load_bx1 tp22_c rfl (bx5.chg hw' (is_nl rfl)) rfl) ?_
 have C13 : Chg (inl []) _ _ _ _ := (ch2.n).seq ((ch7.n).seq (ch11.n))
 replace r_g_v := r_g_v.chg C13 (is_nl rfl)
 have len14 := (r_g_v).small
 refine h_take (v := Value.int .i64 (List.length g.2 : Int)) 4 rfl (by kernel_rfl) (by kernel_rfl) rfl (Chg.refl _ _ _) (fun w' hw' => e_len Try.underlying22 rfl r_g_v) ?_
 refine h_take (v := Value.int .i64 ((List.length g.2 : Int) + 1)) 5 rfl (by kernel_rfl) (by kernel_rfl) rfl (Chg.refl _ _ _) (fun w' hw' => e_add (m := (List.length g.2 : Int)) (n := 1) rfl rfl (by omega)) ?_
 refine h_take (v := Value.pointer (some ⟨b3, 1, none⟩)) 7 rfl (by kernel_rfl) (by kernel_rfl) rfl (Chg.refl _ _ _) (fun w' hw' => e_fieldAddr Try.underlying24 rfl rfl rfl rfl) ?_
 refine h_take (v := g_v) 8 rfl (by kernel_rfl) (by kernel_rfl) rfl (Chg.refl _ _ _) (fun w' hw' => e_load_bx1 tp22_c rfl (bx5.chg hw' (is_nl rfl)) rfl) ?_
 refine h_one 6 rfl (by kernel_rfl) rfl ?_
 refine o_make (α := (Int) × (Int)) (l := 0) (cp := (List.length g.2 : Int) + 1) g9 (is 3) (is 3) (3, 0) rfl ((0 : Int), (0 : Int)) Try.underlying22 tp60_c rfl rfl rfl (by omega) (by omega) (by omega) (by omega) ?_
 intro g15 w16 v17 ch18 o19 _
 have hs20 : Chg (inl [2, 3]) _ _ _ _ := ch18.n
 refine ⟨hs20.same, ?_⟩
 refine h_one 9 rfl (by kernel_rfl) rfl ?_
 refine o_append (α := (Int) × (Int)) (xs := (List.replicate (Int.toNat 0) ((0 : Int), (0 : Int)))) (ys := g.2) g15 (J := is 3) (S := is 3) (3, 0) rfl Try.underlying22 tp60_c (by decide) rfl rfl rfl o19 (r_g_v.chg hs20 (is_nl rfl)) (by decide) (by first | omega | (simp; done) | (simp; omega)) ?_
 intro g21 w22 v23 ch24 o25
 clear o19
 have hs26 := hs20.seq (ch24.l rfl)
 refine ⟨hs26.same, ?_⟩
 refine h_take (v := Value.agg (List.toArray [Value.int .i64 g.1, v23])) 10 rfl (by kernel_rfl) (by kernel_rfl) rfl hs26.same (fun w' hw' => e_build (vs := [(0, Value.int .i64 g.1), (1, v23)]) rfl (by rw [Sl.form o25.flat]; kernel_rfl)) ?_
 refine h_one 11 rfl (by kernel_rfl) rfl ?_
 have C30 : Chg (inl [3]) _ _ _ _ := (ch11.n).seq ((ch18.n).seq (ch24.l rfl))
 replace bx10 := bx10.chg C30 (is_nl rfl)
 refine o_store_bx (cs' := [Value.int .i64 g.1, v23]) tp24_c rfl rfl bx10 rfl (Nat.le_of_ble_eq_true rfl) (AllOne.all (.cons rfl (.cons (sl_one o25.flat) .nil))) rfl ?_
 intro w27 ch28 bx29
 clear bx10
 have hs31 := hs26.seq (ch28.l rfl)
 refine ⟨hs31.same, ?_⟩
 refine h_nil (by kernel_rfl) ?_
 refine run_ret (vs := [Value.agg (List.toArray [Value.int .i64 g.1, v23])]) Try.func95 (.cell rfl (load_bxN (ds := [Value.int .i64 g.1, v23]) tp24_c bx29 rfl rfl) .nil) ?_
 have C32 : Chg (inl [2, 3]) _ _ _ _ := (ch2.n).seq ((ch7.n).seq ((ch11.n).seq ((ch18.n).seq ((ch24.l rfl).seq (ch28.l rfl)))))
 replace hbase := hbase.chg C32 (is_nl rfl)
 replace o25 := o25.chg ch28 (is_ne rfl) (is_ne rfl)
 have e0 : ((g.1, ((List.replicate (Int.toNat 0) ((0 : Int), (0 : Int))) ++ g.2)) : (Int) × (List ((Int) × (Int)))) = (g) := by
   rfl
 exact ⟨(fin w0 g21 (fun n => if n = 3 then 1 else 0), v23), (congrArg (a₁ := (g.1, ((List.replicate (Int.toNat 0) ((0 : Int), (0 : Int))) ++ g.2))) (fun (z0 : (Int) × (List ((Int) × (Int)))) => Ending.returned (Value.agg (List.toArray [Value.int .i64 z0.1, v23]))) e0), hbase.fresh _, ((congrArg (fun (z : (Int) × (List ((Int) × (Int)))) => z.2) e0) ▸ (o25.glue (γ := c0) (ren := (fun n => if n = 3 then 1 else 0)) (k := 1) hbase.col rfl rfl))⟩
theorem renamed_ok (w0 : World) (g : (Int) × (List ((Int) × (Int)))) (g_v : Value) (hg_v : Ro w0 g_v g.2) (to : List Int) (to_v : Value) (hto_v : Ro w0 to_v to) (n : Int) (hmay : MayP g) (hto : (to.length : Int) = g.1) :
    Calls Try.prog 105 #[Value.agg (List.toArray [Value.int .i64 g.1, g_v]), to_v, Value.int .i64 n] w0 (fun ee w => ∃ xx : Cmap × Value, ee = .returned ((fun ⟨δ, rv0⟩ => Value.agg (List.toArray [Value.int .i64 ((renR g to n).1), rv0])) xx) ∧ (fun (⟨δ, rv0⟩ : Cmap × Value) (w : World) => Fresh w0 δ w ∧ Ow δ (is 1) (is 1) w rv0 ((renR g to n).2)) xx w) := by
 refine calls_of_run Try.func105 rfl (Nat.le_of_ble_eq_true rfl) ?_
 have hbase := Base.start w0
 have r_g_v := hg_v.sl
 have r_to_v := hto_v.sl
 have hmay0 := hmay
 obtain ⟨hm1, hm2, hm3, hm4⟩ := hmay
 refine run_seq (run_region rfl (l_op rfl ?_))
 refine o_box c0 (is 1) (1, 0) rfl rfl ?_
 intro g4 w1 b3 ch2 bx5
 replace bx5 : Bx g4 (is 1) w1 b3 [Value.int .i64 g.1, g_v] := bx5
 refine l_op rfl ?_
 refine o_alloc g4 (is 2) (2, 0) rfl tp24_c ?_
 intro g9 w6 b8 ch7 bx10
 replace bx10 : Bx g9 (is 2) w6 b8 [Value.int .i64 0, Value.slice none 0 0] := bx10
 refine l_nil (run_seq (run_region rfl ?_))
 replace bx5 := bx5.chg ch7 (not_no _)
 refine lv (Value.agg (List.toArray [Value.int .i64 g.1, g_v])) rfl (e_load_bxN (ds := [Value.int .i64 g.1, g_v]) tp24_c rfl bx5 rfl rfl) ?_
 replace r_g_v := (r_g_v.chg ch2 (not_no _)).chg ch7 (not_no _)
 refine l_op rfl ?_
 refine o_callx (e_call (vals := [Value.agg (List.toArray [Value.int .i64 g.1, g_v])]) Try.func95 bd95_c nm95_c rfl) (copied_ok w6 g g_v (r_g_v).ro (by exact hmay0)) ?_
 rintro ⟨d12, v14⟩ w11 ⟨fr13, o15⟩
 obtain ⟨g16, hg16⟩ : ∃ q, q = glue w6.heap.size g9 d12 (fun n => if n = 1 then 3 else 0) := ⟨_, rfl⟩
 have ch17 := chg_glue fr13.below g9 d12 (fun n => if n = 1 then 3 else 0)
 rw [← hg16] at ch17
 replace o15 := o15.glue (γ := g9) (ren := (fun n => if n = 1 then 3 else 0)) (k := 3) fr13.col rfl rfl
 rw [← hg16] at o15
 clear hg16
 refine l_op rfl ?_
 refine o_alloc g16 (is 4) (4, 0) rfl tp24_c ?_
 intro g21 w18 b20 ch19 bx22
 replace bx22 : Bx g21 (is 4) w18 b20 [Value.int .i64 0, Value.slice none 0 0] := bx22
 refine l_op rfl ?_
 replace o15 := o15.chg ch19 (not_no _) (not_no _)
 refine o_store_bx (cs' := [Value.int .i64 g.1, v14]) tp24_c rfl rfl bx22 rfl (Nat.le_of_ble_eq_true rfl) (AllOne.all (.cons rfl (.cons (sl_one o15.flat) .nil))) rfl ?_
 intro w23 ch24 bx25
 clear bx22
 refine l_nil (run_seq ?_)
 clear bx5
 refine run_region rfl ?_
 refine lv (Value.int .i64 n) rfl (e_move rfl) ?_
 refine lv (Value.pointer (some ⟨b20, 0, none⟩)) rfl (e_fieldAddr Try.underlying24 rfl rfl rfl rfl) ?_
 refine l_op rfl ?_
 refine o_store_bx (cs' := [Value.int .i64 n, v14]) tp3_c rfl rfl bx25 rfl (Nat.le_of_ble_eq_true rfl) (AllOne.all (.cons rfl .nil)) rfl ?_
 intro w26 ch27 bx28
 clear bx25
 refine l_nil (run_seq (run_seq (run_region rfl ?_)))
 refine lv (Value.pointer (some ⟨b20, 1, none⟩)) rfl (e_fieldAddr Try.underlying24 rfl rfl rfl rfl) ?_
 refine lv (v14) rfl (e_load_bx1 tp22_c rfl bx28 rfl) ?_
 replace o15 := (o15.chg ch24 (is_ne rfl) (is_ne rfl)).chg ch27 (is_ne rfl) (is_ne rfl)
 have len29 := (o15.flat).small
 refine lv (Value.int .i64 (List.length g.2 : Int)) rfl (e_len Try.underlying22 rfl o15.flat) ?_
 refine lv (Value.int .i64 0) rfl (e_move rfl) ?_
 refine l_nil ?_
 refine run_block ?_
 refine run_loop (σ := Nat × (List ((Int) × (Int))) × Cmap) (fun ⟨k, l_v14, gq⟩ f w => Base w0 gq w ∧ f 1 = to_v ∧ f 6 = Value.pointer (some ⟨b8, 0, none⟩) ∧ f 7 = Value.pointer (some ⟨b20, 0, none⟩) ∧ f 15 = v14 ∧ f 16 = Value.int .i64 (List.length g.2 : Int) ∧ f 17 = Value.int .i64 (k : Int) ∧ Sl gq (is 0) w g_v g.2 ∧ Sl gq (is 0) w to_v to ∧ Bx gq (is 2) w b8 [Value.int .i64 0, Value.slice none 0 0] ∧ Ow gq (is 3) (is 3) w v14 l_v14 ∧ Bx gq (is 4) w b20 [Value.int .i64 n, v14] ∧ (k : Int) ≤ ((List.length g.2 : Int) : Int) ∧ (l_v14 = (List.take k g.2).map (renS to) ++ List.drop k g.2)) (fun ⟨k, l_v14, gq⟩ => Int.toNat (((List.length g.2 : Int) : Int) - (k : Int))) (0, g.2, g21) ?_ ?_
 have C30 : Chg (inl [4]) _ _ _ _ := (ch2.n).seq ((ch7.n).seq ((ch17.n).seq ((ch19.n).seq ((ch24.l rfl).seq (ch27.l rfl)))))
 replace hbase := hbase.chg C30 (is_nl rfl)
 have C31 : Chg (inl [4]) _ _ _ _ := (ch17.n).seq ((ch19.n).seq ((ch24.l rfl).seq (ch27.l rfl)))
 replace r_g_v := r_g_v.chg C31 (is_nl rfl)
 replace r_to_v := r_to_v.chg C30 (is_nl rfl)
 replace bx10 := bx10.chg C31 (is_nl rfl)
 · exact ⟨hbase, rfl, rfl, rfl, rfl, rfl, rfl, r_g_v, r_to_v, bx10, o15, bx28, by omega, by simp⟩
 clear r_g_v r_to_v bx10 o15 bx28 hbase
 rintro ⟨k, l_v14, g34⟩ f32 w33 ⟨hbase, zs1, zs6, zs7, zs15, zs16, zs17, r_g_v, r_to_v, bx10, o15, bx28, hle_k, hinv⟩ back4
 have hlen : l_v14.length = g.2.length := by rw [hinv]; exact ren_len (by omega)
 refine run_seq (run_region rfl ?_)
 refine lv (Value.bool (decide ((k : Int) < (List.length g.2 : Int)))) rfl (e_lss (m := (k : Int)) (n := (List.length g.2 : Int)) (by exact zs17) (by exact zs16)) ?_
 refine l_nil (run_seq ?_)
 by_cases p4 : (k : Int) < (List.length g.2 : Int)
 ·
  refine run_cond_t rfl (decide_eq_true p4) ?_
  have hgi : gI l_v14 (k : Int) = gI g.2 (k : Int) := by rw [hinv]; exact ren_gI (by omega)
  obtain ⟨⟨he1, he2⟩, he3, he4⟩ := hm4 _ (gI_mem (xs := g.2) (i := (k : Int)) (by omega) (by omega))
  rw [← hgi] at he1 he2 he3 he4
  refine run_skip ?_
  refine run_seq ?_
  refine run_block ?_
  refine run_seq (run_region rfl ?_)
  refine lv (Value.int .i64 (k : Int)) rfl (e_move (by exact zs17)) ?_
  refine lv (Value.pointer (some (eAddr v14 2 (Int.toNat (k : Int))))) rfl (e_indexAddr (α := (Int) × (Int)) (xs := l_v14) (v := v14) (i := (k : Int)) Try.underlying22 rfl (by exact zs15) o15.flat (by exact zs17) (by omega) (by omega)) ?_
  refine lv (Value.agg (List.toArray [Value.int .i64 ((gI l_v14 (k : Int)).1), Value.int .i64 ((gI l_v14 (k : Int)).2)])) rfl (e_load_elN (α := (Int) × (Int)) (xs := l_v14) (v := v14) (i := (k : Int)) tp60_c rfl o15.flat (by omega) (by omega) rfl) ?_
  refine l_op rfl ?_
  refine o_alloc g34 (is 5) (5, 0) rfl tp60_c ?_
  intro g38 w35 b37 ch36 bx39
  replace bx39 : Bx g38 (is 5) w35 b37 [Value.int .i64 0, Value.int .i64 0] := bx39
  refine lv (Value.int .i64 (k : Int)) rfl (e_assign rfl) ?_
  refine l_op rfl ?_
  refine o_store_bx (cs' := [Value.int .i64 ((gI l_v14 (k : Int)).1), Value.int .i64 ((gI l_v14 (k : Int)).2)]) tp60_c rfl rfl bx39 rfl (Nat.le_of_ble_eq_true rfl) (AllOne.all (.cons rfl (.cons rfl .nil))) rfl ?_
  intro w40 ch41 bx42
  clear bx39
  refine l_nil ?_
  refine run_region_x g38 [0, 1, 2, 3, 4, 5, 6, 7, 8, 9, 10, 11, 12, 13, 14] mixed_c ?_
  intro w44 ch43
  refine x_pure (v := Value.pointer (some ⟨b20, 1, none⟩)) 0 rfl (by kernel_rfl) (by kernel_rfl) rfl (fun w => e_fieldAddr Try.underlying24 rfl rfl (by exact zs7) rfl) ?_
  have C45 : Chg (inl [5]) _ _ _ _ := (ch36.n).seq ((ch41.l rfl).seq (ch43.n))
  replace bx28 := bx28.chg C45 (is_nl rfl)
  refine x_val (v := v14) 1 [0, 2, 3, 4, 8, 9, 5, 10, 6, 11, 7, 12, 13] rfl (by kernel_rfl) (by kernel_rfl) rfl (e_load_bx1 tp22_c rfl bx28 rfl) ?_
  refine x_pure (v := Value.int .i64 (k : Int)) 2 rfl (by kernel_rfl) (by kernel_rfl) rfl (fun w => e_move rfl) ?_
  refine x_pure (v := to_v) 3 rfl (by kernel_rfl) (by kernel_rfl) rfl (fun w => e_move (by exact zs1)) ?_
  refine x_val (v := Value.pointer (some ⟨b37, 0, none⟩)) 4 [3, 2, 1, 0, 8, 9, 10, 11, 12] rfl (by kernel_rfl) (by kernel_rfl) rfl (e_indexAddr_arr Try.underlying60 rfl rfl rfl (by decide) (by decide) rfl) ?_
  replace bx42 := bx42.chg ch43 (not_no _)
  refine x_val (v := Value.int .i64 ((gI l_v14 (k : Int)).1)) 5 [4, 3, 2, 1, 0, 8, 9, 10, 11, 12] rfl (by kernel_rfl) (by kernel_rfl) rfl (e_load_bx1 tp3_c rfl bx42 rfl) ?_
  replace r_to_v := r_to_v.chg C45 (is_nl rfl)
  refine x_val (v := Value.pointer (some (eAddr to_v 1 (Int.toNat ((gI l_v14 (k : Int)).1))))) 6 [5, 4, 3, 2, 1, 0, 8, 9, 10, 11, 12] rfl (by kernel_rfl) (by kernel_rfl) rfl (e_indexAddr (α := Int) (xs := to) (v := to_v) (i := (gI l_v14 (k : Int)).1) Try.underlying27 rfl rfl r_to_v rfl (by omega) (by omega)) ?_
  refine x_val (v := Value.int .i64 (gI to ((gI l_v14 (k : Int)).1))) 7 [6, 5, 4, 3, 2, 1, 0, 8, 9, 10, 11, 12] rfl (by kernel_rfl) (by kernel_rfl) rfl (e_load_el1 (α := Int) (xs := to) (v := to_v) (i := (gI l_v14 (k : Int)).1) tp3_c rfl r_to_v (by omega) (by omega) (by decide) rfl) ?_
  refine x_pure (v := to_v) 8 rfl (by kernel_rfl) (by kernel_rfl) rfl (fun w => e_move (by exact zs1)) ?_
  refine x_val (v := Value.pointer (some ⟨b37, 1, none⟩)) 9 [8, 7, 6, 5, 4, 3, 2, 1, 0] rfl (by kernel_rfl) (by kernel_rfl) rfl (e_indexAddr_arr Try.underlying60 rfl rfl rfl (by decide) (by decide) rfl) ?_
  refine x_val (v := Value.int .i64 ((gI l_v14 (k : Int)).2)) 10 [9, 8, 7, 6, 5, 4, 3, 2, 1, 0] rfl (by kernel_rfl) (by kernel_rfl) rfl (e_load_bx1 tp3_c rfl bx42 rfl) ?_
  refine x_val (v := Value.pointer (some (eAddr to_v 1 (Int.toNat ((gI l_v14 (k : Int)).2))))) 11 [10, 9, 8, 7, 6, 5, 4, 3, 2, 1, 0] rfl (by kernel_rfl) (by kernel_rfl) rfl (e_indexAddr (α := Int) (xs := to) (v := to_v) (i := (gI l_v14 (k : Int)).2) Try.underlying27 rfl rfl r_to_v rfl (by omega) (by omega)) ?_
  refine x_val (v := Value.int .i64 (gI to ((gI l_v14 (k : Int)).2))) 12 [11, 10, 9, 8, 7, 6, 5, 4, 3, 2, 1, 0] rfl (by kernel_rfl) (by kernel_rfl) rfl (e_load_el1 (α := Int) (xs := to) (v := to_v) (i := (gI l_v14 (k : Int)).2) tp3_c rfl r_to_v (by omega) (by omega) (by decide) rfl) ?_
  refine x_pure (v := Value.agg (List.toArray [Value.int .i64 (gI to ((gI l_v14 (k : Int)).1)), Value.int .i64 (gI to ((gI l_v14 (k : Int)).2))])) 13 rfl (by kernel_rfl) (by kernel_rfl) rfl (fun w => e_build (vs := [(0, Value.int .i64 (gI to ((gI l_v14 (k : Int)).1))), (1, Value.int .i64 (gI to ((gI l_v14 (k : Int)).2)))]) rfl (by kernel_rfl)) ?_
  replace o15 := o15.chg C45 (is_nl rfl) (is_nl rfl)
  refine x_val (v := Value.pointer (some (eAddr v14 2 (Int.toNat (k : Int))))) 14 [13, 12, 11, 10, 9, 8, 7, 6, 5, 4, 3, 2, 1, 0] rfl (by kernel_rfl) (by kernel_rfl) rfl (e_indexAddr (α := (Int) × (Int)) (xs := l_v14) (v := v14) (i := (k : Int)) Try.underlying22 rfl rfl o15.flat rfl (by omega) (by omega)) ?_
  refine x_one 15 rfl (by kernel_rfl) rfl ?_
  refine o_store_el (i := (k : Int)) ((gI to ((gI l_v14 (k : Int)).1)), (gI to ((gI l_v14 (k : Int)).2))) tp60_c rfl rfl o15 (by omega) (by omega) rfl ?_
  intro w46 ch47 bx48
  clear o15
  refine x_nil (by kernel_rfl) ?_
  refine run_inBlock ?_
  clear bx42
  refine run_region rfl ?_
  refine lv (Value.int .i64 ((k : Int) + 1)) rfl (e_add (m := (k : Int)) (n := 1) (by exact zs17) rfl (by omega)) ?_
  refine lv (Value.int .i64 ((k : Int) + 1)) rfl (e_move rfl) ?_
  refine l_nil ?_
  have C49 : Chg (inl [3, 5]) _ _ _ _ := (ch36.n).seq ((ch41.l rfl).seq ((ch43.n).seq (ch47.l rfl)))
  replace hbase := hbase.chg C49 (is_nl rfl)
  replace r_g_v := r_g_v.chg C49 (is_nl rfl)
  replace r_to_v := r_to_v.chg ch47 (is_ne rfl)
  replace bx10 := bx10.chg C49 (is_nl rfl)
  replace bx28 := bx28.chg ch47 (is_ne rfl)
  refine back4 (k + 1, (List.set l_v14 (Int.toNat (k : Int)) ((gI to ((gI l_v14 (k : Int)).1)), (gI to ((gI l_v14 (k : Int)).2)))), g38) _ _ ⟨hbase, (by exact zs1), (by exact zs6), (by exact zs7), (by exact zs15), (by exact zs16), rfl, r_g_v, r_to_v, bx10, bx48, bx28, by omega, ?_⟩ ?_
  · show (List.set l_v14 (Int.toNat (k : Int)) ((gI to ((gI l_v14 (k : Int)).1)), (gI to ((gI l_v14 (k : Int)).2)))) = (List.take (k + 1) g.2).map (renS to) ++ List.drop (k + 1) g.2
    rw [hgi, hinv]
    exact ren_next (by omega) rfl rfl
  · show Int.toNat (((List.length g.2 : Int) : Int) - ((k + 1) : Int)) < Int.toNat (((List.length g.2 : Int) : Int) - (k : Int))
    omega
 refine run_cond_f rfl (decide_eq_false p4) ?_
 refine run_exit rfl ?_
 refine run_seq (run_region rfl ?_)
 refine lv (Value.agg (List.toArray [Value.int .i64 n, v14])) rfl (e_load_bxN (ds := [Value.int .i64 n, v14]) tp24_c (by exact zs7) bx28 rfl rfl) ?_
 refine l_op rfl ?_
 refine o_store_bx (cs' := [Value.int .i64 n, v14]) tp24_c (by exact zs6) rfl bx10 rfl (Nat.le_of_ble_eq_true rfl) (AllOne.all (.cons rfl (.cons (sl_one o15.flat) .nil))) rfl ?_
 intro w50 ch51 bx52
 clear bx10
 refine l_nil ?_
 refine run_ret (vs := [Value.agg (List.toArray [Value.int .i64 n, v14])]) Try.func105 (.cell (by exact zs6) (load_bxN (ds := [Value.int .i64 n, v14]) tp24_c bx52 rfl rfl) .nil) ?_
 replace hbase := hbase.chg ch51 (is_ne rfl)
 replace o15 := o15.chg ch51 (is_ne rfl) (is_ne rfl)
 have e0 : ((n, l_v14) : (Int) × (List ((Int) × (Int)))) = (renR g to n) := by
   have hk : k = g.2.length := by omega
   subst hk
   simp [renR, hinv]
 exact ⟨(fin w0 g34 (fun n => if n = 3 then 1 else 0), v14), (congrArg (a₁ := (n, l_v14)) (fun (z0 : (Int) × (List ((Int) × (Int)))) => Ending.returned (Value.agg (List.toArray [Value.int .i64 z0.1, v14]))) e0), hbase.fresh _, ((congrArg (fun (z : (Int) × (List ((Int) × (Int)))) => z.2) e0) ▸ (o15.glue (γ := c0) (ren := (fun n => if n = 3 then 1 else 0)) (k := 1) hbase.col rfl rfl))⟩
theorem Moved_ok (w0 : World) (g : (Int) × (List ((Int) × (Int)))) (g_v : Value) (hg_v : Ro w0 g_v g.2) (to : List Int) (to_v : Value) (hto_v : Ro w0 to_v to) :
    Calls Try.prog 92 #[Value.agg (List.toArray [Value.int .i64 g.1, g_v]), to_v] w0 (fun ee w => ∃ xx : Cmap × Value, ee = .returned ((fun ⟨δ, rv0⟩ => Value.tuple (List.toArray [Value.agg (List.toArray [Value.int .i64 (((movedR g to).1).1), rv0]), Value.int .i64 ((movedR g to).2)])) xx) ∧ (fun (⟨δ, rv0⟩ : Cmap × Value) (w : World) => Fresh w0 δ w ∧ Ow δ (is 1) (is 1) w rv0 (((movedR g to).1).2)) xx w) := by
 refine calls_of_run Try.func92 rfl (Nat.le_of_ble_eq_true rfl) ?_
 have hbase := Base.start w0
 have r_g_v := hg_v.sl
 have r_to_v := hto_v.sl
 refine run_seq (run_region rfl (l_op rfl ?_))
 refine o_box c0 (is 1) (1, 0) rfl rfl ?_
 intro g4 w1 b3 ch2 bx5
 replace bx5 : Bx g4 (is 1) w1 b3 [Value.int .i64 g.1, g_v] := bx5
 refine l_op rfl ?_
 refine o_alloc g4 (is 2) (2, 0) rfl tp24_c ?_
 intro g9 w6 b8 ch7 bx10
 replace bx10 : Bx g9 (is 2) w6 b8 [Value.int .i64 0, Value.slice none 0 0] := bx10
 refine lv (Value.int .i64 0) rfl (e_assign rfl) ?_
 refine l_nil (run_seq ?_)
 refine run_block ?_
 refine run_seq (run_region rfl ?_)
 replace bx5 := bx5.chg ch7 (not_no _)
 refine lv (Value.agg (List.toArray [Value.int .i64 g.1, g_v])) rfl (e_load_bxN (ds := [Value.int .i64 g.1, g_v]) tp24_c rfl bx5 rfl rfl) ?_
 replace r_g_v := (r_g_v.chg ch2 (not_no _)).chg ch7 (not_no _)
 refine l_op rfl ?_
 refine o_call (v := Value.bool (mayB g)) (e_call (vals := [Value.agg (List.toArray [Value.int .i64 g.1, g_v])]) Try.func53 bd53_c nm53_c rfl) (May_ok w6 g g_v (r_g_v).ro) ?_
 intro w11 hb12
 replace hb12 := chg_below hb12 g9
 refine lv (Value.bool (!(mayB g))) rfl (e_not (b := (mayB g)) rfl) ?_
 refine lv (Value.bool (!(mayB g))) rfl (e_assign rfl) ?_
 refine l_nil ?_
 by_cases p1 : (mayB g) = true
 ·
  have hm := of_decide_eq_true p1
  obtain ⟨hm1, hm2, hm3, hm4⟩ := hm
  refine run_cond_f rfl (congrArg Bool.not p1) ?_
  refine run_seq (run_region rfl ?_)
  refine lv (to_v) rfl (e_move rfl) ?_
  have C13 : Chg (inl []) _ _ _ _ := (ch2.n).seq ((ch7.n).seq (hb12.n))
  replace r_to_v := r_to_v.chg C13 (is_nl rfl)
  have len14 := (r_to_v).small
  refine lv (Value.int .i64 (List.length to : Int)) rfl (e_len Try.underlying27 rfl r_to_v) ?_
  refine lv (Value.pointer (some ⟨b3, 0, none⟩)) rfl (e_fieldAddr Try.underlying24 rfl rfl rfl rfl) ?_
  replace bx5 := bx5.chg hb12 (not_no _)
  refine lv (Value.int .i64 g.1) rfl (e_load_bx1 tp3_c rfl bx5 rfl) ?_
  refine lv (Value.bool (!(decide ((List.length to : Int) = g.1)))) rfl (e_neq (m := (List.length to : Int)) (n := g.1) rfl rfl) ?_
  refine lv (Value.bool (!(decide ((List.length to : Int) = g.1)))) rfl (e_assign rfl) ?_
  refine l_nil ?_
  by_cases p3 : (List.length to : Int) = g.1
  ·
   refine run_cond_f rfl (congrArg Bool.not (decide_eq_true p3)) ?_
   refine run_skip ?_
   refine run_inBlock ?_
   refine run_seq (run_seq (run_region rfl ?_))
   refine lv (to_v) rfl (e_move rfl) ?_
   refine lv (Value.int .i64 (List.length to : Int)) rfl (e_len Try.underlying27 rfl r_to_v) ?_
   refine lv (Value.int .i64 0) rfl (e_move rfl) ?_
   refine l_nil ?_
   refine run_block ?_
   refine run_loop (σ := Nat × Cmap) (fun ⟨k, gq⟩ f w => Base w0 gq w ∧ f 1 = to_v ∧ f 2 = Value.pointer (some ⟨b3, 0, none⟩) ∧ f 4 = Value.pointer (some ⟨b8, 0, none⟩) ∧ f 21 = to_v ∧ f 22 = Value.int .i64 (List.length to : Int) ∧ f 23 = Value.int .i64 (k : Int) ∧ Sl gq (is 0) w g_v g.2 ∧ Sl gq (is 0) w to_v to ∧ Bx gq (is 1) w b3 [Value.int .i64 g.1, g_v] ∧ Bx gq (is 2) w b8 [Value.int .i64 0, Value.slice none 0 0] ∧ (k : Int) ≤ ((List.length to : Int) : Int) ∧ (∀ v ∈ List.take k to, 0 ≤ v ∧ v < g.1)) (fun ⟨k, gq⟩ => Int.toNat (((List.length to : Int) : Int) - (k : Int))) (0, g9) ?_ ?_
   replace hbase := hbase.chg C13 (is_nl rfl)
   replace r_g_v := r_g_v.chg hb12 (not_no _)
   replace bx10 := bx10.chg hb12 (not_no _)
   · exact ⟨hbase, rfl, rfl, rfl, rfl, rfl, rfl, r_g_v, r_to_v, bx5, bx10, by omega, by simp⟩
   clear r_g_v r_to_v bx5 bx10 hbase
   rintro ⟨k, g17⟩ f15 w16 ⟨hbase, zs1, zs2, zs4, zs21, zs22, zs23, r_g_v, r_to_v, bx5, bx10, hle_k, hinv⟩ back6
   refine run_seq (run_region rfl ?_)
   refine lv (Value.bool (decide ((k : Int) < (List.length to : Int)))) rfl (e_lss (m := (k : Int)) (n := (List.length to : Int)) (by exact zs23) (by exact zs22)) ?_
   refine l_nil (run_seq ?_)
   by_cases p6 : (k : Int) < (List.length to : Int)
   ·
    refine run_cond_t rfl (decide_eq_true p6) ?_
    refine run_skip ?_
    refine run_seq ?_
    refine run_block ?_
    refine run_seq (run_region rfl ?_)
    refine lv (Value.pointer (some (eAddr to_v 1 (Int.toNat (k : Int))))) rfl (e_indexAddr (α := Int) (xs := to) (v := to_v) (i := (k : Int)) Try.underlying27 rfl (by exact zs21) r_to_v (by exact zs23) (by omega) (by omega)) ?_
    refine lv (Value.int .i64 (gI to (k : Int))) rfl (e_load_el1 (α := Int) (xs := to) (v := to_v) (i := (k : Int)) tp3_c rfl r_to_v (by omega) (by omega) (by decide) rfl) ?_
    refine lv (Value.int .i64 (gI to (k : Int))) rfl (e_assign rfl) ?_
    refine l_nil (run_seq (run_region rfl ?_))
    refine lv (Value.agg (List.toArray [Value.int .i64 g.1, g_v])) rfl (e_load_bxN (ds := [Value.int .i64 g.1, g_v]) tp24_c (by exact zs2) bx5 rfl rfl) ?_
    refine lv (Value.int .i64 (gI to (k : Int))) rfl (e_move rfl) ?_
    refine l_op rfl ?_
    refine o_call (v := Value.bool (decide (0 ≤ (gI to (k : Int)) ∧ (gI to (k : Int)) < g.1))) (e_call (vals := [Value.agg (List.toArray [Value.int .i64 g.1, g_v]), Value.int .i64 (gI to (k : Int))]) Try.func104 bd104_c nm104_c rfl) (there_ok w16 g g_v (r_g_v).ro (gI to (k : Int))) ?_
    intro w18 hb19
    replace hb19 := chg_below hb19 g17
    refine lv (Value.bool (!(decide (0 ≤ (gI to (k : Int)) ∧ (gI to (k : Int)) < g.1)))) rfl (e_not (b := (decide (0 ≤ (gI to (k : Int)) ∧ (gI to (k : Int)) < g.1))) rfl) ?_
    refine l_nil ?_
    by_cases p8 : (decide (0 ≤ (gI to (k : Int)) ∧ (gI to (k : Int)) < g.1)) = true
    ·
     refine run_cond_f rfl (congrArg Bool.not p8) ?_
     refine run_skip ?_
     refine run_inBlock ?_
     refine run_region rfl ?_
     refine lv (Value.int .i64 ((k : Int) + 1)) rfl (e_add (m := (k : Int)) (n := 1) (by exact zs23) rfl (by omega)) ?_
     refine lv (Value.int .i64 ((k : Int) + 1)) rfl (e_move rfl) ?_
     refine l_nil ?_
     replace hbase := hbase.chg hb19 (not_no _)
     replace r_g_v := r_g_v.chg hb19 (not_no _)
     replace r_to_v := r_to_v.chg hb19 (not_no _)
     replace bx5 := bx5.chg hb19 (not_no _)
     replace bx10 := bx10.chg hb19 (not_no _)
     refine back6 (k + 1, g17) _ _ ⟨hbase, (by exact zs1), (by exact zs2), (by exact zs4), (by exact zs21), (by exact zs22), rfl, r_g_v, r_to_v, bx5, bx10, by omega, ?_⟩ ?_
     · show ∀ v ∈ List.take (k + 1) to, 0 ≤ v ∧ v < g.1
       rw [take_succ_gI (by assumption)]
       intro v hv
       rcases List.mem_append.1 hv with h | h
       · exact hinv v h
       · obtain rfl := List.mem_singleton.1 h
         first | exact of_decide_eq_true (by assumption) | simp_all
     · show Int.toNat (((List.length to : Int) : Int) - ((k + 1) : Int)) < Int.toNat (((List.length to : Int) : Int) - (k : Int))
       omega
    refine run_cond_t rfl (congrArg Bool.not (Bool.eq_false_iff.2 p8)) ?_
    refine run_seq ?_
    clear bx5
    refine run_region rfl ?_
    refine lv (Value.agg (List.toArray [Value.int .i64 0, Value.slice none 0 0])) rfl (e_build (vs := []) rfl (by kernel_rfl)) ?_
    refine l_op rfl ?_
    replace bx10 := bx10.chg hb19 (not_no _)
    refine o_store_bx (cs' := [Value.int .i64 0, Value.slice none 0 0]) tp24_c (by exact zs4) rfl bx10 rfl (Nat.le_of_ble_eq_true rfl) (AllOne.all (.cons rfl (.cons rfl .nil))) rfl ?_
    intro w20 ch21 bx22
    clear bx10
    refine lv (Value.int .i64 2) rfl (e_assign rfl) ?_
    refine l_nil ?_
    refine run_ret (vs := [Value.agg (List.toArray [Value.int .i64 0, Value.slice none 0 0]), Value.int .i64 2]) Try.func92 (.cell (by exact zs4) (load_bxN (ds := [Value.int .i64 0, Value.slice none 0 0]) tp24_c bx22 rfl rfl) (.tmp rfl .nil)) ?_
    replace hbase := hbase.chg hb19 (not_no _)
    replace hbase := hbase.chg ch21 (is_ne rfl)
    have e0 : ((0, []) : (Int) × (List ((Int) × (Int)))) = ((movedR g to).1) := by
      first
        | (have hn : ¬ MayP g := fun h => p1 (decide_eq_true h)
           simp [movedR, hn]; done)
        | (have hm := of_decide_eq_true p1
           have ha : ∀ v ∈ to, 0 ≤ v ∧ v < g.1 := by rw [List.take_of_length_le (by omega)] at hinv; exact hinv
           simp only [movedR, if_pos hm]; rw [if_pos (by omega), if_pos ha, if_pos (by assumption)]; done)
        | (have hm := of_decide_eq_true p1
           have ha : ∀ v ∈ to, 0 ≤ v ∧ v < g.1 := by rw [List.take_of_length_le (by omega)] at hinv; exact hinv
           simp only [movedR, if_pos hm]; rw [if_pos (by omega), if_pos ha, if_neg (by assumption)]; done)
        | (have hm := of_decide_eq_true p1
           have ha : ¬ ∀ v ∈ to, 0 ≤ v ∧ v < g.1 := fun h => by have := h _ (gI_mem (xs := to) (i := (k : Int)) (by omega) (by assumption)); simp_all
           simp only [movedR, if_pos hm]; rw [if_pos (by omega), if_neg ha]; done)
        | (have hm := of_decide_eq_true p1
           simp only [movedR, if_pos hm]; rw [if_neg (by omega)]; done)
    have e1 : (2 : Int) = ((movedR g to).2) := by
      first
        | (have hn : ¬ MayP g := fun h => p1 (decide_eq_true h)
           simp [movedR, hn]; done)
        | (have hm := of_decide_eq_true p1
           have ha : ∀ v ∈ to, 0 ≤ v ∧ v < g.1 := by rw [List.take_of_length_le (by omega)] at hinv; exact hinv
           simp only [movedR, if_pos hm]; rw [if_pos (by omega), if_pos ha, if_pos (by assumption)]; done)
        | (have hm := of_decide_eq_true p1
           have ha : ∀ v ∈ to, 0 ≤ v ∧ v < g.1 := by rw [List.take_of_length_le (by omega)] at hinv; exact hinv
           simp only [movedR, if_pos hm]; rw [if_pos (by omega), if_pos ha, if_neg (by assumption)]; done)
        | (have hm := of_decide_eq_true p1
           have ha : ¬ ∀ v ∈ to, 0 ≤ v ∧ v < g.1 := fun h => by have := h _ (gI_mem (xs := to) (i := (k : Int)) (by omega) (by assumption)); simp_all
           simp only [movedR, if_pos hm]; rw [if_pos (by omega), if_neg ha]; done)
        | (have hm := of_decide_eq_true p1
           simp only [movedR, if_pos hm]; rw [if_neg (by omega)]; done)
    exact ⟨(fin w0 g17 (fun n => 0), (Value.slice none 0 0)), (congr2 (a := (0, [])) (b := 2) (fun (z0 : (Int) × (List ((Int) × (Int)))) (z1 : Int) => Ending.returned (Value.tuple (List.toArray [Value.agg (List.toArray [Value.int .i64 z0.1, Value.slice none 0 0]), Value.int .i64 z1]))) e0 e1), hbase.fresh _, ((congrArg (fun (z : (Int) × (List ((Int) × (Int)))) => z.2) e0) ▸ Ow.nil)⟩
   refine run_cond_f rfl (decide_eq_false p6) ?_
   refine run_exit rfl ?_
   refine run_seq (run_seq (run_region rfl ?_))
   refine lv (to_v) rfl (e_move (by exact zs1)) ?_
   refine lv (Value.pointer (some ⟨b3, 0, none⟩)) rfl (e_fieldAddr Try.underlying24 rfl rfl (by exact zs2) rfl) ?_
   refine lv (Value.int .i64 g.1) rfl (e_load_bx1 tp3_c rfl bx5 rfl) ?_
   refine l_op rfl ?_
   refine o_call (v := Value.int .i64 (chosenS to g.1)) (e_call (vals := [to_v, Value.int .i64 g.1]) Try.func103 bd103_c nm103_c rfl) (chosen_ok w16 to to_v (r_to_v).ro g.1 (by first | assumption | omega)) ?_
   intro w23 hb24
   replace hb24 := chg_below hb24 g17
   refine lv (Value.int .i64 (chosenS to g.1)) rfl (e_assign rfl) ?_
   refine l_nil (run_seq (run_region rfl ?_))
   refine lv (Value.int .i64 (chosenS to g.1)) rfl (e_move rfl) ?_
   refine lv (Value.bool (!(decide ((chosenS to g.1) = 0)))) rfl (e_neq (m := chosenS to g.1) (n := 0) rfl rfl) ?_
   refine l_nil ?_
   by_cases p12 : (chosenS to g.1) = 0
   ·
    refine run_cond_f rfl (congrArg Bool.not (decide_eq_true p12)) ?_
    refine run_skip ?_
    refine run_seq (run_region rfl ?_)
    replace bx5 := bx5.chg hb24 (not_no _)
    refine lv (Value.agg (List.toArray [Value.int .i64 g.1, g_v])) rfl (e_load_bxN (ds := [Value.int .i64 g.1, g_v]) tp24_c (by exact zs2) bx5 rfl rfl) ?_
    refine lv (to_v) rfl (e_move (by exact zs1)) ?_
    refine lv (Value.pointer (some ⟨b3, 0, none⟩)) rfl (e_fieldAddr Try.underlying24 rfl rfl (by exact zs2) rfl) ?_
    refine lv (Value.int .i64 g.1) rfl (e_load_bx1 tp3_c rfl bx5 rfl) ?_
    replace r_g_v := r_g_v.chg hb24 (not_no _)
    replace r_to_v := r_to_v.chg hb24 (not_no _)
    refine l_op rfl ?_
    refine o_callx (e_call (vals := [Value.agg (List.toArray [Value.int .i64 g.1, g_v]), to_v, Value.int .i64 g.1]) Try.func105 bd105_c nm105_c rfl) (renamed_ok w23 g g_v (r_g_v).ro to to_v (r_to_v).ro g.1 (by first | exact of_decide_eq_true p1 | omega) (by first | exact of_decide_eq_true p1 | omega)) ?_
    rintro ⟨d26, v28⟩ w25 ⟨fr27, o29⟩
    obtain ⟨g30, hg30⟩ : ∃ q, q = glue w23.heap.size g17 d26 (fun n => if n = 1 then 3 else 0) := ⟨_, rfl⟩
    have ch31 := chg_glue fr27.below g17 d26 (fun n => if n = 1 then 3 else 0)
    rw [← hg30] at ch31
    replace o29 := o29.glue (γ := g17) (ren := (fun n => if n = 1 then 3 else 0)) (k := 3) fr27.col rfl rfl
    rw [← hg30] at o29
    clear hg30
    refine l_op rfl ?_
    replace bx10 := (bx10.chg hb24 (not_no _)).chg ch31 (not_no _)
    refine o_store_bx (cs' := [Value.int .i64 ((renR g to g.1).1), v28]) tp24_c (by exact zs4) rfl bx10 rfl (Nat.le_of_ble_eq_true rfl) (AllOne.all (.cons rfl (.cons (sl_one o29.flat) .nil))) rfl ?_
    intro w32 ch33 bx34
    clear bx10
    refine lv (Value.int .i64 0) rfl (e_assign rfl) ?_
    refine l_nil ?_
    refine run_ret (vs := [Value.agg (List.toArray [Value.int .i64 ((renR g to g.1).1), v28]), Value.int .i64 0]) Try.func92 (.cell (by exact zs4) (load_bxN (ds := [Value.int .i64 ((renR g to g.1).1), v28]) tp24_c bx34 rfl rfl) (.tmp rfl .nil)) ?_
    have C35 : Chg (inl [2]) _ _ _ _ := (hb24.n).seq ((ch31.n).seq (ch33.l rfl))
    replace hbase := hbase.chg C35 (is_nl rfl)
    replace o29 := o29.chg ch33 (is_ne rfl) (is_ne rfl)
    have e0 : ((renR g to g.1) : (Int) × (List ((Int) × (Int)))) = ((movedR g to).1) := by
      first
        | (have hn : ¬ MayP g := fun h => p1 (decide_eq_true h)
           simp [movedR, hn]; done)
        | (have hm := of_decide_eq_true p1
           have ha : ∀ v ∈ to, 0 ≤ v ∧ v < g.1 := by rw [List.take_of_length_le (by omega)] at hinv; exact hinv
           simp only [movedR, if_pos hm]; rw [if_pos (by omega), if_pos ha, if_pos (by assumption)]; done)
        | (have hm := of_decide_eq_true p1
           have ha : ∀ v ∈ to, 0 ≤ v ∧ v < g.1 := by rw [List.take_of_length_le (by omega)] at hinv; exact hinv
           simp only [movedR, if_pos hm]; rw [if_pos (by omega), if_pos ha, if_neg (by assumption)]; done)
        | (have hm := of_decide_eq_true p1
           have ha : ¬ ∀ v ∈ to, 0 ≤ v ∧ v < g.1 := fun h => by have := h _ (gI_mem (xs := to) (i := (k : Int)) (by omega) (by assumption)); simp_all
           simp only [movedR, if_pos hm]; rw [if_pos (by omega), if_neg ha]; done)
        | (have hm := of_decide_eq_true p1
           simp only [movedR, if_pos hm]; rw [if_neg (by omega)]; done)
    have e1 : (0 : Int) = ((movedR g to).2) := by
      first
        | (have hn : ¬ MayP g := fun h => p1 (decide_eq_true h)
           simp [movedR, hn]; done)
        | (have hm := of_decide_eq_true p1
           have ha : ∀ v ∈ to, 0 ≤ v ∧ v < g.1 := by rw [List.take_of_length_le (by omega)] at hinv; exact hinv
           simp only [movedR, if_pos hm]; rw [if_pos (by omega), if_pos ha, if_pos (by assumption)]; done)
        | (have hm := of_decide_eq_true p1
           have ha : ∀ v ∈ to, 0 ≤ v ∧ v < g.1 := by rw [List.take_of_length_le (by omega)] at hinv; exact hinv
           simp only [movedR, if_pos hm]; rw [if_pos (by omega), if_pos ha, if_neg (by assumption)]; done)
        | (have hm := of_decide_eq_true p1
           have ha : ¬ ∀ v ∈ to, 0 ≤ v ∧ v < g.1 := fun h => by have := h _ (gI_mem (xs := to) (i := (k : Int)) (by omega) (by assumption)); simp_all
           simp only [movedR, if_pos hm]; rw [if_pos (by omega), if_neg ha]; done)
        | (have hm := of_decide_eq_true p1
           simp only [movedR, if_pos hm]; rw [if_neg (by omega)]; done)
    exact ⟨(fin w0 g30 (fun n => if n = 3 then 1 else 0), v28), (congr2 (a := (renR g to g.1)) (b := 0) (fun (z0 : (Int) × (List ((Int) × (Int)))) (z1 : Int) => Ending.returned (Value.tuple (List.toArray [Value.agg (List.toArray [Value.int .i64 z0.1, v28]), Value.int .i64 z1]))) e0 e1), hbase.fresh _, ((congrArg (fun (z : (Int) × (List ((Int) × (Int)))) => z.2) e0) ▸ (o29.glue (γ := c0) (ren := (fun n => if n = 3 then 1 else 0)) (k := 1) hbase.col rfl rfl))⟩
   refine run_cond_t rfl (congrArg Bool.not (decide_eq_false p12)) ?_
   refine run_seq ?_
   clear bx5
   refine run_region rfl ?_
   refine lv (Value.agg (List.toArray [Value.int .i64 0, Value.slice none 0 0])) rfl (e_build (vs := []) rfl (by kernel_rfl)) ?_
   refine lv (Value.int .i64 (chosenS to g.1)) rfl (e_move rfl) ?_
   refine l_op rfl ?_
   replace bx10 := bx10.chg hb24 (not_no _)
   refine o_store_bx (cs' := [Value.int .i64 0, Value.slice none 0 0]) tp24_c (by exact zs4) rfl bx10 rfl (Nat.le_of_ble_eq_true rfl) (AllOne.all (.cons rfl (.cons rfl .nil))) rfl ?_
   intro w36 ch37 bx38
   clear bx10
   refine lv (Value.int .i64 (chosenS to g.1)) rfl (e_assign rfl) ?_
   refine l_nil ?_
   refine run_ret (vs := [Value.agg (List.toArray [Value.int .i64 0, Value.slice none 0 0]), Value.int .i64 (chosenS to g.1)]) Try.func92 (.cell (by exact zs4) (load_bxN (ds := [Value.int .i64 0, Value.slice none 0 0]) tp24_c bx38 rfl rfl) (.tmp rfl .nil)) ?_
   replace hbase := hbase.chg hb24 (not_no _)
   replace hbase := hbase.chg ch37 (is_ne rfl)
   have e0 : ((0, []) : (Int) × (List ((Int) × (Int)))) = ((movedR g to).1) := by
     first
       | (have hn : ¬ MayP g := fun h => p1 (decide_eq_true h)
          simp [movedR, hn]; done)
       | (have hm := of_decide_eq_true p1
          have ha : ∀ v ∈ to, 0 ≤ v ∧ v < g.1 := by rw [List.take_of_length_le (by omega)] at hinv; exact hinv
          simp only [movedR, if_pos hm]; rw [if_pos (by omega), if_pos ha, if_pos (by assumption)]; done)
       | (have hm := of_decide_eq_true p1
          have ha : ∀ v ∈ to, 0 ≤ v ∧ v < g.1 := by rw [List.take_of_length_le (by omega)] at hinv; exact hinv
          simp only [movedR, if_pos hm]; rw [if_pos (by omega), if_pos ha, if_neg (by assumption)]; done)
       | (have hm := of_decide_eq_true p1
          have ha : ¬ ∀ v ∈ to, 0 ≤ v ∧ v < g.1 := fun h => by have := h _ (gI_mem (xs := to) (i := (k : Int)) (by omega) (by assumption)); simp_all
          simp only [movedR, if_pos hm]; rw [if_pos (by omega), if_neg ha]; done)
       | (have hm := of_decide_eq_true p1
          simp only [movedR, if_pos hm]; rw [if_neg (by omega)]; done)
   have e1 : (chosenS to g.1 : Int) = ((movedR g to).2) := by
     first
       | (have hn : ¬ MayP g := fun h => p1 (decide_eq_true h)
          simp [movedR, hn]; done)
       | (have hm := of_decide_eq_true p1
          have ha : ∀ v ∈ to, 0 ≤ v ∧ v < g.1 := by rw [List.take_of_length_le (by omega)] at hinv; exact hinv
          simp only [movedR, if_pos hm]; rw [if_pos (by omega), if_pos ha, if_pos (by assumption)]; done)
       | (have hm := of_decide_eq_true p1
          have ha : ∀ v ∈ to, 0 ≤ v ∧ v < g.1 := by rw [List.take_of_length_le (by omega)] at hinv; exact hinv
          simp only [movedR, if_pos hm]; rw [if_pos (by omega), if_pos ha, if_neg (by assumption)]; done)
       | (have hm := of_decide_eq_true p1
          have ha : ¬ ∀ v ∈ to, 0 ≤ v ∧ v < g.1 := fun h => by have := h _ (gI_mem (xs := to) (i := (k : Int)) (by omega) (by assumption)); simp_all
          simp only [movedR, if_pos hm]; rw [if_pos (by omega), if_neg ha]; done)
       | (have hm := of_decide_eq_true p1
          simp only [movedR, if_pos hm]; rw [if_neg (by omega)]; done)
   exact ⟨(fin w0 g17 (fun n => 0), (Value.slice none 0 0)), (congr2 (a := (0, [])) (b := chosenS to g.1) (fun (z0 : (Int) × (List ((Int) × (Int)))) (z1 : Int) => Ending.returned (Value.tuple (List.toArray [Value.agg (List.toArray [Value.int .i64 z0.1, Value.slice none 0 0]), Value.int .i64 z1]))) e0 e1), hbase.fresh _, ((congrArg (fun (z : (Int) × (List ((Int) × (Int)))) => z.2) e0) ▸ Ow.nil)⟩
  refine run_cond_t rfl (congrArg Bool.not (decide_eq_false p3)) ?_
  refine run_seq ?_
  clear bx5
  refine run_region rfl ?_
  refine lv (Value.agg (List.toArray [Value.int .i64 0, Value.slice none 0 0])) rfl (e_build (vs := []) rfl (by kernel_rfl)) ?_
  refine l_op rfl ?_
  replace bx10 := bx10.chg hb12 (not_no _)
  refine o_store_bx (cs' := [Value.int .i64 0, Value.slice none 0 0]) tp24_c rfl rfl bx10 rfl (Nat.le_of_ble_eq_true rfl) (AllOne.all (.cons rfl (.cons rfl .nil))) rfl ?_
  intro w39 ch40 bx41
  clear bx10
  refine lv (Value.int .i64 2) rfl (e_assign rfl) ?_
  refine l_nil ?_
  refine run_ret (vs := [Value.agg (List.toArray [Value.int .i64 0, Value.slice none 0 0]), Value.int .i64 2]) Try.func92 (.cell rfl (load_bxN (ds := [Value.int .i64 0, Value.slice none 0 0]) tp24_c bx41 rfl rfl) (.tmp rfl .nil)) ?_
  have C42 : Chg (inl [2]) _ _ _ _ := (ch2.n).seq ((ch7.n).seq ((hb12.n).seq (ch40.l rfl)))
  replace hbase := hbase.chg C42 (is_nl rfl)
  have e0 : ((0, []) : (Int) × (List ((Int) × (Int)))) = ((movedR g to).1) := by
    first
      | (have hn : ¬ MayP g := fun h => p1 (decide_eq_true h)
         simp [movedR, hn]; done)
      | (have hm := of_decide_eq_true p1
         have ha : ∀ v ∈ to, 0 ≤ v ∧ v < g.1 := by rw [List.take_of_length_le (by omega)] at hinv; exact hinv
         simp only [movedR, if_pos hm]; rw [if_pos (by omega), if_pos ha, if_pos (by assumption)]; done)
      | (have hm := of_decide_eq_true p1
         have ha : ∀ v ∈ to, 0 ≤ v ∧ v < g.1 := by rw [List.take_of_length_le (by omega)] at hinv; exact hinv
         simp only [movedR, if_pos hm]; rw [if_pos (by omega), if_pos ha, if_neg (by assumption)]; done)
      | (have hm := of_decide_eq_true p1
         have ha : ¬ ∀ v ∈ to, 0 ≤ v ∧ v < g.1 := fun h => by have := h _ (gI_mem (xs := to) (i := (k : Int)) (by omega) (by assumption)); simp_all
         simp only [movedR, if_pos hm]; rw [if_pos (by omega), if_neg ha]; done)
      | (have hm := of_decide_eq_true p1
         simp only [movedR, if_pos hm]; rw [if_neg (by omega)]; done)
  have e1 : (2 : Int) = ((movedR g to).2) := by
    first
      | (have hn : ¬ MayP g := fun h => p1 (decide_eq_true h)
         simp [movedR, hn]; done)
      | (have hm := of_decide_eq_true p1
         have ha : ∀ v ∈ to, 0 ≤ v ∧ v < g.1 := by rw [List.take_of_length_le (by omega)] at hinv; exact hinv
         simp only [movedR, if_pos hm]; rw [if_pos (by omega), if_pos ha, if_pos (by assumption)]; done)
      | (have hm := of_decide_eq_true p1
         have ha : ∀ v ∈ to, 0 ≤ v ∧ v < g.1 := by rw [List.take_of_length_le (by omega)] at hinv; exact hinv
         simp only [movedR, if_pos hm]; rw [if_pos (by omega), if_pos ha, if_neg (by assumption)]; done)
      | (have hm := of_decide_eq_true p1
         have ha : ¬ ∀ v ∈ to, 0 ≤ v ∧ v < g.1 := fun h => by have := h _ (gI_mem (xs := to) (i := (k : Int)) (by omega) (by assumption)); simp_all
         simp only [movedR, if_pos hm]; rw [if_pos (by omega), if_neg ha]; done)
      | (have hm := of_decide_eq_true p1
         simp only [movedR, if_pos hm]; rw [if_neg (by omega)]; done)
  exact ⟨(fin w0 g9 (fun n => 0), (Value.slice none 0 0)), (congr2 (a := (0, [])) (b := 2) (fun (z0 : (Int) × (List ((Int) × (Int)))) (z1 : Int) => Ending.returned (Value.tuple (List.toArray [Value.agg (List.toArray [Value.int .i64 z0.1, Value.slice none 0 0]), Value.int .i64 z1]))) e0 e1), hbase.fresh _, ((congrArg (fun (z : (Int) × (List ((Int) × (Int)))) => z.2) e0) ▸ Ow.nil)⟩
 refine run_cond_t rfl (congrArg Bool.not (Bool.eq_false_iff.2 p1)) ?_
 refine run_seq ?_
 clear bx5
 refine run_region rfl ?_
 refine lv (Value.agg (List.toArray [Value.int .i64 0, Value.slice none 0 0])) rfl (e_build (vs := []) rfl (by kernel_rfl)) ?_
 refine l_op rfl ?_
 replace bx10 := bx10.chg hb12 (not_no _)
 refine o_store_bx (cs' := [Value.int .i64 0, Value.slice none 0 0]) tp24_c rfl rfl bx10 rfl (Nat.le_of_ble_eq_true rfl) (AllOne.all (.cons rfl (.cons rfl .nil))) rfl ?_
 intro w43 ch44 bx45
 clear bx10
 refine lv (Value.int .i64 1) rfl (e_assign rfl) ?_
 refine l_nil ?_
 refine run_ret (vs := [Value.agg (List.toArray [Value.int .i64 0, Value.slice none 0 0]), Value.int .i64 1]) Try.func92 (.cell rfl (load_bxN (ds := [Value.int .i64 0, Value.slice none 0 0]) tp24_c bx45 rfl rfl) (.tmp rfl .nil)) ?_
 have C46 : Chg (inl [2]) _ _ _ _ := (ch2.n).seq ((ch7.n).seq ((hb12.n).seq (ch44.l rfl)))
 replace hbase := hbase.chg C46 (is_nl rfl)
 have e0 : ((0, []) : (Int) × (List ((Int) × (Int)))) = ((movedR g to).1) := by
   first
     | (have hn : ¬ MayP g := fun h => p1 (decide_eq_true h)
        simp [movedR, hn]; done)
     | (have hm := of_decide_eq_true p1
        have ha : ∀ v ∈ to, 0 ≤ v ∧ v < g.1 := by rw [List.take_of_length_le (by omega)] at hinv; exact hinv
        simp only [movedR, if_pos hm]; rw [if_pos (by omega), if_pos ha, if_pos (by assumption)]; done)
     | (have hm := of_decide_eq_true p1
        have ha : ∀ v ∈ to, 0 ≤ v ∧ v < g.1 := by rw [List.take_of_length_le (by omega)] at hinv; exact hinv
        simp only [movedR, if_pos hm]; rw [if_pos (by omega), if_pos ha, if_neg (by assumption)]; done)
     | (have hm := of_decide_eq_true p1
        have ha : ¬ ∀ v ∈ to, 0 ≤ v ∧ v < g.1 := fun h => by have := h _ (gI_mem (xs := to) (i := (k : Int)) (by omega) (by assumption)); simp_all
        simp only [movedR, if_pos hm]; rw [if_pos (by omega), if_neg ha]; done)
     | (have hm := of_decide_eq_true p1
        simp only [movedR, if_pos hm]; rw [if_neg (by omega)]; done)
 have e1 : (1 : Int) = ((movedR g to).2) := by
   first
     | (have hn : ¬ MayP g := fun h => p1 (decide_eq_true h)
        simp [movedR, hn]; done)
     | (have hm := of_decide_eq_true p1
        have ha : ∀ v ∈ to, 0 ≤ v ∧ v < g.1 := by rw [List.take_of_length_le (by omega)] at hinv; exact hinv
        simp only [movedR, if_pos hm]; rw [if_pos (by omega), if_pos ha, if_pos (by assumption)]; done)
     | (have hm := of_decide_eq_true p1
        have ha : ∀ v ∈ to, 0 ≤ v ∧ v < g.1 := by rw [List.take_of_length_le (by omega)] at hinv; exact hinv
        simp only [movedR, if_pos hm]; rw [if_pos (by omega), if_pos ha, if_neg (by assumption)]; done)
     | (have hm := of_decide_eq_true p1
        have ha : ¬ ∀ v ∈ to, 0 ≤ v ∧ v < g.1 := fun h => by have := h _ (gI_mem (xs := to) (i := (k : Int)) (by omega) (by assumption)); simp_all
        simp only [movedR, if_pos hm]; rw [if_pos (by omega), if_neg ha]; done)
     | (have hm := of_decide_eq_true p1
        simp only [movedR, if_pos hm]; rw [if_neg (by omega)]; done)
 exact ⟨(fin w0 g9 (fun n => 0), (Value.slice none 0 0)), (congr2 (a := (0, [])) (b := 1) (fun (z0 : (Int) × (List ((Int) × (Int)))) (z1 : Int) => Ending.returned (Value.tuple (List.toArray [Value.agg (List.toArray [Value.int .i64 z0.1, Value.slice none 0 0]), Value.int .i64 z1]))) e0 e1), hbase.fresh _, ((congrArg (fun (z : (Int) × (List ((Int) × (Int)))) => z.2) e0) ▸ Ow.nil)⟩
end TL
