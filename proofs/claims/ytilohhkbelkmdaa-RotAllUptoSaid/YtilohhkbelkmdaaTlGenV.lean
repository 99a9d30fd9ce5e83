import Derived.Test.YtilohhkbelkmdaaTlGenX
import Derived.Test.YtilohhkbelkmdaaTlGenY
import Derived.Test.YtilohhkbelkmdaaTlGenZ
import Derived.Test.YtilohhkbelkmdaaProg
import Derived.Test.YtilohhkbelkmdaaTlP2
set_option linter.all false
set_option maxRecDepth 20000
namespace TL
open Go Go.Proofs
theorem mixed_v : Try.prog.follows .mixedOrders = true := by kernel_rfl
theorem tp3_v : Tp Try.prog 3 false 1 8 (.int .i64 0) := Tp.of (by kernel_rfl)
theorem tp22_v : Tp Try.prog 22 false 1 24 (.slice none 0 0) := Tp.of (by kernel_rfl)
theorem tp24_v : Tp Try.prog 24 true 2 32 (.agg #[.int .i64 0, .slice none 0 0]) := Tp.of (by kernel_rfl)
theorem tp27_v : Tp Try.prog 27 false 1 24 (.slice none 0 0) := Tp.of (by kernel_rfl)
theorem tp60_v : Tp Try.prog 60 true 2 16 (.agg #[.int .i64 0, .int .i64 0]) := Tp.of (by kernel_rfl)
theorem bd15_v : Try.f15.body.isNone = false := rfl
theorem nm15_v : (Try.f15.name == "runtime.NumGoroutine") = false := by decide +kernel
theorem bd47_v : Try.f47.body.isNone = false := rfl
theorem nm47_v : (Try.f47.name == "runtime.NumGoroutine") = false := by decide +kernel
theorem bd48_v : Try.f48.body.isNone = false := rfl
theorem nm48_v : (Try.f48.name == "runtime.NumGoroutine") = false := by decide +kernel
theorem bd49_v : Try.f49.body.isNone = false := rfl
theorem nm49_v : (Try.f49.name == "runtime.NumGoroutine") = false := by decide +kernel
theorem bd50_v : Try.f50.body.isNone = false := rfl
theorem nm50_v : (Try.f50.name == "runtime.NumGoroutine") = false := by decide +kernel
theorem bd74_v : Try.f74.body.isNone = false := rfl
theorem nm74_v : (Try.f74.name == "runtime.NumGoroutine") = false := by decide +kernel
theorem bd87_v : Try.f87.body.isNone = false := rfl
theorem nm87_v : (Try.f87.name == "runtime.NumGoroutine") = false := by decide +kernel
theorem Genus_ok (w0 : World) (g : (Int) × (List ((Int) × (Int)))) (g_v : Value) (hg_v : Ro w0 g_v g.2) (r : List (List Int)) (r_v : Value) (hr_v : Ro w0 r_v r) :
    Calls Try.prog 49 #[Value.agg (List.toArray [Value.int .i64 g.1, g_v]), r_v] w0 (fun ee w => ee = .returned (Value.tuple (List.toArray [Value.int .i64 ((genusR g r).1), Value.int .i64 ((genusR g r).2)])) ∧ Bel w0.heap.size w0 w) := by
 refine calls_of_run Try.func49 rfl (Nat.le_of_ble_eq_true rfl) ?_
 have hbase := Base.start w0
 have r_g_v := hg_v.sl
 have r_r_v := hr_v.sl
 refine run_seq (run_region rfl (l_op rfl ?_))
 refine o_box c0 (is 1) (1, 0) rfl rfl ?_
 intro g4 w1 b3 ch2 bx5
 replace bx5 : Bx g4 (is 1) w1 b3 [Value.int .i64 g.1, g_v] := bx5
 refine lv (Value.int .i64 0) rfl (e_assign rfl) ?_
 refine lv (Value.int .i64 0) rfl (e_assign rfl) ?_
 refine l_nil (run_seq (run_seq (run_region rfl ?_)))
 refine lv (Value.agg (List.toArray [Value.int .i64 g.1, g_v])) rfl (e_load_bxN (ds := [Value.int .i64 g.1, g_v]) tp24_v rfl bx5 rfl rfl) ?_
 refine lv (r_v) rfl (e_move rfl) ?_
 replace r_g_v := r_g_v.chg ch2 (not_no _)
 replace r_r_v := r_r_v.chg ch2 (not_no _)
 refine l_op rfl ?_
 refine o_call (v := Value.int .i64 (rmayR g r)) (e_call (vals := [Value.agg (List.toArray [Value.int .i64 g.1, g_v]), r_v]) Try.func15 bd15_v nm15_v rfl) (RMay_ok w1 g g_v (r_g_v).ro r r_v (r_r_v).ro) ?_
 intro w6 hb7
 replace hb7 := chg_below hb7 g4
 refine lv (Value.int .i64 (rmayR g r)) rfl (e_assign rfl) ?_
 refine l_nil (run_seq (run_region rfl ?_))
 refine lv (Value.int .i64 (rmayR g r)) rfl (e_move rfl) ?_
 refine lv (Value.bool (!(decide ((rmayR g r) = 0)))) rfl (e_neq (m := rmayR g r) (n := 0) rfl rfl) ?_
 refine l_nil ?_
 by_cases p2 : (rmayR g r) = 0
 ·
  obtain ⟨hm, hrp⟩ := rmay_ok (by assumption)
  have hm0 := hm
  obtain ⟨hm1, hm2, hm3, hm4⟩ := hm0
  refine run_cond_f rfl (congrArg Bool.not (decide_eq_true p2)) ?_
  refine run_skip ?_
  refine run_seq (run_region rfl ?_)
  replace bx5 := bx5.chg hb7 (not_no _)
  refine lv (Value.agg (List.toArray [Value.int .i64 g.1, g_v])) rfl (e_load_bxN (ds := [Value.int .i64 g.1, g_v]) tp24_v rfl bx5 rfl rfl) ?_
  replace r_g_v := r_g_v.chg hb7 (not_no _)
  refine l_op rfl ?_
  refine o_callx (e_call (vals := [Value.agg (List.toArray [Value.int .i64 g.1, g_v])]) Try.func74 bd74_v nm74_v rfl) (Parts_ok w6 g g_v (r_g_v).ro) ?_
  rintro ⟨d9, v11⟩ w8 ⟨fr10, o12⟩
  obtain ⟨g13, hg13⟩ : ∃ q, q = glue w6.heap.size g4 d9 (fun n => if n = 1 then 2 else 0) := ⟨_, rfl⟩
  have ch14 := chg_glue fr10.below g4 d9 (fun n => if n = 1 then 2 else 0)
  rw [← hg13] at ch14
  replace o12 := o12.glue (γ := g4) (ren := (fun n => if n = 1 then 2 else 0)) (k := 2) fr10.col rfl rfl
  rw [← hg13] at o12
  clear hg13
  refine lv (Value.tuple (List.toArray [v11, Value.int .i64 ((partsR g).2.1), Value.int .i64 ((partsR g).2.2)])) rfl (e_move rfl) ?_
  refine lv (v11) rfl (e_extract rfl rfl) ?_
  refine lv (Value.int .i64 ((partsR g).2.1)) rfl (e_extract rfl rfl) ?_
  refine lv (Value.int .i64 ((partsR g).2.2)) rfl (e_extract rfl rfl) ?_
  refine lv (v11) rfl (e_assign rfl) ?_
  refine lv (Value.int .i64 ((partsR g).2.1)) rfl (e_assign rfl) ?_
  refine lv (Value.int .i64 ((partsR g).2.2)) rfl (e_assign rfl) ?_
  refine l_nil (run_seq ?_)
  clear o12
  have hpb := partsR_bd g hm
  have hfl := facesS_len (nextS g r) r
  have hnl := nextS_len g r
  have hrl := hrp.1
  refine run_region_h g13 (inl []) mixed_v ?_
  intro w16 ch15
  refine h_take (v := Value.int .i64 ((partsR g).2.1)) 0 rfl (by kernel_rfl) (by kernel_rfl) rfl (Chg.refl _ _ _) (fun w' hw' => e_move rfl) ?_
  refine h_take (v := Value.int .i64 (2 * ((partsR g).2.1))) 1 rfl (by kernel_rfl) (by kernel_rfl) rfl (Chg.refl _ _ _) (fun w' hw' => e_mul (m := 2) (n := (partsR g).2.1) rfl rfl (by omega)) ?_
  refine h_take (v := Value.pointer (some ⟨b3, 0, none⟩)) 2 rfl (by kernel_rfl) (by kernel_rfl) rfl (Chg.refl _ _ _) (fun w' hw' => e_fieldAddr Try.underlying24 rfl rfl rfl rfl) ?_
  replace bx5 := (bx5.chg ch14 (not_no _)).chg ch15 (not_no _)
  refine h_take (v := Value.int .i64 g.1) 3 rfl (by kernel_rfl) (by kernel_rfl) rfl (Chg.refl _ _ _) (fun w' hw' => e_load_bx1 tp3_v rfl (bx5.chg hw' (is_nl rfl)) rfl) ?_
  refine h_take (v := Value.int .i64 ((2 * ((partsR g).2.1)) - g.1)) 4 rfl (by kernel_rfl) (by kernel_rfl) rfl (Chg.refl _ _ _) (fun w' hw' => e_sub (m := 2 * ((partsR g).2.1)) (n := g.1) rfl rfl (by omega)) ?_
  refine h_take (v := Value.pointer (some ⟨b3, 1, none⟩)) 5 rfl (by kernel_rfl) (by kernel_rfl) rfl (Chg.refl _ _ _) (fun w' hw' => e_fieldAddr Try.underlying24 rfl rfl rfl rfl) ?_
  refine h_take (v := g_v) 6 rfl (by kernel_rfl) (by kernel_rfl) rfl (Chg.refl _ _ _) (fun w' hw' => e_load_bx1 tp22_v rfl (bx5.chg hw' (is_nl rfl)) rfl) ?_
  replace r_g_v := (r_g_v.chg ch14 (not_no _)).chg ch15 (not_no _)
  have len17 := (r_g_v).small
  refine h_take (v := Value.int .i64 (List.length g.2 : Int)) 7 rfl (by kernel_rfl) (by kernel_rfl) rfl (Chg.refl _ _ _) (fun w' hw' => e_len Try.underlying22 rfl r_g_v) ?_
  refine h_take (v := Value.int .i64 (((2 * ((partsR g).2.1)) - g.1) + (List.length g.2 : Int))) 8 rfl (by kernel_rfl) (by kernel_rfl) rfl (Chg.refl _ _ _) (fun w' hw' => e_add (m := (2 * ((partsR g).2.1)) - g.1) (n := (List.length g.2 : Int)) rfl rfl (by omega)) ?_
  refine h_take (v := Value.agg (List.toArray [Value.int .i64 g.1, g_v])) 9 rfl (by kernel_rfl) (by kernel_rfl) rfl (Chg.refl _ _ _) (fun w' hw' => e_load_bxN (ds := [Value.int .i64 g.1, g_v]) tp24_v rfl (bx5.chg hw' (is_nl rfl)) rfl rfl) ?_
  refine h_take (v := r_v) 10 rfl (by kernel_rfl) (by kernel_rfl) rfl (Chg.refl _ _ _) (fun w' hw' => e_move rfl) ?_
  refine h_one 11 rfl (by kernel_rfl) rfl ?_
  have C18 : Chg (inl []) _ _ _ _ := (hb7.n).seq ((ch14.n).seq (ch15.n))
  replace r_r_v := r_r_v.chg C18 (is_nl rfl)
  refine o_callx (e_call (vals := [Value.agg (List.toArray [Value.int .i64 g.1, g_v]), r_v]) Try.func87 bd87_v nm87_v rfl) (faces_ok w16 g g_v (r_g_v).ro r r_v (r_r_v).ro (by assumption) (by assumption)) ?_
  rintro ⟨d20, v22⟩ w19 ⟨fr21, o23⟩
  obtain ⟨g24, hg24⟩ : ∃ q, q = glue w16.heap.size g13 d20 (fun n => if n = 1 then 3 else 0) := ⟨_, rfl⟩
  have ch25 := chg_glue fr21.below g13 d20 (fun n => if n = 1 then 3 else 0)
  rw [← hg24] at ch25
  replace o23 := o23.glue (γ := g13) (ren := (fun n => if n = 1 then 3 else 0)) (k := 3) fr21.col rfl rfl
  rw [← hg24] at o23
  clear hg24
  have hs26 : Chg (inl []) _ _ _ _ := ch25.n
  refine ⟨hs26.same, ?_⟩
  have len27 := (o23.sl).small
  refine h_take (v := Value.int .i64 (List.length (facesS (nextS g r) r) : Int)) 12 rfl (by kernel_rfl) (by kernel_rfl) rfl hs26.same (fun w' hw' => e_len Try.underlying25 rfl o23.sl) ?_
  refine h_take (v := Value.int .i64 ((((2 * ((partsR g).2.1)) - g.1) + (List.length g.2 : Int)) - (List.length (facesS (nextS g r) r) : Int))) 13 rfl (by kernel_rfl) (by kernel_rfl) rfl hs26.same (fun w' hw' => e_sub (m := ((2 * ((partsR g).2.1)) - g.1) + (List.length g.2 : Int)) (n := (List.length (facesS (nextS g r) r) : Int)) rfl rfl (by omega)) ?_
  refine h_take (v := Value.int .i64 (Int.tdiv ((((2 * ((partsR g).2.1)) - g.1) + (List.length g.2 : Int)) - (List.length (facesS (nextS g r) r) : Int)) 2)) 14 rfl (by kernel_rfl) (by kernel_rfl) rfl hs26.same (fun w' hw' => e_tquo (m := (((2 * ((partsR g).2.1)) - g.1) + (List.length g.2 : Int)) - (List.length (facesS (nextS g r) r) : Int)) (n := 2) rfl rfl (by omega) (by omega)) ?_
  refine h_take (v := Value.int .i64 (Int.tdiv ((((2 * ((partsR g).2.1)) - g.1) + (List.length g.2 : Int)) - (List.length (facesS (nextS g r) r) : Int)) 2)) 15 rfl (by kernel_rfl) (by kernel_rfl) rfl hs26.same (fun w' hw' => e_assign rfl) ?_
  refine h_take (v := Value.int .i64 0) 16 rfl (by kernel_rfl) (by kernel_rfl) rfl hs26.same (fun w' hw' => e_assign rfl) ?_
  refine h_nil (by kernel_rfl) ?_
  refine run_ret (vs := [Value.int .i64 (Int.tdiv ((((2 * ((partsR g).2.1)) - g.1) + (List.length g.2 : Int)) - (List.length (facesS (nextS g r) r) : Int)) 2), Value.int .i64 0]) Try.func49 (.tmp rfl (.tmp rfl .nil)) ?_
  have e0 : (Int.tdiv ((((2 * ((partsR g).2.1)) - g.1) + (List.length g.2 : Int)) - (List.length (facesS (nextS g r) r) : Int)) 2 : Int) = ((genusR g r).1) := by
    first
      | (simp only [genusR, if_neg (show ¬ rmayR g r = 0 by assumption)]; done)
      | (simp only [genusR, if_pos (show rmayR g r = 0 by assumption)]; done)
  have e1 : (0 : Int) = ((genusR g r).2) := by
    first
      | (simp only [genusR, if_neg (show ¬ rmayR g r = 0 by assumption)]; done)
      | (simp only [genusR, if_pos (show rmayR g r = 0 by assumption)]; done)
  have C28 : Chg (inl []) _ _ _ _ := (ch2.n).seq ((hb7.n).seq ((ch14.n).seq ((ch15.n).seq (ch25.n))))
  replace hbase := hbase.chg C28 (is_nl rfl)
  exact ⟨(congr2 (a := Int.tdiv ((((2 * ((partsR g).2.1)) - g.1) + (List.length g.2 : Int)) - (List.length (facesS (nextS g r) r) : Int)) 2) (b := 0) (fun (z0 : Int) (z1 : Int) => Ending.returned (Value.tuple (List.toArray [Value.int .i64 z0, Value.int .i64 z1]))) e0 e1), hbase.below⟩
 refine run_cond_t rfl (congrArg Bool.not (decide_eq_false p2)) ?_
 refine run_seq ?_
 clear bx5
 refine run_region rfl ?_
 refine lv (Value.int .i64 (rmayR g r)) rfl (e_move rfl) ?_
 refine lv (Value.int .i64 0) rfl (e_assign rfl) ?_
 refine lv (Value.int .i64 (rmayR g r)) rfl (e_assign rfl) ?_
 refine l_nil ?_
 refine run_ret (vs := [Value.int .i64 0, Value.int .i64 (rmayR g r)]) Try.func49 (.tmp rfl (.tmp rfl .nil)) ?_
 have e0 : (0 : Int) = ((genusR g r).1) := by
   first
     | (simp only [genusR, if_neg (show ¬ rmayR g r = 0 by assumption)]; done)
     | (simp only [genusR, if_pos (show rmayR g r = 0 by assumption)]; done)
 have e1 : (rmayR g r : Int) = ((genusR g r).2) := by
   first
     | (simp only [genusR, if_neg (show ¬ rmayR g r = 0 by assumption)]; done)
     | (simp only [genusR, if_pos (show rmayR g r = 0 by assumption)]; done)
 replace hbase := hbase.chg ch2 (not_no _)
 replace hbase := hbase.chg hb7 (not_no _)
 exact ⟨(congr2 (a := 0) (b := rmayR g r) (fun (z0 : Int) (z1 : Int) => Ending.returned (Value.tuple (List.toArray [Value.int .i64 z0, Value.int .i64 z1]))) e0 e1), hbase.below⟩
theorem three_ok (w0 : World)  :
    Calls Try.prog 48 #[] w0 (fun ee w => ∃ xx : Cmap × Value, ee = .returned ((fun ⟨δ, rv0⟩ => Value.agg (List.toArray [Value.int .i64 threeS.1, rv0])) xx) ∧ (fun (⟨δ, rv0⟩ : Cmap × Value) (w : World) => Fresh w0 δ w ∧ Ow δ (is 1) (is 1) w rv0 threeS.2) xx w) := by
 refine calls_of_run Try.func48 rfl (Nat.le_of_ble_eq_true rfl) ?_
 have hbase := Base.start w0
 refine run_seq (run_region rfl (l_op rfl ?_))
 refine o_alloc c0 (is 1) (1, 0) rfl tp24_v ?_
 intro g4 w1 b3 ch2 bx5
 replace bx5 : Bx g4 (is 1) w1 b3 [Value.int .i64 0, Value.slice none 0 0] := bx5
 refine l_nil (run_seq (run_region rfl ?_))
 refine lv (Value.agg (List.toArray [Value.int .i64 0, Value.int .i64 1])) rfl (e_build (vs := [(0, Value.int .i64 0), (1, Value.int .i64 1)]) rfl (by kernel_rfl)) ?_
 refine lv (Value.agg (List.toArray [Value.int .i64 0, Value.int .i64 1])) rfl (e_build (vs := [(0, Value.int .i64 0), (1, Value.int .i64 1)]) rfl (by kernel_rfl)) ?_
 refine lv (Value.agg (List.toArray [Value.int .i64 0, Value.int .i64 1])) rfl (e_build (vs := [(0, Value.int .i64 0), (1, Value.int .i64 1)]) rfl (by kernel_rfl)) ?_
 refine l_op rfl ?_
 refine o_buildSlice (α := (Int) × (Int)) g4 (is 2) (is 2) (2, 0) rfl [(0, 1), (0, 1), (0, 1)] Try.underlying22 tp60_v (by decide) (by decide) (vs := [(0, Value.agg (List.toArray [Value.int .i64 0, Value.int .i64 1])), (1, Value.agg (List.toArray [Value.int .i64 0, Value.int .i64 1])), (2, Value.agg (List.toArray [Value.int .i64 0, Value.int .i64 1]))]) rfl rfl (.cons rfl (.cons rfl (.cons rfl .nil))) ?_
 intro g6 w7 v8 ch9 o10
 refine lv (Value.agg (List.toArray [Value.int .i64 2, v8])) rfl (e_build (vs := [(0, Value.int .i64 2), (1, v8)]) rfl (by rw [Sl.form o10.flat]; kernel_rfl)) ?_
 refine l_op rfl ?_
 replace bx5 := bx5.chg ch9 (not_no _)
 refine o_store_bx (cs' := [Value.int .i64 2, v8]) tp24_v rfl rfl bx5 rfl (Nat.le_of_ble_eq_true rfl) (AllOne.all (.cons rfl (.cons (sl_one o10.flat) .nil))) rfl ?_
 intro w11 ch12 bx13
 clear bx5
 refine l_nil ?_
 refine run_ret (vs := [Value.agg (List.toArray [Value.int .i64 2, v8])]) Try.func48 (.cell rfl (load_bxN (ds := [Value.int .i64 2, v8]) tp24_v bx13 rfl rfl) .nil) ?_
 have C14 : Chg (inl [1]) _ _ _ _ := (ch2.n).seq ((ch9.n).seq (ch12.l rfl))
 replace hbase := hbase.chg C14 (is_nl rfl)
 replace o10 := o10.chg ch12 (is_ne rfl) (is_ne rfl)
 have e0 : ((2, [(0, 1), (0, 1), (0, 1)]) : (Int) × (List ((Int) × (Int)))) = (threeS) := by
   rfl
 exact ⟨(fin w0 g6 (fun n => if n = 2 then 1 else 0), v8), (congrArg (a₁ := (2, [(0, 1), (0, 1), (0, 1)])) (fun (z0 : (Int) × (List ((Int) × (Int)))) => Ending.returned (Value.agg (List.toArray [Value.int .i64 z0.1, v8]))) e0), hbase.fresh _, ((congrArg (fun (z : (Int) × (List ((Int) × (Int)))) => z.2) e0) ▸ (o10.glue (γ := c0) (ren := (fun n => if n = 2 then 1 else 0)) (k := 1) hbase.col rfl rfl))⟩
theorem begun9_ok (w0 : World)  :
    Calls Try.prog 10 #[] w0 (fun ee w => ee = .returned (Value.bool true) ∧ Bel w0.heap.size w0 w) := by
 refine calls_of_run Try.func10 rfl (Nat.le_of_ble_eq_true rfl) ?_
 have hbase := Base.start w0
 refine run_seq (run_region rfl ?_)
 refine lv (Value.bool false) rfl (e_assign rfl) ?_
 refine l_nil (run_seq (run_region rfl (l_op rfl ?_)))
 refine o_buildSlice (α := Int) c0 (is 1) (is 1) (1, 0) rfl [0, 2, 4] Try.underlying27 tp3_v (by decide) (by decide) (vs := [(0, Value.int .i64 0), (1, Value.int .i64 2), (2, Value.int .i64 4)]) rfl rfl (.cons rfl (.cons rfl (.cons rfl .nil))) ?_
 intro g1 w2 v3 ch4 o5
 refine l_op rfl ?_
 refine o_buildSlice (α := Int) g1 (is 2) (is 2) (2, 0) rfl [1, 5, 3] Try.underlying27 tp3_v (by decide) (by decide) (vs := [(0, Value.int .i64 1), (1, Value.int .i64 5), (2, Value.int .i64 3)]) rfl rfl (.cons rfl (.cons rfl (.cons rfl .nil))) ?_
 intro g6 w7 v8 ch9 o10
 refine l_op rfl ?_
 replace o5 := o5.chg ch9 (not_no _) (not_no _)
 obtain ⟨c11, hv12⟩ := vc_of (u := v3) (sl_one o5.flat)
 obtain ⟨c13, hv14⟩ := vc_of (u := v8) (sl_one o10.flat)
 refine o_buildSlice (α := Vc) g6 (is 3) (is 3) (3, 0) rfl [c11, c13] Try.underlying26 tp27_v (by decide) (by decide) (vs := [(0, v3), (1, v8)]) rfl rfl (.cons (vc_els hv12 (sl_cells1 o5.flat)) (.cons (vc_els hv14 (sl_cells1 o10.flat)) .nil)) ?_
 intro g15 w16 v17 ch18 o19
 refine lv (v17) rfl (e_assign rfl) ?_
 refine l_nil (run_seq (run_region rfl (l_op rfl ?_)))
 refine o_callx (e_call (vals := []) Try.func48 bd48_v nm48_v rfl) (three_ok w16 ) ?_
 rintro ⟨d21, v23⟩ w20 ⟨fr22, o24⟩
 obtain ⟨g25, hg25⟩ : ∃ q, q = glue w16.heap.size g15 d21 (fun n => if n = 1 then 4 else 0) := ⟨_, rfl⟩
 have ch26 := chg_glue fr22.below g15 d21 (fun n => if n = 1 then 4 else 0)
 rw [← hg25] at ch26
 replace o24 := o24.glue (γ := g15) (ren := (fun n => if n = 1 then 4 else 0)) (k := 4) fr22.col rfl rfl
 rw [← hg25] at o24
 clear hg25
 refine lv (v17) rfl (e_move rfl) ?_
 replace o10 := (o10.chg ch18 (not_no _) (not_no _)).chg ch26 (not_no _) (not_no _)
 replace o5 := (o5.chg ch18 (not_no _) (not_no _)).chg ch26 (not_no _) (not_no _)
 replace o19 := o19.chg ch26 (not_no _) (not_no _)
 refine l_op rfl ?_
 refine o_callx (e_call (vals := [Value.agg (List.toArray [Value.int .i64 threeS.1, v23]), v17]) Try.func47 bd47_v nm47_v rfl) (Faces_ok w20 threeS v23 (o24.flat).ro ([[0, 2, 4], [1, 5, 3]]) v17 ((vc_sl o19 (VcR.consv hv12 (o5.flat).ro (VcR.consv hv14 (o10.flat).ro VcR.nil)))).ro) ?_
 rintro ⟨d28, v30⟩ w27 ⟨fr29, o31⟩
 obtain ⟨g32, hg32⟩ : ∃ q, q = glue w20.heap.size g25 d28 (fun n => if n = 1 then 5 else 0) := ⟨_, rfl⟩
 have ch33 := chg_glue fr29.below g25 d28 (fun n => if n = 1 then 5 else 0)
 rw [← hg32] at ch33
 replace o31 := o31.glue (γ := g25) (ren := (fun n => if n = 1 then 5 else 0)) (k := 5) fr29.col rfl rfl
 rw [← hg32] at o31
 clear hg32
 refine lv (Value.tuple (List.toArray [v30, Value.int .i64 ((facesR threeS ([[0, 2, 4], [1, 5, 3]])).2)])) rfl (e_move rfl) ?_
 refine lv (v30) rfl (e_extract rfl rfl) ?_
 refine lv (Value.int .i64 ((facesR threeS ([[0, 2, 4], [1, 5, 3]])).2)) rfl (e_extract rfl rfl) ?_
 refine lv (v30) rfl (e_assign rfl) ?_
 refine lv (Value.int .i64 ((facesR threeS ([[0, 2, 4], [1, 5, 3]])).2)) rfl (e_assign rfl) ?_
 refine l_nil (run_seq ?_)
 clear o24
 refine run_region rfl (l_op rfl ?_)
 refine o_callx (e_call (vals := []) Try.func48 bd48_v nm48_v rfl) (three_ok w27 ) ?_
 rintro ⟨d35, v37⟩ w34 ⟨fr36, o38⟩
 obtain ⟨g39, hg39⟩ : ∃ q, q = glue w27.heap.size g32 d35 (fun n => if n = 1 then 6 else 0) := ⟨_, rfl⟩
 have ch40 := chg_glue fr36.below g32 d35 (fun n => if n = 1 then 6 else 0)
 rw [← hg39] at ch40
 replace o38 := o38.glue (γ := g32) (ren := (fun n => if n = 1 then 6 else 0)) (k := 6) fr36.col rfl rfl
 rw [← hg39] at o38
 clear hg39
 refine l_op rfl ?_
 refine o_buildSlice (α := Int) g39 (is 7) (is 7) (7, 0) rfl [0, 2, 4] Try.underlying27 tp3_v (by decide) (by decide) (vs := [(0, Value.int .i64 0), (1, Value.int .i64 2), (2, Value.int .i64 4)]) rfl rfl (.cons rfl (.cons rfl (.cons rfl .nil))) ?_
 intro g41 w42 v43 ch44 o45
 refine l_op rfl ?_
 refine o_buildSlice (α := Int) g41 (is 8) (is 8) (8, 0) rfl [1, 3, 5] Try.underlying27 tp3_v (by decide) (by decide) (vs := [(0, Value.int .i64 1), (1, Value.int .i64 3), (2, Value.int .i64 5)]) rfl rfl (.cons rfl (.cons rfl (.cons rfl .nil))) ?_
 intro g46 w47 v48 ch49 o50
 refine l_op rfl ?_
 replace o45 := o45.chg ch49 (not_no _) (not_no _)
 obtain ⟨c51, hv52⟩ := vc_of (u := v43) (sl_one o45.flat)
 obtain ⟨c53, hv54⟩ := vc_of (u := v48) (sl_one o50.flat)
 refine o_buildSlice (α := Vc) g46 (is 9) (is 9) (9, 0) rfl [c51, c53] Try.underlying26 tp27_v (by decide) (by decide) (vs := [(0, v43), (1, v48)]) rfl rfl (.cons (vc_els hv52 (sl_cells1 o45.flat)) (.cons (vc_els hv54 (sl_cells1 o50.flat)) .nil)) ?_
 intro g55 w56 v57 ch58 o59
 have C60 : Chg (inl []) _ _ _ _ := (ch44.n).seq ((ch49.n).seq (ch58.n))
 replace o38 := o38.chg C60 (is_nl rfl) (is_nl rfl)
 replace o50 := o50.chg ch58 (not_no _) (not_no _)
 replace o45 := o45.chg ch58 (not_no _) (not_no _)
 refine l_op rfl ?_
 refine o_call (v := Value.tuple (List.toArray [Value.int .i64 ((genusR threeS ([[0, 2, 4], [1, 3, 5]])).1), Value.int .i64 ((genusR threeS ([[0, 2, 4], [1, 3, 5]])).2)])) (e_call (vals := [Value.agg (List.toArray [Value.int .i64 threeS.1, v37]), v57]) Try.func49 bd49_v nm49_v rfl) (Genus_ok w56 threeS v37 (o38.flat).ro ([[0, 2, 4], [1, 3, 5]]) v57 ((vc_sl o59 (VcR.consv hv52 (o45.flat).ro (VcR.consv hv54 (o50.flat).ro VcR.nil)))).ro) ?_
 intro w61 hb62
 replace hb62 := chg_below hb62 g55
 refine lv (Value.tuple (List.toArray [Value.int .i64 ((genusR threeS ([[0, 2, 4], [1, 3, 5]])).1), Value.int .i64 ((genusR threeS ([[0, 2, 4], [1, 3, 5]])).2)])) rfl (e_move rfl) ?_
 refine lv (Value.int .i64 ((genusR threeS ([[0, 2, 4], [1, 3, 5]])).1)) rfl (e_extract rfl rfl) ?_
 refine lv (Value.int .i64 ((genusR threeS ([[0, 2, 4], [1, 3, 5]])).2)) rfl (e_extract rfl rfl) ?_
 refine lv (Value.int .i64 ((genusR threeS ([[0, 2, 4], [1, 3, 5]])).1)) rfl (e_assign rfl) ?_
 refine lv (Value.int .i64 ((genusR threeS ([[0, 2, 4], [1, 3, 5]])).2)) rfl (e_assign rfl) ?_
 refine l_nil (run_seq ?_)
 clear o38 o45 o50 o59
 refine run_region rfl (l_op rfl ?_)
 refine o_callx (e_call (vals := []) Try.func48 bd48_v nm48_v rfl) (three_ok w61 ) ?_
 rintro ⟨d64, v66⟩ w63 ⟨fr65, o67⟩
 obtain ⟨g68, hg68⟩ : ∃ q, q = glue w61.heap.size g55 d64 (fun n => if n = 1 then 10 else 0) := ⟨_, rfl⟩
 have ch69 := chg_glue fr65.below g55 d64 (fun n => if n = 1 then 10 else 0)
 rw [← hg68] at ch69
 replace o67 := o67.glue (γ := g55) (ren := (fun n => if n = 1 then 10 else 0)) (k := 10) fr65.col rfl rfl
 rw [← hg68] at o67
 clear hg68
 refine lv (v17) rfl (e_move rfl) ?_
 have C70 : Chg (inl []) _ _ _ _ := (ch33.n).seq ((ch40.n).seq ((ch44.n).seq ((ch49.n).seq ((ch58.n).seq ((hb62.n).seq (ch69.n))))))
 replace o10 := o10.chg C70 (is_nl rfl) (is_nl rfl)
 replace o5 := o5.chg C70 (is_nl rfl) (is_nl rfl)
 replace o19 := o19.chg C70 (is_nl rfl) (is_nl rfl)
 refine l_op rfl ?_
 refine o_callx (e_call (vals := [Value.agg (List.toArray [Value.int .i64 threeS.1, v66]), v17]) Try.func50 bd50_v nm50_v rfl) (RMirror_ok w63 threeS v66 (o67.flat).ro ([[0, 2, 4], [1, 5, 3]]) v17 ((vc_sl o19 (VcR.consv hv12 (o5.flat).ro (VcR.consv hv14 (o10.flat).ro VcR.nil)))).ro) ?_
 rintro ⟨d72, v74⟩ w71 ⟨fr73, o75⟩
 obtain ⟨g76, hg76⟩ : ∃ q, q = glue w63.heap.size g68 d72 (fun n => if n = 1 then 11 else 0) := ⟨_, rfl⟩
 have ch77 := chg_glue fr73.below g68 d72 (fun n => if n = 1 then 11 else 0)
 rw [← hg76] at ch77
 replace o75 := o75.glue (γ := g68) (ren := (fun n => if n = 1 then 11 else 0)) (k := 11) fr73.col rfl rfl
 rw [← hg76] at o75
 clear hg76
 refine lv (Value.tuple (List.toArray [v74, Value.int .i64 ((mirrorR threeS ([[0, 2, 4], [1, 5, 3]])).2)])) rfl (e_move rfl) ?_
 refine lv (v74) rfl (e_extract rfl rfl) ?_
 refine lv (Value.int .i64 ((mirrorR threeS ([[0, 2, 4], [1, 5, 3]])).2)) rfl (e_extract rfl rfl) ?_
 refine lv (v74) rfl (e_assign rfl) ?_
 refine lv (Value.int .i64 ((mirrorR threeS ([[0, 2, 4], [1, 5, 3]])).2)) rfl (e_assign rfl) ?_
 refine l_nil (run_seq ?_)
 clear o67
 refine run_region rfl (l_op rfl ?_)
 refine o_callx (e_call (vals := []) Try.func48 bd48_v nm48_v rfl) (three_ok w71 ) ?_
 rintro ⟨d79, v81⟩ w78 ⟨fr80, o82⟩
 obtain ⟨g83, hg83⟩ : ∃ q, q = glue w71.heap.size g76 d79 (fun n => if n = 1 then 12 else 0) := ⟨_, rfl⟩
 have ch84 := chg_glue fr80.below g76 d79 (fun n => if n = 1 then 12 else 0)
 rw [← hg83] at ch84
 replace o82 := o82.glue (γ := g76) (ren := (fun n => if n = 1 then 12 else 0)) (k := 12) fr80.col rfl rfl
 rw [← hg83] at o82
 clear hg83
 refine lv (v17) rfl (e_move rfl) ?_
 replace o10 := (o10.chg ch77 (not_no _) (not_no _)).chg ch84 (not_no _) (not_no _)
 replace o5 := (o5.chg ch77 (not_no _) (not_no _)).chg ch84 (not_no _) (not_no _)
 replace o19 := (o19.chg ch77 (not_no _) (not_no _)).chg ch84 (not_no _) (not_no _)
 refine l_op rfl ?_
 refine o_call (v := Value.int .i64 (rmayR threeS ([[0, 2, 4], [1, 5, 3]]))) (e_call (vals := [Value.agg (List.toArray [Value.int .i64 threeS.1, v81]), v17]) Try.func15 bd15_v nm15_v rfl) (RMay_ok w78 threeS v81 (o82.flat).ro ([[0, 2, 4], [1, 5, 3]]) v17 ((vc_sl o19 (VcR.consv hv12 (o5.flat).ro (VcR.consv hv14 (o10.flat).ro VcR.nil)))).ro) ?_
 intro w85 hb86
 replace hb86 := chg_below hb86 g83
 refine lv (Value.bool (decide ((rmayR threeS ([[0, 2, 4], [1, 5, 3]])) = 0))) rfl (e_eql (m := rmayR threeS ([[0, 2, 4], [1, 5, 3]])) (n := 0) rfl rfl) ?_
 refine lv (Value.bool (decide ((rmayR threeS ([[0, 2, 4], [1, 5, 3]])) = 0))) rfl (e_move rfl) ?_
 have q35 : (rmayR threeS ([[0, 2, 4], [1, 5, 3]])) = 0 := by first | rfl | decide +kernel
 refine lv (v30) (want_y rfl rfl rfl (decide_eq_true q35)) (e_move rfl) ?_
 have C87 : Chg (inl []) _ _ _ _ := (ch40.n).seq ((ch44.n).seq ((ch49.n).seq ((ch58.n).seq ((hb62.n).seq ((ch69.n).seq ((ch77.n).seq ((ch84.n).seq (hb86.n))))))))
 replace o31 := o31.chg C87 (is_nl rfl)
 have len88 := (o31.sl).small
 refine lv (Value.int .i64 (List.length ((facesR threeS ([[0, 2, 4], [1, 5, 3]])).1) : Int)) (want_y rfl rfl rfl (decide_eq_true q35)) (e_len Try.underlying25 rfl o31.sl) ?_
 refine lv (Value.bool (decide ((List.length ((facesR threeS ([[0, 2, 4], [1, 5, 3]])).1) : Int) = 3))) (want_y rfl rfl rfl (decide_eq_true q35)) (e_eql (m := (List.length ((facesR threeS ([[0, 2, 4], [1, 5, 3]])).1) : Int)) (n := 3) rfl rfl) ?_
 refine lv (Value.bool (decide ((List.length ((facesR threeS ([[0, 2, 4], [1, 5, 3]])).1) : Int) = 3))) rfl (e_pick_t rfl (decide_eq_true q35) rfl) ?_
 refine lv (Value.bool (decide ((List.length ((facesR threeS ([[0, 2, 4], [1, 5, 3]])).1) : Int) = 3))) rfl (e_move rfl) ?_
 have q40 : (List.length ((facesR threeS ([[0, 2, 4], [1, 5, 3]])).1) : Int) = 3 := by first | rfl | decide +kernel
 refine lv (Value.int .i64 ((facesR threeS ([[0, 2, 4], [1, 5, 3]])).2)) (want_y rfl rfl rfl (decide_eq_true q40)) (e_move rfl) ?_
 refine lv (Value.bool (decide (((facesR threeS ([[0, 2, 4], [1, 5, 3]])).2) = 0))) (want_y rfl rfl rfl (decide_eq_true q40)) (e_eql (m := (facesR threeS ([[0, 2, 4], [1, 5, 3]])).2) (n := 0) rfl rfl) ?_
 refine lv (Value.bool (decide (((facesR threeS ([[0, 2, 4], [1, 5, 3]])).2) = 0))) rfl (e_pick_t rfl (decide_eq_true q40) rfl) ?_
 refine lv (Value.bool (decide (((facesR threeS ([[0, 2, 4], [1, 5, 3]])).2) = 0))) rfl (e_move rfl) ?_
 have q44 : ((facesR threeS ([[0, 2, 4], [1, 5, 3]])).2) = 0 := by first | rfl | decide +kernel
 refine lv (Value.int .i64 ((genusR threeS ([[0, 2, 4], [1, 3, 5]])).1)) (want_y rfl rfl rfl (decide_eq_true q44)) (e_move rfl) ?_
 refine lv (Value.bool (decide (((genusR threeS ([[0, 2, 4], [1, 3, 5]])).1) = 1))) (want_y rfl rfl rfl (decide_eq_true q44)) (e_eql (m := (genusR threeS ([[0, 2, 4], [1, 3, 5]])).1) (n := 1) rfl rfl) ?_
 refine lv (Value.bool (decide (((genusR threeS ([[0, 2, 4], [1, 3, 5]])).1) = 1))) rfl (e_pick_t rfl (decide_eq_true q44) rfl) ?_
 refine lv (Value.bool (decide (((genusR threeS ([[0, 2, 4], [1, 3, 5]])).1) = 1))) rfl (e_move rfl) ?_
 have q48 : ((genusR threeS ([[0, 2, 4], [1, 3, 5]])).1) = 1 := by first | rfl | decide +kernel
 refine lv (Value.int .i64 ((genusR threeS ([[0, 2, 4], [1, 3, 5]])).2)) (want_y rfl rfl rfl (decide_eq_true q48)) (e_move rfl) ?_
 refine lv (Value.bool (decide (((genusR threeS ([[0, 2, 4], [1, 3, 5]])).2) = 0))) (want_y rfl rfl rfl (decide_eq_true q48)) (e_eql (m := (genusR threeS ([[0, 2, 4], [1, 3, 5]])).2) (n := 0) rfl rfl) ?_
 refine lv (Value.bool (decide (((genusR threeS ([[0, 2, 4], [1, 3, 5]])).2) = 0))) rfl (e_pick_t rfl (decide_eq_true q48) rfl) ?_
 refine lv (Value.bool (decide (((genusR threeS ([[0, 2, 4], [1, 3, 5]])).2) = 0))) rfl (e_move rfl) ?_
 have q52 : ((genusR threeS ([[0, 2, 4], [1, 3, 5]])).2) = 0 := by first | rfl | decide +kernel
 refine lv (v74) (want_y rfl rfl rfl (decide_eq_true q52)) (e_move rfl) ?_
 replace o75 := (o75.chg ch84 (not_no _)).chg hb86 (not_no _)
 have len89 := (o75.sl).small
 refine lv (Value.int .i64 (List.length ((mirrorR threeS ([[0, 2, 4], [1, 5, 3]])).1) : Int)) (want_y rfl rfl rfl (decide_eq_true q52)) (e_len Try.underlying26 rfl o75.sl) ?_
 refine lv (Value.bool (decide ((List.length ((mirrorR threeS ([[0, 2, 4], [1, 5, 3]])).1) : Int) = 2))) (want_y rfl rfl rfl (decide_eq_true q52)) (e_eql (m := (List.length ((mirrorR threeS ([[0, 2, 4], [1, 5, 3]])).1) : Int)) (n := 2) rfl rfl) ?_
 refine lv (Value.bool (decide ((List.length ((mirrorR threeS ([[0, 2, 4], [1, 5, 3]])).1) : Int) = 2))) rfl (e_pick_t rfl (decide_eq_true q52) rfl) ?_
 refine lv (Value.bool (decide ((List.length ((mirrorR threeS ([[0, 2, 4], [1, 5, 3]])).1) : Int) = 2))) rfl (e_move rfl) ?_
 have q57 : (List.length ((mirrorR threeS ([[0, 2, 4], [1, 5, 3]])).1) : Int) = 2 := by first | rfl | decide +kernel
 refine lv (v74) (want_y rfl rfl rfl (decide_eq_true q57)) (e_move rfl) ?_
 refine lv (Value.pointer (some (eAddr v74 1 (Int.toNat 0)))) (want_y rfl rfl rfl (decide_eq_true q57)) (e_indexAddr (α := List Int) (xs := (mirrorR threeS ([[0, 2, 4], [1, 5, 3]])).1) (v := v74) (i := 0) Try.underlying26 rfl rfl o75.sl rfl (by omega) (by first | omega | (simp only [List.length_set, List.length_append, List.length_cons, List.length_nil, List.length_replicate, List.length_map, List.length_take, List.length_drop]; omega) | (simp; done) | (simp; omega))) ?_
 obtain ⟨v90, cel91, r92⟩ := nst_row (r := 0) o75 (by omega) (by first | omega | (simp only [List.length_set, List.length_append, List.length_cons, List.length_nil, List.length_replicate, List.length_map, List.length_take, List.length_drop]; omega) | (simp; done) | (simp; omega))
 refine lv (v90) (want_y rfl rfl rfl (decide_eq_true q57)) (e_load1 tp27_v rfl cel91) ?_
 have len93 := (r92.row_sl).small
 refine lv (Value.int .i64 (List.length (gI ((mirrorR threeS ([[0, 2, 4], [1, 5, 3]])).1) 0) : Int)) (want_y rfl rfl rfl (decide_eq_true q57)) (e_len Try.underlying27 rfl r92.row_sl) ?_
 refine lv (Value.bool (decide ((List.length (gI ((mirrorR threeS ([[0, 2, 4], [1, 5, 3]])).1) 0) : Int) = 3))) (want_y rfl rfl rfl (decide_eq_true q57)) (e_eql (m := (List.length (gI ((mirrorR threeS ([[0, 2, 4], [1, 5, 3]])).1) 0) : Int)) (n := 3) rfl rfl) ?_
 refine lv (Value.bool (decide ((List.length (gI ((mirrorR threeS ([[0, 2, 4], [1, 5, 3]])).1) 0) : Int) = 3))) rfl (e_pick_t rfl (decide_eq_true q57) rfl) ?_
 refine lv (Value.bool (decide ((List.length (gI ((mirrorR threeS ([[0, 2, 4], [1, 5, 3]])).1) 0) : Int) = 3))) rfl (e_move rfl) ?_
 have q64 : (List.length (gI ((mirrorR threeS ([[0, 2, 4], [1, 5, 3]])).1) 0) : Int) = 3 := by first | rfl | decide +kernel
 refine lv (v74) (want_y rfl rfl rfl (decide_eq_true q64)) (e_move rfl) ?_
 refine lv (Value.pointer (some (eAddr v74 1 (Int.toNat 0)))) (want_y rfl rfl rfl (decide_eq_true q64)) (e_indexAddr (α := List Int) (xs := (mirrorR threeS ([[0, 2, 4], [1, 5, 3]])).1) (v := v74) (i := 0) Try.underlying26 rfl rfl o75.sl rfl (by omega) (by first | omega | (simp only [List.length_set, List.length_append, List.length_cons, List.length_nil, List.length_replicate, List.length_map, List.length_take, List.length_drop]; omega) | (simp; done) | (simp; omega))) ?_
 obtain ⟨v94, cel95, r96⟩ := nst_row (r := 0) o75 (by omega) (by first | omega | (simp only [List.length_set, List.length_append, List.length_cons, List.length_nil, List.length_replicate, List.length_map, List.length_take, List.length_drop]; omega) | (simp; done) | (simp; omega))
 refine lv (v94) (want_y rfl rfl rfl (decide_eq_true q64)) (e_load1 tp27_v rfl cel95) ?_
 refine lv (Value.pointer (some (eAddr v94 1 (Int.toNat 1)))) (want_y rfl rfl rfl (decide_eq_true q64)) (e_indexAddr (α := Int) (xs := gI ((mirrorR threeS ([[0, 2, 4], [1, 5, 3]])).1) 0) (v := v94) (i := 1) Try.underlying27 rfl rfl r96.row_sl rfl (by omega) (by first | omega | (simp only [List.length_set, List.length_append, List.length_cons, List.length_nil, List.length_replicate, List.length_map, List.length_take, List.length_drop]; omega) | (simp; done) | (simp; omega))) ?_
 refine lv (Value.int .i64 (gI (gI ((mirrorR threeS ([[0, 2, 4], [1, 5, 3]])).1) 0) 1)) (want_y rfl rfl rfl (decide_eq_true q64)) (e_load_el1 (α := Int) (xs := gI ((mirrorR threeS ([[0, 2, 4], [1, 5, 3]])).1) 0) (v := v94) (i := 1) tp3_v rfl r96.row_sl (by omega) (by first | omega | (simp only [List.length_set, List.length_append, List.length_cons, List.length_nil, List.length_replicate, List.length_map, List.length_take, List.length_drop]; omega) | (simp; done) | (simp; omega)) (by decide) rfl) ?_
 refine lv (Value.bool (decide ((gI (gI ((mirrorR threeS ([[0, 2, 4], [1, 5, 3]])).1) 0) 1) = 4))) (want_y rfl rfl rfl (decide_eq_true q64)) (e_eql (m := (gI (gI ((mirrorR threeS ([[0, 2, 4], [1, 5, 3]])).1) 0) 1)) (n := 4) rfl rfl) ?_
 refine lv (Value.bool (decide ((gI (gI ((mirrorR threeS ([[0, 2, 4], [1, 5, 3]])).1) 0) 1) = 4))) rfl (e_pick_t rfl (decide_eq_true q64) rfl) ?_
 refine lv (Value.bool (decide ((gI (gI ((mirrorR threeS ([[0, 2, 4], [1, 5, 3]])).1) 0) 1) = 4))) rfl (e_move rfl) ?_
 have q72 : (gI (gI ((mirrorR threeS ([[0, 2, 4], [1, 5, 3]])).1) 0) 1) = 4 := by first | rfl | decide +kernel
 refine lv (Value.int .i64 ((mirrorR threeS ([[0, 2, 4], [1, 5, 3]])).2)) (want_y rfl rfl rfl (decide_eq_true q72)) (e_move rfl) ?_
 refine lv (Value.bool (decide (((mirrorR threeS ([[0, 2, 4], [1, 5, 3]])).2) = 0))) (want_y rfl rfl rfl (decide_eq_true q72)) (e_eql (m := (mirrorR threeS ([[0, 2, 4], [1, 5, 3]])).2) (n := 0) rfl rfl) ?_
 refine lv (Value.bool (decide (((mirrorR threeS ([[0, 2, 4], [1, 5, 3]])).2) = 0))) rfl (e_pick_t rfl (decide_eq_true q72) rfl) ?_
 refine lv (Value.bool (decide (((mirrorR threeS ([[0, 2, 4], [1, 5, 3]])).2) = 0))) rfl (e_assign rfl) ?_
 refine l_nil ?_
 refine run_ret (vs := [Value.bool (decide (((mirrorR threeS ([[0, 2, 4], [1, 5, 3]])).2) = 0))]) Try.func10 (.tmp rfl .nil) ?_
 have e0 : (decide (((mirrorR threeS ([[0, 2, 4], [1, 5, 3]])).2) = 0) : Bool) = (true) := by
   rfl
 have C97 : Chg (inl []) _ _ _ _ := (ch4.n).seq ((ch9.n).seq ((ch18.n).seq ((ch26.n).seq ((ch33.n).seq ((ch40.n).seq ((ch44.n).seq ((ch49.n).seq ((ch58.n).seq ((hb62.n).seq ((ch69.n).seq ((ch77.n).seq ((ch84.n).seq (hb86.n)))))))))))))
 replace hbase := hbase.chg C97 (is_nl rfl)
 exact ⟨(congrArg (a₁ := decide (((mirrorR threeS ([[0, 2, 4], [1, 5, 3]])).2) = 0)) (fun (z0 : Bool) => Ending.returned (Value.bool z0)) e0), hbase.below⟩
end TL
