import Derived.Test.YtilohhkbelkmdaaTlGenX
import Derived.Test.YtilohhkbelkmdaaTlP2
import Derived.Test.YtilohhkbelkmdaaProg
set_option linter.all false
set_option maxRecDepth 20000
namespace TL
open Go Go.Proofs
theorem mixed_z : Try.prog.follows .mixedOrders = true := by kernel_rfl
theorem tp3_z : Tp Try.prog 3 false 1 8 (.int .i64 0) := Tp.of (by kernel_rfl)
theorem tp22_z : Tp Try.prog 22 false 1 24 (.slice none 0 0) := Tp.of (by kernel_rfl)
theorem tp24_z : Tp Try.prog 24 true 2 32 (.agg #[.int .i64 0, .slice none 0 0]) := Tp.of (by kernel_rfl)
theorem tp25_z : Tp Try.prog 25 false 1 24 (.slice none 0 0) := Tp.of (by kernel_rfl)
theorem tp27_z : Tp Try.prog 27 false 1 24 (.slice none 0 0) := Tp.of (by kernel_rfl)
theorem tp60_z : Tp Try.prog 60 true 2 16 (.agg #[.int .i64 0, .int .i64 0]) := Tp.of (by kernel_rfl)
theorem tp109_z : Tp Try.prog 109 true 4 96 (.agg #[.slice none 0 0, .slice none 0 0, .slice none 0 0, .slice none 0 0]) := Tp.of (by kernel_rfl)
theorem bd53_z : Try.f53.body.isNone = false := rfl
theorem nm53_z : (Try.f53.name == "runtime.NumGoroutine") = false := by decide +kernel
theorem bd97_z : Try.f97.body.isNone = false := rfl
theorem nm97_z : (Try.f97.name == "runtime.NumGoroutine") = false := by decide +kernel
theorem bd98_z : Try.f98.body.isNone = false := rfl
theorem nm98_z : (Try.f98.name == "runtime.NumGoroutine") = false := by decide +kernel
theorem bd99_z : Try.f99.body.isNone = false := rfl
theorem nm99_z : (Try.f99.name == "runtime.NumGoroutine") = false := by decide +kernel
theorem bd107_z : Try.f107.body.isNone = false := rfl
theorem nm107_z : (Try.f107.name == "runtime.NumGoroutine") = false := by decide +kernel
theorem bd108_z : Try.f108.body.isNone = false := rfl
theorem nm108_z : (Try.f108.name == "runtime.NumGoroutine") = false := by decide +kernel
theorem bd109_z : Try.f109.body.isNone = false := rfl
theorem nm109_z : (Try.f109.name == "runtime.NumGoroutine") = false := by decide +kernel
theorem filled_ok (w0 : World) (n : Int) (x : Int) (hn : 0 ≤ n ∧ n ≤ 1000000) :
    Calls Try.prog 98 #[Value.int .i64 n, Value.int .i64 x] w0 (fun ee w => ∃ xx : Cmap × Value, ee = .returned ((fun ⟨δ, rv0⟩ => rv0) xx) ∧ (fun (⟨δ, rv0⟩ : Cmap × Value) (w : World) => Fresh w0 δ w ∧ Ow δ (is 1) (is 1) w rv0 (List.replicate n.toNat x)) xx w) := by
 refine calls_of_run Try.func98 rfl (Nat.le_of_ble_eq_true rfl) ?_
 have hbase := Base.start w0
 obtain ⟨hn1, hn2⟩ := hn
 have hrep : ((List.replicate n.toNat (0 : Int)).length : Int) = n := by simp; omega
 refine run_seq (run_region rfl ?_)
 refine lv (Value.slice none 0 0) rfl (e_assign rfl) ?_
 refine l_nil (run_seq (run_region rfl ?_))
 refine lv (Value.int .i64 n) rfl (e_move rfl) ?_
 refine l_op rfl ?_
 refine o_make (α := Int) (l := n) (cp := n) c0 (is 1) (is 1) (1, 0) rfl (0 : Int) Try.underlying27 tp3_z rfl rfl rfl (by omega) (by omega) (by omega) (by omega) ?_
 intro g1 w2 v3 ch4 o5 _
 refine lv (v3) rfl (e_assign rfl) ?_
 refine l_nil (run_seq (run_seq (run_region rfl ?_)))
 refine lv (v3) rfl (e_move rfl) ?_
 have len6 := (o5.flat).small
 refine lv (Value.int .i64 (List.length (List.replicate (Int.toNat n) (0 : Int)) : Int)) rfl (e_len Try.underlying27 rfl o5.flat) ?_
 refine lv (Value.int .i64 0) rfl (e_move rfl) ?_
 refine l_nil ?_
 refine run_block ?_
 refine run_loop (σ := Nat × (List Int) × Cmap) (fun ⟨k, l, gq⟩ f w => Base w0 gq w ∧ f 1 = Value.int .i64 x ∧ f 5 = v3 ∧ f 10 = Value.int .i64 (List.length (List.replicate (Int.toNat n) (0 : Int)) : Int) ∧ f 11 = Value.int .i64 (k : Int) ∧ Ow gq (is 1) (is 1) w v3 l ∧ (k : Int) ≤ ((List.length (List.replicate (Int.toNat n) (0 : Int)) : Int) : Int) ∧ (l = List.replicate k x ++ List.replicate (n.toNat - k) 0 ∧ (k : Int) ≤ n)) (fun ⟨k, l, gq⟩ => Int.toNat (((List.length (List.replicate (Int.toNat n) (0 : Int)) : Int) : Int) - (k : Int))) (0, (List.replicate (Int.toNat n) (0 : Int)), g1) ?_ ?_
 replace hbase := hbase.chg ch4 (not_no _)
 · exact ⟨hbase, rfl, rfl, rfl, rfl, o5, by omega, by exact ⟨by simp, by omega⟩⟩
 clear o5 hbase
 rintro ⟨k, l, g9⟩ f7 w8 ⟨hbase, zs1, zs5, zs10, zs11, o5, hle_k, hinv⟩ back3
 have hll : l.length = n.toNat := by rw [hinv.1]; simp; omega
 refine run_seq (run_region rfl ?_)
 refine lv (Value.bool (decide ((k : Int) < (List.length (List.replicate (Int.toNat n) (0 : Int)) : Int)))) rfl (e_lss (m := (k : Int)) (n := (List.length (List.replicate (Int.toNat n) (0 : Int)) : Int)) (by exact zs11) (by exact zs10)) ?_
 refine l_nil (run_seq ?_)
 by_cases p3 : (k : Int) < (List.length (List.replicate (Int.toNat n) (0 : Int)) : Int)
 ·
  refine run_cond_t rfl (decide_eq_true p3) ?_
  refine run_skip ?_
  refine run_seq ?_
  refine run_block ?_
  refine run_seq (run_region rfl ?_)
  refine lv (Value.int .i64 (k : Int)) rfl (e_move (by exact zs11)) ?_
  refine lv (Value.int .i64 (k : Int)) rfl (e_assign rfl) ?_
  refine l_nil (run_region rfl ?_)
  refine lv (v3) rfl (e_move (by exact zs5)) ?_
  refine lv (Value.int .i64 (k : Int)) rfl (e_move rfl) ?_
  refine lv (Value.int .i64 x) rfl (e_move (by exact zs1)) ?_
  refine lv (Value.pointer (some (eAddr v3 1 (Int.toNat (k : Int))))) rfl (e_indexAddr (α := Int) (xs := l) (v := v3) (i := (k : Int)) Try.underlying27 rfl rfl o5.flat rfl (by omega) (by omega)) ?_
  refine l_op rfl ?_
  refine o_store_el (i := (k : Int)) x tp3_z rfl rfl o5 (by omega) (by omega) rfl ?_
  intro w10 ch11 bx12
  clear o5
  refine l_nil ?_
  refine run_inBlock ?_
  refine run_region rfl ?_
  refine lv (Value.int .i64 ((k : Int) + 1)) rfl (e_add (m := (k : Int)) (n := 1) (by exact zs11) rfl (by omega)) ?_
  refine lv (Value.int .i64 ((k : Int) + 1)) rfl (e_move rfl) ?_
  refine l_nil ?_
  replace hbase := hbase.chg ch11 (is_ne rfl)
  refine back3 (k + 1, (List.set l (Int.toNat (k : Int)) x), g9) _ _ ⟨hbase, (by exact zs1), (by exact zs5), (by exact zs10), rfl, bx12, by omega, ?_⟩ ?_
  · show (List.set l (Int.toNat (k : Int)) x) = List.replicate (k + 1) x ++ List.replicate (n.toNat - (k + 1)) 0 ∧ ((k + 1) : Int) ≤ n
    have hk1 : k < n.toNat := by simp at *; omega
    refine ⟨by rw [hinv.1]; exact fill_next hk1, by omega⟩
  · show Int.toNat (((List.length (List.replicate (Int.toNat n) (0 : Int)) : Int) : Int) - ((k + 1) : Int)) < Int.toNat (((List.length (List.replicate (Int.toNat n) (0 : Int)) : Int) : Int) - (k : Int))
    omega
 refine run_cond_f rfl (decide_eq_false p3) ?_
 refine run_exit rfl ?_
 refine run_seq (run_region rfl ?_)
 refine lv (v3) rfl (e_move (by exact zs5)) ?_
 refine lv (v3) rfl (e_assign rfl) ?_
 refine l_nil ?_
 refine run_ret (vs := [v3]) Try.func98 (.tmp rfl .nil) ?_
 have e0 : (l : List Int) = (List.replicate n.toNat x) := by
   obtain ⟨h1, h2⟩ := hinv
   have hk : k = n.toNat := by simp at *; omega
   subst hk; rw [h1]; simp
 exact ⟨(fin w0 g9 (fun n => if n = 1 then 1 else 0), v3), (congrArg (a₁ := l) (fun (z0 : List Int) => Ending.returned (v3)) e0), hbase.fresh _, (e0 ▸ (o5.glue (γ := c0) (ren := (fun n => if n = 1 then 1 else 0)) (k := 1) hbase.col rfl rfl))⟩
set_option maxHeartbeats 1000000 in
theorem Parts_ok (w0 : World) (g : (Int) × (List ((Int) × (Int)))) (g_v : Value) (hg_v : Ro w0 g_v g.2) :
    Calls Try.prog 74 #[Value.agg (List.toArray [Value.int .i64 g.1, g_v])] w0 (fun ee w => ∃ xx : Cmap × Value, ee = .returned ((fun ⟨δ, rv0⟩ => Value.tuple (List.toArray [rv0, Value.int .i64 ((partsR g).2.1), Value.int .i64 ((partsR g).2.2)])) xx) ∧ (fun (⟨δ, rv0⟩ : Cmap × Value) (w : World) => Fresh w0 δ w ∧ Ow δ (is 1) (is 1) w rv0 ((partsR g).1)) xx w) := by
 refine calls_of_run Try.func74 rfl (Nat.le_of_ble_eq_true rfl) ?_
 have hbase := Base.start w0
 have r_g_v := hg_v.sl
 refine run_seq (run_region rfl (l_op rfl ?_))
 refine o_box c0 (is 1) (1, 0) rfl rfl ?_
 intro g4 w1 b3 ch2 bx5
 replace bx5 : Bx g4 (is 1) w1 b3 [Value.int .i64 g.1, g_v] := bx5
 refine lv (Value.slice none 0 0) rfl (e_assign rfl) ?_
 refine lv (Value.int .i64 0) rfl (e_assign rfl) ?_
 refine lv (Value.int .i64 0) rfl (e_assign rfl) ?_
 refine l_nil (run_seq (run_seq (run_region rfl ?_)))
 refine lv (Value.agg (List.toArray [Value.int .i64 g.1, g_v])) rfl (e_load_bxN (ds := [Value.int .i64 g.1, g_v]) tp24_z rfl bx5 rfl rfl) ?_
 replace r_g_v := r_g_v.chg ch2 (not_no _)
 refine l_op rfl ?_
 refine o_call (v := Value.bool (mayB g)) (e_call (vals := [Value.agg (List.toArray [Value.int .i64 g.1, g_v])]) Try.func53 bd53_z nm53_z rfl) (May_ok w1 g g_v (r_g_v).ro) ?_
 intro w6 hb7
 replace hb7 := chg_below hb7 g4
 refine lv (Value.bool (!(mayB g))) rfl (e_not (b := (mayB g)) rfl) ?_
 refine l_nil ?_
 by_cases p1 : (mayB g) = true
 ·
  have hm := of_decide_eq_true p1
  have hm0 := hm
  obtain ⟨hm1, hm2, hm3, hm4⟩ := hm0
  refine run_cond_f rfl (congrArg Bool.not p1) ?_
  refine run_skip ?_
  refine run_seq (run_region rfl ?_)
  replace bx5 := bx5.chg hb7 (not_no _)
  refine lv (Value.agg (List.toArray [Value.int .i64 g.1, g_v])) rfl (e_load_bxN (ds := [Value.int .i64 g.1, g_v]) tp24_z rfl bx5 rfl rfl) ?_
  refine l_op rfl ?_
  refine o_inline (e_call (vals := [Value.agg (List.toArray [Value.int .i64 g.1, g_v])]) Try.func97 bd97_z nm97_z rfl) ?_
  refine calls_of_run Try.func97 rfl (Nat.le_of_ble_eq_true rfl) ?_
  replace r_g_v := r_g_v.chg hb7 (not_no _)
  refine run_seq (run_region rfl (l_op rfl ?_))
  refine o_box g4 (is 2) (2, 0) rfl rfl ?_
  intro g11 w8 b10 ch9 bx12
  replace bx12 : Bx g11 (is 2) w8 b10 [Value.int .i64 g.1, g_v] := bx12
  refine lv ((Value.pointer none)) rfl (e_assign rfl) ?_
  refine l_nil (run_seq ?_)
  refine run_region_x g11 [0, 1, 2, 4, 6] mixed_z ?_
  intro w14 ch13
  replace bx12 := bx12.chg ch13 (not_no _)
  refine x_held (v := Value.agg (List.toArray [Value.int .i64 g.1, g_v])) 0 [1, 2, 3] rfl (by kernel_rfl) (by kernel_rfl) rfl (fun w' hw' => e_load_bxN (ds := [Value.int .i64 g.1, g_v]) tp24_z rfl (bx12.bel hw') rfl rfl) ?_
  refine x_pure (v := Value.pointer (some ⟨b10, 0, none⟩)) 1 rfl (by kernel_rfl) (by kernel_rfl) rfl (fun w => e_fieldAddr Try.underlying24 rfl rfl rfl rfl) ?_
  refine x_val (v := Value.int .i64 g.1) 2 [1, 0] rfl (by kernel_rfl) (by kernel_rfl) rfl (e_load_bx1 tp3_z rfl bx12 rfl) ?_
  refine x_one 3 rfl (by kernel_rfl) rfl ?_
  refine o_make_nst (α := Int) (n := g.1) (cp := g.1) g11 3 Try.underlying25 tp27_z rfl rfl rfl (by omega) (by omega) (by omega) (by omega) ?_
  intro g15 w16 v17 ch18 o19
  have C20 : Chg (inl []) _ _ _ _ := (ch9.n).seq ((ch13.n).seq (ch18.n))
  replace r_g_v := r_g_v.chg C20 (is_nl rfl)
  refine x_pure (v := Value.agg (List.toArray [Value.int .i64 g.1, g_v, v17])) 4 rfl (by kernel_rfl) (by kernel_rfl) rfl (fun w => e_build (vs := [(0, Value.agg (List.toArray [Value.int .i64 g.1, g_v])), (1, v17)]) rfl (by rw [Sl.form r_g_v, Sl.form o19.sl]; kernel_rfl)) ?_
  refine x_one 5 rfl (by kernel_rfl) rfl ?_
  refine o_box g15 (is 4) (4, 0) rfl rfl ?_
  intro g24 w21 b23 ch22 bx25
  replace bx25 : Bx g24 (is 4) w21 b23 [Value.int .i64 g.1, g_v, v17] := bx25
  refine x_pure (v := Value.pointer (some ⟨b23, 0, none⟩)) 6 rfl (by kernel_rfl) (by kernel_rfl) rfl (fun w => e_assign rfl) ?_
  refine x_nil (by kernel_rfl) ?_
  refine run_seq (run_seq (run_region rfl ?_))
  refine lv (Value.pointer (some ⟨b10, 1, none⟩)) rfl (e_fieldAddr Try.underlying24 rfl rfl rfl rfl) ?_
  replace bx12 := (bx12.chg ch18 (not_no _)).chg ch22 (not_no _)
  refine lv (g_v) rfl (e_load_bx1 tp22_z rfl bx12 rfl) ?_
  replace r_g_v := r_g_v.chg ch22 (not_no _)
  have len26 := (r_g_v).small
  refine lv (Value.int .i64 (List.length g.2 : Int)) rfl (e_len Try.underlying22 rfl r_g_v) ?_
  refine lv (Value.int .i64 0) rfl (e_move rfl) ?_
  refine l_nil ?_
  refine run_block ?_
  clear bx12
  refine run_loop (σ := Nat × (List (List Int)) × Cmap) (fun ⟨e_c1, O_c1, gq⟩ f w => Base w0 gq w ∧ f 3 = Value.pointer (some ⟨b23, 0, none⟩) ∧ f 15 = g_v ∧ f 16 = Value.int .i64 (List.length g.2 : Int) ∧ f 17 = Value.int .i64 (e_c1 : Int) ∧ Sl gq (is 0) w g_v g.2 ∧ Bx gq (is 1) w b3 [Value.int .i64 g.1, g_v] ∧ Nst gq 3 w v17 O_c1 ∧ Bx gq (is 4) w b23 [Value.int .i64 g.1, g_v, v17] ∧ (e_c1 : Int) ≤ ((List.length g.2 : Int) : Int) ∧ (OutInv O_c1 g e_c1)) (fun ⟨e_c1, O_c1, gq⟩ => Int.toNat (((List.length g.2 : Int) : Int) - (e_c1 : Int))) (0, (List.replicate (Int.toNat g.1) []), g24) ?_ ?_
  have C27 : Chg (inl []) _ _ _ _ := (ch2.n).seq ((hb7.n).seq ((ch9.n).seq ((ch13.n).seq ((ch18.n).seq (ch22.n)))))
  replace hbase := hbase.chg C27 (is_nl rfl)
  have C28 : Chg (inl []) _ _ _ _ := (ch9.n).seq ((ch13.n).seq ((ch18.n).seq (ch22.n)))
  replace bx5 := bx5.chg C28 (is_nl rfl)
  replace o19 := o19.chg ch22 (not_no _)
  · exact ⟨hbase, rfl, rfl, rfl, rfl, r_g_v, bx5, o19, bx25, by omega, by exact OutInv.start hm1⟩
  clear r_g_v bx5 o19 bx25 hbase
  rintro ⟨e_c1, O_c1, g31⟩ f29 w30 ⟨hbase, zs3_c1, zs15_c1, zs16_c1, zs17_c1, r_g_v, bx5, o19, bx25, hle_e_c1, hov_c1⟩ back3_c1
  have hol_c1 := hov_c1.len
  refine run_seq (run_region rfl ?_)
  refine lv (Value.bool (decide ((e_c1 : Int) < (List.length g.2 : Int)))) rfl (e_lss (m := (e_c1 : Int)) (n := (List.length g.2 : Int)) (by exact zs17_c1) (by exact zs16_c1)) ?_
  refine l_nil (run_seq ?_)
  by_cases p3_c1 : (e_c1 : Int) < (List.length g.2 : Int)
  ·
   refine run_cond_t rfl (decide_eq_true p3_c1) ?_
   obtain ⟨⟨he1, he2⟩, he3, he4⟩ := hm4 _ (gI_mem (xs := g.2) (i := (e_c1 : Int)) (by omega) (by omega))
   have hq1 := hov_c1.rl he1 he2
   have hq2 := hov_c1.rl2 he1 he2 he3 he4 (2 * (e_c1 : Int))
   refine run_skip ?_
   refine run_seq ?_
   refine run_block ?_
   refine run_seq (run_region rfl ?_)
   refine lv (Value.int .i64 (e_c1 : Int)) rfl (e_move (by exact zs17_c1)) ?_
   refine lv (Value.pointer (some (eAddr g_v 2 (Int.toNat (e_c1 : Int))))) rfl (e_indexAddr (α := (Int) × (Int)) (xs := g.2) (v := g_v) (i := (e_c1 : Int)) Try.underlying22 rfl (by exact zs15_c1) r_g_v (by exact zs17_c1) (by omega) (by omega)) ?_
   refine lv (Value.agg (List.toArray [Value.int .i64 ((gI g.2 (e_c1 : Int)).1), Value.int .i64 ((gI g.2 (e_c1 : Int)).2)])) rfl (e_load_elN (α := (Int) × (Int)) (xs := g.2) (v := g_v) (i := (e_c1 : Int)) tp60_z rfl r_g_v (by omega) (by omega) rfl) ?_
   refine l_op rfl ?_
   refine o_alloc g31 (is 5) (5, 0) rfl tp60_z ?_
   intro g35 w32 b34 ch33 bx36
   replace bx36 : Bx g35 (is 5) w32 b34 [Value.int .i64 0, Value.int .i64 0] := bx36
   refine lv (Value.int .i64 (e_c1 : Int)) rfl (e_assign rfl) ?_
   refine l_op rfl ?_
   refine o_store_bx (cs' := [Value.int .i64 ((gI g.2 (e_c1 : Int)).1), Value.int .i64 ((gI g.2 (e_c1 : Int)).2)]) tp60_z rfl rfl bx36 rfl (Nat.le_of_ble_eq_true rfl) (AllOne.all (.cons rfl (.cons rfl .nil))) rfl ?_
   intro w37 ch38 bx39
   clear bx36
   refine l_nil (run_seq (run_region rfl ?_))
   refine lv (Value.agg (List.toArray [Value.int .i64 ((gI g.2 (e_c1 : Int)).1), Value.int .i64 ((gI g.2 (e_c1 : Int)).2)])) rfl (e_load_bxN (ds := [Value.int .i64 ((gI g.2 (e_c1 : Int)).1), Value.int .i64 ((gI g.2 (e_c1 : Int)).2)]) tp60_z rfl bx39 rfl rfl) ?_
   refine lv (Value.int .i64 0) rfl (e_move rfl) ?_
   refine l_nil ?_
   refine run_block ?_
   refine run_loop0 ?_
   refine run_seq ?_
   clear bx39
   refine run_region rfl ?_
   refine lv (Value.bool true) rfl (e_lss (m := 0) (n := 2) rfl rfl) ?_
   refine l_nil (run_seq ?_)
   refine run_cond_t rfl rfl ?_
   refine run_skip ?_
   refine run_seq ?_
   refine run_block ?_
   refine run_seq (run_region rfl ?_)
   refine lv (Value.int .i64 0) rfl (e_move rfl) ?_
   refine lv (Value.int .i64 ((gI g.2 (e_c1 : Int)).1)) rfl (e_index_arr Try.underlying60 tp3_z rfl rfl (by decide) (by decide) rfl) ?_
   refine lv (Value.int .i64 0) rfl (e_assign rfl) ?_
   refine lv (Value.int .i64 ((gI g.2 (e_c1 : Int)).1)) rfl (e_assign rfl) ?_
   refine l_nil ?_
   refine region_mid (σ := Cmap) (fun gq f w => Base w0 gq w ∧ f 3 = Value.pointer (some ⟨b23, 0, none⟩) ∧ f 4 = Value.int .i64 (e_c1 : Int) ∧ f 15 = g_v ∧ f 16 = Value.int .i64 (List.length g.2 : Int) ∧ f 17 = Value.int .i64 (e_c1 : Int) ∧ f 22 = Value.agg (List.toArray [Value.int .i64 ((gI g.2 (e_c1 : Int)).1), Value.int .i64 ((gI g.2 (e_c1 : Int)).2)]) ∧ f 23 = Value.int .i64 0 ∧ Sl gq (is 0) w g_v g.2 ∧ Bx gq (is 1) w b3 [Value.int .i64 g.1, g_v] ∧ Bx gq (is 4) w b23 [Value.int .i64 g.1, g_v, v17] ∧ Nst gq 3 w v17 (List.set O_c1 (Int.toNat ((gI g.2 (e_c1 : Int)).1)) (gI O_c1 ((gI g.2 (e_c1 : Int)).1) ++ [(2 * (e_c1 : Int)) + 0]))) g35 [0, 1, 2, 4, 5, 6, 7, 8, 9, 10, 11, 12, 13, 14, 15, 18] mixed_z ?_ ?_
   ·
    intro mid
    intro w41 ch40
    refine x_pure (v := Value.pointer (some ⟨b23, 0, none⟩)) 0 rfl (by kernel_rfl) (by kernel_rfl) rfl (fun w => e_move (by exact zs3_c1)) ?_
    refine x_pure (v := Value.pointer (some ⟨b23, 0, none⟩)) 1 rfl (by kernel_rfl) (by kernel_rfl) rfl (fun w => e_nilCheck rfl) ?_
    refine x_pure (v := Value.pointer (some ⟨b23, 2, none⟩)) 2 rfl (by kernel_rfl) (by kernel_rfl) rfl (fun w => e_fieldAddr Try.underlying116 rfl rfl rfl rfl) ?_
    refine x_pure (v := Value.int .i64 ((gI g.2 (e_c1 : Int)).1)) 4 rfl (by kernel_rfl) (by kernel_rfl) rfl (fun w => e_move rfl) ?_
    refine x_pure (v := Value.pointer (some ⟨b23, 0, none⟩)) 5 rfl (by kernel_rfl) (by kernel_rfl) rfl (fun w => e_move (by exact zs3_c1)) ?_
    refine x_pure (v := Value.pointer (some ⟨b23, 0, none⟩)) 6 rfl (by kernel_rfl) (by kernel_rfl) rfl (fun w => e_nilCheck rfl) ?_
    refine x_pure (v := Value.pointer (some ⟨b23, 2, none⟩)) 7 rfl (by kernel_rfl) (by kernel_rfl) rfl (fun w => e_fieldAddr Try.underlying116 rfl rfl rfl rfl) ?_
    have C42 : Chg (inl [5]) _ _ _ _ := (ch33.n).seq ((ch38.l rfl).seq (ch40.n))
    replace bx25 := bx25.chg C42 (is_nl rfl)
    refine x_held (v := v17) 8 [7, 6, 5, 4, 2, 1, 0, 3, 9, 12, 14, 13, 15, 16] rfl (by kernel_rfl) (by kernel_rfl) rfl (fun w' hw' => e_load_bx1 tp25_z rfl (bx25.bel hw') rfl) ?_
    refine x_pure (v := Value.int .i64 ((gI g.2 (e_c1 : Int)).1)) 9 rfl (by kernel_rfl) (by kernel_rfl) rfl (fun w => e_move rfl) ?_
    replace o19 := o19.chg C42 (is_nl rfl)
    refine x_held (v := Value.pointer (some (eAddr v17 1 (Int.toNat ((gI g.2 (e_c1 : Int)).1))))) 10 [9, 8, 7, 6, 5, 4, 2, 1, 0, 3, 12, 14, 13, 15, 16] rfl (by kernel_rfl) (by kernel_rfl) rfl (fun w' hw' => e_indexAddr (α := List Int) (xs := O_c1) (v := v17) (i := (gI g.2 (e_c1 : Int)).1) Try.underlying25 rfl rfl (o19.sl.bel hw') rfl (by omega) (by omega)) ?_
    obtain ⟨v43, cel44, r45⟩ := nst_row (r := (gI g.2 (e_c1 : Int)).1) o19 (by omega) (by omega)
    refine x_held (v := v43) 11 [10, 9, 8, 7, 6, 5, 4, 2, 1, 0, 3, 12, 14, 13, 15, 16] rfl (by kernel_rfl) (by kernel_rfl) rfl (fun w' hw' => e_load1 tp27_z rfl (cel_bel cel44 hw')) ?_
    refine x_pure (v := Value.int .i64 (e_c1 : Int)) 12 rfl (by kernel_rfl) (by kernel_rfl) rfl (fun w => e_move rfl) ?_
    refine x_pure (v := Value.int .i64 (2 * (e_c1 : Int))) 13 rfl (by kernel_rfl) (by kernel_rfl) rfl (fun w => e_mul (m := 2) (n := (e_c1 : Int)) rfl rfl (by omega)) ?_
    refine x_pure (v := Value.int .i64 0) 14 rfl (by kernel_rfl) (by kernel_rfl) rfl (fun w => e_move rfl) ?_
    refine x_pure (v := Value.int .i64 ((2 * (e_c1 : Int)) + 0)) 15 rfl (by kernel_rfl) (by kernel_rfl) rfl (fun w => e_add (m := 2 * (e_c1 : Int)) (n := 0) rfl rfl (by omega)) ?_
    refine x_two 3 16 rfl rfl (by kernel_rfl) rfl rfl ?_ ?_
    ·
     refine o_of_val (v := v17) (e_load_bx1 tp25_z rfl bx25 rfl) ?_
     refine x_one 16 rfl (by kernel_rfl) rfl ?_
     refine o_buildSlice (α := Int) g35 (is 6) (is 6) (6, 0) rfl [(2 * (e_c1 : Int)) + 0] Try.underlying27 tp3_z (by decide) (by decide) (vs := [(0, Value.int .i64 ((2 * (e_c1 : Int)) + 0))]) rfl rfl (.cons rfl .nil) ?_
     intro g46 w47 v48 ch49 o50
     refine x_one 17 rfl (by kernel_rfl) rfl ?_
     replace o19 := o19.chg ch49 (not_no _)
     replace r45 := r45.chg ch49 (not_no _) (not_no _)
     refine o_append (α := Int) (xs := (gI O_c1 ((gI g.2 (e_c1 : Int)).1))) (ys := ([(2 * (e_c1 : Int)) + 0])) g46 (J := row 3 (Int.toNat ((gI g.2 (e_c1 : Int)).1) + 1)) (S := row 3 (Int.toNat ((gI g.2 (e_c1 : Int)).1) + 1)) (3, Int.toNat ((gI g.2 (e_c1 : Int)).1) + 1) rfl Try.underlying27 tp3_z (by decide) rfl rfl rfl r45 o50.flat (by decide) (by first | omega | (simp; done) | (simp; omega)) ?_
     intro g51 w52 v53 ch54 o55
     have o56 := o19.rowchg ch54
     clear o19 cel44 r45
     obtain ⟨us57, hl58, r59⟩ := o56.vc
     try simp only [List.length_set, List.length_append, List.length_cons, List.length_nil] at hl58
     refine x_val (v := Value.pointer (some (eAddr v17 1 (Int.toNat ((gI g.2 (e_c1 : Int)).1))))) 18 [17, 16, 3, 15, 14, 13, 12, 11, 10, 9, 8, 7, 6, 5, 4, 2, 1, 0] rfl (by kernel_rfl) (by kernel_rfl) rfl (e_indexAddr (α := Vc) (xs := us57) (v := v17) (i := (gI g.2 (e_c1 : Int)).1) Try.underlying25 rfl rfl r59 rfl (by omega) (by omega)) ?_
     refine x_one 19 rfl (by kernel_rfl) rfl ?_
     refine o_store_row (r := (gI g.2 (e_c1 : Int)).1) tp27_z rfl rfl o56 o55 (by omega) (by omega) ?_
     intro w63 ch64 o65
     clear o56 o55
     refine x_nil (by kernel_rfl) ?_
     have C66 : Chg (inl [3, 5]) _ _ _ _ := (ch33.n).seq ((ch38.l rfl).seq ((ch40.n).seq ((ch49.n).seq ((ch54.lr rfl).seq (ch64.l rfl)))))
     replace hbase := hbase.chg C66 (is_nl rfl)
     replace r_g_v := r_g_v.chg C66 (is_nl rfl)
     replace bx5 := bx5.chg C66 (is_nl rfl)
     have C67 : Chg (inl [3]) _ _ _ _ := (ch49.n).seq ((ch54.lr rfl).seq (ch64.l rfl))
     replace bx25 := bx25.chg C67 (is_nl rfl)
     exact mid (g51) _ _ ⟨hbase, (by exact zs3_c1), rfl, (by exact zs15_c1), (by exact zs16_c1), (by exact zs17_c1), rfl, rfl, r_g_v, bx5, bx25, o65⟩
    ·
     refine o_buildSlice (α := Int) g35 (is 6) (is 6) (6, 0) rfl [(2 * (e_c1 : Int)) + 0] Try.underlying27 tp3_z (by decide) (by decide) (vs := [(0, Value.int .i64 ((2 * (e_c1 : Int)) + 0))]) rfl rfl (.cons rfl .nil) ?_
     intro g68 w69 v70 ch71 o72
     refine x_two 3 17 rfl rfl (by kernel_rfl) rfl rfl ?_ ?_
     ·
      replace bx25 := bx25.chg ch71 (not_no _)
      refine o_of_val (v := v17) (e_load_bx1 tp25_z rfl bx25 rfl) ?_
      refine x_one 17 rfl (by kernel_rfl) rfl ?_
      replace o19 := o19.chg ch71 (not_no _)
      replace r45 := r45.chg ch71 (not_no _) (not_no _)
      refine o_append (α := Int) (xs := (gI O_c1 ((gI g.2 (e_c1 : Int)).1))) (ys := ([(2 * (e_c1 : Int)) + 0])) g68 (J := row 3 (Int.toNat ((gI g.2 (e_c1 : Int)).1) + 1)) (S := row 3 (Int.toNat ((gI g.2 (e_c1 : Int)).1) + 1)) (3, Int.toNat ((gI g.2 (e_c1 : Int)).1) + 1) rfl Try.underlying27 tp3_z (by decide) rfl rfl rfl r45 o72.flat (by decide) (by first | omega | (simp; done) | (simp; omega)) ?_
      intro g73 w74 v75 ch76 o77
      have o78 := o19.rowchg ch76
      clear o19 cel44 r45
      obtain ⟨us79, hl80, r81⟩ := o78.vc
      try simp only [List.length_set, List.length_append, List.length_cons, List.length_nil] at hl80
      refine x_val (v := Value.pointer (some (eAddr v17 1 (Int.toNat ((gI g.2 (e_c1 : Int)).1))))) 18 [17, 3, 16, 15, 14, 13, 12, 11, 10, 9, 8, 7, 6, 5, 4, 2, 1, 0] rfl (by kernel_rfl) (by kernel_rfl) rfl (e_indexAddr (α := Vc) (xs := us79) (v := v17) (i := (gI g.2 (e_c1 : Int)).1) Try.underlying25 rfl rfl r81 rfl (by omega) (by omega)) ?_
      refine x_one 19 rfl (by kernel_rfl) rfl ?_
      refine o_store_row (r := (gI g.2 (e_c1 : Int)).1) tp27_z rfl rfl o78 o77 (by omega) (by omega) ?_
      intro w85 ch86 o87
      clear o78 o77
      refine x_nil (by kernel_rfl) ?_
      have C88 : Chg (inl [3, 5]) _ _ _ _ := (ch33.n).seq ((ch38.l rfl).seq ((ch40.n).seq ((ch71.n).seq ((ch76.lr rfl).seq (ch86.l rfl)))))
      replace hbase := hbase.chg C88 (is_nl rfl)
      replace r_g_v := r_g_v.chg C88 (is_nl rfl)
      replace bx5 := bx5.chg C88 (is_nl rfl)
      replace bx25 := (bx25.chg ch76 (is_row rfl)).chg ch86 (is_ne rfl)
      exact mid (g73) _ _ ⟨hbase, (by exact zs3_c1), rfl, (by exact zs15_c1), (by exact zs16_c1), (by exact zs17_c1), rfl, rfl, r_g_v, bx5, bx25, o87⟩
     ·
      replace o19 := o19.chg ch71 (not_no _)
      replace r45 := r45.chg ch71 (not_no _) (not_no _)
      refine o_append (α := Int) (xs := (gI O_c1 ((gI g.2 (e_c1 : Int)).1))) (ys := ([(2 * (e_c1 : Int)) + 0])) g68 (J := row 3 (Int.toNat ((gI g.2 (e_c1 : Int)).1) + 1)) (S := row 3 (Int.toNat ((gI g.2 (e_c1 : Int)).1) + 1)) (3, Int.toNat ((gI g.2 (e_c1 : Int)).1) + 1) rfl Try.underlying27 tp3_z (by decide) rfl rfl rfl r45 o72.flat (by decide) (by first | omega | (simp; done) | (simp; omega)) ?_
      intro g89 w90 v91 ch92 o93
      have o94 := o19.rowchg ch92
      clear o19 cel44 r45
      replace bx25 := (bx25.chg ch71 (not_no _)).chg ch92 (is_row rfl)
      refine x_one 3 rfl (by kernel_rfl) rfl ?_
      refine o_of_val (v := v17) (e_load_bx1 tp25_z rfl bx25 rfl) ?_
      obtain ⟨us95, hl96, r97⟩ := o94.vc
      try simp only [List.length_set, List.length_append, List.length_cons, List.length_nil] at hl96
      refine x_val (v := Value.pointer (some (eAddr v17 1 (Int.toNat ((gI g.2 (e_c1 : Int)).1))))) 18 [3, 17, 16, 15, 14, 13, 12, 11, 10, 9, 8, 7, 6, 5, 4, 2, 1, 0] rfl (by kernel_rfl) (by kernel_rfl) rfl (e_indexAddr (α := Vc) (xs := us95) (v := v17) (i := (gI g.2 (e_c1 : Int)).1) Try.underlying25 rfl rfl r97 rfl (by omega) (by omega)) ?_
      refine x_one 19 rfl (by kernel_rfl) rfl ?_
      refine o_store_row (r := (gI g.2 (e_c1 : Int)).1) tp27_z rfl rfl o94 o93 (by omega) (by omega) ?_
      intro w101 ch102 o103
      clear o94 o93
      refine x_nil (by kernel_rfl) ?_
      have C104 : Chg (inl [3, 5]) _ _ _ _ := (ch33.n).seq ((ch38.l rfl).seq ((ch40.n).seq ((ch71.n).seq ((ch92.lr rfl).seq (ch102.l rfl)))))
      replace hbase := hbase.chg C104 (is_nl rfl)
      replace r_g_v := r_g_v.chg C104 (is_nl rfl)
      replace bx5 := bx5.chg C104 (is_nl rfl)
      replace bx25 := bx25.chg ch102 (is_ne rfl)
      exact mid (g89) _ _ ⟨hbase, (by exact zs3_c1), rfl, (by exact zs15_c1), (by exact zs16_c1), (by exact zs17_c1), rfl, rfl, r_g_v, bx5, bx25, o103⟩
   clear r_g_v bx5 o19 bx25 hbase
   rintro g107 f105 w106 ⟨hbase, zs3_c1, zs4_c1, zs15_c1, zs16_c1, zs17_c1, zs22_c1, zs23_c1, r_g_v, bx5, bx25, o62⟩
   refine run_inBlock ?_
   refine run_region rfl ?_
   refine lv (Value.int .i64 1) rfl (e_add (m := 0) (n := 1) (by exact zs23_c1) rfl (by omega)) ?_
   refine lv (Value.int .i64 1) rfl (e_move rfl) ?_
   refine l_nil ?_
   refine run_inLoop ?_
   refine run_seq (run_region rfl ?_)
   refine lv (Value.bool true) rfl (e_lss (m := 1) (n := 2) rfl rfl) ?_
   refine l_nil (run_seq ?_)
   refine run_cond_t rfl rfl ?_
   refine run_skip ?_
   refine run_seq ?_
   refine run_block ?_
   refine run_seq (run_region rfl ?_)
   refine lv (Value.int .i64 1) rfl (e_move rfl) ?_
   refine lv (Value.int .i64 ((gI g.2 (e_c1 : Int)).2)) rfl (e_index_arr Try.underlying60 tp3_z (by exact zs22_c1) rfl (by decide) (by decide) rfl) ?_
   refine lv (Value.int .i64 1) rfl (e_assign rfl) ?_
   refine lv (Value.int .i64 ((gI g.2 (e_c1 : Int)).2)) rfl (e_assign rfl) ?_
   refine l_nil ?_
   refine region_mid (σ := Cmap) (fun gq f w => Base w0 gq w ∧ f 3 = Value.pointer (some ⟨b23, 0, none⟩) ∧ f 4 = Value.int .i64 (e_c1 : Int) ∧ f 15 = g_v ∧ f 16 = Value.int .i64 (List.length g.2 : Int) ∧ f 17 = Value.int .i64 (e_c1 : Int) ∧ f 22 = Value.agg (List.toArray [Value.int .i64 ((gI g.2 (e_c1 : Int)).1), Value.int .i64 ((gI g.2 (e_c1 : Int)).2)]) ∧ f 23 = Value.int .i64 1 ∧ Sl gq (is 0) w g_v g.2 ∧ Bx gq (is 1) w b3 [Value.int .i64 g.1, g_v] ∧ Bx gq (is 4) w b23 [Value.int .i64 g.1, g_v, v17] ∧ Nst gq 3 w v17 (List.set (List.set O_c1 (Int.toNat ((gI g.2 (e_c1 : Int)).1)) (gI O_c1 ((gI g.2 (e_c1 : Int)).1) ++ [(2 * (e_c1 : Int)) + 0])) (Int.toNat ((gI g.2 (e_c1 : Int)).2)) (gI (List.set O_c1 (Int.toNat ((gI g.2 (e_c1 : Int)).1)) (gI O_c1 ((gI g.2 (e_c1 : Int)).1) ++ [(2 * (e_c1 : Int)) + 0])) ((gI g.2 (e_c1 : Int)).2) ++ [(2 * (e_c1 : Int)) + 1]))) g107 [0, 1, 2, 4, 5, 6, 7, 8, 9, 10, 11, 12, 13, 14, 15, 18] mixed_z ?_ ?_
   ·
    intro mid
    intro w109 ch108
    refine x_pure (v := Value.pointer (some ⟨b23, 0, none⟩)) 0 rfl (by kernel_rfl) (by kernel_rfl) rfl (fun w => e_move (by exact zs3_c1)) ?_
    refine x_pure (v := Value.pointer (some ⟨b23, 0, none⟩)) 1 rfl (by kernel_rfl) (by kernel_rfl) rfl (fun w => e_nilCheck rfl) ?_
    refine x_pure (v := Value.pointer (some ⟨b23, 2, none⟩)) 2 rfl (by kernel_rfl) (by kernel_rfl) rfl (fun w => e_fieldAddr Try.underlying116 rfl rfl rfl rfl) ?_
    refine x_pure (v := Value.int .i64 ((gI g.2 (e_c1 : Int)).2)) 4 rfl (by kernel_rfl) (by kernel_rfl) rfl (fun w => e_move rfl) ?_
    refine x_pure (v := Value.pointer (some ⟨b23, 0, none⟩)) 5 rfl (by kernel_rfl) (by kernel_rfl) rfl (fun w => e_move (by exact zs3_c1)) ?_
    refine x_pure (v := Value.pointer (some ⟨b23, 0, none⟩)) 6 rfl (by kernel_rfl) (by kernel_rfl) rfl (fun w => e_nilCheck rfl) ?_
    refine x_pure (v := Value.pointer (some ⟨b23, 2, none⟩)) 7 rfl (by kernel_rfl) (by kernel_rfl) rfl (fun w => e_fieldAddr Try.underlying116 rfl rfl rfl rfl) ?_
    replace bx25 := bx25.chg ch108 (not_no _)
    refine x_held (v := v17) 8 [7, 6, 5, 4, 2, 1, 0, 3, 9, 12, 14, 13, 15, 16] rfl (by kernel_rfl) (by kernel_rfl) rfl (fun w' hw' => e_load_bx1 tp25_z rfl (bx25.bel hw') rfl) ?_
    refine x_pure (v := Value.int .i64 ((gI g.2 (e_c1 : Int)).2)) 9 rfl (by kernel_rfl) (by kernel_rfl) rfl (fun w => e_move rfl) ?_
    replace o62 := o62.chg ch108 (not_no _)
    refine x_held (v := Value.pointer (some (eAddr v17 1 (Int.toNat ((gI g.2 (e_c1 : Int)).2))))) 10 [9, 8, 7, 6, 5, 4, 2, 1, 0, 3, 12, 14, 13, 15, 16] rfl (by kernel_rfl) (by kernel_rfl) rfl (fun w' hw' => e_indexAddr (α := List Int) (xs := (List.set O_c1 (Int.toNat ((gI g.2 (e_c1 : Int)).1)) (gI O_c1 ((gI g.2 (e_c1 : Int)).1) ++ [(2 * (e_c1 : Int)) + 0]))) (v := v17) (i := (gI g.2 (e_c1 : Int)).2) Try.underlying25 rfl rfl (o62.sl.bel hw') rfl (by omega) (by first | omega | (simp only [List.length_set, List.length_append, List.length_cons, List.length_nil, List.length_replicate, List.length_map, List.length_take, List.length_drop]; omega) | (simp; done) | (simp; omega))) ?_
    obtain ⟨v110, cel111, r112⟩ := nst_row (r := (gI g.2 (e_c1 : Int)).2) o62 (by omega) (by first | omega | (simp only [List.length_set, List.length_append, List.length_cons, List.length_nil, List.length_replicate, List.length_map, List.length_take, List.length_drop]; omega) | (simp; done) | (simp; omega))
    refine x_held (v := v110) 11 [10, 9, 8, 7, 6, 5, 4, 2, 1, 0, 3, 12, 14, 13, 15, 16] rfl (by kernel_rfl) (by kernel_rfl) rfl (fun w' hw' => e_load1 tp27_z rfl (cel_bel cel111 hw')) ?_
    refine x_pure (v := Value.int .i64 (e_c1 : Int)) 12 rfl (by kernel_rfl) (by kernel_rfl) rfl (fun w => e_move (by exact zs4_c1)) ?_
    refine x_pure (v := Value.int .i64 (2 * (e_c1 : Int))) 13 rfl (by kernel_rfl) (by kernel_rfl) rfl (fun w => e_mul (m := 2) (n := (e_c1 : Int)) rfl rfl (by omega)) ?_
    refine x_pure (v := Value.int .i64 1) 14 rfl (by kernel_rfl) (by kernel_rfl) rfl (fun w => e_move rfl) ?_
    refine x_pure (v := Value.int .i64 ((2 * (e_c1 : Int)) + 1)) 15 rfl (by kernel_rfl) (by kernel_rfl) rfl (fun w => e_add (m := 2 * (e_c1 : Int)) (n := 1) rfl rfl (by omega)) ?_
    refine x_two 3 16 rfl rfl (by kernel_rfl) rfl rfl ?_ ?_
    ·
     refine o_of_val (v := v17) (e_load_bx1 tp25_z rfl bx25 rfl) ?_
     refine x_one 16 rfl (by kernel_rfl) rfl ?_
     refine o_buildSlice (α := Int) g107 (is 6) (is 6) (6, 0) rfl [(2 * (e_c1 : Int)) + 1] Try.underlying27 tp3_z (by decide) (by decide) (vs := [(0, Value.int .i64 ((2 * (e_c1 : Int)) + 1))]) rfl rfl (.cons rfl .nil) ?_
     intro g113 w114 v115 ch116 o117
     refine x_one 17 rfl (by kernel_rfl) rfl ?_
     replace o62 := o62.chg ch116 (not_no _)
     replace r112 := r112.chg ch116 (not_no _) (not_no _)
     refine o_append (α := Int) (xs := (gI (List.set O_c1 (Int.toNat ((gI g.2 (e_c1 : Int)).1)) (gI O_c1 ((gI g.2 (e_c1 : Int)).1) ++ [(2 * (e_c1 : Int)) + 0])) ((gI g.2 (e_c1 : Int)).2))) (ys := ([(2 * (e_c1 : Int)) + 1])) g113 (J := row 3 (Int.toNat ((gI g.2 (e_c1 : Int)).2) + 1)) (S := row 3 (Int.toNat ((gI g.2 (e_c1 : Int)).2) + 1)) (3, Int.toNat ((gI g.2 (e_c1 : Int)).2) + 1) rfl Try.underlying27 tp3_z (by decide) rfl rfl rfl r112 o117.flat (by decide) (by first | omega | (simp; done) | (simp; omega)) ?_
     intro g118 w119 v120 ch121 o122
     have o123 := o62.rowchg ch121
     clear o62 cel111 r112
     obtain ⟨us124, hl125, r126⟩ := o123.vc
     try simp only [List.length_set, List.length_append, List.length_cons, List.length_nil] at hl125
     refine x_val (v := Value.pointer (some (eAddr v17 1 (Int.toNat ((gI g.2 (e_c1 : Int)).2))))) 18 [17, 16, 3, 15, 14, 13, 12, 11, 10, 9, 8, 7, 6, 5, 4, 2, 1, 0] rfl (by kernel_rfl) (by kernel_rfl) rfl (e_indexAddr (α := Vc) (xs := us124) (v := v17) (i := (gI g.2 (e_c1 : Int)).2) Try.underlying25 rfl rfl r126 rfl (by omega) (by omega)) ?_
     refine x_one 19 rfl (by kernel_rfl) rfl ?_
     refine o_store_row (r := (gI g.2 (e_c1 : Int)).2) tp27_z rfl rfl o123 o122 (by omega) (by first | omega | (simp only [List.length_set, List.length_append, List.length_cons, List.length_nil, List.length_replicate, List.length_map, List.length_take, List.length_drop]; omega) | (simp; done) | (simp; omega)) ?_
     intro w130 ch131 o132
     clear o123 o122
     refine x_nil (by kernel_rfl) ?_
     have C133 : Chg (inl [3]) _ _ _ _ := (ch108.n).seq ((ch116.n).seq ((ch121.lr rfl).seq (ch131.l rfl)))
     replace hbase := hbase.chg C133 (is_nl rfl)
     replace r_g_v := r_g_v.chg C133 (is_nl rfl)
     replace bx5 := bx5.chg C133 (is_nl rfl)
     have C134 : Chg (inl [3]) _ _ _ _ := (ch116.n).seq ((ch121.lr rfl).seq (ch131.l rfl))
     replace bx25 := bx25.chg C134 (is_nl rfl)
     exact mid (g118) _ _ ⟨hbase, (by exact zs3_c1), (by exact zs4_c1), (by exact zs15_c1), (by exact zs16_c1), (by exact zs17_c1), (by exact zs22_c1), rfl, r_g_v, bx5, bx25, o132⟩
    ·
     refine o_buildSlice (α := Int) g107 (is 6) (is 6) (6, 0) rfl [(2 * (e_c1 : Int)) + 1] Try.underlying27 tp3_z (by decide) (by decide) (vs := [(0, Value.int .i64 ((2 * (e_c1 : Int)) + 1))]) rfl rfl (.cons rfl .nil) ?_
     intro g135 w136 v137 ch138 o139
     refine x_two 3 17 rfl rfl (by kernel_rfl) rfl rfl ?_ ?_
     ·
      replace bx25 := bx25.chg ch138 (not_no _)
      refine o_of_val (v := v17) (e_load_bx1 tp25_z rfl bx25 rfl) ?_
      refine x_one 17 rfl (by kernel_rfl) rfl ?_
      replace o62 := o62.chg ch138 (not_no _)
      replace r112 := r112.chg ch138 (not_no _) (not_no _)
      refine o_append (α := Int) (xs := (gI (List.set O_c1 (Int.toNat ((gI g.2 (e_c1 : Int)).1)) (gI O_c1 ((gI g.2 (e_c1 : Int)).1) ++ [(2 * (e_c1 : Int)) + 0])) ((gI g.2 (e_c1 : Int)).2))) (ys := ([(2 * (e_c1 : Int)) + 1])) g135 (J := row 3 (Int.toNat ((gI g.2 (e_c1 : Int)).2) + 1)) (S := row 3 (Int.toNat ((gI g.2 (e_c1 : Int)).2) + 1)) (3, Int.toNat ((gI g.2 (e_c1 : Int)).2) + 1) rfl Try.underlying27 tp3_z (by decide) rfl rfl rfl r112 o139.flat (by decide) (by first | omega | (simp; done) | (simp; omega)) ?_
      intro g140 w141 v142 ch143 o144
      have o145 := o62.rowchg ch143
      clear o62 cel111 r112
      obtain ⟨us146, hl147, r148⟩ := o145.vc
      try simp only [List.length_set, List.length_append, List.length_cons, List.length_nil] at hl147
      refine x_val (v := Value.pointer (some (eAddr v17 1 (Int.toNat ((gI g.2 (e_c1 : Int)).2))))) 18 [17, 3, 16, 15, 14, 13, 12, 11, 10, 9, 8, 7, 6, 5, 4, 2, 1, 0] rfl (by kernel_rfl) (by kernel_rfl) rfl (e_indexAddr (α := Vc) (xs := us146) (v := v17) (i := (gI g.2 (e_c1 : Int)).2) Try.underlying25 rfl rfl r148 rfl (by omega) (by omega)) ?_
      refine x_one 19 rfl (by kernel_rfl) rfl ?_
      refine o_store_row (r := (gI g.2 (e_c1 : Int)).2) tp27_z rfl rfl o145 o144 (by omega) (by first | omega | (simp only [List.length_set, List.length_append, List.length_cons, List.length_nil, List.length_replicate, List.length_map, List.length_take, List.length_drop]; omega) | (simp; done) | (simp; omega)) ?_
      intro w152 ch153 o154
      clear o145 o144
      refine x_nil (by kernel_rfl) ?_
      have C155 : Chg (inl [3]) _ _ _ _ := (ch108.n).seq ((ch138.n).seq ((ch143.lr rfl).seq (ch153.l rfl)))
      replace hbase := hbase.chg C155 (is_nl rfl)
      replace r_g_v := r_g_v.chg C155 (is_nl rfl)
      replace bx5 := bx5.chg C155 (is_nl rfl)
      replace bx25 := (bx25.chg ch143 (is_row rfl)).chg ch153 (is_ne rfl)
      exact mid (g140) _ _ ⟨hbase, (by exact zs3_c1), (by exact zs4_c1), (by exact zs15_c1), (by exact zs16_c1), (by exact zs17_c1), (by exact zs22_c1), rfl, r_g_v, bx5, bx25, o154⟩
     ·
      replace o62 := o62.chg ch138 (not_no _)
      replace r112 := r112.chg ch138 (not_no _) (not_no _)
      refine o_append (α := Int) (xs := (gI (List.set O_c1 (Int.toNat ((gI g.2 (e_c1 : Int)).1)) (gI O_c1 ((gI g.2 (e_c1 : Int)).1) ++ [(2 * (e_c1 : Int)) + 0])) ((gI g.2 (e_c1 : Int)).2))) (ys := ([(2 * (e_c1 : Int)) + 1])) g135 (J := row 3 (Int.toNat ((gI g.2 (e_c1 : Int)).2) + 1)) (S := row 3 (Int.toNat ((gI g.2 (e_c1 : Int)).2) + 1)) (3, Int.toNat ((gI g.2 (e_c1 : Int)).2) + 1) rfl Try.underlying27 tp3_z (by decide) rfl rfl rfl r112 o139.flat (by decide) (by first | omega | (simp; done) | (simp; omega)) ?_
      intro g156 w157 v158 ch159 o160
      have o161 := o62.rowchg ch159
      clear o62 cel111 r112
      replace bx25 := (bx25.chg ch138 (not_no _)).chg ch159 (is_row rfl)
      refine x_one 3 rfl (by kernel_rfl) rfl ?_
      refine o_of_val (v := v17) (e_load_bx1 tp25_z rfl bx25 rfl) ?_
      obtain ⟨us162, hl163, r164⟩ := o161.vc
      try simp only [List.length_set, List.length_append, List.length_cons, List.length_nil] at hl163
      refine x_val (v := Value.pointer (some (eAddr v17 1 (Int.toNat ((gI g.2 (e_c1 : Int)).2))))) 18 [3, 17, 16, 15, 14, 13, 12, 11, 10, 9, 8, 7, 6, 5, 4, 2, 1, 0] rfl (by kernel_rfl) (by kernel_rfl) rfl (e_indexAddr (α := Vc) (xs := us162) (v := v17) (i := (gI g.2 (e_c1 : Int)).2) Try.underlying25 rfl rfl r164 rfl (by omega) (by omega)) ?_
      refine x_one 19 rfl (by kernel_rfl) rfl ?_
      refine o_store_row (r := (gI g.2 (e_c1 : Int)).2) tp27_z rfl rfl o161 o160 (by omega) (by first | omega | (simp only [List.length_set, List.length_append, List.length_cons, List.length_nil, List.length_replicate, List.length_map, List.length_take, List.length_drop]; omega) | (simp; done) | (simp; omega)) ?_
      intro w168 ch169 o170
      clear o161 o160
      refine x_nil (by kernel_rfl) ?_
      have C171 : Chg (inl [3]) _ _ _ _ := (ch108.n).seq ((ch138.n).seq ((ch159.lr rfl).seq (ch169.l rfl)))
      replace hbase := hbase.chg C171 (is_nl rfl)
      replace r_g_v := r_g_v.chg C171 (is_nl rfl)
      replace bx5 := bx5.chg C171 (is_nl rfl)
      replace bx25 := bx25.chg ch169 (is_ne rfl)
      exact mid (g156) _ _ ⟨hbase, (by exact zs3_c1), (by exact zs4_c1), (by exact zs15_c1), (by exact zs16_c1), (by exact zs17_c1), (by exact zs22_c1), rfl, r_g_v, bx5, bx25, o170⟩
   clear r_g_v bx5 bx25 o62 hbase
   rintro g174 f172 w173 ⟨hbase, zs3_c1, zs4_c1, zs15_c1, zs16_c1, zs17_c1, zs22_c1, zs23_c1, r_g_v, bx5, bx25, o130⟩
   refine run_inBlock ?_
   refine run_region rfl ?_
   refine lv (Value.int .i64 2) rfl (e_add (m := 1) (n := 1) (by exact zs23_c1) rfl (by omega)) ?_
   refine lv (Value.int .i64 2) rfl (e_move rfl) ?_
   refine l_nil ?_
   refine run_inLoop ?_
   refine run_seq (run_region rfl ?_)
   refine lv (Value.bool false) rfl (e_lss (m := 2) (n := 2) rfl rfl) ?_
   refine l_nil (run_seq ?_)
   refine run_cond_f rfl rfl ?_
   refine run_exit rfl ?_
   refine run_inBlock ?_
   refine run_region rfl ?_
   refine lv (Value.int .i64 ((e_c1 : Int) + 1)) rfl (e_add (m := (e_c1 : Int)) (n := 1) (by exact zs17_c1) rfl (by omega)) ?_
   refine lv (Value.int .i64 ((e_c1 : Int) + 1)) rfl (e_move rfl) ?_
   refine l_nil ?_
   refine back3_c1 (e_c1 + 1, (List.set (List.set O_c1 (Int.toNat ((gI g.2 (e_c1 : Int)).1)) (gI O_c1 ((gI g.2 (e_c1 : Int)).1) ++ [(2 * (e_c1 : Int)) + 0])) (Int.toNat ((gI g.2 (e_c1 : Int)).2)) (gI (List.set O_c1 (Int.toNat ((gI g.2 (e_c1 : Int)).1)) (gI O_c1 ((gI g.2 (e_c1 : Int)).1) ++ [(2 * (e_c1 : Int)) + 0])) ((gI g.2 (e_c1 : Int)).2) ++ [(2 * (e_c1 : Int)) + 1])), g174) _ _ ⟨hbase, (by exact zs3_c1), (by exact zs15_c1), (by exact zs16_c1), rfl, r_g_v, bx5, o130, bx25, by omega, ?_⟩ ?_
   · show OutInv (List.set (List.set O_c1 (Int.toNat ((gI g.2 (e_c1 : Int)).1)) (gI O_c1 ((gI g.2 (e_c1 : Int)).1) ++ [(2 * (e_c1 : Int)) + 0])) (Int.toNat ((gI g.2 (e_c1 : Int)).2)) (gI (List.set O_c1 (Int.toNat ((gI g.2 (e_c1 : Int)).1)) (gI O_c1 ((gI g.2 (e_c1 : Int)).1) ++ [(2 * (e_c1 : Int)) + 0])) ((gI g.2 (e_c1 : Int)).2) ++ [(2 * (e_c1 : Int)) + 1])) g (e_c1 + 1)
     exact hov_c1.next he1 he2 he3 he4 (by omega) (by omega)
   · show Int.toNat (((List.length g.2 : Int) : Int) - ((e_c1 + 1) : Int)) < Int.toNat (((List.length g.2 : Int) : Int) - (e_c1 : Int))
     omega
  refine run_cond_f rfl (decide_eq_false p3_c1) ?_
  refine run_exit rfl ?_
  refine run_seq (run_region rfl ?_)
  refine lv (Value.pointer (some ⟨b23, 0, none⟩)) rfl (e_move (by exact zs3_c1)) ?_
  refine lv (Value.pointer (some ⟨b23, 0, none⟩)) rfl (e_assign rfl) ?_
  refine l_nil ?_
  refine run_ret (vs := [Value.pointer (some ⟨b23, 0, none⟩)]) Try.func97 (.tmp rfl .nil) ?_
  refine ⟨Value.pointer (some ⟨b23, 0, none⟩), rfl, ?_⟩
  refine lv (Value.pointer (some ⟨b23, 0, none⟩)) rfl (e_assign rfl) ?_
  refine l_nil (run_seq ?_)
  have hOut := hov_c1.done (by omega)
  refine run_region rfl ?_
  refine lv (Value.pointer (some ⟨b3, 0, none⟩)) rfl (e_fieldAddr Try.underlying24 rfl rfl rfl rfl) ?_
  refine lv (Value.int .i64 g.1) rfl (e_load_bx1 tp3_z rfl bx5 rfl) ?_
  refine l_op rfl ?_
  refine o_callx (e_call (vals := [Value.int .i64 g.1, Value.int .i64 (-1)]) Try.func98 bd98_z nm98_z rfl) (filled_ok w30 g.1 (-1) (by omega)) ?_
  rintro ⟨d176, v178⟩ w175 ⟨fr177, o179⟩
  obtain ⟨g180, hg180⟩ : ∃ q, q = glue w30.heap.size g31 d176 (fun n => if n = 1 then 7 else 0) := ⟨_, rfl⟩
  have ch181 := chg_glue fr177.below g31 d176 (fun n => if n = 1 then 7 else 0)
  rw [← hg180] at ch181
  replace o179 := o179.glue (γ := g31) (ren := (fun n => if n = 1 then 7 else 0)) (k := 7) fr177.col rfl rfl
  rw [← hg180] at o179
  clear hg180
  refine lv (v178) rfl (e_assign rfl) ?_
  refine l_nil (run_seq ?_)
  clear bx5
  refine run_region rfl ?_
  refine lv (Value.int .i64 0) rfl (e_assign rfl) ?_
  refine l_nil (run_seq (run_seq (run_region rfl ?_)))
  refine lv (v178) rfl (e_move rfl) ?_
  have len182 := (o179.flat).small
  refine lv (Value.int .i64 (List.length (List.replicate g.1.toNat (-1)) : Int)) rfl (e_len Try.underlying27 rfl o179.flat) ?_
  refine lv (Value.int .i64 0) rfl (e_move rfl) ?_
  refine l_nil ?_
  refine run_block ?_
  refine run_loop (σ := Nat × Int × (List Int) × Cmap) (fun ⟨q, n, part, gq⟩ f w => Base w0 gq w ∧ f 5 = Value.pointer (some ⟨b23, 0, none⟩) ∧ f 6 = v178 ∧ f 7 = Value.int .i64 n ∧ f 20 = Value.int .i64 (List.length (List.replicate g.1.toNat (-1)) : Int) ∧ f 21 = Value.int .i64 (q : Int) ∧ Sl gq (is 0) w g_v g.2 ∧ Nst gq 3 w v17 O_c1 ∧ Bx gq (is 4) w b23 [Value.int .i64 g.1, g_v, v17] ∧ Ow gq (is 7) (is 7) w v178 part ∧ (q : Int) ≤ ((List.length (List.replicate g.1.toNat (-1)) : Int) : Int) ∧ (part = (partsK g q).1 ∧ n = (partsK g q).2)) (fun ⟨q, n, part, gq⟩ => Int.toNat (((List.length (List.replicate g.1.toNat (-1)) : Int) : Int) - (q : Int))) (0, 0, List.replicate g.1.toNat (-1), g180) ?_ ?_
  replace hbase := hbase.chg ch181 (not_no _)
  replace r_g_v := r_g_v.chg ch181 (not_no _)
  replace o19 := o19.chg ch181 (not_no _)
  replace bx25 := bx25.chg ch181 (not_no _)
  · exact ⟨hbase, rfl, rfl, rfl, rfl, rfl, r_g_v, o19, bx25, o179, by omega, by exact ⟨rfl, rfl⟩⟩
  clear r_g_v o19 bx25 o179 hbase
  rintro ⟨q, n, part, g185⟩ f183 w184 ⟨hbase, zs5, zs6, zs7, zs20, zs21, r_g_v, o19, bx25, o179, hle_q, hinv⟩ back7
  have hpl := parts_len g q
  have hpart : (part.length : Int) = g.1 := by rw [hinv.1, hpl.1]; omega
  have hi2 := hinv.2
  have hrep : ((List.replicate g.1.toNat (-1 : Int)).length : Int) = g.1 := by simp; omega
  refine run_seq (run_region rfl ?_)
  refine lv (Value.bool (decide ((q : Int) < (List.length (List.replicate g.1.toNat (-1)) : Int)))) rfl (e_lss (m := (q : Int)) (n := (List.length (List.replicate g.1.toNat (-1)) : Int)) (by exact zs21) (by exact zs20)) ?_
  refine l_nil (run_seq ?_)
  by_cases p7 : (q : Int) < (List.length (List.replicate g.1.toNat (-1)) : Int)
  ·
   refine run_cond_t rfl (decide_eq_true p7) ?_
   refine run_skip ?_
   refine run_seq ?_
   refine run_block ?_
   refine run_seq (run_region rfl ?_)
   refine lv (Value.int .i64 (q : Int)) rfl (e_move (by exact zs21)) ?_
   refine lv (Value.int .i64 (q : Int)) rfl (e_assign rfl) ?_
   refine l_nil (run_seq (run_seq (run_region rfl ?_)))
   refine lv (v178) rfl (e_move (by exact zs6)) ?_
   refine lv (Value.int .i64 (q : Int)) rfl (e_move rfl) ?_
   refine lv (Value.pointer (some (eAddr v178 1 (Int.toNat (q : Int))))) rfl (e_indexAddr (α := Int) (xs := part) (v := v178) (i := (q : Int)) Try.underlying27 rfl rfl o179.flat rfl (by omega) (by omega)) ?_
   refine lv (Value.int .i64 (gI part (q : Int))) rfl (e_load_el1 (α := Int) (xs := part) (v := v178) (i := (q : Int)) tp3_z rfl o179.flat (by omega) (by omega) (by decide) rfl) ?_
   refine lv (Value.bool (decide (0 ≤ (gI part (q : Int))))) rfl (e_geq (m := (gI part (q : Int))) (n := 0) rfl rfl) ?_
   refine l_nil ?_
   by_cases p9 : 0 ≤ (gI part (q : Int))
   ·
    refine run_cond_t rfl (decide_eq_true p9) ?_
    refine run_exit rfl ?_
    refine run_region rfl ?_
    refine lv (Value.int .i64 ((q : Int) + 1)) rfl (e_add (m := (q : Int)) (n := 1) (by exact zs21) rfl (by omega)) ?_
    refine lv (Value.int .i64 ((q : Int) + 1)) rfl (e_move rfl) ?_
    refine l_nil ?_
    refine back7 (q + 1, n, part, g185) _ _ ⟨hbase, (by exact zs5), (by exact zs6), (by exact zs7), (by exact zs20), rfl, r_g_v, o19, bx25, o179, by omega, ?_⟩ ?_
    · show part = (partsK g (q + 1)).1 ∧ n = (partsK g (q + 1)).2
      first
        | exact parts_skip hinv (by assumption)
        | exact parts_do hinv (by assumption) hbo1 hpa (by assumption)
    · show Int.toNat (((List.length (List.replicate g.1.toNat (-1)) : Int) : Int) - ((q + 1) : Int)) < Int.toNat (((List.length (List.replicate g.1.toNat (-1)) : Int) : Int) - (q : Int))
      omega
   refine run_cond_f rfl (decide_eq_false p9) ?_
   refine run_skip ?_
   refine run_seq (run_seq (run_region rfl ?_))
   refine lv (Value.pointer (some ⟨b23, 0, none⟩)) rfl (e_move (by exact zs5)) ?_
   refine lv (Value.int .i64 (q : Int)) rfl (e_move rfl) ?_
   refine l_op rfl ?_
   refine o_inline (e_call (vals := [Value.pointer (some ⟨b23, 0, none⟩), Value.int .i64 (q : Int)]) Try.func99 bd99_z nm99_z rfl) ?_
   refine calls_of_run Try.func99 rfl (Nat.le_of_ble_eq_true rfl) ?_
   refine run_seq (run_region rfl (l_op rfl ?_))
   refine o_alloc g185 (is 8) (8, 0) rfl tp109_z ?_
   intro g189 w186 b188 ch187 bx190
   replace bx190 : Bx g189 (is 8) w186 b188 [Value.slice none 0 0, Value.slice none 0 0, Value.slice none 0 0, Value.slice none 0 0] := bx190
   refine l_nil (run_seq (run_region rfl ?_))
   refine lv (Value.pointer (some ⟨b23, 0, none⟩)) rfl (e_move rfl) ?_
   refine lv (Value.pointer (some ⟨b23, 0, none⟩)) rfl (e_nilCheck rfl) ?_
   refine lv (Value.pointer (some ⟨b23, 0, none⟩)) rfl (e_fieldAddr Try.underlying116 rfl rfl rfl rfl) ?_
   refine lv (Value.pointer (some ⟨b23, 0, none⟩)) rfl (e_fieldAddr Try.underlying24 rfl rfl rfl rfl) ?_
   replace bx25 := bx25.chg ch187 (not_no _)
   refine lv (Value.int .i64 g.1) rfl (e_load_bx1 tp3_z rfl bx25 rfl) ?_
   refine lv (Value.int .i64 (q : Int)) rfl (e_move rfl) ?_
   refine l_op rfl ?_
   refine o_inline (e_call (vals := [Value.int .i64 g.1, Value.int .i64 (q : Int)]) Try.func107 bd107_z nm107_z rfl) ?_
   refine calls_of_run Try.func107 rfl (Nat.le_of_ble_eq_true rfl) ?_
   refine run_seq (run_region rfl (l_op rfl ?_))
   refine o_alloc g189 (is 9) (9, 0) rfl tp109_z ?_
   intro g194 w191 b193 ch192 bx195
   replace bx195 : Bx g194 (is 9) w191 b193 [Value.slice none 0 0, Value.slice none 0 0, Value.slice none 0 0, Value.slice none 0 0] := bx195
   refine l_nil (run_seq (run_region rfl ?_))
   refine lv (Value.int .i64 (q : Int)) rfl (e_move rfl) ?_
   refine l_op rfl ?_
   refine o_buildSlice (α := Int) g194 (is 10) (is 10) (10, 0) rfl [(q : Int)] Try.underlying27 tp3_z (by decide) (by decide) (vs := [(0, Value.int .i64 (q : Int))]) rfl rfl (.cons rfl .nil) ?_
   intro g196 w197 v198 ch199 o200
   refine lv (Value.int .i64 g.1) rfl (e_move rfl) ?_
   refine l_op rfl ?_
   refine o_callx (e_call (vals := [Value.int .i64 g.1, Value.int .i64 (-1)]) Try.func98 bd98_z nm98_z rfl) (filled_ok w197 g.1 (-1) (by omega)) ?_
   rintro ⟨d202, v204⟩ w201 ⟨fr203, o205⟩
   obtain ⟨g206, hg206⟩ : ∃ q, q = glue w197.heap.size g196 d202 (fun n => if n = 1 then 11 else 0) := ⟨_, rfl⟩
   have ch207 := chg_glue fr203.below g196 d202 (fun n => if n = 1 then 11 else 0)
   rw [← hg206] at ch207
   replace o205 := o205.glue (γ := g196) (ren := (fun n => if n = 1 then 11 else 0)) (k := 11) fr203.col rfl rfl
   rw [← hg206] at o205
   clear hg206
   refine lv (Value.int .i64 g.1) rfl (e_move rfl) ?_
   refine l_op rfl ?_
   refine o_callx (e_call (vals := [Value.int .i64 g.1, Value.int .i64 (-1)]) Try.func98 bd98_z nm98_z rfl) (filled_ok w201 g.1 (-1) (by omega)) ?_
   rintro ⟨d209, v211⟩ w208 ⟨fr210, o212⟩
   obtain ⟨g213, hg213⟩ : ∃ q, q = glue w201.heap.size g206 d209 (fun n => if n = 1 then 12 else 0) := ⟨_, rfl⟩
   have ch214 := chg_glue fr210.below g206 d209 (fun n => if n = 1 then 12 else 0)
   rw [← hg213] at ch214
   replace o212 := o212.glue (γ := g206) (ren := (fun n => if n = 1 then 12 else 0)) (k := 12) fr210.col rfl rfl
   rw [← hg213] at o212
   clear hg213
   replace o200 := (o200.chg ch207 (not_no _) (not_no _)).chg ch214 (not_no _) (not_no _)
   replace o205 := o205.chg ch214 (not_no _) (not_no _)
   refine lv (Value.agg (List.toArray [v198, v204, v211, Value.slice none 0 0])) rfl (e_build (vs := [(0, v198), (1, v204), (2, v211)]) rfl (by rw [Sl.form o200.flat, Sl.form o205.flat, Sl.form o212.flat]; kernel_rfl)) ?_
   refine l_op rfl ?_
   refine o_alloc g213 (is 13) (13, 0) rfl tp109_z ?_
   intro g218 w215 b217 ch216 bx219
   replace bx219 : Bx g218 (is 13) w215 b217 [Value.slice none 0 0, Value.slice none 0 0, Value.slice none 0 0, Value.slice none 0 0] := bx219
   refine l_op rfl ?_
   replace o212 := o212.chg ch216 (not_no _) (not_no _)
   replace o205 := o205.chg ch216 (not_no _) (not_no _)
   replace o200 := o200.chg ch216 (not_no _) (not_no _)
   refine o_store_bx (cs' := [v198, v204, v211, Value.slice none 0 0]) tp109_z rfl rfl bx219 rfl (Nat.le_of_ble_eq_true rfl) (AllOne.all (.cons (sl_one o200.flat) (.cons (sl_one o205.flat) (.cons (sl_one o212.flat) (.cons rfl .nil))))) rfl ?_
   intro w220 ch221 bx222
   clear bx219
   refine l_nil (run_seq (run_region rfl ?_))
   refine lv (Value.pointer (some ⟨b217, 2, none⟩)) rfl (e_fieldAddr Try.underlying109 rfl rfl rfl rfl) ?_
   refine lv (v211) rfl (e_load_bx1 tp27_z rfl bx222 rfl) ?_
   refine lv (Value.int .i64 (q : Int)) rfl (e_move rfl) ?_
   replace o212 := o212.chg ch221 (is_ne rfl) (is_ne rfl)
   refine lv (Value.pointer (some (eAddr v211 1 (Int.toNat (q : Int))))) rfl (e_indexAddr (α := Int) (xs := List.replicate g.1.toNat (-1)) (v := v211) (i := (q : Int)) Try.underlying27 rfl rfl o212.flat rfl (by omega) (by first | omega | (simp only [List.length_set, List.length_append, List.length_cons, List.length_nil, List.length_replicate, List.length_map, List.length_take, List.length_drop]; omega) | (simp; done) | (simp; omega))) ?_
   refine l_op rfl ?_
   refine o_store_el (i := (q : Int)) 0 tp3_z rfl rfl o212 (by omega) (by first | omega | (simp only [List.length_set, List.length_append, List.length_cons, List.length_nil, List.length_replicate, List.length_map, List.length_take, List.length_drop]; omega) | (simp; done) | (simp; omega)) rfl ?_
   intro w223 ch224 bx225
   clear o212
   refine l_nil (run_seq (run_region rfl ?_))
   replace bx222 := bx222.chg ch224 (is_ne rfl)
   refine lv (Value.agg (List.toArray [v198, v204, v211, Value.slice none 0 0])) rfl (e_load_bxN (ds := [v198, v204, v211, Value.slice none 0 0]) tp109_z rfl bx222 rfl rfl) ?_
   refine l_op rfl ?_
   have C229 : Chg (inl [12, 13]) _ _ _ _ := (ch199.n).seq ((ch207.n).seq ((ch214.n).seq ((ch216.n).seq ((ch221.l rfl).seq (ch224.l rfl)))))
   replace bx195 := bx195.chg C229 (is_nl rfl)
   replace o205 := (o205.chg ch221 (is_ne rfl) (is_ne rfl)).chg ch224 (is_ne rfl) (is_ne rfl)
   replace o200 := (o200.chg ch221 (is_ne rfl) (is_ne rfl)).chg ch224 (is_ne rfl) (is_ne rfl)
   refine o_store_bx (cs' := [v198, v204, v211, Value.slice none 0 0]) tp109_z rfl rfl bx195 rfl (Nat.le_of_ble_eq_true rfl) (AllOne.all (.cons (sl_one o200.flat) (.cons (sl_one o205.flat) (.cons (sl_one bx225.flat) (.cons rfl .nil))))) rfl ?_
   intro w226 ch227 bx228
   clear bx195
   refine l_nil ?_
   refine run_ret (vs := [Value.agg (List.toArray [v198, v204, v211, Value.slice none 0 0])]) Try.func107 (.cell rfl (load_bxN (ds := [v198, v204, v211, Value.slice none 0 0]) tp109_z bx228 rfl rfl) .nil) ?_
   refine ⟨Value.agg (List.toArray [v198, v204, v211, Value.slice none 0 0]), rfl, ?_⟩
   refine l_op rfl ?_
   refine o_alloc g218 (is 14) (14, 0) rfl tp109_z ?_
   intro g233 w230 b232 ch231 bx234
   replace bx234 : Bx g233 (is 14) w230 b232 [Value.slice none 0 0, Value.slice none 0 0, Value.slice none 0 0, Value.slice none 0 0] := bx234
   refine l_op rfl ?_
   replace bx225 := (bx225.chg ch227 (is_ne rfl) (is_ne rfl)).chg ch231 (not_no _) (not_no _)
   replace o205 := (o205.chg ch227 (is_ne rfl) (is_ne rfl)).chg ch231 (not_no _) (not_no _)
   replace o200 := (o200.chg ch227 (is_ne rfl) (is_ne rfl)).chg ch231 (not_no _) (not_no _)
   refine o_store_bx (cs' := [v198, v204, v211, Value.slice none 0 0]) tp109_z rfl rfl bx234 rfl (Nat.le_of_ble_eq_true rfl) (AllOne.all (.cons (sl_one o200.flat) (.cons (sl_one o205.flat) (.cons (sl_one bx225.flat) (.cons rfl .nil))))) rfl ?_
   intro w235 ch236 bx237
   clear bx234
   refine l_nil (run_seq (run_seq ?_))
   clear bx222 bx228
   refine run_region rfl ?_
   refine lv (Value.int .i64 0) rfl (e_assign rfl) ?_
   refine l_nil ?_
   refine run_block ?_
   refine run_loop (σ := Value × (List Int) × Nat × (List Int) × (List Int) × Cmap) (fun ⟨Or_c2_v, Or_c2, i_c2, By_c2, Fa_c2, gq⟩ f w => Base w0 gq w ∧ f 0 = Value.pointer (some ⟨b23, 0, none⟩) ∧ f 4 = Value.pointer (some ⟨b188, 0, none⟩) ∧ f 5 = Value.pointer (some ⟨b232, 0, none⟩) ∧ f 6 = Value.int .i64 (i_c2 : Int) ∧ Sl gq (is 0) w g_v g.2 ∧ Nst gq 3 w v17 O_c1 ∧ Bx gq (is 4) w b23 [Value.int .i64 g.1, g_v, v17] ∧ Ow gq (is 7) (is 7) w v178 part ∧ Bx gq (is 8) w b188 [Value.slice none 0 0, Value.slice none 0 0, Value.slice none 0 0, Value.slice none 0 0] ∧ Ow gq (is 11) (is 11) w v204 By_c2 ∧ Ow gq (is 12) (is 12) w v211 Fa_c2 ∧ Bx gq (is 14) w b232 [Or_c2_v, v204, v211, Value.slice none 0 0] ∧ Ow gq (is 10) (is 10) w Or_c2_v Or_c2 ∧ (GoInv ⟨Or_c2, By_c2, Fa_c2⟩ g (q : Int) i_c2)) (fun ⟨Or_c2_v, Or_c2, i_c2, By_c2, Fa_c2, gq⟩ => Int.toNat g.1 - i_c2) (v198, [(q : Int)], 0, List.replicate g.1.toNat (-1), (List.set (List.replicate g.1.toNat (-1)) (Int.toNat (q : Int)) 0), g233) ?_ ?_
   have C238 : Chg (inl [9, 12, 13, 14]) _ _ _ _ := (ch187.n).seq ((ch192.n).seq ((ch199.n).seq ((ch207.n).seq ((ch214.n).seq ((ch216.n).seq ((ch221.l rfl).seq ((ch224.l rfl).seq ((ch227.l rfl).seq ((ch231.n).seq (ch236.l rfl))))))))))
   replace hbase := hbase.chg C238 (is_nl rfl)
   replace r_g_v := r_g_v.chg C238 (is_nl rfl)
   replace o19 := o19.chg C238 (is_nl rfl)
   have C239 : Chg (inl [9, 12, 13, 14]) _ _ _ _ := (ch192.n).seq ((ch199.n).seq ((ch207.n).seq ((ch214.n).seq ((ch216.n).seq ((ch221.l rfl).seq ((ch224.l rfl).seq ((ch227.l rfl).seq ((ch231.n).seq (ch236.l rfl)))))))))
   replace bx25 := bx25.chg C239 (is_nl rfl)
   replace o179 := o179.chg C238 (is_nl rfl) (is_nl rfl)
   replace bx190 := bx190.chg C239 (is_nl rfl)
   replace o205 := o205.chg ch236 (is_ne rfl) (is_ne rfl)
   replace bx225 := bx225.chg ch236 (is_ne rfl) (is_ne rfl)
   replace o200 := o200.chg ch236 (is_ne rfl) (is_ne rfl)
   · exact ⟨hbase, rfl, rfl, rfl, rfl, r_g_v, o19, bx25, o179, bx190, o205, bx225, bx237, o200, by exact GoInv.start (by omega) (by omega)⟩
   clear r_g_v o19 bx25 o179 bx190 o200 o205 bx225 bx237 hbase
   rintro ⟨Or_c2_v, Or_c2, i_c2, By_c2, Fa_c2, g242⟩ f240 w241 ⟨hbase, zs0_c2, zs4_c2, zs5_c2, zs6_c2, r_g_v, o19, bx25, o179, bx190, o205, bx225, bx237, o_Or_c2, hgo_c2⟩ back3_c2
   obtain ⟨hgf, hgb, hgl, hgi⟩ := hgo_c2.facts hm1
   refine run_seq (run_seq (run_region rfl ?_))
   refine lv (Value.int .i64 (i_c2 : Int)) rfl (e_move (by exact zs6_c2)) ?_
   refine lv (Value.pointer (some ⟨b232, 0, none⟩)) rfl (e_fieldAddr Try.underlying109 rfl rfl (by exact zs5_c2) rfl) ?_
   refine lv (Or_c2_v) rfl (e_load_bx1 tp27_z rfl bx237 rfl) ?_
   have len243 := (o_Or_c2.flat).small
   refine lv (Value.int .i64 (List.length Or_c2 : Int)) rfl (e_len Try.underlying27 rfl o_Or_c2.flat) ?_
   refine lv (Value.bool (decide ((i_c2 : Int) < (List.length Or_c2 : Int)))) rfl (e_lss (m := (i_c2 : Int)) (n := (List.length Or_c2 : Int)) rfl rfl) ?_
   refine l_nil ?_
   by_cases p3_c2 : (i_c2 : Int) < (List.length Or_c2 : Int)
   ·
    refine run_cond_t rfl (decide_eq_true p3_c2) ?_
    have hnode := hgo_c2.node (by assumption)
    have hO1 := hov_c1.len
    refine run_skip ?_
    refine run_seq ?_
    refine run_block ?_
    refine run_seq (run_region rfl ?_)
    refine lv (Value.pointer (some ⟨b232, 0, none⟩)) rfl (e_fieldAddr Try.underlying109 rfl rfl (by exact zs5_c2) rfl) ?_
    refine lv (Or_c2_v) rfl (e_load_bx1 tp27_z rfl bx237 rfl) ?_
    refine lv (Value.int .i64 (i_c2 : Int)) rfl (e_move (by exact zs6_c2)) ?_
    refine lv (Value.pointer (some (eAddr Or_c2_v 1 (Int.toNat (i_c2 : Int))))) rfl (e_indexAddr (α := Int) (xs := Or_c2) (v := Or_c2_v) (i := (i_c2 : Int)) Try.underlying27 rfl rfl o_Or_c2.flat rfl (by omega) (by omega)) ?_
    refine lv (Value.int .i64 (gI Or_c2 (i_c2 : Int))) rfl (e_load_el1 (α := Int) (xs := Or_c2) (v := Or_c2_v) (i := (i_c2 : Int)) tp3_z rfl o_Or_c2.flat (by omega) (by omega) (by decide) rfl) ?_
    refine lv (Value.int .i64 (gI Or_c2 (i_c2 : Int))) rfl (e_assign rfl) ?_
    refine l_nil (run_seq (run_region rfl ?_))
    refine lv (Value.pointer (some ⟨b23, 0, none⟩)) rfl (e_move (by exact zs0_c2)) ?_
    refine lv (Value.pointer (some ⟨b23, 0, none⟩)) rfl (e_nilCheck rfl) ?_
    refine lv (Value.pointer (some ⟨b23, 2, none⟩)) rfl (e_fieldAddr Try.underlying116 rfl rfl rfl rfl) ?_
    refine lv (v17) rfl (e_load_bx1 tp25_z rfl bx25 rfl) ?_
    refine lv (Value.int .i64 (gI Or_c2 (i_c2 : Int))) rfl (e_move rfl) ?_
    refine lv (Value.pointer (some (eAddr v17 1 (Int.toNat (gI Or_c2 (i_c2 : Int)))))) rfl (e_indexAddr (α := List Int) (xs := O_c1) (v := v17) (i := (gI Or_c2 (i_c2 : Int))) Try.underlying25 rfl rfl o19.sl rfl (by omega) (by omega)) ?_
    obtain ⟨v244, cel245, r246⟩ := nst_row (r := (gI Or_c2 (i_c2 : Int))) o19 (by omega) (by omega)
    refine lv (v244) rfl (e_load1 tp27_z rfl cel245) ?_
    have len247 := (r246.row_sl).small
    refine lv (Value.int .i64 (List.length (gI O_c1 (gI Or_c2 (i_c2 : Int))) : Int)) rfl (e_len Try.underlying27 rfl r246.row_sl) ?_
    refine lv (Value.int .i64 0) rfl (e_move rfl) ?_
    refine l_nil ?_
    refine run_block ?_
    refine run_loop (σ := Value × (List Int) × Nat × (List Int) × (List Int) × Cmap) (fun ⟨Os_c2_v, Os_c2, j_c2, Bs_c2, Fs_c2, gq⟩ f w => Base w0 gq w ∧ f 0 = Value.pointer (some ⟨b23, 0, none⟩) ∧ f 4 = Value.pointer (some ⟨b188, 0, none⟩) ∧ f 5 = Value.pointer (some ⟨b232, 0, none⟩) ∧ f 6 = Value.int .i64 (i_c2 : Int) ∧ f 7 = Value.int .i64 (gI Or_c2 (i_c2 : Int)) ∧ f 35 = v244 ∧ f 36 = Value.int .i64 (List.length (gI O_c1 (gI Or_c2 (i_c2 : Int))) : Int) ∧ f 37 = Value.int .i64 (j_c2 : Int) ∧ Sl gq (is 0) w g_v g.2 ∧ Nst gq 3 w v17 O_c1 ∧ Bx gq (is 4) w b23 [Value.int .i64 g.1, g_v, v17] ∧ Ow gq (is 7) (is 7) w v178 part ∧ Bx gq (is 8) w b188 [Value.slice none 0 0, Value.slice none 0 0, Value.slice none 0 0, Value.slice none 0 0] ∧ Ow gq (is 11) (is 11) w v204 Bs_c2 ∧ Ow gq (is 12) (is 12) w v211 Fs_c2 ∧ Bx gq (is 14) w b232 [Os_c2_v, v204, v211, Value.slice none 0 0] ∧ Ow gq (row 3 (Int.toNat (gI Or_c2 (i_c2 : Int)) + 1)) (row 3 (Int.toNat (gI Or_c2 (i_c2 : Int)) + 1)) w v244 (gI O_c1 (gI Or_c2 (i_c2 : Int))) ∧ Ow gq (is 10) (is 10) w Os_c2_v Os_c2 ∧ (j_c2 : Int) ≤ ((List.length (gI O_c1 (gI Or_c2 (i_c2 : Int))) : Int) : Int) ∧ (RowInv ⟨Os_c2, Bs_c2, Fs_c2⟩ g ⟨Or_c2, By_c2, Fa_c2⟩ (gI Or_c2 (i_c2 : Int)) j_c2)) (fun ⟨Os_c2_v, Os_c2, j_c2, Bs_c2, Fs_c2, gq⟩ => Int.toNat (((List.length (gI O_c1 (gI Or_c2 (i_c2 : Int))) : Int) : Int) - (j_c2 : Int))) (Or_c2_v, Or_c2, 0, By_c2, Fa_c2, g242) ?_ ?_
    · exact ⟨hbase, (by exact zs0_c2), (by exact zs4_c2), (by exact zs5_c2), (by exact zs6_c2), rfl, rfl, rfl, rfl, r_g_v, o19, bx25, o179, bx190, o205, bx225, bx237, r246, o_Or_c2, by omega, by exact hgo_c2.row (by assumption)⟩
    clear r_g_v o19 bx25 o179 bx190 o205 bx225 bx237 o_Or_c2 cel245 r246 hbase
    rintro ⟨Os_c2_v, Os_c2, j_c2, Bs_c2, Fs_c2, g250⟩ f248 w249 ⟨hbase, zs0_c2, zs4_c2, zs5_c2, zs6_c2, zs7_c2, zs35_c2, zs36_c2, zs37_c2, r_g_v, o19, bx25, o179, bx190, o205, bx225, bx237, r246, o_Os_c2, hle_j_c2, hrw⟩ back7_c2
    obtain ⟨hr1, hr2, hr3, hr4, hr5, hr6⟩ := hrw.facts hm1
    have hrow := hOut _ hr4.1 hr4.2
    refine run_seq (run_region rfl ?_)
    refine lv (Value.bool (decide ((j_c2 : Int) < (List.length (gI O_c1 (gI Or_c2 (i_c2 : Int))) : Int)))) rfl (e_lss (m := (j_c2 : Int)) (n := (List.length (gI O_c1 (gI Or_c2 (i_c2 : Int))) : Int)) (by exact zs37_c2) (by exact zs36_c2)) ?_
    refine l_nil (run_seq ?_)
    by_cases p7_c2 : (j_c2 : Int) < (List.length (gI O_c1 (gI Or_c2 (i_c2 : Int))) : Int)
    ·
     refine run_cond_t rfl (decide_eq_true p7_c2) ?_
     have hjl : (j_c2 : Int) < (outS g (gI Or_c2 (i_c2 : Int))).length := by rw [← hrow]; assumption
     have hhe : gI (gI O_c1 (gI Or_c2 (i_c2 : Int))) (j_c2 : Int) = gI (outS g (gI Or_c2 (i_c2 : Int))) (j_c2 : Int) := by rw [hrow]
     have hhr := (outS_in (gI_mem (xs := outS g (gI Or_c2 (i_c2 : Int))) (i := (j_c2 : Int)) (by omega) hjl)).1
     rw [← hhe] at hhr
     have hti := toS_in hm hhr.1 hhr.2
     unfold toS at hti
     refine run_skip ?_
     refine run_seq ?_
     refine run_block ?_
     refine run_seq (run_region rfl ?_)
     refine lv (Value.pointer (some (eAddr v244 1 (Int.toNat (j_c2 : Int))))) rfl (e_indexAddr (α := Int) (xs := gI O_c1 (gI Or_c2 (i_c2 : Int))) (v := v244) (i := (j_c2 : Int)) Try.underlying27 rfl (by exact zs35_c2) r246.row_sl (by exact zs37_c2) (by omega) (by omega)) ?_
     refine lv (Value.int .i64 (gI (gI O_c1 (gI Or_c2 (i_c2 : Int))) (j_c2 : Int))) rfl (e_load_el1 (α := Int) (xs := gI O_c1 (gI Or_c2 (i_c2 : Int))) (v := v244) (i := (j_c2 : Int)) tp3_z rfl r246.row_sl (by omega) (by omega) (by decide) rfl) ?_
     refine lv (Value.int .i64 (gI (gI O_c1 (gI Or_c2 (i_c2 : Int))) (j_c2 : Int))) rfl (e_assign rfl) ?_
     refine l_nil (run_seq ?_)
     refine region_mid (σ := Cmap) (fun gq f w => Base w0 gq w ∧ f 0 = Value.pointer (some ⟨b23, 0, none⟩) ∧ f 4 = Value.pointer (some ⟨b188, 0, none⟩) ∧ f 5 = Value.pointer (some ⟨b232, 0, none⟩) ∧ f 6 = Value.int .i64 (i_c2 : Int) ∧ f 7 = Value.int .i64 (gI Or_c2 (i_c2 : Int)) ∧ f 9 = Value.int .i64 (gI (gI O_c1 (gI Or_c2 (i_c2 : Int))) (j_c2 : Int)) ∧ f 35 = v244 ∧ f 36 = Value.int .i64 (List.length (gI O_c1 (gI Or_c2 (i_c2 : Int))) : Int) ∧ f 37 = Value.int .i64 (j_c2 : Int) ∧ f 48 = Value.bool (decide ((gI Fs_c2 (pI (gI g.2 ((gI (gI O_c1 (gI Or_c2 (i_c2 : Int))) (j_c2 : Int)) / 2)) (1 - ((gI (gI O_c1 (gI Or_c2 (i_c2 : Int))) (j_c2 : Int)) % 2)))) < 0)) ∧ Sl gq (is 0) w g_v g.2 ∧ Nst gq 3 w v17 O_c1 ∧ Bx gq (is 4) w b23 [Value.int .i64 g.1, g_v, v17] ∧ Ow gq (is 7) (is 7) w v178 part ∧ Bx gq (is 8) w b188 [Value.slice none 0 0, Value.slice none 0 0, Value.slice none 0 0, Value.slice none 0 0] ∧ Ow gq (is 11) (is 11) w v204 Bs_c2 ∧ Ow gq (is 12) (is 12) w v211 Fs_c2 ∧ Bx gq (is 14) w b232 [Os_c2_v, v204, v211, Value.slice none 0 0] ∧ Ow gq (row 3 (Int.toNat (gI Or_c2 (i_c2 : Int)) + 1)) (row 3 (Int.toNat (gI Or_c2 (i_c2 : Int)) + 1)) w v244 (gI O_c1 (gI Or_c2 (i_c2 : Int))) ∧ Ow gq (is 10) (is 10) w Os_c2_v Os_c2) g250 [0, 2, 3, 5, 6, 7] mixed_z ?_ ?_
     ·
      intro mid
      intro w252 ch251
      refine x_pure (v := Value.pointer (some ⟨b232, 2, none⟩)) 0 rfl (by kernel_rfl) (by kernel_rfl) rfl (fun w => e_fieldAddr Try.underlying109 rfl rfl (by exact zs5_c2) rfl) ?_
      refine x_pure (v := Value.pointer (some ⟨b23, 0, none⟩)) 2 rfl (by kernel_rfl) (by kernel_rfl) rfl (fun w => e_move (by exact zs0_c2)) ?_
      refine x_pure (v := Value.int .i64 (gI (gI O_c1 (gI Or_c2 (i_c2 : Int))) (j_c2 : Int))) 3 rfl (by kernel_rfl) (by kernel_rfl) rfl (fun w => e_move rfl) ?_
      refine x_two 1 4 rfl rfl (by kernel_rfl) rfl rfl ?_ ?_
      ·
       replace bx237 := bx237.chg ch251 (not_no _)
       refine o_of_val (v := v211) (e_load_bx1 tp27_z rfl bx237 rfl) ?_
       refine x_one 4 rfl (by kernel_rfl) rfl ?_
       refine o_inline (e_call (vals := [Value.pointer (some ⟨b23, 0, none⟩), Value.int .i64 (gI (gI O_c1 (gI Or_c2 (i_c2 : Int))) (j_c2 : Int))]) Try.func108 bd108_z nm108_z rfl) ?_
       refine calls_of_run Try.func108 rfl (Nat.le_of_ble_eq_true rfl) ?_
       replace r_g_v := r_g_v.chg ch251 (not_no _)
       replace o19 := o19.chg ch251 (not_no _)
       refine run_seq (run_region rfl ?_)
       refine lv (Value.int .i64 0) rfl (e_assign rfl) ?_
       refine l_nil (run_seq (run_region rfl ?_))
       refine lv (Value.pointer (some ⟨b23, 0, none⟩)) rfl (e_move rfl) ?_
       refine lv (Value.pointer (some ⟨b23, 0, none⟩)) rfl (e_nilCheck rfl) ?_
       refine lv (Value.pointer (some ⟨b23, 0, none⟩)) rfl (e_fieldAddr Try.underlying116 rfl rfl rfl rfl) ?_
       refine lv (Value.pointer (some ⟨b23, 1, none⟩)) rfl (e_fieldAddr Try.underlying24 rfl rfl rfl rfl) ?_
       replace bx25 := bx25.chg ch251 (not_no _)
       refine lv (g_v) rfl (e_load_bx1 tp22_z rfl bx25 rfl) ?_
       refine lv (Value.int .i64 (gI (gI O_c1 (gI Or_c2 (i_c2 : Int))) (j_c2 : Int))) rfl (e_move rfl) ?_
       refine lv (Value.int .i64 ((gI (gI O_c1 (gI Or_c2 (i_c2 : Int))) (j_c2 : Int)) / 2)) rfl (e_quo (m := (gI (gI O_c1 (gI Or_c2 (i_c2 : Int))) (j_c2 : Int))) (n := 2) rfl rfl (by omega) (by omega) (by omega)) ?_
       refine lv (Value.int .i64 (gI (gI O_c1 (gI Or_c2 (i_c2 : Int))) (j_c2 : Int))) rfl (e_move rfl) ?_
       refine lv (Value.int .i64 ((gI (gI O_c1 (gI Or_c2 (i_c2 : Int))) (j_c2 : Int)) % 2)) rfl (e_rem (m := (gI (gI O_c1 (gI Or_c2 (i_c2 : Int))) (j_c2 : Int))) (n := 2) rfl rfl (by omega) (by omega)) ?_
       refine lv (Value.int .i64 (1 - ((gI (gI O_c1 (gI Or_c2 (i_c2 : Int))) (j_c2 : Int)) % 2))) rfl (e_sub (m := 1) (n := (gI (gI O_c1 (gI Or_c2 (i_c2 : Int))) (j_c2 : Int)) % 2) rfl rfl (by omega)) ?_
       refine lv (Value.pointer (some (eAddr g_v 2 (Int.toNat ((gI (gI O_c1 (gI Or_c2 (i_c2 : Int))) (j_c2 : Int)) / 2))))) rfl (e_indexAddr (α := (Int) × (Int)) (xs := g.2) (v := g_v) (i := (gI (gI O_c1 (gI Or_c2 (i_c2 : Int))) (j_c2 : Int)) / 2) Try.underlying22 rfl rfl r_g_v rfl (by omega) (by omega)) ?_
       refine lv (Value.pointer (some ⟨(eAddr g_v 2 (Int.toNat ((gI (gI O_c1 (gI Or_c2 (i_c2 : Int))) (j_c2 : Int)) / 2))).block, (eAddr g_v 2 (Int.toNat ((gI (gI O_c1 (gI Or_c2 (i_c2 : Int))) (j_c2 : Int)) / 2))).off + (Int.toNat (1 - ((gI (gI O_c1 (gI Or_c2 (i_c2 : Int))) (j_c2 : Int)) % 2))), none⟩)) rfl (e_indexAddr_el (i := 1 - ((gI (gI O_c1 (gI Or_c2 (i_c2 : Int))) (j_c2 : Int)) % 2)) Try.underlying60 rfl rfl rfl (by omega) (by omega) (Nat.mul_one _)) ?_
       refine lv (Value.int .i64 (pI (gI g.2 ((gI (gI O_c1 (gI Or_c2 (i_c2 : Int))) (j_c2 : Int)) / 2)) (1 - ((gI (gI O_c1 (gI Or_c2 (i_c2 : Int))) (j_c2 : Int)) % 2)))) rfl (e_load_elF (α := (Int) × (Int)) (xs := g.2) (v := g_v) (i := (gI (gI O_c1 (gI Or_c2 (i_c2 : Int))) (j_c2 : Int)) / 2) tp3_z rfl r_g_v (by omega) (by omega) (show Int.toNat (1 - ((gI (gI O_c1 (gI Or_c2 (i_c2 : Int))) (j_c2 : Int)) % 2)) < 2 by omega) (pI_cells _ (by omega) (by omega))) ?_
       refine lv (Value.int .i64 (pI (gI g.2 ((gI (gI O_c1 (gI Or_c2 (i_c2 : Int))) (j_c2 : Int)) / 2)) (1 - ((gI (gI O_c1 (gI Or_c2 (i_c2 : Int))) (j_c2 : Int)) % 2)))) rfl (e_assign rfl) ?_
       refine l_nil ?_
       refine run_ret (vs := [Value.int .i64 (pI (gI g.2 ((gI (gI O_c1 (gI Or_c2 (i_c2 : Int))) (j_c2 : Int)) / 2)) (1 - ((gI (gI O_c1 (gI Or_c2 (i_c2 : Int))) (j_c2 : Int)) % 2)))]) Try.func108 (.tmp rfl .nil) ?_
       refine ⟨Value.int .i64 (pI (gI g.2 ((gI (gI O_c1 (gI Or_c2 (i_c2 : Int))) (j_c2 : Int)) / 2)) (1 - ((gI (gI O_c1 (gI Or_c2 (i_c2 : Int))) (j_c2 : Int)) % 2))), rfl, ?_⟩
       replace bx225 := bx225.chg ch251 (not_no _) (not_no _)
       refine x_val (v := Value.pointer (some (eAddr v211 1 (Int.toNat (pI (gI g.2 ((gI (gI O_c1 (gI Or_c2 (i_c2 : Int))) (j_c2 : Int)) / 2)) (1 - ((gI (gI O_c1 (gI Or_c2 (i_c2 : Int))) (j_c2 : Int)) % 2))))))) 5 [4, 1, 3, 2, 0] rfl (by kernel_rfl) (by kernel_rfl) rfl (e_indexAddr (α := Int) (xs := Fs_c2) (v := v211) (i := pI (gI g.2 ((gI (gI O_c1 (gI Or_c2 (i_c2 : Int))) (j_c2 : Int)) / 2)) (1 - ((gI (gI O_c1 (gI Or_c2 (i_c2 : Int))) (j_c2 : Int)) % 2))) Try.underlying27 rfl rfl bx225.flat rfl (by omega) (by omega)) ?_
       refine x_val (v := Value.int .i64 (gI Fs_c2 (pI (gI g.2 ((gI (gI O_c1 (gI Or_c2 (i_c2 : Int))) (j_c2 : Int)) / 2)) (1 - ((gI (gI O_c1 (gI Or_c2 (i_c2 : Int))) (j_c2 : Int)) % 2))))) 6 [5, 4, 1, 3, 2, 0] rfl (by kernel_rfl) (by kernel_rfl) rfl (e_load_el1 (α := Int) (xs := Fs_c2) (v := v211) (i := pI (gI g.2 ((gI (gI O_c1 (gI Or_c2 (i_c2 : Int))) (j_c2 : Int)) / 2)) (1 - ((gI (gI O_c1 (gI Or_c2 (i_c2 : Int))) (j_c2 : Int)) % 2))) tp3_z rfl bx225.flat (by omega) (by omega) (by decide) rfl) ?_
       refine x_pure (v := Value.bool (decide ((gI Fs_c2 (pI (gI g.2 ((gI (gI O_c1 (gI Or_c2 (i_c2 : Int))) (j_c2 : Int)) / 2)) (1 - ((gI (gI O_c1 (gI Or_c2 (i_c2 : Int))) (j_c2 : Int)) % 2)))) < 0))) 7 rfl (by kernel_rfl) (by kernel_rfl) rfl (fun w => e_lss (m := (gI Fs_c2 (pI (gI g.2 ((gI (gI O_c1 (gI Or_c2 (i_c2 : Int))) (j_c2 : Int)) / 2)) (1 - ((gI (gI O_c1 (gI Or_c2 (i_c2 : Int))) (j_c2 : Int)) % 2))))) (n := 0) rfl rfl) ?_
       refine x_nil (by kernel_rfl) ?_
       replace hbase := hbase.chg ch251 (not_no _)
       replace o179 := o179.chg ch251 (not_no _) (not_no _)
       replace bx190 := bx190.chg ch251 (not_no _)
       replace o205 := o205.chg ch251 (not_no _) (not_no _)
       replace r246 := r246.chg ch251 (not_no _) (not_no _)
       replace o_Os_c2 := o_Os_c2.chg ch251 (not_no _) (not_no _)
       exact mid (g250) _ _ ⟨hbase, (by exact zs0_c2), (by exact zs4_c2), (by exact zs5_c2), (by exact zs6_c2), (by exact zs7_c2), rfl, (by exact zs35_c2), (by exact zs36_c2), (by exact zs37_c2), rfl, r_g_v, o19, bx25, o179, bx190, o205, bx225, bx237, r246, o_Os_c2⟩
      ·
       refine o_inline (e_call (vals := [Value.pointer (some ⟨b23, 0, none⟩), Value.int .i64 (gI (gI O_c1 (gI Or_c2 (i_c2 : Int))) (j_c2 : Int))]) Try.func108 bd108_z nm108_z rfl) ?_
       refine calls_of_run Try.func108 rfl (Nat.le_of_ble_eq_true rfl) ?_
       replace r_g_v := r_g_v.chg ch251 (not_no _)
       replace o19 := o19.chg ch251 (not_no _)
       refine run_seq (run_region rfl ?_)
       refine lv (Value.int .i64 0) rfl (e_assign rfl) ?_
       refine l_nil (run_seq (run_region rfl ?_))
       refine lv (Value.pointer (some ⟨b23, 0, none⟩)) rfl (e_move rfl) ?_
       refine lv (Value.pointer (some ⟨b23, 0, none⟩)) rfl (e_nilCheck rfl) ?_
       refine lv (Value.pointer (some ⟨b23, 0, none⟩)) rfl (e_fieldAddr Try.underlying116 rfl rfl rfl rfl) ?_
       refine lv (Value.pointer (some ⟨b23, 1, none⟩)) rfl (e_fieldAddr Try.underlying24 rfl rfl rfl rfl) ?_
       replace bx25 := bx25.chg ch251 (not_no _)
       refine lv (g_v) rfl (e_load_bx1 tp22_z rfl bx25 rfl) ?_
       refine lv (Value.int .i64 (gI (gI O_c1 (gI Or_c2 (i_c2 : Int))) (j_c2 : Int))) rfl (e_move rfl) ?_
       refine lv (Value.int .i64 ((gI (gI O_c1 (gI Or_c2 (i_c2 : Int))) (j_c2 : Int)) / 2)) rfl (e_quo (m := (gI (gI O_c1 (gI Or_c2 (i_c2 : Int))) (j_c2 : Int))) (n := 2) rfl rfl (by omega) (by omega) (by omega)) ?_
       refine lv (Value.int .i64 (gI (gI O_c1 (gI Or_c2 (i_c2 : Int))) (j_c2 : Int))) rfl (e_move rfl) ?_
       refine lv (Value.int .i64 ((gI (gI O_c1 (gI Or_c2 (i_c2 : Int))) (j_c2 : Int)) % 2)) rfl (e_rem (m := (gI (gI O_c1 (gI Or_c2 (i_c2 : Int))) (j_c2 : Int))) (n := 2) rfl rfl (by omega) (by omega)) ?_
       refine lv (Value.int .i64 (1 - ((gI (gI O_c1 (gI Or_c2 (i_c2 : Int))) (j_c2 : Int)) % 2))) rfl (e_sub (m := 1) (n := (gI (gI O_c1 (gI Or_c2 (i_c2 : Int))) (j_c2 : Int)) % 2) rfl rfl (by omega)) ?_
       refine lv (Value.pointer (some (eAddr g_v 2 (Int.toNat ((gI (gI O_c1 (gI Or_c2 (i_c2 : Int))) (j_c2 : Int)) / 2))))) rfl (e_indexAddr (α := (Int) × (Int)) (xs := g.2) (v := g_v) (i := (gI (gI O_c1 (gI Or_c2 (i_c2 : Int))) (j_c2 : Int)) / 2) Try.underlying22 rfl rfl r_g_v rfl (by omega) (by omega)) ?_
       refine lv (Value.pointer (some ⟨(eAddr g_v 2 (Int.toNat ((gI (gI O_c1 (gI Or_c2 (i_c2 : Int))) (j_c2 : Int)) / 2))).block, (eAddr g_v 2 (Int.toNat ((gI (gI O_c1 (gI Or_c2 (i_c2 : Int))) (j_c2 : Int)) / 2))).off + (Int.toNat (1 - ((gI (gI O_c1 (gI Or_c2 (i_c2 : Int))) (j_c2 : Int)) % 2))), none⟩)) rfl (e_indexAddr_el (i := 1 - ((gI (gI O_c1 (gI Or_c2 (i_c2 : Int))) (j_c2 : Int)) % 2)) Try.underlying60 rfl rfl rfl (by omega) (by omega) (Nat.mul_one _)) ?_
       refine lv (Value.int .i64 (pI (gI g.2 ((gI (gI O_c1 (gI Or_c2 (i_c2 : Int))) (j_c2 : Int)) / 2)) (1 - ((gI (gI O_c1 (gI Or_c2 (i_c2 : Int))) (j_c2 : Int)) % 2)))) rfl (e_load_elF (α := (Int) × (Int)) (xs := g.2) (v := g_v) (i := (gI (gI O_c1 (gI Or_c2 (i_c2 : Int))) (j_c2 : Int)) / 2) tp3_z rfl r_g_v (by omega) (by omega) (show Int.toNat (1 - ((gI (gI O_c1 (gI Or_c2 (i_c2 : Int))) (j_c2 : Int)) % 2)) < 2 by omega) (pI_cells _ (by omega) (by omega))) ?_
       refine lv (Value.int .i64 (pI (gI g.2 ((gI (gI O_c1 (gI Or_c2 (i_c2 : Int))) (j_c2 : Int)) / 2)) (1 - ((gI (gI O_c1 (gI Or_c2 (i_c2 : Int))) (j_c2 : Int)) % 2)))) rfl (e_assign rfl) ?_
       refine l_nil ?_
       refine run_ret (vs := [Value.int .i64 (pI (gI g.2 ((gI (gI O_c1 (gI Or_c2 (i_c2 : Int))) (j_c2 : Int)) / 2)) (1 - ((gI (gI O_c1 (gI Or_c2 (i_c2 : Int))) (j_c2 : Int)) % 2)))]) Try.func108 (.tmp rfl .nil) ?_
       refine ⟨Value.int .i64 (pI (gI g.2 ((gI (gI O_c1 (gI Or_c2 (i_c2 : Int))) (j_c2 : Int)) / 2)) (1 - ((gI (gI O_c1 (gI Or_c2 (i_c2 : Int))) (j_c2 : Int)) % 2))), rfl, ?_⟩
       replace bx237 := bx237.chg ch251 (not_no _)
       refine x_one 1 rfl (by kernel_rfl) rfl ?_
       refine o_of_val (v := v211) (e_load_bx1 tp27_z rfl bx237 rfl) ?_
       replace bx225 := bx225.chg ch251 (not_no _) (not_no _)
       refine x_val (v := Value.pointer (some (eAddr v211 1 (Int.toNat (pI (gI g.2 ((gI (gI O_c1 (gI Or_c2 (i_c2 : Int))) (j_c2 : Int)) / 2)) (1 - ((gI (gI O_c1 (gI Or_c2 (i_c2 : Int))) (j_c2 : Int)) % 2))))))) 5 [1, 4, 3, 2, 0] rfl (by kernel_rfl) (by kernel_rfl) rfl (e_indexAddr (α := Int) (xs := Fs_c2) (v := v211) (i := pI (gI g.2 ((gI (gI O_c1 (gI Or_c2 (i_c2 : Int))) (j_c2 : Int)) / 2)) (1 - ((gI (gI O_c1 (gI Or_c2 (i_c2 : Int))) (j_c2 : Int)) % 2))) Try.underlying27 rfl rfl bx225.flat rfl (by omega) (by omega)) ?_
       refine x_val (v := Value.int .i64 (gI Fs_c2 (pI (gI g.2 ((gI (gI O_c1 (gI Or_c2 (i_c2 : Int))) (j_c2 : Int)) / 2)) (1 - ((gI (gI O_c1 (gI Or_c2 (i_c2 : Int))) (j_c2 : Int)) % 2))))) 6 [5, 1, 4, 3, 2, 0] rfl (by kernel_rfl) (by kernel_rfl) rfl (e_load_el1 (α := Int) (xs := Fs_c2) (v := v211) (i := pI (gI g.2 ((gI (gI O_c1 (gI Or_c2 (i_c2 : Int))) (j_c2 : Int)) / 2)) (1 - ((gI (gI O_c1 (gI Or_c2 (i_c2 : Int))) (j_c2 : Int)) % 2))) tp3_z rfl bx225.flat (by omega) (by omega) (by decide) rfl) ?_
       refine x_pure (v := Value.bool (decide ((gI Fs_c2 (pI (gI g.2 ((gI (gI O_c1 (gI Or_c2 (i_c2 : Int))) (j_c2 : Int)) / 2)) (1 - ((gI (gI O_c1 (gI Or_c2 (i_c2 : Int))) (j_c2 : Int)) % 2)))) < 0))) 7 rfl (by kernel_rfl) (by kernel_rfl) rfl (fun w => e_lss (m := (gI Fs_c2 (pI (gI g.2 ((gI (gI O_c1 (gI Or_c2 (i_c2 : Int))) (j_c2 : Int)) / 2)) (1 - ((gI (gI O_c1 (gI Or_c2 (i_c2 : Int))) (j_c2 : Int)) % 2))))) (n := 0) rfl rfl) ?_
       refine x_nil (by kernel_rfl) ?_
       replace hbase := hbase.chg ch251 (not_no _)
       replace o179 := o179.chg ch251 (not_no _) (not_no _)
       replace bx190 := bx190.chg ch251 (not_no _)
       replace o205 := o205.chg ch251 (not_no _) (not_no _)
       replace r246 := r246.chg ch251 (not_no _) (not_no _)
       replace o_Os_c2 := o_Os_c2.chg ch251 (not_no _) (not_no _)
       exact mid (g250) _ _ ⟨hbase, (by exact zs0_c2), (by exact zs4_c2), (by exact zs5_c2), (by exact zs6_c2), (by exact zs7_c2), rfl, (by exact zs35_c2), (by exact zs36_c2), (by exact zs37_c2), rfl, r_g_v, o19, bx25, o179, bx190, o205, bx225, bx237, r246, o_Os_c2⟩
     clear r_g_v o19 bx25 o179 bx190 o205 bx225 bx237 r246 o_Os_c2 hbase
     rintro g255 f253 w254 ⟨hbase, zs0_c2, zs4_c2, zs5_c2, zs6_c2, zs7_c2, zs9_c2, zs35_c2, zs36_c2, zs37_c2, zs48_c2, r_g_v, o19, bx25, o179, bx190, o205, bx225, bx237, r246, o_Os_c2⟩
     by_cases p9_c2 : (gI Fs_c2 (pI (gI g.2 ((gI (gI O_c1 (gI Or_c2 (i_c2 : Int))) (j_c2 : Int)) / 2)) (1 - ((gI (gI O_c1 (gI Or_c2 (i_c2 : Int))) (j_c2 : Int)) % 2)))) < 0
     ·
      refine run_cond_t (by exact zs48_c2) (decide_eq_true p9_c2) ?_
      refine run_region rfl ?_
      refine lv (Value.pointer (some ⟨b23, 0, none⟩)) rfl (e_move (by exact zs0_c2)) ?_
      refine lv (Value.int .i64 (gI (gI O_c1 (gI Or_c2 (i_c2 : Int))) (j_c2 : Int))) rfl (e_move (by exact zs9_c2)) ?_
      refine lv (Value.pointer (some ⟨b232, 2, none⟩)) rfl (e_fieldAddr Try.underlying109 rfl rfl (by exact zs5_c2) rfl) ?_
      refine lv (v211) rfl (e_load_bx1 tp27_z rfl bx237 rfl) ?_
      refine lv (Value.int .i64 (gI Or_c2 (i_c2 : Int))) rfl (e_move (by exact zs7_c2)) ?_
      refine lv (Value.pointer (some (eAddr v211 1 (Int.toNat (gI Or_c2 (i_c2 : Int)))))) rfl (e_indexAddr (α := Int) (xs := Fs_c2) (v := v211) (i := (gI Or_c2 (i_c2 : Int))) Try.underlying27 rfl rfl bx225.flat rfl (by omega) (by omega)) ?_
      refine lv (Value.int .i64 (gI Fs_c2 (gI Or_c2 (i_c2 : Int)))) rfl (e_load_el1 (α := Int) (xs := Fs_c2) (v := v211) (i := (gI Or_c2 (i_c2 : Int))) tp3_z rfl bx225.flat (by omega) (by omega) (by decide) rfl) ?_
      refine lv (Value.int .i64 ((gI Fs_c2 (gI Or_c2 (i_c2 : Int))) + 1)) rfl (e_add (m := (gI Fs_c2 (gI Or_c2 (i_c2 : Int)))) (n := 1) rfl rfl (by omega)) ?_
      refine l_op rfl ?_
      refine o_inline (e_call (vals := [Value.pointer (some ⟨b23, 0, none⟩), Value.pointer (some ⟨b232, 0, none⟩), Value.int .i64 (gI (gI O_c1 (gI Or_c2 (i_c2 : Int))) (j_c2 : Int)), Value.int .i64 ((gI Fs_c2 (gI Or_c2 (i_c2 : Int))) + 1)]) Try.func109 bd109_z nm109_z (mapc rfl (mapc (by exact zs5_c2) (mapc rfl (mapc rfl rfl))))) ?_
      refine calls_of_run Try.func109 rfl (Nat.le_of_ble_eq_true rfl) ?_
      refine run_seq (run_region rfl ?_)
      refine lv (Value.pointer (some ⟨b23, 0, none⟩)) rfl (e_move rfl) ?_
      refine lv (Value.int .i64 (gI (gI O_c1 (gI Or_c2 (i_c2 : Int))) (j_c2 : Int))) rfl (e_move rfl) ?_
      refine l_op rfl ?_
      refine o_inline (e_call (vals := [Value.pointer (some ⟨b23, 0, none⟩), Value.int .i64 (gI (gI O_c1 (gI Or_c2 (i_c2 : Int))) (j_c2 : Int))]) Try.func108 bd108_z nm108_z rfl) ?_
      refine calls_of_run Try.func108 rfl (Nat.le_of_ble_eq_true rfl) ?_
      refine run_seq (run_region rfl ?_)
      refine lv (Value.int .i64 0) rfl (e_assign rfl) ?_
      refine l_nil (run_seq (run_region rfl ?_))
      refine lv (Value.pointer (some ⟨b23, 0, none⟩)) rfl (e_move rfl) ?_
      refine lv (Value.pointer (some ⟨b23, 0, none⟩)) rfl (e_nilCheck rfl) ?_
      refine lv (Value.pointer (some ⟨b23, 0, none⟩)) rfl (e_fieldAddr Try.underlying116 rfl rfl rfl rfl) ?_
      refine lv (Value.pointer (some ⟨b23, 1, none⟩)) rfl (e_fieldAddr Try.underlying24 rfl rfl rfl rfl) ?_
      refine lv (g_v) rfl (e_load_bx1 tp22_z rfl bx25 rfl) ?_
      refine lv (Value.int .i64 (gI (gI O_c1 (gI Or_c2 (i_c2 : Int))) (j_c2 : Int))) rfl (e_move rfl) ?_
      refine lv (Value.int .i64 ((gI (gI O_c1 (gI Or_c2 (i_c2 : Int))) (j_c2 : Int)) / 2)) rfl (e_quo (m := (gI (gI O_c1 (gI Or_c2 (i_c2 : Int))) (j_c2 : Int))) (n := 2) rfl rfl (by omega) (by omega) (by omega)) ?_
      refine lv (Value.int .i64 (gI (gI O_c1 (gI Or_c2 (i_c2 : Int))) (j_c2 : Int))) rfl (e_move rfl) ?_
      refine lv (Value.int .i64 ((gI (gI O_c1 (gI Or_c2 (i_c2 : Int))) (j_c2 : Int)) % 2)) rfl (e_rem (m := (gI (gI O_c1 (gI Or_c2 (i_c2 : Int))) (j_c2 : Int))) (n := 2) rfl rfl (by omega) (by omega)) ?_
      refine lv (Value.int .i64 (1 - ((gI (gI O_c1 (gI Or_c2 (i_c2 : Int))) (j_c2 : Int)) % 2))) rfl (e_sub (m := 1) (n := (gI (gI O_c1 (gI Or_c2 (i_c2 : Int))) (j_c2 : Int)) % 2) rfl rfl (by omega)) ?_
      refine lv (Value.pointer (some (eAddr g_v 2 (Int.toNat ((gI (gI O_c1 (gI Or_c2 (i_c2 : Int))) (j_c2 : Int)) / 2))))) rfl (e_indexAddr (α := (Int) × (Int)) (xs := g.2) (v := g_v) (i := (gI (gI O_c1 (gI Or_c2 (i_c2 : Int))) (j_c2 : Int)) / 2) Try.underlying22 rfl rfl r_g_v rfl (by omega) (by omega)) ?_
      refine lv (Value.pointer (some ⟨(eAddr g_v 2 (Int.toNat ((gI (gI O_c1 (gI Or_c2 (i_c2 : Int))) (j_c2 : Int)) / 2))).block, (eAddr g_v 2 (Int.toNat ((gI (gI O_c1 (gI Or_c2 (i_c2 : Int))) (j_c2 : Int)) / 2))).off + (Int.toNat (1 - ((gI (gI O_c1 (gI Or_c2 (i_c2 : Int))) (j_c2 : Int)) % 2))), none⟩)) rfl (e_indexAddr_el (i := 1 - ((gI (gI O_c1 (gI Or_c2 (i_c2 : Int))) (j_c2 : Int)) % 2)) Try.underlying60 rfl rfl rfl (by omega) (by omega) (Nat.mul_one _)) ?_
      refine lv (Value.int .i64 (pI (gI g.2 ((gI (gI O_c1 (gI Or_c2 (i_c2 : Int))) (j_c2 : Int)) / 2)) (1 - ((gI (gI O_c1 (gI Or_c2 (i_c2 : Int))) (j_c2 : Int)) % 2)))) rfl (e_load_elF (α := (Int) × (Int)) (xs := g.2) (v := g_v) (i := (gI (gI O_c1 (gI Or_c2 (i_c2 : Int))) (j_c2 : Int)) / 2) tp3_z rfl r_g_v (by omega) (by omega) (show Int.toNat (1 - ((gI (gI O_c1 (gI Or_c2 (i_c2 : Int))) (j_c2 : Int)) % 2)) < 2 by omega) (pI_cells _ (by omega) (by omega))) ?_
      refine lv (Value.int .i64 (pI (gI g.2 ((gI (gI O_c1 (gI Or_c2 (i_c2 : Int))) (j_c2 : Int)) / 2)) (1 - ((gI (gI O_c1 (gI Or_c2 (i_c2 : Int))) (j_c2 : Int)) % 2)))) rfl (e_assign rfl) ?_
      refine l_nil ?_
      refine run_ret (vs := [Value.int .i64 (pI (gI g.2 ((gI (gI O_c1 (gI Or_c2 (i_c2 : Int))) (j_c2 : Int)) / 2)) (1 - ((gI (gI O_c1 (gI Or_c2 (i_c2 : Int))) (j_c2 : Int)) % 2)))]) Try.func108 (.tmp rfl .nil) ?_
      refine ⟨Value.int .i64 (pI (gI g.2 ((gI (gI O_c1 (gI Or_c2 (i_c2 : Int))) (j_c2 : Int)) / 2)) (1 - ((gI (gI O_c1 (gI Or_c2 (i_c2 : Int))) (j_c2 : Int)) % 2))), rfl, ?_⟩
      refine lv (Value.int .i64 (pI (gI g.2 ((gI (gI O_c1 (gI Or_c2 (i_c2 : Int))) (j_c2 : Int)) / 2)) (1 - ((gI (gI O_c1 (gI Or_c2 (i_c2 : Int))) (j_c2 : Int)) % 2)))) rfl (e_assign rfl) ?_
      refine l_nil (run_seq (run_region rfl ?_))
      refine lv (Value.pointer (some ⟨b232, 0, none⟩)) rfl (e_move rfl) ?_
      refine lv (Value.pointer (some ⟨b232, 0, none⟩)) rfl (e_move rfl) ?_
      refine lv (Value.pointer (some ⟨b232, 0, none⟩)) rfl (e_nilCheck rfl) ?_
      refine lv (Value.pointer (some ⟨b232, 0, none⟩)) rfl (e_fieldAddr Try.underlying109 rfl rfl rfl rfl) ?_
      refine lv (Os_c2_v) rfl (e_load_bx1 tp27_z rfl bx237 rfl) ?_
      refine lv (Value.int .i64 (pI (gI g.2 ((gI (gI O_c1 (gI Or_c2 (i_c2 : Int))) (j_c2 : Int)) / 2)) (1 - ((gI (gI O_c1 (gI Or_c2 (i_c2 : Int))) (j_c2 : Int)) % 2)))) rfl (e_move rfl) ?_
      refine l_op rfl ?_
      refine o_buildSlice (α := Int) g255 (is 17) (is 17) (17, 0) rfl [pI (gI g.2 ((gI (gI O_c1 (gI Or_c2 (i_c2 : Int))) (j_c2 : Int)) / 2)) (1 - ((gI (gI O_c1 (gI Or_c2 (i_c2 : Int))) (j_c2 : Int)) % 2))] Try.underlying27 tp3_z (by decide) (by decide) (vs := [(0, Value.int .i64 (pI (gI g.2 ((gI (gI O_c1 (gI Or_c2 (i_c2 : Int))) (j_c2 : Int)) / 2)) (1 - ((gI (gI O_c1 (gI Or_c2 (i_c2 : Int))) (j_c2 : Int)) % 2))))]) rfl rfl (.cons rfl .nil) ?_
      intro g256 w257 v258 ch259 o260
      refine l_op rfl ?_
      replace o_Os_c2 := o_Os_c2.chg ch259 (not_no _) (not_no _)
      refine o_append (α := Int) (xs := Os_c2) (ys := ([pI (gI g.2 ((gI (gI O_c1 (gI Or_c2 (i_c2 : Int))) (j_c2 : Int)) / 2)) (1 - ((gI (gI O_c1 (gI Or_c2 (i_c2 : Int))) (j_c2 : Int)) % 2))])) g256 (J := is 10) (S := is 10) (10, 0) rfl Try.underlying27 tp3_z (by decide) rfl rfl rfl o_Os_c2 o260.flat (by decide) (by first | omega | (simp; done) | (simp; omega)) ?_
      intro g261 w262 v263 ch264 o265
      clear o_Os_c2
      refine lv (Value.pointer (some ⟨b232, 0, none⟩)) rfl (e_nilCheck rfl) ?_
      refine lv (Value.pointer (some ⟨b232, 0, none⟩)) rfl (e_fieldAddr Try.underlying109 rfl rfl rfl rfl) ?_
      refine l_op rfl ?_
      replace bx237 := (bx237.chg ch259 (not_no _)).chg ch264 (is_ne rfl)
      refine o_store_bx1 (cs' := [v263, v204, v211, Value.slice none 0 0]) tp27_z rfl rfl bx237 (sl_cells1 o265.flat) (Nat.le_of_ble_eq_true rfl) (sl_one o265.flat) rfl ?_
      intro w266 ch267 bx268
      clear bx237
      refine l_nil ?_
      clear o260
      refine run_region_x g261 [0, 1, 2, 3, 4, 5, 6, 7, 8, 9, 10, 11, 12, 14] mixed_z ?_
      intro w270 ch269
      refine x_pure (v := Value.pointer (some ⟨b232, 0, none⟩)) 0 rfl (by kernel_rfl) (by kernel_rfl) rfl (fun w => e_move rfl) ?_
      refine x_pure (v := Value.pointer (some ⟨b232, 0, none⟩)) 1 rfl (by kernel_rfl) (by kernel_rfl) rfl (fun w => e_nilCheck rfl) ?_
      refine x_pure (v := Value.pointer (some ⟨b232, 1, none⟩)) 2 rfl (by kernel_rfl) (by kernel_rfl) rfl (fun w => e_fieldAddr Try.underlying109 rfl rfl rfl rfl) ?_
      replace bx268 := bx268.chg ch269 (not_no _)
      refine x_val (v := v204) 3 [2, 1, 0, 4, 5, 9, 10, 11, 6, 7, 8] rfl (by kernel_rfl) (by kernel_rfl) rfl (e_load_bx1 tp27_z rfl bx268 rfl) ?_
      refine x_pure (v := Value.int .i64 (pI (gI g.2 ((gI (gI O_c1 (gI Or_c2 (i_c2 : Int))) (j_c2 : Int)) / 2)) (1 - ((gI (gI O_c1 (gI Or_c2 (i_c2 : Int))) (j_c2 : Int)) % 2)))) 4 rfl (by kernel_rfl) (by kernel_rfl) rfl (fun w => e_move rfl) ?_
      refine x_pure (v := Value.pointer (some ⟨b232, 0, none⟩)) 5 rfl (by kernel_rfl) (by kernel_rfl) rfl (fun w => e_move rfl) ?_
      refine x_pure (v := Value.pointer (some ⟨b232, 0, none⟩)) 6 rfl (by kernel_rfl) (by kernel_rfl) rfl (fun w => e_nilCheck rfl) ?_
      refine x_pure (v := Value.pointer (some ⟨b232, 2, none⟩)) 7 rfl (by kernel_rfl) (by kernel_rfl) rfl (fun w => e_fieldAddr Try.underlying109 rfl rfl rfl rfl) ?_
      refine x_val (v := v211) 8 [7, 6, 5, 4, 3, 2, 1, 0, 9, 10, 11] rfl (by kernel_rfl) (by kernel_rfl) rfl (e_load_bx1 tp27_z rfl bx268 rfl) ?_
      refine x_pure (v := Value.int .i64 (pI (gI g.2 ((gI (gI O_c1 (gI Or_c2 (i_c2 : Int))) (j_c2 : Int)) / 2)) (1 - ((gI (gI O_c1 (gI Or_c2 (i_c2 : Int))) (j_c2 : Int)) % 2)))) 9 rfl (by kernel_rfl) (by kernel_rfl) rfl (fun w => e_move rfl) ?_
      refine x_pure (v := Value.int .i64 (gI (gI O_c1 (gI Or_c2 (i_c2 : Int))) (j_c2 : Int))) 10 rfl (by kernel_rfl) (by kernel_rfl) rfl (fun w => e_move rfl) ?_
      refine x_pure (v := Value.int .i64 ((gI Fs_c2 (gI Or_c2 (i_c2 : Int))) + 1)) 11 rfl (by kernel_rfl) (by kernel_rfl) rfl (fun w => e_move rfl) ?_
      have C271 : Chg (inl [10, 14]) _ _ _ _ := (ch259.n).seq ((ch264.l rfl).seq ((ch267.l rfl).seq (ch269.n)))
      replace o205 := o205.chg C271 (is_nl rfl) (is_nl rfl)
      refine x_val (v := Value.pointer (some (eAddr v204 1 (Int.toNat (pI (gI g.2 ((gI (gI O_c1 (gI Or_c2 (i_c2 : Int))) (j_c2 : Int)) / 2)) (1 - ((gI (gI O_c1 (gI Or_c2 (i_c2 : Int))) (j_c2 : Int)) % 2))))))) 12 [11, 10, 9, 8, 7, 6, 5, 4, 3, 2, 1, 0] rfl (by kernel_rfl) (by kernel_rfl) rfl (e_indexAddr (α := Int) (xs := Bs_c2) (v := v204) (i := pI (gI g.2 ((gI (gI O_c1 (gI Or_c2 (i_c2 : Int))) (j_c2 : Int)) / 2)) (1 - ((gI (gI O_c1 (gI Or_c2 (i_c2 : Int))) (j_c2 : Int)) % 2))) Try.underlying27 rfl rfl o205.flat rfl (by omega) (by omega)) ?_
      refine x_one 13 rfl (by kernel_rfl) rfl ?_
      refine o_store_el (i := pI (gI g.2 ((gI (gI O_c1 (gI Or_c2 (i_c2 : Int))) (j_c2 : Int)) / 2)) (1 - ((gI (gI O_c1 (gI Or_c2 (i_c2 : Int))) (j_c2 : Int)) % 2))) (gI (gI O_c1 (gI Or_c2 (i_c2 : Int))) (j_c2 : Int)) tp3_z rfl rfl o205 (by omega) (by omega) rfl ?_
      intro w272 ch273 bx274
      clear o205
      have C275 : Chg (inl [10, 11, 14]) _ _ _ _ := (ch259.n).seq ((ch264.l rfl).seq ((ch267.l rfl).seq ((ch269.n).seq (ch273.l rfl))))
      replace bx225 := bx225.chg C275 (is_nl rfl) (is_nl rfl)
      refine x_val (v := Value.pointer (some (eAddr v211 1 (Int.toNat (pI (gI g.2 ((gI (gI O_c1 (gI Or_c2 (i_c2 : Int))) (j_c2 : Int)) / 2)) (1 - ((gI (gI O_c1 (gI Or_c2 (i_c2 : Int))) (j_c2 : Int)) % 2))))))) 14 [13, 12, 11, 10, 9, 8, 7, 6, 5, 4, 3, 2, 1, 0] rfl (by kernel_rfl) (by kernel_rfl) rfl (e_indexAddr (α := Int) (xs := Fs_c2) (v := v211) (i := pI (gI g.2 ((gI (gI O_c1 (gI Or_c2 (i_c2 : Int))) (j_c2 : Int)) / 2)) (1 - ((gI (gI O_c1 (gI Or_c2 (i_c2 : Int))) (j_c2 : Int)) % 2))) Try.underlying27 rfl rfl bx225.flat rfl (by omega) (by omega)) ?_
      refine x_one 15 rfl (by kernel_rfl) rfl ?_
      refine o_store_el (i := pI (gI g.2 ((gI (gI O_c1 (gI Or_c2 (i_c2 : Int))) (j_c2 : Int)) / 2)) (1 - ((gI (gI O_c1 (gI Or_c2 (i_c2 : Int))) (j_c2 : Int)) % 2))) ((gI Fs_c2 (gI Or_c2 (i_c2 : Int))) + 1) tp3_z rfl rfl bx225 (by omega) (by omega) rfl ?_
      intro w276 ch277 bx278
      clear bx225
      refine x_nil (by kernel_rfl) ?_
      refine run_end (vs := []) Try.func109 .nil ?_
      refine ⟨Value.tuple (List.toArray []), rfl, ?_⟩
      refine l_nil ?_
      refine run_inBlock ?_
      refine run_region rfl ?_
      refine lv (Value.int .i64 ((j_c2 : Int) + 1)) rfl (e_add (m := (j_c2 : Int)) (n := 1) (by exact zs37_c2) rfl (by omega)) ?_
      refine lv (Value.int .i64 ((j_c2 : Int) + 1)) rfl (e_move rfl) ?_
      refine l_nil ?_
      have C279 : Chg (inl [10, 11, 12, 14]) _ _ _ _ := (ch259.n).seq ((ch264.l rfl).seq ((ch267.l rfl).seq ((ch269.n).seq ((ch273.l rfl).seq (ch277.l rfl)))))
      replace hbase := hbase.chg C279 (is_nl rfl)
      replace r_g_v := r_g_v.chg C279 (is_nl rfl)
      replace o19 := o19.chg C279 (is_nl rfl)
      replace bx25 := bx25.chg C279 (is_nl rfl)
      replace o179 := o179.chg C279 (is_nl rfl) (is_nl rfl)
      replace bx190 := bx190.chg C279 (is_nl rfl)
      replace bx274 := bx274.chg ch277 (is_ne rfl) (is_ne rfl)
      replace bx268 := (bx268.chg ch273 (is_ne rfl)).chg ch277 (is_ne rfl)
      replace r246 := r246.chg C279 (row_nl rfl) (row_nl rfl)
      have C280 : Chg (inl [11, 12, 14]) _ _ _ _ := (ch267.l rfl).seq ((ch269.n).seq ((ch273.l rfl).seq (ch277.l rfl)))
      replace o265 := o265.chg C280 (is_nl rfl) (is_nl rfl)
      refine back7_c2 (v263, (Os_c2 ++ [pI (gI g.2 ((gI (gI O_c1 (gI Or_c2 (i_c2 : Int))) (j_c2 : Int)) / 2)) (1 - ((gI (gI O_c1 (gI Or_c2 (i_c2 : Int))) (j_c2 : Int)) % 2))]), j_c2 + 1, (List.set Bs_c2 (Int.toNat (pI (gI g.2 ((gI (gI O_c1 (gI Or_c2 (i_c2 : Int))) (j_c2 : Int)) / 2)) (1 - ((gI (gI O_c1 (gI Or_c2 (i_c2 : Int))) (j_c2 : Int)) % 2)))) (gI (gI O_c1 (gI Or_c2 (i_c2 : Int))) (j_c2 : Int))), (List.set Fs_c2 (Int.toNat (pI (gI g.2 ((gI (gI O_c1 (gI Or_c2 (i_c2 : Int))) (j_c2 : Int)) / 2)) (1 - ((gI (gI O_c1 (gI Or_c2 (i_c2 : Int))) (j_c2 : Int)) % 2)))) ((gI Fs_c2 (gI Or_c2 (i_c2 : Int))) + 1)), g261) _ _ ⟨hbase, (by exact zs0_c2), (by exact zs4_c2), (by exact zs5_c2), (by exact zs6_c2), (by exact zs7_c2), (by exact zs35_c2), (by exact zs36_c2), rfl, r_g_v, o19, bx25, o179, bx190, bx274, bx278, bx268, r246, o265, by omega, ?_⟩ ?_
      · show RowInv ⟨(Os_c2 ++ [pI (gI g.2 ((gI (gI O_c1 (gI Or_c2 (i_c2 : Int))) (j_c2 : Int)) / 2)) (1 - ((gI (gI O_c1 (gI Or_c2 (i_c2 : Int))) (j_c2 : Int)) % 2))]), (List.set Bs_c2 (Int.toNat (pI (gI g.2 ((gI (gI O_c1 (gI Or_c2 (i_c2 : Int))) (j_c2 : Int)) / 2)) (1 - ((gI (gI O_c1 (gI Or_c2 (i_c2 : Int))) (j_c2 : Int)) % 2)))) (gI (gI O_c1 (gI Or_c2 (i_c2 : Int))) (j_c2 : Int))), (List.set Fs_c2 (Int.toNat (pI (gI g.2 ((gI (gI O_c1 (gI Or_c2 (i_c2 : Int))) (j_c2 : Int)) / 2)) (1 - ((gI (gI O_c1 (gI Or_c2 (i_c2 : Int))) (j_c2 : Int)) % 2)))) ((gI Fs_c2 (gI Or_c2 (i_c2 : Int))) + 1))⟩ g ⟨Or_c2, By_c2, Fa_c2⟩ (gI Or_c2 (i_c2 : Int)) (j_c2 + 1)
        first
          | exact hrw.yes hm hjl hhe (by assumption)
          | exact hrw.no hm hjl hhe (by assumption)
      · show Int.toNat (((List.length (gI O_c1 (gI Or_c2 (i_c2 : Int))) : Int) : Int) - ((j_c2 + 1) : Int)) < Int.toNat (((List.length (gI O_c1 (gI Or_c2 (i_c2 : Int))) : Int) : Int) - (j_c2 : Int))
        omega
     refine run_cond_f (by exact zs48_c2) (decide_eq_false p9_c2) ?_
     refine run_skip ?_
     refine run_inBlock ?_
     refine run_region rfl ?_
     refine lv (Value.int .i64 ((j_c2 : Int) + 1)) rfl (e_add (m := (j_c2 : Int)) (n := 1) (by exact zs37_c2) rfl (by omega)) ?_
     refine lv (Value.int .i64 ((j_c2 : Int) + 1)) rfl (e_move rfl) ?_
     refine l_nil ?_
     refine back7_c2 (Os_c2_v, Os_c2, j_c2 + 1, Bs_c2, Fs_c2, g255) _ _ ⟨hbase, (by exact zs0_c2), (by exact zs4_c2), (by exact zs5_c2), (by exact zs6_c2), (by exact zs7_c2), (by exact zs35_c2), (by exact zs36_c2), rfl, r_g_v, o19, bx25, o179, bx190, o205, bx225, bx237, r246, o_Os_c2, by omega, ?_⟩ ?_
     · show RowInv ⟨Os_c2, Bs_c2, Fs_c2⟩ g ⟨Or_c2, By_c2, Fa_c2⟩ (gI Or_c2 (i_c2 : Int)) (j_c2 + 1)
       first
         | exact hrw.yes hm hjl hhe (by assumption)
         | exact hrw.no hm hjl hhe (by assumption)
     · show Int.toNat (((List.length (gI O_c1 (gI Or_c2 (i_c2 : Int))) : Int) : Int) - ((j_c2 + 1) : Int)) < Int.toNat (((List.length (gI O_c1 (gI Or_c2 (i_c2 : Int))) : Int) : Int) - (j_c2 : Int))
       omega
    refine run_cond_f rfl (decide_eq_false p7_c2) ?_
    refine run_exit rfl ?_
    refine run_inBlock ?_
    clear r246
    refine run_region rfl ?_
    refine lv (Value.int .i64 (i_c2 : Int)) rfl (e_move (by exact zs6_c2)) ?_
    refine lv (Value.int .i64 ((i_c2 : Int) + 1)) rfl (e_add (m := (i_c2 : Int)) (n := 1) rfl rfl (by omega)) ?_
    refine lv (Value.int .i64 ((i_c2 : Int) + 1)) rfl (e_assign rfl) ?_
    refine l_nil ?_
    refine back3_c2 (Os_c2_v, Os_c2, i_c2 + 1, Bs_c2, Fs_c2, g250) _ _ ⟨hbase, (by exact zs0_c2), (by exact zs4_c2), (by exact zs5_c2), rfl, r_g_v, o19, bx25, o179, bx190, o205, bx225, bx237, o_Os_c2, ?_⟩ ?_
    · show GoInv ⟨Os_c2, Bs_c2, Fs_c2⟩ g (q : Int) (i_c2 + 1)
      exact hgo_c2.next hm1 (by assumption) hrw (by rw [← hrow]; assumption)
    · show Int.toNat g.1 - (i_c2 + 1) < Int.toNat g.1 - i_c2
      omega
   refine run_cond_f rfl (decide_eq_false p3_c2) ?_
   refine run_exit rfl ?_
   refine run_seq (run_region rfl ?_)
   refine lv (Value.agg (List.toArray [Or_c2_v, v204, v211, Value.slice none 0 0])) rfl (e_load_bxN (ds := [Or_c2_v, v204, v211, Value.slice none 0 0]) tp109_z (by exact zs5_c2) bx237 rfl rfl) ?_
   refine l_op rfl ?_
   refine o_store_bx (cs' := [Or_c2_v, v204, v211, Value.slice none 0 0]) tp109_z (by exact zs4_c2) rfl bx190 rfl (Nat.le_of_ble_eq_true rfl) (AllOne.all (.cons (sl_one o_Or_c2.flat) (.cons (sl_one o205.flat) (.cons (sl_one bx225.flat) (.cons rfl .nil))))) rfl ?_
   intro w281 ch282 bx283
   clear bx190
   refine l_nil ?_
   refine run_ret (vs := [Value.agg (List.toArray [Or_c2_v, v204, v211, Value.slice none 0 0])]) Try.func99 (.cell (by exact zs4_c2) (load_bxN (ds := [Or_c2_v, v204, v211, Value.slice none 0 0]) tp109_z bx283 rfl rfl) .nil) ?_
   refine ⟨Value.agg (List.toArray [Or_c2_v, v204, v211, Value.slice none 0 0]), rfl, ?_⟩
   refine lv (Or_c2_v) rfl (e_field1 Try.underlying109 rfl tp27_z rfl rfl) ?_
   replace o_Or_c2 := o_Or_c2.chg ch282 (is_ne rfl) (is_ne rfl)
   refine lv (Value.int .i64 (List.length Or_c2 : Int)) rfl (e_len Try.underlying27 rfl o_Or_c2.flat) ?_
   refine lv (Value.int .i64 0) rfl (e_move rfl) ?_
   refine l_nil ?_
   refine run_block ?_
   clear o205 bx225 bx237 bx283
   refine run_loop (σ := Nat × (List Int) × Cmap) (fun ⟨j, part2, gq⟩ f w => Base w0 gq w ∧ f 5 = Value.pointer (some ⟨b23, 0, none⟩) ∧ f 6 = v178 ∧ f 7 = Value.int .i64 n ∧ f 20 = Value.int .i64 (List.length (List.replicate g.1.toNat (-1)) : Int) ∧ f 21 = Value.int .i64 (q : Int) ∧ f 32 = Or_c2_v ∧ f 33 = Value.int .i64 (List.length Or_c2 : Int) ∧ f 34 = Value.int .i64 (j : Int) ∧ Sl gq (is 0) w g_v g.2 ∧ Nst gq 3 w v17 O_c1 ∧ Bx gq (is 4) w b23 [Value.int .i64 g.1, g_v, v17] ∧ Ow gq (is 7) (is 7) w v178 part2 ∧ Ow gq (is 10) (is 10) w Or_c2_v Or_c2 ∧ (j : Int) ≤ ((List.length Or_c2 : Int) : Int) ∧ (part2 = (List.take j Or_c2).foldl (fun l_ w_ => l_.set w_.toNat n) part)) (fun ⟨j, part2, gq⟩ => Int.toNat (((List.length Or_c2 : Int) : Int) - (j : Int))) (0, part, g242) ?_ ?_
   replace hbase := hbase.chg ch282 (is_ne rfl)
   replace r_g_v := r_g_v.chg ch282 (is_ne rfl)
   replace o19 := o19.chg ch282 (is_ne rfl)
   replace bx25 := bx25.chg ch282 (is_ne rfl)
   replace o179 := o179.chg ch282 (is_ne rfl) (is_ne rfl)
   · exact ⟨hbase, (by exact zs5), (by exact zs6), (by exact zs7), (by exact zs20), (by exact zs21), rfl, rfl, rfl, r_g_v, o19, bx25, o179, o_Or_c2, by omega, by simp⟩
   clear r_g_v o19 bx25 o179 o_Or_c2 hbase
   rintro ⟨j, part2, g286⟩ f284 w285 ⟨hbase, zs5, zs6, zs7, zs20, zs21, zs32, zs33, zs34, r_g_v, o19, bx25, o179, o_Or_c2, hle_j, hpa⟩ back11
   obtain ⟨hbo1, hbo2⟩ := breadth_ok hgo_c2 (by assumption)
   have hp2 : part2.length = part.length := by rw [hpa]; exact set_fold_len _ _ _
   refine run_seq (run_region rfl ?_)
   refine lv (Value.bool (decide ((j : Int) < (List.length Or_c2 : Int)))) rfl (e_lss (m := (j : Int)) (n := (List.length Or_c2 : Int)) (by exact zs34) (by exact zs33)) ?_
   refine l_nil (run_seq ?_)
   by_cases p11 : (j : Int) < (List.length Or_c2 : Int)
   ·
    refine run_cond_t rfl (decide_eq_true p11) ?_
    have hwr := hbo2 _ (gI_mem (xs := Or_c2) (i := (j : Int)) (by omega) (by assumption))
    refine run_skip ?_
    refine run_seq ?_
    refine run_block ?_
    refine run_seq (run_region rfl ?_)
    refine lv (Value.pointer (some (eAddr Or_c2_v 1 (Int.toNat (j : Int))))) rfl (e_indexAddr (α := Int) (xs := Or_c2) (v := Or_c2_v) (i := (j : Int)) Try.underlying27 rfl (by exact zs32) o_Or_c2.flat (by exact zs34) (by omega) (by omega)) ?_
    refine lv (Value.int .i64 (gI Or_c2 (j : Int))) rfl (e_load_el1 (α := Int) (xs := Or_c2) (v := Or_c2_v) (i := (j : Int)) tp3_z rfl o_Or_c2.flat (by omega) (by omega) (by decide) rfl) ?_
    refine lv (Value.int .i64 (gI Or_c2 (j : Int))) rfl (e_assign rfl) ?_
    refine l_nil (run_region rfl ?_)
    refine lv (v178) rfl (e_move (by exact zs6)) ?_
    refine lv (Value.int .i64 (gI Or_c2 (j : Int))) rfl (e_move rfl) ?_
    refine lv (Value.int .i64 n) rfl (e_move (by exact zs7)) ?_
    refine lv (Value.pointer (some (eAddr v178 1 (Int.toNat (gI Or_c2 (j : Int)))))) rfl (e_indexAddr (α := Int) (xs := part2) (v := v178) (i := (gI Or_c2 (j : Int))) Try.underlying27 rfl rfl o179.flat rfl (by omega) (by omega)) ?_
    refine l_op rfl ?_
    refine o_store_el (i := (gI Or_c2 (j : Int))) n tp3_z rfl rfl o179 (by omega) (by omega) rfl ?_
    intro w287 ch288 bx289
    clear o179
    refine l_nil ?_
    refine run_inBlock ?_
    refine run_region rfl ?_
    refine lv (Value.int .i64 ((j : Int) + 1)) rfl (e_add (m := (j : Int)) (n := 1) (by exact zs34) rfl (by omega)) ?_
    refine lv (Value.int .i64 ((j : Int) + 1)) rfl (e_move rfl) ?_
    refine l_nil ?_
    replace hbase := hbase.chg ch288 (is_ne rfl)
    replace r_g_v := r_g_v.chg ch288 (is_ne rfl)
    replace o19 := o19.chg ch288 (is_ne rfl)
    replace bx25 := bx25.chg ch288 (is_ne rfl)
    replace o_Or_c2 := o_Or_c2.chg ch288 (is_ne rfl) (is_ne rfl)
    refine back11 (j + 1, (List.set part2 (Int.toNat (gI Or_c2 (j : Int))) n), g286) _ _ ⟨hbase, (by exact zs5), (by exact zs6), (by exact zs7), (by exact zs20), (by exact zs21), (by exact zs32), (by exact zs33), rfl, r_g_v, o19, bx25, bx289, o_Or_c2, by omega, ?_⟩ ?_
    · show (List.set part2 (Int.toNat (gI Or_c2 (j : Int))) n) = (List.take (j + 1) Or_c2).foldl (fun l_ w_ => l_.set w_.toNat n) part
      rw [set_fold_succ (by assumption), ← hpa]
    · show Int.toNat (((List.length Or_c2 : Int) : Int) - ((j + 1) : Int)) < Int.toNat (((List.length Or_c2 : Int) : Int) - (j : Int))
      omega
   refine run_cond_f rfl (decide_eq_false p11) ?_
   refine run_exit rfl ?_
   clear o_Or_c2
   refine run_region rfl ?_
   refine lv (Value.int .i64 n) rfl (e_move (by exact zs7)) ?_
   refine lv (Value.int .i64 (n + 1)) rfl (e_add (m := n) (n := 1) rfl rfl (by omega)) ?_
   refine lv (Value.int .i64 (n + 1)) rfl (e_assign rfl) ?_
   refine l_nil ?_
   refine run_inBlock ?_
   refine run_region rfl ?_
   refine lv (Value.int .i64 ((q : Int) + 1)) rfl (e_add (m := (q : Int)) (n := 1) (by exact zs21) rfl (by omega)) ?_
   refine lv (Value.int .i64 ((q : Int) + 1)) rfl (e_move rfl) ?_
   refine l_nil ?_
   refine back7 (q + 1, n + 1, part2, g286) _ _ ⟨hbase, (by exact zs5), (by exact zs6), rfl, (by exact zs20), rfl, r_g_v, o19, bx25, o179, by omega, ?_⟩ ?_
   · show part2 = (partsK g (q + 1)).1 ∧ (n + 1) = (partsK g (q + 1)).2
     first
       | exact parts_skip hinv (by assumption)
       | exact parts_do hinv (by assumption) hbo1 hpa (by assumption)
   · show Int.toNat (((List.length (List.replicate g.1.toNat (-1)) : Int) : Int) - ((q + 1) : Int)) < Int.toNat (((List.length (List.replicate g.1.toNat (-1)) : Int) : Int) - (q : Int))
     omega
  refine run_cond_f rfl (decide_eq_false p7) ?_
  refine run_exit rfl ?_
  refine run_seq ?_
  clear o19 bx25
  refine run_region rfl ?_
  refine lv (v178) rfl (e_move (by exact zs6)) ?_
  refine lv (Value.int .i64 n) rfl (e_move (by exact zs7)) ?_
  refine lv (v178) rfl (e_assign rfl) ?_
  refine lv (Value.int .i64 n) rfl (e_assign rfl) ?_
  refine lv (Value.int .i64 0) rfl (e_assign rfl) ?_
  refine l_nil ?_
  refine run_ret (vs := [v178, Value.int .i64 n, Value.int .i64 0]) Try.func74 (.tmp rfl (.tmp rfl (.tmp rfl .nil))) ?_
  have e0 : (part : List Int) = ((partsR g).1) := by
    first
      | (have hn : ¬ MayP g := fun h => p1 (decide_eq_true h)
         unfold partsR; rw [if_neg hn]; done)
      | exact (partsR_yes hm (by omega) hinv).1
      | exact (partsR_yes hm (by omega) hinv).2.1
      | exact (partsR_yes hm (by omega) hinv).2.2
  have e1 : (n : Int) = ((partsR g).2.1) := by
    first
      | (have hn : ¬ MayP g := fun h => p1 (decide_eq_true h)
         unfold partsR; rw [if_neg hn]; done)
      | exact (partsR_yes hm (by omega) hinv).1
      | exact (partsR_yes hm (by omega) hinv).2.1
      | exact (partsR_yes hm (by omega) hinv).2.2
  have e2 : (0 : Int) = ((partsR g).2.2) := by
    first
      | (have hn : ¬ MayP g := fun h => p1 (decide_eq_true h)
         unfold partsR; rw [if_neg hn]; done)
      | exact (partsR_yes hm (by omega) hinv).1
      | exact (partsR_yes hm (by omega) hinv).2.1
      | exact (partsR_yes hm (by omega) hinv).2.2
  exact ⟨(fin w0 g185 (fun n => if n = 7 then 1 else 0), v178), (congr3 (a := part) (b := n) (c := 0) (fun (z0 : List Int) (z1 : Int) (z2 : Int) => Ending.returned (Value.tuple (List.toArray [v178, Value.int .i64 z1, Value.int .i64 z2]))) e0 e1 e2), hbase.fresh _, (e0 ▸ (o179.glue (γ := c0) (ren := (fun n => if n = 7 then 1 else 0)) (k := 1) hbase.col rfl rfl))⟩
 refine run_cond_t rfl (congrArg Bool.not (Bool.eq_false_iff.2 p1)) ?_
 refine run_seq ?_
 clear bx5
 refine run_region rfl ?_
 refine lv (Value.slice none 0 0) rfl (e_assign rfl) ?_
 refine lv (Value.int .i64 0) rfl (e_assign rfl) ?_
 refine lv (Value.int .i64 1) rfl (e_assign rfl) ?_
 refine l_nil ?_
 refine run_ret (vs := [Value.slice none 0 0, Value.int .i64 0, Value.int .i64 1]) Try.func74 (.tmp rfl (.tmp rfl (.tmp rfl .nil))) ?_
 replace hbase := hbase.chg ch2 (not_no _)
 replace hbase := hbase.chg hb7 (not_no _)
 have e0 : ([] : List Int) = ((partsR g).1) := by
   first
     | (have hn : ¬ MayP g := fun h => p1 (decide_eq_true h)
        unfold partsR; rw [if_neg hn]; done)
     | exact (partsR_yes hm (by omega) hinv).1
     | exact (partsR_yes hm (by omega) hinv).2.1
     | exact (partsR_yes hm (by omega) hinv).2.2
 have e1 : (0 : Int) = ((partsR g).2.1) := by
   first
     | (have hn : ¬ MayP g := fun h => p1 (decide_eq_true h)
        unfold partsR; rw [if_neg hn]; done)
     | exact (partsR_yes hm (by omega) hinv).1
     | exact (partsR_yes hm (by omega) hinv).2.1
     | exact (partsR_yes hm (by omega) hinv).2.2
 have e2 : (1 : Int) = ((partsR g).2.2) := by
   first
     | (have hn : ¬ MayP g := fun h => p1 (decide_eq_true h)
        unfold partsR; rw [if_neg hn]; done)
     | exact (partsR_yes hm (by omega) hinv).1
     | exact (partsR_yes hm (by omega) hinv).2.1
     | exact (partsR_yes hm (by omega) hinv).2.2
 exact ⟨(fin w0 g4 (fun n => 0), (Value.slice none 0 0)), (congr3 (a := []) (b := 0) (c := 1) (fun (z0 : List Int) (z1 : Int) (z2 : Int) => Ending.returned (Value.tuple (List.toArray [Value.slice none 0 0, Value.int .i64 z1, Value.int .i64 z2]))) e0 e1 e2), hbase.fresh _, (e0 ▸ Ow.nil)⟩
end TL
