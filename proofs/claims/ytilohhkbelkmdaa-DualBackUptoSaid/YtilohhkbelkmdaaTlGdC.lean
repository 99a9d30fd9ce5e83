import Derived.Test.YtilohhkbelkmdaaTlGdA
import Derived.Test.YtilohhkbelkmdaaTlGenO
import Derived.Test.YtilohhkbelkmdaaTlP3
import Derived.Test.YtilohhkbelkmdaaProg
set_option linter.all false
set_option maxRecDepth 20000
namespace TL
open Go Go.Proofs
theorem mixed_dc : Try.prog.follows .mixedOrders = true := by kernel_rfl
theorem tp3_dc : Tp Try.prog 3 false 1 8 (.int .i64 0) := Tp.of (by kernel_rfl)
theorem tp22_dc : Tp Try.prog 22 false 1 24 (.slice none 0 0) := Tp.of (by kernel_rfl)
theorem tp27_dc : Tp Try.prog 27 false 1 24 (.slice none 0 0) := Tp.of (by kernel_rfl)
theorem tp60_dc : Tp Try.prog 60 true 2 16 (.agg #[.int .i64 0, .int .i64 0]) := Tp.of (by kernel_rfl)
theorem bd67_dc : Try.f67.body.isNone = false := rfl
theorem nm67_dc : (Try.f67.name == "runtime.NumGoroutine") = false := by decide +kernel
set_option maxHeartbeats 1000000 in
theorem fars_ok (w0 : World) (g : (Int) × (List ((Int) × (Int)))) (g_v : Value) (hg_v : Ro w0 g_v g.2) (of : List Int) (of_v : Value) (hof_v : Ro w0 of_v of) (faces : Int) (to : List Int) (to_v : Value) (hto_v : Ro w0 to_v to) (hmay : MayP g) (hof : OfIn of faces g.2.length) (hfa : 0 ≤ faces ∧ faces ≤ 100000) (hto : ∀ x ∈ to, 0 ≤ x ∧ x < faces) (htl : to.length ≤ 100000) :
    Calls Try.prog 68 #[Value.agg (List.toArray [Value.int .i64 g.1, g_v]), of_v, Value.int .i64 faces, to_v] w0 (fun ee w => ∃ xx : Cmap × Value, ee = .returned ((fun ⟨δ, rv0⟩ => rv0) xx) ∧ (fun (⟨δ, rv0⟩ : Cmap × Value) (w : World) => Fresh w0 δ w ∧ Ow δ (is 1) (is 1) w rv0 (farS g.2.length of faces to)) xx w) := by
 refine calls_of_run Try.func68 rfl (Nat.le_of_ble_eq_true rfl) ?_
 have hbase := Base.start w0
 have r_g_v := hg_v.sl
 have r_of_v := hof_v.sl
 have r_to_v := hto_v.sl
 have hm0 := hmay
 obtain ⟨hm1, hm2, hm3, hm4⟩ := hm0
 obtain ⟨hf1, hf2⟩ := hfa
 have hol := hof.1
 have hrep : ((List.replicate faces.toNat (0 : Int)).length : Int) = faces := by simp; omega
 refine run_seq (run_region rfl (l_op rfl ?_))
 refine o_box c0 (is 1) (1, 0) rfl rfl ?_
 intro g4 w1 b3 ch2 bx5
 replace bx5 : Bx g4 (is 1) w1 b3 [Value.int .i64 g.1, g_v] := bx5
 refine l_val (v := Value.slice none 0 0) rfl (e_assign rfl) ?_
 refine l_nil (run_seq (run_region rfl ?_))
 refine l_val (v := Value.int .i64 faces) rfl (e_move rfl) ?_
 refine l_op rfl ?_
 refine o_make (α := Int) (l := faces) (cp := faces) g4 (is 2) (is 2) (2, 0) rfl (0 : Int) Try.underlying27 tp3_dc rfl rfl rfl (by omega) (by omega) (by omega) (by omega) ?_
 intro g6 w7 v8 ch9 o10 _
 refine l_val (v := v8) rfl (e_assign rfl) ?_
 refine l_nil (run_seq (run_seq (run_region rfl ?_)))
 refine l_val (v := v8) rfl (e_move rfl) ?_
 have len11 := (o10.flat).small
 refine l_val (v := Value.int .i64 (List.length (List.replicate (Int.toNat faces) (0 : Int)) : Int)) rfl (e_len Try.underlying27 rfl o10.flat) ?_
 refine l_val (v := Value.int .i64 0) rfl (e_move rfl) ?_
 refine l_nil ?_
 refine run_block ?_
 refine run_loop (σ := Nat × (List Int) × Cmap) (fun ⟨k, far, gq⟩ f w => Base w0 gq w ∧ f 1 = of_v ∧ f 2 = Value.int .i64 faces ∧ f 3 = to_v ∧ f 4 = Value.pointer (some ⟨b3, 0, none⟩) ∧ f 9 = v8 ∧ f 24 = Value.int .i64 (List.length (List.replicate (Int.toNat faces) (0 : Int)) : Int) ∧ f 25 = Value.int .i64 (k : Int) ∧ Sl gq (is 0) w g_v g.2 ∧ Sl gq (is 0) w of_v of ∧ Sl gq (is 0) w to_v to ∧ Bx gq (is 1) w b3 [Value.int .i64 g.1, g_v] ∧ Ow gq (is 2) (is 2) w v8 far ∧ (k : Int) ≤ ((List.length (List.replicate (Int.toNat faces) (0 : Int)) : Int) : Int) ∧ (far = List.replicate k (-1) ++ List.replicate (faces.toNat - k) 0 ∧ (k : Int) ≤ faces)) (fun ⟨k, far, gq⟩ => Int.toNat (((List.length (List.replicate (Int.toNat faces) (0 : Int)) : Int) : Int) - (k : Int))) (0, (List.replicate (Int.toNat faces) (0 : Int)), g6) ?_ ?_
 replace hbase := hbase.chg ch2 (not_no _)
 replace hbase := hbase.chg ch9 (not_no _)
 replace r_g_v := (r_g_v.chg ch2 (not_no _)).chg ch9 (not_no _)
 replace r_of_v := (r_of_v.chg ch2 (not_no _)).chg ch9 (not_no _)
 replace r_to_v := (r_to_v.chg ch2 (not_no _)).chg ch9 (not_no _)
 replace bx5 := bx5.chg ch9 (not_no _)
 · exact ⟨hbase, rfl, rfl, rfl, rfl, rfl, rfl, rfl, r_g_v, r_of_v, r_to_v, bx5, o10, by omega, by exact ⟨by simp, by omega⟩⟩
 clear r_g_v
 clear r_of_v
 clear r_to_v
 clear bx5
 clear o10
 clear hbase
 rintro ⟨k, far, g14⟩ f12 w13 ⟨hbase, zs1, zs2, zs3, zs4, zs9, zs24, zs25, r_g_v, r_of_v, r_to_v, bx5, o10, hle_k, hinv0⟩ back3
 have hfl : far.length = faces.toNat := by rw [hinv0.1]; simp; omega
 refine run_seq (run_region rfl ?_)
 refine l_val (v := Value.bool (decide ((k : Int) < (List.length (List.replicate (Int.toNat faces) (0 : Int)) : Int)))) rfl (e_lss (m := (k : Int)) (n := (List.length (List.replicate (Int.toNat faces) (0 : Int)) : Int)) (by exact zs25) (by exact zs24)) ?_
 refine l_nil (run_seq ?_)
 by_cases p3 : (k : Int) < (List.length (List.replicate (Int.toNat faces) (0 : Int)) : Int)
 ·
  refine run_cond_t rfl (decide_eq_true p3) ?_
  refine run_skip ?_
  refine run_seq ?_
  refine run_block ?_
  refine run_seq (run_region rfl ?_)
  refine l_val (v := Value.int .i64 (k : Int)) rfl (e_move (by exact zs25)) ?_
  refine l_val (v := Value.int .i64 (k : Int)) rfl (e_assign rfl) ?_
  refine l_nil (run_region rfl ?_)
  refine l_val (v := v8) rfl (e_move (by exact zs9)) ?_
  refine l_val (v := Value.int .i64 (k : Int)) rfl (e_move rfl) ?_
  refine l_val (v := Value.pointer (some (eAddr v8 1 (Int.toNat (k : Int))))) rfl (e_indexAddr (α := Int) (xs := far) (v := v8) (i := (k : Int)) Try.underlying27 rfl rfl o10.flat rfl (by omega) (by omega)) ?_
  refine l_op rfl ?_
  refine o_store_el (i := (k : Int)) (-1) tp3_dc rfl rfl o10 (by omega) (by omega) rfl ?_
  intro w15 ch16 bx17
  clear o10
  refine l_nil ?_
  refine run_inBlock ?_
  refine run_region rfl ?_
  refine l_val (v := Value.int .i64 ((k : Int) + 1)) rfl (e_add (m := (k : Int)) (n := 1) (by exact zs25) rfl (by omega)) ?_
  refine l_val (v := Value.int .i64 ((k : Int) + 1)) rfl (e_move rfl) ?_
  refine l_nil ?_
  replace hbase := hbase.chg ch16 (is_ne rfl)
  replace r_g_v := r_g_v.chg ch16 (is_ne rfl)
  replace r_of_v := r_of_v.chg ch16 (is_ne rfl)
  replace r_to_v := r_to_v.chg ch16 (is_ne rfl)
  replace bx5 := bx5.chg ch16 (is_ne rfl)
  refine back3 (k + 1, (List.set far (Int.toNat (k : Int)) (-1)), g14) _ _ ⟨hbase, (by exact zs1), (by exact zs2), (by exact zs3), (by exact zs4), (by exact zs9), (by exact zs24), rfl, r_g_v, r_of_v, r_to_v, bx5, bx17, by omega, ?_⟩ ?_
  · show (List.set far (Int.toNat (k : Int)) (-1)) = List.replicate (k + 1) (-1) ++ List.replicate (faces.toNat - (k + 1)) 0 ∧ ((k + 1) : Int) ≤ faces
    exact ⟨by rw [hinv0.1]; exact fill_next (by omega), by omega⟩
  · show Int.toNat (((List.length (List.replicate (Int.toNat faces) (0 : Int)) : Int) : Int) - ((k + 1) : Int)) < Int.toNat (((List.length (List.replicate (Int.toNat faces) (0 : Int)) : Int) : Int) - (k : Int))
    omega
 refine run_cond_f rfl (decide_eq_false p3) ?_
 refine run_exit rfl ?_
 refine run_seq (run_region rfl ?_)
 refine l_val (v := to_v) rfl (e_move (by exact zs3)) ?_
 refine l_op rfl ?_
 refine o_append (α := Int) (xs := ([])) (ys := to) g14 (J := is 3) (S := is 3) (3, 0) rfl Try.underlying27 tp3_dc (by decide) rfl rfl rfl Ow.nil r_to_v (by decide) (by first | omega | (simp; done) | (simp; omega)) ?_
 intro g18 w19 v20 ch21 o22
 replace o22 : Ow g18 (is 3) (is 3) w19 v20 (to : List Int) := o22
 refine l_val (v := v20) rfl (e_assign rfl) ?_
 refine l_nil (run_seq (run_seq (run_region rfl ?_)))
 refine l_val (v := to_v) rfl (e_move (by exact zs3)) ?_
 replace r_to_v := r_to_v.chg ch21 (is_ne rfl)
 have len23 := (r_to_v).small
 refine l_val (v := Value.int .i64 (List.length to : Int)) rfl (e_len Try.underlying27 rfl r_to_v) ?_
 refine l_val (v := Value.int .i64 0) rfl (e_move rfl) ?_
 refine l_nil ?_
 refine run_block ?_
 refine run_loop (σ := Nat × (List Int) × Cmap) (fun ⟨j, far1, gq⟩ f w => Base w0 gq w ∧ f 1 = of_v ∧ f 2 = Value.int .i64 faces ∧ f 4 = Value.pointer (some ⟨b3, 0, none⟩) ∧ f 9 = v8 ∧ f 11 = v20 ∧ f 34 = to_v ∧ f 35 = Value.int .i64 (List.length to : Int) ∧ f 36 = Value.int .i64 (j : Int) ∧ Sl gq (is 0) w g_v g.2 ∧ Sl gq (is 0) w of_v of ∧ Sl gq (is 0) w to_v to ∧ Bx gq (is 1) w b3 [Value.int .i64 g.1, g_v] ∧ Ow gq (is 2) (is 2) w v8 far1 ∧ Ow gq (is 3) (is 3) w v20 to ∧ (j : Int) ≤ ((List.length to : Int) : Int) ∧ (far1 = (List.take j to).foldl (fun l_ f_ => l_.set f_.toNat 0) (List.replicate faces.toNat (-1)))) (fun ⟨j, far1, gq⟩ => Int.toNat (((List.length to : Int) : Int) - (j : Int))) (0, far, g18) ?_ ?_
 replace hbase := hbase.chg ch21 (is_ne rfl)
 replace r_g_v := r_g_v.chg ch21 (is_ne rfl)
 replace r_of_v := r_of_v.chg ch21 (is_ne rfl)
 replace bx5 := bx5.chg ch21 (is_ne rfl)
 replace o10 := o10.chg ch21 (is_ne rfl) (is_ne rfl)
 · exact ⟨hbase, (by exact zs1), (by exact zs2), (by exact zs4), (by exact zs9), rfl, rfl, rfl, rfl, r_g_v, r_of_v, r_to_v, bx5, o10, o22, by omega, by (have hk : k = faces.toNat := (by omega); rw [hinv0.1, hk]; simp)⟩
 clear r_g_v
 clear r_of_v
 clear r_to_v
 clear bx5
 clear o10
 clear o22
 clear hbase
 rintro ⟨j, far1, g26⟩ f24 w25 ⟨hbase, zs1, zs2, zs4, zs9, zs11, zs34, zs35, zs36, r_g_v, r_of_v, r_to_v, bx5, o10, o22, hle_j, hinv1⟩ back9
 have hfl1 : far1.length = faces.toNat := by rw [hinv1, set_fold_len]; simp
 refine run_seq (run_region rfl ?_)
 refine l_val (v := Value.bool (decide ((j : Int) < (List.length to : Int)))) rfl (e_lss (m := (j : Int)) (n := (List.length to : Int)) (by exact zs36) (by exact zs35)) ?_
 refine l_nil (run_seq ?_)
 by_cases p9 : (j : Int) < (List.length to : Int)
 ·
  refine run_cond_t rfl (decide_eq_true p9) ?_
  obtain ⟨ht1, ht2⟩ := hto _ (gI_mem (xs := to) (i := (j : Int)) (by omega) (by omega))
  refine run_skip ?_
  refine run_seq ?_
  refine run_block ?_
  refine run_seq (run_region rfl ?_)
  refine l_val (v := Value.pointer (some (eAddr to_v 1 (Int.toNat (j : Int))))) rfl (e_indexAddr (α := Int) (xs := to) (v := to_v) (i := (j : Int)) Try.underlying27 rfl (by exact zs34) r_to_v (by exact zs36) (by omega) (by omega)) ?_
  refine l_val (v := Value.int .i64 (gI to (j : Int))) rfl (e_load_el1 (α := Int) (xs := to) (v := to_v) (i := (j : Int)) tp3_dc rfl r_to_v (by omega) (by omega) (by decide) rfl) ?_
  refine l_val (v := Value.int .i64 (gI to (j : Int))) rfl (e_assign rfl) ?_
  refine l_nil (run_region rfl ?_)
  refine l_val (v := v8) rfl (e_move (by exact zs9)) ?_
  refine l_val (v := Value.int .i64 (gI to (j : Int))) rfl (e_move rfl) ?_
  refine l_val (v := Value.pointer (some (eAddr v8 1 (Int.toNat (gI to (j : Int)))))) rfl (e_indexAddr (α := Int) (xs := far1) (v := v8) (i := (gI to (j : Int))) Try.underlying27 rfl rfl o10.flat rfl (by omega) (by omega)) ?_
  refine l_op rfl ?_
  refine o_store_el (i := (gI to (j : Int))) 0 tp3_dc rfl rfl o10 (by omega) (by omega) rfl ?_
  intro w27 ch28 bx29
  clear o10
  refine l_nil ?_
  refine run_inBlock ?_
  refine run_region rfl ?_
  refine l_val (v := Value.int .i64 ((j : Int) + 1)) rfl (e_add (m := (j : Int)) (n := 1) (by exact zs36) rfl (by omega)) ?_
  refine l_val (v := Value.int .i64 ((j : Int) + 1)) rfl (e_move rfl) ?_
  refine l_nil ?_
  replace hbase := hbase.chg ch28 (is_ne rfl)
  replace r_g_v := r_g_v.chg ch28 (is_ne rfl)
  replace r_of_v := r_of_v.chg ch28 (is_ne rfl)
  replace r_to_v := r_to_v.chg ch28 (is_ne rfl)
  replace bx5 := bx5.chg ch28 (is_ne rfl)
  replace o22 := o22.chg ch28 (is_ne rfl) (is_ne rfl)
  refine back9 (j + 1, (List.set far1 (Int.toNat (gI to (j : Int))) 0), g26) _ _ ⟨hbase, (by exact zs1), (by exact zs2), (by exact zs4), (by exact zs9), (by exact zs11), (by exact zs34), (by exact zs35), rfl, r_g_v, r_of_v, r_to_v, bx5, bx29, o22, by omega, ?_⟩ ?_
  · show (List.set far1 (Int.toNat (gI to (j : Int))) 0) = (List.take (j + 1) to).foldl (fun l_ f_ => l_.set f_.toNat 0) (List.replicate faces.toNat (-1))
    rw [set_fold_succ (by assumption), ← hinv1]
  · show Int.toNat (((List.length to : Int) : Int) - ((j + 1) : Int)) < Int.toNat (((List.length to : Int) : Int) - (j : Int))
    omega
 refine run_cond_f rfl (decide_eq_false p9) ?_
 refine run_exit rfl ?_
 refine run_seq (run_region rfl ?_)
 refine l_val (v := Value.int .i64 faces) rfl (e_move (by exact zs2)) ?_
 refine l_op rfl ?_
 refine o_make_nst (α := Int) (n := faces) (cp := faces) g26 4 Try.underlying25 tp27_dc rfl rfl rfl (by omega) (by omega) (by omega) (by omega) ?_
 intro g30 w31 v32 ch33 o34
 refine l_val (v := v32) rfl (e_assign rfl) ?_
 refine l_nil (run_seq (run_seq (run_region rfl ?_)))
 refine l_val (v := Value.pointer (some ⟨b3, 1, none⟩)) rfl (e_fieldAddr Try.underlying24 rfl rfl (by exact zs4) rfl) ?_
 replace bx5 := bx5.chg ch33 (not_no _)
 refine l_val (v := g_v) rfl (e_load_bx1 tp22_dc rfl bx5 rfl) ?_
 replace r_g_v := r_g_v.chg ch33 (not_no _)
 have len35 := (r_g_v).small
 refine l_val (v := Value.int .i64 (List.length g.2 : Int)) rfl (e_len Try.underlying22 rfl r_g_v) ?_
 refine l_val (v := Value.int .i64 0) rfl (e_move rfl) ?_
 refine l_nil ?_
 refine run_block ?_
 clear bx5
 refine run_loop (σ := Nat × (List (List Int)) × Cmap) (fun ⟨e, O, gq⟩ f w => Base w0 gq w ∧ f 1 = of_v ∧ f 9 = v8 ∧ f 11 = v20 ∧ f 14 = v32 ∧ f 48 = Value.int .i64 (List.length g.2 : Int) ∧ f 49 = Value.int .i64 (e : Int) ∧ Sl gq (is 0) w g_v g.2 ∧ Sl gq (is 0) w of_v of ∧ Sl gq (is 0) w to_v to ∧ Ow gq (is 2) (is 2) w v8 far1 ∧ Ow gq (is 3) (is 3) w v20 to ∧ Nst gq 4 w v32 O ∧ (e : Int) ≤ ((List.length g.2 : Int) : Int) ∧ (O = adjK of faces e)) (fun ⟨e, O, gq⟩ => Int.toNat (((List.length g.2 : Int) : Int) - (e : Int))) (0, (List.replicate (Int.toNat faces) []), g30) ?_ ?_
 replace hbase := hbase.chg ch33 (not_no _)
 replace r_of_v := r_of_v.chg ch33 (not_no _)
 replace r_to_v := r_to_v.chg ch33 (not_no _)
 replace o10 := o10.chg ch33 (not_no _) (not_no _)
 replace o22 := o22.chg ch33 (not_no _) (not_no _)
 · exact ⟨hbase, (by exact zs1), (by exact zs9), (by exact zs11), rfl, rfl, rfl, r_g_v, r_of_v, r_to_v, o10, o22, o34, by omega, by rfl⟩
 clear r_g_v
 clear r_of_v
 clear r_to_v
 clear o10
 clear o22
 clear o34
 clear hbase
 rintro ⟨e, O, g38⟩ f36 w37 ⟨hbase, zs1, zs9, zs11, zs14, zs48, zs49, r_g_v, r_of_v, r_to_v, o10, o22, o34, hle_e, hadj⟩ back15
 have hOl : (O.length : Int) = faces := by rw [hadj, adjK_len]; omega
 refine run_seq (run_region rfl ?_)
 refine l_val (v := Value.bool (decide ((e : Int) < (List.length g.2 : Int)))) rfl (e_lss (m := (e : Int)) (n := (List.length g.2 : Int)) (by exact zs49) (by exact zs48)) ?_
 refine l_nil (run_seq ?_)
 by_cases p15 : (e : Int) < (List.length g.2 : Int)
 ·
  refine run_cond_t rfl (decide_eq_true p15) ?_
  obtain ⟨⟨he1, he2⟩, he3, he4⟩ := hof.ends (e := e) (by omega)
  have hr1 := adj_len hof (k := e) (by omega) he1 he2
  have hr2 := adj_len2 hof (k := e) (by omega)
  rw [← hadj] at hr1 hr2
  refine run_skip ?_
  refine run_seq ?_
  refine run_block ?_
  refine run_seq (run_region rfl ?_)
  refine l_val (v := Value.int .i64 (e : Int)) rfl (e_move (by exact zs49)) ?_
  refine l_val (v := Value.int .i64 (e : Int)) rfl (e_assign rfl) ?_
  refine l_nil (run_seq (run_region rfl ?_))
  refine l_val (v := of_v) rfl (e_move (by exact zs1)) ?_
  refine l_val (v := Value.int .i64 (e : Int)) rfl (e_move rfl) ?_
  refine l_op rfl ?_
  refine o_call (v := Value.agg (List.toArray [Value.int .i64 ((endsS of (e : Int)).1), Value.int .i64 ((endsS of (e : Int)).2)])) (e_call (vals := [of_v, Value.int .i64 (e : Int)]) Try.func67 bd67_dc nm67_dc rfl) (ends_ok w37 of of_v (r_of_v).ro (e : Int) (by omega) (by omega)) ?_
  intro w39 hb40
  replace hb40 := chg_below hb40 g38
  refine l_op rfl ?_
  refine o_alloc g38 (is 5) (5, 0) rfl tp60_dc ?_
  intro g44 w41 b43 ch42 bx45
  replace bx45 : Bx g44 (is 5) w41 b43 [Value.int .i64 0, Value.int .i64 0] := bx45
  refine l_op rfl ?_
  refine o_store_bx (cs' := [Value.int .i64 ((endsS of (e : Int)).1), Value.int .i64 ((endsS of (e : Int)).2)]) tp60_dc rfl rfl bx45 rfl (Nat.le_of_ble_eq_true rfl) (AllOne.all (.cons rfl (.cons rfl .nil))) rfl ?_
  intro w46 ch47 bx48
  clear bx45
  refine l_nil (run_seq ?_)
  refine region_midh (σ := Cmap) (fun gq f w => Base w0 gq w ∧ f 1 = of_v ∧ f 9 = v8 ∧ f 11 = v20 ∧ f 14 = v32 ∧ f 16 = Value.pointer (some ⟨b43, 0, none⟩) ∧ f 48 = Value.int .i64 (List.length g.2 : Int) ∧ f 49 = Value.int .i64 (e : Int) ∧ Sl gq (is 0) w g_v g.2 ∧ Sl gq (is 0) w of_v of ∧ Sl gq (is 0) w to_v to ∧ Ow gq (is 2) (is 2) w v8 far1 ∧ Ow gq (is 3) (is 3) w v20 to ∧ Bx gq (is 5) w b43 [Value.int .i64 ((endsS of (e : Int)).1), Value.int .i64 ((endsS of (e : Int)).2)] ∧ Nst gq 4 w v32 (List.set O (Int.toNat ((endsS of (e : Int)).1)) (gI O ((endsS of (e : Int)).1) ++ ([(endsS of (e : Int)).2] : List Int)))) g44 (inl [4]) mixed_dc ?_ ?_
  ·
   intro mid
   intro w50 ch49
   refine h_take (v := v32) 0 rfl (by kernel_rfl) (by kernel_rfl) rfl (Chg.refl _ _ _) (fun w' hw' => e_move (by exact zs14)) ?_
   refine h_take (v := Value.pointer (some ⟨b43, 0, none⟩)) 1 rfl (by kernel_rfl) (by kernel_rfl) rfl (Chg.refl _ _ _) (fun w' hw' => e_indexAddr_arr Try.underlying60 rfl rfl rfl (by decide) (by decide) rfl) ?_
   replace bx48 := bx48.chg ch49 (not_no _)
   refine h_take (v := Value.int .i64 ((endsS of (e : Int)).1)) 2 rfl (by kernel_rfl) (by kernel_rfl) rfl (Chg.refl _ _ _) (fun w' hw' => e_load_bx1 tp3_dc rfl (bx48.chg hw' (is_nl rfl)) rfl) ?_
   refine h_take (v := v32) 3 rfl (by kernel_rfl) (by kernel_rfl) rfl (Chg.refl _ _ _) (fun w' hw' => e_move (by exact zs14)) ?_
   refine h_take (v := Value.pointer (some ⟨b43, 0, none⟩)) 4 rfl (by kernel_rfl) (by kernel_rfl) rfl (Chg.refl _ _ _) (fun w' hw' => e_indexAddr_arr Try.underlying60 rfl rfl rfl (by decide) (by decide) rfl) ?_
   refine h_take (v := Value.int .i64 ((endsS of (e : Int)).1)) 5 rfl (by kernel_rfl) (by kernel_rfl) rfl (Chg.refl _ _ _) (fun w' hw' => e_load_bx1 tp3_dc rfl (bx48.chg hw' (is_nl rfl)) rfl) ?_
   refine h_take (v := Value.pointer (some ⟨b43, 1, none⟩)) 8 rfl (by kernel_rfl) (by kernel_rfl) rfl (Chg.refl _ _ _) (fun w' hw' => e_indexAddr_arr Try.underlying60 rfl rfl rfl (by decide) (by decide) rfl) ?_
   refine h_take (v := Value.int .i64 ((endsS of (e : Int)).2)) 9 rfl (by kernel_rfl) (by kernel_rfl) rfl (Chg.refl _ _ _) (fun w' hw' => e_load_bx1 tp3_dc rfl (bx48.chg hw' (is_nl rfl)) rfl) ?_
   refine h_many 6 [10] (by kernel_rfl) ⟨h_of 6 rfl (by kernel_rfl) rfl ?_, h_of 10 rfl (by kernel_rfl) rfl ?_, trivial⟩
   ·
    have C51 : Chg (inl [5]) _ _ _ _ := (hb40.n).seq ((ch42.n).seq ((ch47.l rfl).seq (ch49.n)))
    replace o34 := o34.chg C51 (is_nl rfl)
    refine o_of_val (v := Value.pointer (some (eAddr v32 1 (Int.toNat ((endsS of (e : Int)).1))))) (e_indexAddr (α := List Int) (xs := O) (v := v32) (i := (endsS of (e : Int)).1) Try.underlying25 rfl rfl o34.sl rfl (by omega) (by omega)) ?_
    refine ⟨(Chg.refl _ _ _), ?_⟩
    refine h_many 7 [10] (by kernel_rfl) ⟨h_of 7 rfl (by kernel_rfl) rfl ?_, h_of 10 rfl (by kernel_rfl) rfl ?_, trivial⟩
    ·
     obtain ⟨v52, cel53, r54⟩ := nst_row (r := (endsS of (e : Int)).1) o34 (by omega) (by omega)
     refine o_of_val (v := v52) (e_load1 tp27_dc rfl cel53) ?_
     refine ⟨(Chg.refl _ _ _), ?_⟩
     refine h_one 10 rfl (by kernel_rfl) rfl ?_
     refine o_buildSlice (α := Int) g44 (is 6) (is 6) (6, 0) rfl ([(endsS of (e : Int)).2] : List Int) Try.underlying27 tp3_dc (by decide) (by decide) (vs := [(0, Value.int .i64 ((endsS of (e : Int)).2))]) rfl rfl (.cons rfl .nil) ?_
     intro g55 w56 v57 ch58 o59
     have hs60 : Chg (inl [4]) _ _ _ _ := ch58.n
     refine ⟨hs60.same, ?_⟩
     refine h_one 11 rfl (by kernel_rfl) rfl ?_
     replace o34 := o34.chg ch58 (not_no _)
     replace r54 := r54.chg ch58 (not_no _) (not_no _)
     refine o_append (α := Int) (xs := (gI O ((endsS of (e : Int)).1))) (ys := ([(endsS of (e : Int)).2] : List Int)) g55 (J := row 4 (Int.toNat ((endsS of (e : Int)).1) + 1)) (S := row 4 (Int.toNat ((endsS of (e : Int)).1) + 1)) (4, Int.toNat ((endsS of (e : Int)).1) + 1) rfl Try.underlying27 tp3_dc (by decide) rfl rfl rfl r54 o59.flat (by decide) (by first | omega | (simp; done) | (simp; omega)) ?_
     intro g61 w62 v63 ch64 o65
     have o66 := o34.rowchg ch64
     clear o34
     clear cel53
     clear r54
     have hs67 := hs60.seq (ch64.lr rfl)
     refine ⟨hs67.same, ?_⟩
     refine h_one 12 rfl (by kernel_rfl) rfl ?_
     obtain ⟨us68, hl69, r70⟩ := o66.vc
     try simp only [List.length_set, List.length_append, List.length_cons, List.length_nil] at hl69
     refine o_of_val (v := Value.pointer (some (eAddr v32 1 (Int.toNat ((endsS of (e : Int)).1))))) (e_indexAddr (α := Vc) (xs := us68) (v := v32) (i := (endsS of (e : Int)).1) Try.underlying25 rfl rfl r70 rfl (by omega) (by omega)) ?_
     refine ⟨hs67.same, ?_⟩
     refine h_one 13 rfl (by kernel_rfl) rfl ?_
     refine o_store_row (r := (endsS of (e : Int)).1) tp27_dc rfl rfl o66 o65 (by omega) (by omega) ?_
     intro w74 ch75 o76
     clear o66
     clear o65
     have hs77 := hs67.seq (ch75.l rfl)
     refine ⟨hs77.same, ?_⟩
     refine h_nil (by kernel_rfl) ?_
     have C78 : Chg (inl [4, 5]) _ _ _ _ := (hb40.n).seq ((ch42.n).seq ((ch47.l rfl).seq ((ch49.n).seq ((ch58.n).seq ((ch64.lr rfl).seq (ch75.l rfl))))))
     replace hbase := hbase.chg C78 (is_nl rfl)
     replace r_g_v := r_g_v.chg C51 (is_nl rfl)
     replace r_of_v := r_of_v.chg C51 (is_nl rfl)
     replace r_to_v := r_to_v.chg C51 (is_nl rfl)
     replace o10 := o10.chg C51 (is_nl rfl) (is_nl rfl)
     replace o22 := o22.chg C51 (is_nl rfl) (is_nl rfl)
     exact mid (g61) _ _ ⟨hbase, (by exact zs1), (by exact zs9), (by exact zs11), (by exact zs14), rfl, (by exact zs48), (by exact zs49), (r_g_v.chg hs77 (is_nl rfl)), (r_of_v.chg hs77 (is_nl rfl)), (r_to_v.chg hs77 (is_nl rfl)), (o10.chg hs77 (is_nl rfl) (is_nl rfl)), (o22.chg hs77 (is_nl rfl) (is_nl rfl)), (bx48.chg hs77 (is_nl rfl)), o76⟩
    ·
     refine o_buildSlice (α := Int) g44 (is 6) (is 6) (6, 0) rfl ([(endsS of (e : Int)).2] : List Int) Try.underlying27 tp3_dc (by decide) (by decide) (vs := [(0, Value.int .i64 ((endsS of (e : Int)).2))]) rfl rfl (.cons rfl .nil) ?_
     intro g79 w80 v81 ch82 o83
     have hs84 : Chg (inl [4]) _ _ _ _ := ch82.n
     refine ⟨hs84.same, ?_⟩
     refine h_one 7 rfl (by kernel_rfl) rfl ?_
     replace o34 := o34.chg ch82 (not_no _)
     obtain ⟨v85, cel86, r87⟩ := nst_row (r := (endsS of (e : Int)).1) o34 (by omega) (by omega)
     refine o_of_val (v := v85) (e_load1 tp27_dc rfl cel86) ?_
     refine ⟨hs84.same, ?_⟩
     refine h_one 11 rfl (by kernel_rfl) rfl ?_
     refine o_append (α := Int) (xs := (gI O ((endsS of (e : Int)).1))) (ys := ([(endsS of (e : Int)).2] : List Int)) g79 (J := row 4 (Int.toNat ((endsS of (e : Int)).1) + 1)) (S := row 4 (Int.toNat ((endsS of (e : Int)).1) + 1)) (4, Int.toNat ((endsS of (e : Int)).1) + 1) rfl Try.underlying27 tp3_dc (by decide) rfl rfl rfl r87 o83.flat (by decide) (by first | omega | (simp; done) | (simp; omega)) ?_
     intro g88 w89 v90 ch91 o92
     have o93 := o34.rowchg ch91
     clear o34
     clear cel86
     clear r87
     have hs94 := hs84.seq (ch91.lr rfl)
     refine ⟨hs94.same, ?_⟩
     refine h_one 12 rfl (by kernel_rfl) rfl ?_
     obtain ⟨us95, hl96, r97⟩ := o93.vc
     try simp only [List.length_set, List.length_append, List.length_cons, List.length_nil] at hl96
     refine o_of_val (v := Value.pointer (some (eAddr v32 1 (Int.toNat ((endsS of (e : Int)).1))))) (e_indexAddr (α := Vc) (xs := us95) (v := v32) (i := (endsS of (e : Int)).1) Try.underlying25 rfl rfl r97 rfl (by omega) (by omega)) ?_
     refine ⟨hs94.same, ?_⟩
     refine h_one 13 rfl (by kernel_rfl) rfl ?_
     refine o_store_row (r := (endsS of (e : Int)).1) tp27_dc rfl rfl o93 o92 (by omega) (by omega) ?_
     intro w101 ch102 o103
     clear o93
     clear o92
     have hs104 := hs94.seq (ch102.l rfl)
     refine ⟨hs104.same, ?_⟩
     refine h_nil (by kernel_rfl) ?_
     have C105 : Chg (inl [4, 5]) _ _ _ _ := (hb40.n).seq ((ch42.n).seq ((ch47.l rfl).seq ((ch49.n).seq ((ch82.n).seq ((ch91.lr rfl).seq (ch102.l rfl))))))
     replace hbase := hbase.chg C105 (is_nl rfl)
     replace r_g_v := r_g_v.chg C51 (is_nl rfl)
     replace r_of_v := r_of_v.chg C51 (is_nl rfl)
     replace r_to_v := r_to_v.chg C51 (is_nl rfl)
     replace o10 := o10.chg C51 (is_nl rfl) (is_nl rfl)
     replace o22 := o22.chg C51 (is_nl rfl) (is_nl rfl)
     exact mid (g88) _ _ ⟨hbase, (by exact zs1), (by exact zs9), (by exact zs11), (by exact zs14), rfl, (by exact zs48), (by exact zs49), (r_g_v.chg hs104 (is_nl rfl)), (r_of_v.chg hs104 (is_nl rfl)), (r_to_v.chg hs104 (is_nl rfl)), (o10.chg hs104 (is_nl rfl) (is_nl rfl)), (o22.chg hs104 (is_nl rfl) (is_nl rfl)), (bx48.chg hs104 (is_nl rfl)), o103⟩
   ·
    refine o_buildSlice (α := Int) g44 (is 6) (is 6) (6, 0) rfl ([(endsS of (e : Int)).2] : List Int) Try.underlying27 tp3_dc (by decide) (by decide) (vs := [(0, Value.int .i64 ((endsS of (e : Int)).2))]) rfl rfl (.cons rfl .nil) ?_
    intro g106 w107 v108 ch109 o110
    have hs111 : Chg (inl [4]) _ _ _ _ := ch109.n
    refine ⟨hs111.same, ?_⟩
    refine h_one 6 rfl (by kernel_rfl) rfl ?_
    have C112 : Chg (inl [5]) _ _ _ _ := (hb40.n).seq ((ch42.n).seq ((ch47.l rfl).seq ((ch49.n).seq (ch109.n))))
    replace o34 := o34.chg C112 (is_nl rfl)
    refine o_of_val (v := Value.pointer (some (eAddr v32 1 (Int.toNat ((endsS of (e : Int)).1))))) (e_indexAddr (α := List Int) (xs := O) (v := v32) (i := (endsS of (e : Int)).1) Try.underlying25 rfl rfl o34.sl rfl (by omega) (by omega)) ?_
    refine ⟨hs111.same, ?_⟩
    refine h_one 7 rfl (by kernel_rfl) rfl ?_
    obtain ⟨v113, cel114, r115⟩ := nst_row (r := (endsS of (e : Int)).1) o34 (by omega) (by omega)
    refine o_of_val (v := v113) (e_load1 tp27_dc rfl cel114) ?_
    refine ⟨hs111.same, ?_⟩
    refine h_one 11 rfl (by kernel_rfl) rfl ?_
    refine o_append (α := Int) (xs := (gI O ((endsS of (e : Int)).1))) (ys := ([(endsS of (e : Int)).2] : List Int)) g106 (J := row 4 (Int.toNat ((endsS of (e : Int)).1) + 1)) (S := row 4 (Int.toNat ((endsS of (e : Int)).1) + 1)) (4, Int.toNat ((endsS of (e : Int)).1) + 1) rfl Try.underlying27 tp3_dc (by decide) rfl rfl rfl r115 o110.flat (by decide) (by first | omega | (simp; done) | (simp; omega)) ?_
    intro g116 w117 v118 ch119 o120
    have o121 := o34.rowchg ch119
    clear o34
    clear cel114
    clear r115
    have hs122 := hs111.seq (ch119.lr rfl)
    refine ⟨hs122.same, ?_⟩
    refine h_one 12 rfl (by kernel_rfl) rfl ?_
    obtain ⟨us123, hl124, r125⟩ := o121.vc
    try simp only [List.length_set, List.length_append, List.length_cons, List.length_nil] at hl124
    refine o_of_val (v := Value.pointer (some (eAddr v32 1 (Int.toNat ((endsS of (e : Int)).1))))) (e_indexAddr (α := Vc) (xs := us123) (v := v32) (i := (endsS of (e : Int)).1) Try.underlying25 rfl rfl r125 rfl (by omega) (by omega)) ?_
    refine ⟨hs122.same, ?_⟩
    refine h_one 13 rfl (by kernel_rfl) rfl ?_
    refine o_store_row (r := (endsS of (e : Int)).1) tp27_dc rfl rfl o121 o120 (by omega) (by omega) ?_
    intro w129 ch130 o131
    clear o121
    clear o120
    have hs132 := hs122.seq (ch130.l rfl)
    refine ⟨hs132.same, ?_⟩
    refine h_nil (by kernel_rfl) ?_
    have C133 : Chg (inl [4, 5]) _ _ _ _ := (hb40.n).seq ((ch42.n).seq ((ch47.l rfl).seq ((ch49.n).seq ((ch109.n).seq ((ch119.lr rfl).seq (ch130.l rfl))))))
    replace hbase := hbase.chg C133 (is_nl rfl)
    have C134 : Chg (inl [5]) _ _ _ _ := (hb40.n).seq ((ch42.n).seq ((ch47.l rfl).seq (ch49.n)))
    replace r_g_v := r_g_v.chg C134 (is_nl rfl)
    replace r_of_v := r_of_v.chg C134 (is_nl rfl)
    replace r_to_v := r_to_v.chg C134 (is_nl rfl)
    replace o10 := o10.chg C134 (is_nl rfl) (is_nl rfl)
    replace o22 := o22.chg C134 (is_nl rfl) (is_nl rfl)
    exact mid (g116) _ _ ⟨hbase, (by exact zs1), (by exact zs9), (by exact zs11), (by exact zs14), rfl, (by exact zs48), (by exact zs49), (r_g_v.chg hs132 (is_nl rfl)), (r_of_v.chg hs132 (is_nl rfl)), (r_to_v.chg hs132 (is_nl rfl)), (o10.chg hs132 (is_nl rfl) (is_nl rfl)), (o22.chg hs132 (is_nl rfl) (is_nl rfl)), (bx48.chg hs132 (is_nl rfl)), o131⟩
  clear r_g_v
  clear r_of_v
  clear r_to_v
  clear o10
  clear o22
  clear o34
  clear bx48
  clear hbase
  rintro g137 f135 w136 ⟨hbase, zs1, zs9, zs11, zs14, zs16, zs48, zs49, r_g_v, r_of_v, r_to_v, o10, o22, bx48, o76⟩
  refine region_midh (σ := Cmap) (fun gq f w => Base w0 gq w ∧ f 1 = of_v ∧ f 9 = v8 ∧ f 11 = v20 ∧ f 14 = v32 ∧ f 48 = Value.int .i64 (List.length g.2 : Int) ∧ f 49 = Value.int .i64 (e : Int) ∧ Sl gq (is 0) w g_v g.2 ∧ Sl gq (is 0) w of_v of ∧ Sl gq (is 0) w to_v to ∧ Ow gq (is 2) (is 2) w v8 far1 ∧ Ow gq (is 3) (is 3) w v20 to ∧ Nst gq 4 w v32 (List.set (List.set O (Int.toNat ((endsS of (e : Int)).1)) (gI O ((endsS of (e : Int)).1) ++ ([(endsS of (e : Int)).2] : List Int))) (Int.toNat ((endsS of (e : Int)).2)) (gI (List.set O (Int.toNat ((endsS of (e : Int)).1)) (gI O ((endsS of (e : Int)).1) ++ ([(endsS of (e : Int)).2] : List Int))) ((endsS of (e : Int)).2) ++ ([(endsS of (e : Int)).1] : List Int)))) g137 (inl [4]) mixed_dc ?_ ?_
  ·
   intro mid
   intro w139 ch138
   refine h_take (v := v32) 0 rfl (by kernel_rfl) (by kernel_rfl) rfl (Chg.refl _ _ _) (fun w' hw' => e_move (by exact zs14)) ?_
   refine h_take (v := Value.pointer (some ⟨b43, 1, none⟩)) 1 rfl (by kernel_rfl) (by kernel_rfl) rfl (Chg.refl _ _ _) (fun w' hw' => e_indexAddr_arr Try.underlying60 rfl (by exact zs16) rfl (by decide) (by decide) rfl) ?_
   replace bx48 := bx48.chg ch138 (not_no _)
   refine h_take (v := Value.int .i64 ((endsS of (e : Int)).2)) 2 rfl (by kernel_rfl) (by kernel_rfl) rfl (Chg.refl _ _ _) (fun w' hw' => e_load_bx1 tp3_dc rfl (bx48.chg hw' (is_nl rfl)) rfl) ?_
   refine h_take (v := v32) 3 rfl (by kernel_rfl) (by kernel_rfl) rfl (Chg.refl _ _ _) (fun w' hw' => e_move (by exact zs14)) ?_
   refine h_take (v := Value.pointer (some ⟨b43, 1, none⟩)) 4 rfl (by kernel_rfl) (by kernel_rfl) rfl (Chg.refl _ _ _) (fun w' hw' => e_indexAddr_arr Try.underlying60 rfl (by exact zs16) rfl (by decide) (by decide) rfl) ?_
   refine h_take (v := Value.int .i64 ((endsS of (e : Int)).2)) 5 rfl (by kernel_rfl) (by kernel_rfl) rfl (Chg.refl _ _ _) (fun w' hw' => e_load_bx1 tp3_dc rfl (bx48.chg hw' (is_nl rfl)) rfl) ?_
   refine h_take (v := Value.pointer (some ⟨b43, 0, none⟩)) 8 rfl (by kernel_rfl) (by kernel_rfl) rfl (Chg.refl _ _ _) (fun w' hw' => e_indexAddr_arr Try.underlying60 rfl (by exact zs16) rfl (by decide) (by decide) rfl) ?_
   refine h_take (v := Value.int .i64 ((endsS of (e : Int)).1)) 9 rfl (by kernel_rfl) (by kernel_rfl) rfl (Chg.refl _ _ _) (fun w' hw' => e_load_bx1 tp3_dc rfl (bx48.chg hw' (is_nl rfl)) rfl) ?_
   refine h_many 6 [10] (by kernel_rfl) ⟨h_of 6 rfl (by kernel_rfl) rfl ?_, h_of 10 rfl (by kernel_rfl) rfl ?_, trivial⟩
   ·
    replace o76 := o76.chg ch138 (not_no _)
    refine o_of_val (v := Value.pointer (some (eAddr v32 1 (Int.toNat ((endsS of (e : Int)).2))))) (e_indexAddr (α := List Int) (xs := (List.set O (Int.toNat ((endsS of (e : Int)).1)) (gI O ((endsS of (e : Int)).1) ++ ([(endsS of (e : Int)).2] : List Int)))) (v := v32) (i := (endsS of (e : Int)).2) Try.underlying25 rfl rfl o76.sl rfl (by omega) (by first | omega | (simp only [List.length_set, List.length_append, List.length_cons, List.length_nil, List.length_replicate, List.length_map, List.length_take, List.length_drop]; omega) | (simp; done) | (simp; omega))) ?_
    refine ⟨(Chg.refl _ _ _), ?_⟩
    refine h_many 7 [10] (by kernel_rfl) ⟨h_of 7 rfl (by kernel_rfl) rfl ?_, h_of 10 rfl (by kernel_rfl) rfl ?_, trivial⟩
    ·
     obtain ⟨v140, cel141, r142⟩ := nst_row (r := (endsS of (e : Int)).2) o76 (by omega) (by first | omega | (simp only [List.length_set, List.length_append, List.length_cons, List.length_nil, List.length_replicate, List.length_map, List.length_take, List.length_drop]; omega) | (simp; done) | (simp; omega))
     refine o_of_val (v := v140) (e_load1 tp27_dc rfl cel141) ?_
     refine ⟨(Chg.refl _ _ _), ?_⟩
     refine h_one 10 rfl (by kernel_rfl) rfl ?_
     refine o_buildSlice (α := Int) g137 (is 7) (is 7) (7, 0) rfl ([(endsS of (e : Int)).1] : List Int) Try.underlying27 tp3_dc (by decide) (by decide) (vs := [(0, Value.int .i64 ((endsS of (e : Int)).1))]) rfl rfl (.cons rfl .nil) ?_
     intro g143 w144 v145 ch146 o147
     have hs148 : Chg (inl [4]) _ _ _ _ := ch146.n
     refine ⟨hs148.same, ?_⟩
     refine h_one 11 rfl (by kernel_rfl) rfl ?_
     replace o76 := o76.chg ch146 (not_no _)
     replace r142 := r142.chg ch146 (not_no _) (not_no _)
     refine o_append (α := Int) (xs := (gI (List.set O (Int.toNat ((endsS of (e : Int)).1)) (gI O ((endsS of (e : Int)).1) ++ ([(endsS of (e : Int)).2] : List Int))) ((endsS of (e : Int)).2))) (ys := ([(endsS of (e : Int)).1] : List Int)) g143 (J := row 4 (Int.toNat ((endsS of (e : Int)).2) + 1)) (S := row 4 (Int.toNat ((endsS of (e : Int)).2) + 1)) (4, Int.toNat ((endsS of (e : Int)).2) + 1) rfl Try.underlying27 tp3_dc (by decide) rfl rfl rfl r142 o147.flat (by decide) (by first | omega | (simp; done) | (simp; omega)) ?_
     intro g149 w150 v151 ch152 o153
     have o154 := o76.rowchg ch152
     clear o76
     clear cel141
     clear r142
     have hs155 := hs148.seq (ch152.lr rfl)
     refine ⟨hs155.same, ?_⟩
     refine h_one 12 rfl (by kernel_rfl) rfl ?_
     obtain ⟨us156, hl157, r158⟩ := o154.vc
     try simp only [List.length_set, List.length_append, List.length_cons, List.length_nil] at hl157
     refine o_of_val (v := Value.pointer (some (eAddr v32 1 (Int.toNat ((endsS of (e : Int)).2))))) (e_indexAddr (α := Vc) (xs := us156) (v := v32) (i := (endsS of (e : Int)).2) Try.underlying25 rfl rfl r158 rfl (by omega) (by omega)) ?_
     refine ⟨hs155.same, ?_⟩
     refine h_one 13 rfl (by kernel_rfl) rfl ?_
     refine o_store_row (r := (endsS of (e : Int)).2) tp27_dc rfl rfl o154 o153 (by omega) (by first | omega | (simp only [List.length_set, List.length_append, List.length_cons, List.length_nil, List.length_replicate, List.length_map, List.length_take, List.length_drop]; omega) | (simp; done) | (simp; omega)) ?_
     intro w162 ch163 o164
     clear o154
     clear o153
     have hs165 := hs155.seq (ch163.l rfl)
     refine ⟨hs165.same, ?_⟩
     refine h_nil (by kernel_rfl) ?_
     have C166 : Chg (inl [4]) _ _ _ _ := (ch138.n).seq ((ch146.n).seq ((ch152.lr rfl).seq (ch163.l rfl)))
     replace hbase := hbase.chg C166 (is_nl rfl)
     replace r_g_v := r_g_v.chg ch138 (not_no _)
     replace r_of_v := r_of_v.chg ch138 (not_no _)
     replace r_to_v := r_to_v.chg ch138 (not_no _)
     replace o10 := o10.chg ch138 (not_no _) (not_no _)
     replace o22 := o22.chg ch138 (not_no _) (not_no _)
     exact mid (g149) _ _ ⟨hbase, (by exact zs1), (by exact zs9), (by exact zs11), (by exact zs14), (by exact zs48), (by exact zs49), (r_g_v.chg hs165 (is_nl rfl)), (r_of_v.chg hs165 (is_nl rfl)), (r_to_v.chg hs165 (is_nl rfl)), (o10.chg hs165 (is_nl rfl) (is_nl rfl)), (o22.chg hs165 (is_nl rfl) (is_nl rfl)), o164⟩
    ·
     refine o_buildSlice (α := Int) g137 (is 7) (is 7) (7, 0) rfl ([(endsS of (e : Int)).1] : List Int) Try.underlying27 tp3_dc (by decide) (by decide) (vs := [(0, Value.int .i64 ((endsS of (e : Int)).1))]) rfl rfl (.cons rfl .nil) ?_
     intro g167 w168 v169 ch170 o171
     have hs172 : Chg (inl [4]) _ _ _ _ := ch170.n
     refine ⟨hs172.same, ?_⟩
     refine h_one 7 rfl (by kernel_rfl) rfl ?_
     replace o76 := o76.chg ch170 (not_no _)
     obtain ⟨v173, cel174, r175⟩ := nst_row (r := (endsS of (e : Int)).2) o76 (by omega) (by first | omega | (simp only [List.length_set, List.length_append, List.length_cons, List.length_nil, List.length_replicate, List.length_map, List.length_take, List.length_drop]; omega) | (simp; done) | (simp; omega))
     refine o_of_val (v := v173) (e_load1 tp27_dc rfl cel174) ?_
     refine ⟨hs172.same, ?_⟩
     refine h_one 11 rfl (by kernel_rfl) rfl ?_
     refine o_append (α := Int) (xs := (gI (List.set O (Int.toNat ((endsS of (e : Int)).1)) (gI O ((endsS of (e : Int)).1) ++ ([(endsS of (e : Int)).2] : List Int))) ((endsS of (e : Int)).2))) (ys := ([(endsS of (e : Int)).1] : List Int)) g167 (J := row 4 (Int.toNat ((endsS of (e : Int)).2) + 1)) (S := row 4 (Int.toNat ((endsS of (e : Int)).2) + 1)) (4, Int.toNat ((endsS of (e : Int)).2) + 1) rfl Try.underlying27 tp3_dc (by decide) rfl rfl rfl r175 o171.flat (by decide) (by first | omega | (simp; done) | (simp; omega)) ?_
     intro g176 w177 v178 ch179 o180
     have o181 := o76.rowchg ch179
     clear o76
     clear cel174
     clear r175
     have hs182 := hs172.seq (ch179.lr rfl)
     refine ⟨hs182.same, ?_⟩
     refine h_one 12 rfl (by kernel_rfl) rfl ?_
     obtain ⟨us183, hl184, r185⟩ := o181.vc
     try simp only [List.length_set, List.length_append, List.length_cons, List.length_nil] at hl184
     refine o_of_val (v := Value.pointer (some (eAddr v32 1 (Int.toNat ((endsS of (e : Int)).2))))) (e_indexAddr (α := Vc) (xs := us183) (v := v32) (i := (endsS of (e : Int)).2) Try.underlying25 rfl rfl r185 rfl (by omega) (by omega)) ?_
     refine ⟨hs182.same, ?_⟩
     refine h_one 13 rfl (by kernel_rfl) rfl ?_
     refine o_store_row (r := (endsS of (e : Int)).2) tp27_dc rfl rfl o181 o180 (by omega) (by first | omega | (simp only [List.length_set, List.length_append, List.length_cons, List.length_nil, List.length_replicate, List.length_map, List.length_take, List.length_drop]; omega) | (simp; done) | (simp; omega)) ?_
     intro w189 ch190 o191
     clear o181
     clear o180
     have hs192 := hs182.seq (ch190.l rfl)
     refine ⟨hs192.same, ?_⟩
     refine h_nil (by kernel_rfl) ?_
     have C193 : Chg (inl [4]) _ _ _ _ := (ch138.n).seq ((ch170.n).seq ((ch179.lr rfl).seq (ch190.l rfl)))
     replace hbase := hbase.chg C193 (is_nl rfl)
     replace r_g_v := r_g_v.chg ch138 (not_no _)
     replace r_of_v := r_of_v.chg ch138 (not_no _)
     replace r_to_v := r_to_v.chg ch138 (not_no _)
     replace o10 := o10.chg ch138 (not_no _) (not_no _)
     replace o22 := o22.chg ch138 (not_no _) (not_no _)
     exact mid (g176) _ _ ⟨hbase, (by exact zs1), (by exact zs9), (by exact zs11), (by exact zs14), (by exact zs48), (by exact zs49), (r_g_v.chg hs192 (is_nl rfl)), (r_of_v.chg hs192 (is_nl rfl)), (r_to_v.chg hs192 (is_nl rfl)), (o10.chg hs192 (is_nl rfl) (is_nl rfl)), (o22.chg hs192 (is_nl rfl) (is_nl rfl)), o191⟩
   ·
    refine o_buildSlice (α := Int) g137 (is 7) (is 7) (7, 0) rfl ([(endsS of (e : Int)).1] : List Int) Try.underlying27 tp3_dc (by decide) (by decide) (vs := [(0, Value.int .i64 ((endsS of (e : Int)).1))]) rfl rfl (.cons rfl .nil) ?_
    intro g194 w195 v196 ch197 o198
    have hs199 : Chg (inl [4]) _ _ _ _ := ch197.n
    refine ⟨hs199.same, ?_⟩
    refine h_one 6 rfl (by kernel_rfl) rfl ?_
    replace o76 := (o76.chg ch138 (not_no _)).chg ch197 (not_no _)
    refine o_of_val (v := Value.pointer (some (eAddr v32 1 (Int.toNat ((endsS of (e : Int)).2))))) (e_indexAddr (α := List Int) (xs := (List.set O (Int.toNat ((endsS of (e : Int)).1)) (gI O ((endsS of (e : Int)).1) ++ ([(endsS of (e : Int)).2] : List Int)))) (v := v32) (i := (endsS of (e : Int)).2) Try.underlying25 rfl rfl o76.sl rfl (by omega) (by first | omega | (simp only [List.length_set, List.length_append, List.length_cons, List.length_nil, List.length_replicate, List.length_map, List.length_take, List.length_drop]; omega) | (simp; done) | (simp; omega))) ?_
    refine ⟨hs199.same, ?_⟩
    refine h_one 7 rfl (by kernel_rfl) rfl ?_
    obtain ⟨v200, cel201, r202⟩ := nst_row (r := (endsS of (e : Int)).2) o76 (by omega) (by first | omega | (simp only [List.length_set, List.length_append, List.length_cons, List.length_nil, List.length_replicate, List.length_map, List.length_take, List.length_drop]; omega) | (simp; done) | (simp; omega))
    refine o_of_val (v := v200) (e_load1 tp27_dc rfl cel201) ?_
    refine ⟨hs199.same, ?_⟩
    refine h_one 11 rfl (by kernel_rfl) rfl ?_
    refine o_append (α := Int) (xs := (gI (List.set O (Int.toNat ((endsS of (e : Int)).1)) (gI O ((endsS of (e : Int)).1) ++ ([(endsS of (e : Int)).2] : List Int))) ((endsS of (e : Int)).2))) (ys := ([(endsS of (e : Int)).1] : List Int)) g194 (J := row 4 (Int.toNat ((endsS of (e : Int)).2) + 1)) (S := row 4 (Int.toNat ((endsS of (e : Int)).2) + 1)) (4, Int.toNat ((endsS of (e : Int)).2) + 1) rfl Try.underlying27 tp3_dc (by decide) rfl rfl rfl r202 o198.flat (by decide) (by first | omega | (simp; done) | (simp; omega)) ?_
    intro g203 w204 v205 ch206 o207
    have o208 := o76.rowchg ch206
    clear o76
    clear cel201
    clear r202
    have hs209 := hs199.seq (ch206.lr rfl)
    refine ⟨hs209.same, ?_⟩
    refine h_one 12 rfl (by kernel_rfl) rfl ?_
    obtain ⟨us210, hl211, r212⟩ := o208.vc
    try simp only [List.length_set, List.length_append, List.length_cons, List.length_nil] at hl211
    refine o_of_val (v := Value.pointer (some (eAddr v32 1 (Int.toNat ((endsS of (e : Int)).2))))) (e_indexAddr (α := Vc) (xs := us210) (v := v32) (i := (endsS of (e : Int)).2) Try.underlying25 rfl rfl r212 rfl (by omega) (by omega)) ?_
    refine ⟨hs209.same, ?_⟩
    refine h_one 13 rfl (by kernel_rfl) rfl ?_
    refine o_store_row (r := (endsS of (e : Int)).2) tp27_dc rfl rfl o208 o207 (by omega) (by first | omega | (simp only [List.length_set, List.length_append, List.length_cons, List.length_nil, List.length_replicate, List.length_map, List.length_take, List.length_drop]; omega) | (simp; done) | (simp; omega)) ?_
    intro w216 ch217 o218
    clear o208
    clear o207
    have hs219 := hs209.seq (ch217.l rfl)
    refine ⟨hs219.same, ?_⟩
    refine h_nil (by kernel_rfl) ?_
    have C220 : Chg (inl [4]) _ _ _ _ := (ch138.n).seq ((ch197.n).seq ((ch206.lr rfl).seq (ch217.l rfl)))
    replace hbase := hbase.chg C220 (is_nl rfl)
    replace r_g_v := r_g_v.chg ch138 (not_no _)
    replace r_of_v := r_of_v.chg ch138 (not_no _)
    replace r_to_v := r_to_v.chg ch138 (not_no _)
    replace o10 := o10.chg ch138 (not_no _) (not_no _)
    replace o22 := o22.chg ch138 (not_no _) (not_no _)
    exact mid (g203) _ _ ⟨hbase, (by exact zs1), (by exact zs9), (by exact zs11), (by exact zs14), (by exact zs48), (by exact zs49), (r_g_v.chg hs219 (is_nl rfl)), (r_of_v.chg hs219 (is_nl rfl)), (r_to_v.chg hs219 (is_nl rfl)), (o10.chg hs219 (is_nl rfl) (is_nl rfl)), (o22.chg hs219 (is_nl rfl) (is_nl rfl)), o218⟩
  clear r_g_v
  clear r_of_v
  clear r_to_v
  clear o10
  clear o22
  clear bx48
  clear o76
  clear hbase
  rintro g223 f221 w222 ⟨hbase, zs1, zs9, zs11, zs14, zs48, zs49, r_g_v, r_of_v, r_to_v, o10, o22, o164⟩
  refine run_inBlock ?_
  refine run_region rfl ?_
  refine l_val (v := Value.int .i64 ((e : Int) + 1)) rfl (e_add (m := (e : Int)) (n := 1) (by exact zs49) rfl (by omega)) ?_
  refine l_val (v := Value.int .i64 ((e : Int) + 1)) rfl (e_move rfl) ?_
  refine l_nil ?_
  refine back15 (e + 1, (List.set (List.set O (Int.toNat ((endsS of (e : Int)).1)) (gI O ((endsS of (e : Int)).1) ++ ([(endsS of (e : Int)).2] : List Int))) (Int.toNat ((endsS of (e : Int)).2)) (gI (List.set O (Int.toNat ((endsS of (e : Int)).1)) (gI O ((endsS of (e : Int)).1) ++ ([(endsS of (e : Int)).2] : List Int))) ((endsS of (e : Int)).2) ++ ([(endsS of (e : Int)).1] : List Int))), g223) _ _ ⟨hbase, (by exact zs1), (by exact zs9), (by exact zs11), (by exact zs14), (by exact zs48), rfl, r_g_v, r_of_v, r_to_v, o10, o22, o164, by omega, ?_⟩ ?_
  · show (List.set (List.set O (Int.toNat ((endsS of (e : Int)).1)) (gI O ((endsS of (e : Int)).1) ++ ([(endsS of (e : Int)).2] : List Int))) (Int.toNat ((endsS of (e : Int)).2)) (gI (List.set O (Int.toNat ((endsS of (e : Int)).1)) (gI O ((endsS of (e : Int)).1) ++ ([(endsS of (e : Int)).2] : List Int))) ((endsS of (e : Int)).2) ++ ([(endsS of (e : Int)).1] : List Int))) = adjK of faces (e + 1)
    rw [adjK_succ, ← hadj]
  · show Int.toNat (((List.length g.2 : Int) : Int) - ((e + 1) : Int)) < Int.toNat (((List.length g.2 : Int) : Int) - (e : Int))
    omega
 refine run_cond_f rfl (decide_eq_false p15) ?_
 refine run_exit rfl ?_
 refine run_seq (run_seq (run_region rfl ?_))
 refine l_val (v := Value.int .i64 0) rfl (e_assign rfl) ?_
 refine l_nil ?_
 refine run_block ?_
 refine run_loop (σ := Value × (List Int) × Nat × (List Int) × Cmap) (fun ⟨q_v, q, i, far2, gq⟩ f w => Base w0 gq w ∧ f 9 = v8 ∧ f 11 = q_v ∧ f 14 = v32 ∧ f 17 = Value.int .i64 (i : Int) ∧ Sl gq (is 0) w g_v g.2 ∧ Sl gq (is 0) w of_v of ∧ Sl gq (is 0) w to_v to ∧ Ow gq (is 2) (is 2) w v8 far2 ∧ Nst gq 4 w v32 O ∧ Ow gq (is 3) (is 3) w q_v q ∧ (FbGo (far2, q) (far0 faces to, to) (adjK of faces g.2.length) faces (faces.toNat + to.length) i)) (fun ⟨q_v, q, i, far2, gq⟩ => (faces.toNat + to.length) - i) (v20, to, 0, far1, g38) ?_ ?_
 · exact ⟨hbase, (by exact zs9), (by exact zs11), (by exact zs14), rfl, r_g_v, r_of_v, r_to_v, o10, o34, o22, by (have hjj : List.take j to = to := (List.take_of_length_le (by omega)); rw [hjj] at hinv1; rw [hinv1]; exact FbGo.start (FbOk.start hf1 hto))⟩
 clear r_g_v
 clear r_of_v
 clear r_to_v
 clear o10
 clear o22
 clear o34
 clear hbase
 rintro ⟨q_v, q, i, far2, g226⟩ f224 w225 ⟨hbase, zs9, zs11, zs14, zs17, r_g_v, r_of_v, r_to_v, o10, o34, o_q, hgo⟩ back22
 obtain ⟨hg1, hg2, hg3⟩ := hgo.facts
 have hAe : O = adjK of faces g.2.length := by rw [hadj, show e = g.2.length by omega]
 have hOl2 : (O.length : Int) = faces := by rw [hAe, adjK_len]; omega
 refine run_seq (run_seq (run_region rfl ?_))
 refine l_val (v := Value.int .i64 (i : Int)) rfl (e_move (by exact zs17)) ?_
 refine l_val (v := q_v) rfl (e_move (by exact zs11)) ?_
 have len227 := (o_q.flat).small
 refine l_val (v := Value.int .i64 (List.length q : Int)) rfl (e_len Try.underlying27 rfl o_q.flat) ?_
 refine l_val (v := Value.bool (decide ((i : Int) < (List.length q : Int)))) rfl (e_lss (m := (i : Int)) (n := (List.length q : Int)) rfl rfl) ?_
 refine l_nil ?_
 by_cases p22 : (i : Int) < (List.length q : Int)
 ·
  refine run_cond_t rfl (decide_eq_true p22) ?_
  obtain ⟨hn1, hn2⟩ := hgo.node (by assumption)
  refine run_skip ?_
  refine run_seq ?_
  refine run_block ?_
  refine run_seq (run_region rfl ?_)
  refine l_val (v := q_v) rfl (e_move (by exact zs11)) ?_
  refine l_val (v := Value.int .i64 (i : Int)) rfl (e_move (by exact zs17)) ?_
  refine l_val (v := Value.pointer (some (eAddr q_v 1 (Int.toNat (i : Int))))) rfl (e_indexAddr (α := Int) (xs := q) (v := q_v) (i := (i : Int)) Try.underlying27 rfl rfl o_q.flat rfl (by omega) (by omega)) ?_
  refine l_val (v := Value.int .i64 (gI q (i : Int))) rfl (e_load_el1 (α := Int) (xs := q) (v := q_v) (i := (i : Int)) tp3_dc rfl o_q.flat (by omega) (by omega) (by decide) rfl) ?_
  refine l_val (v := Value.int .i64 (gI q (i : Int))) rfl (e_assign rfl) ?_
  refine l_nil (run_seq (run_region rfl ?_))
  refine l_val (v := v32) rfl (e_move (by exact zs14)) ?_
  refine l_val (v := Value.int .i64 (gI q (i : Int))) rfl (e_move rfl) ?_
  refine l_val (v := Value.pointer (some (eAddr v32 1 (Int.toNat (gI q (i : Int)))))) rfl (e_indexAddr (α := List Int) (xs := O) (v := v32) (i := (gI q (i : Int))) Try.underlying25 rfl rfl o34.sl rfl (by omega) (by omega)) ?_
  obtain ⟨v228, cel229, r230⟩ := nst_row (r := (gI q (i : Int))) o34 (by omega) (by omega)
  refine l_val (v := v228) rfl (e_load1 tp27_dc rfl cel229) ?_
  have len231 := (r230.row_sl).small
  refine l_val (v := Value.int .i64 (List.length (gI O (gI q (i : Int))) : Int)) rfl (e_len Try.underlying27 rfl r230.row_sl) ?_
  refine l_val (v := Value.int .i64 0) rfl (e_move rfl) ?_
  refine l_nil ?_
  refine run_block ?_
  refine run_loop (σ := Value × (List Int) × Nat × (List Int) × Cmap) (fun ⟨q3_v, q3, p, far3, gq⟩ f w => Base w0 gq w ∧ f 9 = v8 ∧ f 11 = q3_v ∧ f 14 = v32 ∧ f 17 = Value.int .i64 (i : Int) ∧ f 18 = Value.int .i64 (gI q (i : Int)) ∧ f 95 = v228 ∧ f 96 = Value.int .i64 (List.length (gI O (gI q (i : Int))) : Int) ∧ f 97 = Value.int .i64 (p : Int) ∧ Sl gq (is 0) w g_v g.2 ∧ Sl gq (is 0) w of_v of ∧ Sl gq (is 0) w to_v to ∧ Ow gq (is 2) (is 2) w v8 far3 ∧ Nst gq 4 w v32 O ∧ Ow gq (row 4 (Int.toNat (gI q (i : Int)) + 1)) (row 4 (Int.toNat (gI q (i : Int)) + 1)) w v228 (gI O (gI q (i : Int))) ∧ Ow gq (is 3) (is 3) w q3_v q3 ∧ (p : Int) ≤ ((List.length (gI O (gI q (i : Int))) : Int) : Int) ∧ (FbRow (far3, q3) (far2, q) (adjK of faces g.2.length) faces (faces.toNat + to.length) (gI q (i : Int)) p)) (fun ⟨q3_v, q3, p, far3, gq⟩ => Int.toNat (((List.length (gI O (gI q (i : Int))) : Int) : Int) - (p : Int))) (q_v, q, 0, far2, g226) ?_ ?_
  · exact ⟨hbase, (by exact zs9), (by exact zs11), (by exact zs14), (by exact zs17), rfl, rfl, rfl, rfl, r_g_v, r_of_v, r_to_v, o10, o34, r230, o_q, by omega, by exact hgo.row (by assumption)⟩
  clear r_g_v
  clear r_of_v
  clear r_to_v
  clear o10
  clear o34
  clear o_q
  clear cel229
  clear r230
  clear hbase
  rintro ⟨q3_v, q3, p, far3, g234⟩ f232 w233 ⟨hbase, zs9, zs11, zs14, zs17, zs18, zs95, zs96, zs97, r_g_v, r_of_v, r_to_v, o10, o34, r230, o_q3, hle_p, hrow⟩ back26
  obtain ⟨hw1, hw2, ⟨hw3, hw4⟩, hw5, hw6⟩ := hrow.facts
  refine run_seq (run_region rfl ?_)
  refine l_val (v := Value.bool (decide ((p : Int) < (List.length (gI O (gI q (i : Int))) : Int)))) rfl (e_lss (m := (p : Int)) (n := (List.length (gI O (gI q (i : Int))) : Int)) (by exact zs97) (by exact zs96)) ?_
  refine l_nil (run_seq ?_)
  by_cases p26 : (p : Int) < (List.length (gI O (gI q (i : Int))) : Int)
  ·
   refine run_cond_t rfl (decide_eq_true p26) ?_
   have hpl : (p : Int) < (gI (adjK of faces g.2.length) (gI q (i : Int))).length := by rw [← hAe]; assumption
   obtain ⟨hx1, hx2⟩ := adj_rng hof hn1 hn2 (gI_mem (xs := gI (adjK of faces g.2.length) (gI q (i : Int))) (i := (p : Int)) (by omega) hpl)
   have hx1' := hx1
   have hx2' := hx2
   rw [← hAe] at hx1' hx2'
   refine run_skip ?_
   refine run_seq ?_
   refine run_block ?_
   refine run_seq (run_region rfl ?_)
   refine l_val (v := Value.pointer (some (eAddr v228 1 (Int.toNat (p : Int))))) rfl (e_indexAddr (α := Int) (xs := gI O (gI q (i : Int))) (v := v228) (i := (p : Int)) Try.underlying27 rfl (by exact zs95) r230.row_sl (by exact zs97) (by omega) (by omega)) ?_
   refine l_val (v := Value.int .i64 (gI (gI O (gI q (i : Int))) (p : Int))) rfl (e_load_el1 (α := Int) (xs := gI O (gI q (i : Int))) (v := v228) (i := (p : Int)) tp3_dc rfl r230.row_sl (by omega) (by omega) (by decide) rfl) ?_
   refine l_val (v := Value.int .i64 (gI (gI O (gI q (i : Int))) (p : Int))) rfl (e_assign rfl) ?_
   refine l_nil (run_seq (run_region rfl ?_))
   refine l_val (v := v8) rfl (e_move (by exact zs9)) ?_
   refine l_val (v := Value.int .i64 (gI (gI O (gI q (i : Int))) (p : Int))) rfl (e_move rfl) ?_
   refine l_val (v := Value.pointer (some (eAddr v8 1 (Int.toNat (gI (gI O (gI q (i : Int))) (p : Int)))))) rfl (e_indexAddr (α := Int) (xs := far3) (v := v8) (i := (gI (gI O (gI q (i : Int))) (p : Int))) Try.underlying27 rfl rfl o10.flat rfl (by omega) (by omega)) ?_
   refine l_val (v := Value.int .i64 (gI far3 (gI (gI O (gI q (i : Int))) (p : Int)))) rfl (e_load_el1 (α := Int) (xs := far3) (v := v8) (i := (gI (gI O (gI q (i : Int))) (p : Int))) tp3_dc rfl o10.flat (by omega) (by omega) (by decide) rfl) ?_
   refine l_val (v := Value.bool (decide ((gI far3 (gI (gI O (gI q (i : Int))) (p : Int))) < 0))) rfl (e_lss (m := (gI far3 (gI (gI O (gI q (i : Int))) (p : Int)))) (n := 0) rfl rfl) ?_
   refine l_nil ?_
   by_cases p28 : (gI far3 (gI (gI O (gI q (i : Int))) (p : Int))) < 0
   ·
    refine run_cond_t rfl (decide_eq_true p28) ?_
    refine run_seq (run_region rfl ?_)
    refine l_val (v := v8) rfl (e_move (by exact zs9)) ?_
    refine l_val (v := Value.int .i64 (gI (gI O (gI q (i : Int))) (p : Int))) rfl (e_move rfl) ?_
    refine l_val (v := v8) rfl (e_move (by exact zs9)) ?_
    refine l_val (v := Value.int .i64 (gI q (i : Int))) rfl (e_move (by exact zs18)) ?_
    refine l_val (v := Value.pointer (some (eAddr v8 1 (Int.toNat (gI q (i : Int)))))) rfl (e_indexAddr (α := Int) (xs := far3) (v := v8) (i := (gI q (i : Int))) Try.underlying27 rfl rfl o10.flat rfl (by omega) (by omega)) ?_
    refine l_val (v := Value.int .i64 (gI far3 (gI q (i : Int)))) rfl (e_load_el1 (α := Int) (xs := far3) (v := v8) (i := (gI q (i : Int))) tp3_dc rfl o10.flat (by omega) (by omega) (by decide) rfl) ?_
    refine l_val (v := Value.int .i64 ((gI far3 (gI q (i : Int))) + 1)) rfl (e_add (m := (gI far3 (gI q (i : Int)))) (n := 1) rfl rfl (by omega)) ?_
    refine l_val (v := Value.pointer (some (eAddr v8 1 (Int.toNat (gI (gI O (gI q (i : Int))) (p : Int)))))) rfl (e_indexAddr (α := Int) (xs := far3) (v := v8) (i := (gI (gI O (gI q (i : Int))) (p : Int))) Try.underlying27 rfl rfl o10.flat rfl (by omega) (by omega)) ?_
    refine l_op rfl ?_
    refine o_store_el (i := (gI (gI O (gI q (i : Int))) (p : Int))) ((gI far3 (gI q (i : Int))) + 1) tp3_dc rfl rfl o10 (by omega) (by omega) rfl ?_
    intro w235 ch236 bx237
    clear o10
    refine l_nil (run_region rfl ?_)
    refine l_val (v := q3_v) rfl (e_move (by exact zs11)) ?_
    refine l_val (v := Value.int .i64 (gI (gI O (gI q (i : Int))) (p : Int))) rfl (e_move rfl) ?_
    refine l_op rfl ?_
    refine o_buildSlice (α := Int) g234 (is 8) (is 8) (8, 0) rfl ([(gI (gI O (gI q (i : Int))) (p : Int))] : List Int) Try.underlying27 tp3_dc (by decide) (by decide) (vs := [(0, Value.int .i64 (gI (gI O (gI q (i : Int))) (p : Int)))]) rfl rfl (.cons rfl .nil) ?_
    intro g238 w239 v240 ch241 o242
    refine l_op rfl ?_
    replace o_q3 := (o_q3.chg ch236 (is_ne rfl) (is_ne rfl)).chg ch241 (not_no _) (not_no _)
    refine o_append (α := Int) (xs := q3) (ys := ([(gI (gI O (gI q (i : Int))) (p : Int))] : List Int)) g238 (J := is 3) (S := is 3) (3, 0) rfl Try.underlying27 tp3_dc (by decide) rfl rfl rfl o_q3 o242.flat (by decide) (by first | omega | (simp; done) | (simp; omega)) ?_
    intro g243 w244 v245 ch246 o247
    clear o_q3
    refine l_val (v := v245) rfl (e_assign rfl) ?_
    refine l_nil ?_
    refine run_inBlock ?_
    clear o242
    refine run_region rfl ?_
    refine l_val (v := Value.int .i64 ((p : Int) + 1)) rfl (e_add (m := (p : Int)) (n := 1) (by exact zs97) rfl (by omega)) ?_
    refine l_val (v := Value.int .i64 ((p : Int) + 1)) rfl (e_move rfl) ?_
    refine l_nil ?_
    have C248 : Chg (inl [2, 3]) _ _ _ _ := (ch236.l rfl).seq ((ch241.n).seq (ch246.l rfl))
    replace hbase := hbase.chg C248 (is_nl rfl)
    replace r_g_v := r_g_v.chg C248 (is_nl rfl)
    replace r_of_v := r_of_v.chg C248 (is_nl rfl)
    replace r_to_v := r_to_v.chg C248 (is_nl rfl)
    replace bx237 := (bx237.chg ch241 (not_no _) (not_no _)).chg ch246 (is_ne rfl) (is_ne rfl)
    replace o34 := o34.chg C248 (is_nl rfl)
    replace r230 := r230.chg C248 (row_nl rfl) (row_nl rfl)
    refine back26 (v245, (q3 ++ ([(gI (gI O (gI q (i : Int))) (p : Int))] : List Int)), p + 1, (List.set far3 (Int.toNat (gI (gI O (gI q (i : Int))) (p : Int))) ((gI far3 (gI q (i : Int))) + 1)), g243) _ _ ⟨hbase, (by exact zs9), rfl, (by exact zs14), (by exact zs17), (by exact zs18), (by exact zs95), (by exact zs96), rfl, r_g_v, r_of_v, r_to_v, bx237, o34, r230, o247, by omega, ?_⟩ ?_
    · show FbRow ((List.set far3 (Int.toNat (gI (gI O (gI q (i : Int))) (p : Int))) ((gI far3 (gI q (i : Int))) + 1)), (q3 ++ ([(gI (gI O (gI q (i : Int))) (p : Int))] : List Int))) (far2, q) (adjK of faces g.2.length) faces (faces.toNat + to.length) (gI q (i : Int)) (p + 1)
      first
        | (have h9 := hrow.yes hpl hx1 hx2 (by rw [← hAe]; assumption)
           rw [← hAe] at h9 ⊢
           exact h9)
        | exact hrow.no hpl hx1 hx2 (by rw [← hAe]; assumption)
    · show Int.toNat (((List.length (gI O (gI q (i : Int))) : Int) : Int) - ((p + 1) : Int)) < Int.toNat (((List.length (gI O (gI q (i : Int))) : Int) : Int) - (p : Int))
      omega
   refine run_cond_f rfl (decide_eq_false p28) ?_
   refine run_skip ?_
   refine run_inBlock ?_
   refine run_region rfl ?_
   refine l_val (v := Value.int .i64 ((p : Int) + 1)) rfl (e_add (m := (p : Int)) (n := 1) (by exact zs97) rfl (by omega)) ?_
   refine l_val (v := Value.int .i64 ((p : Int) + 1)) rfl (e_move rfl) ?_
   refine l_nil ?_
   refine back26 (q3_v, q3, p + 1, far3, g234) _ _ ⟨hbase, (by exact zs9), (by exact zs11), (by exact zs14), (by exact zs17), (by exact zs18), (by exact zs95), (by exact zs96), rfl, r_g_v, r_of_v, r_to_v, o10, o34, r230, o_q3, by omega, ?_⟩ ?_
   · show FbRow (far3, q3) (far2, q) (adjK of faces g.2.length) faces (faces.toNat + to.length) (gI q (i : Int)) (p + 1)
     first
       | (have h9 := hrow.yes hpl hx1 hx2 (by rw [← hAe]; assumption)
          rw [← hAe] at h9 ⊢
          exact h9)
       | exact hrow.no hpl hx1 hx2 (by rw [← hAe]; assumption)
   · show Int.toNat (((List.length (gI O (gI q (i : Int))) : Int) : Int) - ((p + 1) : Int)) < Int.toNat (((List.length (gI O (gI q (i : Int))) : Int) : Int) - (p : Int))
     omega
  refine run_cond_f rfl (decide_eq_false p26) ?_
  refine run_exit rfl ?_
  refine run_inBlock ?_
  clear r230
  refine run_region rfl ?_
  refine l_val (v := Value.int .i64 (i : Int)) rfl (e_move (by exact zs17)) ?_
  refine l_val (v := Value.int .i64 ((i : Int) + 1)) rfl (e_add (m := (i : Int)) (n := 1) rfl rfl (by omega)) ?_
  refine l_val (v := Value.int .i64 ((i : Int) + 1)) rfl (e_assign rfl) ?_
  refine l_nil ?_
  refine back22 (q3_v, q3, i + 1, far3, g234) _ _ ⟨hbase, (by exact zs9), (by exact zs11), (by exact zs14), rfl, r_g_v, r_of_v, r_to_v, o10, o34, o_q3, ?_⟩ ?_
  · show FbGo (far3, q3) (far0 faces to, to) (adjK of faces g.2.length) faces (faces.toNat + to.length) (i + 1)
    exact hgo.next (by assumption) hrow (by rw [← hAe]; assumption)
  · show (faces.toNat + to.length) - (i + 1) < (faces.toNat + to.length) - i
    omega
 refine run_cond_f rfl (decide_eq_false p22) ?_
 refine run_exit rfl ?_
 refine run_seq ?_
 clear o34
 clear o_q
 refine run_region rfl ?_
 refine l_val (v := v8) rfl (e_move (by exact zs9)) ?_
 refine l_val (v := v8) rfl (e_assign rfl) ?_
 refine l_nil ?_
 refine run_ret (vs := [v8]) Try.func68 (.tmp rfl .nil) ?_
 -- return 0
 have e0 : (far2 : List Int) = (farS g.2.length of faces to) := by
   exact congrArg Prod.fst (hgo.done (by assumption))
 exact ⟨(fin w0 g226 (fun n => if n = 2 then 1 else 0), v8), (congrArg (a₁ := far2) (fun (z0 : List Int) => Ending.returned (v8)) e0), hbase.fresh _, (e0 ▸ (o10.glue (γ := c0) (ren := (fun n => if n = 2 then 1 else 0)) (k := 1) hbase.col rfl rfl))⟩
end TL
