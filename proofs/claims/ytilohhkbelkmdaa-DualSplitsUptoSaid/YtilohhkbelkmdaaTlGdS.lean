import Derived.Test.YtilohhkbelkmdaaTlGdB
import Derived.Test.YtilohhkbelkmdaaTlGdF
import Derived.Test.YtilohhkbelkmdaaTlGenA
import Derived.Test.YtilohhkbelkmdaaTlGenJ
import Derived.Test.YtilohhkbelkmdaaTlGenI
import Derived.Test.YtilohhkbelkmdaaTlGenV
import Derived.Test.YtilohhkbelkmdaaTlGenX
import Derived.Test.YtilohhkbelkmdaaTlP3
import Derived.Test.YtilohhkbelkmdaaProg
set_option linter.all false
set_option maxRecDepth 20000
namespace TL
open Go Go.Proofs
theorem mixed_ds : Try.prog.follows .mixedOrders = true := by kernel_rfl
theorem tp3_ds : Tp Try.prog 3 false 1 8 (.int .i64 0) := Tp.of (by kernel_rfl)
theorem tp22_ds : Tp Try.prog 22 false 1 24 (.slice none 0 0) := Tp.of (by kernel_rfl)
theorem tp24_ds : Tp Try.prog 24 true 2 32 (.agg #[.int .i64 0, .slice none 0 0]) := Tp.of (by kernel_rfl)
theorem tp27_ds : Tp Try.prog 27 false 1 24 (.slice none 0 0) := Tp.of (by kernel_rfl)
theorem bd11_ds : Try.f11.body.isNone = false := rfl
theorem nm11_ds : (Try.f11.name == "runtime.NumGoroutine") = false := by decide +kernel
theorem bd21_ds : Try.f21.body.isNone = false := rfl
theorem nm21_ds : (Try.f21.name == "runtime.NumGoroutine") = false := by decide +kernel
theorem bd23_ds : Try.f23.body.isNone = false := rfl
theorem nm23_ds : (Try.f23.name == "runtime.NumGoroutine") = false := by decide +kernel
theorem bd26_ds : Try.f26.body.isNone = false := rfl
theorem nm26_ds : (Try.f26.name == "runtime.NumGoroutine") = false := by decide +kernel
theorem bd28_ds : Try.f28.body.isNone = false := rfl
theorem nm28_ds : (Try.f28.name == "runtime.NumGoroutine") = false := by decide +kernel
theorem bd29_ds : Try.f29.body.isNone = false := rfl
theorem nm29_ds : (Try.f29.name == "runtime.NumGoroutine") = false := by decide +kernel
set_option maxHeartbeats 4000000 in
theorem DualSplits_ok (w0 : World) (g : (Int) × (List ((Int) × (Int)))) (g_v : Value) (hg_v : Ro w0 g_v g.2) (r : List (List Int)) (r_v : Value) (hr_v : Ro w0 r_v r) (e : Int) (hb : (r.length : Int) ≤ 1048576 ∧ ∀ l_ ∈ r, l_.length ≤ 1048576) :
    Calls Try.prog 6 #[Value.agg (List.toArray [Value.int .i64 g.1, g_v]), r_v, Value.int .i64 e] w0 (fun ee w => ee = .returned (Value.bool true) ∧ Bel w0.heap.size w0 w) := by
 refine calls_of_run Try.func6 rfl (Nat.le_of_ble_eq_true rfl) ?_
 have hbase := Base.start w0
 have r_g_v := hg_v.sl
 have r_r_v := hr_v.sl
 refine run_seq (run_region rfl (l_op rfl ?_))
 refine o_box c0 (is 1) (1, 0) rfl rfl ?_
 intro g4 w1 b3 ch2 bx5
 replace bx5 : Bx g4 (is 1) w1 b3 [Value.int .i64 g.1, g_v] := bx5
 refine l_val (v := Value.bool false) rfl (e_assign rfl) ?_
 refine l_nil (run_seq (run_seq (run_region rfl (l_op rfl ?_))))
 refine o_call (v := Value.bool true) (e_call (vals := []) Try.func21 bd21_ds nm21_ds rfl) (begunD_ok w1 ) ?_
 intro w6 hb7
 replace hb7 := chg_below hb7 g4
 refine l_val (v := Value.bool false) rfl (e_not (b := true) rfl) ?_
 refine l_nil ?_
 refine run_cond_f rfl rfl ?_
 refine run_skip ?_
 refine run_seq (run_seq (run_region rfl ?_))
 replace bx5 := bx5.chg hb7 (not_no _)
 refine l_val (v := Value.agg (List.toArray [Value.int .i64 g.1, g_v])) rfl (e_load_bxN (ds := [Value.int .i64 g.1, g_v]) tp24_ds rfl bx5 rfl rfl) ?_
 refine l_val (v := r_v) rfl (e_move rfl) ?_
 replace r_g_v := (r_g_v.chg ch2 (not_no _)).chg hb7 (not_no _)
 replace r_r_v := (r_r_v.chg ch2 (not_no _)).chg hb7 (not_no _)
 refine l_op rfl ?_
 refine o_call (v := Value.bool (decide ((g.2.length ≤ 300 ∧ (g.1 ≤ 300 ∨ ¬ MayP g)) ∧ g.1 ≤ 200 ∧ r.length + r.flatten.length ≤ 1000))) (e_call (vals := [Value.agg (List.toArray [Value.int .i64 g.1, g_v]), r_v]) Try.func11 bd11_ds nm11_ds rfl) (Light9_ok w6 g g_v (r_g_v).ro r r_v (r_r_v).ro (by assumption)) ?_
 intro w8 hb9
 replace hb9 := chg_below hb9 g4
 refine l_val (v := Value.bool (!(decide ((g.2.length ≤ 300 ∧ (g.1 ≤ 300 ∨ ¬ MayP g)) ∧ g.1 ≤ 200 ∧ r.length + r.flatten.length ≤ 1000)))) rfl (e_not (b := (decide ((g.2.length ≤ 300 ∧ (g.1 ≤ 300 ∨ ¬ MayP g)) ∧ g.1 ≤ 200 ∧ r.length + r.flatten.length ≤ 1000))) rfl) ?_
 refine l_nil ?_
 by_cases p3 : (decide ((g.2.length ≤ 300 ∧ (g.1 ≤ 300 ∨ ¬ MayP g)) ∧ g.1 ≤ 200 ∧ r.length + r.flatten.length ≤ 1000)) = true
 ·
  refine run_cond_f rfl (congrArg Bool.not p3) ?_
  refine run_skip ?_
  refine run_seq (run_region rfl ?_)
  replace bx5 := bx5.chg hb9 (not_no _)
  refine l_val (v := Value.agg (List.toArray [Value.int .i64 g.1, g_v])) rfl (e_load_bxN (ds := [Value.int .i64 g.1, g_v]) tp24_ds rfl bx5 rfl rfl) ?_
  refine l_val (v := r_v) rfl (e_move rfl) ?_
  refine l_val (v := Value.int .i64 e) rfl (e_move rfl) ?_
  replace r_g_v := r_g_v.chg hb9 (not_no _)
  replace r_r_v := r_r_v.chg hb9 (not_no _)
  refine l_op rfl ?_
  refine o_callx (e_call (vals := [Value.agg (List.toArray [Value.int .i64 g.1, g_v]), r_v, Value.int .i64 e]) Try.func28 bd28_ds nm28_ds rfl) (dSplit_ok w8 g g_v (r_g_v).ro r r_v (r_r_v).ro e) ?_
  rintro ⟨d11, v13, v15⟩ w10 ⟨fr12, o14, o16⟩
  obtain ⟨g17, hg17⟩ : ∃ q, q = glue w8.heap.size g4 d11 (fun n => if n = 1 then 2 else if n = 2 then 3 else 0) := ⟨_, rfl⟩
  have ch18 := chg_glue fr12.below g4 d11 (fun n => if n = 1 then 2 else if n = 2 then 3 else 0)
  rw [← hg17] at ch18
  replace o14 := o14.glue (γ := g4) (ren := (fun n => if n = 1 then 2 else if n = 2 then 3 else 0)) (k := 2) fr12.col rfl rfl
  rw [← hg17] at o14
  replace o16 := o16.glue (γ := g4) (ren := (fun n => if n = 1 then 2 else if n = 2 then 3 else 0)) (k := 3) fr12.col rfl rfl
  rw [← hg17] at o16
  clear hg17
  refine l_val (v := Value.tuple (List.toArray [Value.agg (List.toArray [Value.int .i64 (((dsplitR g r e).1).1), v13]), v15, Value.int .i64 ((dsplitR g r e).2.2)])) rfl (e_move rfl) ?_
  refine l_val (v := Value.agg (List.toArray [Value.int .i64 (((dsplitR g r e).1).1), v13])) rfl (e_extract rfl rfl) ?_
  refine l_val (v := v15) rfl (e_extract rfl rfl) ?_
  refine l_val (v := Value.int .i64 ((dsplitR g r e).2.2)) rfl (e_extract rfl rfl) ?_
  refine l_op rfl ?_
  refine o_alloc g17 (is 4) (4, 0) rfl tp24_ds ?_
  intro g22 w19 b21 ch20 bx23
  replace bx23 : Bx g22 (is 4) w19 b21 [Value.int .i64 0, Value.slice none 0 0] := bx23
  refine l_op rfl ?_
  replace o14 := o14.chg ch20 (not_no _) (not_no _)
  refine o_store_bx (cs' := [Value.int .i64 (((dsplitR g r e).1).1), v13]) tp24_ds rfl rfl bx23 rfl (Nat.le_of_ble_eq_true rfl) (AllOne.all (.cons rfl (.cons (sl_one o14.flat) .nil))) rfl ?_
  intro w24 ch25 bx26
  clear bx23
  refine l_val (v := v15) rfl (e_assign rfl) ?_
  refine l_val (v := Value.int .i64 ((dsplitR g r e).2.2)) rfl (e_assign rfl) ?_
  refine l_nil (run_seq (run_seq (run_region rfl ?_)))
  refine l_val (v := Value.int .i64 ((dsplitR g r e).2.2)) rfl (e_move rfl) ?_
  refine l_val (v := Value.bool (!(decide (((dsplitR g r e).2.2) = 0)))) rfl (e_neq (m := (dsplitR g r e).2.2) (n := 0) rfl rfl) ?_
  refine l_nil ?_
  by_cases p6 : ((dsplitR g r e).2.2) = 0
  ·
   have hS := split_law p6
   have hm := hS.may
   have hrp := hS.rot
   have hm0 := hm
   obtain ⟨hm1, hm2, hm3, hm4⟩ := hm0
   have hol := ofS_len g r
   obtain ⟨he1, he2⟩ := hS.bd
   have hol1 := ofS_len (dsplitR g r e).1 (dsplitR g r e).2.1
   have hm1' := hS.m'
   have hfl := hS.fl
   refine run_cond_f rfl (congrArg Bool.not (decide_eq_true p6)) ?_
   refine run_skip ?_
   refine run_seq ?_
   refine run_region_h g22 (inl []) mixed_ds ?_
   intro w28 ch27
   have C29 : Chg (inl [4]) _ _ _ _ := (ch18.n).seq ((ch20.n).seq ((ch25.l rfl).seq (ch27.n)))
   replace bx5 := bx5.chg C29 (is_nl rfl)
   refine h_take (v := Value.agg (List.toArray [Value.int .i64 g.1, g_v])) 0 rfl (by kernel_rfl) (by kernel_rfl) rfl (Chg.refl _ _ _) (fun w' hw' => e_load_bxN (ds := [Value.int .i64 g.1, g_v]) tp24_ds rfl (bx5.chg hw' (is_nl rfl)) rfl rfl) ?_
   refine h_take (v := r_v) 1 rfl (by kernel_rfl) (by kernel_rfl) rfl (Chg.refl _ _ _) (fun w' hw' => e_move rfl) ?_
   replace bx26 := bx26.chg ch27 (not_no _)
   refine h_take (v := Value.agg (List.toArray [Value.int .i64 (((dsplitR g r e).1).1), v13])) 3 rfl (by kernel_rfl) (by kernel_rfl) rfl (Chg.refl _ _ _) (fun w' hw' => e_load_bxN (ds := [Value.int .i64 (((dsplitR g r e).1).1), v13]) tp24_ds rfl (bx26.chg hw' (is_nl rfl)) rfl rfl) ?_
   refine h_take (v := v15) 4 rfl (by kernel_rfl) (by kernel_rfl) rfl (Chg.refl _ _ _) (fun w' hw' => e_move rfl) ?_
   refine h_one 2 rfl (by kernel_rfl) rfl ?_
   replace r_g_v := r_g_v.chg C29 (is_nl rfl)
   replace r_r_v := r_r_v.chg C29 (is_nl rfl)
   refine o_callx (e_call (vals := [Value.agg (List.toArray [Value.int .i64 g.1, g_v]), r_v]) Try.func29 bd29_ds nm29_ds rfl) (rFaces_ok w28 g g_v (r_g_v).ro r r_v (r_r_v).ro (by first | exact hm | exact hS.may') (by first | exact hrp | exact hS.rot')) ?_
   rintro ⟨d31, v33⟩ w30 ⟨fr32, o34⟩
   obtain ⟨g35, hg35⟩ : ∃ q, q = glue w28.heap.size g22 d31 (fun n => if n = 1 then 5 else 0) := ⟨_, rfl⟩
   have ch36 := chg_glue fr32.below g22 d31 (fun n => if n = 1 then 5 else 0)
   rw [← hg35] at ch36
   replace o34 := o34.glue (γ := g22) (ren := (fun n => if n = 1 then 5 else 0)) (k := 5) fr32.col rfl rfl
   rw [← hg35] at o34
   clear hg35
   have hs37 : Chg (inl []) _ _ _ _ := ch36.n
   refine ⟨hs37.same, ?_⟩
   refine h_one 5 rfl (by kernel_rfl) rfl ?_
   replace o14 := (o14.chg ch25 (is_ne rfl) (is_ne rfl)).chg ch27 (not_no _) (not_no _)
   have C38 : Chg (inl [4]) _ _ _ _ := (ch20.n).seq ((ch25.l rfl).seq (ch27.n))
   replace o16 := o16.chg C38 (is_nl rfl)
   refine o_callx (e_call (vals := [Value.agg (List.toArray [Value.int .i64 (((dsplitR g r e).1).1), v13]), v15]) Try.func29 bd29_ds nm29_ds rfl) (rFaces_ok w30 ((dsplitR g r e).1) v13 ((o14.chg hs37 (is_nl rfl) (is_nl rfl)).flat).ro ((dsplitR g r e).2.1) v15 ((o16.chg hs37 (is_nl rfl)).sl).ro (by first | exact hm | exact hS.may') (by first | exact hrp | exact hS.rot')) ?_
   rintro ⟨d40, v42⟩ w39 ⟨fr41, o43⟩
   obtain ⟨g44, hg44⟩ : ∃ q, q = glue w30.heap.size g35 d40 (fun n => if n = 1 then 6 else 0) := ⟨_, rfl⟩
   have ch45 := chg_glue fr41.below g35 d40 (fun n => if n = 1 then 6 else 0)
   rw [← hg44] at ch45
   replace o43 := o43.glue (γ := g35) (ren := (fun n => if n = 1 then 6 else 0)) (k := 6) fr41.col rfl rfl
   rw [← hg44] at o43
   clear hg44
   have hs46 := hs37.seq (ch45.n)
   refine ⟨hs46.same, ?_⟩
   refine h_take (v := v33) 6 rfl (by kernel_rfl) (by kernel_rfl) rfl hs46.same (fun w' hw' => e_assign rfl) ?_
   refine h_take (v := v42) 7 rfl (by kernel_rfl) (by kernel_rfl) rfl hs46.same (fun w' hw' => e_assign rfl) ?_
   refine h_nil (by kernel_rfl) ?_
   refine run_seq ?_
   refine run_region_h g44 (inl []) mixed_ds ?_
   intro w48 ch47
   have C49 : Chg (inl []) _ _ _ _ := (ch36.n).seq ((ch45.n).seq (ch47.n))
   replace bx5 := bx5.chg C49 (is_nl rfl)
   refine h_take (v := Value.agg (List.toArray [Value.int .i64 g.1, g_v])) 0 rfl (by kernel_rfl) (by kernel_rfl) rfl (Chg.refl _ _ _) (fun w' hw' => e_load_bxN (ds := [Value.int .i64 g.1, g_v]) tp24_ds rfl (bx5.chg hw' (is_nl rfl)) rfl rfl) ?_
   refine h_take (v := r_v) 1 rfl (by kernel_rfl) (by kernel_rfl) rfl (Chg.refl _ _ _) (fun w' hw' => e_move rfl) ?_
   replace bx26 := bx26.chg C49 (is_nl rfl)
   refine h_take (v := Value.agg (List.toArray [Value.int .i64 (((dsplitR g r e).1).1), v13])) 3 rfl (by kernel_rfl) (by kernel_rfl) rfl (Chg.refl _ _ _) (fun w' hw' => e_load_bxN (ds := [Value.int .i64 (((dsplitR g r e).1).1), v13]) tp24_ds rfl (bx26.chg hw' (is_nl rfl)) rfl rfl) ?_
   refine h_take (v := v15) 4 rfl (by kernel_rfl) (by kernel_rfl) rfl (Chg.refl _ _ _) (fun w' hw' => e_move rfl) ?_
   refine h_one 2 rfl (by kernel_rfl) rfl ?_
   replace r_g_v := r_g_v.chg C49 (is_nl rfl)
   replace r_r_v := r_r_v.chg C49 (is_nl rfl)
   refine o_callx (e_call (vals := [Value.agg (List.toArray [Value.int .i64 g.1, g_v]), r_v]) Try.func26 bd26_ds nm26_ds rfl) (rOf_ok w48 g g_v (r_g_v).ro r r_v (r_r_v).ro (by first | exact hm | exact hS.may') (by first | exact hrp | exact hS.rot')) ?_
   rintro ⟨d51, v53⟩ w50 ⟨fr52, o54⟩
   obtain ⟨g55, hg55⟩ : ∃ q, q = glue w48.heap.size g44 d51 (fun n => if n = 1 then 7 else 0) := ⟨_, rfl⟩
   have ch56 := chg_glue fr52.below g44 d51 (fun n => if n = 1 then 7 else 0)
   rw [← hg55] at ch56
   replace o54 := o54.glue (γ := g44) (ren := (fun n => if n = 1 then 7 else 0)) (k := 7) fr52.col rfl rfl
   rw [← hg55] at o54
   clear hg55
   have hs57 : Chg (inl []) _ _ _ _ := ch56.n
   refine ⟨hs57.same, ?_⟩
   refine h_one 5 rfl (by kernel_rfl) rfl ?_
   replace o14 := o14.chg C49 (is_nl rfl) (is_nl rfl)
   replace o16 := o16.chg C49 (is_nl rfl)
   refine o_callx (e_call (vals := [Value.agg (List.toArray [Value.int .i64 (((dsplitR g r e).1).1), v13]), v15]) Try.func26 bd26_ds nm26_ds rfl) (rOf_ok w50 ((dsplitR g r e).1) v13 ((o14.chg hs57 (is_nl rfl) (is_nl rfl)).flat).ro ((dsplitR g r e).2.1) v15 ((o16.chg hs57 (is_nl rfl)).sl).ro (by first | exact hm | exact hS.may') (by first | exact hrp | exact hS.rot')) ?_
   rintro ⟨d59, v61⟩ w58 ⟨fr60, o62⟩
   obtain ⟨g63, hg63⟩ : ∃ q, q = glue w50.heap.size g55 d59 (fun n => if n = 1 then 8 else 0) := ⟨_, rfl⟩
   have ch64 := chg_glue fr60.below g55 d59 (fun n => if n = 1 then 8 else 0)
   rw [← hg63] at ch64
   replace o62 := o62.glue (γ := g55) (ren := (fun n => if n = 1 then 8 else 0)) (k := 8) fr60.col rfl rfl
   rw [← hg63] at o62
   clear hg63
   have hs65 := hs57.seq (ch64.n)
   refine ⟨hs65.same, ?_⟩
   refine h_take (v := v53) 6 rfl (by kernel_rfl) (by kernel_rfl) rfl hs65.same (fun w' hw' => e_assign rfl) ?_
   refine h_take (v := v61) 7 rfl (by kernel_rfl) (by kernel_rfl) rfl hs65.same (fun w' hw' => e_assign rfl) ?_
   refine h_nil (by kernel_rfl) ?_
   refine run_seq (run_seq ?_)
   refine region_q g63 rfl mixed_ds (by kernel_rfl) ?_
   intro w67 ch66
   refine q_val (v := v33) rfl (fun w' hw' => e_move rfl) ?_
   have C68 : Chg (inl []) _ _ _ _ := (ch45.n).seq ((ch47.n).seq ((ch56.n).seq ((ch64.n).seq (ch66.n))))
   replace o34 := o34.chg C68 (is_nl rfl)
   have len69 := (o34.sl).small
   refine q_val (v := Value.int .i64 (List.length (facesS (nextS g r) r) : Int)) rfl (fun w' hw' => e_len Try.underlying25 rfl (o34.sl.bel hw')) ?_
   refine q_val (v := v42) rfl (fun w' hw' => e_move rfl) ?_
   have C70 : Chg (inl []) _ _ _ _ := (ch47.n).seq ((ch56.n).seq ((ch64.n).seq (ch66.n)))
   replace o43 := o43.chg C70 (is_nl rfl)
   have len71 := (o43.sl).small
   refine q_val (v := Value.int .i64 (List.length (facesS (nextS ((dsplitR g r e).1) ((dsplitR g r e).2.1)) ((dsplitR g r e).2.1)) : Int)) rfl (fun w' hw' => e_len Try.underlying25 rfl (o43.sl.bel hw')) ?_
   refine q_val (v := Value.bool (!(decide ((List.length (facesS (nextS g r) r) : Int) = (List.length (facesS (nextS ((dsplitR g r e).1) ((dsplitR g r e).2.1)) ((dsplitR g r e).2.1)) : Int))))) rfl (fun w' hw' => e_neq (m := (List.length (facesS (nextS g r) r) : Int)) (n := (List.length (facesS (nextS ((dsplitR g r e).1) ((dsplitR g r e).2.1)) ((dsplitR g r e).2.1)) : Int)) rfl rfl) ?_
   refine q_val (v := Value.bool (!(decide ((List.length (facesS (nextS g r) r) : Int) = (List.length (facesS (nextS ((dsplitR g r e).1) ((dsplitR g r e).2.1)) ((dsplitR g r e).2.1)) : Int))))) rfl (fun w' hw' => e_move rfl) ?_
   have q58 : (List.length (facesS (nextS g r) r) : Int) = (List.length (facesS (nextS ((dsplitR g r e).1) ((dsplitR g r e).2.1)) ((dsplitR g r e).2.1)) : Int) := by first | exact hb1 | exact hS.gen | (rw [hfl]; done) | (rw [hat2, hmore, hS.len _ hk9, Int.add_assoc]; done)
   have C72 : Chg (inl []) _ _ _ _ := (ch56.n).seq ((ch64.n).seq (ch66.n))
   replace bx5 := bx5.chg C72 (is_nl rfl)
   refine q_val (v := Value.agg (List.toArray [Value.int .i64 g.1, g_v])) (want_y rfl rfl rfl (congrArg Bool.not (decide_eq_true q58))) (fun w' hw' => e_load_bxN (ds := [Value.int .i64 g.1, g_v]) tp24_ds rfl (bx5.bel hw') rfl rfl) ?_
   refine q_val (v := r_v) (want_y rfl rfl rfl (congrArg Bool.not (decide_eq_true q58))) (fun w' hw' => e_move rfl) ?_
   replace r_g_v := r_g_v.chg C72 (is_nl rfl)
   replace r_r_v := r_r_v.chg C72 (is_nl rfl)
   refine q_call (v := Value.int .i64 (genusS g r)) (want_y rfl rfl rfl (congrArg Bool.not (decide_eq_true q58))) (fun w' hw' => e_call (vals := [Value.agg (List.toArray [Value.int .i64 g.1, g_v]), r_v]) Try.func23 bd23_ds nm23_ds rfl) (fun w' hw' => (rGenus_ok w' g g_v ((r_g_v.bel hw')).ro r r_v ((r_r_v.bel hw')).ro (by first | exact hm | exact hS.may') (by first | exact hrp | exact hS.rot')).mono fun e w2 h2 => ⟨h2.1, hw'.trans (h2.2.mono hw'.size)⟩) ?_
   replace bx26 := bx26.chg C72 (is_nl rfl)
   refine q_val (v := Value.agg (List.toArray [Value.int .i64 (((dsplitR g r e).1).1), v13])) (want_y rfl rfl rfl (congrArg Bool.not (decide_eq_true q58))) (fun w' hw' => e_load_bxN (ds := [Value.int .i64 (((dsplitR g r e).1).1), v13]) tp24_ds rfl (bx26.bel hw') rfl rfl) ?_
   refine q_val (v := v15) (want_y rfl rfl rfl (congrArg Bool.not (decide_eq_true q58))) (fun w' hw' => e_move rfl) ?_
   replace o14 := o14.chg C72 (is_nl rfl) (is_nl rfl)
   replace o16 := o16.chg C72 (is_nl rfl)
   refine q_call (v := Value.int .i64 (genusS ((dsplitR g r e).1) ((dsplitR g r e).2.1))) (want_y rfl rfl rfl (congrArg Bool.not (decide_eq_true q58))) (fun w' hw' => e_call (vals := [Value.agg (List.toArray [Value.int .i64 (((dsplitR g r e).1).1), v13]), v15]) Try.func23 bd23_ds nm23_ds rfl) (fun w' hw' => (rGenus_ok w' ((dsplitR g r e).1) v13 ((o14.flat.bel hw')).ro ((dsplitR g r e).2.1) v15 ((o16.sl.bel hw')).ro (by first | exact hm | exact hS.may') (by first | exact hrp | exact hS.rot')).mono fun e w2 h2 => ⟨h2.1, hw'.trans (h2.2.mono hw'.size)⟩) ?_
   refine q_val (v := Value.bool (!(decide ((genusS g r) = (genusS ((dsplitR g r e).1) ((dsplitR g r e).2.1)))))) (want_y rfl rfl rfl (congrArg Bool.not (decide_eq_true q58))) (fun w' hw' => e_neq (m := genusS g r) (n := genusS ((dsplitR g r e).1) ((dsplitR g r e).2.1)) rfl rfl) ?_
   refine q_val (v := Value.bool (!(decide ((genusS g r) = (genusS ((dsplitR g r e).1) ((dsplitR g r e).2.1)))))) rfl (fun w' hw' => e_pick_f rfl (congrArg Bool.not (decide_eq_true q58)) rfl) ?_
   refine q_nil ?_
   intro w73 hc74
   replace hc74 := chg_below hc74 g63
   have p10 : (genusS g r) = (genusS ((dsplitR g r e).1) ((dsplitR g r e).2.1)) := by first | exact hb1 | exact hS.gen | (rw [hfl]; done) | (rw [hat2, hmore, hS.len _ hk9, Int.add_assoc]; done)
   refine run_cond_f rfl (congrArg Bool.not (decide_eq_true p10)) ?_
   refine run_skip ?_
   refine run_seq (run_seq ?_)
   clear o14
   clear o16
   clear bx26
   refine run_region rfl ?_
   refine l_val (v := Value.int .i64 0) rfl (e_assign rfl) ?_
   refine l_nil ?_
   refine run_block ?_
   refine run_loop (σ := Nat × Cmap) (fun ⟨k, gq⟩ f w => Base w0 gq w ∧ f 2 = Value.int .i64 e ∧ f 3 = Value.pointer (some ⟨b3, 0, none⟩) ∧ f 10 = v33 ∧ f 11 = v42 ∧ f 12 = v53 ∧ f 13 = v61 ∧ f 14 = Value.int .i64 (k : Int) ∧ Sl gq (is 0) w g_v g.2 ∧ Sl gq (is 0) w r_v r ∧ Bx gq (is 1) w b3 [Value.int .i64 g.1, g_v] ∧ Nst gq 5 w v33 (facesS (nextS g r) r) ∧ Nst gq 6 w v42 (facesS (nextS ((dsplitR g r e).1) ((dsplitR g r e).2.1)) ((dsplitR g r e).2.1)) ∧ Ow gq (is 7) (is 7) w v53 (ofS g r) ∧ Ow gq (is 8) (is 8) w v61 (ofS ((dsplitR g r e).1) ((dsplitR g r e).2.1)) ∧ (k : Int) ≤ ((List.length (ofS g r) : Int) : Int) ∧ True) (fun ⟨k, gq⟩ => Int.toNat (((List.length (ofS g r) : Int) : Int) - (k : Int))) (0, g63) ?_ ?_
   have C75 : Chg (inl [4]) _ _ _ _ := (ch2.n).seq ((hb7.n).seq ((hb9.n).seq ((ch18.n).seq ((ch20.n).seq ((ch25.l rfl).seq ((ch27.n).seq ((ch36.n).seq ((ch45.n).seq ((ch47.n).seq ((ch56.n).seq ((ch64.n).seq ((ch66.n).seq (hc74.n)))))))))))))
   replace hbase := hbase.chg C75 (is_nl rfl)
   replace r_g_v := r_g_v.chg hc74 (not_no _)
   replace r_r_v := r_r_v.chg hc74 (not_no _)
   replace bx5 := bx5.chg hc74 (not_no _)
   replace o34 := o34.chg hc74 (not_no _)
   replace o43 := o43.chg hc74 (not_no _)
   have C76 : Chg (inl []) _ _ _ _ := (ch64.n).seq ((ch66.n).seq (hc74.n))
   replace o54 := o54.chg C76 (is_nl rfl) (is_nl rfl)
   replace o62 := (o62.chg ch66 (not_no _) (not_no _)).chg hc74 (not_no _) (not_no _)
   · exact ⟨hbase, rfl, rfl, rfl, rfl, rfl, rfl, rfl, r_g_v, r_r_v, bx5, o34, o43, o54, o62, by omega, trivial⟩
   clear r_g_v
   clear r_r_v
   clear bx5
   clear o34
   clear o43
   clear o54
   clear o62
   clear hbase
   rintro ⟨k, g79⟩ f77 w78 ⟨hbase, zs2, zs3, zs10, zs11, zs12, zs13, zs14, r_g_v, r_r_v, bx5, o34, o43, o54, o62, hle_k, hinv13⟩ back13
   refine run_seq (run_seq (run_region rfl ?_))
   refine l_val (v := Value.int .i64 (k : Int)) rfl (e_move (by exact zs14)) ?_
   refine l_val (v := v53) rfl (e_move (by exact zs12)) ?_
   have len80 := (o54.flat).small
   refine l_val (v := Value.int .i64 (List.length (ofS g r) : Int)) rfl (e_len Try.underlying27 rfl o54.flat) ?_
   refine l_val (v := Value.bool (decide ((k : Int) < (List.length (ofS g r) : Int)))) rfl (e_lss (m := (k : Int)) (n := (List.length (ofS g r) : Int)) rfl rfl) ?_
   refine l_nil ?_
   by_cases p13 : (k : Int) < (List.length (ofS g r) : Int)
   ·
    refine run_cond_t rfl (decide_eq_true p13) ?_
    have hk9 : In (2 * (g.2.length : Int)) (k : Int) := ⟨by omega, by omega⟩
    obtain ⟨⟨ho1, ho2⟩, _⟩ := of_face hrp hk9.1 hk9.2
    refine run_skip ?_
    refine run_seq ?_
    refine run_block ?_
    refine run_seq (run_region rfl ?_)
    refine l_val (v := Value.int .i64 (k : Int)) rfl (e_move (by exact zs14)) ?_
    refine l_val (v := Value.int .i64 (k : Int)) rfl (e_assign rfl) ?_
    refine l_nil (run_seq (run_seq ?_))
    refine run_mid [false, false, true] (σ := Int × Cmap) (fun ⟨at2, gq⟩ f w => Base w0 gq w ∧ f 2 = Value.int .i64 e ∧ f 3 = Value.pointer (some ⟨b3, 0, none⟩) ∧ f 10 = v33 ∧ f 11 = v42 ∧ f 12 = v53 ∧ f 13 = v61 ∧ f 14 = Value.int .i64 (k : Int) ∧ f 15 = Value.int .i64 at2 ∧ Sl gq (is 0) w g_v g.2 ∧ Sl gq (is 0) w r_v r ∧ Bx gq (is 1) w b3 [Value.int .i64 g.1, g_v] ∧ Nst gq 5 w v33 (facesS (nextS g r) r) ∧ Nst gq 6 w v42 (facesS (nextS ((dsplitR g r e).1) ((dsplitR g r e).2.1)) ((dsplitR g r e).2.1)) ∧ Ow gq (is 7) (is 7) w v53 (ofS g r) ∧ Ow gq (is 8) (is 8) w v61 (ofS ((dsplitR g r e).1) ((dsplitR g r e).2.1)) ∧ (at2 = halfE g.2.length e (k : Int))) ?_ ?_
    ·
     intro mid_j1
     refine run_region rfl ?_
     refine l_val (v := Value.int .i64 (k : Int)) rfl (e_move (by exact zs14)) ?_
     refine l_val (v := Value.int .i64 e) rfl (e_move (by exact zs2)) ?_
     refine l_val (v := Value.int .i64 (2 * e)) rfl (e_mul (m := 2) (n := e) rfl rfl (by omega)) ?_
     refine l_val (v := Value.int .i64 ((2 * e) + 1)) rfl (e_add (m := 2 * e) (n := 1) rfl rfl (by omega)) ?_
     refine l_val (v := Value.bool (decide ((k : Int) = ((2 * e) + 1)))) rfl (e_eql (m := (k : Int)) (n := (2 * e) + 1) rfl rfl) ?_
     refine l_nil ?_
     by_cases p16 : (k : Int) = ((2 * e) + 1)
     ·
      refine run_cond_t rfl (decide_eq_true p16) ?_
      refine run_region rfl ?_
      refine l_val (v := Value.pointer (some ⟨b3, 1, none⟩)) rfl (e_fieldAddr Try.underlying24 rfl rfl (by exact zs3) rfl) ?_
      refine l_val (v := g_v) rfl (e_load_bx1 tp22_ds rfl bx5 rfl) ?_
      have len81 := (r_g_v).small
      refine l_val (v := Value.int .i64 (List.length g.2 : Int)) rfl (e_len Try.underlying22 rfl r_g_v) ?_
      refine l_val (v := Value.int .i64 (2 * (List.length g.2 : Int))) rfl (e_mul (m := 2) (n := (List.length g.2 : Int)) rfl rfl (by omega)) ?_
      refine l_val (v := Value.int .i64 ((2 * (List.length g.2 : Int)) + 1)) rfl (e_add (m := 2 * (List.length g.2 : Int)) (n := 1) rfl rfl (by omega)) ?_
      refine l_val (v := Value.int .i64 ((2 * (List.length g.2 : Int)) + 1)) rfl (e_assign rfl) ?_
      refine l_nil (run_seq ?_)
      refine mid_j1 ((2 * (List.length g.2 : Int)) + 1, g79) _ _ ⟨hbase, (by exact zs2), (by exact zs3), (by exact zs10), (by exact zs11), (by exact zs12), (by exact zs13), (by exact zs14), rfl, r_g_v, r_r_v, bx5, o34, o43, o54, o62, ?_⟩
      show ((2 * (List.length g.2 : Int)) + 1) = halfE g.2.length e (k : Int)
      first
        | (unfold halfE; rw [if_pos p16]; done)
        | (unfold halfE; rw [if_neg p16]; done)
     refine run_cond_f rfl (decide_eq_false p16) ?_
     refine run_skip ?_
     refine run_seq ?_
     refine mid_j1 ((k : Int), g79) _ _ ⟨hbase, (by exact zs2), (by exact zs3), (by exact zs10), (by exact zs11), (by exact zs12), (by exact zs13), (by exact zs14), rfl, r_g_v, r_r_v, bx5, o34, o43, o54, o62, ?_⟩
     show (k : Int) = halfE g.2.length e (k : Int)
     first
       | (unfold halfE; rw [if_pos p16]; done)
       | (unfold halfE; rw [if_neg p16]; done)
    clear r_g_v
    clear r_r_v
    clear bx5
    clear o34
    clear o43
    clear o54
    clear o62
    clear hbase
    rintro ⟨at2, g84⟩ f82 w83 ⟨hbase, z85_2, z85_3, z85_10, z85_11, z85_12, z85_13, z85_14, z85_15, r_g_v, r_r_v, bx5, o34, o43, o54, o62, hat2⟩
    obtain ⟨⟨ha1, ha2⟩, _⟩ := halfE_in hS.bd hk9
    rw [← hat2] at ha1 ha2
    obtain ⟨⟨hz1, hz2⟩, _⟩ := of_face hS.rot' (h := at2) ha1 (by rw [hS.m']; omega)
    refine run_region rfl ?_
    refine l_val (v := Value.int .i64 0) rfl (e_assign rfl) ?_
    refine l_nil (run_seq (run_seq ?_))
    refine run_mid [false, false, true, true, false, false, true] (σ := Int × Cmap) (fun ⟨more2, gq⟩ f w => Base w0 gq w ∧ f 2 = Value.int .i64 e ∧ f 3 = Value.pointer (some ⟨b3, 0, none⟩) ∧ f 10 = v33 ∧ f 11 = v42 ∧ f 12 = v53 ∧ f 13 = v61 ∧ f 14 = Value.int .i64 (k : Int) ∧ f 15 = Value.int .i64 at2 ∧ f 16 = Value.int .i64 more2 ∧ Sl gq (is 0) w g_v g.2 ∧ Sl gq (is 0) w r_v r ∧ Bx gq (is 1) w b3 [Value.int .i64 g.1, g_v] ∧ Nst gq 5 w v33 (facesS (nextS g r) r) ∧ Nst gq 6 w v42 (facesS (nextS ((dsplitR g r e).1) ((dsplitR g r e).2.1)) ((dsplitR g r e).2.1)) ∧ Ow gq (is 7) (is 7) w v53 (ofS g r) ∧ Ow gq (is 8) (is 8) w v61 (ofS ((dsplitR g r e).1) ((dsplitR g r e).2.1)) ∧ (more2 = (if gI (ofS g r) (k : Int) = gI (ofS g r) (2 * e) then (1 : Int) else 0) + (if gI (ofS g r) (k : Int) = gI (ofS g r) (2 * e + 1) then (1 : Int) else 0))) ?_ ?_
    ·
     intro mid_j2
     refine region_q g84 rfl mixed_ds (by kernel_rfl) ?_
     intro w87 ch86
     refine q_val (v := v53) rfl (fun w' hw' => e_move (by exact z85_12)) ?_
     refine q_val (v := Value.int .i64 (k : Int)) rfl (fun w' hw' => e_move (by exact z85_14)) ?_
     replace o54 := o54.chg ch86 (not_no _) (not_no _)
     refine q_val (v := Value.pointer (some (eAddr v53 1 (Int.toNat (k : Int))))) rfl (fun w' hw' => e_indexAddr (α := Int) (xs := ofS g r) (v := v53) (i := (k : Int)) Try.underlying27 rfl rfl (o54.flat.bel hw') rfl (by omega) (by omega)) ?_
     refine q_val (v := Value.int .i64 (gI (ofS g r) (k : Int))) rfl (fun w' hw' => e_load_el1 (α := Int) (xs := ofS g r) (v := v53) (i := (k : Int)) tp3_ds rfl (o54.flat.bel hw') (by omega) (by omega) (by decide) rfl) ?_
     refine q_val (v := v53) rfl (fun w' hw' => e_move (by exact z85_12)) ?_
     refine q_val (v := Value.int .i64 e) rfl (fun w' hw' => e_move (by exact z85_2)) ?_
     refine q_val (v := Value.int .i64 (2 * e)) rfl (fun w' hw' => e_mul (m := 2) (n := e) rfl rfl (by omega)) ?_
     refine q_val (v := Value.pointer (some (eAddr v53 1 (Int.toNat (2 * e))))) rfl (fun w' hw' => e_indexAddr (α := Int) (xs := ofS g r) (v := v53) (i := 2 * e) Try.underlying27 rfl rfl (o54.flat.bel hw') rfl (by omega) (by omega)) ?_
     refine q_val (v := Value.int .i64 (gI (ofS g r) (2 * e))) rfl (fun w' hw' => e_load_el1 (α := Int) (xs := ofS g r) (v := v53) (i := 2 * e) tp3_ds rfl (o54.flat.bel hw') (by omega) (by omega) (by decide) rfl) ?_
     refine q_val (v := Value.bool (decide ((gI (ofS g r) (k : Int)) = (gI (ofS g r) (2 * e))))) rfl (fun w' hw' => e_eql (m := (gI (ofS g r) (k : Int))) (n := (gI (ofS g r) (2 * e))) rfl rfl) ?_
     refine q_nil ?_
     intro w88 hc89
     replace hc89 := chg_below hc89 g84
     by_cases p19 : (gI (ofS g r) (k : Int)) = (gI (ofS g r) (2 * e))
     ·
      refine run_cond_t rfl (decide_eq_true p19) ?_
      refine run_region rfl ?_
      refine l_val (v := Value.int .i64 0) rfl (e_move rfl) ?_
      refine l_val (v := Value.int .i64 1) rfl (e_add (m := 0) (n := 1) rfl rfl (by omega)) ?_
      refine l_val (v := Value.int .i64 1) rfl (e_assign rfl) ?_
      refine l_nil (run_seq (run_seq ?_))
      refine region_q g84 rfl mixed_ds (by kernel_rfl) ?_
      intro w91 ch90
      refine q_val (v := v53) rfl (fun w' hw' => e_move (by exact z85_12)) ?_
      refine q_val (v := Value.int .i64 (k : Int)) rfl (fun w' hw' => e_move (by exact z85_14)) ?_
      replace o54 := (o54.chg hc89 (not_no _) (not_no _)).chg ch90 (not_no _) (not_no _)
      refine q_val (v := Value.pointer (some (eAddr v53 1 (Int.toNat (k : Int))))) rfl (fun w' hw' => e_indexAddr (α := Int) (xs := ofS g r) (v := v53) (i := (k : Int)) Try.underlying27 rfl rfl (o54.flat.bel hw') rfl (by omega) (by omega)) ?_
      refine q_val (v := Value.int .i64 (gI (ofS g r) (k : Int))) rfl (fun w' hw' => e_load_el1 (α := Int) (xs := ofS g r) (v := v53) (i := (k : Int)) tp3_ds rfl (o54.flat.bel hw') (by omega) (by omega) (by decide) rfl) ?_
      refine q_val (v := v53) rfl (fun w' hw' => e_move (by exact z85_12)) ?_
      refine q_val (v := Value.int .i64 e) rfl (fun w' hw' => e_move (by exact z85_2)) ?_
      refine q_val (v := Value.int .i64 (2 * e)) rfl (fun w' hw' => e_mul (m := 2) (n := e) rfl rfl (by omega)) ?_
      refine q_val (v := Value.int .i64 ((2 * e) + 1)) rfl (fun w' hw' => e_add (m := 2 * e) (n := 1) rfl rfl (by omega)) ?_
      refine q_val (v := Value.pointer (some (eAddr v53 1 (Int.toNat ((2 * e) + 1))))) rfl (fun w' hw' => e_indexAddr (α := Int) (xs := ofS g r) (v := v53) (i := (2 * e) + 1) Try.underlying27 rfl rfl (o54.flat.bel hw') rfl (by omega) (by omega)) ?_
      refine q_val (v := Value.int .i64 (gI (ofS g r) ((2 * e) + 1))) rfl (fun w' hw' => e_load_el1 (α := Int) (xs := ofS g r) (v := v53) (i := (2 * e) + 1) tp3_ds rfl (o54.flat.bel hw') (by omega) (by omega) (by decide) rfl) ?_
      refine q_val (v := Value.bool (decide ((gI (ofS g r) (k : Int)) = (gI (ofS g r) ((2 * e) + 1))))) rfl (fun w' hw' => e_eql (m := (gI (ofS g r) (k : Int))) (n := (gI (ofS g r) ((2 * e) + 1))) rfl rfl) ?_
      refine q_nil ?_
      intro w92 hc93
      replace hc93 := chg_below hc93 g84
      by_cases p21 : (gI (ofS g r) (k : Int)) = (gI (ofS g r) ((2 * e) + 1))
      ·
       refine run_cond_t rfl (decide_eq_true p21) ?_
       refine run_region rfl ?_
       refine l_val (v := Value.int .i64 1) rfl (e_move rfl) ?_
       refine l_val (v := Value.int .i64 2) rfl (e_add (m := 1) (n := 1) rfl rfl (by omega)) ?_
       refine l_val (v := Value.int .i64 2) rfl (e_assign rfl) ?_
       refine l_nil (run_seq ?_)
       have C94 : Chg (inl []) _ _ _ _ := (ch86.n).seq ((hc89.n).seq ((ch90.n).seq (hc93.n)))
       replace hbase := hbase.chg C94 (is_nl rfl)
       replace r_g_v := r_g_v.chg C94 (is_nl rfl)
       replace r_r_v := r_r_v.chg C94 (is_nl rfl)
       replace bx5 := bx5.chg C94 (is_nl rfl)
       replace o34 := o34.chg C94 (is_nl rfl)
       replace o43 := o43.chg C94 (is_nl rfl)
       replace o54 := o54.chg hc93 (not_no _) (not_no _)
       replace o62 := o62.chg C94 (is_nl rfl) (is_nl rfl)
       refine mid_j2 (2, g84) _ _ ⟨hbase, (by exact z85_2), (by exact z85_3), (by exact z85_10), (by exact z85_11), (by exact z85_12), (by exact z85_13), (by exact z85_14), (by exact z85_15), rfl, r_g_v, r_r_v, bx5, o34, o43, o54, o62, ?_⟩
       show 2 = (if gI (ofS g r) (k : Int) = gI (ofS g r) (2 * e) then (1 : Int) else 0) + (if gI (ofS g r) (k : Int) = gI (ofS g r) (2 * e + 1) then (1 : Int) else 0)
       first
         | (rw [if_pos p19, if_pos p21]; first | done | omega)
         | (rw [if_pos p19, if_neg p21]; first | done | omega)
         | (rw [if_neg p19, if_pos p21]; first | done | omega)
         | (rw [if_neg p19, if_neg p21]; first | done | omega)
      refine run_cond_f rfl (decide_eq_false p21) ?_
      refine run_skip ?_
      refine run_seq ?_
      have C95 : Chg (inl []) _ _ _ _ := (ch86.n).seq ((hc89.n).seq ((ch90.n).seq (hc93.n)))
      replace hbase := hbase.chg C95 (is_nl rfl)
      replace r_g_v := r_g_v.chg C95 (is_nl rfl)
      replace r_r_v := r_r_v.chg C95 (is_nl rfl)
      replace bx5 := bx5.chg C95 (is_nl rfl)
      replace o34 := o34.chg C95 (is_nl rfl)
      replace o43 := o43.chg C95 (is_nl rfl)
      replace o54 := o54.chg hc93 (not_no _) (not_no _)
      replace o62 := o62.chg C95 (is_nl rfl) (is_nl rfl)
      refine mid_j2 (1, g84) _ _ ⟨hbase, (by exact z85_2), (by exact z85_3), (by exact z85_10), (by exact z85_11), (by exact z85_12), (by exact z85_13), (by exact z85_14), (by exact z85_15), rfl, r_g_v, r_r_v, bx5, o34, o43, o54, o62, ?_⟩
      show 1 = (if gI (ofS g r) (k : Int) = gI (ofS g r) (2 * e) then (1 : Int) else 0) + (if gI (ofS g r) (k : Int) = gI (ofS g r) (2 * e + 1) then (1 : Int) else 0)
      first
        | (rw [if_pos p19, if_pos p21]; first | done | omega)
        | (rw [if_pos p19, if_neg p21]; first | done | omega)
        | (rw [if_neg p19, if_pos p21]; first | done | omega)
        | (rw [if_neg p19, if_neg p21]; first | done | omega)
     refine run_cond_f rfl (decide_eq_false p19) ?_
     refine run_skip ?_
     refine run_seq (run_seq ?_)
     refine region_q g84 rfl mixed_ds (by kernel_rfl) ?_
     intro w97 ch96
     refine q_val (v := v53) rfl (fun w' hw' => e_move (by exact z85_12)) ?_
     refine q_val (v := Value.int .i64 (k : Int)) rfl (fun w' hw' => e_move (by exact z85_14)) ?_
     replace o54 := (o54.chg hc89 (not_no _) (not_no _)).chg ch96 (not_no _) (not_no _)
     refine q_val (v := Value.pointer (some (eAddr v53 1 (Int.toNat (k : Int))))) rfl (fun w' hw' => e_indexAddr (α := Int) (xs := ofS g r) (v := v53) (i := (k : Int)) Try.underlying27 rfl rfl (o54.flat.bel hw') rfl (by omega) (by omega)) ?_
     refine q_val (v := Value.int .i64 (gI (ofS g r) (k : Int))) rfl (fun w' hw' => e_load_el1 (α := Int) (xs := ofS g r) (v := v53) (i := (k : Int)) tp3_ds rfl (o54.flat.bel hw') (by omega) (by omega) (by decide) rfl) ?_
     refine q_val (v := v53) rfl (fun w' hw' => e_move (by exact z85_12)) ?_
     refine q_val (v := Value.int .i64 e) rfl (fun w' hw' => e_move (by exact z85_2)) ?_
     refine q_val (v := Value.int .i64 (2 * e)) rfl (fun w' hw' => e_mul (m := 2) (n := e) rfl rfl (by omega)) ?_
     refine q_val (v := Value.int .i64 ((2 * e) + 1)) rfl (fun w' hw' => e_add (m := 2 * e) (n := 1) rfl rfl (by omega)) ?_
     refine q_val (v := Value.pointer (some (eAddr v53 1 (Int.toNat ((2 * e) + 1))))) rfl (fun w' hw' => e_indexAddr (α := Int) (xs := ofS g r) (v := v53) (i := (2 * e) + 1) Try.underlying27 rfl rfl (o54.flat.bel hw') rfl (by omega) (by omega)) ?_
     refine q_val (v := Value.int .i64 (gI (ofS g r) ((2 * e) + 1))) rfl (fun w' hw' => e_load_el1 (α := Int) (xs := ofS g r) (v := v53) (i := (2 * e) + 1) tp3_ds rfl (o54.flat.bel hw') (by omega) (by omega) (by decide) rfl) ?_
     refine q_val (v := Value.bool (decide ((gI (ofS g r) (k : Int)) = (gI (ofS g r) ((2 * e) + 1))))) rfl (fun w' hw' => e_eql (m := (gI (ofS g r) (k : Int))) (n := (gI (ofS g r) ((2 * e) + 1))) rfl rfl) ?_
     refine q_nil ?_
     intro w98 hc99
     replace hc99 := chg_below hc99 g84
     by_cases p21 : (gI (ofS g r) (k : Int)) = (gI (ofS g r) ((2 * e) + 1))
     ·
      refine run_cond_t rfl (decide_eq_true p21) ?_
      refine run_region rfl ?_
      refine l_val (v := Value.int .i64 0) rfl (e_move rfl) ?_
      refine l_val (v := Value.int .i64 1) rfl (e_add (m := 0) (n := 1) rfl rfl (by omega)) ?_
      refine l_val (v := Value.int .i64 1) rfl (e_assign rfl) ?_
      refine l_nil (run_seq ?_)
      have C100 : Chg (inl []) _ _ _ _ := (ch86.n).seq ((hc89.n).seq ((ch96.n).seq (hc99.n)))
      replace hbase := hbase.chg C100 (is_nl rfl)
      replace r_g_v := r_g_v.chg C100 (is_nl rfl)
      replace r_r_v := r_r_v.chg C100 (is_nl rfl)
      replace bx5 := bx5.chg C100 (is_nl rfl)
      replace o34 := o34.chg C100 (is_nl rfl)
      replace o43 := o43.chg C100 (is_nl rfl)
      replace o54 := o54.chg hc99 (not_no _) (not_no _)
      replace o62 := o62.chg C100 (is_nl rfl) (is_nl rfl)
      refine mid_j2 (1, g84) _ _ ⟨hbase, (by exact z85_2), (by exact z85_3), (by exact z85_10), (by exact z85_11), (by exact z85_12), (by exact z85_13), (by exact z85_14), (by exact z85_15), rfl, r_g_v, r_r_v, bx5, o34, o43, o54, o62, ?_⟩
      show 1 = (if gI (ofS g r) (k : Int) = gI (ofS g r) (2 * e) then (1 : Int) else 0) + (if gI (ofS g r) (k : Int) = gI (ofS g r) (2 * e + 1) then (1 : Int) else 0)
      first
        | (rw [if_pos p19, if_pos p21]; first | done | omega)
        | (rw [if_pos p19, if_neg p21]; first | done | omega)
        | (rw [if_neg p19, if_pos p21]; first | done | omega)
        | (rw [if_neg p19, if_neg p21]; first | done | omega)
     refine run_cond_f rfl (decide_eq_false p21) ?_
     refine run_skip ?_
     refine run_seq ?_
     have C101 : Chg (inl []) _ _ _ _ := (ch86.n).seq ((hc89.n).seq ((ch96.n).seq (hc99.n)))
     replace hbase := hbase.chg C101 (is_nl rfl)
     replace r_g_v := r_g_v.chg C101 (is_nl rfl)
     replace r_r_v := r_r_v.chg C101 (is_nl rfl)
     replace bx5 := bx5.chg C101 (is_nl rfl)
     replace o34 := o34.chg C101 (is_nl rfl)
     replace o43 := o43.chg C101 (is_nl rfl)
     replace o54 := o54.chg hc99 (not_no _) (not_no _)
     replace o62 := o62.chg C101 (is_nl rfl) (is_nl rfl)
     refine mid_j2 (0, g84) _ _ ⟨hbase, (by exact z85_2), (by exact z85_3), (by exact z85_10), (by exact z85_11), (by exact z85_12), (by exact z85_13), (by exact z85_14), (by exact z85_15), rfl, r_g_v, r_r_v, bx5, o34, o43, o54, o62, ?_⟩
     show 0 = (if gI (ofS g r) (k : Int) = gI (ofS g r) (2 * e) then (1 : Int) else 0) + (if gI (ofS g r) (k : Int) = gI (ofS g r) (2 * e + 1) then (1 : Int) else 0)
     first
       | (rw [if_pos p19, if_pos p21]; first | done | omega)
       | (rw [if_pos p19, if_neg p21]; first | done | omega)
       | (rw [if_neg p19, if_pos p21]; first | done | omega)
       | (rw [if_neg p19, if_neg p21]; first | done | omega)
    clear r_g_v
    clear r_r_v
    clear bx5
    clear o34
    clear o43
    clear o54
    clear o62
    clear hbase
    rintro ⟨more2, g104⟩ f102 w103 ⟨hbase, z105_2, z105_3, z105_10, z105_11, z105_12, z105_13, z105_14, z105_15, z105_16, r_g_v, r_r_v, bx5, o34, o43, o54, o62, hmore⟩
    have hmb : 0 ≤ more2 ∧ more2 ≤ 2 := by rw [hmore]; split <;> split <;> omega
    refine region_q g104 rfl mixed_ds (by kernel_rfl) ?_
    intro w107 ch106
    refine q_val (v := v42) rfl (fun w' hw' => e_move (by exact z105_11)) ?_
    refine q_val (v := v61) rfl (fun w' hw' => e_move (by exact z105_13)) ?_
    refine q_val (v := Value.int .i64 at2) rfl (fun w' hw' => e_move (by exact z105_15)) ?_
    replace o62 := o62.chg ch106 (not_no _) (not_no _)
    refine q_val (v := Value.pointer (some (eAddr v61 1 (Int.toNat at2)))) rfl (fun w' hw' => e_indexAddr (α := Int) (xs := ofS ((dsplitR g r e).1) ((dsplitR g r e).2.1)) (v := v61) (i := at2) Try.underlying27 rfl rfl (o62.flat.bel hw') rfl (by omega) (by omega)) ?_
    refine q_val (v := Value.int .i64 (gI (ofS ((dsplitR g r e).1) ((dsplitR g r e).2.1)) at2)) rfl (fun w' hw' => e_load_el1 (α := Int) (xs := ofS ((dsplitR g r e).1) ((dsplitR g r e).2.1)) (v := v61) (i := at2) tp3_ds rfl (o62.flat.bel hw') (by omega) (by omega) (by decide) rfl) ?_
    replace o43 := o43.chg ch106 (not_no _)
    refine q_val (v := Value.pointer (some (eAddr v42 1 (Int.toNat (gI (ofS ((dsplitR g r e).1) ((dsplitR g r e).2.1)) at2))))) rfl (fun w' hw' => e_indexAddr (α := List Int) (xs := facesS (nextS ((dsplitR g r e).1) ((dsplitR g r e).2.1)) ((dsplitR g r e).2.1)) (v := v42) (i := (gI (ofS ((dsplitR g r e).1) ((dsplitR g r e).2.1)) at2)) Try.underlying25 rfl rfl (o43.sl.bel hw') rfl (by omega) (by omega)) ?_
    obtain ⟨v108, cel109, r110⟩ := nst_row (r := (gI (ofS ((dsplitR g r e).1) ((dsplitR g r e).2.1)) at2)) o43 (by omega) (by omega)
    refine q_val (v := v108) rfl (fun w' hw' => e_load1 tp27_ds rfl (cel_bel cel109 hw')) ?_
    have len111 := (r110.row_sl).small
    refine q_val (v := Value.int .i64 (List.length (gI (facesS (nextS ((dsplitR g r e).1) ((dsplitR g r e).2.1)) ((dsplitR g r e).2.1)) (gI (ofS ((dsplitR g r e).1) ((dsplitR g r e).2.1)) at2)) : Int)) rfl (fun w' hw' => e_len Try.underlying27 rfl (r110.row_sl.bel hw')) ?_
    refine q_val (v := v33) rfl (fun w' hw' => e_move (by exact z105_10)) ?_
    refine q_val (v := v53) rfl (fun w' hw' => e_move (by exact z105_12)) ?_
    refine q_val (v := Value.int .i64 (k : Int)) rfl (fun w' hw' => e_move (by exact z105_14)) ?_
    replace o54 := o54.chg ch106 (not_no _) (not_no _)
    refine q_val (v := Value.pointer (some (eAddr v53 1 (Int.toNat (k : Int))))) rfl (fun w' hw' => e_indexAddr (α := Int) (xs := ofS g r) (v := v53) (i := (k : Int)) Try.underlying27 rfl rfl (o54.flat.bel hw') rfl (by omega) (by omega)) ?_
    refine q_val (v := Value.int .i64 (gI (ofS g r) (k : Int))) rfl (fun w' hw' => e_load_el1 (α := Int) (xs := ofS g r) (v := v53) (i := (k : Int)) tp3_ds rfl (o54.flat.bel hw') (by omega) (by omega) (by decide) rfl) ?_
    replace o34 := o34.chg ch106 (not_no _)
    refine q_val (v := Value.pointer (some (eAddr v33 1 (Int.toNat (gI (ofS g r) (k : Int)))))) rfl (fun w' hw' => e_indexAddr (α := List Int) (xs := facesS (nextS g r) r) (v := v33) (i := (gI (ofS g r) (k : Int))) Try.underlying25 rfl rfl (o34.sl.bel hw') rfl (by omega) (by omega)) ?_
    obtain ⟨v112, cel113, r114⟩ := nst_row (r := (gI (ofS g r) (k : Int))) o34 (by omega) (by omega)
    refine q_val (v := v112) rfl (fun w' hw' => e_load1 tp27_ds rfl (cel_bel cel113 hw')) ?_
    have len115 := (r114.row_sl).small
    refine q_val (v := Value.int .i64 (List.length (gI (facesS (nextS g r) r) (gI (ofS g r) (k : Int))) : Int)) rfl (fun w' hw' => e_len Try.underlying27 rfl (r114.row_sl.bel hw')) ?_
    refine q_val (v := Value.int .i64 more2) rfl (fun w' hw' => e_move (by exact z105_16)) ?_
    refine q_val (v := Value.int .i64 ((List.length (gI (facesS (nextS g r) r) (gI (ofS g r) (k : Int))) : Int) + more2)) rfl (fun w' hw' => e_add (m := (List.length (gI (facesS (nextS g r) r) (gI (ofS g r) (k : Int))) : Int)) (n := more2) rfl rfl (by omega)) ?_
    refine q_val (v := Value.bool (!(decide ((List.length (gI (facesS (nextS ((dsplitR g r e).1) ((dsplitR g r e).2.1)) ((dsplitR g r e).2.1)) (gI (ofS ((dsplitR g r e).1) ((dsplitR g r e).2.1)) at2)) : Int) = ((List.length (gI (facesS (nextS g r) r) (gI (ofS g r) (k : Int))) : Int) + more2))))) rfl (fun w' hw' => e_neq (m := (List.length (gI (facesS (nextS ((dsplitR g r e).1) ((dsplitR g r e).2.1)) ((dsplitR g r e).2.1)) (gI (ofS ((dsplitR g r e).1) ((dsplitR g r e).2.1)) at2)) : Int)) (n := (List.length (gI (facesS (nextS g r) r) (gI (ofS g r) (k : Int))) : Int) + more2) rfl rfl) ?_
    refine q_nil ?_
    intro w116 hc117
    replace hc117 := chg_below hc117 g104
    have p23 : (List.length (gI (facesS (nextS ((dsplitR g r e).1) ((dsplitR g r e).2.1)) ((dsplitR g r e).2.1)) (gI (ofS ((dsplitR g r e).1) ((dsplitR g r e).2.1)) at2)) : Int) = ((List.length (gI (facesS (nextS g r) r) (gI (ofS g r) (k : Int))) : Int) + more2) := by first | exact hb1 | exact hS.gen | (rw [hfl]; done) | (rw [hat2, hmore, hS.len _ hk9, Int.add_assoc]; done)
    refine run_cond_f rfl (congrArg Bool.not (decide_eq_true p23)) ?_
    refine run_skip ?_
    refine run_inBlock ?_
    clear cel109
    clear r110
    clear cel113
    clear r114
    refine run_region rfl ?_
    refine l_val (v := Value.int .i64 (k : Int)) rfl (e_move (by exact z105_14)) ?_
    refine l_val (v := Value.int .i64 ((k : Int) + 1)) rfl (e_add (m := (k : Int)) (n := 1) rfl rfl (by omega)) ?_
    refine l_val (v := Value.int .i64 ((k : Int) + 1)) rfl (e_assign rfl) ?_
    refine l_nil ?_
    replace hbase := hbase.chg ch106 (not_no _)
    replace hbase := hbase.chg hc117 (not_no _)
    replace r_g_v := (r_g_v.chg ch106 (not_no _)).chg hc117 (not_no _)
    replace r_r_v := (r_r_v.chg ch106 (not_no _)).chg hc117 (not_no _)
    replace bx5 := (bx5.chg ch106 (not_no _)).chg hc117 (not_no _)
    replace o34 := o34.chg hc117 (not_no _)
    replace o43 := o43.chg hc117 (not_no _)
    replace o54 := o54.chg hc117 (not_no _) (not_no _)
    replace o62 := o62.chg hc117 (not_no _) (not_no _)
    refine back13 (k + 1, g104) _ _ ⟨hbase, (by exact z105_2), (by exact z105_3), (by exact z105_10), (by exact z105_11), (by exact z105_12), (by exact z105_13), rfl, r_g_v, r_r_v, bx5, o34, o43, o54, o62, by omega, ?_⟩ ?_
    · trivial
    · show Int.toNat (((List.length (ofS g r) : Int) : Int) - ((k + 1) : Int)) < Int.toNat (((List.length (ofS g r) : Int) : Int) - (k : Int))
      omega
   refine run_cond_f rfl (decide_eq_false p13) ?_
   refine run_exit rfl ?_
   refine run_seq ?_
   clear bx5
   clear o34
   clear o43
   clear o54
   clear o62
   refine run_region rfl ?_
   refine l_val (v := Value.bool true) rfl (e_assign rfl) ?_
   refine l_nil ?_
   refine run_ret (vs := [Value.bool true]) Try.func6 (.tmp rfl .nil) ?_
   -- return 0
   have e0 : (true : Bool) = (true) := by
     first
       | rfl
       | (rw [hb2]; rfl)
   exact ⟨(congrArg (a₁ := true) (fun (z0 : Bool) => Ending.returned (Value.bool z0)) e0), hbase.below⟩
  obtain ⟨hb1, hb2⟩ := dsplit_bad p6
  refine run_cond_t rfl (congrArg Bool.not (decide_eq_false p6)) ?_
  refine run_seq ?_
  clear bx5
  refine run_region rfl ?_
  refine l_val (v := Value.pointer (some ⟨b21, 0, none⟩)) rfl (e_fieldAddr Try.underlying24 rfl rfl rfl rfl) ?_
  refine l_val (v := Value.int .i64 (((dsplitR g r e).1).1)) rfl (e_load_bx1 tp3_ds rfl bx26 rfl) ?_
  refine l_val (v := Value.bool (decide ((((dsplitR g r e).1).1) = 0))) rfl (e_eql (m := ((dsplitR g r e).1).1) (n := 0) rfl rfl) ?_
  refine l_val (v := Value.bool (decide ((((dsplitR g r e).1).1) = 0))) rfl (e_move rfl) ?_
  have q36 : (((dsplitR g r e).1).1) = 0 := by first | exact hb1 | exact hS.gen | (rw [hfl]; done) | (rw [hat2, hmore, hS.len _ hk9, Int.add_assoc]; done)
  refine l_val (v := v15) (want_y rfl rfl rfl (decide_eq_true q36)) (e_move rfl) ?_
  replace o16 := (o16.chg ch20 (not_no _)).chg ch25 (is_ne rfl)
  have len118 := (o16.sl).small
  refine l_val (v := Value.int .i64 (List.length ((dsplitR g r e).2.1) : Int)) (want_y rfl rfl rfl (decide_eq_true q36)) (e_len Try.underlying26 rfl o16.sl) ?_
  refine l_val (v := Value.bool (decide ((List.length ((dsplitR g r e).2.1) : Int) = 0))) (want_y rfl rfl rfl (decide_eq_true q36)) (e_eql (m := (List.length ((dsplitR g r e).2.1) : Int)) (n := 0) rfl rfl) ?_
  refine l_val (v := Value.bool (decide ((List.length ((dsplitR g r e).2.1) : Int) = 0))) rfl (e_pick_t rfl (decide_eq_true q36) rfl) ?_
  refine l_val (v := Value.bool (decide ((List.length ((dsplitR g r e).2.1) : Int) = 0))) rfl (e_assign rfl) ?_
  refine l_nil ?_
  refine run_ret (vs := [Value.bool (decide ((List.length ((dsplitR g r e).2.1) : Int) = 0))]) Try.func6 (.tmp rfl .nil) ?_
  -- return 1
  have e0 : (decide ((List.length ((dsplitR g r e).2.1) : Int) = 0) : Bool) = (true) := by
    first
      | rfl
      | (rw [hb2]; rfl)
  have C119 : Chg (inl [4]) _ _ _ _ := (ch2.n).seq ((hb7.n).seq ((hb9.n).seq ((ch18.n).seq ((ch20.n).seq (ch25.l rfl)))))
  replace hbase := hbase.chg C119 (is_nl rfl)
  exact ⟨(congrArg (a₁ := decide ((List.length ((dsplitR g r e).2.1) : Int) = 0)) (fun (z0 : Bool) => Ending.returned (Value.bool z0)) e0), hbase.below⟩
 refine run_cond_t rfl (congrArg Bool.not (Bool.eq_false_iff.2 p3)) ?_
 refine run_seq ?_
 clear bx5
 refine run_region rfl ?_
 refine l_val (v := Value.bool true) rfl (e_assign rfl) ?_
 refine l_nil ?_
 refine run_ret (vs := [Value.bool true]) Try.func6 (.tmp rfl .nil) ?_
 -- return 2
 have e0 : (true : Bool) = (true) := by
   first
     | rfl
     | (rw [hb2]; rfl)
 have C120 : Chg (inl []) _ _ _ _ := (ch2.n).seq ((hb7.n).seq (hb9.n))
 replace hbase := hbase.chg C120 (is_nl rfl)
 exact ⟨(congrArg (a₁ := true) (fun (z0 : Bool) => Ending.returned (Value.bool z0)) e0), hbase.below⟩
end TL
