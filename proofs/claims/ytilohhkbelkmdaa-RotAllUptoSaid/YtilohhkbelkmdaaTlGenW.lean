import Derived.Test.YtilohhkbelkmdaaTlGenA
import Derived.Test.YtilohhkbelkmdaaTlGenC
import Derived.Test.YtilohhkbelkmdaaTlGenD
import Derived.Test.YtilohhkbelkmdaaTlGenX
import Derived.Test.YtilohhkbelkmdaaTlGenY
import Derived.Test.YtilohhkbelkmdaaTlGenZ
import Derived.Test.YtilohhkbelkmdaaTlGenV
import Derived.Test.YtilohhkbelkmdaaTlGenI
import Derived.Test.YtilohhkbelkmdaaTlGenJ
import Derived.Test.YtilohhkbelkmdaaTlGenO
import Derived.Test.YtilohhkbelkmdaaTlGenK
import Derived.Test.YtilohhkbelkmdaaTlKeepA
import Derived.Test.YtilohhkbelkmdaaTlTwinA
import Derived.Test.YtilohhkbelkmdaaTlP2
import Derived.Test.YtilohhkbelkmdaaTlGenWa
import Derived.Test.YtilohhkbelkmdaaTlGenWb
import Derived.Test.YtilohhkbelkmdaaProg
set_option linter.all false
set_option maxRecDepth 20000
namespace TL
open Go Go.Proofs
theorem mixed_w : Try.prog.follows .mixedOrders = true := by kernel_rfl
theorem tp3_w : Tp Try.prog 3 false 1 8 (.int .i64 0) := Tp.of (by kernel_rfl)
theorem tp24_w : Tp Try.prog 24 true 2 32 (.agg #[.int .i64 0, .slice none 0 0]) := Tp.of (by kernel_rfl)
theorem tp25_w : Tp Try.prog 25 false 1 24 (.slice none 0 0) := Tp.of (by kernel_rfl)
theorem tp27_w : Tp Try.prog 27 false 1 24 (.slice none 0 0) := Tp.of (by kernel_rfl)
theorem bd10_w : Try.f10.body.isNone = false := rfl
theorem nm10_w : (Try.f10.name == "runtime.NumGoroutine") = false := by decide +kernel
theorem bd11_w : Try.f11.body.isNone = false := rfl
theorem nm11_w : (Try.f11.name == "runtime.NumGoroutine") = false := by decide +kernel
theorem bd12_w : Try.f12.body.isNone = false := rfl
theorem nm12_w : (Try.f12.name == "runtime.NumGoroutine") = false := by decide +kernel
theorem bd13_w : Try.f13.body.isNone = false := rfl
theorem nm13_w : (Try.f13.name == "runtime.NumGoroutine") = false := by decide +kernel
theorem bd14_w : Try.f14.body.isNone = false := rfl
theorem nm14_w : (Try.f14.name == "runtime.NumGoroutine") = false := by decide +kernel
theorem bd15_w : Try.f15.body.isNone = false := rfl
theorem nm15_w : (Try.f15.name == "runtime.NumGoroutine") = false := by decide +kernel
theorem bd16_w : Try.f16.body.isNone = false := rfl
theorem nm16_w : (Try.f16.name == "runtime.NumGoroutine") = false := by decide +kernel
theorem bd17_w : Try.f17.body.isNone = false := rfl
theorem nm17_w : (Try.f17.name == "runtime.NumGoroutine") = false := by decide +kernel
theorem bd18_w : Try.f18.body.isNone = false := rfl
theorem nm18_w : (Try.f18.name == "runtime.NumGoroutine") = false := by decide +kernel
theorem bd19_w : Try.f19.body.isNone = false := rfl
theorem nm19_w : (Try.f19.name == "runtime.NumGoroutine") = false := by decide +kernel
theorem bd20_w : Try.f20.body.isNone = false := rfl
theorem nm20_w : (Try.f20.name == "runtime.NumGoroutine") = false := by decide +kernel
theorem bd65_w : Try.f65.body.isNone = false := rfl
theorem nm65_w : (Try.f65.name == "runtime.NumGoroutine") = false := by decide +kernel
set_option maxHeartbeats 16000000 in
theorem RotAll_ok (w0 : World) (g : (Int) × (List ((Int) × (Int)))) (g_v : Value) (hg_v : Ro w0 g_v g.2) (r : List (List Int)) (r_v : Value) (hr_v : Ro w0 r_v r) (keep : List Int) (keep_v : Value) (hkeep_v : Ro w0 keep_v keep) (to : List Int) (to_v : Value) (hto_v : Ro w0 to_v to) (hb : (r.length : Int) ≤ 1048576 ∧ ∀ l_ ∈ r, l_.length ≤ 1048576) :
    Calls Try.prog 3 #[Value.agg (List.toArray [Value.int .i64 g.1, g_v]), r_v, keep_v, to_v] w0 (fun ee w => ee = .returned (Value.bool true) ∧ Bel w0.heap.size w0 w) := by
 refine calls_of_run Try.func3 rfl (Nat.le_of_ble_eq_true rfl) ?_
 have hbase := Base.start w0
 have r_g_v := hg_v.sl
 have r_r_v := hr_v.sl
 have r_keep_v := hkeep_v.sl
 have r_to_v := hto_v.sl
 refine run_seq (run_region rfl (l_op rfl ?_))
 refine o_box c0 (is 1) (1, 0) rfl rfl ?_
 intro g4 w1 b3 ch2 bx5
 replace bx5 : Bx g4 (is 1) w1 b3 [Value.int .i64 g.1, g_v] := bx5
 refine lv (Value.bool false) rfl (e_assign rfl) ?_
 refine l_nil (run_seq (run_seq (run_region rfl (l_op rfl ?_))))
 refine o_call (v := Value.bool true) (e_call (vals := []) Try.func10 bd10_w nm10_w rfl) (begun9_ok w1 ) ?_
 intro w6 hb7
 replace hb7 := chg_below hb7 g4
 refine lv (Value.bool false) rfl (e_not (b := true) rfl) ?_
 refine l_nil ?_
 refine run_cond_f rfl rfl ?_
 refine run_skip ?_
 refine run_seq (run_seq (run_region rfl ?_))
 replace bx5 := bx5.chg hb7 (not_no _)
 refine lv (Value.agg (List.toArray [Value.int .i64 g.1, g_v])) rfl (e_load_bxN (ds := [Value.int .i64 g.1, g_v]) tp24_w rfl bx5 rfl rfl) ?_
 refine lv (r_v) rfl (e_move rfl) ?_
 replace r_g_v := (r_g_v.chg ch2 (not_no _)).chg hb7 (not_no _)
 replace r_r_v := (r_r_v.chg ch2 (not_no _)).chg hb7 (not_no _)
 refine l_op rfl ?_
 refine o_call (v := Value.bool (decide ((g.2.length ≤ 300 ∧ (g.1 ≤ 300 ∨ ¬ MayP g)) ∧ g.1 ≤ 200 ∧ r.length + r.flatten.length ≤ 1000))) (e_call (vals := [Value.agg (List.toArray [Value.int .i64 g.1, g_v]), r_v]) Try.func11 bd11_w nm11_w rfl) (Light9_ok w6 g g_v (r_g_v).ro r r_v (r_r_v).ro (by assumption)) ?_
 intro w8 hb9
 replace hb9 := chg_below hb9 g4
 refine lv (Value.bool (!(decide ((g.2.length ≤ 300 ∧ (g.1 ≤ 300 ∨ ¬ MayP g)) ∧ g.1 ≤ 200 ∧ r.length + r.flatten.length ≤ 1000)))) rfl (e_not (b := (decide ((g.2.length ≤ 300 ∧ (g.1 ≤ 300 ∨ ¬ MayP g)) ∧ g.1 ≤ 200 ∧ r.length + r.flatten.length ≤ 1000))) rfl) ?_
 refine lv (Value.bool (!(decide ((g.2.length ≤ 300 ∧ (g.1 ≤ 300 ∨ ¬ MayP g)) ∧ g.1 ≤ 200 ∧ r.length + r.flatten.length ≤ 1000)))) rfl (e_move rfl) ?_
 by_cases q20 : (decide ((g.2.length ≤ 300 ∧ (g.1 ≤ 300 ∨ ¬ MayP g)) ∧ g.1 ≤ 200 ∧ r.length + r.flatten.length ≤ 1000)) = true
 ·
  have hli := of_decide_eq_true q20
  have hl300 := hli.1.1
  have hr1000 : r.length ≤ 1000 := by omega
  have hbig := hb
  refine lv (keep_v) (want_y rfl rfl rfl (congrArg Bool.not q20)) (e_move rfl) ?_
  have C10 : Chg (inl []) _ _ _ _ := (ch2.n).seq ((hb7.n).seq (hb9.n))
  replace r_keep_v := r_keep_v.chg C10 (is_nl rfl)
  have len11 := (r_keep_v).small
  refine lv (Value.int .i64 (List.length keep : Int)) (want_y rfl rfl rfl (congrArg Bool.not q20)) (e_len Try.underlying27 rfl r_keep_v) ?_
  refine lv (to_v) (want_y rfl rfl rfl (congrArg Bool.not q20)) (e_move rfl) ?_
  replace r_to_v := r_to_v.chg C10 (is_nl rfl)
  have len12 := (r_to_v).small
  refine lv (Value.int .i64 (List.length to : Int)) (want_y rfl rfl rfl (congrArg Bool.not q20)) (e_len Try.underlying27 rfl r_to_v) ?_
  refine lv (Value.int .i64 ((List.length keep : Int) + (List.length to : Int))) (want_y rfl rfl rfl (congrArg Bool.not q20)) (e_add (m := (List.length keep : Int)) (n := (List.length to : Int)) rfl rfl (by omega)) ?_
  refine lv (Value.bool (decide (600 < ((List.length keep : Int) + (List.length to : Int))))) (want_y rfl rfl rfl (congrArg Bool.not q20)) (e_gtr (m := (List.length keep : Int) + (List.length to : Int)) (n := 600) rfl rfl) ?_
  refine lv (Value.bool (decide (600 < ((List.length keep : Int) + (List.length to : Int))))) rfl (e_pick_f rfl (congrArg Bool.not q20) rfl) ?_
  refine l_nil ?_
  by_cases p3 : 600 < ((List.length keep : Int) + (List.length to : Int))
  ·
   refine run_cond_t rfl (decide_eq_true p3) ?_
   refine run_seq ?_
   clear bx5
   refine run_region rfl ?_
   refine lv (Value.bool true) rfl (e_assign rfl) ?_
   refine l_nil ?_
   refine run_ret (vs := [Value.bool true]) Try.func3 (.tmp rfl .nil) ?_
   have e0 : (true : Bool) = (true) := by
     first | rfl | assumption | omega
   replace hbase := hbase.chg C10 (is_nl rfl)
   exact ⟨(congrArg (a₁ := true) (fun (z0 : Bool) => Ending.returned (Value.bool z0)) e0), hbase.below⟩
  refine run_cond_f rfl (decide_eq_false p3) ?_
  refine run_skip ?_
  refine run_seq (run_region rfl ?_)
  replace bx5 := bx5.chg hb9 (not_no _)
  refine lv (Value.agg (List.toArray [Value.int .i64 g.1, g_v])) rfl (e_load_bxN (ds := [Value.int .i64 g.1, g_v]) tp24_w rfl bx5 rfl rfl) ?_
  refine lv (r_v) rfl (e_move rfl) ?_
  replace r_g_v := r_g_v.chg hb9 (not_no _)
  replace r_r_v := r_r_v.chg hb9 (not_no _)
  refine l_op rfl ?_
  refine o_call (v := Value.int .i64 (rmayR g r)) (e_call (vals := [Value.agg (List.toArray [Value.int .i64 g.1, g_v]), r_v]) Try.func12 bd12_w nm12_w rfl) (rRMay_ok w8 g g_v (r_g_v).ro r r_v (r_r_v).ro) ?_
  intro w13 hb14
  replace hb14 := chg_below hb14 g4
  refine lv (Value.int .i64 (rmayR g r)) rfl (e_assign rfl) ?_
  refine l_nil (run_seq (run_region rfl ?_))
  replace bx5 := bx5.chg hb14 (not_no _)
  refine lv (Value.agg (List.toArray [Value.int .i64 g.1, g_v])) rfl (e_load_bxN (ds := [Value.int .i64 g.1, g_v]) tp24_w rfl bx5 rfl rfl) ?_
  replace r_g_v := r_g_v.chg hb14 (not_no _)
  refine l_op rfl ?_
  refine o_callx (e_call (vals := [Value.agg (List.toArray [Value.int .i64 g.1, g_v])]) Try.func13 bd13_w nm13_w rfl) (Twin_ok w13 g g_v (r_g_v).ro (by omega)) ?_
  rintro ⟨d16, v18⟩ w15 ⟨fr17, o19⟩
  obtain ⟨g20, hg20⟩ : ∃ q, q = glue w13.heap.size g4 d16 (fun n => if n = 1 then 2 else 0) := ⟨_, rfl⟩
  have ch21 := chg_glue fr17.below g4 d16 (fun n => if n = 1 then 2 else 0)
  rw [← hg20] at ch21
  replace o19 := o19.glue (γ := g4) (ren := (fun n => if n = 1 then 2 else 0)) (k := 2) fr17.col rfl rfl
  rw [← hg20] at o19
  have r22 := mark_sl o19.flat
  clear hg20
  refine lv (r_v) rfl (e_move rfl) ?_
  replace r_r_v := (r_r_v.chg hb14 (not_no _)).chg ch21 (not_no _)
  refine l_op rfl ?_
  refine o_callx (e_call (vals := [r_v]) Try.func14 bd14_w nm14_w rfl) (Twin9_ok w15 r r_v (r_r_v).ro (by exact a9_big hli.2.2)) ?_
  rintro ⟨d24, v26⟩ w23 ⟨fr25, o27⟩
  obtain ⟨g28, hg28⟩ : ∃ q, q = glue w15.heap.size g20 d24 (fun n => if n = 1 then 3 else 0) := ⟨_, rfl⟩
  have ch29 := chg_glue fr25.below g20 d24 (fun n => if n = 1 then 3 else 0)
  rw [← hg28] at ch29
  replace o27 := o27.glue (γ := g20) (ren := (fun n => if n = 1 then 3 else 0)) (k := 3) fr25.col rfl rfl
  rw [← hg28] at o27
  have r30 := twl_sl o27.sl_same
  clear hg28
  refine l_op rfl ?_
  refine o_alloc g28 (is 4) (4, 0) rfl tp24_w ?_
  intro g34 w31 b33 ch32 bx35
  replace bx35 : Bx g34 (is 4) w31 b33 [Value.int .i64 0, Value.slice none 0 0] := bx35
  refine l_op rfl ?_
  replace r22 := (r22.chg ch29 (not_no _)).chg ch32 (not_no _)
  refine o_store_bx (cs' := [Value.int .i64 g.1, v18]) tp24_w rfl rfl bx35 rfl (Nat.le_of_ble_eq_true rfl) (AllOne.all (.cons rfl (.cons (sl_one r22) .nil))) rfl ?_
  intro w36 ch37 bx38
  clear bx35
  refine lv (v26) rfl (e_assign rfl) ?_
  refine l_nil (run_seq (run_region rfl ?_))
  refine lv (Value.agg (List.toArray [Value.slice none 0 0, Value.int .i64 0])) rfl (e_build (vs := []) rfl (by kernel_rfl)) ?_
  refine l_op rfl ?_
  refine o_box g34 (is 5) (5, 0) rfl rfl ?_
  intro g42 w39 b41 ch40 bx43
  replace bx43 : Bx g42 (is 5) w39 b41 [Value.slice none 0 0, Value.int .i64 0] := bx43
  refine lv (Value.pointer (some ⟨b41, 0, none⟩)) rfl (e_assign rfl) ?_
  refine l_nil (run_seq (run_seq (run_region rfl ?_)))
  refine lv (Value.int .i64 0) rfl (e_assign rfl) ?_
  refine l_nil ?_
  refine run_block ?_
  refine run_loop (σ := Value × (List (List Int)) × Int × Nat × Cmap) (fun ⟨b_0_v, b_0, b_1, turn, gq⟩ f w => Base w0 gq w ∧ f 1 = r_v ∧ f 2 = keep_v ∧ f 3 = to_v ∧ f 4 = Value.pointer (some ⟨b3, 0, none⟩) ∧ f 9 = Value.int .i64 (rmayR g r) ∧ f 10 = Value.pointer (some ⟨b33, 0, none⟩) ∧ f 11 = v26 ∧ f 12 = Value.pointer (some ⟨b41, 0, none⟩) ∧ f 13 = Value.int .i64 (turn : Int) ∧ Sl gq (is 0) w g_v g.2 ∧ Sl gq (is 0) w r_v r ∧ Sl gq (is 0) w keep_v keep ∧ Sl gq (is 0) w to_v to ∧ Bx gq (is 1) w b3 [Value.int .i64 g.1, g_v] ∧ Ow gq (is 2) (is 2) w (upV v18) (g.2 ++ [((-7 : Int), (7 : Int))]) ∧ Sl gq (is 2) w v18 g.2 ∧ Ow gq (is 3) (is 3) w (upV v26) (TWL r) ∧ Sl gq (is 3) w v26 r ∧ Bx gq (is 4) w b33 [Value.int .i64 g.1, v18] ∧ Bx gq (is 5) w b41 [b_0_v, Value.int .i64 b_1] ∧ Nst gq 14 w b_0_v b_0 ∧ (turn : Int) ≤ (2 : Int) ∧ (KInv b_0 b_1)) (fun ⟨b_0_v, b_0, b_1, turn, gq⟩ => Int.toNat ((2 : Int) - (turn : Int))) (Value.slice none 0 0, [], 0, 0, g42) ?_ ?_
  have C44 : Chg (inl [4]) _ _ _ _ := (ch2.n).seq ((hb7.n).seq ((hb9.n).seq ((hb14.n).seq ((ch21.n).seq ((ch29.n).seq ((ch32.n).seq ((ch37.l rfl).seq (ch40.n))))))))
  replace hbase := hbase.chg C44 (is_nl rfl)
  have C45 : Chg (inl [4]) _ _ _ _ := (ch21.n).seq ((ch29.n).seq ((ch32.n).seq ((ch37.l rfl).seq (ch40.n))))
  replace r_g_v := r_g_v.chg C45 (is_nl rfl)
  have C46 : Chg (inl [4]) _ _ _ _ := (ch29.n).seq ((ch32.n).seq ((ch37.l rfl).seq (ch40.n)))
  replace r_r_v := r_r_v.chg C46 (is_nl rfl)
  have C47 : Chg (inl [4]) _ _ _ _ := (hb14.n).seq ((ch21.n).seq ((ch29.n).seq ((ch32.n).seq ((ch37.l rfl).seq (ch40.n)))))
  replace r_keep_v := r_keep_v.chg C47 (is_nl rfl)
  replace r_to_v := r_to_v.chg C47 (is_nl rfl)
  replace bx5 := bx5.chg C45 (is_nl rfl)
  replace o19 := o19.chg C46 (is_nl rfl) (is_nl rfl)
  replace r22 := (r22.chg ch37 (is_ne rfl)).chg ch40 (not_no _)
  have C48 : Chg (inl [4]) _ _ _ _ := (ch32.n).seq ((ch37.l rfl).seq (ch40.n))
  replace o27 := o27.chg C48 (is_nl rfl) (is_nl rfl)
  replace r30 := r30.chg C48 (is_nl rfl)
  replace bx38 := bx38.chg ch40 (not_no _)
  · exact ⟨hbase, rfl, rfl, rfl, rfl, rfl, rfl, rfl, rfl, rfl, r_g_v, r_r_v, r_keep_v, r_to_v, bx5, o19, r22, o27, r30, bx38, bx43, Nst.nil, by omega, by exact KInv.nil⟩
  clear r_g_v r_r_v r_keep_v r_to_v bx5 o19 r22 o27 r30 bx38 bx43 hbase
  rintro ⟨b_0_v, b_0, b_1, turn, g51⟩ f49 w50 ⟨hbase, zs1, zs2, zs3, zs4, zs9, zs10, zs11, zs12, zs13, r_g_v, r_r_v, r_keep_v, r_to_v, bx5, o19, r22, o27, r30, bx38, bx43, o_b_0, hle_turn, hk⟩ back9
  obtain ⟨hka, hkb, hkc⟩ := hk.len
  refine run_seq (run_seq (run_region rfl ?_))
  refine lv (Value.int .i64 (turn : Int)) rfl (e_move (by exact zs13)) ?_
  refine lv (Value.bool (decide ((turn : Int) < 2))) rfl (e_lss (m := (turn : Int)) (n := 2) rfl rfl) ?_
  refine l_nil ?_
  by_cases p9 : (turn : Int) < 2
  ·
   refine run_cond_t rfl (decide_eq_true p9) ?_
   refine run_skip ?_
   refine run_seq ?_
   refine run_block ?_
   refine run_seq (run_region rfl ?_)
   refine lv (Value.agg (List.toArray [Value.int .i64 g.1, v18])) rfl (e_load_bxN (ds := [Value.int .i64 g.1, v18]) tp24_w (by exact zs10) bx38 rfl rfl) ?_
   refine lv (v26) rfl (e_move (by exact zs11)) ?_
   refine l_op rfl ?_
   refine o_call (v := Value.int .i64 (rmayR g r)) (e_call (vals := [Value.agg (List.toArray [Value.int .i64 g.1, v18]), v26]) Try.func15 bd15_w nm15_w rfl) (RMay_ok w50 g v18 (r22).ro r v26 (r30).ro) ?_
   intro w52 hb53
   replace hb53 := chg_below hb53 g51
   refine lv (Value.int .i64 (rmayR g r)) rfl (e_move (by exact zs9)) ?_
   refine lv (Value.bool (!(decide ((rmayR g r) = (rmayR g r))))) rfl (e_neq (m := rmayR g r) (n := rmayR g r) rfl rfl) ?_
   refine lv (Value.bool (!(decide ((rmayR g r) = (rmayR g r))))) rfl (e_move rfl) ?_
   have q46 : (rmayR g r) = (rmayR g r) := by first | rfl | assumption | exact decide_eq_true rfl
   replace bx38 := bx38.chg hb53 (not_no _)
   refine lv (Value.agg (List.toArray [Value.int .i64 g.1, v18])) (want_y rfl rfl rfl (congrArg Bool.not (decide_eq_true q46))) (e_load_bxN (ds := [Value.int .i64 g.1, v18]) tp24_w (by exact zs10) bx38 rfl rfl) ?_
   refine lv (v26) (want_y rfl rfl rfl (congrArg Bool.not (decide_eq_true q46))) (e_move (by exact zs11)) ?_
   replace bx5 := bx5.chg hb53 (not_no _)
   refine lv (Value.agg (List.toArray [Value.int .i64 g.1, g_v])) (want_y rfl rfl rfl (congrArg Bool.not (decide_eq_true q46))) (e_load_bxN (ds := [Value.int .i64 g.1, g_v]) tp24_w (by exact zs4) bx5 rfl rfl) ?_
   refine lv (r_v) (want_y rfl rfl rfl (congrArg Bool.not (decide_eq_true q46))) (e_move (by exact zs1)) ?_
   refine lv (Value.int .i64 (rmayR g r)) (want_y rfl rfl rfl (congrArg Bool.not (decide_eq_true q46))) (e_move (by exact zs9)) ?_
   refine lv (Value.pointer (some ⟨b41, 0, none⟩)) (want_y rfl rfl rfl (congrArg Bool.not (decide_eq_true q46))) (e_move (by exact zs12)) ?_
   refine l_op (want_y rfl rfl rfl (congrArg Bool.not (decide_eq_true q46))) ?_
   replace r22 := r22.chg hb53 (not_no _)
   replace r30 := r30.chg hb53 (not_no _)
   replace r_g_v := r_g_v.chg hb53 (not_no _)
   replace r_r_v := r_r_v.chg hb53 (not_no _)
   replace o_b_0 := o_b_0.chg hb53 (not_no _)
   replace hbase := hbase.chg hb53 (not_no _)
   replace r_keep_v := r_keep_v.chg hb53 (not_no _)
   replace r_to_v := r_to_v.chg hb53 (not_no _)
   replace o19 := o19.chg hb53 (not_no _) (not_no _)
   replace o27 := o27.chg hb53 (not_no _) (not_no _)
   replace bx43 := bx43.chg hb53 (not_no _)
   refine o_callx (σ := Value × (List (List Int)) × Int × Cmap) (V := fun ⟨b_0_c1_v, b_0_c1, b_1_c1, gq⟩ => Value.bool true) (S := fun ⟨b_0_c1_v, b_0_c1, b_1_c1, gq⟩ w => Base w0 gq w ∧ Sl gq (is 0) w g_v g.2 ∧ Sl gq (is 0) w r_v r ∧ Sl gq (is 0) w keep_v keep ∧ Sl gq (is 0) w to_v to ∧ Bx gq (is 1) w b3 [Value.int .i64 g.1, g_v] ∧ Ow gq (is 2) (is 2) w (upV v18) (g.2 ++ [((-7 : Int), (7 : Int))]) ∧ Sl gq (is 2) w v18 g.2 ∧ Ow gq (is 3) (is 3) w (upV v26) (TWL r) ∧ Sl gq (is 3) w v26 r ∧ Bx gq (is 4) w b33 [Value.int .i64 g.1, v18] ∧ Bx gq (is 5) w b41 [b_0_c1_v, Value.int .i64 b_1_c1] ∧ Nst gq 14 w b_0_c1_v b_0_c1 ∧ (KInv b_0_c1 b_1_c1)) (e_call (vals := [Value.agg (List.toArray [Value.int .i64 g.1, v18]), v26, Value.agg (List.toArray [Value.int .i64 g.1, g_v]), r_v, Value.int .i64 (rmayR g r), Value.pointer (some ⟨b41, 0, none⟩)]) Try.func16 bd16_w nm16_w rfl) (RotAll_ok_told hbase r_g_v r_r_v r_keep_v r_to_v bx5 o19 r22 o27 r30 bx38 bx43 o_b_0 hr1000 hbig hk) ?_
   clear r_g_v r_r_v r_keep_v r_to_v bx5 o19 r22 o27 r30 bx38 bx43 o_b_0 hbase
   rintro ⟨b_0_c1_v, b_0_c1, b_1_c1, g424⟩ w423 ⟨hbase, r_g_v, r_r_v, r_keep_v, r_to_v, bx5, o19, r22, o27, r30, bx38, bx43, o_b_0_c1, hj_c1⟩
   obtain ⟨hja_c1, hjb_c1, hjc_c1⟩ := hj_c1.len
   refine lv (Value.bool false) (want_y rfl rfl rfl (congrArg Bool.not (decide_eq_true q46))) (e_not (b := true) rfl) ?_
   refine lv (Value.bool false) rfl (e_pick_f rfl (congrArg Bool.not (decide_eq_true q46)) rfl) ?_
   refine lv (Value.bool false) rfl (e_move rfl) ?_
   refine lv (Value.agg (List.toArray [Value.int .i64 g.1, v18])) (want_y rfl rfl rfl rfl) (e_load_bxN (ds := [Value.int .i64 g.1, v18]) tp24_w (by exact zs10) bx38 rfl rfl) ?_
   refine lv (v26) (want_y rfl rfl rfl rfl) (e_move (by exact zs11)) ?_
   refine lv (Value.agg (List.toArray [Value.int .i64 g.1, g_v])) (want_y rfl rfl rfl rfl) (e_load_bxN (ds := [Value.int .i64 g.1, g_v]) tp24_w (by exact zs4) bx5 rfl rfl) ?_
   refine lv (r_v) (want_y rfl rfl rfl rfl) (e_move (by exact zs1)) ?_
   refine lv (keep_v) (want_y rfl rfl rfl rfl) (e_move (by exact zs2)) ?_
   refine lv (to_v) (want_y rfl rfl rfl rfl) (e_move (by exact zs3)) ?_
   refine lv (Value.int .i64 (rmayR g r)) (want_y rfl rfl rfl rfl) (e_move (by exact zs9)) ?_
   refine lv (Value.pointer (some ⟨b41, 0, none⟩)) (want_y rfl rfl rfl rfl) (e_move (by exact zs12)) ?_
   refine l_op (want_y rfl rfl rfl rfl) ?_
   refine o_callx (σ := Value × (List (List Int)) × Int × Cmap) (V := fun ⟨b_0_c4_v, b_0_c4, b_1_c4, gq⟩ => Value.bool true) (S := fun ⟨b_0_c4_v, b_0_c4, b_1_c4, gq⟩ w => Base w0 gq w ∧ Sl gq (is 0) w g_v g.2 ∧ Sl gq (is 0) w r_v r ∧ Sl gq (is 0) w keep_v keep ∧ Sl gq (is 0) w to_v to ∧ Bx gq (is 1) w b3 [Value.int .i64 g.1, g_v] ∧ Ow gq (is 2) (is 2) w (upV v18) (g.2 ++ [((-7 : Int), (7 : Int))]) ∧ Sl gq (is 2) w v18 g.2 ∧ Ow gq (is 3) (is 3) w (upV v26) (TWL r) ∧ Sl gq (is 3) w v26 r ∧ Bx gq (is 4) w b33 [Value.int .i64 g.1, v18] ∧ Bx gq (is 5) w b41 [b_0_c4_v, Value.int .i64 b_1_c4] ∧ Nst gq 14 w b_0_c4_v b_0_c4 ∧ (KInv b_0_c4 b_1_c4)) (e_call (vals := [Value.agg (List.toArray [Value.int .i64 g.1, v18]), v26, Value.agg (List.toArray [Value.int .i64 g.1, g_v]), r_v, keep_v, to_v, Value.int .i64 (rmayR g r), Value.pointer (some ⟨b41, 0, none⟩)]) Try.func17 bd17_w nm17_w rfl) (RotAll_ok_made hbase r_g_v r_r_v r_keep_v r_to_v bx5 o19 r22 o27 r30 bx38 bx43 o_b_0_c1 hr1000 hbig (by assumption)) ?_
   clear r_g_v r_r_v r_keep_v r_to_v bx5 o19 r22 o27 r30 bx38 bx43 o_b_0_c1 hbase
   rintro ⟨b_0_c4_v, b_0_c4, b_1_c4, g561⟩ w560 ⟨hbase, r_g_v, r_r_v, r_keep_v, r_to_v, bx5, o19, r22, o27, r30, bx38, bx43, o_b_0_c4, hj_c4⟩
   obtain ⟨hja_c4, hjb_c4, hjc_c4⟩ := hj_c4.len
   refine lv (Value.bool false) (want_y rfl rfl rfl rfl) (e_not (b := true) rfl) ?_
   refine lv (Value.bool false) rfl (e_pick_f rfl rfl rfl) ?_
   refine lv (Value.bool false) rfl (e_move rfl) ?_
   refine lv (Value.agg (List.toArray [Value.int .i64 g.1, v18])) (want_y rfl rfl rfl rfl) (e_load_bxN (ds := [Value.int .i64 g.1, v18]) tp24_w (by exact zs10) bx38 rfl rfl) ?_
   refine lv (Value.agg (List.toArray [Value.int .i64 g.1, g_v])) (want_y rfl rfl rfl rfl) (e_load_bxN (ds := [Value.int .i64 g.1, g_v]) tp24_w (by exact zs4) bx5 rfl rfl) ?_
   refine l_op (want_y rfl rfl rfl rfl) ?_
   refine o_call (v := Value.bool (decide (g = g))) (e_call (vals := [Value.agg (List.toArray [Value.int .i64 g.1, v18]), Value.agg (List.toArray [Value.int .i64 g.1, g_v])]) Try.func18 bd18_w nm18_w rfl) (Kept_ok w560 g v18 (r22).ro g g_v (r_g_v).ro (by exact Sl.ro (Ow.flat (by assumption)))) ?_
   intro w562 hb563
   replace hb563 := chg_below hb563 g561
   refine lv (Value.bool (!(decide (g = g)))) (want_y rfl rfl rfl rfl) (e_not (b := (decide (g = g))) rfl) ?_
   refine lv (Value.bool (!(decide (g = g)))) rfl (e_pick_f rfl rfl rfl) ?_
   refine lv (Value.bool (!(decide (g = g)))) rfl (e_move rfl) ?_
   have q74 : (decide (g = g)) = true := by first | rfl | assumption | exact decide_eq_true rfl
   refine lv (v26) (want_y rfl rfl rfl (congrArg Bool.not q74)) (e_move (by exact zs11)) ?_
   refine lv (r_v) (want_y rfl rfl rfl (congrArg Bool.not q74)) (e_move (by exact zs1)) ?_
   replace o19 := o19.chg hb563 (not_no _) (not_no _)
   replace o27 := o27.chg hb563 (not_no _) (not_no _)
   replace r30 := r30.chg hb563 (not_no _)
   replace r_r_v := r_r_v.chg hb563 (not_no _)
   refine l_op (want_y rfl rfl rfl (congrArg Bool.not q74)) ?_
   refine o_call (v := Value.bool (decide (r = r))) (e_call (vals := [v26, r_v]) Try.func19 bd19_w nm19_w rfl) (RKept_ok w562 r v26 (r30).ro r r_v (r_r_v).ro (by exact Sl.ro (Ow.sl_same (by assumption)))) ?_
   intro w564 hb565
   replace hb565 := chg_below hb565 g561
   refine lv (Value.bool (!(decide (r = r)))) (want_y rfl rfl rfl (congrArg Bool.not q74)) (e_not (b := (decide (r = r))) rfl) ?_
   refine lv (Value.bool (!(decide (r = r)))) rfl (e_pick_f rfl (congrArg Bool.not q74) rfl) ?_
   refine l_nil ?_
   have p11 : (decide (r = r)) = true := by first | rfl | assumption | exact decide_eq_true rfl
   refine run_cond_f rfl (congrArg Bool.not p11) ?_
   refine run_skip ?_
   refine run_inBlock ?_
   refine run_region rfl ?_
   refine lv (Value.int .i64 (turn : Int)) rfl (e_move (by exact zs13)) ?_
   refine lv (Value.int .i64 ((turn : Int) + 1)) rfl (e_add (m := (turn : Int)) (n := 1) rfl rfl (by omega)) ?_
   refine lv (Value.int .i64 ((turn : Int) + 1)) rfl (e_assign rfl) ?_
   refine l_nil ?_
   replace hbase := hbase.chg hb563 (not_no _)
   replace hbase := hbase.chg hb565 (not_no _)
   replace r_g_v := (r_g_v.chg hb563 (not_no _)).chg hb565 (not_no _)
   replace r_r_v := r_r_v.chg hb565 (not_no _)
   replace r_keep_v := (r_keep_v.chg hb563 (not_no _)).chg hb565 (not_no _)
   replace r_to_v := (r_to_v.chg hb563 (not_no _)).chg hb565 (not_no _)
   replace bx5 := (bx5.chg hb563 (not_no _)).chg hb565 (not_no _)
   replace o19 := o19.chg hb565 (not_no _) (not_no _)
   replace r22 := (r22.chg hb563 (not_no _)).chg hb565 (not_no _)
   replace o27 := o27.chg hb565 (not_no _) (not_no _)
   replace r30 := r30.chg hb565 (not_no _)
   replace bx38 := (bx38.chg hb563 (not_no _)).chg hb565 (not_no _)
   replace bx43 := (bx43.chg hb563 (not_no _)).chg hb565 (not_no _)
   replace o_b_0_c4 := (o_b_0_c4.chg hb563 (not_no _)).chg hb565 (not_no _)
   refine back9 (b_0_c4_v, b_0_c4, b_1_c4, turn + 1, g561) _ _ ⟨hbase, (by exact zs1), (by exact zs2), (by exact zs3), (by exact zs4), (by exact zs9), (by exact zs10), (by exact zs11), (by exact zs12), rfl, r_g_v, r_r_v, r_keep_v, r_to_v, bx5, o19, r22, o27, r30, bx38, bx43, o_b_0_c4, by omega, ?_⟩ ?_
   · show KInv b_0_c4 b_1_c4
     first | assumption | exact KInv.nil | exact (KInv.add (by first | assumption | exact KInv.nil) (by omega) (by omega) (by omega))
   · show Int.toNat ((2 : Int) - ((turn + 1) : Int)) < Int.toNat ((2 : Int) - (turn : Int))
     omega
  refine run_cond_f rfl (decide_eq_false p9) ?_
  refine run_exit rfl ?_
  refine run_seq ?_
  clear bx5 r22 r30 bx38
  refine run_region rfl ?_
  refine lv (Value.pointer (some ⟨b41, 0, none⟩)) rfl (e_move (by exact zs12)) ?_
  refine l_op rfl ?_
  refine o_inline (e_call (vals := [Value.pointer (some ⟨b41, 0, none⟩)]) Try.func20 bd20_w nm20_w rfl) ?_
  refine calls_of_run Try.func20 rfl (Nat.le_of_ble_eq_true rfl) ?_
  refine run_seq (run_region rfl ?_)
  refine lv (Value.bool false) rfl (e_assign rfl) ?_
  refine l_nil (run_seq (run_seq (run_region rfl ?_)))
  refine lv (Value.int .i64 0) rfl (e_assign rfl) ?_
  refine l_nil ?_
  refine run_block ?_
  refine run_loop (σ := Nat × (List (List Int)) × Cmap) (fun ⟨i_c5, L_c5, gq⟩ f w => Base w0 gq w ∧ f 0 = Value.pointer (some ⟨b41, 0, none⟩) ∧ f 3 = Value.int .i64 (i_c5 : Int) ∧ Sl gq (is 0) w g_v g.2 ∧ Sl gq (is 0) w r_v r ∧ Sl gq (is 0) w keep_v keep ∧ Sl gq (is 0) w to_v to ∧ Ow gq (is 2) (is 2) w (upV v18) (g.2 ++ [((-7 : Int), (7 : Int))]) ∧ Ow gq (is 3) (is 3) w (upV v26) (TWL r) ∧ Bx gq (is 5) w b41 [b_0_v, Value.int .i64 b_1] ∧ Nst gq 14 w b_0_v L_c5 ∧ (ApInv L_c5 i_c5)) (fun ⟨i_c5, L_c5, gq⟩ => List.length L_c5 - i_c5) (0, b_0, g51) ?_ ?_
  · exact ⟨hbase, rfl, rfl, r_g_v, r_r_v, r_keep_v, r_to_v, o19, o27, bx43, o_b_0, by exact KInv.ap (by assumption)⟩
  clear r_g_v r_r_v r_keep_v r_to_v o19 o27 bx43 o_b_0 hbase
  rintro ⟨i_c5, L_c5, g568⟩ f566 w567 ⟨hbase, zs0_c5, zs3_c5, r_g_v, r_r_v, r_keep_v, r_to_v, o19, o27, bx43, o_b_0, ha_c5⟩ back2_c5
  have hale_c5 := ha_c5.le
  have hafew_c5 := ha_c5.few
  refine run_seq (run_seq (run_region rfl ?_))
  refine lv (Value.int .i64 (i_c5 : Int)) rfl (e_move (by exact zs3_c5)) ?_
  refine lv (Value.pointer (some ⟨b41, 0, none⟩)) rfl (e_move (by exact zs0_c5)) ?_
  refine lv (Value.pointer (some ⟨b41, 0, none⟩)) rfl (e_nilCheck rfl) ?_
  refine lv (Value.pointer (some ⟨b41, 0, none⟩)) rfl (e_fieldAddr Try.underlying36 rfl rfl rfl rfl) ?_
  refine lv (b_0_v) rfl (e_load_bx1 tp25_w rfl bx43 rfl) ?_
  have len569 := (o_b_0.sl).small
  refine lv (Value.int .i64 (List.length L_c5 : Int)) rfl (e_len Try.underlying25 rfl o_b_0.sl) ?_
  refine lv (Value.bool (decide ((i_c5 : Int) < (List.length L_c5 : Int)))) rfl (e_lss (m := (i_c5 : Int)) (n := (List.length L_c5 : Int)) rfl rfl) ?_
  refine l_nil ?_
  by_cases p2_c5 : (i_c5 : Int) < (List.length L_c5 : Int)
  ·
   refine run_cond_t rfl (decide_eq_true p2_c5) ?_
   have hares_c5 := ha_c5.rest i_c5 (Nat.le_refl _) (by omega)
   refine run_skip ?_
   refine run_seq ?_
   refine run_block ?_
   refine run_seq (run_seq ?_)
   refine region_q g568 rfl mixed_w (by kernel_rfl) ?_
   intro w571 ch570
   refine q_val (v := Value.pointer (some ⟨b41, 0, none⟩)) rfl (fun w' hw' => e_move (by exact zs0_c5)) ?_
   refine q_val (v := Value.pointer (some ⟨b41, 0, none⟩)) rfl (fun w' hw' => e_nilCheck rfl) ?_
   refine q_val (v := Value.pointer (some ⟨b41, 0, none⟩)) rfl (fun w' hw' => e_fieldAddr Try.underlying36 rfl rfl rfl rfl) ?_
   replace bx43 := bx43.chg ch570 (not_no _)
   refine q_val (v := b_0_v) rfl (fun w' hw' => e_load_bx1 tp25_w rfl (bx43.bel hw') rfl) ?_
   refine q_val (v := Value.int .i64 (i_c5 : Int)) rfl (fun w' hw' => e_move (by exact zs3_c5)) ?_
   replace o_b_0 := o_b_0.chg ch570 (not_no _)
   refine q_val (v := Value.pointer (some (eAddr b_0_v 1 (Int.toNat (i_c5 : Int))))) rfl (fun w' hw' => e_indexAddr (α := List Int) (xs := L_c5) (v := b_0_v) (i := (i_c5 : Int)) Try.underlying25 rfl rfl (o_b_0.sl.bel hw') rfl (by omega) (by omega)) ?_
   obtain ⟨v572, cel573, r574⟩ := nst_row (r := (i_c5 : Int)) o_b_0 (by omega) (by omega)
   refine q_val (v := v572) rfl (fun w' hw' => e_load1 tp27_w rfl (cel_bel cel573 hw')) ?_
   have len575 := (r574.row_sl).small
   refine q_val (v := Value.int .i64 (List.length (gI L_c5 (i_c5 : Int)) : Int)) rfl (fun w' hw' => e_len Try.underlying27 rfl (r574.row_sl.bel hw')) ?_
   refine q_val (v := Value.pointer (some ⟨b41, 0, none⟩)) rfl (fun w' hw' => e_move (by exact zs0_c5)) ?_
   refine q_val (v := Value.pointer (some ⟨b41, 0, none⟩)) rfl (fun w' hw' => e_nilCheck rfl) ?_
   refine q_val (v := Value.pointer (some ⟨b41, 0, none⟩)) rfl (fun w' hw' => e_fieldAddr Try.underlying36 rfl rfl rfl rfl) ?_
   refine q_val (v := b_0_v) rfl (fun w' hw' => e_load_bx1 tp25_w rfl (bx43.bel hw') rfl) ?_
   refine q_val (v := Value.int .i64 (i_c5 : Int)) rfl (fun w' hw' => e_move (by exact zs3_c5)) ?_
   refine q_val (v := Value.pointer (some (eAddr b_0_v 1 (Int.toNat (i_c5 : Int))))) rfl (fun w' hw' => e_indexAddr (α := List Int) (xs := L_c5) (v := b_0_v) (i := (i_c5 : Int)) Try.underlying25 rfl rfl (o_b_0.sl.bel hw') rfl (by omega) (by omega)) ?_
   obtain ⟨v576, cel577, r578⟩ := nst_row (r := (i_c5 : Int)) o_b_0 (by omega) (by omega)
   refine q_val (v := v576) rfl (fun w' hw' => e_load1 tp27_w rfl (cel_bel cel577 hw')) ?_
   have cap579 := Sl.cap r578.row_sl
   refine q_val (v := Value.int .i64 (sCap v576 : Int)) rfl (fun w' hw' => e_cap Try.underlying27 rfl (r578.row_sl.bel hw')) ?_
   refine q_call (v := Value.int .i64 (min (sCap v576 : Int) ((List.length (gI L_c5 (i_c5 : Int)) : Int) + 2000))) rfl (fun w' hw' => e_call (vals := [Value.int .i64 (List.length (gI L_c5 (i_c5 : Int)) : Int), Value.int .i64 (sCap v576 : Int)]) Try.func65 bd65_w nm65_w rfl) (fun w' hw' => (Room_ok w' (List.length (gI L_c5 (i_c5 : Int)) : Int) (sCap v576 : Int) (by omega)).mono fun e w2 h2 => ⟨h2.1, hw'.trans (h2.2.mono hw'.size)⟩) ?_
   refine q_val (v := Value.int .i64 (min (sCap v576 : Int) ((List.length (gI L_c5 (i_c5 : Int)) : Int) + 2000))) rfl (fun w' hw' => e_assign rfl) ?_
   refine q_nil ?_
   intro w580 hc581
   replace hc581 := chg_below hc581 g568
   refine run_block ?_
   clear cel573 r574 cel577 r578
   refine run_loop (σ := (List (List Int)) × Cmap) (fun ⟨L1_c5, gq⟩ f w => Base w0 gq w ∧ f 0 = Value.pointer (some ⟨b41, 0, none⟩) ∧ f 3 = Value.int .i64 (i_c5 : Int) ∧ f 4 = Value.int .i64 (min (sCap v576 : Int) ((List.length (gI L_c5 (i_c5 : Int)) : Int) + 2000)) ∧ Sl gq (is 0) w g_v g.2 ∧ Sl gq (is 0) w r_v r ∧ Sl gq (is 0) w keep_v keep ∧ Sl gq (is 0) w to_v to ∧ Ow gq (is 2) (is 2) w (upV v18) (g.2 ++ [((-7 : Int), (7 : Int))]) ∧ Ow gq (is 3) (is 3) w (upV v26) (TWL r) ∧ Bx gq (is 5) w b41 [b_0_v, Value.int .i64 b_1] ∧ Nst gq 14 w b_0_v L1_c5 ∧ (GrInv L1_c5 L_c5 i_c5 (min (sCap v576 : Int) ((List.length (gI L_c5 (i_c5 : Int)) : Int) + 2000)))) (fun ⟨L1_c5, gq⟩ => Int.toNat ((min (sCap v576 : Int) ((List.length (gI L_c5 (i_c5 : Int)) : Int) + 2000)) - (List.length (gI L1_c5 (i_c5 : Int)) : Int))) (L_c5, g568) ?_ ?_
   replace hbase := hbase.chg ch570 (not_no _)
   replace hbase := hbase.chg hc581 (not_no _)
   replace r_g_v := (r_g_v.chg ch570 (not_no _)).chg hc581 (not_no _)
   replace r_r_v := (r_r_v.chg ch570 (not_no _)).chg hc581 (not_no _)
   replace r_keep_v := (r_keep_v.chg ch570 (not_no _)).chg hc581 (not_no _)
   replace r_to_v := (r_to_v.chg ch570 (not_no _)).chg hc581 (not_no _)
   replace o19 := (o19.chg ch570 (not_no _) (not_no _)).chg hc581 (not_no _) (not_no _)
   replace o27 := (o27.chg ch570 (not_no _) (not_no _)).chg hc581 (not_no _) (not_no _)
   replace bx43 := bx43.chg hc581 (not_no _)
   replace o_b_0 := o_b_0.chg hc581 (not_no _)
   · exact ⟨hbase, (by exact zs0_c5), (by exact zs3_c5), rfl, r_g_v, r_r_v, r_keep_v, r_to_v, o19, o27, bx43, o_b_0, by exact GrInv.start ha_c5 (by assumption)⟩
   clear r_g_v r_r_v r_keep_v r_to_v o19 o27 bx43 o_b_0 hbase
   rintro ⟨L1_c5, g584⟩ f582 w583 ⟨hbase, zs0_c5, zs3_c5, zs4_c5, r_g_v, r_r_v, r_keep_v, r_to_v, o19, o27, bx43, o_b_0, hg_c5⟩ back5_c5
   have hgl_c5 := hg_c5.len
   have hgle_c5 := hg_c5.le
   refine run_seq (run_seq (run_region rfl ?_))
   refine lv (Value.pointer (some ⟨b41, 0, none⟩)) rfl (e_move (by exact zs0_c5)) ?_
   refine lv (Value.pointer (some ⟨b41, 0, none⟩)) rfl (e_nilCheck rfl) ?_
   refine lv (Value.pointer (some ⟨b41, 0, none⟩)) rfl (e_fieldAddr Try.underlying36 rfl rfl rfl rfl) ?_
   refine lv (b_0_v) rfl (e_load_bx1 tp25_w rfl bx43 rfl) ?_
   refine lv (Value.int .i64 (i_c5 : Int)) rfl (e_move (by exact zs3_c5)) ?_
   refine lv (Value.pointer (some (eAddr b_0_v 1 (Int.toNat (i_c5 : Int))))) rfl (e_indexAddr (α := List Int) (xs := L1_c5) (v := b_0_v) (i := (i_c5 : Int)) Try.underlying25 rfl rfl o_b_0.sl rfl (by omega) (by omega)) ?_
   obtain ⟨v585, cel586, r587⟩ := nst_row (r := (i_c5 : Int)) o_b_0 (by omega) (by omega)
   refine lv (v585) rfl (e_load1 tp27_w rfl cel586) ?_
   have len588 := (r587.row_sl).small
   refine lv (Value.int .i64 (List.length (gI L1_c5 (i_c5 : Int)) : Int)) rfl (e_len Try.underlying27 rfl r587.row_sl) ?_
   refine lv (Value.int .i64 (min (sCap v576 : Int) ((List.length (gI L_c5 (i_c5 : Int)) : Int) + 2000))) rfl (e_move (by exact zs4_c5)) ?_
   refine lv (Value.bool (decide ((List.length (gI L1_c5 (i_c5 : Int)) : Int) < (min (sCap v576 : Int) ((List.length (gI L_c5 (i_c5 : Int)) : Int) + 2000))))) rfl (e_lss (m := (List.length (gI L1_c5 (i_c5 : Int)) : Int)) (n := min (sCap v576 : Int) ((List.length (gI L_c5 (i_c5 : Int)) : Int) + 2000)) rfl rfl) ?_
   refine l_nil ?_
   by_cases p5_c5 : (List.length (gI L1_c5 (i_c5 : Int)) : Int) < (min (sCap v576 : Int) ((List.length (gI L_c5 (i_c5 : Int)) : Int) + 2000))
   ·
    refine run_cond_t rfl (decide_eq_true p5_c5) ?_
    refine run_skip ?_
    refine run_block ?_
    clear cel586 r587
    refine region_mid (σ := Cmap) (fun gq f w => Base w0 gq w ∧ f 0 = Value.pointer (some ⟨b41, 0, none⟩) ∧ f 3 = Value.int .i64 (i_c5 : Int) ∧ f 4 = Value.int .i64 (min (sCap v576 : Int) ((List.length (gI L_c5 (i_c5 : Int)) : Int) + 2000)) ∧ Sl gq (is 0) w g_v g.2 ∧ Sl gq (is 0) w r_v r ∧ Sl gq (is 0) w keep_v keep ∧ Sl gq (is 0) w to_v to ∧ Ow gq (is 2) (is 2) w (upV v18) (g.2 ++ [((-7 : Int), (7 : Int))]) ∧ Ow gq (is 3) (is 3) w (upV v26) (TWL r) ∧ Bx gq (is 5) w b41 [b_0_v, Value.int .i64 b_1] ∧ Nst gq 14 w b_0_v (List.set L1_c5 (Int.toNat (i_c5 : Int)) (gI L1_c5 (i_c5 : Int) ++ [0]))) g584 [0, 1, 2, 4, 5, 6, 7, 8, 9, 10, 11, 14] mixed_w ?_ ?_
    ·
     intro mid
     intro w590 ch589
     refine x_pure (v := Value.pointer (some ⟨b41, 0, none⟩)) 0 rfl (by kernel_rfl) (by kernel_rfl) rfl (fun w => e_move (by exact zs0_c5)) ?_
     refine x_pure (v := Value.pointer (some ⟨b41, 0, none⟩)) 1 rfl (by kernel_rfl) (by kernel_rfl) rfl (fun w => e_nilCheck rfl) ?_
     refine x_pure (v := Value.pointer (some ⟨b41, 0, none⟩)) 2 rfl (by kernel_rfl) (by kernel_rfl) rfl (fun w => e_fieldAddr Try.underlying36 rfl rfl rfl rfl) ?_
     refine x_pure (v := Value.int .i64 (i_c5 : Int)) 4 rfl (by kernel_rfl) (by kernel_rfl) rfl (fun w => e_move (by exact zs3_c5)) ?_
     refine x_pure (v := Value.pointer (some ⟨b41, 0, none⟩)) 5 rfl (by kernel_rfl) (by kernel_rfl) rfl (fun w => e_move (by exact zs0_c5)) ?_
     refine x_pure (v := Value.pointer (some ⟨b41, 0, none⟩)) 6 rfl (by kernel_rfl) (by kernel_rfl) rfl (fun w => e_nilCheck rfl) ?_
     refine x_pure (v := Value.pointer (some ⟨b41, 0, none⟩)) 7 rfl (by kernel_rfl) (by kernel_rfl) rfl (fun w => e_fieldAddr Try.underlying36 rfl rfl rfl rfl) ?_
     replace bx43 := bx43.chg ch589 (not_no _)
     refine x_held (v := b_0_v) 8 [7, 6, 5, 4, 2, 1, 0, 3, 9, 12] rfl (by kernel_rfl) (by kernel_rfl) rfl (fun w' hw' => e_load_bx1 tp25_w rfl (bx43.bel hw') rfl) ?_
     refine x_pure (v := Value.int .i64 (i_c5 : Int)) 9 rfl (by kernel_rfl) (by kernel_rfl) rfl (fun w => e_move (by exact zs3_c5)) ?_
     replace o_b_0 := o_b_0.chg ch589 (not_no _)
     refine x_held (v := Value.pointer (some (eAddr b_0_v 1 (Int.toNat (i_c5 : Int))))) 10 [9, 8, 7, 6, 5, 4, 2, 1, 0, 3, 12] rfl (by kernel_rfl) (by kernel_rfl) rfl (fun w' hw' => e_indexAddr (α := List Int) (xs := L1_c5) (v := b_0_v) (i := (i_c5 : Int)) Try.underlying25 rfl rfl (o_b_0.sl.bel hw') rfl (by omega) (by omega)) ?_
     obtain ⟨v591, cel592, r593⟩ := nst_row (r := (i_c5 : Int)) o_b_0 (by omega) (by omega)
     refine x_held (v := v591) 11 [10, 9, 8, 7, 6, 5, 4, 2, 1, 0, 3, 12] rfl (by kernel_rfl) (by kernel_rfl) rfl (fun w' hw' => e_load1 tp27_w rfl (cel_bel cel592 hw')) ?_
     refine x_two 3 12 rfl rfl (by kernel_rfl) rfl rfl ?_ ?_
     ·
      refine o_of_val (v := b_0_v) (e_load_bx1 tp25_w rfl bx43 rfl) ?_
      refine x_one 12 rfl (by kernel_rfl) rfl ?_
      refine o_buildSlice (α := Int) g584 (is 50) (is 50) (50, 0) rfl [0] Try.underlying27 tp3_w (by decide) (by decide) (vs := [(0, Value.int .i64 0)]) rfl rfl (.cons rfl .nil) ?_
      intro g594 w595 v596 ch597 o598
      refine x_one 13 rfl (by kernel_rfl) rfl ?_
      replace o_b_0 := o_b_0.chg ch597 (not_no _)
      replace r593 := r593.chg ch597 (not_no _) (not_no _)
      refine o_append (α := Int) (xs := (gI L1_c5 (i_c5 : Int))) (ys := ([0])) g594 (J := row 14 (Int.toNat (i_c5 : Int) + 1)) (S := row 14 (Int.toNat (i_c5 : Int) + 1)) (14, Int.toNat (i_c5 : Int) + 1) rfl Try.underlying27 tp3_w (by decide) rfl rfl rfl r593 o598.flat (by decide) (by first | omega | (simp; done) | (simp; omega)) ?_
      intro g599 w600 v601 ch602 o603
      have o604 := o_b_0.rowchg ch602
      clear o_b_0 cel592 r593
      obtain ⟨us605, hl606, r607⟩ := o604.vc
      try simp only [List.length_set, List.length_append, List.length_cons, List.length_nil] at hl606
      refine x_val (v := Value.pointer (some (eAddr b_0_v 1 (Int.toNat (i_c5 : Int))))) 14 [13, 12, 3, 11, 10, 9, 8, 7, 6, 5, 4, 2, 1, 0] rfl (by kernel_rfl) (by kernel_rfl) rfl (e_indexAddr (α := Vc) (xs := us605) (v := b_0_v) (i := (i_c5 : Int)) Try.underlying25 rfl rfl r607 rfl (by omega) (by omega)) ?_
      refine x_one 15 rfl (by kernel_rfl) rfl ?_
      refine o_store_row (r := (i_c5 : Int)) tp27_w rfl rfl o604 o603 (by omega) (by omega) ?_
      intro w611 ch612 o613
      clear o604 o603
      refine x_nil (by kernel_rfl) ?_
      have C614 : Chg (inl [14]) _ _ _ _ := (ch589.n).seq ((ch597.n).seq ((ch602.lr rfl).seq (ch612.l rfl)))
      replace hbase := hbase.chg C614 (is_nl rfl)
      replace r_g_v := r_g_v.chg C614 (is_nl rfl)
      replace r_r_v := r_r_v.chg C614 (is_nl rfl)
      replace r_keep_v := r_keep_v.chg C614 (is_nl rfl)
      replace r_to_v := r_to_v.chg C614 (is_nl rfl)
      replace o19 := o19.chg C614 (is_nl rfl) (is_nl rfl)
      replace o27 := o27.chg C614 (is_nl rfl) (is_nl rfl)
      have C615 : Chg (inl [14]) _ _ _ _ := (ch597.n).seq ((ch602.lr rfl).seq (ch612.l rfl))
      replace bx43 := bx43.chg C615 (is_nl rfl)
      exact mid (g599) _ _ ⟨hbase, (by exact zs0_c5), (by exact zs3_c5), (by exact zs4_c5), r_g_v, r_r_v, r_keep_v, r_to_v, o19, o27, bx43, o613⟩
     ·
      refine o_buildSlice (α := Int) g584 (is 50) (is 50) (50, 0) rfl [0] Try.underlying27 tp3_w (by decide) (by decide) (vs := [(0, Value.int .i64 0)]) rfl rfl (.cons rfl .nil) ?_
      intro g616 w617 v618 ch619 o620
      refine x_two 3 13 rfl rfl (by kernel_rfl) rfl rfl ?_ ?_
      ·
       replace bx43 := bx43.chg ch619 (not_no _)
       refine o_of_val (v := b_0_v) (e_load_bx1 tp25_w rfl bx43 rfl) ?_
       refine x_one 13 rfl (by kernel_rfl) rfl ?_
       replace o_b_0 := o_b_0.chg ch619 (not_no _)
       replace r593 := r593.chg ch619 (not_no _) (not_no _)
       refine o_append (α := Int) (xs := (gI L1_c5 (i_c5 : Int))) (ys := ([0])) g616 (J := row 14 (Int.toNat (i_c5 : Int) + 1)) (S := row 14 (Int.toNat (i_c5 : Int) + 1)) (14, Int.toNat (i_c5 : Int) + 1) rfl Try.underlying27 tp3_w (by decide) rfl rfl rfl r593 o620.flat (by decide) (by first | omega | (simp; done) | (simp; omega)) ?_
       intro g621 w622 v623 ch624 o625
       have o626 := o_b_0.rowchg ch624
       clear o_b_0 cel592 r593
       obtain ⟨us627, hl628, r629⟩ := o626.vc
       try simp only [List.length_set, List.length_append, List.length_cons, List.length_nil] at hl628
       refine x_val (v := Value.pointer (some (eAddr b_0_v 1 (Int.toNat (i_c5 : Int))))) 14 [13, 3, 12, 11, 10, 9, 8, 7, 6, 5, 4, 2, 1, 0] rfl (by kernel_rfl) (by kernel_rfl) rfl (e_indexAddr (α := Vc) (xs := us627) (v := b_0_v) (i := (i_c5 : Int)) Try.underlying25 rfl rfl r629 rfl (by omega) (by omega)) ?_
       refine x_one 15 rfl (by kernel_rfl) rfl ?_
       refine o_store_row (r := (i_c5 : Int)) tp27_w rfl rfl o626 o625 (by omega) (by omega) ?_
       intro w633 ch634 o635
       clear o626 o625
       refine x_nil (by kernel_rfl) ?_
       have C636 : Chg (inl [14]) _ _ _ _ := (ch589.n).seq ((ch619.n).seq ((ch624.lr rfl).seq (ch634.l rfl)))
       replace hbase := hbase.chg C636 (is_nl rfl)
       replace r_g_v := r_g_v.chg C636 (is_nl rfl)
       replace r_r_v := r_r_v.chg C636 (is_nl rfl)
       replace r_keep_v := r_keep_v.chg C636 (is_nl rfl)
       replace r_to_v := r_to_v.chg C636 (is_nl rfl)
       replace o19 := o19.chg C636 (is_nl rfl) (is_nl rfl)
       replace o27 := o27.chg C636 (is_nl rfl) (is_nl rfl)
       replace bx43 := (bx43.chg ch624 (is_row rfl)).chg ch634 (is_ne rfl)
       exact mid (g621) _ _ ⟨hbase, (by exact zs0_c5), (by exact zs3_c5), (by exact zs4_c5), r_g_v, r_r_v, r_keep_v, r_to_v, o19, o27, bx43, o635⟩
      ·
       replace o_b_0 := o_b_0.chg ch619 (not_no _)
       replace r593 := r593.chg ch619 (not_no _) (not_no _)
       refine o_append (α := Int) (xs := (gI L1_c5 (i_c5 : Int))) (ys := ([0])) g616 (J := row 14 (Int.toNat (i_c5 : Int) + 1)) (S := row 14 (Int.toNat (i_c5 : Int) + 1)) (14, Int.toNat (i_c5 : Int) + 1) rfl Try.underlying27 tp3_w (by decide) rfl rfl rfl r593 o620.flat (by decide) (by first | omega | (simp; done) | (simp; omega)) ?_
       intro g637 w638 v639 ch640 o641
       have o642 := o_b_0.rowchg ch640
       clear o_b_0 cel592 r593
       replace bx43 := (bx43.chg ch619 (not_no _)).chg ch640 (is_row rfl)
       refine x_one 3 rfl (by kernel_rfl) rfl ?_
       refine o_of_val (v := b_0_v) (e_load_bx1 tp25_w rfl bx43 rfl) ?_
       obtain ⟨us643, hl644, r645⟩ := o642.vc
       try simp only [List.length_set, List.length_append, List.length_cons, List.length_nil] at hl644
       refine x_val (v := Value.pointer (some (eAddr b_0_v 1 (Int.toNat (i_c5 : Int))))) 14 [3, 13, 12, 11, 10, 9, 8, 7, 6, 5, 4, 2, 1, 0] rfl (by kernel_rfl) (by kernel_rfl) rfl (e_indexAddr (α := Vc) (xs := us643) (v := b_0_v) (i := (i_c5 : Int)) Try.underlying25 rfl rfl r645 rfl (by omega) (by omega)) ?_
       refine x_one 15 rfl (by kernel_rfl) rfl ?_
       refine o_store_row (r := (i_c5 : Int)) tp27_w rfl rfl o642 o641 (by omega) (by omega) ?_
       intro w649 ch650 o651
       clear o642 o641
       refine x_nil (by kernel_rfl) ?_
       have C652 : Chg (inl [14]) _ _ _ _ := (ch589.n).seq ((ch619.n).seq ((ch640.lr rfl).seq (ch650.l rfl)))
       replace hbase := hbase.chg C652 (is_nl rfl)
       replace r_g_v := r_g_v.chg C652 (is_nl rfl)
       replace r_r_v := r_r_v.chg C652 (is_nl rfl)
       replace r_keep_v := r_keep_v.chg C652 (is_nl rfl)
       replace r_to_v := r_to_v.chg C652 (is_nl rfl)
       replace o19 := o19.chg C652 (is_nl rfl) (is_nl rfl)
       replace o27 := o27.chg C652 (is_nl rfl) (is_nl rfl)
       replace bx43 := bx43.chg ch650 (is_ne rfl)
       exact mid (g637) _ _ ⟨hbase, (by exact zs0_c5), (by exact zs3_c5), (by exact zs4_c5), r_g_v, r_r_v, r_keep_v, r_to_v, o19, o27, bx43, o651⟩
    clear r_g_v r_r_v r_keep_v r_to_v o19 o27 bx43 o_b_0 hbase
    rintro g655 f653 w654 ⟨hbase, zs0_c5, zs3_c5, zs4_c5, r_g_v, r_r_v, r_keep_v, r_to_v, o19, o27, bx43, o611⟩
    refine run_inBlock ?_
    refine back5_c5 ((List.set L1_c5 (Int.toNat (i_c5 : Int)) (gI L1_c5 (i_c5 : Int) ++ [0])), g655) _ _ ⟨hbase, (by exact zs0_c5), (by exact zs3_c5), (by exact zs4_c5), r_g_v, r_r_v, r_keep_v, r_to_v, o19, o27, bx43, o611, ?_⟩ ?_
    · show GrInv (List.set L1_c5 (Int.toNat (i_c5 : Int)) (gI L1_c5 (i_c5 : Int) ++ [0])) L_c5 i_c5 (min (sCap v576 : Int) ((List.length (gI L_c5 (i_c5 : Int)) : Int) + 2000))
      exact hg_c5.next (by assumption) (by assumption) (by omega)
    · show Int.toNat ((min (sCap v576 : Int) ((List.length (gI L_c5 (i_c5 : Int)) : Int) + 2000)) - (List.length (gI (List.set L1_c5 (Int.toNat (i_c5 : Int)) (gI L1_c5 (i_c5 : Int) ++ [0])) (i_c5 : Int)) : Int)) < Int.toNat ((min (sCap v576 : Int) ((List.length (gI L_c5 (i_c5 : Int)) : Int) + 2000)) - (List.length (gI L1_c5 (i_c5 : Int)) : Int))
      (have h1 := hg_c5.meas (by assumption); omega)
   refine run_cond_f rfl (decide_eq_false p5_c5) ?_
   refine run_exit rfl ?_
   refine run_seq ?_
   clear cel586 r587
   refine run_region rfl ?_
   refine lv (Value.int .i64 0) rfl (e_assign rfl) ?_
   refine l_nil ?_
   refine run_block ?_
   refine run_loop (σ := Nat × (List (List Int)) × Cmap) (fun ⟨k_c5, L2_c5, gq⟩ f w => Base w0 gq w ∧ f 0 = Value.pointer (some ⟨b41, 0, none⟩) ∧ f 3 = Value.int .i64 (i_c5 : Int) ∧ f 5 = Value.int .i64 (k_c5 : Int) ∧ Sl gq (is 0) w g_v g.2 ∧ Sl gq (is 0) w r_v r ∧ Sl gq (is 0) w keep_v keep ∧ Sl gq (is 0) w to_v to ∧ Ow gq (is 2) (is 2) w (upV v18) (g.2 ++ [((-7 : Int), (7 : Int))]) ∧ Ow gq (is 3) (is 3) w (upV v26) (TWL r) ∧ Bx gq (is 5) w b41 [b_0_v, Value.int .i64 b_1] ∧ Nst gq 14 w b_0_v L2_c5 ∧ (WrInv L2_c5 L_c5 i_c5 k_c5)) (fun ⟨k_c5, L2_c5, gq⟩ => List.length (gI L2_c5 (i_c5 : Int)) - k_c5) (0, L1_c5, g584) ?_ ?_
   · exact ⟨hbase, (by exact zs0_c5), (by exact zs3_c5), rfl, r_g_v, r_r_v, r_keep_v, r_to_v, o19, o27, bx43, o_b_0, by exact hg_c5.wr⟩
   clear r_g_v r_r_v r_keep_v r_to_v o19 o27 bx43 o_b_0 hbase
   rintro ⟨k_c5, L2_c5, g658⟩ f656 w657 ⟨hbase, zs0_c5, zs3_c5, zs5_c5, r_g_v, r_r_v, r_keep_v, r_to_v, o19, o27, bx43, o_b_0, hw_c5⟩ back8_c5
   have hwl_c5 := hw_c5.len
   have hwle_c5 := hw_c5.le
   have hwf_c5 := hw_c5.few
   refine run_seq (run_seq (run_region rfl ?_))
   refine lv (Value.int .i64 (k_c5 : Int)) rfl (e_move (by exact zs5_c5)) ?_
   refine lv (Value.pointer (some ⟨b41, 0, none⟩)) rfl (e_move (by exact zs0_c5)) ?_
   refine lv (Value.pointer (some ⟨b41, 0, none⟩)) rfl (e_nilCheck rfl) ?_
   refine lv (Value.pointer (some ⟨b41, 0, none⟩)) rfl (e_fieldAddr Try.underlying36 rfl rfl rfl rfl) ?_
   refine lv (b_0_v) rfl (e_load_bx1 tp25_w rfl bx43 rfl) ?_
   refine lv (Value.int .i64 (i_c5 : Int)) rfl (e_move (by exact zs3_c5)) ?_
   refine lv (Value.pointer (some (eAddr b_0_v 1 (Int.toNat (i_c5 : Int))))) rfl (e_indexAddr (α := List Int) (xs := L2_c5) (v := b_0_v) (i := (i_c5 : Int)) Try.underlying25 rfl rfl o_b_0.sl rfl (by omega) (by omega)) ?_
   obtain ⟨v659, cel660, r661⟩ := nst_row (r := (i_c5 : Int)) o_b_0 (by omega) (by omega)
   refine lv (v659) rfl (e_load1 tp27_w rfl cel660) ?_
   have len662 := (r661.row_sl).small
   refine lv (Value.int .i64 (List.length (gI L2_c5 (i_c5 : Int)) : Int)) rfl (e_len Try.underlying27 rfl r661.row_sl) ?_
   refine lv (Value.bool (decide ((k_c5 : Int) < (List.length (gI L2_c5 (i_c5 : Int)) : Int)))) rfl (e_lss (m := (k_c5 : Int)) (n := (List.length (gI L2_c5 (i_c5 : Int)) : Int)) rfl rfl) ?_
   refine l_nil ?_
   by_cases p8_c5 : (k_c5 : Int) < (List.length (gI L2_c5 (i_c5 : Int)) : Int)
   ·
    refine run_cond_t rfl (decide_eq_true p8_c5) ?_
    refine run_skip ?_
    refine run_seq ?_
    refine run_block ?_
    clear cel660 r661
    refine run_region rfl ?_
    refine lv (Value.pointer (some ⟨b41, 0, none⟩)) rfl (e_move (by exact zs0_c5)) ?_
    refine lv (Value.pointer (some ⟨b41, 0, none⟩)) rfl (e_nilCheck rfl) ?_
    refine lv (Value.pointer (some ⟨b41, 0, none⟩)) rfl (e_fieldAddr Try.underlying36 rfl rfl rfl rfl) ?_
    refine lv (b_0_v) rfl (e_load_bx1 tp25_w rfl bx43 rfl) ?_
    refine lv (Value.int .i64 (i_c5 : Int)) rfl (e_move (by exact zs3_c5)) ?_
    refine lv (Value.pointer (some (eAddr b_0_v 1 (Int.toNat (i_c5 : Int))))) rfl (e_indexAddr (α := List Int) (xs := L2_c5) (v := b_0_v) (i := (i_c5 : Int)) Try.underlying25 rfl rfl o_b_0.sl rfl (by omega) (by omega)) ?_
    obtain ⟨v663, cel664, r665⟩ := nst_row (r := (i_c5 : Int)) o_b_0 (by omega) (by omega)
    refine lv (v663) rfl (e_load1 tp27_w rfl cel664) ?_
    refine lv (Value.int .i64 (k_c5 : Int)) rfl (e_move (by exact zs5_c5)) ?_
    refine lv (Value.int .i64 (i_c5 : Int)) rfl (e_move (by exact zs3_c5)) ?_
    refine lv (Value.int .i64 ((-1000) - (i_c5 : Int))) rfl (e_sub (m := -1000) (n := (i_c5 : Int)) rfl rfl (by omega)) ?_
    refine lv (Value.pointer (some (eAddr v663 1 (Int.toNat (k_c5 : Int))))) rfl (e_indexAddr (α := Int) (xs := gI L2_c5 (i_c5 : Int)) (v := v663) (i := (k_c5 : Int)) Try.underlying27 rfl rfl r665.row_sl rfl (by omega) (by omega)) ?_
    refine l_op rfl ?_
    refine o_store_el (i := (k_c5 : Int)) ((-1000) - (i_c5 : Int)) tp3_w rfl rfl r665 (by omega) (by omega) rfl ?_
    intro w669 ch670 r671
    obtain ⟨o672, cel673⟩ := nst_el (r := (i_c5 : Int)) o_b_0 (by omega) (by omega) ch670 cel664 r671
    clear o_b_0 cel664 r665
    refine l_nil ?_
    refine run_inBlock ?_
    clear cel673 r671
    refine run_region rfl ?_
    refine lv (Value.int .i64 (k_c5 : Int)) rfl (e_move (by exact zs5_c5)) ?_
    refine lv (Value.int .i64 ((k_c5 : Int) + 1)) rfl (e_add (m := (k_c5 : Int)) (n := 1) rfl rfl (by omega)) ?_
    refine lv (Value.int .i64 ((k_c5 : Int) + 1)) rfl (e_assign rfl) ?_
    refine l_nil ?_
    replace hbase := hbase.chg ch670 (is_row rfl)
    replace r_g_v := r_g_v.chg ch670 (is_row rfl)
    replace r_r_v := r_r_v.chg ch670 (is_row rfl)
    replace r_keep_v := r_keep_v.chg ch670 (is_row rfl)
    replace r_to_v := r_to_v.chg ch670 (is_row rfl)
    replace o19 := o19.chg ch670 (is_row rfl) (is_row rfl)
    replace o27 := o27.chg ch670 (is_row rfl) (is_row rfl)
    replace bx43 := bx43.chg ch670 (is_row rfl)
    refine back8_c5 (k_c5 + 1, (List.set L2_c5 (Int.toNat (i_c5 : Int)) (List.set (gI L2_c5 (i_c5 : Int)) (Int.toNat (k_c5 : Int)) ((-1000) - (i_c5 : Int)))), g658) _ _ ⟨hbase, (by exact zs0_c5), (by exact zs3_c5), rfl, r_g_v, r_r_v, r_keep_v, r_to_v, o19, o27, bx43, o672, ?_⟩ ?_
    · show WrInv (List.set L2_c5 (Int.toNat (i_c5 : Int)) (List.set (gI L2_c5 (i_c5 : Int)) (Int.toNat (k_c5 : Int)) ((-1000) - (i_c5 : Int)))) L_c5 i_c5 (k_c5 + 1)
      exact (hw_c5.next (by assumption) (by assumption)).1
    · show List.length (gI (List.set L2_c5 (Int.toNat (i_c5 : Int)) (List.set (gI L2_c5 (i_c5 : Int)) (Int.toNat (k_c5 : Int)) ((-1000) - (i_c5 : Int)))) (i_c5 : Int)) - (k_c5 + 1) < List.length (gI L2_c5 (i_c5 : Int)) - k_c5
      (have h1 := (hw_c5.next (by assumption) (by assumption)).2; omega)
   refine run_cond_f rfl (decide_eq_false p8_c5) ?_
   refine run_exit rfl ?_
   refine run_inBlock ?_
   clear cel660 r661
   refine run_region rfl ?_
   refine lv (Value.int .i64 (i_c5 : Int)) rfl (e_move (by exact zs3_c5)) ?_
   refine lv (Value.int .i64 ((i_c5 : Int) + 1)) rfl (e_add (m := (i_c5 : Int)) (n := 1) rfl rfl (by omega)) ?_
   refine lv (Value.int .i64 ((i_c5 : Int) + 1)) rfl (e_assign rfl) ?_
   refine l_nil ?_
   refine back2_c5 (i_c5 + 1, L2_c5, g658) _ _ ⟨hbase, (by exact zs0_c5), rfl, r_g_v, r_r_v, r_keep_v, r_to_v, o19, o27, bx43, o_b_0, ?_⟩ ?_
   · show ApInv L2_c5 (i_c5 + 1)
     exact hw_c5.fin ha_c5 (by assumption) (by assumption)
   · show List.length L2_c5 - (i_c5 + 1) < List.length L_c5 - i_c5
     (have h1 := hw_c5.len; omega)
  refine run_cond_f rfl (decide_eq_false p2_c5) ?_
  refine run_exit rfl ?_
  refine run_seq (run_seq (run_region rfl ?_))
  refine lv (Value.int .i64 0) rfl (e_assign rfl) ?_
  refine l_nil ?_
  refine run_block ?_
  refine run_loop (σ := Nat × Cmap) (fun ⟨m_c5, gq⟩ f w => Base w0 gq w ∧ f 0 = Value.pointer (some ⟨b41, 0, none⟩) ∧ f 6 = Value.int .i64 (m_c5 : Int) ∧ Sl gq (is 0) w g_v g.2 ∧ Sl gq (is 0) w r_v r ∧ Sl gq (is 0) w keep_v keep ∧ Sl gq (is 0) w to_v to ∧ Ow gq (is 2) (is 2) w (upV v18) (g.2 ++ [((-7 : Int), (7 : Int))]) ∧ Ow gq (is 3) (is 3) w (upV v26) (TWL r) ∧ Bx gq (is 5) w b41 [b_0_v, Value.int .i64 b_1] ∧ Nst gq 14 w b_0_v L_c5 ∧ (m_c5 : Int) ≤ ((List.length L_c5 : Int) : Int) ∧ (True)) (fun ⟨m_c5, gq⟩ => Int.toNat (((List.length L_c5 : Int) : Int) - (m_c5 : Int))) (0, g568) ?_ ?_
  · exact ⟨hbase, (by exact zs0_c5), rfl, r_g_v, r_r_v, r_keep_v, r_to_v, o19, o27, bx43, o_b_0, by omega, by trivial⟩
  clear r_g_v r_r_v r_keep_v r_to_v o19 o27 bx43 o_b_0 hbase
  rintro ⟨m_c5, g676⟩ f674 w675 ⟨hbase, zs0_c5, zs6_c5, r_g_v, r_r_v, r_keep_v, r_to_v, o19, o27, bx43, o_b_0, hle_m_c5, hinv12_c5⟩ back12_c5
  refine run_seq (run_seq (run_region rfl ?_))
  refine lv (Value.int .i64 (m_c5 : Int)) rfl (e_move (by exact zs6_c5)) ?_
  refine lv (Value.pointer (some ⟨b41, 0, none⟩)) rfl (e_move (by exact zs0_c5)) ?_
  refine lv (Value.pointer (some ⟨b41, 0, none⟩)) rfl (e_nilCheck rfl) ?_
  refine lv (Value.pointer (some ⟨b41, 0, none⟩)) rfl (e_fieldAddr Try.underlying36 rfl rfl rfl rfl) ?_
  refine lv (b_0_v) rfl (e_load_bx1 tp25_w rfl bx43 rfl) ?_
  refine lv (Value.int .i64 (List.length L_c5 : Int)) rfl (e_len Try.underlying25 rfl o_b_0.sl) ?_
  refine lv (Value.bool (decide ((m_c5 : Int) < (List.length L_c5 : Int)))) rfl (e_lss (m := (m_c5 : Int)) (n := (List.length L_c5 : Int)) rfl rfl) ?_
  refine l_nil ?_
  by_cases p12_c5 : (m_c5 : Int) < (List.length L_c5 : Int)
  ·
   refine run_cond_t rfl (decide_eq_true p12_c5) ?_
   refine run_skip ?_
   refine run_seq ?_
   refine run_block ?_
   refine run_seq (run_region rfl ?_)
   refine lv (Value.int .i64 0) rfl (e_assign rfl) ?_
   refine l_nil ?_
   refine run_block ?_
   refine run_loop (σ := Nat × Cmap) (fun ⟨n_c5, gq⟩ f w => Base w0 gq w ∧ f 0 = Value.pointer (some ⟨b41, 0, none⟩) ∧ f 6 = Value.int .i64 (m_c5 : Int) ∧ f 7 = Value.int .i64 (n_c5 : Int) ∧ Sl gq (is 0) w g_v g.2 ∧ Sl gq (is 0) w r_v r ∧ Sl gq (is 0) w keep_v keep ∧ Sl gq (is 0) w to_v to ∧ Ow gq (is 2) (is 2) w (upV v18) (g.2 ++ [((-7 : Int), (7 : Int))]) ∧ Ow gq (is 3) (is 3) w (upV v26) (TWL r) ∧ Bx gq (is 5) w b41 [b_0_v, Value.int .i64 b_1] ∧ Nst gq 14 w b_0_v L_c5 ∧ (n_c5 : Int) ≤ ((List.length (gI L_c5 (m_c5 : Int)) : Int) : Int) ∧ (True)) (fun ⟨n_c5, gq⟩ => Int.toNat (((List.length (gI L_c5 (m_c5 : Int)) : Int) : Int) - (n_c5 : Int))) (0, g676) ?_ ?_
   · exact ⟨hbase, (by exact zs0_c5), (by exact zs6_c5), rfl, r_g_v, r_r_v, r_keep_v, r_to_v, o19, o27, bx43, o_b_0, by omega, by trivial⟩
   clear r_g_v r_r_v r_keep_v r_to_v o19 o27 bx43 o_b_0 hbase
   rintro ⟨n_c5, g679⟩ f677 w678 ⟨hbase, zs0_c5, zs6_c5, zs7_c5, r_g_v, r_r_v, r_keep_v, r_to_v, o19, o27, bx43, o_b_0, hle_n_c5, hinv15_c5⟩ back15_c5
   refine run_seq (run_seq (run_region rfl ?_))
   refine lv (Value.int .i64 (n_c5 : Int)) rfl (e_move (by exact zs7_c5)) ?_
   refine lv (Value.pointer (some ⟨b41, 0, none⟩)) rfl (e_move (by exact zs0_c5)) ?_
   refine lv (Value.pointer (some ⟨b41, 0, none⟩)) rfl (e_nilCheck rfl) ?_
   refine lv (Value.pointer (some ⟨b41, 0, none⟩)) rfl (e_fieldAddr Try.underlying36 rfl rfl rfl rfl) ?_
   refine lv (b_0_v) rfl (e_load_bx1 tp25_w rfl bx43 rfl) ?_
   refine lv (Value.int .i64 (m_c5 : Int)) rfl (e_move (by exact zs6_c5)) ?_
   refine lv (Value.pointer (some (eAddr b_0_v 1 (Int.toNat (m_c5 : Int))))) rfl (e_indexAddr (α := List Int) (xs := L_c5) (v := b_0_v) (i := (m_c5 : Int)) Try.underlying25 rfl rfl o_b_0.sl rfl (by omega) (by omega)) ?_
   obtain ⟨v680, cel681, r682⟩ := nst_row (r := (m_c5 : Int)) o_b_0 (by omega) (by omega)
   refine lv (v680) rfl (e_load1 tp27_w rfl cel681) ?_
   have len683 := (r682.row_sl).small
   refine lv (Value.int .i64 (List.length (gI L_c5 (m_c5 : Int)) : Int)) rfl (e_len Try.underlying27 rfl r682.row_sl) ?_
   refine lv (Value.bool (decide ((n_c5 : Int) < (List.length (gI L_c5 (m_c5 : Int)) : Int)))) rfl (e_lss (m := (n_c5 : Int)) (n := (List.length (gI L_c5 (m_c5 : Int)) : Int)) rfl rfl) ?_
   refine l_nil ?_
   by_cases p15_c5 : (n_c5 : Int) < (List.length (gI L_c5 (m_c5 : Int)) : Int)
   ·
    refine run_cond_t rfl (decide_eq_true p15_c5) ?_
    refine run_skip ?_
    refine run_seq ?_
    refine run_block ?_
    refine run_seq ?_
    clear cel681 r682
    refine run_region rfl ?_
    refine lv (Value.pointer (some ⟨b41, 0, none⟩)) rfl (e_move (by exact zs0_c5)) ?_
    refine lv (Value.pointer (some ⟨b41, 0, none⟩)) rfl (e_nilCheck rfl) ?_
    refine lv (Value.pointer (some ⟨b41, 0, none⟩)) rfl (e_fieldAddr Try.underlying36 rfl rfl rfl rfl) ?_
    refine lv (b_0_v) rfl (e_load_bx1 tp25_w rfl bx43 rfl) ?_
    refine lv (Value.int .i64 (m_c5 : Int)) rfl (e_move (by exact zs6_c5)) ?_
    refine lv (Value.pointer (some (eAddr b_0_v 1 (Int.toNat (m_c5 : Int))))) rfl (e_indexAddr (α := List Int) (xs := L_c5) (v := b_0_v) (i := (m_c5 : Int)) Try.underlying25 rfl rfl o_b_0.sl rfl (by omega) (by omega)) ?_
    obtain ⟨v684, cel685, r686⟩ := nst_row (r := (m_c5 : Int)) o_b_0 (by omega) (by omega)
    refine lv (v684) rfl (e_load1 tp27_w rfl cel685) ?_
    refine lv (Value.int .i64 (n_c5 : Int)) rfl (e_move (by exact zs7_c5)) ?_
    refine lv (Value.pointer (some (eAddr v684 1 (Int.toNat (n_c5 : Int))))) rfl (e_indexAddr (α := Int) (xs := gI L_c5 (m_c5 : Int)) (v := v684) (i := (n_c5 : Int)) Try.underlying27 rfl rfl r686.row_sl rfl (by omega) (by omega)) ?_
    refine lv (Value.int .i64 (gI (gI L_c5 (m_c5 : Int)) (n_c5 : Int))) rfl (e_load_el1 (α := Int) (xs := gI L_c5 (m_c5 : Int)) (v := v684) (i := (n_c5 : Int)) tp3_w rfl r686.row_sl (by omega) (by omega) (by decide) rfl) ?_
    refine lv (Value.int .i64 (m_c5 : Int)) rfl (e_move (by exact zs6_c5)) ?_
    refine lv (Value.int .i64 ((-1000) - (m_c5 : Int))) rfl (e_sub (m := -1000) (n := (m_c5 : Int)) rfl rfl (by omega)) ?_
    refine lv (Value.bool (!(decide ((gI (gI L_c5 (m_c5 : Int)) (n_c5 : Int)) = ((-1000) - (m_c5 : Int)))))) rfl (e_neq (m := (gI (gI L_c5 (m_c5 : Int)) (n_c5 : Int))) (n := (-1000) - (m_c5 : Int)) rfl rfl) ?_
    refine l_nil ?_
    have p17_c5 : (gI (gI L_c5 (m_c5 : Int)) (n_c5 : Int)) = ((-1000) - (m_c5 : Int)) := by exact ha_c5.read (by omega) (by assumption) (by assumption)
    refine run_cond_f rfl (congrArg Bool.not (decide_eq_true p17_c5)) ?_
    refine run_skip ?_
    refine run_inBlock ?_
    clear cel685 r686
    refine run_region rfl ?_
    refine lv (Value.int .i64 (n_c5 : Int)) rfl (e_move (by exact zs7_c5)) ?_
    refine lv (Value.int .i64 ((n_c5 : Int) + 1)) rfl (e_add (m := (n_c5 : Int)) (n := 1) rfl rfl (by omega)) ?_
    refine lv (Value.int .i64 ((n_c5 : Int) + 1)) rfl (e_assign rfl) ?_
    refine l_nil ?_
    refine back15_c5 (n_c5 + 1, g679) _ _ ⟨hbase, (by exact zs0_c5), (by exact zs6_c5), rfl, r_g_v, r_r_v, r_keep_v, r_to_v, o19, o27, bx43, o_b_0, by omega, ?_⟩ ?_
    · show True
      trivial
    · show Int.toNat (((List.length (gI L_c5 (m_c5 : Int)) : Int) : Int) - ((n_c5 + 1) : Int)) < Int.toNat (((List.length (gI L_c5 (m_c5 : Int)) : Int) : Int) - (n_c5 : Int))
      omega
   refine run_cond_f rfl (decide_eq_false p15_c5) ?_
   refine run_exit rfl ?_
   refine run_inBlock ?_
   clear cel681 r682
   refine run_region rfl ?_
   refine lv (Value.int .i64 (m_c5 : Int)) rfl (e_move (by exact zs6_c5)) ?_
   refine lv (Value.int .i64 ((m_c5 : Int) + 1)) rfl (e_add (m := (m_c5 : Int)) (n := 1) rfl rfl (by omega)) ?_
   refine lv (Value.int .i64 ((m_c5 : Int) + 1)) rfl (e_assign rfl) ?_
   refine l_nil ?_
   refine back12_c5 (m_c5 + 1, g679) _ _ ⟨hbase, (by exact zs0_c5), rfl, r_g_v, r_r_v, r_keep_v, r_to_v, o19, o27, bx43, o_b_0, by omega, ?_⟩ ?_
   · show True
     trivial
   · show Int.toNat (((List.length L_c5 : Int) : Int) - ((m_c5 + 1) : Int)) < Int.toNat (((List.length L_c5 : Int) : Int) - (m_c5 : Int))
     omega
  refine run_cond_f rfl (decide_eq_false p12_c5) ?_
  refine run_exit rfl ?_
  refine run_seq (run_region rfl ?_)
  refine lv (Value.bool true) rfl (e_assign rfl) ?_
  refine l_nil ?_
  refine run_ret (vs := [Value.bool true]) Try.func20 (.tmp rfl .nil) ?_
  refine ⟨Value.bool true, rfl, ?_⟩
  refine lv (Value.bool true) rfl (e_assign rfl) ?_
  refine l_nil ?_
  refine run_ret (vs := [Value.bool true]) Try.func3 (.tmp rfl .nil) ?_
  have e0 : (true : Bool) = (true) := by
    first | rfl | assumption | omega
  exact ⟨(congrArg (a₁ := true) (fun (z0 : Bool) => Ending.returned (Value.bool z0)) e0), hbase.below⟩
 refine l_skip (want_n rfl rfl rfl (congrArg Bool.not (Bool.eq_false_iff.2 q20))) ?_
 refine l_skip (want_n rfl rfl rfl (congrArg Bool.not (Bool.eq_false_iff.2 q20))) ?_
 refine l_skip (want_n rfl rfl rfl (congrArg Bool.not (Bool.eq_false_iff.2 q20))) ?_
 refine l_skip (want_n rfl rfl rfl (congrArg Bool.not (Bool.eq_false_iff.2 q20))) ?_
 refine l_skip (want_n rfl rfl rfl (congrArg Bool.not (Bool.eq_false_iff.2 q20))) ?_
 refine l_skip (want_n rfl rfl rfl (congrArg Bool.not (Bool.eq_false_iff.2 q20))) ?_
 refine lv (Value.bool true) rfl (e_pick_t rfl (congrArg Bool.not (Bool.eq_false_iff.2 q20)) rfl) ?_
 refine l_nil ?_
 refine run_cond_t rfl rfl ?_
 refine run_seq ?_
 clear bx5
 refine run_region rfl ?_
 refine lv (Value.bool true) rfl (e_assign rfl) ?_
 refine l_nil ?_
 refine run_ret (vs := [Value.bool true]) Try.func3 (.tmp rfl .nil) ?_
 have e0 : (true : Bool) = (true) := by
   first | rfl | assumption | omega
 have C687 : Chg (inl []) _ _ _ _ := (ch2.n).seq ((hb7.n).seq (hb9.n))
 replace hbase := hbase.chg C687 (is_nl rfl)
 exact ⟨(congrArg (a₁ := true) (fun (z0 : Bool) => Ending.returned (Value.bool z0)) e0), hbase.below⟩
end TL
