import Derived.Test.YtilohhkbelkmdaaTlGenA
import Derived.Test.YtilohhkbelkmdaaTlGenC
import Derived.Test.YtilohhkbelkmdaaTlGenD
import Derived.Test.YtilohhkbelkmdaaTlGenX
import Derived.Test.YtilohhkbelkmdaaTlGenY
import Derived.Test.YtilohhkbelkmdaaTlGenZ
import Derived.Test.YtilohhkbelkmdaaTlGenV
import Derived.Test.YtilohhkbelkmdaaTlGenI
import Derived.Test.YtilohhkbelkmdaaTlGenJ
import Derived.Test.YtilohhkbelkmdaaTlGenO
import Derived.Test.YtilohhkbelkmdaaTlGenK
import Derived.Test.YtilohhkbelkmdaaTlKeepA
import Derived.Test.YtilohhkbelkmdaaTlTwinA
import Derived.Test.YtilohhkbelkmdaaTlP2
import Derived.Test.YtilohhkbelkmdaaProg
set_option linter.all false
set_option maxRecDepth 20000
namespace TL
open Go Go.Proofs
theorem tp3_wb : Tp Try.prog 3 false 1 8 (.int .i64 0) := Tp.of (by kernel_rfl)
theorem tp24_wb : Tp Try.prog 24 true 2 32 (.agg #[.int .i64 0, .slice none 0 0]) := Tp.of (by kernel_rfl)
theorem bd33_wb : Try.f33.body.isNone = false := rfl
theorem nm33_wb : (Try.f33.name == "runtime.NumGoroutine") = false := by decide +kernel
theorem bd37_wb : Try.f37.body.isNone = false := rfl
theorem nm37_wb : (Try.f37.name == "runtime.NumGoroutine") = false := by decide +kernel
theorem bd57_wb : Try.f57.body.isNone = false := rfl
theorem nm57_wb : (Try.f57.name == "runtime.NumGoroutine") = false := by decide +kernel
theorem bd61_wb : Try.f61.body.isNone = false := rfl
theorem nm61_wb : (Try.f61.name == "runtime.NumGoroutine") = false := by decide +kernel
theorem bd62_wb : Try.f62.body.isNone = false := rfl
theorem nm62_wb : (Try.f62.name == "runtime.NumGoroutine") = false := by decide +kernel
theorem bd63_wb : Try.f63.body.isNone = false := rfl
theorem nm63_wb : (Try.f63.name == "runtime.NumGoroutine") = false := by decide +kernel
theorem bd64_wb : Try.f64.body.isNone = false := rfl
theorem nm64_wb : (Try.f64.name == "runtime.NumGoroutine") = false := by decide +kernel
set_option maxHeartbeats 16000000 in
theorem RotAll_ok_made {g : (Int) × (List ((Int) × (Int)))} {v18 : Value} {v26 : Value} {g_v : Value} {r_v : Value} {keep_v : Value} {to_v : Value} {r : List (List Int)} {b41 : Nat} {w0 : World} {keep : List Int} {to : List Int} {b3 : Nat} {b33 : Nat} {g424 : Cmap} {w423 : World} {b_0_c1_v : Value} {b_1_c1 : Int} {b_0_c1 : List (List Int)} (hbase : Base w0 g424 w423) (r_g_v : Sl g424 (is 0) w423 g_v g.2) (r_r_v : Sl g424 (is 0) w423 r_v r) (r_keep_v : Sl g424 (is 0) w423 keep_v keep) (r_to_v : Sl g424 (is 0) w423 to_v to) (bx5 : Bx g424 (is 1) w423 b3 [Value.int .i64 g.1, g_v]) (o19 : Ow g424 (is 2) (is 2) w423 (upV v18) (g.2 ++ [((-7 : Int), (7 : Int))])) (r22 : Sl g424 (is 2) w423 v18 g.2) (o27 : Ow g424 (is 3) (is 3) w423 (upV v26) (TWL r)) (r30 : Sl g424 (is 3) w423 v26 r) (bx38 : Bx g424 (is 4) w423 b33 [Value.int .i64 g.1, v18]) (bx43 : Bx g424 (is 5) w423 b41 [b_0_c1_v, Value.int .i64 b_1_c1]) (o_b_0_c1 : Nst g424 14 w423 b_0_c1_v b_0_c1) (hr1000 : r.length ≤ 1000) (hbig : (r.length : Int) ≤ 1048576 ∧ ∀ l_ ∈ r, l_.length ≤ 1048576) (HJ : KInv b_0_c1 b_1_c1) :
    Calls Try.prog 17 (List.toArray [Value.agg (List.toArray [Value.int .i64 g.1, v18]), v26, Value.agg (List.toArray [Value.int .i64 g.1, g_v]), r_v, keep_v, to_v, Value.int .i64 (rmayR g r), Value.pointer (some ⟨b41, 0, none⟩)]) w423 (fun ee w => ∃ xx : Value × (List (List Int)) × Int × Cmap, ee = .returned ((fun ⟨b_0_c4_v, b_0_c4, b_1_c4, gq⟩ => Value.bool true) xx) ∧ (fun (⟨b_0_c4_v, b_0_c4, b_1_c4, gq⟩ : Value × (List (List Int)) × Int × Cmap) (w : World) => Base w0 gq w ∧ Sl gq (is 0) w g_v g.2 ∧ Sl gq (is 0) w r_v r ∧ Sl gq (is 0) w keep_v keep ∧ Sl gq (is 0) w to_v to ∧ Bx gq (is 1) w b3 [Value.int .i64 g.1, g_v] ∧ Ow gq (is 2) (is 2) w (upV v18) (g.2 ++ [((-7 : Int), (7 : Int))]) ∧ Sl gq (is 2) w v18 g.2 ∧ Ow gq (is 3) (is 3) w (upV v26) (TWL r) ∧ Sl gq (is 3) w v26 r ∧ Bx gq (is 4) w b33 [Value.int .i64 g.1, v18] ∧ Bx gq (is 5) w b41 [b_0_c4_v, Value.int .i64 b_1_c4] ∧ Nst gq 14 w b_0_c4_v b_0_c4 ∧ (KInv b_0_c4 b_1_c4)) xx w) := by
 refine calls_of_run Try.func17 rfl (Nat.le_of_ble_eq_true rfl) ?_
 obtain ⟨hka, hkb, hkc⟩ := HJ.len
 obtain ⟨hls, hlm⟩ := m9_len (g := g) (keep := keep) (to := to) hr1000
 refine run_seq ?_
 refine run_region rfl ?_
 refine l_op rfl ?_
 refine o_box g424 (is 36) (36, 0) rfl rfl ?_
 intro g428 w425 b427 ch426 bx429
 replace bx429 : Bx g428 (is 36) w425 b427 [Value.int .i64 g.1, v18] := bx429
 refine l_op rfl ?_
 refine o_box g428 (is 37) (37, 0) rfl rfl ?_
 intro g433 w430 b432 ch431 bx434
 replace bx434 : Bx g433 (is 37) w430 b432 [Value.int .i64 g.1, g_v] := bx434
 refine lv (Value.bool false) rfl (e_assign rfl) ?_
 refine l_nil ?_
 refine run_seq ?_
 refine run_region rfl ?_
 replace bx429 := bx429.chg ch431 (not_no _)
 refine lv (Value.agg (List.toArray [Value.int .i64 g.1, v18])) rfl (e_load_bxN (ds := [Value.int .i64 g.1, v18]) tp24_wb rfl bx429 rfl rfl) ?_
 refine lv (v26) rfl (e_move rfl) ?_
 refine lv (keep_v) rfl (e_move rfl) ?_
 replace r22 := (r22.chg ch426 (not_no _)).chg ch431 (not_no _)
 replace r30 := (r30.chg ch426 (not_no _)).chg ch431 (not_no _)
 replace r_keep_v := (r_keep_v.chg ch426 (not_no _)).chg ch431 (not_no _)
 refine l_op rfl ?_
 refine o_callx (e_call (vals := [Value.agg (List.toArray [Value.int .i64 g.1, v18]), v26, keep_v]) Try.func61 bd61_wb nm61_wb rfl) (RSub_ok w430 g v18 (r22).ro r v26 (r30).ro keep keep_v (r_keep_v).ro) ?_
 rintro ⟨d436, v438, v440⟩ w435 ⟨fr437, o439, o441⟩
 obtain ⟨g442, hg442⟩ : ∃ q, q = glue w430.heap.size g433 d436 (fun n => if n = 1 then 38 else if n = 2 then 39 else 0) := ⟨_, rfl⟩
 have ch443 := chg_glue fr437.below g433 d436 (fun n => if n = 1 then 38 else if n = 2 then 39 else 0)
 rw [← hg442] at ch443
 replace o439 := o439.glue (γ := g433) (ren := (fun n => if n = 1 then 38 else if n = 2 then 39 else 0)) (k := 38) fr437.col rfl rfl
 rw [← hg442] at o439
 replace o441 := o441.glue (γ := g433) (ren := (fun n => if n = 1 then 38 else if n = 2 then 39 else 0)) (k := 39) fr437.col rfl rfl
 rw [← hg442] at o441
 clear hg442
 refine lv (Value.tuple (List.toArray [Value.agg (List.toArray [Value.int .i64 (((rsubR g r keep).1).1), v438]), v440, Value.int .i64 ((rsubR g r keep).2.2)])) rfl (e_move rfl) ?_
 refine lv (Value.agg (List.toArray [Value.int .i64 (((rsubR g r keep).1).1), v438])) rfl (e_extract rfl rfl) ?_
 refine lv (v440) rfl (e_extract rfl rfl) ?_
 refine lv (Value.int .i64 ((rsubR g r keep).2.2)) rfl (e_extract rfl rfl) ?_
 refine l_op rfl ?_
 refine o_alloc g442 (is 40) (40, 0) rfl tp24_wb ?_
 intro g447 w444 b446 ch445 bx448
 replace bx448 : Bx g447 (is 40) w444 b446 [Value.int .i64 0, Value.slice none 0 0] := bx448
 refine l_op rfl ?_
 replace o439 := o439.chg ch445 (not_no _) (not_no _)
 refine o_store_bx (cs' := [Value.int .i64 (((rsubR g r keep).1).1), v438]) tp24_wb rfl rfl bx448 rfl (Nat.le_of_ble_eq_true rfl) (AllOne.all (.cons rfl (.cons (sl_one o439.flat) .nil))) rfl ?_
 intro w449 ch450 bx451
 clear bx448
 refine lv (v440) rfl (e_assign rfl) ?_
 refine lv (Value.int .i64 ((rsubR g r keep).2.2)) rfl (e_assign rfl) ?_
 refine l_nil ?_
 refine run_seq ?_
 refine run_region rfl ?_
 have C452 : Chg (inl [40]) _ _ _ _ := (ch443.n).seq ((ch445.n).seq (ch450.l rfl))
 replace bx429 := bx429.chg C452 (is_nl rfl)
 refine lv (Value.agg (List.toArray [Value.int .i64 g.1, v18])) rfl (e_load_bxN (ds := [Value.int .i64 g.1, v18]) tp24_wb rfl bx429 rfl rfl) ?_
 refine lv (v26) rfl (e_move rfl) ?_
 refine lv (to_v) rfl (e_move rfl) ?_
 replace r22 := r22.chg C452 (is_nl rfl)
 replace r30 := r30.chg C452 (is_nl rfl)
 have C453 : Chg (inl [40]) _ _ _ _ := (ch426.n).seq ((ch431.n).seq ((ch443.n).seq ((ch445.n).seq (ch450.l rfl))))
 replace r_to_v := r_to_v.chg C453 (is_nl rfl)
 refine l_op rfl ?_
 refine o_callx (e_call (vals := [Value.agg (List.toArray [Value.int .i64 g.1, v18]), v26, to_v]) Try.func62 bd62_wb nm62_wb rfl) (RMoved_ok w449 g v18 (r22).ro r v26 (r30).ro to to_v (r_to_v).ro) ?_
 rintro ⟨d455, v457, v459⟩ w454 ⟨fr456, o458, o460⟩
 obtain ⟨g461, hg461⟩ : ∃ q, q = glue w449.heap.size g447 d455 (fun n => if n = 1 then 41 else if n = 2 then 42 else 0) := ⟨_, rfl⟩
 have ch462 := chg_glue fr456.below g447 d455 (fun n => if n = 1 then 41 else if n = 2 then 42 else 0)
 rw [← hg461] at ch462
 replace o458 := o458.glue (γ := g447) (ren := (fun n => if n = 1 then 41 else if n = 2 then 42 else 0)) (k := 41) fr456.col rfl rfl
 rw [← hg461] at o458
 replace o460 := o460.glue (γ := g447) (ren := (fun n => if n = 1 then 41 else if n = 2 then 42 else 0)) (k := 42) fr456.col rfl rfl
 rw [← hg461] at o460
 clear hg461
 refine lv (Value.tuple (List.toArray [Value.agg (List.toArray [Value.int .i64 (((rmovedR g r to).1).1), v457]), v459, Value.int .i64 ((rmovedR g r to).2.2)])) rfl (e_move rfl) ?_
 refine lv (Value.agg (List.toArray [Value.int .i64 (((rmovedR g r to).1).1), v457])) rfl (e_extract rfl rfl) ?_
 refine lv (v459) rfl (e_extract rfl rfl) ?_
 refine lv (Value.int .i64 ((rmovedR g r to).2.2)) rfl (e_extract rfl rfl) ?_
 refine l_op rfl ?_
 refine o_alloc g461 (is 43) (43, 0) rfl tp24_wb ?_
 intro g466 w463 b465 ch464 bx467
 replace bx467 : Bx g466 (is 43) w463 b465 [Value.int .i64 0, Value.slice none 0 0] := bx467
 refine l_op rfl ?_
 replace o458 := o458.chg ch464 (not_no _) (not_no _)
 refine o_store_bx (cs' := [Value.int .i64 (((rmovedR g r to).1).1), v457]) tp24_wb rfl rfl bx467 rfl (Nat.le_of_ble_eq_true rfl) (AllOne.all (.cons rfl (.cons (sl_one o458.flat) .nil))) rfl ?_
 intro w468 ch469 bx470
 clear bx467
 refine lv (v459) rfl (e_assign rfl) ?_
 refine lv (Value.int .i64 ((rmovedR g r to).2.2)) rfl (e_assign rfl) ?_
 refine l_nil ?_
 refine run_seq ?_
 clear bx429
 refine run_region rfl ?_
 refine lv (Value.pointer (some ⟨b41, 0, none⟩)) rfl (e_move rfl) ?_
 refine lv (v440) rfl (e_move rfl) ?_
 refine l_op rfl ?_
 have C471 : Chg (inl [40, 43]) _ _ _ _ := (ch426.n).seq ((ch431.n).seq ((ch443.n).seq ((ch445.n).seq ((ch450.l rfl).seq ((ch462.n).seq ((ch464.n).seq (ch469.l rfl)))))))
 replace o_b_0_c1 := o_b_0_c1.chg C471 (is_nl rfl)
 replace bx43 := bx43.chg C471 (is_nl rfl)
 have C472 : Chg (inl [40, 43]) _ _ _ _ := (ch445.n).seq ((ch450.l rfl).seq ((ch462.n).seq ((ch464.n).seq (ch469.l rfl))))
 replace o441 := o441.chg C472 (is_nl rfl)
 refine o_callx (σ := Value × List (List Int) × Int × Cmap) (V := fun _ => Value.tuple (List.toArray [])) (e_call (vals := [Value.pointer (some ⟨b41, 0, none⟩), v440]) Try.func37 bd37_wb nm37_wb rfl) (KeepAll_lift (γ := g466) (q := 5) (i := 14) (k := 39) (K := b_0_c1) (s := b_1_c1) bx43 o_b_0_c1 o441 (by first | assumption | exact KInv.nil) (by omega) rfl rfl rfl) ?_
 rintro ⟨v473, K474, s475, g476⟩ w477 ⟨ch478, o479, o480, hj481, r482⟩
 replace ch478 : Chg (j3 5 14 39) g466 w468 g476 w477 := ch478
 replace o479 : Bx g476 (is 5) w477 b41 [v473, Value.int .i64 s475] := o479
 replace o480 : Nst g476 14 w477 v473 K474 := o480
 replace hj481 : KInv K474 s475 := hj481
 replace r482 : Sl g476 (isr 39 14) w477 v440 ((rsubR g r keep).2.1) := r482
 obtain ⟨hj481a, hj481b, hj481c⟩ := hj481.len
 clear bx43 o_b_0_c1 o441
 refine l_nil ?_
 refine run_seq ?_
 refine run_region rfl ?_
 refine lv (Value.pointer (some ⟨b41, 0, none⟩)) rfl (e_move rfl) ?_
 refine lv (v459) rfl (e_move rfl) ?_
 refine l_op rfl ?_
 have C483 : Chg (inl [5, 14, 39, 43]) _ _ _ _ := (ch464.n).seq ((ch469.l rfl).seq (ch478.l3 rfl rfl rfl))
 replace o460 := o460.chg C483 (is_nl rfl)
 refine o_callx (σ := Value × List (List Int) × Int × Cmap) (V := fun _ => Value.tuple (List.toArray [])) (e_call (vals := [Value.pointer (some ⟨b41, 0, none⟩), v459]) Try.func37 bd37_wb nm37_wb rfl) (KeepAll_lift (γ := g476) (q := 5) (i := 14) (k := 42) (K := K474) (s := s475) o479 o480 o460 (by first | assumption | exact KInv.nil) (by omega) rfl rfl rfl) ?_
 rintro ⟨v484, K485, s486, g487⟩ w488 ⟨ch489, o490, o491, hj492, r493⟩
 replace ch489 : Chg (j3 5 14 42) g476 w477 g487 w488 := ch489
 replace o490 : Bx g487 (is 5) w488 b41 [v484, Value.int .i64 s486] := o490
 replace o491 : Nst g487 14 w488 v484 K485 := o491
 replace hj492 : KInv K485 s486 := hj492
 replace r493 : Sl g487 (isr 42 14) w488 v459 ((rmovedR g r to).2.1) := r493
 obtain ⟨hj492a, hj492b, hj492c⟩ := hj492.len
 clear o460 o479 o480
 refine l_nil ?_
 refine run_seq ?_
 refine run_seq ?_
 refine run_region rfl ?_
 refine lv (Value.int .i64 (rmayR g r)) rfl (e_move rfl) ?_
 refine lv (Value.bool (!(decide ((rmayR g r) = 0)))) rfl (e_neq (m := rmayR g r) (n := 0) rfl rfl) ?_
 refine l_nil ?_
 by_cases p5_c4 : (rmayR g r) = 0
 ·
  obtain ⟨hmm_c4, hrp_c4⟩ := rmay_ok p5_c4
  refine run_cond_f rfl (congrArg Bool.not (decide_eq_true p5_c4)) ?_
  refine run_skip ?_
  refine run_seq ?_
  refine run_region rfl ?_
  have C494 : Chg (inl [5, 14, 39, 40, 42, 43]) _ _ _ _ := (ch443.n).seq ((ch445.n).seq ((ch450.l rfl).seq ((ch462.n).seq ((ch464.n).seq ((ch469.l rfl).seq ((ch478.l3 rfl rfl rfl).seq (ch489.l3 rfl rfl rfl)))))))
  replace bx434 := bx434.chg C494 (is_nl rfl)
  refine lv (Value.agg (List.toArray [Value.int .i64 g.1, g_v])) rfl (e_load_bxN (ds := [Value.int .i64 g.1, g_v]) tp24_wb rfl bx434 rfl rfl) ?_
  refine lv (r_v) rfl (e_move rfl) ?_
  refine lv (keep_v) rfl (e_move rfl) ?_
  have C495 : Chg (inl [5, 14, 39, 40, 42, 43]) _ _ _ _ := (ch426.n).seq ((ch431.n).seq ((ch443.n).seq ((ch445.n).seq ((ch450.l rfl).seq ((ch462.n).seq ((ch464.n).seq ((ch469.l rfl).seq ((ch478.l3 rfl rfl rfl).seq (ch489.l3 rfl rfl rfl)))))))))
  replace r_g_v := r_g_v.chg C495 (is_nl rfl)
  replace r_r_v := r_r_v.chg C495 (is_nl rfl)
  replace r_keep_v := r_keep_v.chg C494 (is_nl rfl)
  refine l_op rfl ?_
  refine o_callx (e_call (vals := [Value.agg (List.toArray [Value.int .i64 g.1, g_v]), r_v, keep_v]) Try.func63 bd63_wb nm63_wb rfl) (rRSub_ok w488 g g_v (r_g_v).ro r r_v (r_r_v).ro keep keep_v (r_keep_v).ro (by assumption) (by assumption)) ?_
  rintro ⟨d497, v499, v501⟩ w496 ⟨fr498, o500, o502⟩
  obtain ⟨g503, hg503⟩ : ∃ q, q = glue w488.heap.size g487 d497 (fun n => if n = 1 then 44 else if n = 2 then 45 else 0) := ⟨_, rfl⟩
  have ch504 := chg_glue fr498.below g487 d497 (fun n => if n = 1 then 44 else if n = 2 then 45 else 0)
  rw [← hg503] at ch504
  replace o500 := o500.glue (γ := g487) (ren := (fun n => if n = 1 then 44 else if n = 2 then 45 else 0)) (k := 44) fr498.col rfl rfl
  rw [← hg503] at o500
  replace o502 := o502.glue (γ := g487) (ren := (fun n => if n = 1 then 44 else if n = 2 then 45 else 0)) (k := 45) fr498.col rfl rfl
  rw [← hg503] at o502
  clear hg503
  refine lv (Value.tuple (List.toArray [Value.agg (List.toArray [Value.int .i64 (((rsubR g r keep).1).1), v499]), v501, Value.int .i64 ((rsubR g r keep).2.2)])) rfl (e_move rfl) ?_
  refine lv (Value.agg (List.toArray [Value.int .i64 (((rsubR g r keep).1).1), v499])) rfl (e_extract rfl rfl) ?_
  refine lv (v501) rfl (e_extract rfl rfl) ?_
  refine lv (Value.int .i64 ((rsubR g r keep).2.2)) rfl (e_extract rfl rfl) ?_
  refine l_op rfl ?_
  refine o_alloc g503 (is 46) (46, 0) rfl tp24_wb ?_
  intro g508 w505 b507 ch506 bx509
  replace bx509 : Bx g508 (is 46) w505 b507 [Value.int .i64 0, Value.slice none 0 0] := bx509
  refine l_op rfl ?_
  replace o500 := o500.chg ch506 (not_no _) (not_no _)
  refine o_store_bx (cs' := [Value.int .i64 (((rsubR g r keep).1).1), v499]) tp24_wb rfl rfl bx509 rfl (Nat.le_of_ble_eq_true rfl) (AllOne.all (.cons rfl (.cons (sl_one o500.flat) .nil))) rfl ?_
  intro w510 ch511 bx512
  clear bx509
  refine lv (v501) rfl (e_assign rfl) ?_
  refine lv (Value.int .i64 ((rsubR g r keep).2.2)) rfl (e_assign rfl) ?_
  refine l_nil ?_
  refine run_seq ?_
  refine run_region rfl ?_
  have C513 : Chg (inl [46]) _ _ _ _ := (ch504.n).seq ((ch506.n).seq (ch511.l rfl))
  replace bx434 := bx434.chg C513 (is_nl rfl)
  refine lv (Value.agg (List.toArray [Value.int .i64 g.1, g_v])) rfl (e_load_bxN (ds := [Value.int .i64 g.1, g_v]) tp24_wb rfl bx434 rfl rfl) ?_
  refine lv (r_v) rfl (e_move rfl) ?_
  refine lv (to_v) rfl (e_move rfl) ?_
  replace r_g_v := r_g_v.chg C513 (is_nl rfl)
  replace r_r_v := r_r_v.chg C513 (is_nl rfl)
  have C514 : Chg (inl [5, 14, 39, 42, 43, 46]) _ _ _ _ := (ch462.n).seq ((ch464.n).seq ((ch469.l rfl).seq ((ch478.l3 rfl rfl rfl).seq ((ch489.l3 rfl rfl rfl).seq ((ch504.n).seq ((ch506.n).seq (ch511.l rfl)))))))
  replace r_to_v := r_to_v.chg C514 (is_nl rfl)
  refine l_op rfl ?_
  refine o_callx (e_call (vals := [Value.agg (List.toArray [Value.int .i64 g.1, g_v]), r_v, to_v]) Try.func64 bd64_wb nm64_wb rfl) (rRMoved_ok w510 g g_v (r_g_v).ro r r_v (r_r_v).ro to to_v (r_to_v).ro (by assumption) (by assumption)) ?_
  rintro ⟨d516, v518, v520⟩ w515 ⟨fr517, o519, o521⟩
  obtain ⟨g522, hg522⟩ : ∃ q, q = glue w510.heap.size g508 d516 (fun n => if n = 1 then 47 else if n = 2 then 48 else 0) := ⟨_, rfl⟩
  have ch523 := chg_glue fr517.below g508 d516 (fun n => if n = 1 then 47 else if n = 2 then 48 else 0)
  rw [← hg522] at ch523
  replace o519 := o519.glue (γ := g508) (ren := (fun n => if n = 1 then 47 else if n = 2 then 48 else 0)) (k := 47) fr517.col rfl rfl
  rw [← hg522] at o519
  replace o521 := o521.glue (γ := g508) (ren := (fun n => if n = 1 then 47 else if n = 2 then 48 else 0)) (k := 48) fr517.col rfl rfl
  rw [← hg522] at o521
  clear hg522
  refine lv (Value.tuple (List.toArray [Value.agg (List.toArray [Value.int .i64 (((rmovedR g r to).1).1), v518]), v520, Value.int .i64 ((rmovedR g r to).2.2)])) rfl (e_move rfl) ?_
  refine lv (Value.agg (List.toArray [Value.int .i64 (((rmovedR g r to).1).1), v518])) rfl (e_extract rfl rfl) ?_
  refine lv (v520) rfl (e_extract rfl rfl) ?_
  refine lv (Value.int .i64 ((rmovedR g r to).2.2)) rfl (e_extract rfl rfl) ?_
  refine l_op rfl ?_
  refine o_alloc g522 (is 49) (49, 0) rfl tp24_wb ?_
  intro g527 w524 b526 ch525 bx528
  replace bx528 : Bx g527 (is 49) w524 b526 [Value.int .i64 0, Value.slice none 0 0] := bx528
  refine l_op rfl ?_
  replace o519 := o519.chg ch525 (not_no _) (not_no _)
  refine o_store_bx (cs' := [Value.int .i64 (((rmovedR g r to).1).1), v518]) tp24_wb rfl rfl bx528 rfl (Nat.le_of_ble_eq_true rfl) (AllOne.all (.cons rfl (.cons (sl_one o519.flat) .nil))) rfl ?_
  intro w529 ch530 bx531
  clear bx528
  refine lv (v520) rfl (e_assign rfl) ?_
  refine lv (Value.int .i64 ((rmovedR g r to).2.2)) rfl (e_assign rfl) ?_
  refine l_nil ?_
  refine run_seq ?_
  clear bx434
  refine run_region rfl ?_
  refine lv (Value.int .i64 ((rsubR g r keep).2.2)) rfl (e_move rfl) ?_
  refine lv (Value.int .i64 ((rsubR g r keep).2.2)) rfl (e_move rfl) ?_
  refine lv (Value.bool (decide (((rsubR g r keep).2.2) = ((rsubR g r keep).2.2)))) rfl (e_eql (m := (rsubR g r keep).2.2) (n := (rsubR g r keep).2.2) rfl rfl) ?_
  refine lv (Value.bool (decide (((rsubR g r keep).2.2) = ((rsubR g r keep).2.2)))) rfl (e_move rfl) ?_
  have q94_c4 : ((rsubR g r keep).2.2) = ((rsubR g r keep).2.2) := by first | rfl | exact decide_eq_true rfl | exact hn_c4.se | exact decide_eq_true hn_c4.se | exact hn_c4.me | exact decide_eq_true hn_c4.me | exact hn_c4.sum | exact decide_eq_true hn_c4.sum
  have C532 : Chg (inl [5, 14, 39, 42, 43, 46, 49]) _ _ _ _ := (ch462.n).seq ((ch464.n).seq ((ch469.l rfl).seq ((ch478.l3 rfl rfl rfl).seq ((ch489.l3 rfl rfl rfl).seq ((ch504.n).seq ((ch506.n).seq ((ch511.l rfl).seq ((ch523.n).seq ((ch525.n).seq (ch530.l rfl))))))))))
  replace bx451 := bx451.chg C532 (is_nl rfl)
  refine lv (Value.agg (List.toArray [Value.int .i64 (((rsubR g r keep).1).1), v438])) (want_y rfl rfl rfl (decide_eq_true q94_c4)) (e_load_bxN (ds := [Value.int .i64 (((rsubR g r keep).1).1), v438]) tp24_wb rfl bx451 rfl rfl) ?_
  have C533 : Chg (inl [49]) _ _ _ _ := (ch523.n).seq ((ch525.n).seq (ch530.l rfl))
  replace bx512 := bx512.chg C533 (is_nl rfl)
  refine lv (Value.agg (List.toArray [Value.int .i64 (((rsubR g r keep).1).1), v499])) (want_y rfl rfl rfl (decide_eq_true q94_c4)) (e_load_bxN (ds := [Value.int .i64 (((rsubR g r keep).1).1), v499]) tp24_wb rfl bx512 rfl rfl) ?_
  have C534 : Chg (inl [5, 14, 39, 40, 42, 43, 46, 49]) _ _ _ _ := (ch450.l rfl).seq ((ch462.n).seq ((ch464.n).seq ((ch469.l rfl).seq ((ch478.l3 rfl rfl rfl).seq ((ch489.l3 rfl rfl rfl).seq ((ch504.n).seq ((ch506.n).seq ((ch511.l rfl).seq ((ch523.n).seq ((ch525.n).seq (ch530.l rfl)))))))))))
  replace o439 := o439.chg C534 (is_nl rfl) (is_nl rfl)
  have C535 : Chg (inl [46, 49]) _ _ _ _ := (ch511.l rfl).seq ((ch523.n).seq ((ch525.n).seq (ch530.l rfl)))
  replace o500 := o500.chg C535 (is_nl rfl) (is_nl rfl)
  refine l_op (want_y rfl rfl rfl (decide_eq_true q94_c4)) ?_
  refine o_call (v := Value.bool (decide (((rsubR g r keep).1) = ((rsubR g r keep).1)))) (e_call (vals := [Value.agg (List.toArray [Value.int .i64 (((rsubR g r keep).1).1), v438]), Value.agg (List.toArray [Value.int .i64 (((rsubR g r keep).1).1), v499])]) Try.func33 bd33_wb nm33_wb rfl) (rSame_ok w529 ((rsubR g r keep).1) v438 (o439.flat).ro ((rsubR g r keep).1) v499 (o500.flat).ro) ?_
  intro w536 hb537
  replace hb537 := chg_below hb537 g527
  refine lv (Value.bool (decide (((rsubR g r keep).1) = ((rsubR g r keep).1)))) rfl (e_pick_t rfl (decide_eq_true q94_c4) rfl) ?_
  refine lv (Value.bool (decide (((rsubR g r keep).1) = ((rsubR g r keep).1)))) rfl (e_move rfl) ?_
  have q99_c4 : (decide (((rsubR g r keep).1) = ((rsubR g r keep).1))) = true := by first | rfl | exact decide_eq_true rfl | exact hn_c4.se | exact decide_eq_true hn_c4.se | exact hn_c4.me | exact decide_eq_true hn_c4.me | exact hn_c4.sum | exact decide_eq_true hn_c4.sum
  refine lv (v440) (want_y rfl rfl rfl q99_c4) (e_move rfl) ?_
  refine lv (v501) (want_y rfl rfl rfl q99_c4) (e_move rfl) ?_
  replace r482 := (((((((r482.chg ch489 (isr_j3 rfl rfl rfl rfl rfl)).chg ch504 (not_no _)).chg ch506 (not_no _)).chg ch511 (isr_is rfl rfl)).chg ch523 (not_no _)).chg ch525 (not_no _)).chg ch530 (isr_is rfl rfl)).chg hb537 (not_no _)
  have C538 : Chg (inl [46, 49]) _ _ _ _ := (ch506.n).seq ((ch511.l rfl).seq ((ch523.n).seq ((ch525.n).seq ((ch530.l rfl).seq (hb537.n)))))
  replace o502 := o502.chg C538 (is_nl rfl)
  refine l_op (want_y rfl rfl rfl q99_c4) ?_
  refine o_call (v := Value.bool (decide (((rsubR g r keep).2.1) = ((rsubR g r keep).2.1)))) (e_call (vals := [v440, v501]) Try.func57 bd57_wb nm57_wb rfl) (Lists_ok w536 ((rsubR g r keep).2.1) v440 (r482).ro ((rsubR g r keep).2.1) v501 (o502.sl).ro) ?_
  intro w539 hb540
  replace hb540 := chg_below hb540 g527
  refine lv (Value.bool (decide (((rsubR g r keep).2.1) = ((rsubR g r keep).2.1)))) rfl (e_pick_t rfl q99_c4 rfl) ?_
  refine lv (Value.bool (decide (((rsubR g r keep).2.1) = ((rsubR g r keep).2.1)))) rfl (e_move rfl) ?_
  have q104_c4 : (decide (((rsubR g r keep).2.1) = ((rsubR g r keep).2.1))) = true := by first | rfl | exact decide_eq_true rfl | exact hn_c4.se | exact decide_eq_true hn_c4.se | exact hn_c4.me | exact decide_eq_true hn_c4.me | exact hn_c4.sum | exact decide_eq_true hn_c4.sum
  refine lv (Value.int .i64 ((rmovedR g r to).2.2)) (want_y rfl rfl rfl q104_c4) (e_move rfl) ?_
  refine lv (Value.int .i64 ((rmovedR g r to).2.2)) (want_y rfl rfl rfl q104_c4) (e_move rfl) ?_
  refine lv (Value.bool (decide (((rmovedR g r to).2.2) = ((rmovedR g r to).2.2)))) (want_y rfl rfl rfl q104_c4) (e_eql (m := (rmovedR g r to).2.2) (n := (rmovedR g r to).2.2) rfl rfl) ?_
  refine lv (Value.bool (decide (((rmovedR g r to).2.2) = ((rmovedR g r to).2.2)))) rfl (e_pick_t rfl q104_c4 rfl) ?_
  refine lv (Value.bool (decide (((rmovedR g r to).2.2) = ((rmovedR g r to).2.2)))) rfl (e_move rfl) ?_
  have q109_c4 : ((rmovedR g r to).2.2) = ((rmovedR g r to).2.2) := by first | rfl | exact decide_eq_true rfl | exact hn_c4.se | exact decide_eq_true hn_c4.se | exact hn_c4.me | exact decide_eq_true hn_c4.me | exact hn_c4.sum | exact decide_eq_true hn_c4.sum
  have C541 : Chg (inl [5, 14, 39, 42, 46, 49]) _ _ _ _ := (ch478.l3 rfl rfl rfl).seq ((ch489.l3 rfl rfl rfl).seq ((ch504.n).seq ((ch506.n).seq ((ch511.l rfl).seq ((ch523.n).seq ((ch525.n).seq ((ch530.l rfl).seq ((hb537.n).seq (hb540.n)))))))))
  replace bx470 := bx470.chg C541 (is_nl rfl)
  refine lv (Value.agg (List.toArray [Value.int .i64 (((rmovedR g r to).1).1), v457])) (want_y rfl rfl rfl (decide_eq_true q109_c4)) (e_load_bxN (ds := [Value.int .i64 (((rmovedR g r to).1).1), v457]) tp24_wb rfl bx470 rfl rfl) ?_
  replace bx531 := (bx531.chg hb537 (not_no _)).chg hb540 (not_no _)
  refine lv (Value.agg (List.toArray [Value.int .i64 (((rmovedR g r to).1).1), v518])) (want_y rfl rfl rfl (decide_eq_true q109_c4)) (e_load_bxN (ds := [Value.int .i64 (((rmovedR g r to).1).1), v518]) tp24_wb rfl bx531 rfl rfl) ?_
  have C542 : Chg (inl [5, 14, 39, 42, 43, 46, 49]) _ _ _ _ := (ch469.l rfl).seq ((ch478.l3 rfl rfl rfl).seq ((ch489.l3 rfl rfl rfl).seq ((ch504.n).seq ((ch506.n).seq ((ch511.l rfl).seq ((ch523.n).seq ((ch525.n).seq ((ch530.l rfl).seq ((hb537.n).seq (hb540.n))))))))))
  replace o458 := o458.chg C542 (is_nl rfl) (is_nl rfl)
  have C543 : Chg (inl [49]) _ _ _ _ := (ch530.l rfl).seq ((hb537.n).seq (hb540.n))
  replace o519 := o519.chg C543 (is_nl rfl) (is_nl rfl)
  refine l_op (want_y rfl rfl rfl (decide_eq_true q109_c4)) ?_
  refine o_call (v := Value.bool (decide (((rmovedR g r to).1) = ((rmovedR g r to).1)))) (e_call (vals := [Value.agg (List.toArray [Value.int .i64 (((rmovedR g r to).1).1), v457]), Value.agg (List.toArray [Value.int .i64 (((rmovedR g r to).1).1), v518])]) Try.func33 bd33_wb nm33_wb rfl) (rSame_ok w539 ((rmovedR g r to).1) v457 (o458.flat).ro ((rmovedR g r to).1) v518 (o519.flat).ro) ?_
  intro w544 hb545
  replace hb545 := chg_below hb545 g527
  refine lv (Value.bool (decide (((rmovedR g r to).1) = ((rmovedR g r to).1)))) rfl (e_pick_t rfl (decide_eq_true q109_c4) rfl) ?_
  refine lv (Value.bool (decide (((rmovedR g r to).1) = ((rmovedR g r to).1)))) rfl (e_move rfl) ?_
  have q114_c4 : (decide (((rmovedR g r to).1) = ((rmovedR g r to).1))) = true := by first | rfl | exact decide_eq_true rfl | exact hn_c4.se | exact decide_eq_true hn_c4.se | exact hn_c4.me | exact decide_eq_true hn_c4.me | exact hn_c4.sum | exact decide_eq_true hn_c4.sum
  refine lv (v459) (want_y rfl rfl rfl q114_c4) (e_move rfl) ?_
  refine lv (v520) (want_y rfl rfl rfl q114_c4) (e_move rfl) ?_
  replace r493 := ((((((((r493.chg ch504 (not_no _)).chg ch506 (not_no _)).chg ch511 (isr_is rfl rfl)).chg ch523 (not_no _)).chg ch525 (not_no _)).chg ch530 (isr_is rfl rfl)).chg hb537 (not_no _)).chg hb540 (not_no _)).chg hb545 (not_no _)
  have C546 : Chg (inl [49]) _ _ _ _ := (ch525.n).seq ((ch530.l rfl).seq ((hb537.n).seq ((hb540.n).seq (hb545.n))))
  replace o521 := o521.chg C546 (is_nl rfl)
  refine l_op (want_y rfl rfl rfl q114_c4) ?_
  refine o_call (v := Value.bool (decide (((rmovedR g r to).2.1) = ((rmovedR g r to).2.1)))) (e_call (vals := [v459, v520]) Try.func57 bd57_wb nm57_wb rfl) (Lists_ok w544 ((rmovedR g r to).2.1) v459 (r493).ro ((rmovedR g r to).2.1) v520 (o521.sl).ro) ?_
  intro w547 hb548
  replace hb548 := chg_below hb548 g527
  refine lv (Value.bool (decide (((rmovedR g r to).2.1) = ((rmovedR g r to).2.1)))) rfl (e_pick_t rfl q114_c4 rfl) ?_
  refine lv (Value.bool (decide (((rmovedR g r to).2.1) = ((rmovedR g r to).2.1)))) rfl (e_assign rfl) ?_
  refine l_nil ?_
  refine run_ret (vs := [Value.bool (decide (((rmovedR g r to).2.1) = ((rmovedR g r to).2.1)))]) Try.func17 (.tmp rfl .nil) ?_
  have C549 : Chg (inl [5, 14, 39, 40, 42, 43, 46, 49]) _ _ _ _ := (ch426.n).seq ((ch431.n).seq ((ch443.n).seq ((ch445.n).seq ((ch450.l rfl).seq ((ch462.n).seq ((ch464.n).seq ((ch469.l rfl).seq ((ch478.l3 rfl rfl rfl).seq ((ch489.l3 rfl rfl rfl).seq ((ch504.n).seq ((ch506.n).seq ((ch511.l rfl).seq ((ch523.n).seq ((ch525.n).seq ((ch530.l rfl).seq ((hb537.n).seq ((hb540.n).seq ((hb545.n).seq (hb548.n)))))))))))))))))))
  replace hbase := hbase.chg C549 (is_nl rfl)
  have C550 : Chg (inl [49]) _ _ _ _ := (ch523.n).seq ((ch525.n).seq ((ch530.l rfl).seq ((hb537.n).seq ((hb540.n).seq ((hb545.n).seq (hb548.n))))))
  replace r_g_v := r_g_v.chg C550 (is_nl rfl)
  replace r_r_v := r_r_v.chg C550 (is_nl rfl)
  have C551 : Chg (inl [46, 49]) _ _ _ _ := (ch504.n).seq ((ch506.n).seq ((ch511.l rfl).seq ((ch523.n).seq ((ch525.n).seq ((ch530.l rfl).seq ((hb537.n).seq ((hb540.n).seq ((hb545.n).seq (hb548.n)))))))))
  replace r_keep_v := r_keep_v.chg C551 (is_nl rfl)
  replace r_to_v := r_to_v.chg C550 (is_nl rfl)
  replace bx5 := bx5.chg C549 (is_nl rfl)
  replace o19 := o19.chg C549 (is_nl rfl) (is_nl rfl)
  have C552 : Chg (inl [5, 14, 39, 42, 43, 46, 49]) _ _ _ _ := (ch462.n).seq ((ch464.n).seq ((ch469.l rfl).seq ((ch478.l3 rfl rfl rfl).seq ((ch489.l3 rfl rfl rfl).seq ((ch504.n).seq ((ch506.n).seq ((ch511.l rfl).seq ((ch523.n).seq ((ch525.n).seq ((ch530.l rfl).seq ((hb537.n).seq ((hb540.n).seq ((hb545.n).seq (hb548.n))))))))))))))
  replace r22 := r22.chg C552 (is_nl rfl)
  replace o27 := o27.chg C549 (is_nl rfl) (is_nl rfl)
  replace r30 := r30.chg C552 (is_nl rfl)
  replace bx38 := bx38.chg C549 (is_nl rfl)
  replace o490 := o490.chg C551 (is_nl rfl)
  replace o491 := o491.chg C551 (is_nl rfl)
  have rt553 : (decide (((rmovedR g r to).2.1) = ((rmovedR g r to).2.1))) = true := by
    first | rfl | exact decide_eq_true rfl | exact hn_c4.se | exact decide_eq_true hn_c4.se | exact hn_c4.me | exact decide_eq_true hn_c4.me | exact hn_c4.sum | exact decide_eq_true hn_c4.sum
  refine ⟨(v484, K485, s486, g527), (congrArg (fun b => Ending.returned (Value.bool b)) rt553), hbase, r_g_v, r_r_v, r_keep_v, r_to_v, bx5, o19, r22, o27, r30, bx38, o490, o491, ?_⟩
  show KInv K485 s486
  first | assumption | exact KInv.nil | exact (KInv.add (by first | assumption | exact KInv.nil) (by omega) (by omega) (by omega))
 have hn_c4 := M9.mk' (g := g) (r := r) (keep := keep) (to := to) p5_c4
 have hns_c4 := hn_c4.sn
 have hnm_c4 := hn_c4.mn
 refine run_cond_t rfl (congrArg Bool.not (decide_eq_false p5_c4)) ?_
 refine run_seq ?_
 clear bx434
 refine run_region rfl ?_
 refine lv (Value.int .i64 ((rsubR g r keep).2.2)) rfl (e_move rfl) ?_
 refine lv (Value.int .i64 (rmayR g r)) rfl (e_move rfl) ?_
 refine lv (Value.bool (decide (((rsubR g r keep).2.2) = (rmayR g r)))) rfl (e_eql (m := (rsubR g r keep).2.2) (n := rmayR g r) rfl rfl) ?_
 refine lv (Value.bool (decide (((rsubR g r keep).2.2) = (rmayR g r)))) rfl (e_move rfl) ?_
 have q56_c4 : ((rsubR g r keep).2.2) = (rmayR g r) := by first | rfl | exact decide_eq_true rfl | exact hn_c4.se | exact decide_eq_true hn_c4.se | exact hn_c4.me | exact decide_eq_true hn_c4.me | exact hn_c4.sum | exact decide_eq_true hn_c4.sum
 refine lv (Value.int .i64 ((rmovedR g r to).2.2)) (want_y rfl rfl rfl (decide_eq_true q56_c4)) (e_move rfl) ?_
 refine lv (Value.int .i64 (rmayR g r)) (want_y rfl rfl rfl (decide_eq_true q56_c4)) (e_move rfl) ?_
 refine lv (Value.bool (decide (((rmovedR g r to).2.2) = (rmayR g r)))) (want_y rfl rfl rfl (decide_eq_true q56_c4)) (e_eql (m := (rmovedR g r to).2.2) (n := rmayR g r) rfl rfl) ?_
 refine lv (Value.bool (decide (((rmovedR g r to).2.2) = (rmayR g r)))) rfl (e_pick_t rfl (decide_eq_true q56_c4) rfl) ?_
 refine lv (Value.bool (decide (((rmovedR g r to).2.2) = (rmayR g r)))) rfl (e_move rfl) ?_
 have q61_c4 : ((rmovedR g r to).2.2) = (rmayR g r) := by first | rfl | exact decide_eq_true rfl | exact hn_c4.se | exact decide_eq_true hn_c4.se | exact hn_c4.me | exact decide_eq_true hn_c4.me | exact hn_c4.sum | exact decide_eq_true hn_c4.sum
 refine lv (Value.pointer (some ⟨b446, 0, none⟩)) (want_y rfl rfl rfl (decide_eq_true q61_c4)) (e_fieldAddr Try.underlying24 rfl rfl rfl rfl) ?_
 have C554 : Chg (inl [5, 14, 39, 42, 43]) _ _ _ _ := (ch462.n).seq ((ch464.n).seq ((ch469.l rfl).seq ((ch478.l3 rfl rfl rfl).seq (ch489.l3 rfl rfl rfl))))
 replace bx451 := bx451.chg C554 (is_nl rfl)
 refine lv (Value.int .i64 (((rsubR g r keep).1).1)) (want_y rfl rfl rfl (decide_eq_true q61_c4)) (e_load_bx1 tp3_wb rfl bx451 rfl) ?_
 refine lv (Value.pointer (some ⟨b465, 0, none⟩)) (want_y rfl rfl rfl (decide_eq_true q61_c4)) (e_fieldAddr Try.underlying24 rfl rfl rfl rfl) ?_
 replace bx470 := (bx470.chg ch478 (is_j3 rfl rfl rfl)).chg ch489 (is_j3 rfl rfl rfl)
 refine lv (Value.int .i64 (((rmovedR g r to).1).1)) (want_y rfl rfl rfl (decide_eq_true q61_c4)) (e_load_bx1 tp3_wb rfl bx470 rfl) ?_
 refine lv (Value.int .i64 ((((rsubR g r keep).1).1) + (((rmovedR g r to).1).1))) (want_y rfl rfl rfl (decide_eq_true q61_c4)) (e_add (m := ((rsubR g r keep).1).1) (n := ((rmovedR g r to).1).1) rfl rfl (by omega)) ?_
 refine lv (v440) (want_y rfl rfl rfl (decide_eq_true q61_c4)) (e_move rfl) ?_
 replace r482 := r482.chg ch489 (isr_j3 rfl rfl rfl rfl rfl)
 have len555 := (r482).small
 refine lv (Value.int .i64 (List.length ((rsubR g r keep).2.1) : Int)) (want_y rfl rfl rfl (decide_eq_true q61_c4)) (e_len Try.underlying26 rfl r482) ?_
 refine lv (Value.int .i64 (((((rsubR g r keep).1).1) + (((rmovedR g r to).1).1)) + (List.length ((rsubR g r keep).2.1) : Int))) (want_y rfl rfl rfl (decide_eq_true q61_c4)) (e_add (m := (((rsubR g r keep).1).1) + (((rmovedR g r to).1).1)) (n := (List.length ((rsubR g r keep).2.1) : Int)) rfl rfl (by omega)) ?_
 refine lv (v459) (want_y rfl rfl rfl (decide_eq_true q61_c4)) (e_move rfl) ?_
 have len556 := (r493).small
 refine lv (Value.int .i64 (List.length ((rmovedR g r to).2.1) : Int)) (want_y rfl rfl rfl (decide_eq_true q61_c4)) (e_len Try.underlying26 rfl r493) ?_
 refine lv (Value.int .i64 ((((((rsubR g r keep).1).1) + (((rmovedR g r to).1).1)) + (List.length ((rsubR g r keep).2.1) : Int)) + (List.length ((rmovedR g r to).2.1) : Int))) (want_y rfl rfl rfl (decide_eq_true q61_c4)) (e_add (m := ((((rsubR g r keep).1).1) + (((rmovedR g r to).1).1)) + (List.length ((rsubR g r keep).2.1) : Int)) (n := (List.length ((rmovedR g r to).2.1) : Int)) rfl rfl (by omega)) ?_
 refine lv (Value.bool (decide (((((((rsubR g r keep).1).1) + (((rmovedR g r to).1).1)) + (List.length ((rsubR g r keep).2.1) : Int)) + (List.length ((rmovedR g r to).2.1) : Int)) = 0))) (want_y rfl rfl rfl (decide_eq_true q61_c4)) (e_eql (m := (((((rsubR g r keep).1).1) + (((rmovedR g r to).1).1)) + (List.length ((rsubR g r keep).2.1) : Int)) + (List.length ((rmovedR g r to).2.1) : Int)) (n := 0) rfl rfl) ?_
 refine lv (Value.bool (decide (((((((rsubR g r keep).1).1) + (((rmovedR g r to).1).1)) + (List.length ((rsubR g r keep).2.1) : Int)) + (List.length ((rmovedR g r to).2.1) : Int)) = 0))) rfl (e_pick_t rfl (decide_eq_true q61_c4) rfl) ?_
 refine lv (Value.bool (decide (((((((rsubR g r keep).1).1) + (((rmovedR g r to).1).1)) + (List.length ((rsubR g r keep).2.1) : Int)) + (List.length ((rmovedR g r to).2.1) : Int)) = 0))) rfl (e_assign rfl) ?_
 refine l_nil ?_
 refine run_ret (vs := [Value.bool (decide (((((((rsubR g r keep).1).1) + (((rmovedR g r to).1).1)) + (List.length ((rsubR g r keep).2.1) : Int)) + (List.length ((rmovedR g r to).2.1) : Int)) = 0))]) Try.func17 (.tmp rfl .nil) ?_
 have C557 : Chg (inl [5, 14, 39, 40, 42, 43]) _ _ _ _ := (ch426.n).seq ((ch431.n).seq ((ch443.n).seq ((ch445.n).seq ((ch450.l rfl).seq ((ch462.n).seq ((ch464.n).seq ((ch469.l rfl).seq ((ch478.l3 rfl rfl rfl).seq (ch489.l3 rfl rfl rfl)))))))))
 replace hbase := hbase.chg C557 (is_nl rfl)
 replace r_g_v := r_g_v.chg C557 (is_nl rfl)
 replace r_r_v := r_r_v.chg C557 (is_nl rfl)
 have C558 : Chg (inl [5, 14, 39, 40, 42, 43]) _ _ _ _ := (ch443.n).seq ((ch445.n).seq ((ch450.l rfl).seq ((ch462.n).seq ((ch464.n).seq ((ch469.l rfl).seq ((ch478.l3 rfl rfl rfl).seq (ch489.l3 rfl rfl rfl)))))))
 replace r_keep_v := r_keep_v.chg C558 (is_nl rfl)
 replace r_to_v := r_to_v.chg C554 (is_nl rfl)
 replace bx5 := bx5.chg C557 (is_nl rfl)
 replace o19 := o19.chg C557 (is_nl rfl) (is_nl rfl)
 replace r22 := r22.chg C554 (is_nl rfl)
 replace o27 := o27.chg C557 (is_nl rfl) (is_nl rfl)
 replace r30 := r30.chg C554 (is_nl rfl)
 replace bx38 := bx38.chg C557 (is_nl rfl)
 have rt559 : decide (((((((rsubR g r keep).1).1) + (((rmovedR g r to).1).1)) + (List.length ((rsubR g r keep).2.1) : Int)) + (List.length ((rmovedR g r to).2.1) : Int)) = 0) = true := by
   first | rfl | exact decide_eq_true rfl | exact hn_c4.se | exact decide_eq_true hn_c4.se | exact hn_c4.me | exact decide_eq_true hn_c4.me | exact hn_c4.sum | exact decide_eq_true hn_c4.sum
 refine ⟨(v484, K485, s486, g487), (congrArg (fun b => Ending.returned (Value.bool b)) rt559), hbase, r_g_v, r_r_v, r_keep_v, r_to_v, bx5, o19, r22, o27, r30, bx38, o490, o491, ?_⟩
 show KInv K485 s486
 first | assumption | exact KInv.nil | exact (KInv.add (by first | assumption | exact KInv.nil) (by omega) (by omega) (by omega))
end TL
