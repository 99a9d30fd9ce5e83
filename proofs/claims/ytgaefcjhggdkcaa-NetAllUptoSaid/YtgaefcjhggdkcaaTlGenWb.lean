import Derived.Test.YtgaefcjhggdkcaaTlGenA
import Derived.Test.YtgaefcjhggdkcaaTlGenB
import Derived.Test.YtgaefcjhggdkcaaTlGenC
import Derived.Test.YtgaefcjhggdkcaaTlGenD
import Derived.Test.YtgaefcjhggdkcaaTlGenF
import Derived.Test.YtgaefcjhggdkcaaTlGenR
import Derived.Test.YtgaefcjhggdkcaaTlInts
import Derived.Test.YtgaefcjhggdkcaaProg
import Derived.Test.YtgaefcjhggdkcaaTlNet2
import Derived.Test.YtgaefcjhggdkcaaTlEq
import Derived.Test.YtgaefcjhggdkcaaTlHold
import Derived.Test.YtgaefcjhggdkcaaTlDraw
import Derived.Test.YtgaefcjhggdkcaaTlMap
set_option linter.all false
set_option maxRecDepth 20000
namespace TL
open Go Go.Proofs
theorem mixed_wb : Try.prog.follows .mixedOrders = true := by kernel_rfl
theorem tp3_wb : Tp Try.prog 3 false 1 8 (.int .i64 0) := Tp.of (by kernel_rfl)
theorem tp22_wb : Tp Try.prog 22 false 1 24 (.slice none 0 0) := Tp.of (by kernel_rfl)
theorem tp24_wb : Tp Try.prog 24 true 2 32 (.agg #[.int .i64 0, .slice none 0 0]) := Tp.of (by kernel_rfl)
theorem tp25_wb : Tp Try.prog 25 false 1 24 (.slice none 0 0) := Tp.of (by kernel_rfl)
theorem tp35_wb : Tp Try.prog 35 false 1 24 (.slice none 0 0) := Tp.of (by kernel_rfl)
theorem tp71_wb : Tp Try.prog 71 true 2 16 (.agg #[.int .i64 0, .int .i64 0]) := Tp.of (by kernel_rfl)
theorem bd37_wb : Try.f37.body.isNone = false := rfl
theorem nm37_wb : (Try.f37.name == "runtime.NumGoroutine") = false := by decide +kernel
theorem bd38_wb : Try.f38.body.isNone = false := rfl
theorem nm38_wb : (Try.f38.name == "runtime.NumGoroutine") = false := by decide +kernel
theorem bd53_wb : Try.f53.body.isNone = false := rfl
theorem nm53_wb : (Try.f53.name == "runtime.NumGoroutine") = false := by decide +kernel
theorem bd58_wb : Try.f58.body.isNone = false := rfl
theorem nm58_wb : (Try.f58.name == "runtime.NumGoroutine") = false := by decide +kernel
theorem bd64_wb : Try.f64.body.isNone = false := rfl
theorem nm64_wb : (Try.f64.name == "runtime.NumGoroutine") = false := by decide +kernel
theorem bd65_wb : Try.f65.body.isNone = false := rfl
theorem nm65_wb : (Try.f65.name == "runtime.NumGoroutine") = false := by decide +kernel
theorem bd66_wb : Try.f66.body.isNone = false := rfl
theorem nm66_wb : (Try.f66.name == "runtime.NumGoroutine") = false := by decide +kernel
theorem bd67_wb : Try.f67.body.isNone = false := rfl
theorem nm67_wb : (Try.f67.name == "runtime.NumGoroutine") = false := by decide +kernel
theorem bd70_wb : Try.f70.body.isNone = false := rfl
theorem nm70_wb : (Try.f70.name == "runtime.NumGoroutine") = false := by decide +kernel

set_option maxHeartbeats 16000000 in
theorem NetAll_ok_chosen {g : (Int) × (List ((Int) × (Int)))} {v20 : Value} {g_v : Value} {keep_v : Value} {nodes_v : Value} {b40 : Nat} {w0 : World} {keep : List Int} {nodes : List Int} {b3 : Nat} {b27 : Nat} {g419 : Cmap} {w418 : World} {b_0_c7_v : Value} {b_1_c7 : Int} {b_0_c7 : List (List Int)} (hbase : Base w0 g419 w418) (r_g_v : Sl g419 (is 0) w418 g_v g.2) (r_keep_v : Sl g419 (is 0) w418 keep_v keep) (r_nodes_v : Sl g419 (is 0) w418 nodes_v nodes) (bx5 : Bx g419 (is 1) w418 b3 [Value.int .i64 g.1, g_v]) (o21 : Ow g419 (is 2) (is 2) w418 (upV v20) (g.2 ++ [((-7 : Int), (7 : Int))])) (r24 : Sl g419 (is 2) w418 v20 g.2) (bx32 : Bx g419 (is 3) w418 b27 [Value.int .i64 g.1, v20]) (bx42 : Bx g419 (is 4) w418 b40 [b_0_c7_v, Value.int .i64 b_1_c7]) (o_b_0_c7 : Nst g419 17 w418 b_0_c7_v b_0_c7) (hl300 : g.2.length ≤ 300) (hkl : keep.length ≤ 400) (hnl : nodes.length ≤ 400) (HJ : KInv b_0_c7 b_1_c7) :
    Calls Try.prog 27 (List.toArray [Value.agg (List.toArray [Value.int .i64 g.1, v20]), Value.agg (List.toArray [Value.int .i64 g.1, g_v]), Value.bool (mayB g), keep_v, nodes_v, Value.pointer (some ⟨b40, 0, none⟩)]) w418 (fun ee w => ∃ xx : Value × (List (List Int)) × Int × Cmap, ee = .returned ((fun ⟨b_0_c11_v, b_0_c11, b_1_c11, gq⟩ => Value.bool true) xx) ∧ (fun (⟨b_0_c11_v, b_0_c11, b_1_c11, gq⟩ : Value × (List (List Int)) × Int × Cmap) (w : World) => Base w0 gq w ∧ Sl gq (is 0) w g_v g.2 ∧ Sl gq (is 0) w keep_v keep ∧ Sl gq (is 0) w nodes_v nodes ∧ Bx gq (is 1) w b3 [Value.int .i64 g.1, g_v] ∧ Ow gq (is 2) (is 2) w (upV v20) (g.2 ++ [((-7 : Int), (7 : Int))]) ∧ Sl gq (is 2) w v20 g.2 ∧ Bx gq (is 3) w b27 [Value.int .i64 g.1, v20] ∧ Bx gq (is 4) w b40 [b_0_c11_v, Value.int .i64 b_1_c11] ∧ Nst gq 17 w b_0_c11_v b_0_c11 ∧ (KInv b_0_c11 b_1_c11)) xx w) := by
 refine calls_of_run Try.func27 rfl (Nat.le_of_ble_eq_true rfl) ?_
 obtain ⟨hka, hkb, hkc⟩ := HJ.len
 refine run_seq ?_
 refine run_region rfl ?_
 refine l_op rfl ?_
 refine o_box g419 (is 135) (135, 0) rfl rfl ?_
 intro g423 w420 b422 ch421 bx424
 replace bx424 : Bx g423 (is 135) w420 b422 [Value.int .i64 g.1, v20] := bx424
 refine l_op rfl ?_
 refine o_box g423 (is 136) (136, 0) rfl rfl ?_
 intro g428 w425 b427 ch426 bx429
 replace bx429 : Bx g428 (is 136) w425 b427 [Value.int .i64 g.1, g_v] := bx429
 refine l_val (v := Value.bool false) rfl (e_assign rfl) ?_
 refine l_nil ?_
 refine run_seq ?_
 refine run_region rfl ?_
 refine l_val (v := keep_v) rfl (e_move rfl) ?_
 refine l_op rfl ?_
 replace r_keep_v := (r_keep_v.chg ch421 (not_no _)).chg ch426 (not_no _)
 refine o_append (α := Int) (xs := ([])) (ys := keep) g428 (J := is 137) (S := is 137) (137, 0) rfl Try.underlying35 tp3_wb (by decide) rfl rfl rfl Ow.nil r_keep_v (by decide) (by first | omega | (simp; done) | (simp; omega)) ?_
 intro g430 w431 v432 ch433 o434
 replace o434 : Ow g430 (is 137) (is 137) w431 v432 keep := o434
 refine l_op rfl ?_
 refine o_buildSlice (α := Int) g430 (is 138) (is 138) (138, 0) rfl [77] Try.underlying35 tp3_wb (by decide) (by decide) (vs := [(0, Value.int .i64 77)]) rfl rfl (.cons rfl .nil) ?_
 intro g435 w436 v437 ch438 o439
 refine l_op rfl ?_
 replace o434 := o434.chg ch438 (not_no _) (not_no _)
 refine o_append (α := Int) (xs := keep) (ys := ([77])) g435 (J := is 137) (S := is 137) (137, 0) rfl Try.underlying35 tp3_wb (by decide) rfl rfl rfl o434 o439.flat (by decide) (by first | omega | (simp; done) | (simp; omega)) ?_
 intro g440 w441 v442 ch443 o444
 clear o434
 refine l_val (v := keep_v) rfl (e_move rfl) ?_
 have C445 : Chg (inl [137]) _ _ _ _ := (ch433.l rfl).seq ((ch438.n).seq (ch443.l rfl))
 replace r_keep_v := r_keep_v.chg C445 (is_nl rfl)
 have len446 := (r_keep_v).small
 refine l_val (v := Value.int .i64 (List.length keep : Int)) rfl (e_len Try.underlying35 rfl r_keep_v) ?_
 refine l_val (v := (subV v442 1 (Int.toNat 0) (Int.toNat (List.length keep : Int)))) rfl (e_slice (α := Int) (xs := (keep ++ [77])) (v := v442) (l := 0) (h := (List.length keep : Int)) Try.underlying35 rfl rfl o444.flat (.inr ⟨rfl, rfl⟩) (.inl (congrArg some rfl)) (by first | omega | (simp only [List.length_set, List.length_append, List.length_cons, List.length_nil, List.length_replicate, List.length_map, List.length_take, List.length_drop]; omega) | (simp; done) | (simp; omega)) (by first | omega | (simp only [List.length_set, List.length_append, List.length_cons, List.length_nil, List.length_replicate, List.length_map, List.length_take, List.length_drop]; omega) | (simp; done) | (simp; omega)) (by first | omega | (simp only [List.length_set, List.length_append, List.length_cons, List.length_nil, List.length_replicate, List.length_map, List.length_take, List.length_drop]; omega) | (simp; done) | (simp; omega))) ?_
 have r448 := sl_sub o444.flat (show Int.toNat 0 ≤ Int.toNat (List.length keep : Int) by first | omega | (simp only [List.length_set, List.length_append, List.length_cons, List.length_nil, List.length_replicate, List.length_map, List.length_take, List.length_drop]; omega) | (simp; done) | (simp; omega)) (show Int.toNat (List.length keep : Int) ≤ List.length _ by first | omega | (simp only [List.length_set, List.length_append, List.length_cons, List.length_nil, List.length_replicate, List.length_map, List.length_take, List.length_drop]; omega) | (simp; done) | (simp; omega))
 rw [show (List.drop (Int.toNat 0) (List.take (Int.toNat (List.length keep : Int)) (keep ++ [77]))) = keep by simp] at r448
 refine l_val (v := (subV v442 1 (Int.toNat 0) (Int.toNat (List.length keep : Int)))) rfl (e_assign rfl) ?_
 refine l_nil ?_
 refine run_seq ?_
 clear o439
 refine run_region rfl ?_
 refine l_val (v := nodes_v) rfl (e_move rfl) ?_
 refine l_op rfl ?_
 have C449 : Chg (inl [137]) _ _ _ _ := (ch421.n).seq ((ch426.n).seq ((ch433.l rfl).seq ((ch438.n).seq (ch443.l rfl))))
 replace r_nodes_v := r_nodes_v.chg C449 (is_nl rfl)
 refine o_append (α := Int) (xs := ([])) (ys := nodes) g440 (J := is 139) (S := is 139) (139, 0) rfl Try.underlying35 tp3_wb (by decide) rfl rfl rfl Ow.nil r_nodes_v (by decide) (by first | omega | (simp; done) | (simp; omega)) ?_
 intro g450 w451 v452 ch453 o454
 replace o454 : Ow g450 (is 139) (is 139) w451 v452 nodes := o454
 refine l_op rfl ?_
 refine o_buildSlice (α := Int) g450 (is 140) (is 140) (140, 0) rfl [77] Try.underlying35 tp3_wb (by decide) (by decide) (vs := [(0, Value.int .i64 77)]) rfl rfl (.cons rfl .nil) ?_
 intro g455 w456 v457 ch458 o459
 refine l_op rfl ?_
 replace o454 := o454.chg ch458 (not_no _) (not_no _)
 refine o_append (α := Int) (xs := nodes) (ys := ([77])) g455 (J := is 139) (S := is 139) (139, 0) rfl Try.underlying35 tp3_wb (by decide) rfl rfl rfl o454 o459.flat (by decide) (by first | omega | (simp; done) | (simp; omega)) ?_
 intro g460 w461 v462 ch463 o464
 clear o454
 refine l_val (v := nodes_v) rfl (e_move rfl) ?_
 have C465 : Chg (inl [139]) _ _ _ _ := (ch453.l rfl).seq ((ch458.n).seq (ch463.l rfl))
 replace r_nodes_v := r_nodes_v.chg C465 (is_nl rfl)
 have len466 := (r_nodes_v).small
 refine l_val (v := Value.int .i64 (List.length nodes : Int)) rfl (e_len Try.underlying35 rfl r_nodes_v) ?_
 refine l_val (v := (subV v462 1 (Int.toNat 0) (Int.toNat (List.length nodes : Int)))) rfl (e_slice (α := Int) (xs := (nodes ++ [77])) (v := v462) (l := 0) (h := (List.length nodes : Int)) Try.underlying35 rfl rfl o464.flat (.inr ⟨rfl, rfl⟩) (.inl (congrArg some rfl)) (by first | omega | (simp only [List.length_set, List.length_append, List.length_cons, List.length_nil, List.length_replicate, List.length_map, List.length_take, List.length_drop]; omega) | (simp; done) | (simp; omega)) (by first | omega | (simp only [List.length_set, List.length_append, List.length_cons, List.length_nil, List.length_replicate, List.length_map, List.length_take, List.length_drop]; omega) | (simp; done) | (simp; omega)) (by first | omega | (simp only [List.length_set, List.length_append, List.length_cons, List.length_nil, List.length_replicate, List.length_map, List.length_take, List.length_drop]; omega) | (simp; done) | (simp; omega))) ?_
 have r468 := sl_sub o464.flat (show Int.toNat 0 ≤ Int.toNat (List.length nodes : Int) by first | omega | (simp only [List.length_set, List.length_append, List.length_cons, List.length_nil, List.length_replicate, List.length_map, List.length_take, List.length_drop]; omega) | (simp; done) | (simp; omega)) (show Int.toNat (List.length nodes : Int) ≤ List.length _ by first | omega | (simp only [List.length_set, List.length_append, List.length_cons, List.length_nil, List.length_replicate, List.length_map, List.length_take, List.length_drop]; omega) | (simp; done) | (simp; omega))
 rw [show (List.drop (Int.toNat 0) (List.take (Int.toNat (List.length nodes : Int)) (nodes ++ [77]))) = nodes by simp] at r468
 refine l_val (v := (subV v462 1 (Int.toNat 0) (Int.toNat (List.length nodes : Int)))) rfl (e_assign rfl) ?_
 refine l_nil ?_
 refine run_seq ?_
 clear o459
 refine run_region rfl ?_
 have C469 : Chg (inl [137, 139]) _ _ _ _ := (ch426.n).seq ((ch433.l rfl).seq ((ch438.n).seq ((ch443.l rfl).seq ((ch453.l rfl).seq ((ch458.n).seq (ch463.l rfl))))))
 replace bx424 := bx424.chg C469 (is_nl rfl)
 refine l_val (v := Value.agg (List.toArray [Value.int .i64 g.1, v20])) rfl (e_load_bxN (ds := [Value.int .i64 g.1, v20]) tp24_wb rfl bx424 rfl rfl) ?_
 refine l_val (v := (subV v442 1 (Int.toNat 0) (Int.toNat (List.length keep : Int)))) rfl (e_move rfl) ?_
 have C470 : Chg (inl [137, 139]) _ _ _ _ := (ch421.n).seq ((ch426.n).seq ((ch433.l rfl).seq ((ch438.n).seq ((ch443.l rfl).seq ((ch453.l rfl).seq ((ch458.n).seq (ch463.l rfl)))))))
 replace r24 := r24.chg C470 (is_nl rfl)
 replace r448 := r448.chg C465 (is_nl rfl)
 refine l_op rfl ?_
 refine o_callx (e_call (vals := [Value.agg (List.toArray [Value.int .i64 g.1, v20]), (subV v442 1 (Int.toNat 0) (Int.toNat (List.length keep : Int)))]) Try.func53 bd53_wb nm53_wb rfl) (Sub_ok w461 g v20 (r24).ro keep (subV v442 1 (Int.toNat 0) (Int.toNat (List.length keep : Int))) (r448).ro) ?_
 rintro ⟨d472, v474⟩ w471 ⟨fr473, o475⟩
 obtain ⟨g476, hg476⟩ : ∃ q, q = glue w461.heap.size g460 d472 (fun n => if n = 1 then 141 else 0) := ⟨_, rfl⟩
 have ch477 := chg_glue fr473.below g460 d472 (fun n => if n = 1 then 141 else 0)
 rw [← hg476] at ch477
 replace o475 := o475.glue (γ := g460) (ren := (fun n => if n = 1 then 141 else 0)) (k := 141) fr473.col rfl rfl
 rw [← hg476] at o475
 clear hg476
 refine l_val (v := Value.tuple (List.toArray [Value.agg (List.toArray [Value.int .i64 (((subR g keep).1).1), v474]), Value.int .i64 ((subR g keep).2)])) rfl (e_move rfl) ?_
 refine l_val (v := Value.agg (List.toArray [Value.int .i64 (((subR g keep).1).1), v474])) rfl (e_extract rfl rfl) ?_
 refine l_val (v := Value.int .i64 ((subR g keep).2)) rfl (e_extract rfl rfl) ?_
 refine l_op rfl ?_
 refine o_alloc g476 (is 142) (142, 0) rfl tp24_wb ?_
 intro g481 w478 b480 ch479 bx482
 replace bx482 : Bx g481 (is 142) w478 b480 [Value.int .i64 0, Value.slice none 0 0] := bx482
 refine l_op rfl ?_
 replace o475 := o475.chg ch479 (not_no _) (not_no _)
 refine o_store_bx (cs' := [Value.int .i64 (((subR g keep).1).1), v474]) tp24_wb rfl rfl bx482 rfl (Nat.le_of_ble_eq_true rfl) (AllOne.all (.cons rfl (.cons (sl_one o475.flat) .nil))) rfl ?_
 intro w483 ch484 bx485
 clear bx482
 refine l_val (v := Value.int .i64 ((subR g keep).2)) rfl (e_assign rfl) ?_
 refine l_nil ?_
 refine run_seq ?_
 refine run_region rfl ?_
 have C486 : Chg (inl [142]) _ _ _ _ := (ch477.n).seq ((ch479.n).seq (ch484.l rfl))
 replace bx424 := bx424.chg C486 (is_nl rfl)
 refine l_val (v := Value.agg (List.toArray [Value.int .i64 g.1, v20])) rfl (e_load_bxN (ds := [Value.int .i64 g.1, v20]) tp24_wb rfl bx424 rfl rfl) ?_
 refine l_val (v := (subV v462 1 (Int.toNat 0) (Int.toNat (List.length nodes : Int)))) rfl (e_move rfl) ?_
 replace r24 := r24.chg C486 (is_nl rfl)
 replace r468 := r468.chg C486 (is_nl rfl)
 refine l_op rfl ?_
 refine o_callx (e_call (vals := [Value.agg (List.toArray [Value.int .i64 g.1, v20]), (subV v462 1 (Int.toNat 0) (Int.toNat (List.length nodes : Int)))]) Try.func65 bd65_wb nm65_wb rfl) (Part_ok w483 g v20 (r24).ro nodes (subV v462 1 (Int.toNat 0) (Int.toNat (List.length nodes : Int))) (r468).ro) ?_
 rintro ⟨d488, v490, v492⟩ w487 ⟨fr489, o491, o493⟩
 obtain ⟨g494, hg494⟩ : ∃ q, q = glue w483.heap.size g481 d488 (fun n => if n = 1 then 143 else if n = 2 then 144 else 0) := ⟨_, rfl⟩
 have ch495 := chg_glue fr489.below g481 d488 (fun n => if n = 1 then 143 else if n = 2 then 144 else 0)
 rw [← hg494] at ch495
 replace o491 := o491.glue (γ := g481) (ren := (fun n => if n = 1 then 143 else if n = 2 then 144 else 0)) (k := 143) fr489.col rfl rfl
 rw [← hg494] at o491
 replace o493 := o493.glue (γ := g481) (ren := (fun n => if n = 1 then 143 else if n = 2 then 144 else 0)) (k := 144) fr489.col rfl rfl
 rw [← hg494] at o493
 clear hg494
 refine l_val (v := Value.tuple (List.toArray [Value.agg (List.toArray [Value.int .i64 (((partR g nodes).1).1), v490]), v492, Value.int .i64 ((partR g nodes).2.2)])) rfl (e_move rfl) ?_
 refine l_val (v := Value.agg (List.toArray [Value.int .i64 (((partR g nodes).1).1), v490])) rfl (e_extract rfl rfl) ?_
 refine l_val (v := v492) rfl (e_extract rfl rfl) ?_
 refine l_val (v := Value.int .i64 ((partR g nodes).2.2)) rfl (e_extract rfl rfl) ?_
 refine l_op rfl ?_
 refine o_alloc g494 (is 145) (145, 0) rfl tp24_wb ?_
 intro g499 w496 b498 ch497 bx500
 replace bx500 : Bx g499 (is 145) w496 b498 [Value.int .i64 0, Value.slice none 0 0] := bx500
 refine l_op rfl ?_
 replace o491 := o491.chg ch497 (not_no _) (not_no _)
 refine o_store_bx (cs' := [Value.int .i64 (((partR g nodes).1).1), v490]) tp24_wb rfl rfl bx500 rfl (Nat.le_of_ble_eq_true rfl) (AllOne.all (.cons rfl (.cons (sl_one o491.flat) .nil))) rfl ?_
 intro w501 ch502 bx503
 clear bx500
 refine l_val (v := v492) rfl (e_assign rfl) ?_
 refine l_val (v := Value.int .i64 ((partR g nodes).2.2)) rfl (e_assign rfl) ?_
 refine l_nil ?_
 refine run_seq ?_
 clear bx424
 refine run_region rfl ?_
 refine l_val (v := Value.pointer (some ⟨b40, 0, none⟩)) rfl (e_move rfl) ?_
 refine l_val (v := v492) rfl (e_move rfl) ?_
 refine l_op rfl ?_
 replace o493 := (o493.chg ch497 (not_no _) (not_no _)).chg ch502 (is_ne rfl) (is_ne rfl)
 obtain ⟨c504, hv505⟩ := vc_of (u := v492) (sl_one o493.flat)
 refine o_buildSlice (α := Vc) g499 (is 146) (is 146) (146, 0) rfl [c504] Try.underlying25 tp35_wb (by decide) (by decide) (vs := [(0, v492)]) rfl rfl (.cons (vc_els hv505 (sl_cells1 o493.flat)) .nil) ?_
 intro g506 w507 v508 ch509 o510
 refine l_op rfl ?_
 refine o_callx (σ := Value × (List (List Int)) × Int × Cmap) (V := fun ⟨b_0_c12_v, b_0_c12, b_1_c12, gq⟩ => Value.tuple (List.toArray [])) (S := fun ⟨b_0_c12_v, b_0_c12, b_1_c12, gq⟩ w => Base w0 gq w ∧ Sl gq (is 0) w g_v g.2 ∧ Sl gq (is 0) w keep_v keep ∧ Sl gq (is 0) w nodes_v nodes ∧ Bx gq (is 1) w b3 [Value.int .i64 g.1, g_v] ∧ Ow gq (is 2) (is 2) w (upV v20) (g.2 ++ [((-7 : Int), (7 : Int))]) ∧ Sl gq (is 2) w v20 g.2 ∧ Bx gq (is 3) w b27 [Value.int .i64 g.1, v20] ∧ Bx gq (is 4) w b40 [b_0_c12_v, Value.int .i64 b_1_c12] ∧ Bx gq (is 136) w b427 [Value.int .i64 g.1, g_v] ∧ Ow gq (is 137) (is 137) w v442 (keep ++ [77]) ∧ Sl gq (is 137) w (subV v442 1 (Int.toNat 0) (Int.toNat (List.length keep : Int))) keep ∧ Ow gq (is 139) (is 139) w v462 (nodes ++ [77]) ∧ Sl gq (is 139) w (subV v462 1 (Int.toNat 0) (Int.toNat (List.length nodes : Int))) nodes ∧ Ow gq (is 141) (is 141) w v474 (((subR g keep).1).2) ∧ Bx gq (is 142) w b480 [Value.int .i64 (((subR g keep).1).1), v474] ∧ Ow gq (is 143) (is 143) w v490 (((partR g nodes).1).2) ∧ Sl gq (isr 144 17) w v492 ((partR g nodes).2.1) ∧ Bx gq (is 145) w b498 [Value.int .i64 (((partR g nodes).1).1), v490] ∧ Ow gq (is 146) (is 146) w v508 ([c504]) ∧ Nst gq 17 w b_0_c12_v b_0_c12 ∧ (KInv b_0_c12 b_1_c12)) (e_call (vals := [Value.pointer (some ⟨b40, 0, none⟩), v508]) Try.func58 bd58_wb nm58_wb rfl) ?_ ?_
 ·
  refine calls_of_run Try.func58 rfl (Nat.le_of_ble_eq_true rfl) ?_
  have C511 : Chg (inl [137, 139, 142, 145]) _ _ _ _ := (ch421.n).seq ((ch426.n).seq ((ch433.l rfl).seq ((ch438.n).seq ((ch443.l rfl).seq ((ch453.l rfl).seq ((ch458.n).seq ((ch463.l rfl).seq ((ch477.n).seq ((ch479.n).seq ((ch484.l rfl).seq ((ch495.n).seq ((ch497.n).seq ((ch502.l rfl).seq (ch509.n))))))))))))))
  replace o_b_0_c7 := o_b_0_c7.chg C511 (is_nl rfl)
  replace o493 := o493.chg ch509 (not_no _) (not_no _)
  refine run_seq ?_
  refine run_region rfl ?_
  refine l_val (v := Value.int .i64 0) rfl (e_assign rfl) ?_
  refine l_nil ?_
  refine run_block ?_
  refine run_loop0 ?_
  refine run_seq ?_
  refine run_seq ?_
  refine run_region rfl ?_
  refine l_val (v := Value.int .i64 0) rfl (e_move rfl) ?_
  refine l_val (v := v508) rfl (e_move rfl) ?_
  refine l_val (v := Value.int .i64 1) rfl (e_len (α := Vc) (xs := [c504]) Try.underlying25 rfl o510.flat) ?_
  refine l_val (v := Value.bool true) rfl (e_lss (m := 0) (n := 1) rfl rfl) ?_
  refine l_nil ?_
  refine run_cond_t rfl rfl ?_
  refine run_skip ?_
  refine run_seq ?_
  refine run_block ?_
  refine run_seq ?_
  refine run_mid [false, true, false, false, false] (σ := Value × (List (List Int)) × Int × Cmap) (fun ⟨b_0_j26_v, b_0_j26, b_1_j26, gq⟩ f w => Base w0 gq w ∧ f 0 = Value.pointer (some ⟨b40, 0, none⟩) ∧ f 1 = v508 ∧ f 4 = Value.int .i64 0 ∧ Sl gq (is 0) w g_v g.2 ∧ Sl gq (is 0) w keep_v keep ∧ Sl gq (is 0) w nodes_v nodes ∧ Bx gq (is 1) w b3 [Value.int .i64 g.1, g_v] ∧ Ow gq (is 2) (is 2) w (upV v20) (g.2 ++ [((-7 : Int), (7 : Int))]) ∧ Sl gq (is 2) w v20 g.2 ∧ Bx gq (is 3) w b27 [Value.int .i64 g.1, v20] ∧ Bx gq (is 4) w b40 [b_0_j26_v, Value.int .i64 b_1_j26] ∧ Bx gq (is 136) w b427 [Value.int .i64 g.1, g_v] ∧ Ow gq (is 137) (is 137) w v442 (keep ++ [77]) ∧ Sl gq (is 137) w (subV v442 1 (Int.toNat 0) (Int.toNat (List.length keep : Int))) keep ∧ Ow gq (is 139) (is 139) w v462 (nodes ++ [77]) ∧ Sl gq (is 139) w (subV v462 1 (Int.toNat 0) (Int.toNat (List.length nodes : Int))) nodes ∧ Ow gq (is 141) (is 141) w v474 (((subR g keep).1).2) ∧ Bx gq (is 142) w b480 [Value.int .i64 (((subR g keep).1).1), v474] ∧ Ow gq (is 143) (is 143) w v490 (((partR g nodes).1).2) ∧ Sl gq (isr 144 17) w v492 ((partR g nodes).2.1) ∧ Bx gq (is 145) w b498 [Value.int .i64 (((partR g nodes).1).1), v490] ∧ Ow gq (is 146) (is 146) w v508 ([c504]) ∧ Nst gq 17 w b_0_j26_v b_0_j26 ∧ (KInv b_0_j26 b_1_j26)) ?_ ?_
  ·
   intro mid_j26
   refine region_q g506 rfl mixed_wb (by kernel_rfl) ?_
   intro w513 ch512
   refine q_val (v := v508) rfl (fun w' hw' => e_move rfl) ?_
   refine q_val (v := Value.int .i64 0) rfl (fun w' hw' => e_move rfl) ?_
   replace o493 := o493.chg ch512 (not_no _) (not_no _)
   replace o510 := o510.chg ch512 (not_no _) (not_no _)
   refine q_val (v := Value.pointer (some (eAddr v508 1 (Int.toNat 0)))) rfl (fun w' hw' => e_indexAddr (α := List Int) (xs := [(partR g nodes).2.1]) (v := v508) (i := 0) Try.underlying25 rfl rfl ((vc_sl o510 (VcR.consv hv505 (o493.flat).ro VcR.nil)).bel hw') rfl (by omega) (by first | omega | (simp only [List.length_set, List.length_append, List.length_cons, List.length_nil, List.length_replicate, List.length_map, List.length_take, List.length_drop]; omega) | (simp; done) | (simp; omega))) ?_
   refine q_val (v := v492) rfl (fun w' hw' => e_load1 tp35_wb rfl (ow_atv hv505 (o510.bel hw') rfl)) ?_
   have len514 := (o493.flat).small
   refine q_val (v := Value.int .i64 (List.length ((partR g nodes).2.1) : Int)) rfl (fun w' hw' => e_len Try.underlying35 rfl (o493.flat.bel hw')) ?_
   refine q_val (v := v508) rfl (fun w' hw' => e_move rfl) ?_
   refine q_val (v := Value.int .i64 0) rfl (fun w' hw' => e_move rfl) ?_
   refine q_val (v := Value.pointer (some (eAddr v508 1 (Int.toNat 0)))) rfl (fun w' hw' => e_indexAddr (α := List Int) (xs := [(partR g nodes).2.1]) (v := v508) (i := 0) Try.underlying25 rfl rfl ((vc_sl o510 (VcR.consv hv505 (o493.flat).ro VcR.nil)).bel hw') rfl (by omega) (by first | omega | (simp only [List.length_set, List.length_append, List.length_cons, List.length_nil, List.length_replicate, List.length_map, List.length_take, List.length_drop]; omega) | (simp; done) | (simp; omega))) ?_
   refine q_val (v := v492) rfl (fun w' hw' => e_load1 tp35_wb rfl (ow_atv hv505 (o510.bel hw') rfl)) ?_
   have cap515 := Sl.cap o493.flat
   refine q_val (v := Value.int .i64 (sCap v492 : Int)) rfl (fun w' hw' => e_cap Try.underlying35 rfl (o493.flat.bel hw')) ?_
   refine q_call (v := Value.int .i64 (min (sCap v492 : Int) ((List.length ((partR g nodes).2.1) : Int) + 2000))) rfl (fun w' hw' => e_call (vals := [Value.int .i64 (List.length ((partR g nodes).2.1) : Int), Value.int .i64 (sCap v492 : Int)]) Try.func70 bd70_wb nm70_wb rfl) (fun w' hw' => (Room_ok w' (List.length ((partR g nodes).2.1) : Int) (sCap v492 : Int) (by omega)).mono fun e w2 h2 => ⟨h2.1, hw'.trans (h2.2.mono hw'.size)⟩) ?_
   refine q_val (v := Value.int .i64 (min (sCap v492 : Int) ((List.length ((partR g nodes).2.1) : Int) + 2000))) rfl (fun w' hw' => e_assign rfl) ?_
   refine q_nil ?_
   intro w516 hc517
   replace hc517 := chg_below hc517 g506
   refine run_seq ?_
   refine run_region rfl ?_
   refine l_val (v := Value.int .i64 (min (sCap v492 : Int) ((List.length ((partR g nodes).2.1) : Int) + 2000))) rfl (e_move rfl) ?_
   refine l_val (v := Value.bool (decide (0 < (min (sCap v492 : Int) ((List.length ((partR g nodes).2.1) : Int) + 2000))))) rfl (e_gtr (m := min (sCap v492 : Int) ((List.length ((partR g nodes).2.1) : Int) + 2000)) (n := 0) rfl rfl) ?_
   refine l_val (v := Value.bool (decide (0 < (min (sCap v492 : Int) ((List.length ((partR g nodes).2.1) : Int) + 2000))))) rfl (e_move rfl) ?_
   by_cases q25_c12 : 0 < (min (sCap v492 : Int) ((List.length ((partR g nodes).2.1) : Int) + 2000))
   ·
    refine l_val (v := Value.pointer (some ⟨b40, 0, none⟩)) (want_y rfl rfl rfl (decide_eq_true q25_c12)) (e_move rfl) ?_
    refine l_val (v := Value.pointer (some ⟨b40, 0, none⟩)) (want_y rfl rfl rfl (decide_eq_true q25_c12)) (e_nilCheck rfl) ?_
    refine l_val (v := Value.pointer (some ⟨b40, 1, none⟩)) (want_y rfl rfl rfl (decide_eq_true q25_c12)) (e_fieldAddr Try.underlying49 rfl rfl rfl rfl) ?_
    have C518 : Chg (inl [137, 139, 142, 145]) _ _ _ _ := (ch421.n).seq ((ch426.n).seq ((ch433.l rfl).seq ((ch438.n).seq ((ch443.l rfl).seq ((ch453.l rfl).seq ((ch458.n).seq ((ch463.l rfl).seq ((ch477.n).seq ((ch479.n).seq ((ch484.l rfl).seq ((ch495.n).seq ((ch497.n).seq ((ch502.l rfl).seq ((ch509.n).seq ((ch512.n).seq (hc517.n))))))))))))))))
    replace bx42 := bx42.chg C518 (is_nl rfl)
    refine l_val (v := Value.int .i64 b_1_c7) (want_y rfl rfl rfl (decide_eq_true q25_c12)) (e_load_bx1 tp3_wb rfl bx42 rfl) ?_
    refine l_val (v := Value.int .i64 (min (sCap v492 : Int) ((List.length ((partR g nodes).2.1) : Int) + 2000))) (want_y rfl rfl rfl (decide_eq_true q25_c12)) (e_move rfl) ?_
    refine l_val (v := Value.int .i64 (b_1_c7 + (min (sCap v492 : Int) ((List.length ((partR g nodes).2.1) : Int) + 2000)))) (want_y rfl rfl rfl (decide_eq_true q25_c12)) (e_add (m := b_1_c7) (n := min (sCap v492 : Int) ((List.length ((partR g nodes).2.1) : Int) + 2000)) rfl rfl (by omega)) ?_
    refine l_val (v := Value.bool (decide ((b_1_c7 + (min (sCap v492 : Int) ((List.length ((partR g nodes).2.1) : Int) + 2000))) ≤ 1048576))) (want_y rfl rfl rfl (decide_eq_true q25_c12)) (e_leq (m := b_1_c7 + (min (sCap v492 : Int) ((List.length ((partR g nodes).2.1) : Int) + 2000))) (n := 1048576) rfl rfl) ?_
    refine l_val (v := Value.bool (decide ((b_1_c7 + (min (sCap v492 : Int) ((List.length ((partR g nodes).2.1) : Int) + 2000))) ≤ 1048576))) rfl (e_pick_t rfl (decide_eq_true q25_c12) rfl) ?_
    refine l_nil ?_
    by_cases p4_c12 : (b_1_c7 + (min (sCap v492 : Int) ((List.length ((partR g nodes).2.1) : Int) + 2000))) ≤ 1048576
    ·
     refine run_cond_t rfl (decide_eq_true p4_c12) ?_
     refine run_seq ?_
     refine run_region rfl ?_
     refine l_val (v := Value.pointer (some ⟨b40, 0, none⟩)) rfl (e_move rfl) ?_
     refine l_val (v := Value.pointer (some ⟨b40, 0, none⟩)) rfl (e_move rfl) ?_
     refine l_val (v := Value.pointer (some ⟨b40, 0, none⟩)) rfl (e_nilCheck rfl) ?_
     refine l_val (v := Value.pointer (some ⟨b40, 1, none⟩)) rfl (e_fieldAddr Try.underlying49 rfl rfl rfl rfl) ?_
     refine l_val (v := Value.int .i64 b_1_c7) rfl (e_load_bx1 tp3_wb rfl bx42 rfl) ?_
     refine l_val (v := Value.int .i64 (min (sCap v492 : Int) ((List.length ((partR g nodes).2.1) : Int) + 2000))) rfl (e_move rfl) ?_
     refine l_val (v := Value.int .i64 (b_1_c7 + (min (sCap v492 : Int) ((List.length ((partR g nodes).2.1) : Int) + 2000)))) rfl (e_add (m := b_1_c7) (n := min (sCap v492 : Int) ((List.length ((partR g nodes).2.1) : Int) + 2000)) rfl rfl (by omega)) ?_
     refine l_val (v := Value.pointer (some ⟨b40, 0, none⟩)) rfl (e_nilCheck rfl) ?_
     refine l_val (v := Value.pointer (some ⟨b40, 1, none⟩)) rfl (e_fieldAddr Try.underlying49 rfl rfl rfl rfl) ?_
     refine l_op rfl ?_
     refine o_store_bx (cs' := [b_0_c7_v, Value.int .i64 (b_1_c7 + (min (sCap v492 : Int) ((List.length ((partR g nodes).2.1) : Int) + 2000)))]) tp3_wb rfl rfl bx42 rfl (Nat.le_of_ble_eq_true rfl) (AllOne.all (.cons rfl .nil)) rfl ?_
     intro w519 ch520 bx521
     clear bx42
     refine l_nil ?_
     refine run_region_x g506 [0, 1, 2, 3, 4, 5, 6, 7, 8, 11, 12] mixed_wb ?_
     intro w523 ch522
     refine x_pure (v := Value.pointer (some ⟨b40, 0, none⟩)) 0 rfl (by kernel_rfl) (by kernel_rfl) rfl (fun w => e_move rfl) ?_
     refine x_pure (v := Value.pointer (some ⟨b40, 0, none⟩)) 1 rfl (by kernel_rfl) (by kernel_rfl) rfl (fun w => e_move rfl) ?_
     refine x_pure (v := Value.pointer (some ⟨b40, 0, none⟩)) 2 rfl (by kernel_rfl) (by kernel_rfl) rfl (fun w => e_nilCheck rfl) ?_
     refine x_pure (v := Value.pointer (some ⟨b40, 0, none⟩)) 3 rfl (by kernel_rfl) (by kernel_rfl) rfl (fun w => e_fieldAddr Try.underlying49 rfl rfl rfl rfl) ?_
     replace bx521 := bx521.chg ch522 (not_no _)
     refine x_held (v := b_0_c7_v) 4 [3, 2, 1, 0, 5, 6, 7, 8, 9] rfl (by kernel_rfl) (by kernel_rfl) rfl (fun w' hw' => e_load_bx1 tp25_wb rfl (bx521.bel hw') rfl) ?_
     refine x_pure (v := v508) 5 rfl (by kernel_rfl) (by kernel_rfl) rfl (fun w => e_move rfl) ?_
     refine x_pure (v := Value.int .i64 0) 6 rfl (by kernel_rfl) (by kernel_rfl) rfl (fun w => e_move rfl) ?_
     have C524 : Chg (inl [4]) _ _ _ _ := (hc517.n).seq ((ch520.l rfl).seq (ch522.n))
     replace o493 := o493.chg C524 (is_nl rfl) (is_nl rfl)
     replace o510 := o510.chg C524 (is_nl rfl) (is_nl rfl)
     refine x_val (v := Value.pointer (some (eAddr v508 1 (Int.toNat 0)))) 7 [6, 5, 4, 3, 2, 1, 0] rfl (by kernel_rfl) (by kernel_rfl) rfl (e_indexAddr (α := List Int) (xs := [(partR g nodes).2.1]) (v := v508) (i := 0) Try.underlying25 rfl rfl (vc_sl o510 (VcR.consv hv505 (o493.flat).ro VcR.nil)) rfl (by omega) (by first | omega | (simp only [List.length_set, List.length_append, List.length_cons, List.length_nil, List.length_replicate, List.length_map, List.length_take, List.length_drop]; omega) | (simp; done) | (simp; omega))) ?_
     refine x_val (v := v492) 8 [7, 6, 5, 4, 3, 2, 1, 0] rfl (by kernel_rfl) (by kernel_rfl) rfl (e_load1 tp35_wb rfl (ow_atv hv505 o510 rfl)) ?_
     refine x_one 9 rfl (by kernel_rfl) rfl ?_
     obtain ⟨c525, hv526⟩ := vc_of (u := v492) (sl_one o493.flat)
     refine o_buildSlice (α := Vc) g506 (is 147) (is 147) (147, 0) rfl [c525] Try.underlying25 tp35_wb (by decide) (by decide) (vs := [(0, v492)]) rfl rfl (.cons (vc_els hv526 (sl_cells1 o493.flat)) .nil) ?_
     intro g527 w528 v529 ch530 o531
     refine x_one 10 rfl (by kernel_rfl) rfl ?_
     have C532 : Chg (inl [4]) _ _ _ _ := (ch512.n).seq ((hc517.n).seq ((ch520.l rfl).seq ((ch522.n).seq (ch530.n))))
     replace o_b_0_c7 := o_b_0_c7.chg C532 (is_nl rfl)
     replace o493 := o493.chg ch530 (not_no _) (not_no _)
     refine o_append_nst hv526 (α := Int) (xss := b_0_c7) (i := 17) (γ := g527) Try.underlying25 tp35_wb rfl rfl rfl o_b_0_c7 (o531.flat) o493 rfl (by decide) (by first | omega | (simp; done) | (simp; omega)) ?_
     intro g533 w534 v535 ch536 o537 r538
     clear o_b_0_c7
     clear o493
     refine x_pure (v := Value.pointer (some ⟨b40, 0, none⟩)) 11 rfl (by kernel_rfl) (by kernel_rfl) rfl (fun w => e_nilCheck rfl) ?_
     refine x_pure (v := Value.pointer (some ⟨b40, 0, none⟩)) 12 rfl (by kernel_rfl) (by kernel_rfl) rfl (fun w => e_fieldAddr Try.underlying49 rfl rfl rfl rfl) ?_
     refine x_one 13 rfl (by kernel_rfl) rfl ?_
     replace bx521 := (bx521.chg ch530 (not_no _)).chg ch536 (is_neix rfl rfl)
     refine o_store_bx1 (cs' := [v535, Value.int .i64 (b_1_c7 + (min (sCap v492 : Int) ((List.length ((partR g nodes).2.1) : Int) + 2000)))]) tp25_wb rfl rfl bx521 (sl_cells1 o537.sl) (Nat.le_of_ble_eq_true rfl) (sl_one o537.sl) rfl ?_
     intro w539 ch540 bx541
     clear bx521
     refine x_nil (by kernel_rfl) ?_
     refine run_inBlock ?_
     clear o531
     have C542 : Chg (inl [4, 17, 137, 139, 142, 144, 145]) _ _ _ _ := (ch421.n).seq ((ch426.n).seq ((ch433.l rfl).seq ((ch438.n).seq ((ch443.l rfl).seq ((ch453.l rfl).seq ((ch458.n).seq ((ch463.l rfl).seq ((ch477.n).seq ((ch479.n).seq ((ch484.l rfl).seq ((ch495.n).seq ((ch497.n).seq ((ch502.l rfl).seq ((ch509.n).seq ((ch512.n).seq ((hc517.n).seq ((ch520.l rfl).seq ((ch522.n).seq ((ch530.n).seq ((ch536.lx rfl rfl).seq (ch540.l rfl)))))))))))))))))))))
     replace hbase := hbase.chg C542 (is_nl rfl)
     replace r_g_v := r_g_v.chg C542 (is_nl rfl)
     have C543 : Chg (inl [4, 17, 139, 142, 144, 145]) _ _ _ _ := (ch453.l rfl).seq ((ch458.n).seq ((ch463.l rfl).seq ((ch477.n).seq ((ch479.n).seq ((ch484.l rfl).seq ((ch495.n).seq ((ch497.n).seq ((ch502.l rfl).seq ((ch509.n).seq ((ch512.n).seq ((hc517.n).seq ((ch520.l rfl).seq ((ch522.n).seq ((ch530.n).seq ((ch536.lx rfl rfl).seq (ch540.l rfl))))))))))))))))
     replace r_keep_v := r_keep_v.chg C543 (is_nl rfl)
     have C544 : Chg (inl [4, 17, 142, 144, 145]) _ _ _ _ := (ch477.n).seq ((ch479.n).seq ((ch484.l rfl).seq ((ch495.n).seq ((ch497.n).seq ((ch502.l rfl).seq ((ch509.n).seq ((ch512.n).seq ((hc517.n).seq ((ch520.l rfl).seq ((ch522.n).seq ((ch530.n).seq ((ch536.lx rfl rfl).seq (ch540.l rfl)))))))))))))
     replace r_nodes_v := r_nodes_v.chg C544 (is_nl rfl)
     replace bx5 := bx5.chg C542 (is_nl rfl)
     replace o21 := o21.chg C542 (is_nl rfl) (is_nl rfl)
     have C545 : Chg (inl [4, 17, 144, 145]) _ _ _ _ := (ch495.n).seq ((ch497.n).seq ((ch502.l rfl).seq ((ch509.n).seq ((ch512.n).seq ((hc517.n).seq ((ch520.l rfl).seq ((ch522.n).seq ((ch530.n).seq ((ch536.lx rfl rfl).seq (ch540.l rfl))))))))))
     replace r24 := r24.chg C545 (is_nl rfl)
     replace bx32 := bx32.chg C542 (is_nl rfl)
     have C546 : Chg (inl [4, 17, 137, 139, 142, 144, 145]) _ _ _ _ := (ch433.l rfl).seq ((ch438.n).seq ((ch443.l rfl).seq ((ch453.l rfl).seq ((ch458.n).seq ((ch463.l rfl).seq ((ch477.n).seq ((ch479.n).seq ((ch484.l rfl).seq ((ch495.n).seq ((ch497.n).seq ((ch502.l rfl).seq ((ch509.n).seq ((ch512.n).seq ((hc517.n).seq ((ch520.l rfl).seq ((ch522.n).seq ((ch530.n).seq ((ch536.lx rfl rfl).seq (ch540.l rfl)))))))))))))))))))
     replace bx429 := bx429.chg C546 (is_nl rfl)
     replace o444 := o444.chg C543 (is_nl rfl) (is_nl rfl)
     replace r448 := r448.chg C544 (is_nl rfl)
     replace o464 := o464.chg C544 (is_nl rfl) (is_nl rfl)
     replace r468 := r468.chg C545 (is_nl rfl)
     have C547 : Chg (inl [4, 17, 142, 144, 145]) _ _ _ _ := (ch484.l rfl).seq ((ch495.n).seq ((ch497.n).seq ((ch502.l rfl).seq ((ch509.n).seq ((ch512.n).seq ((hc517.n).seq ((ch520.l rfl).seq ((ch522.n).seq ((ch530.n).seq ((ch536.lx rfl rfl).seq (ch540.l rfl)))))))))))
     replace o475 := o475.chg C547 (is_nl rfl) (is_nl rfl)
     replace bx485 := bx485.chg C545 (is_nl rfl)
     have C548 : Chg (inl [4, 17, 144, 145]) _ _ _ _ := (ch502.l rfl).seq ((ch509.n).seq ((ch512.n).seq ((hc517.n).seq ((ch520.l rfl).seq ((ch522.n).seq ((ch530.n).seq ((ch536.lx rfl rfl).seq (ch540.l rfl))))))))
     replace o491 := o491.chg C548 (is_nl rfl) (is_nl rfl)
     replace r538 := r538.chg ch540 (isr_is rfl rfl)
     have C549 : Chg (inl [4, 17, 144]) _ _ _ _ := (ch509.n).seq ((ch512.n).seq ((hc517.n).seq ((ch520.l rfl).seq ((ch522.n).seq ((ch530.n).seq ((ch536.lx rfl rfl).seq (ch540.l rfl)))))))
     replace bx503 := bx503.chg C549 (is_nl rfl)
     have C550 : Chg (inl [4, 17, 144]) _ _ _ _ := (ch530.n).seq ((ch536.lx rfl rfl).seq (ch540.l rfl))
     replace o510 := o510.chg C550 (is_nl rfl) (is_nl rfl)
     replace o537 := o537.chg ch540 (is_ne rfl)
     refine mid_j26 (v535, (b_0_c7 ++ [(partR g nodes).2.1]), b_1_c7 + (min (sCap v492 : Int) ((List.length ((partR g nodes).2.1) : Int) + 2000)), g533) _ _ ⟨hbase, rfl, rfl, rfl, r_g_v, r_keep_v, r_nodes_v, bx5, o21, r24, bx32, bx541, bx429, o444, r448, o464, r468, o475, bx485, o491, r538, bx503, o510, o537, ?_⟩
     show KInv (b_0_c7 ++ [(partR g nodes).2.1]) (b_1_c7 + (min (sCap v492 : Int) ((List.length ((partR g nodes).2.1) : Int) + 2000)))
     first | assumption | exact KInv.nil | exact (KInv.add (by first | assumption | exact KInv.nil) (by omega) (by omega) (by omega))
    refine run_cond_f rfl (decide_eq_false p4_c12) ?_
    refine run_skip ?_
    refine run_inBlock ?_
    replace hbase := hbase.chg C518 (is_nl rfl)
    replace r_g_v := r_g_v.chg C518 (is_nl rfl)
    have C551 : Chg (inl [139, 142, 145]) _ _ _ _ := (ch453.l rfl).seq ((ch458.n).seq ((ch463.l rfl).seq ((ch477.n).seq ((ch479.n).seq ((ch484.l rfl).seq ((ch495.n).seq ((ch497.n).seq ((ch502.l rfl).seq ((ch509.n).seq ((ch512.n).seq (hc517.n)))))))))))
    replace r_keep_v := r_keep_v.chg C551 (is_nl rfl)
    have C552 : Chg (inl [142, 145]) _ _ _ _ := (ch477.n).seq ((ch479.n).seq ((ch484.l rfl).seq ((ch495.n).seq ((ch497.n).seq ((ch502.l rfl).seq ((ch509.n).seq ((ch512.n).seq (hc517.n))))))))
    replace r_nodes_v := r_nodes_v.chg C552 (is_nl rfl)
    replace bx5 := bx5.chg C518 (is_nl rfl)
    replace o21 := o21.chg C518 (is_nl rfl) (is_nl rfl)
    have C553 : Chg (inl [145]) _ _ _ _ := (ch495.n).seq ((ch497.n).seq ((ch502.l rfl).seq ((ch509.n).seq ((ch512.n).seq (hc517.n)))))
    replace r24 := r24.chg C553 (is_nl rfl)
    replace bx32 := bx32.chg C518 (is_nl rfl)
    have C554 : Chg (inl [137, 139, 142, 145]) _ _ _ _ := (ch433.l rfl).seq ((ch438.n).seq ((ch443.l rfl).seq ((ch453.l rfl).seq ((ch458.n).seq ((ch463.l rfl).seq ((ch477.n).seq ((ch479.n).seq ((ch484.l rfl).seq ((ch495.n).seq ((ch497.n).seq ((ch502.l rfl).seq ((ch509.n).seq ((ch512.n).seq (hc517.n))))))))))))))
    replace bx429 := bx429.chg C554 (is_nl rfl)
    replace o444 := o444.chg C551 (is_nl rfl) (is_nl rfl)
    replace r448 := r448.chg C552 (is_nl rfl)
    replace o464 := o464.chg C552 (is_nl rfl) (is_nl rfl)
    replace r468 := r468.chg C553 (is_nl rfl)
    have C555 : Chg (inl [142, 145]) _ _ _ _ := (ch484.l rfl).seq ((ch495.n).seq ((ch497.n).seq ((ch502.l rfl).seq ((ch509.n).seq ((ch512.n).seq (hc517.n))))))
    replace o475 := o475.chg C555 (is_nl rfl) (is_nl rfl)
    replace bx485 := bx485.chg C553 (is_nl rfl)
    have C556 : Chg (inl [145]) _ _ _ _ := (ch502.l rfl).seq ((ch509.n).seq ((ch512.n).seq (hc517.n)))
    replace o491 := o491.chg C556 (is_nl rfl) (is_nl rfl)
    replace o493 := o493.chg hc517 (not_no _) (not_no _)
    have C557 : Chg (inl []) _ _ _ _ := (ch509.n).seq ((ch512.n).seq (hc517.n))
    replace bx503 := bx503.chg C557 (is_nl rfl)
    replace o510 := o510.chg hc517 (not_no _) (not_no _)
    replace o_b_0_c7 := (o_b_0_c7.chg ch512 (not_no _)).chg hc517 (not_no _)
    refine mid_j26 (b_0_c7_v, b_0_c7, b_1_c7, g506) _ _ ⟨hbase, rfl, rfl, rfl, r_g_v, r_keep_v, r_nodes_v, bx5, o21, r24, bx32, bx42, bx429, o444, r448, o464, r468, o475, bx485, o491, o493.slk, bx503, o510, o_b_0_c7, ?_⟩
    show KInv b_0_c7 b_1_c7
    first | assumption | exact KInv.nil | exact (KInv.add (by first | assumption | exact KInv.nil) (by omega) (by omega) (by omega))
   refine l_skip (want_n rfl rfl rfl (decide_eq_false q25_c12)) ?_
   refine l_skip (want_n rfl rfl rfl (decide_eq_false q25_c12)) ?_
   refine l_skip (want_n rfl rfl rfl (decide_eq_false q25_c12)) ?_
   refine l_skip (want_n rfl rfl rfl (decide_eq_false q25_c12)) ?_
   refine l_skip (want_n rfl rfl rfl (decide_eq_false q25_c12)) ?_
   refine l_skip (want_n rfl rfl rfl (decide_eq_false q25_c12)) ?_
   refine l_skip (want_n rfl rfl rfl (decide_eq_false q25_c12)) ?_
   refine l_val (v := Value.bool false) rfl (e_pick_f rfl (decide_eq_false q25_c12) rfl) ?_
   refine l_nil ?_
   refine run_cond_f rfl rfl ?_
   refine run_skip ?_
   refine run_inBlock ?_
   have C558 : Chg (inl [137, 139, 142, 145]) _ _ _ _ := (ch421.n).seq ((ch426.n).seq ((ch433.l rfl).seq ((ch438.n).seq ((ch443.l rfl).seq ((ch453.l rfl).seq ((ch458.n).seq ((ch463.l rfl).seq ((ch477.n).seq ((ch479.n).seq ((ch484.l rfl).seq ((ch495.n).seq ((ch497.n).seq ((ch502.l rfl).seq ((ch509.n).seq ((ch512.n).seq (hc517.n))))))))))))))))
   replace hbase := hbase.chg C558 (is_nl rfl)
   replace r_g_v := r_g_v.chg C558 (is_nl rfl)
   have C559 : Chg (inl [139, 142, 145]) _ _ _ _ := (ch453.l rfl).seq ((ch458.n).seq ((ch463.l rfl).seq ((ch477.n).seq ((ch479.n).seq ((ch484.l rfl).seq ((ch495.n).seq ((ch497.n).seq ((ch502.l rfl).seq ((ch509.n).seq ((ch512.n).seq (hc517.n)))))))))))
   replace r_keep_v := r_keep_v.chg C559 (is_nl rfl)
   have C560 : Chg (inl [142, 145]) _ _ _ _ := (ch477.n).seq ((ch479.n).seq ((ch484.l rfl).seq ((ch495.n).seq ((ch497.n).seq ((ch502.l rfl).seq ((ch509.n).seq ((ch512.n).seq (hc517.n))))))))
   replace r_nodes_v := r_nodes_v.chg C560 (is_nl rfl)
   replace bx5 := bx5.chg C558 (is_nl rfl)
   replace o21 := o21.chg C558 (is_nl rfl) (is_nl rfl)
   have C561 : Chg (inl [145]) _ _ _ _ := (ch495.n).seq ((ch497.n).seq ((ch502.l rfl).seq ((ch509.n).seq ((ch512.n).seq (hc517.n)))))
   replace r24 := r24.chg C561 (is_nl rfl)
   replace bx32 := bx32.chg C558 (is_nl rfl)
   replace bx42 := bx42.chg C558 (is_nl rfl)
   have C562 : Chg (inl [137, 139, 142, 145]) _ _ _ _ := (ch433.l rfl).seq ((ch438.n).seq ((ch443.l rfl).seq ((ch453.l rfl).seq ((ch458.n).seq ((ch463.l rfl).seq ((ch477.n).seq ((ch479.n).seq ((ch484.l rfl).seq ((ch495.n).seq ((ch497.n).seq ((ch502.l rfl).seq ((ch509.n).seq ((ch512.n).seq (hc517.n))))))))))))))
   replace bx429 := bx429.chg C562 (is_nl rfl)
   replace o444 := o444.chg C559 (is_nl rfl) (is_nl rfl)
   replace r448 := r448.chg C560 (is_nl rfl)
   replace o464 := o464.chg C560 (is_nl rfl) (is_nl rfl)
   replace r468 := r468.chg C561 (is_nl rfl)
   have C563 : Chg (inl [142, 145]) _ _ _ _ := (ch484.l rfl).seq ((ch495.n).seq ((ch497.n).seq ((ch502.l rfl).seq ((ch509.n).seq ((ch512.n).seq (hc517.n))))))
   replace o475 := o475.chg C563 (is_nl rfl) (is_nl rfl)
   replace bx485 := bx485.chg C561 (is_nl rfl)
   have C564 : Chg (inl [145]) _ _ _ _ := (ch502.l rfl).seq ((ch509.n).seq ((ch512.n).seq (hc517.n)))
   replace o491 := o491.chg C564 (is_nl rfl) (is_nl rfl)
   replace o493 := o493.chg hc517 (not_no _) (not_no _)
   have C565 : Chg (inl []) _ _ _ _ := (ch509.n).seq ((ch512.n).seq (hc517.n))
   replace bx503 := bx503.chg C565 (is_nl rfl)
   replace o510 := o510.chg hc517 (not_no _) (not_no _)
   replace o_b_0_c7 := (o_b_0_c7.chg ch512 (not_no _)).chg hc517 (not_no _)
   refine mid_j26 (b_0_c7_v, b_0_c7, b_1_c7, g506) _ _ ⟨hbase, rfl, rfl, rfl, r_g_v, r_keep_v, r_nodes_v, bx5, o21, r24, bx32, bx42, bx429, o444, r448, o464, r468, o475, bx485, o491, o493.slk, bx503, o510, o_b_0_c7, ?_⟩
   show KInv b_0_c7 b_1_c7
   first | assumption | exact KInv.nil | exact (KInv.add (by first | assumption | exact KInv.nil) (by omega) (by omega) (by omega))
  clear r_g_v
  clear r_keep_v
  clear r_nodes_v
  clear bx5
  clear o21
  clear r24
  clear bx32
  clear bx42
  clear o_b_0_c7
  clear bx429
  clear o444
  clear r448
  clear o464
  clear r468
  clear o475
  clear bx485
  clear o491
  clear o493
  clear bx503
  clear o510
  clear hbase
  rintro ⟨b_0_j26_v, b_0_j26, b_1_j26, g568⟩ f566 w567 ⟨hbase, z569_0, z569_1, z569_4, r_g_v, r_keep_v, r_nodes_v, bx5, o21, r24, bx32, bx42, bx429, o444, r448, o464, r468, o475, bx485, o491, o493, bx503, o510, o_b_0_j26, hj_j26⟩
  obtain ⟨hja_j26, hjb_j26, hjc_j26⟩ := hj_j26.len
  refine run_region rfl ?_
  refine l_val (v := Value.int .i64 0) rfl (e_move (by exact z569_4)) ?_
  refine l_val (v := Value.int .i64 1) rfl (e_add (m := 0) (n := 1) rfl rfl (by omega)) ?_
  refine l_val (v := Value.int .i64 1) rfl (e_assign rfl) ?_
  refine l_nil ?_
  refine run_inLoop ?_
  refine run_seq ?_
  refine run_seq ?_
  refine run_region rfl ?_
  refine l_val (v := Value.int .i64 1) rfl (e_move rfl) ?_
  refine l_val (v := v508) rfl (e_move (by exact z569_1)) ?_
  refine l_val (v := Value.int .i64 1) rfl (e_len (α := Vc) (xs := [c504]) Try.underlying25 rfl o510.flat) ?_
  refine l_val (v := Value.bool false) rfl (e_lss (m := 1) (n := 1) rfl rfl) ?_
  refine l_nil ?_
  refine run_cond_f rfl rfl ?_
  refine run_exit rfl ?_
  refine run_end (vs := []) Try.func58 .nil ?_
  refine ⟨(b_0_j26_v, b_0_j26, b_1_j26, g568), rfl, hbase, r_g_v, r_keep_v, r_nodes_v, bx5, o21, r24, bx32, bx42, bx429, o444, r448, o464, r468, o475, bx485, o491, o493, bx503, o510, o_b_0_j26, ?_⟩
  show KInv b_0_j26 b_1_j26
  first | assumption | exact KInv.nil | exact (KInv.add (by first | assumption | exact KInv.nil) (by omega) (by omega) (by omega))
 clear r_g_v
 clear r_keep_v
 clear r_nodes_v
 clear bx5
 clear o21
 clear r24
 clear bx32
 clear bx42
 clear o_b_0_c7
 clear bx429
 clear o444
 clear r448
 clear o464
 clear r468
 clear o475
 clear bx485
 clear o491
 clear o493
 clear bx503
 clear o510
 clear hbase
 rintro ⟨b_0_c12_v, b_0_c12, b_1_c12, g571⟩ w570 ⟨hbase, r_g_v, r_keep_v, r_nodes_v, bx5, o21, r24, bx32, bx42, bx429, o444, r448, o464, r468, o475, bx485, o491, o493, bx503, o510, o_b_0_c12, hj_c12⟩
 obtain ⟨hja_c12, hjb_c12, hjc_c12⟩ := hj_c12.len
 refine l_nil ?_
 refine run_seq ?_
 refine run_seq ?_
 clear o510
 refine run_region rfl ?_
 refine l_val (v := (subV v442 1 (Int.toNat 0) (Int.toNat (List.length keep : Int)))) rfl (e_move rfl) ?_
 refine l_val (v := keep_v) rfl (e_move rfl) ?_
 refine l_val (v := Value.int .i64 (List.length keep : Int)) rfl (e_len Try.underlying35 rfl r_keep_v) ?_
 refine l_val (v := Value.int .i64 ((List.length keep : Int) + 1)) rfl (e_add (m := (List.length keep : Int)) (n := 1) rfl rfl (by omega)) ?_
 refine l_val (v := (subV v442 1 0 (Int.toNat ((List.length keep : Int) + 1)))) rfl (e_slice_re (α := Int) (xs := (keep ++ [77])) (v := v442) (h := (List.length keep : Int) + 1) Try.underlying35 rfl rfl o444.flat rfl (by first | omega | (simp only [List.length_set, List.length_append, List.length_cons, List.length_nil, List.length_replicate, List.length_map, List.length_take, List.length_drop]; omega) | (simp; done) | (simp; omega)) (by first | omega | (simp only [List.length_set, List.length_append, List.length_cons, List.length_nil, List.length_replicate, List.length_map, List.length_take, List.length_drop]; omega) | (simp; done) | (simp; omega))) ?_
 have r572 := sl_sub o444.flat (show 0 ≤ Int.toNat ((List.length keep : Int) + 1) by omega) (show Int.toNat ((List.length keep : Int) + 1) ≤ List.length _ by first | omega | (simp only [List.length_set, List.length_append, List.length_cons, List.length_nil, List.length_replicate, List.length_map, List.length_take, List.length_drop]; omega) | (simp; done) | (simp; omega))
 refine l_val (v := keep_v) rfl (e_move rfl) ?_
 refine l_val (v := Value.int .i64 (List.length keep : Int)) rfl (e_len Try.underlying35 rfl r_keep_v) ?_
 refine l_val (v := Value.pointer (some (eAddr (subV v442 1 0 (Int.toNat ((List.length keep : Int) + 1))) 1 (Int.toNat (List.length keep : Int))))) rfl (e_indexAddr (α := Int) (xs := (List.drop 0 (List.take (Int.toNat ((List.length keep : Int) + 1)) (keep ++ [77])))) (v := (subV v442 1 0 (Int.toNat ((List.length keep : Int) + 1)))) (i := (List.length keep : Int)) Try.underlying35 rfl rfl r572 rfl (by omega) (by first | omega | (simp only [List.length_set, List.length_append, List.length_cons, List.length_nil, List.length_replicate, List.length_map, List.length_take, List.length_drop]; omega) | (simp; done) | (simp; omega))) ?_
 refine l_val (v := Value.int .i64 (gI (List.drop 0 (List.take (Int.toNat ((List.length keep : Int) + 1)) (keep ++ [77]))) (List.length keep : Int))) rfl (e_load_el1 (α := Int) (xs := (List.drop 0 (List.take (Int.toNat ((List.length keep : Int) + 1)) (keep ++ [77])))) (v := (subV v442 1 0 (Int.toNat ((List.length keep : Int) + 1)))) (i := (List.length keep : Int)) tp3_wb rfl r572 (by omega) (by first | omega | (simp only [List.length_set, List.length_append, List.length_cons, List.length_nil, List.length_replicate, List.length_map, List.length_take, List.length_drop]; omega) | (simp; done) | (simp; omega)) (by decide) rfl) ?_
 refine l_val (v := Value.bool (!(decide ((gI (List.drop 0 (List.take (Int.toNat ((List.length keep : Int) + 1)) (keep ++ [77]))) (List.length keep : Int)) = 77)))) rfl (e_neq (m := (gI (List.drop 0 (List.take (Int.toNat ((List.length keep : Int) + 1)) (keep ++ [77]))) (List.length keep : Int))) (n := 77) rfl rfl) ?_
 refine l_val (v := Value.bool (!(decide ((gI (List.drop 0 (List.take (Int.toNat ((List.length keep : Int) + 1)) (keep ++ [77]))) (List.length keep : Int)) = 77)))) rfl (e_move rfl) ?_
 have q67_c11 : (gI (List.drop 0 (List.take (Int.toNat ((List.length keep : Int) + 1)) (keep ++ [77]))) (List.length keep : Int)) = 77 := by first | rfl | exact decide_eq_true rfl | (simp [gI]; done) | (rw [hs_c11]; done) | (rw [hp_c11]; done) | (rw [hs_c11]; exact decide_eq_true rfl) | (rw [hp_c11]; exact decide_eq_true rfl) | (rw [hp_c11]; rfl)
 refine l_val (v := (subV v462 1 (Int.toNat 0) (Int.toNat (List.length nodes : Int)))) (want_y rfl rfl rfl (congrArg Bool.not (decide_eq_true q67_c11))) (e_move rfl) ?_
 refine l_val (v := nodes_v) (want_y rfl rfl rfl (congrArg Bool.not (decide_eq_true q67_c11))) (e_move rfl) ?_
 refine l_val (v := Value.int .i64 (List.length nodes : Int)) (want_y rfl rfl rfl (congrArg Bool.not (decide_eq_true q67_c11))) (e_len Try.underlying35 rfl r_nodes_v) ?_
 refine l_val (v := Value.int .i64 ((List.length nodes : Int) + 1)) (want_y rfl rfl rfl (congrArg Bool.not (decide_eq_true q67_c11))) (e_add (m := (List.length nodes : Int)) (n := 1) rfl rfl (by omega)) ?_
 refine l_val (v := (subV v462 1 0 (Int.toNat ((List.length nodes : Int) + 1)))) (want_y rfl rfl rfl (congrArg Bool.not (decide_eq_true q67_c11))) (e_slice_re (α := Int) (xs := (nodes ++ [77])) (v := v462) (h := (List.length nodes : Int) + 1) Try.underlying35 rfl rfl o464.flat rfl (by first | omega | (simp only [List.length_set, List.length_append, List.length_cons, List.length_nil, List.length_replicate, List.length_map, List.length_take, List.length_drop]; omega) | (simp; done) | (simp; omega)) (by first | omega | (simp only [List.length_set, List.length_append, List.length_cons, List.length_nil, List.length_replicate, List.length_map, List.length_take, List.length_drop]; omega) | (simp; done) | (simp; omega))) ?_
 have r573 := sl_sub o464.flat (show 0 ≤ Int.toNat ((List.length nodes : Int) + 1) by omega) (show Int.toNat ((List.length nodes : Int) + 1) ≤ List.length _ by first | omega | (simp only [List.length_set, List.length_append, List.length_cons, List.length_nil, List.length_replicate, List.length_map, List.length_take, List.length_drop]; omega) | (simp; done) | (simp; omega))
 refine l_val (v := nodes_v) (want_y rfl rfl rfl (congrArg Bool.not (decide_eq_true q67_c11))) (e_move rfl) ?_
 refine l_val (v := Value.int .i64 (List.length nodes : Int)) (want_y rfl rfl rfl (congrArg Bool.not (decide_eq_true q67_c11))) (e_len Try.underlying35 rfl r_nodes_v) ?_
 refine l_val (v := Value.pointer (some (eAddr (subV v462 1 0 (Int.toNat ((List.length nodes : Int) + 1))) 1 (Int.toNat (List.length nodes : Int))))) (want_y rfl rfl rfl (congrArg Bool.not (decide_eq_true q67_c11))) (e_indexAddr (α := Int) (xs := (List.drop 0 (List.take (Int.toNat ((List.length nodes : Int) + 1)) (nodes ++ [77])))) (v := (subV v462 1 0 (Int.toNat ((List.length nodes : Int) + 1)))) (i := (List.length nodes : Int)) Try.underlying35 rfl rfl r573 rfl (by omega) (by first | omega | (simp only [List.length_set, List.length_append, List.length_cons, List.length_nil, List.length_replicate, List.length_map, List.length_take, List.length_drop]; omega) | (simp; done) | (simp; omega))) ?_
 refine l_val (v := Value.int .i64 (gI (List.drop 0 (List.take (Int.toNat ((List.length nodes : Int) + 1)) (nodes ++ [77]))) (List.length nodes : Int))) (want_y rfl rfl rfl (congrArg Bool.not (decide_eq_true q67_c11))) (e_load_el1 (α := Int) (xs := (List.drop 0 (List.take (Int.toNat ((List.length nodes : Int) + 1)) (nodes ++ [77])))) (v := (subV v462 1 0 (Int.toNat ((List.length nodes : Int) + 1)))) (i := (List.length nodes : Int)) tp3_wb rfl r573 (by omega) (by first | omega | (simp only [List.length_set, List.length_append, List.length_cons, List.length_nil, List.length_replicate, List.length_map, List.length_take, List.length_drop]; omega) | (simp; done) | (simp; omega)) (by decide) rfl) ?_
 refine l_val (v := Value.bool (!(decide ((gI (List.drop 0 (List.take (Int.toNat ((List.length nodes : Int) + 1)) (nodes ++ [77]))) (List.length nodes : Int)) = 77)))) (want_y rfl rfl rfl (congrArg Bool.not (decide_eq_true q67_c11))) (e_neq (m := (gI (List.drop 0 (List.take (Int.toNat ((List.length nodes : Int) + 1)) (nodes ++ [77]))) (List.length nodes : Int))) (n := 77) rfl rfl) ?_
 refine l_val (v := Value.bool (!(decide ((gI (List.drop 0 (List.take (Int.toNat ((List.length nodes : Int) + 1)) (nodes ++ [77]))) (List.length nodes : Int)) = 77)))) rfl (e_pick_f rfl (congrArg Bool.not (decide_eq_true q67_c11)) rfl) ?_
 refine l_val (v := Value.bool (!(decide ((gI (List.drop 0 (List.take (Int.toNat ((List.length nodes : Int) + 1)) (nodes ++ [77]))) (List.length nodes : Int)) = 77)))) rfl (e_move rfl) ?_
 have q79_c11 : (gI (List.drop 0 (List.take (Int.toNat ((List.length nodes : Int) + 1)) (nodes ++ [77]))) (List.length nodes : Int)) = 77 := by first | rfl | exact decide_eq_true rfl | (simp [gI]; done) | (rw [hs_c11]; done) | (rw [hp_c11]; done) | (rw [hs_c11]; exact decide_eq_true rfl) | (rw [hp_c11]; exact decide_eq_true rfl) | (rw [hp_c11]; rfl)
 refine l_val (v := (subV v442 1 (Int.toNat 0) (Int.toNat (List.length keep : Int)))) (want_y rfl rfl rfl (congrArg Bool.not (decide_eq_true q79_c11))) (e_move rfl) ?_
 refine l_val (v := keep_v) (want_y rfl rfl rfl (congrArg Bool.not (decide_eq_true q79_c11))) (e_move rfl) ?_
 refine l_op (want_y rfl rfl rfl (congrArg Bool.not (decide_eq_true q79_c11))) ?_
 refine o_call (v := Value.bool (decide (keep = keep))) (e_call (vals := [(subV v442 1 (Int.toNat 0) (Int.toNat (List.length keep : Int))), keep_v]) Try.func38 bd38_wb nm38_wb rfl) (rInts_ok w570 keep (subV v442 1 (Int.toNat 0) (Int.toNat (List.length keep : Int))) (r448).ro keep keep_v (r_keep_v).ro) ?_
 intro w574 hb575
 replace hb575 := chg_below hb575 g571
 refine l_val (v := Value.bool (!(decide (keep = keep)))) (want_y rfl rfl rfl (congrArg Bool.not (decide_eq_true q79_c11))) (e_not (b := (decide (keep = keep))) rfl) ?_
 refine l_val (v := Value.bool (!(decide (keep = keep)))) rfl (e_pick_f rfl (congrArg Bool.not (decide_eq_true q79_c11)) rfl) ?_
 refine l_val (v := Value.bool (!(decide (keep = keep)))) rfl (e_move rfl) ?_
 have q85_c11 : (decide (keep = keep)) = true := by first | rfl | exact decide_eq_true rfl | (simp [gI]; done) | (rw [hs_c11]; done) | (rw [hp_c11]; done) | (rw [hs_c11]; exact decide_eq_true rfl) | (rw [hp_c11]; exact decide_eq_true rfl) | (rw [hp_c11]; rfl)
 refine l_val (v := (subV v462 1 (Int.toNat 0) (Int.toNat (List.length nodes : Int)))) (want_y rfl rfl rfl (congrArg Bool.not q85_c11)) (e_move rfl) ?_
 refine l_val (v := nodes_v) (want_y rfl rfl rfl (congrArg Bool.not q85_c11)) (e_move rfl) ?_
 replace r468 := r468.chg hb575 (not_no _)
 replace r_nodes_v := r_nodes_v.chg hb575 (not_no _)
 refine l_op (want_y rfl rfl rfl (congrArg Bool.not q85_c11)) ?_
 refine o_call (v := Value.bool (decide (nodes = nodes))) (e_call (vals := [(subV v462 1 (Int.toNat 0) (Int.toNat (List.length nodes : Int))), nodes_v]) Try.func38 bd38_wb nm38_wb rfl) (rInts_ok w574 nodes (subV v462 1 (Int.toNat 0) (Int.toNat (List.length nodes : Int))) (r468).ro nodes nodes_v (r_nodes_v).ro) ?_
 intro w576 hb577
 replace hb577 := chg_below hb577 g571
 refine l_val (v := Value.bool (!(decide (nodes = nodes)))) (want_y rfl rfl rfl (congrArg Bool.not q85_c11)) (e_not (b := (decide (nodes = nodes))) rfl) ?_
 refine l_val (v := Value.bool (!(decide (nodes = nodes)))) rfl (e_pick_f rfl (congrArg Bool.not q85_c11) rfl) ?_
 refine l_nil ?_
 have p6_c11 : (decide (nodes = nodes)) = true := by first | rfl | exact decide_eq_true rfl | (simp [gI]; done) | (rw [hs_c11]; done) | (rw [hp_c11]; done) | (rw [hs_c11]; exact decide_eq_true rfl) | (rw [hp_c11]; exact decide_eq_true rfl) | (rw [hp_c11]; rfl)
 refine run_cond_f rfl (congrArg Bool.not p6_c11) ?_
 refine run_skip ?_
 refine run_seq ?_
 refine run_seq ?_
 clear o444
 clear r448
 clear o464
 clear r468
 clear r572
 clear r573
 refine run_region rfl ?_
 refine l_val (v := Value.bool (mayB g)) rfl (e_move rfl) ?_
 refine l_val (v := Value.bool (!(mayB g))) rfl (e_not (b := (mayB g)) rfl) ?_
 refine l_nil ?_
 by_cases p8_c11 : (mayB g) = true
 ·
  have hm_c11 := of_decide_eq_true p8_c11
  refine run_cond_f rfl (congrArg Bool.not p8_c11) ?_
  refine run_skip ?_
  refine run_seq ?_
  refine run_region rfl ?_
  replace bx429 := (bx429.chg hb575 (not_no _)).chg hb577 (not_no _)
  refine l_val (v := Value.agg (List.toArray [Value.int .i64 g.1, g_v])) rfl (e_load_bxN (ds := [Value.int .i64 g.1, g_v]) tp24_wb rfl bx429 rfl rfl) ?_
  refine l_val (v := keep_v) rfl (e_move rfl) ?_
  replace r_g_v := (r_g_v.chg hb575 (not_no _)).chg hb577 (not_no _)
  replace r_keep_v := (r_keep_v.chg hb575 (not_no _)).chg hb577 (not_no _)
  refine l_op rfl ?_
  refine o_callx (e_call (vals := [Value.agg (List.toArray [Value.int .i64 g.1, g_v]), keep_v]) Try.func66 bd66_wb nm66_wb rfl) (rSub_ok w576 g g_v (r_g_v).ro keep keep_v (r_keep_v).ro (by exact hm_c11)) ?_
  rintro ⟨d579, v581⟩ w578 ⟨fr580, o582⟩
  obtain ⟨g583, hg583⟩ : ∃ q, q = glue w576.heap.size g571 d579 (fun n => if n = 1 then 148 else 0) := ⟨_, rfl⟩
  have ch584 := chg_glue fr580.below g571 d579 (fun n => if n = 1 then 148 else 0)
  rw [← hg583] at ch584
  replace o582 := o582.glue (γ := g571) (ren := (fun n => if n = 1 then 148 else 0)) (k := 148) fr580.col rfl rfl
  rw [← hg583] at o582
  clear hg583
  refine l_val (v := Value.tuple (List.toArray [Value.agg (List.toArray [Value.int .i64 (((subR g keep).1).1), v581]), Value.int .i64 ((subR g keep).2)])) rfl (e_move rfl) ?_
  refine l_val (v := Value.agg (List.toArray [Value.int .i64 (((subR g keep).1).1), v581])) rfl (e_extract rfl rfl) ?_
  refine l_val (v := Value.int .i64 ((subR g keep).2)) rfl (e_extract rfl rfl) ?_
  refine l_op rfl ?_
  refine o_alloc g583 (is 149) (149, 0) rfl tp24_wb ?_
  intro g588 w585 b587 ch586 bx589
  replace bx589 : Bx g588 (is 149) w585 b587 [Value.int .i64 0, Value.slice none 0 0] := bx589
  refine l_op rfl ?_
  replace o582 := o582.chg ch586 (not_no _) (not_no _)
  refine o_store_bx (cs' := [Value.int .i64 (((subR g keep).1).1), v581]) tp24_wb rfl rfl bx589 rfl (Nat.le_of_ble_eq_true rfl) (AllOne.all (.cons rfl (.cons (sl_one o582.flat) .nil))) rfl ?_
  intro w590 ch591 bx592
  clear bx589
  refine l_val (v := Value.int .i64 ((subR g keep).2)) rfl (e_assign rfl) ?_
  refine l_nil ?_
  refine run_seq ?_
  refine run_region rfl ?_
  have C593 : Chg (inl [149]) _ _ _ _ := (ch584.n).seq ((ch586.n).seq (ch591.l rfl))
  replace bx429 := bx429.chg C593 (is_nl rfl)
  refine l_val (v := Value.agg (List.toArray [Value.int .i64 g.1, g_v])) rfl (e_load_bxN (ds := [Value.int .i64 g.1, g_v]) tp24_wb rfl bx429 rfl rfl) ?_
  refine l_val (v := nodes_v) rfl (e_move rfl) ?_
  replace r_g_v := r_g_v.chg C593 (is_nl rfl)
  have C594 : Chg (inl [149]) _ _ _ _ := (hb577.n).seq ((ch584.n).seq ((ch586.n).seq (ch591.l rfl)))
  replace r_nodes_v := r_nodes_v.chg C594 (is_nl rfl)
  refine l_op rfl ?_
  refine o_callx (e_call (vals := [Value.agg (List.toArray [Value.int .i64 g.1, g_v]), nodes_v]) Try.func67 bd67_wb nm67_wb rfl) (rPart_ok w590 g g_v (r_g_v).ro nodes nodes_v (r_nodes_v).ro (by exact hm_c11)) ?_
  rintro ⟨d596, v598, v600⟩ w595 ⟨fr597, o599, o601⟩
  obtain ⟨g602, hg602⟩ : ∃ q, q = glue w590.heap.size g588 d596 (fun n => if n = 1 then 150 else if n = 2 then 151 else 0) := ⟨_, rfl⟩
  have ch603 := chg_glue fr597.below g588 d596 (fun n => if n = 1 then 150 else if n = 2 then 151 else 0)
  rw [← hg602] at ch603
  replace o599 := o599.glue (γ := g588) (ren := (fun n => if n = 1 then 150 else if n = 2 then 151 else 0)) (k := 150) fr597.col rfl rfl
  rw [← hg602] at o599
  replace o601 := o601.glue (γ := g588) (ren := (fun n => if n = 1 then 150 else if n = 2 then 151 else 0)) (k := 151) fr597.col rfl rfl
  rw [← hg602] at o601
  clear hg602
  refine l_val (v := Value.tuple (List.toArray [Value.agg (List.toArray [Value.int .i64 (((partR g nodes).1).1), v598]), v600, Value.int .i64 ((partR g nodes).2.2)])) rfl (e_move rfl) ?_
  refine l_val (v := Value.agg (List.toArray [Value.int .i64 (((partR g nodes).1).1), v598])) rfl (e_extract rfl rfl) ?_
  refine l_val (v := v600) rfl (e_extract rfl rfl) ?_
  refine l_val (v := Value.int .i64 ((partR g nodes).2.2)) rfl (e_extract rfl rfl) ?_
  refine l_op rfl ?_
  refine o_alloc g602 (is 152) (152, 0) rfl tp24_wb ?_
  intro g607 w604 b606 ch605 bx608
  replace bx608 : Bx g607 (is 152) w604 b606 [Value.int .i64 0, Value.slice none 0 0] := bx608
  refine l_op rfl ?_
  replace o599 := o599.chg ch605 (not_no _) (not_no _)
  refine o_store_bx (cs' := [Value.int .i64 (((partR g nodes).1).1), v598]) tp24_wb rfl rfl bx608 rfl (Nat.le_of_ble_eq_true rfl) (AllOne.all (.cons rfl (.cons (sl_one o599.flat) .nil))) rfl ?_
  intro w609 ch610 bx611
  clear bx608
  refine l_val (v := v600) rfl (e_assign rfl) ?_
  refine l_val (v := Value.int .i64 ((partR g nodes).2.2)) rfl (e_assign rfl) ?_
  refine l_nil ?_
  refine run_seq ?_
  clear bx429
  refine run_region rfl ?_
  refine l_val (v := Value.int .i64 ((subR g keep).2)) rfl (e_move rfl) ?_
  refine l_val (v := Value.int .i64 ((subR g keep).2)) rfl (e_move rfl) ?_
  refine l_val (v := Value.bool (decide (((subR g keep).2) = ((subR g keep).2)))) rfl (e_eql (m := (subR g keep).2) (n := (subR g keep).2) rfl rfl) ?_
  refine l_val (v := Value.bool (decide (((subR g keep).2) = ((subR g keep).2)))) rfl (e_move rfl) ?_
  have q130_c11 : ((subR g keep).2) = ((subR g keep).2) := by first | rfl | exact decide_eq_true rfl | (simp [gI]; done) | (rw [hs_c11]; done) | (rw [hp_c11]; done) | (rw [hs_c11]; exact decide_eq_true rfl) | (rw [hp_c11]; exact decide_eq_true rfl) | (rw [hp_c11]; rfl)
  have C612 : Chg (inl [149, 152]) _ _ _ _ := (hb575.n).seq ((hb577.n).seq ((ch584.n).seq ((ch586.n).seq ((ch591.l rfl).seq ((ch603.n).seq ((ch605.n).seq (ch610.l rfl)))))))
  replace bx485 := bx485.chg C612 (is_nl rfl)
  refine l_val (v := Value.agg (List.toArray [Value.int .i64 (((subR g keep).1).1), v474])) (want_y rfl rfl rfl (decide_eq_true q130_c11)) (e_load_bxN (ds := [Value.int .i64 (((subR g keep).1).1), v474]) tp24_wb rfl bx485 rfl rfl) ?_
  have C613 : Chg (inl [152]) _ _ _ _ := (ch603.n).seq ((ch605.n).seq (ch610.l rfl))
  replace bx592 := bx592.chg C613 (is_nl rfl)
  refine l_val (v := Value.agg (List.toArray [Value.int .i64 (((subR g keep).1).1), v581])) (want_y rfl rfl rfl (decide_eq_true q130_c11)) (e_load_bxN (ds := [Value.int .i64 (((subR g keep).1).1), v581]) tp24_wb rfl bx592 rfl rfl) ?_
  replace o475 := o475.chg C612 (is_nl rfl) (is_nl rfl)
  have C614 : Chg (inl [149, 152]) _ _ _ _ := (ch591.l rfl).seq ((ch603.n).seq ((ch605.n).seq (ch610.l rfl)))
  replace o582 := o582.chg C614 (is_nl rfl) (is_nl rfl)
  refine l_op (want_y rfl rfl rfl (decide_eq_true q130_c11)) ?_
  refine o_call (v := Value.bool (decide (((subR g keep).1) = ((subR g keep).1)))) (e_call (vals := [Value.agg (List.toArray [Value.int .i64 (((subR g keep).1).1), v474]), Value.agg (List.toArray [Value.int .i64 (((subR g keep).1).1), v581])]) Try.func37 bd37_wb nm37_wb rfl) (rSame_ok w609 ((subR g keep).1) v474 (o475.flat).ro ((subR g keep).1) v581 (o582.flat).ro) ?_
  intro w615 hb616
  replace hb616 := chg_below hb616 g607
  refine l_val (v := Value.bool (decide (((subR g keep).1) = ((subR g keep).1)))) rfl (e_pick_t rfl (decide_eq_true q130_c11) rfl) ?_
  refine l_val (v := Value.bool (decide (((subR g keep).1) = ((subR g keep).1)))) rfl (e_move rfl) ?_
  have q135_c11 : (decide (((subR g keep).1) = ((subR g keep).1))) = true := by first | rfl | exact decide_eq_true rfl | (simp [gI]; done) | (rw [hs_c11]; done) | (rw [hp_c11]; done) | (rw [hs_c11]; exact decide_eq_true rfl) | (rw [hp_c11]; exact decide_eq_true rfl) | (rw [hp_c11]; rfl)
  refine l_val (v := Value.int .i64 ((partR g nodes).2.2)) (want_y rfl rfl rfl q135_c11) (e_move rfl) ?_
  refine l_val (v := Value.int .i64 ((partR g nodes).2.2)) (want_y rfl rfl rfl q135_c11) (e_move rfl) ?_
  refine l_val (v := Value.bool (decide (((partR g nodes).2.2) = ((partR g nodes).2.2)))) (want_y rfl rfl rfl q135_c11) (e_eql (m := (partR g nodes).2.2) (n := (partR g nodes).2.2) rfl rfl) ?_
  refine l_val (v := Value.bool (decide (((partR g nodes).2.2) = ((partR g nodes).2.2)))) rfl (e_pick_t rfl q135_c11 rfl) ?_
  refine l_val (v := Value.bool (decide (((partR g nodes).2.2) = ((partR g nodes).2.2)))) rfl (e_move rfl) ?_
  have q140_c11 : ((partR g nodes).2.2) = ((partR g nodes).2.2) := by first | rfl | exact decide_eq_true rfl | (simp [gI]; done) | (rw [hs_c11]; done) | (rw [hp_c11]; done) | (rw [hs_c11]; exact decide_eq_true rfl) | (rw [hp_c11]; exact decide_eq_true rfl) | (rw [hp_c11]; rfl)
  have C617 : Chg (inl [149, 152]) _ _ _ _ := (hb575.n).seq ((hb577.n).seq ((ch584.n).seq ((ch586.n).seq ((ch591.l rfl).seq ((ch603.n).seq ((ch605.n).seq ((ch610.l rfl).seq (hb616.n))))))))
  replace bx503 := bx503.chg C617 (is_nl rfl)
  refine l_val (v := Value.agg (List.toArray [Value.int .i64 (((partR g nodes).1).1), v490])) (want_y rfl rfl rfl (decide_eq_true q140_c11)) (e_load_bxN (ds := [Value.int .i64 (((partR g nodes).1).1), v490]) tp24_wb rfl bx503 rfl rfl) ?_
  replace bx611 := bx611.chg hb616 (not_no _)
  refine l_val (v := Value.agg (List.toArray [Value.int .i64 (((partR g nodes).1).1), v598])) (want_y rfl rfl rfl (decide_eq_true q140_c11)) (e_load_bxN (ds := [Value.int .i64 (((partR g nodes).1).1), v598]) tp24_wb rfl bx611 rfl rfl) ?_
  replace o491 := o491.chg C617 (is_nl rfl) (is_nl rfl)
  replace o599 := (o599.chg ch610 (is_ne rfl) (is_ne rfl)).chg hb616 (not_no _) (not_no _)
  refine l_op (want_y rfl rfl rfl (decide_eq_true q140_c11)) ?_
  refine o_call (v := Value.bool (decide (((partR g nodes).1) = ((partR g nodes).1)))) (e_call (vals := [Value.agg (List.toArray [Value.int .i64 (((partR g nodes).1).1), v490]), Value.agg (List.toArray [Value.int .i64 (((partR g nodes).1).1), v598])]) Try.func37 bd37_wb nm37_wb rfl) (rSame_ok w615 ((partR g nodes).1) v490 (o491.flat).ro ((partR g nodes).1) v598 (o599.flat).ro) ?_
  intro w618 hb619
  replace hb619 := chg_below hb619 g607
  refine l_val (v := Value.bool (decide (((partR g nodes).1) = ((partR g nodes).1)))) rfl (e_pick_t rfl (decide_eq_true q140_c11) rfl) ?_
  refine l_val (v := Value.bool (decide (((partR g nodes).1) = ((partR g nodes).1)))) rfl (e_move rfl) ?_
  have q145_c11 : (decide (((partR g nodes).1) = ((partR g nodes).1))) = true := by first | rfl | exact decide_eq_true rfl | (simp [gI]; done) | (rw [hs_c11]; done) | (rw [hp_c11]; done) | (rw [hs_c11]; exact decide_eq_true rfl) | (rw [hp_c11]; exact decide_eq_true rfl) | (rw [hp_c11]; rfl)
  refine l_val (v := v492) (want_y rfl rfl rfl q145_c11) (e_move rfl) ?_
  refine l_val (v := v600) (want_y rfl rfl rfl q145_c11) (e_move rfl) ?_
  replace o493 := (((((((((o493.chg hb575 (not_no _)).chg hb577 (not_no _)).chg ch584 (not_no _)).chg ch586 (not_no _)).chg ch591 (isr_is rfl rfl)).chg ch603 (not_no _)).chg ch605 (not_no _)).chg ch610 (isr_is rfl rfl)).chg hb616 (not_no _)).chg hb619 (not_no _)
  have C620 : Chg (inl [152]) _ _ _ _ := (ch605.n).seq ((ch610.l rfl).seq ((hb616.n).seq (hb619.n)))
  replace o601 := o601.chg C620 (is_nl rfl) (is_nl rfl)
  refine l_op (want_y rfl rfl rfl q145_c11) ?_
  refine o_call (v := Value.bool (decide (((partR g nodes).2.1) = ((partR g nodes).2.1)))) (e_call (vals := [v492, v600]) Try.func38 bd38_wb nm38_wb rfl) (rInts_ok w618 ((partR g nodes).2.1) v492 (o493).ro ((partR g nodes).2.1) v600 (o601.flat).ro) ?_
  intro w621 hb622
  replace hb622 := chg_below hb622 g607
  refine l_val (v := Value.bool (decide (((partR g nodes).2.1) = ((partR g nodes).2.1)))) rfl (e_pick_t rfl q145_c11 rfl) ?_
  refine l_val (v := Value.bool (decide (((partR g nodes).2.1) = ((partR g nodes).2.1)))) rfl (e_assign rfl) ?_
  refine l_nil ?_
  refine run_seq ?_
  clear o493
  clear o582
  clear bx592
  clear o599
  clear o601
  clear bx611
  refine run_region rfl ?_
  have C623 : Chg (inl []) _ _ _ _ := (hb616.n).seq ((hb619.n).seq (hb622.n))
  replace bx485 := bx485.chg C623 (is_nl rfl)
  refine l_val (v := Value.agg (List.toArray [Value.int .i64 (((subR g keep).1).1), v474])) rfl (e_load_bxN (ds := [Value.int .i64 (((subR g keep).1).1), v474]) tp24_wb rfl bx485 rfl rfl) ?_
  refine l_op rfl ?_
  refine o_inline (e_call (vals := [Value.agg (List.toArray [Value.int .i64 (((subR g keep).1).1), v474])]) Try.func64 bd64_wb nm64_wb rfl) ?_
  refine calls_of_run Try.func64 rfl (Nat.le_of_ble_eq_true rfl) ?_
  replace o475 := o475.chg C623 (is_nl rfl) (is_nl rfl)
  have hsp_c13 : (List.length (((subR g keep).1).2) : Int) ≤ 10000 := by first | exact split_few (by omega) | exact bare_few (by omega) | exact sub_few (by omega) | exact part_few (by omega) | exact merge_few (by omega)
  refine run_seq ?_
  refine run_region rfl ?_
  refine l_op rfl ?_
  refine o_box g607 (is 153) (153, 0) rfl rfl ?_
  intro g627 w624 b626 ch625 bx628
  replace bx628 : Bx g627 (is 153) w624 b626 [Value.int .i64 (((subR g keep).1).1), v474] := bx628
  refine l_nil ?_
  refine run_seq ?_
  refine run_seq ?_
  refine run_region rfl ?_
  refine l_val (v := Value.pointer (some ⟨b626, 1, none⟩)) rfl (e_fieldAddr Try.underlying24 rfl rfl rfl rfl) ?_
  refine l_val (v := v474) rfl (e_load_bx1 tp22_wb rfl bx628 rfl) ?_
  replace o475 := o475.chg ch625 (not_no _) (not_no _)
  have len629 := (o475.flat).small
  refine l_val (v := Value.int .i64 (List.length (((subR g keep).1).2) : Int)) rfl (e_len Try.underlying22 rfl o475.flat) ?_
  refine l_val (v := Value.pointer (some ⟨b626, 1, none⟩)) rfl (e_fieldAddr Try.underlying24 rfl rfl rfl rfl) ?_
  refine l_val (v := v474) rfl (e_load_bx1 tp22_wb rfl bx628 rfl) ?_
  have cap630 := Sl.cap o475.flat
  refine l_val (v := Value.int .i64 (sCap v474 : Int)) rfl (e_cap Try.underlying22 rfl o475.flat) ?_
  refine l_op rfl ?_
  refine o_call (v := Value.int .i64 (min (sCap v474 : Int) ((List.length (((subR g keep).1).2) : Int) + 2000))) (e_call (vals := [Value.int .i64 (List.length (((subR g keep).1).2) : Int), Value.int .i64 (sCap v474 : Int)]) Try.func70 bd70_wb nm70_wb rfl) (Room_ok w624 (List.length (((subR g keep).1).2) : Int) (sCap v474 : Int) (by omega)) ?_
  intro w631 hb632
  replace hb632 := chg_below hb632 g627
  refine l_val (v := Value.int .i64 (min (sCap v474 : Int) ((List.length (((subR g keep).1).2) : Int) + 2000))) rfl (e_assign rfl) ?_
  refine l_nil ?_
  refine run_block ?_
  refine run_loop (σ := Value × (List ((Int) × (Int))) × Cmap) (fun ⟨g_1_c13_v, g_1_c13, gq⟩ f w => Base w0 gq w ∧ f 1 = Value.pointer (some ⟨b626, 0, none⟩) ∧ f 2 = Value.int .i64 (min (sCap v474 : Int) ((List.length (((subR g keep).1).2) : Int) + 2000)) ∧ Sl gq (is 0) w g_v g.2 ∧ Sl gq (is 0) w keep_v keep ∧ Sl gq (is 0) w nodes_v nodes ∧ Bx gq (is 1) w b3 [Value.int .i64 g.1, g_v] ∧ Ow gq (is 2) (is 2) w (upV v20) (g.2 ++ [((-7 : Int), (7 : Int))]) ∧ Sl gq (is 2) w v20 g.2 ∧ Bx gq (is 3) w b27 [Value.int .i64 g.1, v20] ∧ Bx gq (is 4) w b40 [b_0_c12_v, Value.int .i64 b_1_c12] ∧ Bx gq (is 142) w b480 [Value.int .i64 (((subR g keep).1).1), v474] ∧ Ow gq (is 143) (is 143) w v490 (((partR g nodes).1).2) ∧ Bx gq (is 145) w b498 [Value.int .i64 (((partR g nodes).1).1), v490] ∧ Nst gq 17 w b_0_c12_v b_0_c12 ∧ Bx gq (is 153) w b626 [Value.int .i64 (((subR g keep).1).1), g_1_c13_v] ∧ Ow gq (is 141) (is 141) w g_1_c13_v g_1_c13 ∧ ((List.length g_1_c13 : Int) ≤ 20000)) (fun ⟨g_1_c13_v, g_1_c13, gq⟩ => Int.toNat ((min (sCap v474 : Int) ((List.length (((subR g keep).1).2) : Int) + 2000)) - (List.length g_1_c13 : Int))) (v474, ((subR g keep).1).2, g627) ?_ ?_
  have C633 : Chg (inl [149, 152]) _ _ _ _ := (hb575.n).seq ((hb577.n).seq ((ch584.n).seq ((ch586.n).seq ((ch591.l rfl).seq ((ch603.n).seq ((ch605.n).seq ((ch610.l rfl).seq ((hb616.n).seq ((hb619.n).seq ((hb622.n).seq ((ch625.n).seq (hb632.n))))))))))))
  replace hbase := hbase.chg C633 (is_nl rfl)
  have C634 : Chg (inl [152]) _ _ _ _ := (ch603.n).seq ((ch605.n).seq ((ch610.l rfl).seq ((hb616.n).seq ((hb619.n).seq ((hb622.n).seq ((ch625.n).seq (hb632.n)))))))
  replace r_g_v := r_g_v.chg C634 (is_nl rfl)
  have C635 : Chg (inl [149, 152]) _ _ _ _ := (ch584.n).seq ((ch586.n).seq ((ch591.l rfl).seq ((ch603.n).seq ((ch605.n).seq ((ch610.l rfl).seq ((hb616.n).seq ((hb619.n).seq ((hb622.n).seq ((ch625.n).seq (hb632.n))))))))))
  replace r_keep_v := r_keep_v.chg C635 (is_nl rfl)
  replace r_nodes_v := r_nodes_v.chg C634 (is_nl rfl)
  replace bx5 := bx5.chg C633 (is_nl rfl)
  replace o21 := o21.chg C633 (is_nl rfl) (is_nl rfl)
  replace r24 := r24.chg C633 (is_nl rfl)
  replace bx32 := bx32.chg C633 (is_nl rfl)
  replace bx42 := bx42.chg C633 (is_nl rfl)
  replace bx485 := (bx485.chg ch625 (not_no _)).chg hb632 (not_no _)
  have C636 : Chg (inl []) _ _ _ _ := (hb619.n).seq ((hb622.n).seq ((ch625.n).seq (hb632.n)))
  replace o491 := o491.chg C636 (is_nl rfl) (is_nl rfl)
  replace bx503 := bx503.chg C636 (is_nl rfl)
  replace o_b_0_c12 := o_b_0_c12.chg C633 (is_nl rfl)
  replace bx628 := bx628.chg hb632 (not_no _)
  replace o475 := o475.chg hb632 (not_no _) (not_no _)
  · exact ⟨hbase, rfl, rfl, r_g_v, r_keep_v, r_nodes_v, bx5, o21, r24, bx32, bx42, bx485, o491, bx503, o_b_0_c12, bx628, o475, by omega⟩
  clear r_g_v
  clear r_keep_v
  clear r_nodes_v
  clear bx5
  clear o21
  clear r24
  clear bx32
  clear bx42
  clear o475
  clear bx485
  clear o491
  clear bx503
  clear o_b_0_c12
  clear bx628
  clear hbase
  rintro ⟨g_1_c13_v, g_1_c13, g639⟩ f637 w638 ⟨hbase, zs1, zs2, r_g_v, r_keep_v, r_nodes_v, bx5, o21, r24, bx32, bx42, bx485, o491, bx503, o_b_0_c12, bx628, o_g_1_c13, hg_c13⟩ back2_c13
  refine run_seq ?_
  refine run_seq ?_
  refine run_region rfl ?_
  refine l_val (v := Value.pointer (some ⟨b626, 1, none⟩)) rfl (e_fieldAddr Try.underlying24 rfl rfl (by exact zs1) rfl) ?_
  refine l_val (v := g_1_c13_v) rfl (e_load_bx1 tp22_wb rfl bx628 rfl) ?_
  have len640 := (o_g_1_c13.flat).small
  refine l_val (v := Value.int .i64 (List.length g_1_c13 : Int)) rfl (e_len Try.underlying22 rfl o_g_1_c13.flat) ?_
  refine l_val (v := Value.int .i64 (min (sCap v474 : Int) ((List.length (((subR g keep).1).2) : Int) + 2000))) rfl (e_move (by exact zs2)) ?_
  refine l_val (v := Value.bool (decide ((List.length g_1_c13 : Int) < (min (sCap v474 : Int) ((List.length (((subR g keep).1).2) : Int) + 2000))))) rfl (e_lss (m := (List.length g_1_c13 : Int)) (n := min (sCap v474 : Int) ((List.length (((subR g keep).1).2) : Int) + 2000)) rfl rfl) ?_
  refine l_nil ?_
  by_cases p2_c13 : (List.length g_1_c13 : Int) < (min (sCap v474 : Int) ((List.length (((subR g keep).1).2) : Int) + 2000))
  ·
   refine run_cond_t rfl (decide_eq_true p2_c13) ?_
   refine run_skip ?_
   refine run_block ?_
   refine run_region rfl ?_
   refine l_val (v := Value.pointer (some ⟨b626, 1, none⟩)) rfl (e_fieldAddr Try.underlying24 rfl rfl (by exact zs1) rfl) ?_
   refine l_val (v := g_1_c13_v) rfl (e_load_bx1 tp22_wb rfl bx628 rfl) ?_
   refine l_val (v := Value.agg (List.toArray [Value.int .i64 0, Value.int .i64 0])) rfl (e_build (vs := []) rfl (by kernel_rfl)) ?_
   refine l_op rfl ?_
   refine o_buildSlice (α := (Int) × (Int)) g639 (is 154) (is 154) (154, 0) rfl [(0, 0)] Try.underlying22 tp71_wb (by decide) (by decide) (vs := [(0, Value.agg (List.toArray [Value.int .i64 0, Value.int .i64 0]))]) rfl rfl (.cons rfl .nil) ?_
   intro g641 w642 v643 ch644 o645
   refine l_op rfl ?_
   replace o_g_1_c13 := o_g_1_c13.chg ch644 (not_no _) (not_no _)
   refine o_append (α := (Int) × (Int)) (xs := g_1_c13) (ys := ([(0, 0)])) g641 (J := is 141) (S := is 141) (141, 0) rfl Try.underlying22 tp71_wb (by decide) rfl rfl rfl o_g_1_c13 o645.flat (by decide) (by first | omega | (simp; done) | (simp; omega)) ?_
   intro g646 w647 v648 ch649 o650
   clear o_g_1_c13
   refine l_val (v := Value.pointer (some ⟨b626, 1, none⟩)) rfl (e_fieldAddr Try.underlying24 rfl rfl (by exact zs1) rfl) ?_
   refine l_op rfl ?_
   replace bx628 := (bx628.chg ch644 (not_no _)).chg ch649 (is_ne rfl)
   refine o_store_bx1 (cs' := [Value.int .i64 (((subR g keep).1).1), v648]) tp22_wb rfl rfl bx628 (sl_cells1 o650.flat) (Nat.le_of_ble_eq_true rfl) (sl_one o650.flat) rfl ?_
   intro w651 ch652 bx653
   clear bx628
   refine l_nil ?_
   refine run_inBlock ?_
   have C654 : Chg (inl [141, 153]) _ _ _ _ := (ch644.n).seq ((ch649.l rfl).seq (ch652.l rfl))
   replace hbase := hbase.chg C654 (is_nl rfl)
   replace r_g_v := r_g_v.chg C654 (is_nl rfl)
   replace r_keep_v := r_keep_v.chg C654 (is_nl rfl)
   replace r_nodes_v := r_nodes_v.chg C654 (is_nl rfl)
   replace bx5 := bx5.chg C654 (is_nl rfl)
   replace o21 := o21.chg C654 (is_nl rfl) (is_nl rfl)
   replace r24 := r24.chg C654 (is_nl rfl)
   replace bx32 := bx32.chg C654 (is_nl rfl)
   replace bx42 := bx42.chg C654 (is_nl rfl)
   replace bx485 := bx485.chg C654 (is_nl rfl)
   replace o491 := o491.chg C654 (is_nl rfl) (is_nl rfl)
   replace bx503 := bx503.chg C654 (is_nl rfl)
   replace o_b_0_c12 := o_b_0_c12.chg C654 (is_nl rfl)
   replace o650 := o650.chg ch652 (is_ne rfl) (is_ne rfl)
   refine back2_c13 (v648, (g_1_c13 ++ [(0, 0)]), g646) _ _ ⟨hbase, (by exact zs1), (by exact zs2), r_g_v, r_keep_v, r_nodes_v, bx5, o21, r24, bx32, bx42, bx485, o491, bx503, o_b_0_c12, bx653, o650, ?_⟩ ?_
   · show (List.length (g_1_c13 ++ [(0, 0)]) : Int) ≤ 20000
     first | (simp only [List.length_append, List.length_cons, List.length_nil]; omega) | (simp; omega)
   · show Int.toNat ((min (sCap v474 : Int) ((List.length (((subR g keep).1).2) : Int) + 2000)) - (List.length (g_1_c13 ++ [(0, 0)]) : Int)) < Int.toNat ((min (sCap v474 : Int) ((List.length (((subR g keep).1).2) : Int) + 2000)) - (List.length g_1_c13 : Int))
     first | omega | (simp only [List.length_append, List.length_cons, List.length_nil]; omega)
  refine run_cond_f rfl (decide_eq_false p2_c13) ?_
  refine run_exit rfl ?_
  refine run_seq ?_
  refine run_region rfl ?_
  refine l_val (v := Value.int .i64 0) rfl (e_assign rfl) ?_
  refine l_nil ?_
  refine run_block ?_
  refine run_loop (σ := Nat × (List ((Int) × (Int))) × Cmap) (fun ⟨i_c13, gs_c13, gq⟩ f w => Base w0 gq w ∧ f 1 = Value.pointer (some ⟨b626, 0, none⟩) ∧ f 3 = Value.int .i64 (i_c13 : Int) ∧ Sl gq (is 0) w g_v g.2 ∧ Sl gq (is 0) w keep_v keep ∧ Sl gq (is 0) w nodes_v nodes ∧ Bx gq (is 1) w b3 [Value.int .i64 g.1, g_v] ∧ Ow gq (is 2) (is 2) w (upV v20) (g.2 ++ [((-7 : Int), (7 : Int))]) ∧ Sl gq (is 2) w v20 g.2 ∧ Bx gq (is 3) w b27 [Value.int .i64 g.1, v20] ∧ Bx gq (is 4) w b40 [b_0_c12_v, Value.int .i64 b_1_c12] ∧ Bx gq (is 142) w b480 [Value.int .i64 (((subR g keep).1).1), v474] ∧ Ow gq (is 143) (is 143) w v490 (((partR g nodes).1).2) ∧ Bx gq (is 145) w b498 [Value.int .i64 (((partR g nodes).1).1), v490] ∧ Nst gq 17 w b_0_c12_v b_0_c12 ∧ Bx gq (is 153) w b626 [Value.int .i64 (((subR g keep).1).1), g_1_c13_v] ∧ Ow gq (is 141) (is 141) w g_1_c13_v gs_c13 ∧ ((i_c13 : Int) ≤ List.length gs_c13 ∧ (List.length gs_c13 : Int) ≤ 20000)) (fun ⟨i_c13, gs_c13, gq⟩ => List.length gs_c13 - i_c13) (0, g_1_c13, g639) ?_ ?_
  · exact ⟨hbase, (by exact zs1), rfl, r_g_v, r_keep_v, r_nodes_v, bx5, o21, r24, bx32, bx42, bx485, o491, bx503, o_b_0_c12, bx628, o_g_1_c13, by exact ⟨by simp, by omega⟩⟩
  clear r_g_v
  clear r_keep_v
  clear r_nodes_v
  clear bx5
  clear o21
  clear r24
  clear bx32
  clear bx42
  clear bx485
  clear o491
  clear bx503
  clear o_b_0_c12
  clear bx628
  clear o_g_1_c13
  clear hbase
  rintro ⟨i_c13, gs_c13, g657⟩ f655 w656 ⟨hbase, zs1, zs3, r_g_v, r_keep_v, r_nodes_v, bx5, o21, r24, bx32, bx42, bx485, o491, bx503, o_b_0_c12, bx628, o_g_1_c13, hh_c13⟩ back5_c13
  refine run_seq ?_
  refine run_seq ?_
  refine run_region rfl ?_
  refine l_val (v := Value.int .i64 (i_c13 : Int)) rfl (e_move (by exact zs3)) ?_
  refine l_val (v := Value.pointer (some ⟨b626, 1, none⟩)) rfl (e_fieldAddr Try.underlying24 rfl rfl (by exact zs1) rfl) ?_
  refine l_val (v := g_1_c13_v) rfl (e_load_bx1 tp22_wb rfl bx628 rfl) ?_
  have len658 := (o_g_1_c13.flat).small
  refine l_val (v := Value.int .i64 (List.length gs_c13 : Int)) rfl (e_len Try.underlying22 rfl o_g_1_c13.flat) ?_
  refine l_val (v := Value.bool (decide ((i_c13 : Int) < (List.length gs_c13 : Int)))) rfl (e_lss (m := (i_c13 : Int)) (n := (List.length gs_c13 : Int)) rfl rfl) ?_
  refine l_nil ?_
  by_cases p5_c13 : (i_c13 : Int) < (List.length gs_c13 : Int)
  ·
   refine run_cond_t rfl (decide_eq_true p5_c13) ?_
   refine run_skip ?_
   refine run_seq ?_
   refine run_block ?_
   refine run_region rfl ?_
   refine l_val (v := Value.pointer (some ⟨b626, 1, none⟩)) rfl (e_fieldAddr Try.underlying24 rfl rfl (by exact zs1) rfl) ?_
   refine l_val (v := g_1_c13_v) rfl (e_load_bx1 tp22_wb rfl bx628 rfl) ?_
   refine l_val (v := Value.int .i64 (i_c13 : Int)) rfl (e_move (by exact zs3)) ?_
   refine l_val (v := Value.agg (List.toArray [Value.int .i64 (-9), Value.int .i64 (-9)])) rfl (e_build (vs := [(0, Value.int .i64 (-9)), (1, Value.int .i64 (-9))]) rfl (by kernel_rfl)) ?_
   refine l_val (v := Value.pointer (some (eAddr g_1_c13_v 2 (Int.toNat (i_c13 : Int))))) rfl (e_indexAddr (α := (Int) × (Int)) (xs := gs_c13) (v := g_1_c13_v) (i := (i_c13 : Int)) Try.underlying22 rfl rfl o_g_1_c13.flat rfl (by omega) (by omega)) ?_
   refine l_op rfl ?_
   refine o_store_el (i := (i_c13 : Int)) (-9, -9) tp71_wb rfl rfl o_g_1_c13 (by omega) (by omega) rfl ?_
   intro w659 ch660 bx661
   clear o_g_1_c13
   refine l_nil ?_
   refine run_inBlock ?_
   refine run_region rfl ?_
   refine l_val (v := Value.int .i64 (i_c13 : Int)) rfl (e_move (by exact zs3)) ?_
   refine l_val (v := Value.int .i64 ((i_c13 : Int) + 1)) rfl (e_add (m := (i_c13 : Int)) (n := 1) rfl rfl (by omega)) ?_
   refine l_val (v := Value.int .i64 ((i_c13 : Int) + 1)) rfl (e_assign rfl) ?_
   refine l_nil ?_
   replace hbase := hbase.chg ch660 (is_ne rfl)
   replace r_g_v := r_g_v.chg ch660 (is_ne rfl)
   replace r_keep_v := r_keep_v.chg ch660 (is_ne rfl)
   replace r_nodes_v := r_nodes_v.chg ch660 (is_ne rfl)
   replace bx5 := bx5.chg ch660 (is_ne rfl)
   replace o21 := o21.chg ch660 (is_ne rfl) (is_ne rfl)
   replace r24 := r24.chg ch660 (is_ne rfl)
   replace bx32 := bx32.chg ch660 (is_ne rfl)
   replace bx42 := bx42.chg ch660 (is_ne rfl)
   replace bx485 := bx485.chg ch660 (is_ne rfl)
   replace o491 := o491.chg ch660 (is_ne rfl) (is_ne rfl)
   replace bx503 := bx503.chg ch660 (is_ne rfl)
   replace o_b_0_c12 := o_b_0_c12.chg ch660 (is_ne rfl)
   replace bx628 := bx628.chg ch660 (is_ne rfl)
   refine back5_c13 (i_c13 + 1, (List.set gs_c13 (Int.toNat (i_c13 : Int)) (-9, -9)), g657) _ _ ⟨hbase, (by exact zs1), rfl, r_g_v, r_keep_v, r_nodes_v, bx5, o21, r24, bx32, bx42, bx485, o491, bx503, o_b_0_c12, bx628, bx661, ?_⟩ ?_
   · show ((i_c13 + 1) : Int) ≤ List.length (List.set gs_c13 (Int.toNat (i_c13 : Int)) (-9, -9)) ∧ (List.length (List.set gs_c13 (Int.toNat (i_c13 : Int)) (-9, -9)) : Int) ≤ 20000
     refine ⟨by simp; omega, by simp; omega⟩
   · show List.length (List.set gs_c13 (Int.toNat (i_c13 : Int)) (-9, -9)) - (i_c13 + 1) < List.length gs_c13 - i_c13
     simp only [List.length_set]; omega
  refine run_cond_f rfl (decide_eq_false p5_c13) ?_
  refine run_exit rfl ?_
  refine run_end (vs := []) Try.func64 .nil ?_
  refine ⟨Value.tuple (List.toArray []), rfl, ?_⟩
  refine l_nil ?_
  refine run_seq ?_
  clear bx485
  clear bx628
  clear o_g_1_c13
  refine run_region rfl ?_
  refine l_val (v := Value.agg (List.toArray [Value.int .i64 (((partR g nodes).1).1), v490])) rfl (e_load_bxN (ds := [Value.int .i64 (((partR g nodes).1).1), v490]) tp24_wb rfl bx503 rfl rfl) ?_
  refine l_op rfl ?_
  refine o_inline (e_call (vals := [Value.agg (List.toArray [Value.int .i64 (((partR g nodes).1).1), v490])]) Try.func64 bd64_wb nm64_wb rfl) ?_
  refine calls_of_run Try.func64 rfl (Nat.le_of_ble_eq_true rfl) ?_
  have hsp_c14 : (List.length (((partR g nodes).1).2) : Int) ≤ 10000 := by first | exact split_few (by omega) | exact bare_few (by omega) | exact sub_few (by omega) | exact part_few (by omega) | exact merge_few (by omega)
  refine run_seq ?_
  refine run_region rfl ?_
  refine l_op rfl ?_
  refine o_box g657 (is 155) (155, 0) rfl rfl ?_
  intro g665 w662 b664 ch663 bx666
  replace bx666 : Bx g665 (is 155) w662 b664 [Value.int .i64 (((partR g nodes).1).1), v490] := bx666
  refine l_nil ?_
  refine run_seq ?_
  refine run_seq ?_
  refine run_region rfl ?_
  refine l_val (v := Value.pointer (some ⟨b664, 1, none⟩)) rfl (e_fieldAddr Try.underlying24 rfl rfl rfl rfl) ?_
  refine l_val (v := v490) rfl (e_load_bx1 tp22_wb rfl bx666 rfl) ?_
  replace o491 := o491.chg ch663 (not_no _) (not_no _)
  have len667 := (o491.flat).small
  refine l_val (v := Value.int .i64 (List.length (((partR g nodes).1).2) : Int)) rfl (e_len Try.underlying22 rfl o491.flat) ?_
  refine l_val (v := Value.pointer (some ⟨b664, 1, none⟩)) rfl (e_fieldAddr Try.underlying24 rfl rfl rfl rfl) ?_
  refine l_val (v := v490) rfl (e_load_bx1 tp22_wb rfl bx666 rfl) ?_
  have cap668 := Sl.cap o491.flat
  refine l_val (v := Value.int .i64 (sCap v490 : Int)) rfl (e_cap Try.underlying22 rfl o491.flat) ?_
  refine l_op rfl ?_
  refine o_call (v := Value.int .i64 (min (sCap v490 : Int) ((List.length (((partR g nodes).1).2) : Int) + 2000))) (e_call (vals := [Value.int .i64 (List.length (((partR g nodes).1).2) : Int), Value.int .i64 (sCap v490 : Int)]) Try.func70 bd70_wb nm70_wb rfl) (Room_ok w662 (List.length (((partR g nodes).1).2) : Int) (sCap v490 : Int) (by omega)) ?_
  intro w669 hb670
  replace hb670 := chg_below hb670 g665
  refine l_val (v := Value.int .i64 (min (sCap v490 : Int) ((List.length (((partR g nodes).1).2) : Int) + 2000))) rfl (e_assign rfl) ?_
  refine l_nil ?_
  refine run_block ?_
  refine run_loop (σ := Value × (List ((Int) × (Int))) × Cmap) (fun ⟨g_1_c14_v, g_1_c14, gq⟩ f w => Base w0 gq w ∧ f 1 = Value.pointer (some ⟨b664, 0, none⟩) ∧ f 2 = Value.int .i64 (min (sCap v490 : Int) ((List.length (((partR g nodes).1).2) : Int) + 2000)) ∧ Sl gq (is 0) w g_v g.2 ∧ Sl gq (is 0) w keep_v keep ∧ Sl gq (is 0) w nodes_v nodes ∧ Bx gq (is 1) w b3 [Value.int .i64 g.1, g_v] ∧ Ow gq (is 2) (is 2) w (upV v20) (g.2 ++ [((-7 : Int), (7 : Int))]) ∧ Sl gq (is 2) w v20 g.2 ∧ Bx gq (is 3) w b27 [Value.int .i64 g.1, v20] ∧ Bx gq (is 4) w b40 [b_0_c12_v, Value.int .i64 b_1_c12] ∧ Bx gq (is 145) w b498 [Value.int .i64 (((partR g nodes).1).1), v490] ∧ Nst gq 17 w b_0_c12_v b_0_c12 ∧ Bx gq (is 155) w b664 [Value.int .i64 (((partR g nodes).1).1), g_1_c14_v] ∧ Ow gq (is 143) (is 143) w g_1_c14_v g_1_c14 ∧ ((List.length g_1_c14 : Int) ≤ 20000)) (fun ⟨g_1_c14_v, g_1_c14, gq⟩ => Int.toNat ((min (sCap v490 : Int) ((List.length (((partR g nodes).1).2) : Int) + 2000)) - (List.length g_1_c14 : Int))) (v490, ((partR g nodes).1).2, g665) ?_ ?_
  replace hbase := hbase.chg ch663 (not_no _)
  replace hbase := hbase.chg hb670 (not_no _)
  replace r_g_v := (r_g_v.chg ch663 (not_no _)).chg hb670 (not_no _)
  replace r_keep_v := (r_keep_v.chg ch663 (not_no _)).chg hb670 (not_no _)
  replace r_nodes_v := (r_nodes_v.chg ch663 (not_no _)).chg hb670 (not_no _)
  replace bx5 := (bx5.chg ch663 (not_no _)).chg hb670 (not_no _)
  replace o21 := (o21.chg ch663 (not_no _) (not_no _)).chg hb670 (not_no _) (not_no _)
  replace r24 := (r24.chg ch663 (not_no _)).chg hb670 (not_no _)
  replace bx32 := (bx32.chg ch663 (not_no _)).chg hb670 (not_no _)
  replace bx42 := (bx42.chg ch663 (not_no _)).chg hb670 (not_no _)
  replace bx503 := (bx503.chg ch663 (not_no _)).chg hb670 (not_no _)
  replace o_b_0_c12 := (o_b_0_c12.chg ch663 (not_no _)).chg hb670 (not_no _)
  replace bx666 := bx666.chg hb670 (not_no _)
  replace o491 := o491.chg hb670 (not_no _) (not_no _)
  · exact ⟨hbase, rfl, rfl, r_g_v, r_keep_v, r_nodes_v, bx5, o21, r24, bx32, bx42, bx503, o_b_0_c12, bx666, o491, by omega⟩
  clear r_g_v
  clear r_keep_v
  clear r_nodes_v
  clear bx5
  clear o21
  clear r24
  clear bx32
  clear bx42
  clear o491
  clear bx503
  clear o_b_0_c12
  clear bx666
  clear hbase
  rintro ⟨g_1_c14_v, g_1_c14, g673⟩ f671 w672 ⟨hbase, zs1, zs2, r_g_v, r_keep_v, r_nodes_v, bx5, o21, r24, bx32, bx42, bx503, o_b_0_c12, bx666, o_g_1_c14, hg_c14⟩ back2_c14
  refine run_seq ?_
  refine run_seq ?_
  refine run_region rfl ?_
  refine l_val (v := Value.pointer (some ⟨b664, 1, none⟩)) rfl (e_fieldAddr Try.underlying24 rfl rfl (by exact zs1) rfl) ?_
  refine l_val (v := g_1_c14_v) rfl (e_load_bx1 tp22_wb rfl bx666 rfl) ?_
  have len674 := (o_g_1_c14.flat).small
  refine l_val (v := Value.int .i64 (List.length g_1_c14 : Int)) rfl (e_len Try.underlying22 rfl o_g_1_c14.flat) ?_
  refine l_val (v := Value.int .i64 (min (sCap v490 : Int) ((List.length (((partR g nodes).1).2) : Int) + 2000))) rfl (e_move (by exact zs2)) ?_
  refine l_val (v := Value.bool (decide ((List.length g_1_c14 : Int) < (min (sCap v490 : Int) ((List.length (((partR g nodes).1).2) : Int) + 2000))))) rfl (e_lss (m := (List.length g_1_c14 : Int)) (n := min (sCap v490 : Int) ((List.length (((partR g nodes).1).2) : Int) + 2000)) rfl rfl) ?_
  refine l_nil ?_
  by_cases p2_c14 : (List.length g_1_c14 : Int) < (min (sCap v490 : Int) ((List.length (((partR g nodes).1).2) : Int) + 2000))
  ·
   refine run_cond_t rfl (decide_eq_true p2_c14) ?_
   refine run_skip ?_
   refine run_block ?_
   refine run_region rfl ?_
   refine l_val (v := Value.pointer (some ⟨b664, 1, none⟩)) rfl (e_fieldAddr Try.underlying24 rfl rfl (by exact zs1) rfl) ?_
   refine l_val (v := g_1_c14_v) rfl (e_load_bx1 tp22_wb rfl bx666 rfl) ?_
   refine l_val (v := Value.agg (List.toArray [Value.int .i64 0, Value.int .i64 0])) rfl (e_build (vs := []) rfl (by kernel_rfl)) ?_
   refine l_op rfl ?_
   refine o_buildSlice (α := (Int) × (Int)) g673 (is 156) (is 156) (156, 0) rfl [(0, 0)] Try.underlying22 tp71_wb (by decide) (by decide) (vs := [(0, Value.agg (List.toArray [Value.int .i64 0, Value.int .i64 0]))]) rfl rfl (.cons rfl .nil) ?_
   intro g675 w676 v677 ch678 o679
   refine l_op rfl ?_
   replace o_g_1_c14 := o_g_1_c14.chg ch678 (not_no _) (not_no _)
   refine o_append (α := (Int) × (Int)) (xs := g_1_c14) (ys := ([(0, 0)])) g675 (J := is 143) (S := is 143) (143, 0) rfl Try.underlying22 tp71_wb (by decide) rfl rfl rfl o_g_1_c14 o679.flat (by decide) (by first | omega | (simp; done) | (simp; omega)) ?_
   intro g680 w681 v682 ch683 o684
   clear o_g_1_c14
   refine l_val (v := Value.pointer (some ⟨b664, 1, none⟩)) rfl (e_fieldAddr Try.underlying24 rfl rfl (by exact zs1) rfl) ?_
   refine l_op rfl ?_
   replace bx666 := (bx666.chg ch678 (not_no _)).chg ch683 (is_ne rfl)
   refine o_store_bx1 (cs' := [Value.int .i64 (((partR g nodes).1).1), v682]) tp22_wb rfl rfl bx666 (sl_cells1 o684.flat) (Nat.le_of_ble_eq_true rfl) (sl_one o684.flat) rfl ?_
   intro w685 ch686 bx687
   clear bx666
   refine l_nil ?_
   refine run_inBlock ?_
   have C688 : Chg (inl [143, 155]) _ _ _ _ := (ch678.n).seq ((ch683.l rfl).seq (ch686.l rfl))
   replace hbase := hbase.chg C688 (is_nl rfl)
   replace r_g_v := r_g_v.chg C688 (is_nl rfl)
   replace r_keep_v := r_keep_v.chg C688 (is_nl rfl)
   replace r_nodes_v := r_nodes_v.chg C688 (is_nl rfl)
   replace bx5 := bx5.chg C688 (is_nl rfl)
   replace o21 := o21.chg C688 (is_nl rfl) (is_nl rfl)
   replace r24 := r24.chg C688 (is_nl rfl)
   replace bx32 := bx32.chg C688 (is_nl rfl)
   replace bx42 := bx42.chg C688 (is_nl rfl)
   replace bx503 := bx503.chg C688 (is_nl rfl)
   replace o_b_0_c12 := o_b_0_c12.chg C688 (is_nl rfl)
   replace o684 := o684.chg ch686 (is_ne rfl) (is_ne rfl)
   refine back2_c14 (v682, (g_1_c14 ++ [(0, 0)]), g680) _ _ ⟨hbase, (by exact zs1), (by exact zs2), r_g_v, r_keep_v, r_nodes_v, bx5, o21, r24, bx32, bx42, bx503, o_b_0_c12, bx687, o684, ?_⟩ ?_
   · show (List.length (g_1_c14 ++ [(0, 0)]) : Int) ≤ 20000
     first | (simp only [List.length_append, List.length_cons, List.length_nil]; omega) | (simp; omega)
   · show Int.toNat ((min (sCap v490 : Int) ((List.length (((partR g nodes).1).2) : Int) + 2000)) - (List.length (g_1_c14 ++ [(0, 0)]) : Int)) < Int.toNat ((min (sCap v490 : Int) ((List.length (((partR g nodes).1).2) : Int) + 2000)) - (List.length g_1_c14 : Int))
     first | omega | (simp only [List.length_append, List.length_cons, List.length_nil]; omega)
  refine run_cond_f rfl (decide_eq_false p2_c14) ?_
  refine run_exit rfl ?_
  refine run_seq ?_
  refine run_region rfl ?_
  refine l_val (v := Value.int .i64 0) rfl (e_assign rfl) ?_
  refine l_nil ?_
  refine run_block ?_
  refine run_loop (σ := Nat × (List ((Int) × (Int))) × Cmap) (fun ⟨i_c14, gs_c14, gq⟩ f w => Base w0 gq w ∧ f 1 = Value.pointer (some ⟨b664, 0, none⟩) ∧ f 3 = Value.int .i64 (i_c14 : Int) ∧ Sl gq (is 0) w g_v g.2 ∧ Sl gq (is 0) w keep_v keep ∧ Sl gq (is 0) w nodes_v nodes ∧ Bx gq (is 1) w b3 [Value.int .i64 g.1, g_v] ∧ Ow gq (is 2) (is 2) w (upV v20) (g.2 ++ [((-7 : Int), (7 : Int))]) ∧ Sl gq (is 2) w v20 g.2 ∧ Bx gq (is 3) w b27 [Value.int .i64 g.1, v20] ∧ Bx gq (is 4) w b40 [b_0_c12_v, Value.int .i64 b_1_c12] ∧ Bx gq (is 145) w b498 [Value.int .i64 (((partR g nodes).1).1), v490] ∧ Nst gq 17 w b_0_c12_v b_0_c12 ∧ Bx gq (is 155) w b664 [Value.int .i64 (((partR g nodes).1).1), g_1_c14_v] ∧ Ow gq (is 143) (is 143) w g_1_c14_v gs_c14 ∧ ((i_c14 : Int) ≤ List.length gs_c14 ∧ (List.length gs_c14 : Int) ≤ 20000)) (fun ⟨i_c14, gs_c14, gq⟩ => List.length gs_c14 - i_c14) (0, g_1_c14, g673) ?_ ?_
  · exact ⟨hbase, (by exact zs1), rfl, r_g_v, r_keep_v, r_nodes_v, bx5, o21, r24, bx32, bx42, bx503, o_b_0_c12, bx666, o_g_1_c14, by exact ⟨by simp, by omega⟩⟩
  clear r_g_v
  clear r_keep_v
  clear r_nodes_v
  clear bx5
  clear o21
  clear r24
  clear bx32
  clear bx42
  clear bx503
  clear o_b_0_c12
  clear bx666
  clear o_g_1_c14
  clear hbase
  rintro ⟨i_c14, gs_c14, g691⟩ f689 w690 ⟨hbase, zs1, zs3, r_g_v, r_keep_v, r_nodes_v, bx5, o21, r24, bx32, bx42, bx503, o_b_0_c12, bx666, o_g_1_c14, hh_c14⟩ back5_c14
  refine run_seq ?_
  refine run_seq ?_
  refine run_region rfl ?_
  refine l_val (v := Value.int .i64 (i_c14 : Int)) rfl (e_move (by exact zs3)) ?_
  refine l_val (v := Value.pointer (some ⟨b664, 1, none⟩)) rfl (e_fieldAddr Try.underlying24 rfl rfl (by exact zs1) rfl) ?_
  refine l_val (v := g_1_c14_v) rfl (e_load_bx1 tp22_wb rfl bx666 rfl) ?_
  have len692 := (o_g_1_c14.flat).small
  refine l_val (v := Value.int .i64 (List.length gs_c14 : Int)) rfl (e_len Try.underlying22 rfl o_g_1_c14.flat) ?_
  refine l_val (v := Value.bool (decide ((i_c14 : Int) < (List.length gs_c14 : Int)))) rfl (e_lss (m := (i_c14 : Int)) (n := (List.length gs_c14 : Int)) rfl rfl) ?_
  refine l_nil ?_
  by_cases p5_c14 : (i_c14 : Int) < (List.length gs_c14 : Int)
  ·
   refine run_cond_t rfl (decide_eq_true p5_c14) ?_
   refine run_skip ?_
   refine run_seq ?_
   refine run_block ?_
   refine run_region rfl ?_
   refine l_val (v := Value.pointer (some ⟨b664, 1, none⟩)) rfl (e_fieldAddr Try.underlying24 rfl rfl (by exact zs1) rfl) ?_
   refine l_val (v := g_1_c14_v) rfl (e_load_bx1 tp22_wb rfl bx666 rfl) ?_
   refine l_val (v := Value.int .i64 (i_c14 : Int)) rfl (e_move (by exact zs3)) ?_
   refine l_val (v := Value.agg (List.toArray [Value.int .i64 (-9), Value.int .i64 (-9)])) rfl (e_build (vs := [(0, Value.int .i64 (-9)), (1, Value.int .i64 (-9))]) rfl (by kernel_rfl)) ?_
   refine l_val (v := Value.pointer (some (eAddr g_1_c14_v 2 (Int.toNat (i_c14 : Int))))) rfl (e_indexAddr (α := (Int) × (Int)) (xs := gs_c14) (v := g_1_c14_v) (i := (i_c14 : Int)) Try.underlying22 rfl rfl o_g_1_c14.flat rfl (by omega) (by omega)) ?_
   refine l_op rfl ?_
   refine o_store_el (i := (i_c14 : Int)) (-9, -9) tp71_wb rfl rfl o_g_1_c14 (by omega) (by omega) rfl ?_
   intro w693 ch694 bx695
   clear o_g_1_c14
   refine l_nil ?_
   refine run_inBlock ?_
   refine run_region rfl ?_
   refine l_val (v := Value.int .i64 (i_c14 : Int)) rfl (e_move (by exact zs3)) ?_
   refine l_val (v := Value.int .i64 ((i_c14 : Int) + 1)) rfl (e_add (m := (i_c14 : Int)) (n := 1) rfl rfl (by omega)) ?_
   refine l_val (v := Value.int .i64 ((i_c14 : Int) + 1)) rfl (e_assign rfl) ?_
   refine l_nil ?_
   replace hbase := hbase.chg ch694 (is_ne rfl)
   replace r_g_v := r_g_v.chg ch694 (is_ne rfl)
   replace r_keep_v := r_keep_v.chg ch694 (is_ne rfl)
   replace r_nodes_v := r_nodes_v.chg ch694 (is_ne rfl)
   replace bx5 := bx5.chg ch694 (is_ne rfl)
   replace o21 := o21.chg ch694 (is_ne rfl) (is_ne rfl)
   replace r24 := r24.chg ch694 (is_ne rfl)
   replace bx32 := bx32.chg ch694 (is_ne rfl)
   replace bx42 := bx42.chg ch694 (is_ne rfl)
   replace bx503 := bx503.chg ch694 (is_ne rfl)
   replace o_b_0_c12 := o_b_0_c12.chg ch694 (is_ne rfl)
   replace bx666 := bx666.chg ch694 (is_ne rfl)
   refine back5_c14 (i_c14 + 1, (List.set gs_c14 (Int.toNat (i_c14 : Int)) (-9, -9)), g691) _ _ ⟨hbase, (by exact zs1), rfl, r_g_v, r_keep_v, r_nodes_v, bx5, o21, r24, bx32, bx42, bx503, o_b_0_c12, bx666, bx695, ?_⟩ ?_
   · show ((i_c14 + 1) : Int) ≤ List.length (List.set gs_c14 (Int.toNat (i_c14 : Int)) (-9, -9)) ∧ (List.length (List.set gs_c14 (Int.toNat (i_c14 : Int)) (-9, -9)) : Int) ≤ 20000
     refine ⟨by simp; omega, by simp; omega⟩
   · show List.length (List.set gs_c14 (Int.toNat (i_c14 : Int)) (-9, -9)) - (i_c14 + 1) < List.length gs_c14 - i_c14
     simp only [List.length_set]; omega
  refine run_cond_f rfl (decide_eq_false p5_c14) ?_
  refine run_exit rfl ?_
  refine run_end (vs := []) Try.func64 .nil ?_
  refine ⟨Value.tuple (List.toArray []), rfl, ?_⟩
  refine l_nil ?_
  refine run_seq ?_
  clear bx503
  clear bx666
  clear o_g_1_c14
  refine run_region rfl ?_
  refine l_val (v := Value.bool (decide (((partR g nodes).2.1) = ((partR g nodes).2.1)))) rfl (e_move rfl) ?_
  refine l_val (v := Value.bool (decide (((partR g nodes).2.1) = ((partR g nodes).2.1)))) rfl (e_assign rfl) ?_
  refine l_nil ?_
  refine run_ret (vs := [Value.bool (decide (((partR g nodes).2.1) = ((partR g nodes).2.1)))]) Try.func27 (.tmp rfl .nil) ?_
  have rt696 : (decide (((partR g nodes).2.1) = ((partR g nodes).2.1))) = true := by
    first | rfl | exact decide_eq_true rfl | (simp [gI]; done) | (rw [hs_c11]; done) | (rw [hp_c11]; done) | (rw [hs_c11]; exact decide_eq_true rfl) | (rw [hp_c11]; exact decide_eq_true rfl) | (rw [hp_c11]; rfl)
  refine ⟨(b_0_c12_v, b_0_c12, b_1_c12, g691), (congrArg (fun b => Ending.returned (Value.bool b)) rt696), hbase, r_g_v, r_keep_v, r_nodes_v, bx5, o21, r24, bx32, bx42, o_b_0_c12, ?_⟩
  show KInv b_0_c12 b_1_c12
  first | assumption | exact KInv.nil | exact (KInv.add (by first | assumption | exact KInv.nil) (by omega) (by omega) (by omega))
 have hn_c11 : ¬ MayP g := fun h => p8_c11 (decide_eq_true h)
 have hs_c11 := subR_no (l := keep) hn_c11
 have hp_c11 := partR_no (l := nodes) hn_c11
 refine run_cond_t rfl (congrArg Bool.not (Bool.eq_false_iff.2 p8_c11)) ?_
 refine run_seq ?_
 clear bx429
 refine run_region rfl ?_
 refine l_val (v := Value.int .i64 ((subR g keep).2)) rfl (e_move rfl) ?_
 refine l_val (v := Value.bool (decide (((subR g keep).2) = 1))) rfl (e_eql (m := (subR g keep).2) (n := 1) rfl rfl) ?_
 refine l_val (v := Value.bool (decide (((subR g keep).2) = 1))) rfl (e_move rfl) ?_
 have q95_c11 : ((subR g keep).2) = 1 := by first | rfl | exact decide_eq_true rfl | (simp [gI]; done) | (rw [hs_c11]; done) | (rw [hp_c11]; done) | (rw [hs_c11]; exact decide_eq_true rfl) | (rw [hp_c11]; exact decide_eq_true rfl) | (rw [hp_c11]; rfl)
 refine l_val (v := Value.int .i64 ((partR g nodes).2.2)) (want_y rfl rfl rfl (decide_eq_true q95_c11)) (e_move rfl) ?_
 refine l_val (v := Value.bool (decide (((partR g nodes).2.2) = 1))) (want_y rfl rfl rfl (decide_eq_true q95_c11)) (e_eql (m := (partR g nodes).2.2) (n := 1) rfl rfl) ?_
 refine l_val (v := Value.bool (decide (((partR g nodes).2.2) = 1))) rfl (e_pick_t rfl (decide_eq_true q95_c11) rfl) ?_
 refine l_val (v := Value.bool (decide (((partR g nodes).2.2) = 1))) rfl (e_move rfl) ?_
 have q99_c11 : ((partR g nodes).2.2) = 1 := by first | rfl | exact decide_eq_true rfl | (simp [gI]; done) | (rw [hs_c11]; done) | (rw [hp_c11]; done) | (rw [hs_c11]; exact decide_eq_true rfl) | (rw [hp_c11]; exact decide_eq_true rfl) | (rw [hp_c11]; rfl)
 refine l_val (v := Value.pointer (some ⟨b480, 0, none⟩)) (want_y rfl rfl rfl (decide_eq_true q99_c11)) (e_fieldAddr Try.underlying24 rfl rfl rfl rfl) ?_
 replace bx485 := (bx485.chg hb575 (not_no _)).chg hb577 (not_no _)
 refine l_val (v := Value.int .i64 (((subR g keep).1).1)) (want_y rfl rfl rfl (decide_eq_true q99_c11)) (e_load_bx1 tp3_wb rfl bx485 rfl) ?_
 refine l_val (v := Value.bool (decide ((((subR g keep).1).1) = 0))) (want_y rfl rfl rfl (decide_eq_true q99_c11)) (e_eql (m := ((subR g keep).1).1) (n := 0) rfl rfl) ?_
 refine l_val (v := Value.bool (decide ((((subR g keep).1).1) = 0))) rfl (e_pick_t rfl (decide_eq_true q99_c11) rfl) ?_
 refine l_val (v := Value.bool (decide ((((subR g keep).1).1) = 0))) rfl (e_move rfl) ?_
 have q104_c11 : (((subR g keep).1).1) = 0 := by first | rfl | exact decide_eq_true rfl | (simp [gI]; done) | (rw [hs_c11]; done) | (rw [hp_c11]; done) | (rw [hs_c11]; exact decide_eq_true rfl) | (rw [hp_c11]; exact decide_eq_true rfl) | (rw [hp_c11]; rfl)
 refine l_val (v := Value.pointer (some ⟨b498, 0, none⟩)) (want_y rfl rfl rfl (decide_eq_true q104_c11)) (e_fieldAddr Try.underlying24 rfl rfl rfl rfl) ?_
 replace bx503 := (bx503.chg hb575 (not_no _)).chg hb577 (not_no _)
 refine l_val (v := Value.int .i64 (((partR g nodes).1).1)) (want_y rfl rfl rfl (decide_eq_true q104_c11)) (e_load_bx1 tp3_wb rfl bx503 rfl) ?_
 refine l_val (v := Value.bool (decide ((((partR g nodes).1).1) = 0))) (want_y rfl rfl rfl (decide_eq_true q104_c11)) (e_eql (m := ((partR g nodes).1).1) (n := 0) rfl rfl) ?_
 refine l_val (v := Value.bool (decide ((((partR g nodes).1).1) = 0))) rfl (e_pick_t rfl (decide_eq_true q104_c11) rfl) ?_
 refine l_val (v := Value.bool (decide ((((partR g nodes).1).1) = 0))) rfl (e_move rfl) ?_
 have q109_c11 : (((partR g nodes).1).1) = 0 := by first | rfl | exact decide_eq_true rfl | (simp [gI]; done) | (rw [hs_c11]; done) | (rw [hp_c11]; done) | (rw [hs_c11]; exact decide_eq_true rfl) | (rw [hp_c11]; exact decide_eq_true rfl) | (rw [hp_c11]; rfl)
 refine l_val (v := v492) (want_y rfl rfl rfl (decide_eq_true q109_c11)) (e_move rfl) ?_
 replace o493 := (o493.chg hb575 (not_no _)).chg hb577 (not_no _)
 have len697 := (o493).small
 refine l_val (v := Value.int .i64 (List.length ((partR g nodes).2.1) : Int)) (want_y rfl rfl rfl (decide_eq_true q109_c11)) (e_len Try.underlying35 rfl o493) ?_
 refine l_val (v := Value.bool (decide ((List.length ((partR g nodes).2.1) : Int) = 0))) (want_y rfl rfl rfl (decide_eq_true q109_c11)) (e_eql (m := (List.length ((partR g nodes).2.1) : Int)) (n := 0) rfl rfl) ?_
 refine l_val (v := Value.bool (decide ((List.length ((partR g nodes).2.1) : Int) = 0))) rfl (e_pick_t rfl (decide_eq_true q109_c11) rfl) ?_
 refine l_val (v := Value.bool (decide ((List.length ((partR g nodes).2.1) : Int) = 0))) rfl (e_assign rfl) ?_
 refine l_nil ?_
 refine run_ret (vs := [Value.bool (decide ((List.length ((partR g nodes).2.1) : Int) = 0))]) Try.func27 (.tmp rfl .nil) ?_
 replace hbase := hbase.chg hb575 (not_no _)
 replace hbase := hbase.chg hb577 (not_no _)
 replace r_g_v := (r_g_v.chg hb575 (not_no _)).chg hb577 (not_no _)
 replace r_keep_v := (r_keep_v.chg hb575 (not_no _)).chg hb577 (not_no _)
 replace r_nodes_v := r_nodes_v.chg hb577 (not_no _)
 replace bx5 := (bx5.chg hb575 (not_no _)).chg hb577 (not_no _)
 replace o21 := (o21.chg hb575 (not_no _) (not_no _)).chg hb577 (not_no _) (not_no _)
 replace r24 := (r24.chg hb575 (not_no _)).chg hb577 (not_no _)
 replace bx32 := (bx32.chg hb575 (not_no _)).chg hb577 (not_no _)
 replace bx42 := (bx42.chg hb575 (not_no _)).chg hb577 (not_no _)
 replace o_b_0_c12 := (o_b_0_c12.chg hb575 (not_no _)).chg hb577 (not_no _)
 have rt698 : decide ((List.length ((partR g nodes).2.1) : Int) = 0) = true := by
   first | rfl | exact decide_eq_true rfl | (simp [gI]; done) | (rw [hs_c11]; done) | (rw [hp_c11]; done) | (rw [hs_c11]; exact decide_eq_true rfl) | (rw [hp_c11]; exact decide_eq_true rfl) | (rw [hp_c11]; rfl)
 refine ⟨(b_0_c12_v, b_0_c12, b_1_c12, g571), (congrArg (fun b => Ending.returned (Value.bool b)) rt698), hbase, r_g_v, r_keep_v, r_nodes_v, bx5, o21, r24, bx32, bx42, o_b_0_c12, ?_⟩
 show KInv b_0_c12 b_1_c12
 first | assumption | exact KInv.nil | exact (KInv.add (by first | assumption | exact KInv.nil) (by omega) (by omega) (by omega))
end TL
