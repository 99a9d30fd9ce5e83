import Derived.Test.YtgaefcjhggdkcaaTlGenA
import Derived.Test.YtgaefcjhggdkcaaTlGenB
import Derived.Test.YtgaefcjhggdkcaaTlGenC
import Derived.Test.YtgaefcjhggdkcaaTlGenD
import Derived.Test.YtgaefcjhggdkcaaTlGenF
import Derived.Test.YtgaefcjhggdkcaaTlGenR
import Derived.Test.YtgaefcjhggdkcaaTlInts
import Derived.Test.YtgaefcjhggdkcaaTlGenWa
import Derived.Test.YtgaefcjhggdkcaaTlGenWb
import Derived.Test.YtgaefcjhggdkcaaTlGenWc
import Derived.Test.YtgaefcjhggdkcaaProg
import Derived.Test.YtgaefcjhggdkcaaTlNet2
import Derived.Test.YtgaefcjhggdkcaaTlEq
import Derived.Test.YtgaefcjhggdkcaaTlHold
import Derived.Test.YtgaefcjhggdkcaaTlDraw
import Derived.Test.YtgaefcjhggdkcaaTlMap
set_option linter.all false
set_option maxRecDepth 20000
namespace TL
open Go Go.Proofs
theorem mixed_w : Try.prog.follows .mixedOrders = true := by kernel_rfl
theorem tp3_w : Tp Try.prog 3 false 1 8 (.int .i64 0) := Tp.of (by kernel_rfl)
theorem tp24_w : Tp Try.prog 24 true 2 32 (.agg #[.int .i64 0, .slice none 0 0]) := Tp.of (by kernel_rfl)
theorem tp25_w : Tp Try.prog 25 false 1 24 (.slice none 0 0) := Tp.of (by kernel_rfl)
theorem tp35_w : Tp Try.prog 35 false 1 24 (.slice none 0 0) := Tp.of (by kernel_rfl)
theorem bd20_w : Try.f20.body.isNone = false := rfl
theorem nm20_w : (Try.f20.name == "runtime.NumGoroutine") = false := by decide +kernel
theorem bd21_w : Try.f21.body.isNone = false := rfl
theorem nm21_w : (Try.f21.name == "runtime.NumGoroutine") = false := by decide +kernel
theorem bd22_w : Try.f22.body.isNone = false := rfl
theorem nm22_w : (Try.f22.name == "runtime.NumGoroutine") = false := by decide +kernel
theorem bd23_w : Try.f23.body.isNone = false := rfl
theorem nm23_w : (Try.f23.name == "runtime.NumGoroutine") = false := by decide +kernel
theorem bd24_w : Try.f24.body.isNone = false := rfl
theorem nm24_w : (Try.f24.name == "runtime.NumGoroutine") = false := by decide +kernel
theorem bd25_w : Try.f25.body.isNone = false := rfl
theorem nm25_w : (Try.f25.name == "runtime.NumGoroutine") = false := by decide +kernel
theorem bd26_w : Try.f26.body.isNone = false := rfl
theorem nm26_w : (Try.f26.name == "runtime.NumGoroutine") = false := by decide +kernel
theorem bd27_w : Try.f27.body.isNone = false := rfl
theorem nm27_w : (Try.f27.name == "runtime.NumGoroutine") = false := by decide +kernel
theorem bd28_w : Try.f28.body.isNone = false := rfl
theorem nm28_w : (Try.f28.name == "runtime.NumGoroutine") = false := by decide +kernel
theorem bd29_w : Try.f29.body.isNone = false := rfl
theorem nm29_w : (Try.f29.name == "runtime.NumGoroutine") = false := by decide +kernel
theorem bd30_w : Try.f30.body.isNone = false := rfl
theorem nm30_w : (Try.f30.name == "runtime.NumGoroutine") = false := by decide +kernel
theorem bd70_w : Try.f70.body.isNone = false := rfl
theorem nm70_w : (Try.f70.name == "runtime.NumGoroutine") = false := by decide +kernel

set_option maxHeartbeats 16000000 in
theorem NetAll_ok (w0 : World) (g : (Int) × (List ((Int) × (Int)))) (g_v : Value) (hg_v : Ro w0 g_v g.2) (v : Int) (e : Int) (keep : List Int) (keep_v : Value) (hkeep_v : Ro w0 keep_v keep) (nodes : List Int) (nodes_v : Value) (hnodes_v : Ro w0 nodes_v nodes) :
    Calls Try.prog 4 #[Value.agg (List.toArray [Value.int .i64 g.1, g_v]), Value.int .i64 v, Value.int .i64 e, keep_v, nodes_v] w0 (fun ee w => ee = .returned (Value.bool true) ∧ RowKit.Below w0.heap.size w0 w) := by
 refine calls_of_run Try.func4 rfl (Nat.le_of_ble_eq_true rfl) ?_
 have hbase := Base.start w0
 have r_g_v := hg_v.sl
 have r_keep_v := hkeep_v.sl
 have r_nodes_v := hnodes_v.sl
 refine run_seq ?_
 refine run_region rfl ?_
 refine l_op rfl ?_
 refine o_box c0 (is 1) (1, 0) rfl rfl ?_
 intro g4 w1 b3 ch2 bx5
 replace bx5 : Bx g4 (is 1) w1 b3 [Value.int .i64 g.1, g_v] := bx5
 refine l_val (v := Value.bool false) rfl (e_assign rfl) ?_
 refine l_nil ?_
 refine run_seq ?_
 refine run_seq ?_
 refine run_region rfl ?_
 refine l_op rfl ?_
 refine o_call (v := Value.bool true) (e_call (vals := []) Try.func20 bd20_w nm20_w rfl) (begun_ok w1 ) ?_
 intro w6 hb7
 replace hb7 := chg_below hb7 g4
 refine l_val (v := Value.bool false) rfl (e_not (b := true) rfl) ?_
 refine l_nil ?_
 refine run_cond_f rfl rfl ?_
 refine run_skip ?_
 refine run_seq ?_
 refine run_seq ?_
 refine run_region rfl ?_
 replace bx5 := bx5.chg hb7 (not_no _)
 refine l_val (v := Value.agg (List.toArray [Value.int .i64 g.1, g_v])) rfl (e_load_bxN (ds := [Value.int .i64 g.1, g_v]) tp24_w rfl bx5 rfl rfl) ?_
 replace r_g_v := (r_g_v.chg ch2 (not_no _)).chg hb7 (not_no _)
 refine l_op rfl ?_
 refine o_call (v := Value.bool (decide (g.2.length ≤ 300 ∧ (g.1 ≤ 300 ∨ ¬ MayP g)))) (e_call (vals := [Value.agg (List.toArray [Value.int .i64 g.1, g_v])]) Try.func21 bd21_w nm21_w rfl) (Light_ok w6 g g_v (r_g_v).ro) ?_
 intro w8 hb9
 replace hb9 := chg_below hb9 g4
 refine l_val (v := Value.bool (!(decide (g.2.length ≤ 300 ∧ (g.1 ≤ 300 ∨ ¬ MayP g))))) rfl (e_not (b := (decide (g.2.length ≤ 300 ∧ (g.1 ≤ 300 ∨ ¬ MayP g)))) rfl) ?_
 refine l_val (v := Value.bool (!(decide (g.2.length ≤ 300 ∧ (g.1 ≤ 300 ∨ ¬ MayP g))))) rfl (e_move rfl) ?_
 by_cases q20 : (decide (g.2.length ≤ 300 ∧ (g.1 ≤ 300 ∨ ¬ MayP g))) = true
 ·
  have hli := of_decide_eq_true q20
  have hl300 := hli.1
  refine l_val (v := keep_v) (want_y rfl rfl rfl (congrArg Bool.not q20)) (e_move rfl) ?_
  have C10 : Chg (inl []) _ _ _ _ := (ch2.n).seq ((hb7.n).seq (hb9.n))
  replace r_keep_v := r_keep_v.chg C10 (is_nl rfl)
  refine l_op (want_y rfl rfl rfl (congrArg Bool.not q20)) ?_
  refine o_call (v := Value.bool (decide (keep.length ≤ 400))) (e_call (vals := [keep_v]) Try.func22 bd22_w nm22_w rfl) (few_ok w8 keep keep_v (r_keep_v).ro) ?_
  intro w11 hb12
  replace hb12 := chg_below hb12 g4
  refine l_val (v := Value.bool (!(decide (keep.length ≤ 400)))) (want_y rfl rfl rfl (congrArg Bool.not q20)) (e_not (b := (decide (keep.length ≤ 400))) rfl) ?_
  refine l_val (v := Value.bool (!(decide (keep.length ≤ 400)))) rfl (e_pick_f rfl (congrArg Bool.not q20) rfl) ?_
  refine l_val (v := Value.bool (!(decide (keep.length ≤ 400)))) rfl (e_move rfl) ?_
  by_cases q25 : (decide (keep.length ≤ 400)) = true
  ·
   have hkl := of_decide_eq_true q25
   refine l_val (v := nodes_v) (want_y rfl rfl rfl (congrArg Bool.not q25)) (e_move rfl) ?_
   have C13 : Chg (inl []) _ _ _ _ := (ch2.n).seq ((hb7.n).seq ((hb9.n).seq (hb12.n)))
   replace r_nodes_v := r_nodes_v.chg C13 (is_nl rfl)
   refine l_op (want_y rfl rfl rfl (congrArg Bool.not q25)) ?_
   refine o_call (v := Value.bool (decide (nodes.length ≤ 400))) (e_call (vals := [nodes_v]) Try.func22 bd22_w nm22_w rfl) (few_ok w11 nodes nodes_v (r_nodes_v).ro) ?_
   intro w14 hb15
   replace hb15 := chg_below hb15 g4
   refine l_val (v := Value.bool (!(decide (nodes.length ≤ 400)))) (want_y rfl rfl rfl (congrArg Bool.not q25)) (e_not (b := (decide (nodes.length ≤ 400))) rfl) ?_
   refine l_val (v := Value.bool (!(decide (nodes.length ≤ 400)))) rfl (e_pick_f rfl (congrArg Bool.not q25) rfl) ?_
   refine l_nil ?_
   by_cases p3 : (decide (nodes.length ≤ 400)) = true
   ·
    have hnl := of_decide_eq_true p3
    refine run_cond_f rfl (congrArg Bool.not p3) ?_
    refine run_skip ?_
    refine run_seq ?_
    refine run_region rfl ?_
    have C16 : Chg (inl []) _ _ _ _ := (hb9.n).seq ((hb12.n).seq (hb15.n))
    replace bx5 := bx5.chg C16 (is_nl rfl)
    refine l_val (v := Value.agg (List.toArray [Value.int .i64 g.1, g_v])) rfl (e_load_bxN (ds := [Value.int .i64 g.1, g_v]) tp24_w rfl bx5 rfl rfl) ?_
    replace r_g_v := r_g_v.chg C16 (is_nl rfl)
    refine l_op rfl ?_
    refine o_callx (e_call (vals := [Value.agg (List.toArray [Value.int .i64 g.1, g_v])]) Try.func23 bd23_w nm23_w rfl) (Twin_ok w14 g g_v (r_g_v).ro (by omega)) ?_
    rintro ⟨d18, v20⟩ w17 ⟨fr19, o21⟩
    obtain ⟨g22, hg22⟩ : ∃ q, q = glue w14.heap.size g4 d18 (fun n => if n = 1 then 2 else 0) := ⟨_, rfl⟩
    have ch23 := chg_glue fr19.below g4 d18 (fun n => if n = 1 then 2 else 0)
    rw [← hg22] at ch23
    replace o21 := o21.glue (γ := g4) (ren := (fun n => if n = 1 then 2 else 0)) (k := 2) fr19.col rfl rfl
    rw [← hg22] at o21
    have r24 := mark_sl o21.flat
    clear hg22
    refine l_op rfl ?_
    refine o_alloc g22 (is 3) (3, 0) rfl tp24_w ?_
    intro g28 w25 b27 ch26 bx29
    replace bx29 : Bx g28 (is 3) w25 b27 [Value.int .i64 0, Value.slice none 0 0] := bx29
    refine l_op rfl ?_
    replace r24 := r24.chg ch26 (not_no _)
    refine o_store_bx (cs' := [Value.int .i64 g.1, v20]) tp24_w rfl rfl bx29 rfl (Nat.le_of_ble_eq_true rfl) (AllOne.all (.cons rfl (.cons (sl_one r24) .nil))) rfl ?_
    intro w30 ch31 bx32
    clear bx29
    refine l_nil ?_
    refine run_seq ?_
    refine run_region rfl ?_
    have C33 : Chg (inl [3]) _ _ _ _ := (ch23.n).seq ((ch26.n).seq (ch31.l rfl))
    replace bx5 := bx5.chg C33 (is_nl rfl)
    refine l_val (v := Value.agg (List.toArray [Value.int .i64 g.1, g_v])) rfl (e_load_bxN (ds := [Value.int .i64 g.1, g_v]) tp24_w rfl bx5 rfl rfl) ?_
    replace r_g_v := r_g_v.chg C33 (is_nl rfl)
    refine l_op rfl ?_
    refine o_call (v := Value.bool (mayB g)) (e_call (vals := [Value.agg (List.toArray [Value.int .i64 g.1, g_v])]) Try.func24 bd24_w nm24_w rfl) (rMay_ok w30 g g_v (r_g_v).ro) ?_
    intro w34 hb35
    replace hb35 := chg_below hb35 g28
    refine l_val (v := Value.bool (mayB g)) rfl (e_assign rfl) ?_
    refine l_nil ?_
    refine run_seq ?_
    refine run_seq ?_
    refine run_region rfl ?_
    replace bx32 := bx32.chg hb35 (not_no _)
    refine l_val (v := Value.agg (List.toArray [Value.int .i64 g.1, v20])) rfl (e_load_bxN (ds := [Value.int .i64 g.1, v20]) tp24_w rfl bx32 rfl rfl) ?_
    replace r24 := (r24.chg ch31 (is_ne rfl)).chg hb35 (not_no _)
    refine l_op rfl ?_
    refine o_call (v := Value.bool (mayB g)) (e_call (vals := [Value.agg (List.toArray [Value.int .i64 g.1, v20])]) Try.func25 bd25_w nm25_w rfl) (May_ok w34 g v20 (r24).ro) ?_
    intro w36 hb37
    replace hb37 := chg_below hb37 g28
    refine l_val (v := Value.bool (mayB g)) rfl (e_move rfl) ?_
    refine l_val (v := Value.bool (!(decide ((mayB g) = (mayB g))))) rfl (e_neq_bool Try.underlying4 rfl rfl) ?_
    refine l_nil ?_
    have p7 : (mayB g) = (mayB g) := by first | rfl | assumption | exact decide_eq_true rfl
    refine run_cond_f rfl (congrArg Bool.not (decide_eq_true p7)) ?_
    refine run_skip ?_
    refine run_seq ?_
    refine run_region rfl ?_
    refine l_val (v := Value.agg (List.toArray [Value.slice none 0 0, Value.int .i64 0])) rfl (e_build (vs := []) rfl (by kernel_rfl)) ?_
    refine l_op rfl ?_
    refine o_box g28 (is 4) (4, 0) rfl rfl ?_
    intro g41 w38 b40 ch39 bx42
    replace bx42 : Bx g41 (is 4) w38 b40 [Value.slice none 0 0, Value.int .i64 0] := bx42
    refine l_val (v := Value.pointer (some ⟨b40, 0, none⟩)) rfl (e_assign rfl) ?_
    refine l_nil ?_
    refine run_seq ?_
    refine run_seq ?_
    refine run_region rfl ?_
    refine l_val (v := Value.int .i64 0) rfl (e_assign rfl) ?_
    refine l_nil ?_
    refine run_block ?_
    refine run_loop (σ := Value × (List (List Int)) × Int × Nat × Cmap) (fun ⟨b_0_v, b_0, b_1, turn, gq⟩ f w => Base w0 gq w ∧ f 1 = Value.int .i64 v ∧ f 2 = Value.int .i64 e ∧ f 3 = keep_v ∧ f 4 = nodes_v ∧ f 5 = Value.pointer (some ⟨b3, 0, none⟩) ∧ f 11 = Value.pointer (some ⟨b27, 0, none⟩) ∧ f 12 = Value.bool (mayB g) ∧ f 13 = Value.pointer (some ⟨b40, 0, none⟩) ∧ f 14 = Value.int .i64 (turn : Int) ∧ Sl gq (is 0) w g_v g.2 ∧ Sl gq (is 0) w keep_v keep ∧ Sl gq (is 0) w nodes_v nodes ∧ Bx gq (is 1) w b3 [Value.int .i64 g.1, g_v] ∧ Ow gq (is 2) (is 2) w (upV v20) (g.2 ++ [((-7 : Int), (7 : Int))]) ∧ Sl gq (is 2) w v20 g.2 ∧ Bx gq (is 3) w b27 [Value.int .i64 g.1, v20] ∧ Bx gq (is 4) w b40 [b_0_v, Value.int .i64 b_1] ∧ Nst gq 17 w b_0_v b_0 ∧ (turn : Int) ≤ (2 : Int) ∧ (KInv b_0 b_1)) (fun ⟨b_0_v, b_0, b_1, turn, gq⟩ => Int.toNat ((2 : Int) - (turn : Int))) (Value.slice none 0 0, [], 0, 0, g41) ?_ ?_
    have C43 : Chg (inl [3]) _ _ _ _ := (ch2.n).seq ((hb7.n).seq ((hb9.n).seq ((hb12.n).seq ((hb15.n).seq ((ch23.n).seq ((ch26.n).seq ((ch31.l rfl).seq ((hb35.n).seq ((hb37.n).seq (ch39.n))))))))))
    replace hbase := hbase.chg C43 (is_nl rfl)
    have C44 : Chg (inl []) _ _ _ _ := (hb35.n).seq ((hb37.n).seq (ch39.n))
    replace r_g_v := r_g_v.chg C44 (is_nl rfl)
    have C45 : Chg (inl [3]) _ _ _ _ := (hb12.n).seq ((hb15.n).seq ((ch23.n).seq ((ch26.n).seq ((ch31.l rfl).seq ((hb35.n).seq ((hb37.n).seq (ch39.n)))))))
    replace r_keep_v := r_keep_v.chg C45 (is_nl rfl)
    have C46 : Chg (inl [3]) _ _ _ _ := (hb15.n).seq ((ch23.n).seq ((ch26.n).seq ((ch31.l rfl).seq ((hb35.n).seq ((hb37.n).seq (ch39.n))))))
    replace r_nodes_v := r_nodes_v.chg C46 (is_nl rfl)
    replace bx5 := bx5.chg C44 (is_nl rfl)
    have C47 : Chg (inl [3]) _ _ _ _ := (ch26.n).seq ((ch31.l rfl).seq ((hb35.n).seq ((hb37.n).seq (ch39.n))))
    replace o21 := o21.chg C47 (is_nl rfl) (is_nl rfl)
    replace r24 := (r24.chg hb37 (not_no _)).chg ch39 (not_no _)
    replace bx32 := (bx32.chg hb37 (not_no _)).chg ch39 (not_no _)
    · exact ⟨hbase, rfl, rfl, rfl, rfl, rfl, rfl, rfl, rfl, rfl, r_g_v, r_keep_v, r_nodes_v, bx5, o21, r24, bx32, bx42, Nst.nil, by omega, by exact KInv.nil⟩
    clear r_g_v
    clear r_keep_v
    clear r_nodes_v
    clear bx5
    clear o21
    clear r24
    clear bx32
    clear bx42
    clear hbase
    rintro ⟨b_0_v, b_0, b_1, turn, g50⟩ f48 w49 ⟨hbase, zs1, zs2, zs3, zs4, zs5, zs11, zs12, zs13, zs14, r_g_v, r_keep_v, r_nodes_v, bx5, o21, r24, bx32, bx42, o_b_0, hle_turn, hk⟩ back11
    obtain ⟨hka, hkb, hkc⟩ := hk.len
    refine run_seq ?_
    refine run_seq ?_
    refine run_region rfl ?_
    refine l_val (v := Value.int .i64 (turn : Int)) rfl (e_move (by exact zs14)) ?_
    refine l_val (v := Value.bool (decide ((turn : Int) < 2))) rfl (e_lss (m := (turn : Int)) (n := 2) rfl rfl) ?_
    refine l_nil ?_
    by_cases p11 : (turn : Int) < 2
    ·
     refine run_cond_t rfl (decide_eq_true p11) ?_
     refine run_skip ?_
     refine run_seq ?_
     refine run_block ?_
     refine run_seq ?_
     refine run_region rfl ?_
     refine l_val (v := Value.agg (List.toArray [Value.int .i64 g.1, v20])) rfl (e_load_bxN (ds := [Value.int .i64 g.1, v20]) tp24_w (by exact zs11) bx32 rfl rfl) ?_
     refine l_val (v := Value.agg (List.toArray [Value.int .i64 g.1, g_v])) rfl (e_load_bxN (ds := [Value.int .i64 g.1, g_v]) tp24_w (by exact zs5) bx5 rfl rfl) ?_
     refine l_val (v := Value.bool (mayB g)) rfl (e_move (by exact zs12)) ?_
     refine l_val (v := Value.int .i64 v) rfl (e_move (by exact zs1)) ?_
     refine l_val (v := Value.int .i64 e) rfl (e_move (by exact zs2)) ?_
     refine l_val (v := Value.pointer (some ⟨b40, 0, none⟩)) rfl (e_move (by exact zs13)) ?_
     refine l_op rfl ?_
     refine o_callx (σ := Value × (List (List Int)) × Int × Cmap) (V := fun ⟨b_0_c7_v, b_0_c7, b_1_c7, gq⟩ => Value.bool true) (S := fun ⟨b_0_c7_v, b_0_c7, b_1_c7, gq⟩ w => Base w0 gq w ∧ Sl gq (is 0) w g_v g.2 ∧ Sl gq (is 0) w keep_v keep ∧ Sl gq (is 0) w nodes_v nodes ∧ Bx gq (is 1) w b3 [Value.int .i64 g.1, g_v] ∧ Ow gq (is 2) (is 2) w (upV v20) (g.2 ++ [((-7 : Int), (7 : Int))]) ∧ Sl gq (is 2) w v20 g.2 ∧ Bx gq (is 3) w b27 [Value.int .i64 g.1, v20] ∧ Bx gq (is 4) w b40 [b_0_c7_v, Value.int .i64 b_1_c7] ∧ Nst gq 17 w b_0_c7_v b_0_c7 ∧ (KInv b_0_c7 b_1_c7)) (e_call (vals := [Value.agg (List.toArray [Value.int .i64 g.1, v20]), Value.agg (List.toArray [Value.int .i64 g.1, g_v]), Value.bool (mayB g), Value.int .i64 v, Value.int .i64 e, Value.pointer (some ⟨b40, 0, none⟩)]) Try.func26 bd26_w nm26_w rfl) (NetAll_ok_asked hbase r_g_v r_keep_v r_nodes_v bx5 o21 r24 bx32 bx42 o_b_0 hl300 hkl hnl hk) ?_
     clear r_g_v
     clear r_keep_v
     clear r_nodes_v
     clear bx5
     clear o21
     clear r24
     clear bx32
     clear bx42
     clear o_b_0
     clear hbase
     rintro ⟨b_0_c7_v, b_0_c7, b_1_c7, g419⟩ w418 ⟨hbase, r_g_v, r_keep_v, r_nodes_v, bx5, o21, r24, bx32, bx42, o_b_0_c7, hj_c7⟩
     obtain ⟨hja_c7, hjb_c7, hjc_c7⟩ := hj_c7.len
     refine l_val (v := Value.bool false) rfl (e_not (b := true) rfl) ?_
     refine l_val (v := Value.bool false) rfl (e_move rfl) ?_
     refine l_val (v := Value.agg (List.toArray [Value.int .i64 g.1, v20])) (want_y rfl rfl rfl rfl) (e_load_bxN (ds := [Value.int .i64 g.1, v20]) tp24_w (by exact zs11) bx32 rfl rfl) ?_
     refine l_val (v := Value.agg (List.toArray [Value.int .i64 g.1, g_v])) (want_y rfl rfl rfl rfl) (e_load_bxN (ds := [Value.int .i64 g.1, g_v]) tp24_w (by exact zs5) bx5 rfl rfl) ?_
     refine l_val (v := Value.bool (mayB g)) (want_y rfl rfl rfl rfl) (e_move (by exact zs12)) ?_
     refine l_val (v := keep_v) (want_y rfl rfl rfl rfl) (e_move (by exact zs3)) ?_
     refine l_val (v := nodes_v) (want_y rfl rfl rfl rfl) (e_move (by exact zs4)) ?_
     refine l_val (v := Value.pointer (some ⟨b40, 0, none⟩)) (want_y rfl rfl rfl rfl) (e_move (by exact zs13)) ?_
     refine l_op (want_y rfl rfl rfl rfl) ?_
     refine o_callx (σ := Value × (List (List Int)) × Int × Cmap) (V := fun ⟨b_0_c11_v, b_0_c11, b_1_c11, gq⟩ => Value.bool true) (S := fun ⟨b_0_c11_v, b_0_c11, b_1_c11, gq⟩ w => Base w0 gq w ∧ Sl gq (is 0) w g_v g.2 ∧ Sl gq (is 0) w keep_v keep ∧ Sl gq (is 0) w nodes_v nodes ∧ Bx gq (is 1) w b3 [Value.int .i64 g.1, g_v] ∧ Ow gq (is 2) (is 2) w (upV v20) (g.2 ++ [((-7 : Int), (7 : Int))]) ∧ Sl gq (is 2) w v20 g.2 ∧ Bx gq (is 3) w b27 [Value.int .i64 g.1, v20] ∧ Bx gq (is 4) w b40 [b_0_c11_v, Value.int .i64 b_1_c11] ∧ Nst gq 17 w b_0_c11_v b_0_c11 ∧ (KInv b_0_c11 b_1_c11)) (e_call (vals := [Value.agg (List.toArray [Value.int .i64 g.1, v20]), Value.agg (List.toArray [Value.int .i64 g.1, g_v]), Value.bool (mayB g), keep_v, nodes_v, Value.pointer (some ⟨b40, 0, none⟩)]) Try.func27 bd27_w nm27_w rfl) (NetAll_ok_chosen hbase r_g_v r_keep_v r_nodes_v bx5 o21 r24 bx32 bx42 o_b_0_c7 hl300 hkl hnl (by assumption)) ?_
     clear r_g_v
     clear r_keep_v
     clear r_nodes_v
     clear bx5
     clear o21
     clear r24
     clear bx32
     clear bx42
     clear o_b_0_c7
     clear hbase
     rintro ⟨b_0_c11_v, b_0_c11, b_1_c11, g700⟩ w699 ⟨hbase, r_g_v, r_keep_v, r_nodes_v, bx5, o21, r24, bx32, bx42, o_b_0_c11, hj_c11⟩
     obtain ⟨hja_c11, hjb_c11, hjc_c11⟩ := hj_c11.len
     refine l_val (v := Value.bool false) (want_y rfl rfl rfl rfl) (e_not (b := true) rfl) ?_
     refine l_val (v := Value.bool false) rfl (e_pick_f rfl rfl rfl) ?_
     refine l_val (v := Value.bool false) rfl (e_move rfl) ?_
     refine l_val (v := Value.agg (List.toArray [Value.int .i64 g.1, v20])) (want_y rfl rfl rfl rfl) (e_load_bxN (ds := [Value.int .i64 g.1, v20]) tp24_w (by exact zs11) bx32 rfl rfl) ?_
     refine l_val (v := Value.agg (List.toArray [Value.int .i64 g.1, g_v])) (want_y rfl rfl rfl rfl) (e_load_bxN (ds := [Value.int .i64 g.1, g_v]) tp24_w (by exact zs5) bx5 rfl rfl) ?_
     refine l_val (v := Value.bool (mayB g)) (want_y rfl rfl rfl rfl) (e_move (by exact zs12)) ?_
     refine l_val (v := Value.int .i64 v) (want_y rfl rfl rfl rfl) (e_move (by exact zs1)) ?_
     refine l_val (v := Value.int .i64 e) (want_y rfl rfl rfl rfl) (e_move (by exact zs2)) ?_
     refine l_val (v := Value.pointer (some ⟨b40, 0, none⟩)) (want_y rfl rfl rfl rfl) (e_move (by exact zs13)) ?_
     refine l_op (want_y rfl rfl rfl rfl) ?_
     refine o_callx (σ := Value × (List (List Int)) × Int × Cmap) (V := fun ⟨b_0_c15_v, b_0_c15, b_1_c15, gq⟩ => Value.bool true) (S := fun ⟨b_0_c15_v, b_0_c15, b_1_c15, gq⟩ w => Base w0 gq w ∧ Sl gq (is 0) w g_v g.2 ∧ Sl gq (is 0) w keep_v keep ∧ Sl gq (is 0) w nodes_v nodes ∧ Bx gq (is 1) w b3 [Value.int .i64 g.1, g_v] ∧ Ow gq (is 2) (is 2) w (upV v20) (g.2 ++ [((-7 : Int), (7 : Int))]) ∧ Sl gq (is 2) w v20 g.2 ∧ Bx gq (is 3) w b27 [Value.int .i64 g.1, v20] ∧ Bx gq (is 4) w b40 [b_0_c15_v, Value.int .i64 b_1_c15] ∧ Nst gq 17 w b_0_c15_v b_0_c15 ∧ (KInv b_0_c15 b_1_c15)) (e_call (vals := [Value.agg (List.toArray [Value.int .i64 g.1, v20]), Value.agg (List.toArray [Value.int .i64 g.1, g_v]), Value.bool (mayB g), Value.int .i64 v, Value.int .i64 e, Value.pointer (some ⟨b40, 0, none⟩)]) Try.func28 bd28_w nm28_w rfl) (NetAll_ok_merged hbase r_g_v r_keep_v r_nodes_v bx5 o21 r24 bx32 bx42 o_b_0_c11 hl300 hkl hnl (by assumption)) ?_
     clear r_g_v
     clear r_keep_v
     clear r_nodes_v
     clear bx5
     clear o21
     clear r24
     clear bx32
     clear bx42
     clear o_b_0_c11
     clear hbase
     rintro ⟨b_0_c15_v, b_0_c15, b_1_c15, g846⟩ w845 ⟨hbase, r_g_v, r_keep_v, r_nodes_v, bx5, o21, r24, bx32, bx42, o_b_0_c15, hj_c15⟩
     obtain ⟨hja_c15, hjb_c15, hjc_c15⟩ := hj_c15.len
     refine l_val (v := Value.bool false) (want_y rfl rfl rfl rfl) (e_not (b := true) rfl) ?_
     refine l_val (v := Value.bool false) rfl (e_pick_f rfl rfl rfl) ?_
     refine l_val (v := Value.bool false) rfl (e_move rfl) ?_
     refine l_val (v := Value.agg (List.toArray [Value.int .i64 g.1, v20])) (want_y rfl rfl rfl rfl) (e_load_bxN (ds := [Value.int .i64 g.1, v20]) tp24_w (by exact zs11) bx32 rfl rfl) ?_
     refine l_val (v := Value.agg (List.toArray [Value.int .i64 g.1, g_v])) (want_y rfl rfl rfl rfl) (e_load_bxN (ds := [Value.int .i64 g.1, g_v]) tp24_w (by exact zs5) bx5 rfl rfl) ?_
     refine l_op (want_y rfl rfl rfl rfl) ?_
     refine o_call (v := Value.bool (decide (g = g))) (e_call (vals := [Value.agg (List.toArray [Value.int .i64 g.1, v20]), Value.agg (List.toArray [Value.int .i64 g.1, g_v])]) Try.func29 bd29_w nm29_w rfl) (Kept_ok w845 g v20 (r24).ro g g_v (r_g_v).ro (by exact Sl.ro (Ow.flat (by assumption)))) ?_
     intro w847 hb848
     replace hb848 := chg_below hb848 g846
     refine l_val (v := Value.bool (!(decide (g = g)))) (want_y rfl rfl rfl rfl) (e_not (b := (decide (g = g))) rfl) ?_
     refine l_val (v := Value.bool (!(decide (g = g)))) rfl (e_pick_f rfl rfl rfl) ?_
     refine l_nil ?_
     have p13 : (decide (g = g)) = true := by first | rfl | assumption | exact decide_eq_true rfl
     refine run_cond_f rfl (congrArg Bool.not p13) ?_
     refine run_skip ?_
     refine run_inBlock ?_
     refine run_region rfl ?_
     refine l_val (v := Value.int .i64 (turn : Int)) rfl (e_move (by exact zs14)) ?_
     refine l_val (v := Value.int .i64 ((turn : Int) + 1)) rfl (e_add (m := (turn : Int)) (n := 1) rfl rfl (by omega)) ?_
     refine l_val (v := Value.int .i64 ((turn : Int) + 1)) rfl (e_assign rfl) ?_
     refine l_nil ?_
     replace hbase := hbase.chg hb848 (not_no _)
     replace r_g_v := r_g_v.chg hb848 (not_no _)
     replace r_keep_v := r_keep_v.chg hb848 (not_no _)
     replace r_nodes_v := r_nodes_v.chg hb848 (not_no _)
     replace bx5 := bx5.chg hb848 (not_no _)
     replace o21 := o21.chg hb848 (not_no _) (not_no _)
     replace r24 := r24.chg hb848 (not_no _)
     replace bx32 := bx32.chg hb848 (not_no _)
     replace bx42 := bx42.chg hb848 (not_no _)
     replace o_b_0_c15 := o_b_0_c15.chg hb848 (not_no _)
     refine back11 (b_0_c15_v, b_0_c15, b_1_c15, turn + 1, g846) _ _ ⟨hbase, (by exact zs1), (by exact zs2), (by exact zs3), (by exact zs4), (by exact zs5), (by exact zs11), (by exact zs12), (by exact zs13), rfl, r_g_v, r_keep_v, r_nodes_v, bx5, o21, r24, bx32, bx42, o_b_0_c15, by omega, ?_⟩ ?_
     · show KInv b_0_c15 b_1_c15
       first | assumption | exact KInv.nil | exact (KInv.add (by first | assumption | exact KInv.nil) (by omega) (by omega) (by omega))
     · show Int.toNat ((2 : Int) - ((turn + 1) : Int)) < Int.toNat ((2 : Int) - (turn : Int))
       omega
    refine run_cond_f rfl (decide_eq_false p11) ?_
    refine run_exit rfl ?_
    refine run_seq ?_
    clear bx5
    clear r24
    clear bx32
    refine run_region rfl ?_
    refine l_val (v := Value.pointer (some ⟨b40, 0, none⟩)) rfl (e_move (by exact zs13)) ?_
    refine l_op rfl ?_
    refine o_inline (e_call (vals := [Value.pointer (some ⟨b40, 0, none⟩)]) Try.func30 bd30_w nm30_w rfl) ?_
    refine calls_of_run Try.func30 rfl (Nat.le_of_ble_eq_true rfl) ?_
    refine run_seq ?_
    refine run_region rfl ?_
    refine l_val (v := Value.bool false) rfl (e_assign rfl) ?_
    refine l_nil ?_
    refine run_seq ?_
    refine run_seq ?_
    refine run_region rfl ?_
    refine l_val (v := Value.int .i64 0) rfl (e_assign rfl) ?_
    refine l_nil ?_
    refine run_block ?_
    refine run_loop (σ := Nat × (List (List Int)) × Cmap) (fun ⟨i_c18, L_c18, gq⟩ f w => Base w0 gq w ∧ f 0 = Value.pointer (some ⟨b40, 0, none⟩) ∧ f 3 = Value.int .i64 (i_c18 : Int) ∧ Sl gq (is 0) w g_v g.2 ∧ Sl gq (is 0) w keep_v keep ∧ Sl gq (is 0) w nodes_v nodes ∧ Ow gq (is 2) (is 2) w (upV v20) (g.2 ++ [((-7 : Int), (7 : Int))]) ∧ Bx gq (is 4) w b40 [b_0_v, Value.int .i64 b_1] ∧ Nst gq 17 w b_0_v L_c18 ∧ (ApInv L_c18 i_c18)) (fun ⟨i_c18, L_c18, gq⟩ => List.length L_c18 - i_c18) (0, b_0, g50) ?_ ?_
    · exact ⟨hbase, rfl, rfl, r_g_v, r_keep_v, r_nodes_v, o21, bx42, o_b_0, by exact KInv.ap (by assumption)⟩
    clear r_g_v
    clear r_keep_v
    clear r_nodes_v
    clear o21
    clear bx42
    clear o_b_0
    clear hbase
    rintro ⟨i_c18, L_c18, g851⟩ f849 w850 ⟨hbase, zs0, zs3, r_g_v, r_keep_v, r_nodes_v, o21, bx42, o_b_0, ha_c18⟩ back2_c18
    have hale_c18 := ha_c18.le
    have hafew_c18 := ha_c18.few
    refine run_seq ?_
    refine run_seq ?_
    refine run_region rfl ?_
    refine l_val (v := Value.int .i64 (i_c18 : Int)) rfl (e_move (by exact zs3)) ?_
    refine l_val (v := Value.pointer (some ⟨b40, 0, none⟩)) rfl (e_move (by exact zs0)) ?_
    refine l_val (v := Value.pointer (some ⟨b40, 0, none⟩)) rfl (e_nilCheck rfl) ?_
    refine l_val (v := Value.pointer (some ⟨b40, 0, none⟩)) rfl (e_fieldAddr Try.underlying49 rfl rfl rfl rfl) ?_
    refine l_val (v := b_0_v) rfl (e_load_bx1 tp25_w rfl bx42 rfl) ?_
    have len852 := (o_b_0.sl).small
    refine l_val (v := Value.int .i64 (List.length L_c18 : Int)) rfl (e_len Try.underlying25 rfl o_b_0.sl) ?_
    refine l_val (v := Value.bool (decide ((i_c18 : Int) < (List.length L_c18 : Int)))) rfl (e_lss (m := (i_c18 : Int)) (n := (List.length L_c18 : Int)) rfl rfl) ?_
    refine l_nil ?_
    by_cases p2_c18 : (i_c18 : Int) < (List.length L_c18 : Int)
    ·
     refine run_cond_t rfl (decide_eq_true p2_c18) ?_
     have hares_c18 := ha_c18.rest i_c18 (Nat.le_refl _) (by omega)
     refine run_skip ?_
     refine run_seq ?_
     refine run_block ?_
     refine run_seq ?_
     refine run_seq ?_
     refine region_q g851 rfl mixed_w (by kernel_rfl) ?_
     intro w854 ch853
     refine q_val (v := Value.pointer (some ⟨b40, 0, none⟩)) rfl (fun w' hw' => e_move (by exact zs0)) ?_
     refine q_val (v := Value.pointer (some ⟨b40, 0, none⟩)) rfl (fun w' hw' => e_nilCheck rfl) ?_
     refine q_val (v := Value.pointer (some ⟨b40, 0, none⟩)) rfl (fun w' hw' => e_fieldAddr Try.underlying49 rfl rfl rfl rfl) ?_
     replace bx42 := bx42.chg ch853 (not_no _)
     refine q_val (v := b_0_v) rfl (fun w' hw' => e_load_bx1 tp25_w rfl (bx42.bel hw') rfl) ?_
     refine q_val (v := Value.int .i64 (i_c18 : Int)) rfl (fun w' hw' => e_move (by exact zs3)) ?_
     replace o_b_0 := o_b_0.chg ch853 (not_no _)
     refine q_val (v := Value.pointer (some (eAddr b_0_v 1 (Int.toNat (i_c18 : Int))))) rfl (fun w' hw' => e_indexAddr (α := List Int) (xs := L_c18) (v := b_0_v) (i := (i_c18 : Int)) Try.underlying25 rfl rfl (o_b_0.sl.bel hw') rfl (by omega) (by omega)) ?_
     obtain ⟨v855, cel856, r857⟩ := nst_row (r := (i_c18 : Int)) o_b_0 (by omega) (by omega)
     refine q_val (v := v855) rfl (fun w' hw' => e_load1 tp35_w rfl (cel_bel cel856 hw')) ?_
     have len858 := (r857.row_sl).small
     refine q_val (v := Value.int .i64 (List.length (gI L_c18 (i_c18 : Int)) : Int)) rfl (fun w' hw' => e_len Try.underlying35 rfl (r857.row_sl.bel hw')) ?_
     refine q_val (v := Value.pointer (some ⟨b40, 0, none⟩)) rfl (fun w' hw' => e_move (by exact zs0)) ?_
     refine q_val (v := Value.pointer (some ⟨b40, 0, none⟩)) rfl (fun w' hw' => e_nilCheck rfl) ?_
     refine q_val (v := Value.pointer (some ⟨b40, 0, none⟩)) rfl (fun w' hw' => e_fieldAddr Try.underlying49 rfl rfl rfl rfl) ?_
     refine q_val (v := b_0_v) rfl (fun w' hw' => e_load_bx1 tp25_w rfl (bx42.bel hw') rfl) ?_
     refine q_val (v := Value.int .i64 (i_c18 : Int)) rfl (fun w' hw' => e_move (by exact zs3)) ?_
     refine q_val (v := Value.pointer (some (eAddr b_0_v 1 (Int.toNat (i_c18 : Int))))) rfl (fun w' hw' => e_indexAddr (α := List Int) (xs := L_c18) (v := b_0_v) (i := (i_c18 : Int)) Try.underlying25 rfl rfl (o_b_0.sl.bel hw') rfl (by omega) (by omega)) ?_
     obtain ⟨v859, cel860, r861⟩ := nst_row (r := (i_c18 : Int)) o_b_0 (by omega) (by omega)
     refine q_val (v := v859) rfl (fun w' hw' => e_load1 tp35_w rfl (cel_bel cel860 hw')) ?_
     have cap862 := Sl.cap r861.row_sl
     refine q_val (v := Value.int .i64 (sCap v859 : Int)) rfl (fun w' hw' => e_cap Try.underlying35 rfl (r861.row_sl.bel hw')) ?_
     refine q_call (v := Value.int .i64 (min (sCap v859 : Int) ((List.length (gI L_c18 (i_c18 : Int)) : Int) + 2000))) rfl (fun w' hw' => e_call (vals := [Value.int .i64 (List.length (gI L_c18 (i_c18 : Int)) : Int), Value.int .i64 (sCap v859 : Int)]) Try.func70 bd70_w nm70_w rfl) (fun w' hw' => (Room_ok w' (List.length (gI L_c18 (i_c18 : Int)) : Int) (sCap v859 : Int) (by omega)).mono fun e w2 h2 => ⟨h2.1, hw'.trans (h2.2.mono hw'.size)⟩) ?_
     refine q_val (v := Value.int .i64 (min (sCap v859 : Int) ((List.length (gI L_c18 (i_c18 : Int)) : Int) + 2000))) rfl (fun w' hw' => e_assign rfl) ?_
     refine q_nil ?_
     intro w863 hc864
     replace hc864 := chg_below hc864 g851
     refine run_block ?_
     clear r857
     clear cel856
     clear r861
     clear cel860
     refine run_loop (σ := (List (List Int)) × Cmap) (fun ⟨L1_c18, gq⟩ f w => Base w0 gq w ∧ f 0 = Value.pointer (some ⟨b40, 0, none⟩) ∧ f 3 = Value.int .i64 (i_c18 : Int) ∧ f 4 = Value.int .i64 (min (sCap v859 : Int) ((List.length (gI L_c18 (i_c18 : Int)) : Int) + 2000)) ∧ Sl gq (is 0) w g_v g.2 ∧ Sl gq (is 0) w keep_v keep ∧ Sl gq (is 0) w nodes_v nodes ∧ Ow gq (is 2) (is 2) w (upV v20) (g.2 ++ [((-7 : Int), (7 : Int))]) ∧ Bx gq (is 4) w b40 [b_0_v, Value.int .i64 b_1] ∧ Nst gq 17 w b_0_v L1_c18 ∧ (GrInv L1_c18 L_c18 i_c18 (min (sCap v859 : Int) ((List.length (gI L_c18 (i_c18 : Int)) : Int) + 2000)))) (fun ⟨L1_c18, gq⟩ => Int.toNat ((min (sCap v859 : Int) ((List.length (gI L_c18 (i_c18 : Int)) : Int) + 2000)) - (List.length (gI L1_c18 (i_c18 : Int)) : Int))) (L_c18, g851) ?_ ?_
     replace hbase := hbase.chg ch853 (not_no _)
     replace hbase := hbase.chg hc864 (not_no _)
     replace r_g_v := (r_g_v.chg ch853 (not_no _)).chg hc864 (not_no _)
     replace r_keep_v := (r_keep_v.chg ch853 (not_no _)).chg hc864 (not_no _)
     replace r_nodes_v := (r_nodes_v.chg ch853 (not_no _)).chg hc864 (not_no _)
     replace o21 := (o21.chg ch853 (not_no _) (not_no _)).chg hc864 (not_no _) (not_no _)
     replace bx42 := bx42.chg hc864 (not_no _)
     replace o_b_0 := o_b_0.chg hc864 (not_no _)
     · exact ⟨hbase, (by exact zs0), (by exact zs3), rfl, r_g_v, r_keep_v, r_nodes_v, o21, bx42, o_b_0, by exact GrInv.start ha_c18 (by assumption)⟩
     clear r_g_v
     clear r_keep_v
     clear r_nodes_v
     clear o21
     clear bx42
     clear o_b_0
     clear hbase
     rintro ⟨L1_c18, g867⟩ f865 w866 ⟨hbase, zs0, zs3, zs4, r_g_v, r_keep_v, r_nodes_v, o21, bx42, o_b_0, hg_c18⟩ back5_c18
     have hgl_c18 := hg_c18.len
     have hgle_c18 := hg_c18.le
     refine run_seq ?_
     refine run_seq ?_
     refine run_region rfl ?_
     refine l_val (v := Value.pointer (some ⟨b40, 0, none⟩)) rfl (e_move (by exact zs0)) ?_
     refine l_val (v := Value.pointer (some ⟨b40, 0, none⟩)) rfl (e_nilCheck rfl) ?_
     refine l_val (v := Value.pointer (some ⟨b40, 0, none⟩)) rfl (e_fieldAddr Try.underlying49 rfl rfl rfl rfl) ?_
     refine l_val (v := b_0_v) rfl (e_load_bx1 tp25_w rfl bx42 rfl) ?_
     refine l_val (v := Value.int .i64 (i_c18 : Int)) rfl (e_move (by exact zs3)) ?_
     refine l_val (v := Value.pointer (some (eAddr b_0_v 1 (Int.toNat (i_c18 : Int))))) rfl (e_indexAddr (α := List Int) (xs := L1_c18) (v := b_0_v) (i := (i_c18 : Int)) Try.underlying25 rfl rfl o_b_0.sl rfl (by omega) (by omega)) ?_
     obtain ⟨v868, cel869, r870⟩ := nst_row (r := (i_c18 : Int)) o_b_0 (by omega) (by omega)
     refine l_val (v := v868) rfl (e_load1 tp35_w rfl cel869) ?_
     have len871 := (r870.row_sl).small
     refine l_val (v := Value.int .i64 (List.length (gI L1_c18 (i_c18 : Int)) : Int)) rfl (e_len Try.underlying35 rfl r870.row_sl) ?_
     refine l_val (v := Value.int .i64 (min (sCap v859 : Int) ((List.length (gI L_c18 (i_c18 : Int)) : Int) + 2000))) rfl (e_move (by exact zs4)) ?_
     refine l_val (v := Value.bool (decide ((List.length (gI L1_c18 (i_c18 : Int)) : Int) < (min (sCap v859 : Int) ((List.length (gI L_c18 (i_c18 : Int)) : Int) + 2000))))) rfl (e_lss (m := (List.length (gI L1_c18 (i_c18 : Int)) : Int)) (n := min (sCap v859 : Int) ((List.length (gI L_c18 (i_c18 : Int)) : Int) + 2000)) rfl rfl) ?_
     refine l_nil ?_
     by_cases p5_c18 : (List.length (gI L1_c18 (i_c18 : Int)) : Int) < (min (sCap v859 : Int) ((List.length (gI L_c18 (i_c18 : Int)) : Int) + 2000))
     ·
      refine run_cond_t rfl (decide_eq_true p5_c18) ?_
      refine run_skip ?_
      refine run_block ?_
      clear r870
      clear cel869
      refine region_mid (σ := Cmap) (fun gq f w => Base w0 gq w ∧ f 0 = Value.pointer (some ⟨b40, 0, none⟩) ∧ f 3 = Value.int .i64 (i_c18 : Int) ∧ f 4 = Value.int .i64 (min (sCap v859 : Int) ((List.length (gI L_c18 (i_c18 : Int)) : Int) + 2000)) ∧ Sl gq (is 0) w g_v g.2 ∧ Sl gq (is 0) w keep_v keep ∧ Sl gq (is 0) w nodes_v nodes ∧ Ow gq (is 2) (is 2) w (upV v20) (g.2 ++ [((-7 : Int), (7 : Int))]) ∧ Bx gq (is 4) w b40 [b_0_v, Value.int .i64 b_1] ∧ Nst gq 17 w b_0_v (List.set L1_c18 (Int.toNat (i_c18 : Int)) (gI L1_c18 (i_c18 : Int) ++ [0]))) g867 [0, 1, 2, 4, 5, 6, 7, 8, 9, 10, 11, 14] mixed_w ?_ ?_
      ·
       intro mid
       intro w873 ch872
       refine x_pure (v := Value.pointer (some ⟨b40, 0, none⟩)) 0 rfl (by kernel_rfl) (by kernel_rfl) rfl (fun w => e_move (by exact zs0)) ?_
       refine x_pure (v := Value.pointer (some ⟨b40, 0, none⟩)) 1 rfl (by kernel_rfl) (by kernel_rfl) rfl (fun w => e_nilCheck rfl) ?_
       refine x_pure (v := Value.pointer (some ⟨b40, 0, none⟩)) 2 rfl (by kernel_rfl) (by kernel_rfl) rfl (fun w => e_fieldAddr Try.underlying49 rfl rfl rfl rfl) ?_
       refine x_pure (v := Value.int .i64 (i_c18 : Int)) 4 rfl (by kernel_rfl) (by kernel_rfl) rfl (fun w => e_move (by exact zs3)) ?_
       refine x_pure (v := Value.pointer (some ⟨b40, 0, none⟩)) 5 rfl (by kernel_rfl) (by kernel_rfl) rfl (fun w => e_move (by exact zs0)) ?_
       refine x_pure (v := Value.pointer (some ⟨b40, 0, none⟩)) 6 rfl (by kernel_rfl) (by kernel_rfl) rfl (fun w => e_nilCheck rfl) ?_
       refine x_pure (v := Value.pointer (some ⟨b40, 0, none⟩)) 7 rfl (by kernel_rfl) (by kernel_rfl) rfl (fun w => e_fieldAddr Try.underlying49 rfl rfl rfl rfl) ?_
       replace bx42 := bx42.chg ch872 (not_no _)
       refine x_held (v := b_0_v) 8 [7, 6, 5, 4, 2, 1, 0, 3, 9, 12] rfl (by kernel_rfl) (by kernel_rfl) rfl (fun w' hw' => e_load_bx1 tp25_w rfl (bx42.bel hw') rfl) ?_
       refine x_pure (v := Value.int .i64 (i_c18 : Int)) 9 rfl (by kernel_rfl) (by kernel_rfl) rfl (fun w => e_move (by exact zs3)) ?_
       replace o_b_0 := o_b_0.chg ch872 (not_no _)
       refine x_held (v := Value.pointer (some (eAddr b_0_v 1 (Int.toNat (i_c18 : Int))))) 10 [9, 8, 7, 6, 5, 4, 2, 1, 0, 3, 12] rfl (by kernel_rfl) (by kernel_rfl) rfl (fun w' hw' => e_indexAddr (α := List Int) (xs := L1_c18) (v := b_0_v) (i := (i_c18 : Int)) Try.underlying25 rfl rfl (o_b_0.sl.bel hw') rfl (by omega) (by omega)) ?_
       obtain ⟨v874, cel875, r876⟩ := nst_row (r := (i_c18 : Int)) o_b_0 (by omega) (by omega)
       refine x_held (v := v874) 11 [10, 9, 8, 7, 6, 5, 4, 2, 1, 0, 3, 12] rfl (by kernel_rfl) (by kernel_rfl) rfl (fun w' hw' => e_load1 tp35_w rfl (cel_bel cel875 hw')) ?_
       refine x_two 3 12 rfl rfl (by kernel_rfl) rfl rfl ?_ ?_
       ·
        refine o_of_val (v := b_0_v) (e_load_bx1 tp25_w rfl bx42 rfl) ?_
        refine x_one 12 rfl (by kernel_rfl) rfl ?_
        refine o_buildSlice (α := Int) g867 (is 169) (is 169) (169, 0) rfl [0] Try.underlying35 tp3_w (by decide) (by decide) (vs := [(0, Value.int .i64 0)]) rfl rfl (.cons rfl .nil) ?_
        intro g877 w878 v879 ch880 o881
        refine x_one 13 rfl (by kernel_rfl) rfl ?_
        replace o_b_0 := o_b_0.chg ch880 (not_no _)
        replace r876 := r876.chg ch880 (not_no _) (not_no _)
        refine o_append (α := Int) (xs := (gI L1_c18 (i_c18 : Int))) (ys := ([0])) g877 (J := row 17 (Int.toNat (i_c18 : Int) + 1)) (S := row 17 (Int.toNat (i_c18 : Int) + 1)) (17, Int.toNat (i_c18 : Int) + 1) rfl Try.underlying35 tp3_w (by decide) rfl rfl rfl r876 o881.flat (by decide) (by first | omega | (simp; done) | (simp; omega)) ?_
        intro g882 w883 v884 ch885 o886
        have o887 := o_b_0.rowchg ch885
        clear o_b_0
        clear r876
        clear cel875
        obtain ⟨us888, hl889, r890⟩ := o887.vc
        refine x_val (v := Value.pointer (some (eAddr b_0_v 1 (Int.toNat (i_c18 : Int))))) 14 [13, 12, 3, 11, 10, 9, 8, 7, 6, 5, 4, 2, 1, 0] rfl (by kernel_rfl) (by kernel_rfl) rfl (e_indexAddr (α := Vc) (xs := us888) (v := b_0_v) (i := (i_c18 : Int)) Try.underlying25 rfl rfl r890 rfl (by omega) (by omega)) ?_
        refine x_one 15 rfl (by kernel_rfl) rfl ?_
        refine o_store_row (r := (i_c18 : Int)) tp35_w rfl rfl o887 o886 (by omega) (by omega) ?_
        intro w894 ch895 o896
        clear o887
        clear o886
        refine x_nil (by kernel_rfl) ?_
        have C897 : Chg (inl [17]) _ _ _ _ := (ch872.n).seq ((ch880.n).seq ((ch885.lr rfl).seq (ch895.l rfl)))
        replace hbase := hbase.chg C897 (is_nl rfl)
        replace r_g_v := r_g_v.chg C897 (is_nl rfl)
        replace r_keep_v := r_keep_v.chg C897 (is_nl rfl)
        replace r_nodes_v := r_nodes_v.chg C897 (is_nl rfl)
        replace o21 := o21.chg C897 (is_nl rfl) (is_nl rfl)
        have C898 : Chg (inl [17]) _ _ _ _ := (ch880.n).seq ((ch885.lr rfl).seq (ch895.l rfl))
        replace bx42 := bx42.chg C898 (is_nl rfl)
        exact mid (g882) _ _ ⟨hbase, (by exact zs0), (by exact zs3), (by exact zs4), r_g_v, r_keep_v, r_nodes_v, o21, bx42, o896⟩
       ·
        refine o_buildSlice (α := Int) g867 (is 169) (is 169) (169, 0) rfl [0] Try.underlying35 tp3_w (by decide) (by decide) (vs := [(0, Value.int .i64 0)]) rfl rfl (.cons rfl .nil) ?_
        intro g899 w900 v901 ch902 o903
        refine x_two 3 13 rfl rfl (by kernel_rfl) rfl rfl ?_ ?_
        ·
         replace bx42 := bx42.chg ch902 (not_no _)
         refine o_of_val (v := b_0_v) (e_load_bx1 tp25_w rfl bx42 rfl) ?_
         refine x_one 13 rfl (by kernel_rfl) rfl ?_
         replace o_b_0 := o_b_0.chg ch902 (not_no _)
         replace r876 := r876.chg ch902 (not_no _) (not_no _)
         refine o_append (α := Int) (xs := (gI L1_c18 (i_c18 : Int))) (ys := ([0])) g899 (J := row 17 (Int.toNat (i_c18 : Int) + 1)) (S := row 17 (Int.toNat (i_c18 : Int) + 1)) (17, Int.toNat (i_c18 : Int) + 1) rfl Try.underlying35 tp3_w (by decide) rfl rfl rfl r876 o903.flat (by decide) (by first | omega | (simp; done) | (simp; omega)) ?_
         intro g904 w905 v906 ch907 o908
         have o909 := o_b_0.rowchg ch907
         clear o_b_0
         clear r876
         clear cel875
         obtain ⟨us910, hl911, r912⟩ := o909.vc
         refine x_val (v := Value.pointer (some (eAddr b_0_v 1 (Int.toNat (i_c18 : Int))))) 14 [13, 3, 12, 11, 10, 9, 8, 7, 6, 5, 4, 2, 1, 0] rfl (by kernel_rfl) (by kernel_rfl) rfl (e_indexAddr (α := Vc) (xs := us910) (v := b_0_v) (i := (i_c18 : Int)) Try.underlying25 rfl rfl r912 rfl (by omega) (by omega)) ?_
         refine x_one 15 rfl (by kernel_rfl) rfl ?_
         refine o_store_row (r := (i_c18 : Int)) tp35_w rfl rfl o909 o908 (by omega) (by omega) ?_
         intro w916 ch917 o918
         clear o909
         clear o908
         refine x_nil (by kernel_rfl) ?_
         have C919 : Chg (inl [17]) _ _ _ _ := (ch872.n).seq ((ch902.n).seq ((ch907.lr rfl).seq (ch917.l rfl)))
         replace hbase := hbase.chg C919 (is_nl rfl)
         replace r_g_v := r_g_v.chg C919 (is_nl rfl)
         replace r_keep_v := r_keep_v.chg C919 (is_nl rfl)
         replace r_nodes_v := r_nodes_v.chg C919 (is_nl rfl)
         replace o21 := o21.chg C919 (is_nl rfl) (is_nl rfl)
         replace bx42 := (bx42.chg ch907 (is_row rfl)).chg ch917 (is_ne rfl)
         exact mid (g904) _ _ ⟨hbase, (by exact zs0), (by exact zs3), (by exact zs4), r_g_v, r_keep_v, r_nodes_v, o21, bx42, o918⟩
        ·
         replace o_b_0 := o_b_0.chg ch902 (not_no _)
         replace r876 := r876.chg ch902 (not_no _) (not_no _)
         refine o_append (α := Int) (xs := (gI L1_c18 (i_c18 : Int))) (ys := ([0])) g899 (J := row 17 (Int.toNat (i_c18 : Int) + 1)) (S := row 17 (Int.toNat (i_c18 : Int) + 1)) (17, Int.toNat (i_c18 : Int) + 1) rfl Try.underlying35 tp3_w (by decide) rfl rfl rfl r876 o903.flat (by decide) (by first | omega | (simp; done) | (simp; omega)) ?_
         intro g920 w921 v922 ch923 o924
         have o925 := o_b_0.rowchg ch923
         clear o_b_0
         clear r876
         clear cel875
         replace bx42 := (bx42.chg ch902 (not_no _)).chg ch923 (is_row rfl)
         refine x_one 3 rfl (by kernel_rfl) rfl ?_
         refine o_of_val (v := b_0_v) (e_load_bx1 tp25_w rfl bx42 rfl) ?_
         obtain ⟨us926, hl927, r928⟩ := o925.vc
         refine x_val (v := Value.pointer (some (eAddr b_0_v 1 (Int.toNat (i_c18 : Int))))) 14 [3, 13, 12, 11, 10, 9, 8, 7, 6, 5, 4, 2, 1, 0] rfl (by kernel_rfl) (by kernel_rfl) rfl (e_indexAddr (α := Vc) (xs := us926) (v := b_0_v) (i := (i_c18 : Int)) Try.underlying25 rfl rfl r928 rfl (by omega) (by omega)) ?_
         refine x_one 15 rfl (by kernel_rfl) rfl ?_
         refine o_store_row (r := (i_c18 : Int)) tp35_w rfl rfl o925 o924 (by omega) (by omega) ?_
         intro w932 ch933 o934
         clear o925
         clear o924
         refine x_nil (by kernel_rfl) ?_
         have C935 : Chg (inl [17]) _ _ _ _ := (ch872.n).seq ((ch902.n).seq ((ch923.lr rfl).seq (ch933.l rfl)))
         replace hbase := hbase.chg C935 (is_nl rfl)
         replace r_g_v := r_g_v.chg C935 (is_nl rfl)
         replace r_keep_v := r_keep_v.chg C935 (is_nl rfl)
         replace r_nodes_v := r_nodes_v.chg C935 (is_nl rfl)
         replace o21 := o21.chg C935 (is_nl rfl) (is_nl rfl)
         replace bx42 := bx42.chg ch933 (is_ne rfl)
         exact mid (g920) _ _ ⟨hbase, (by exact zs0), (by exact zs3), (by exact zs4), r_g_v, r_keep_v, r_nodes_v, o21, bx42, o934⟩
      clear r_g_v
      clear r_keep_v
      clear r_nodes_v
      clear o21
      clear bx42
      clear o_b_0
      clear hbase
      rintro g938 f936 w937 ⟨hbase, zs0, zs3, zs4, r_g_v, r_keep_v, r_nodes_v, o21, bx42, o894⟩
      refine run_inBlock ?_
      refine back5_c18 ((List.set L1_c18 (Int.toNat (i_c18 : Int)) (gI L1_c18 (i_c18 : Int) ++ [0])), g938) _ _ ⟨hbase, (by exact zs0), (by exact zs3), (by exact zs4), r_g_v, r_keep_v, r_nodes_v, o21, bx42, o894, ?_⟩ ?_
      · show GrInv (List.set L1_c18 (Int.toNat (i_c18 : Int)) (gI L1_c18 (i_c18 : Int) ++ [0])) L_c18 i_c18 (min (sCap v859 : Int) ((List.length (gI L_c18 (i_c18 : Int)) : Int) + 2000))
        exact hg_c18.next (by assumption) (by assumption) (by omega)
      · show Int.toNat ((min (sCap v859 : Int) ((List.length (gI L_c18 (i_c18 : Int)) : Int) + 2000)) - (List.length (gI (List.set L1_c18 (Int.toNat (i_c18 : Int)) (gI L1_c18 (i_c18 : Int) ++ [0])) (i_c18 : Int)) : Int)) < Int.toNat ((min (sCap v859 : Int) ((List.length (gI L_c18 (i_c18 : Int)) : Int) + 2000)) - (List.length (gI L1_c18 (i_c18 : Int)) : Int))
        (have h1 := hg_c18.meas (by assumption); omega)
     refine run_cond_f rfl (decide_eq_false p5_c18) ?_
     refine run_exit rfl ?_
     refine run_seq ?_
     clear r870
     clear cel869
     refine run_region rfl ?_
     refine l_val (v := Value.int .i64 0) rfl (e_assign rfl) ?_
     refine l_nil ?_
     refine run_block ?_
     refine run_loop (σ := Nat × (List (List Int)) × Cmap) (fun ⟨k_c18, L2_c18, gq⟩ f w => Base w0 gq w ∧ f 0 = Value.pointer (some ⟨b40, 0, none⟩) ∧ f 3 = Value.int .i64 (i_c18 : Int) ∧ f 5 = Value.int .i64 (k_c18 : Int) ∧ Sl gq (is 0) w g_v g.2 ∧ Sl gq (is 0) w keep_v keep ∧ Sl gq (is 0) w nodes_v nodes ∧ Ow gq (is 2) (is 2) w (upV v20) (g.2 ++ [((-7 : Int), (7 : Int))]) ∧ Bx gq (is 4) w b40 [b_0_v, Value.int .i64 b_1] ∧ Nst gq 17 w b_0_v L2_c18 ∧ (WrInv L2_c18 L_c18 i_c18 k_c18)) (fun ⟨k_c18, L2_c18, gq⟩ => List.length (gI L2_c18 (i_c18 : Int)) - k_c18) (0, L1_c18, g867) ?_ ?_
     · exact ⟨hbase, (by exact zs0), (by exact zs3), rfl, r_g_v, r_keep_v, r_nodes_v, o21, bx42, o_b_0, by exact hg_c18.wr⟩
     clear r_g_v
     clear r_keep_v
     clear r_nodes_v
     clear o21
     clear bx42
     clear o_b_0
     clear hbase
     rintro ⟨k_c18, L2_c18, g941⟩ f939 w940 ⟨hbase, zs0, zs3, zs5, r_g_v, r_keep_v, r_nodes_v, o21, bx42, o_b_0, hw_c18⟩ back8_c18
     have hwl_c18 := hw_c18.len
     have hwle_c18 := hw_c18.le
     have hwf_c18 := hw_c18.few
     refine run_seq ?_
     refine run_seq ?_
     refine run_region rfl ?_
     refine l_val (v := Value.int .i64 (k_c18 : Int)) rfl (e_move (by exact zs5)) ?_
     refine l_val (v := Value.pointer (some ⟨b40, 0, none⟩)) rfl (e_move (by exact zs0)) ?_
     refine l_val (v := Value.pointer (some ⟨b40, 0, none⟩)) rfl (e_nilCheck rfl) ?_
     refine l_val (v := Value.pointer (some ⟨b40, 0, none⟩)) rfl (e_fieldAddr Try.underlying49 rfl rfl rfl rfl) ?_
     refine l_val (v := b_0_v) rfl (e_load_bx1 tp25_w rfl bx42 rfl) ?_
     refine l_val (v := Value.int .i64 (i_c18 : Int)) rfl (e_move (by exact zs3)) ?_
     refine l_val (v := Value.pointer (some (eAddr b_0_v 1 (Int.toNat (i_c18 : Int))))) rfl (e_indexAddr (α := List Int) (xs := L2_c18) (v := b_0_v) (i := (i_c18 : Int)) Try.underlying25 rfl rfl o_b_0.sl rfl (by omega) (by omega)) ?_
     obtain ⟨v942, cel943, r944⟩ := nst_row (r := (i_c18 : Int)) o_b_0 (by omega) (by omega)
     refine l_val (v := v942) rfl (e_load1 tp35_w rfl cel943) ?_
     have len945 := (r944.row_sl).small
     refine l_val (v := Value.int .i64 (List.length (gI L2_c18 (i_c18 : Int)) : Int)) rfl (e_len Try.underlying35 rfl r944.row_sl) ?_
     refine l_val (v := Value.bool (decide ((k_c18 : Int) < (List.length (gI L2_c18 (i_c18 : Int)) : Int)))) rfl (e_lss (m := (k_c18 : Int)) (n := (List.length (gI L2_c18 (i_c18 : Int)) : Int)) rfl rfl) ?_
     refine l_nil ?_
     by_cases p8_c18 : (k_c18 : Int) < (List.length (gI L2_c18 (i_c18 : Int)) : Int)
     ·
      refine run_cond_t rfl (decide_eq_true p8_c18) ?_
      refine run_skip ?_
      refine run_seq ?_
      refine run_block ?_
      clear r944
      clear cel943
      refine run_region rfl ?_
      refine l_val (v := Value.pointer (some ⟨b40, 0, none⟩)) rfl (e_move (by exact zs0)) ?_
      refine l_val (v := Value.pointer (some ⟨b40, 0, none⟩)) rfl (e_nilCheck rfl) ?_
      refine l_val (v := Value.pointer (some ⟨b40, 0, none⟩)) rfl (e_fieldAddr Try.underlying49 rfl rfl rfl rfl) ?_
      refine l_val (v := b_0_v) rfl (e_load_bx1 tp25_w rfl bx42 rfl) ?_
      refine l_val (v := Value.int .i64 (i_c18 : Int)) rfl (e_move (by exact zs3)) ?_
      refine l_val (v := Value.pointer (some (eAddr b_0_v 1 (Int.toNat (i_c18 : Int))))) rfl (e_indexAddr (α := List Int) (xs := L2_c18) (v := b_0_v) (i := (i_c18 : Int)) Try.underlying25 rfl rfl o_b_0.sl rfl (by omega) (by omega)) ?_
      obtain ⟨v946, cel947, r948⟩ := nst_row (r := (i_c18 : Int)) o_b_0 (by omega) (by omega)
      refine l_val (v := v946) rfl (e_load1 tp35_w rfl cel947) ?_
      refine l_val (v := Value.int .i64 (k_c18 : Int)) rfl (e_move (by exact zs5)) ?_
      refine l_val (v := Value.int .i64 (i_c18 : Int)) rfl (e_move (by exact zs3)) ?_
      refine l_val (v := Value.int .i64 ((-1000) - (i_c18 : Int))) rfl (e_sub (m := -1000) (n := (i_c18 : Int)) rfl rfl (by omega)) ?_
      refine l_val (v := Value.pointer (some (eAddr v946 1 (Int.toNat (k_c18 : Int))))) rfl (e_indexAddr (α := Int) (xs := gI L2_c18 (i_c18 : Int)) (v := v946) (i := (k_c18 : Int)) Try.underlying35 rfl rfl r948.row_sl rfl (by omega) (by omega)) ?_
      refine l_op rfl ?_
      refine o_store_el (i := (k_c18 : Int)) ((-1000) - (i_c18 : Int)) tp3_w rfl rfl r948 (by omega) (by omega) rfl ?_
      intro w952 ch953 r954
      obtain ⟨o955, cel956⟩ := nst_el (r := (i_c18 : Int)) o_b_0 (by omega) (by omega) ch953 cel947 r954
      clear o_b_0
      clear r948
      clear cel947
      refine l_nil ?_
      refine run_inBlock ?_
      clear r954
      clear cel956
      refine run_region rfl ?_
      refine l_val (v := Value.int .i64 (k_c18 : Int)) rfl (e_move (by exact zs5)) ?_
      refine l_val (v := Value.int .i64 ((k_c18 : Int) + 1)) rfl (e_add (m := (k_c18 : Int)) (n := 1) rfl rfl (by omega)) ?_
      refine l_val (v := Value.int .i64 ((k_c18 : Int) + 1)) rfl (e_assign rfl) ?_
      refine l_nil ?_
      replace hbase := hbase.chg ch953 (is_row rfl)
      replace r_g_v := r_g_v.chg ch953 (is_row rfl)
      replace r_keep_v := r_keep_v.chg ch953 (is_row rfl)
      replace r_nodes_v := r_nodes_v.chg ch953 (is_row rfl)
      replace o21 := o21.chg ch953 (is_row rfl) (is_row rfl)
      replace bx42 := bx42.chg ch953 (is_row rfl)
      refine back8_c18 (k_c18 + 1, (List.set L2_c18 (Int.toNat (i_c18 : Int)) (List.set (gI L2_c18 (i_c18 : Int)) (Int.toNat (k_c18 : Int)) ((-1000) - (i_c18 : Int)))), g941) _ _ ⟨hbase, (by exact zs0), (by exact zs3), rfl, r_g_v, r_keep_v, r_nodes_v, o21, bx42, o955, ?_⟩ ?_
      · show WrInv (List.set L2_c18 (Int.toNat (i_c18 : Int)) (List.set (gI L2_c18 (i_c18 : Int)) (Int.toNat (k_c18 : Int)) ((-1000) - (i_c18 : Int)))) L_c18 i_c18 (k_c18 + 1)
        exact (hw_c18.next (by assumption) (by assumption)).1
      · show List.length (gI (List.set L2_c18 (Int.toNat (i_c18 : Int)) (List.set (gI L2_c18 (i_c18 : Int)) (Int.toNat (k_c18 : Int)) ((-1000) - (i_c18 : Int)))) (i_c18 : Int)) - (k_c18 + 1) < List.length (gI L2_c18 (i_c18 : Int)) - k_c18
        (have h1 := (hw_c18.next (by assumption) (by assumption)).2; omega)
     refine run_cond_f rfl (decide_eq_false p8_c18) ?_
     refine run_exit rfl ?_
     refine run_inBlock ?_
     clear r944
     clear cel943
     refine run_region rfl ?_
     refine l_val (v := Value.int .i64 (i_c18 : Int)) rfl (e_move (by exact zs3)) ?_
     refine l_val (v := Value.int .i64 ((i_c18 : Int) + 1)) rfl (e_add (m := (i_c18 : Int)) (n := 1) rfl rfl (by omega)) ?_
     refine l_val (v := Value.int .i64 ((i_c18 : Int) + 1)) rfl (e_assign rfl) ?_
     refine l_nil ?_
     refine back2_c18 (i_c18 + 1, L2_c18, g941) _ _ ⟨hbase, (by exact zs0), rfl, r_g_v, r_keep_v, r_nodes_v, o21, bx42, o_b_0, ?_⟩ ?_
     · show ApInv L2_c18 (i_c18 + 1)
       exact hw_c18.fin ha_c18 (by assumption) (by assumption)
     · show List.length L2_c18 - (i_c18 + 1) < List.length L_c18 - i_c18
       (have h1 := hw_c18.len; omega)
    refine run_cond_f rfl (decide_eq_false p2_c18) ?_
    refine run_exit rfl ?_
    refine run_seq ?_
    refine run_seq ?_
    refine run_region rfl ?_
    refine l_val (v := Value.int .i64 0) rfl (e_assign rfl) ?_
    refine l_nil ?_
    refine run_block ?_
    refine run_loop (σ := Nat × Cmap) (fun ⟨m_c18, gq⟩ f w => Base w0 gq w ∧ f 0 = Value.pointer (some ⟨b40, 0, none⟩) ∧ f 6 = Value.int .i64 (m_c18 : Int) ∧ Sl gq (is 0) w g_v g.2 ∧ Sl gq (is 0) w keep_v keep ∧ Sl gq (is 0) w nodes_v nodes ∧ Ow gq (is 2) (is 2) w (upV v20) (g.2 ++ [((-7 : Int), (7 : Int))]) ∧ Bx gq (is 4) w b40 [b_0_v, Value.int .i64 b_1] ∧ Nst gq 17 w b_0_v L_c18 ∧ (m_c18 : Int) ≤ ((List.length L_c18 : Int) : Int) ∧ (True)) (fun ⟨m_c18, gq⟩ => Int.toNat (((List.length L_c18 : Int) : Int) - (m_c18 : Int))) (0, g851) ?_ ?_
    · exact ⟨hbase, (by exact zs0), rfl, r_g_v, r_keep_v, r_nodes_v, o21, bx42, o_b_0, by omega, by trivial⟩
    clear r_g_v
    clear r_keep_v
    clear r_nodes_v
    clear o21
    clear bx42
    clear o_b_0
    clear hbase
    rintro ⟨m_c18, g959⟩ f957 w958 ⟨hbase, zs0, zs6, r_g_v, r_keep_v, r_nodes_v, o21, bx42, o_b_0, hle_m_c18, hinv12_c18⟩ back12_c18
    refine run_seq ?_
    refine run_seq ?_
    refine run_region rfl ?_
    refine l_val (v := Value.int .i64 (m_c18 : Int)) rfl (e_move (by exact zs6)) ?_
    refine l_val (v := Value.pointer (some ⟨b40, 0, none⟩)) rfl (e_move (by exact zs0)) ?_
    refine l_val (v := Value.pointer (some ⟨b40, 0, none⟩)) rfl (e_nilCheck rfl) ?_
    refine l_val (v := Value.pointer (some ⟨b40, 0, none⟩)) rfl (e_fieldAddr Try.underlying49 rfl rfl rfl rfl) ?_
    refine l_val (v := b_0_v) rfl (e_load_bx1 tp25_w rfl bx42 rfl) ?_
    refine l_val (v := Value.int .i64 (List.length L_c18 : Int)) rfl (e_len Try.underlying25 rfl o_b_0.sl) ?_
    refine l_val (v := Value.bool (decide ((m_c18 : Int) < (List.length L_c18 : Int)))) rfl (e_lss (m := (m_c18 : Int)) (n := (List.length L_c18 : Int)) rfl rfl) ?_
    refine l_nil ?_
    by_cases p12_c18 : (m_c18 : Int) < (List.length L_c18 : Int)
    ·
     refine run_cond_t rfl (decide_eq_true p12_c18) ?_
     refine run_skip ?_
     refine run_seq ?_
     refine run_block ?_
     refine run_seq ?_
     refine run_region rfl ?_
     refine l_val (v := Value.int .i64 0) rfl (e_assign rfl) ?_
     refine l_nil ?_
     refine run_block ?_
     refine run_loop (σ := Nat × Cmap) (fun ⟨n_c18, gq⟩ f w => Base w0 gq w ∧ f 0 = Value.pointer (some ⟨b40, 0, none⟩) ∧ f 6 = Value.int .i64 (m_c18 : Int) ∧ f 7 = Value.int .i64 (n_c18 : Int) ∧ Sl gq (is 0) w g_v g.2 ∧ Sl gq (is 0) w keep_v keep ∧ Sl gq (is 0) w nodes_v nodes ∧ Ow gq (is 2) (is 2) w (upV v20) (g.2 ++ [((-7 : Int), (7 : Int))]) ∧ Bx gq (is 4) w b40 [b_0_v, Value.int .i64 b_1] ∧ Nst gq 17 w b_0_v L_c18 ∧ (n_c18 : Int) ≤ ((List.length (gI L_c18 (m_c18 : Int)) : Int) : Int) ∧ (True)) (fun ⟨n_c18, gq⟩ => Int.toNat (((List.length (gI L_c18 (m_c18 : Int)) : Int) : Int) - (n_c18 : Int))) (0, g959) ?_ ?_
     · exact ⟨hbase, (by exact zs0), (by exact zs6), rfl, r_g_v, r_keep_v, r_nodes_v, o21, bx42, o_b_0, by omega, by trivial⟩
     clear r_g_v
     clear r_keep_v
     clear r_nodes_v
     clear o21
     clear bx42
     clear o_b_0
     clear hbase
     rintro ⟨n_c18, g962⟩ f960 w961 ⟨hbase, zs0, zs6, zs7, r_g_v, r_keep_v, r_nodes_v, o21, bx42, o_b_0, hle_n_c18, hinv15_c18⟩ back15_c18
     refine run_seq ?_
     refine run_seq ?_
     refine run_region rfl ?_
     refine l_val (v := Value.int .i64 (n_c18 : Int)) rfl (e_move (by exact zs7)) ?_
     refine l_val (v := Value.pointer (some ⟨b40, 0, none⟩)) rfl (e_move (by exact zs0)) ?_
     refine l_val (v := Value.pointer (some ⟨b40, 0, none⟩)) rfl (e_nilCheck rfl) ?_
     refine l_val (v := Value.pointer (some ⟨b40, 0, none⟩)) rfl (e_fieldAddr Try.underlying49 rfl rfl rfl rfl) ?_
     refine l_val (v := b_0_v) rfl (e_load_bx1 tp25_w rfl bx42 rfl) ?_
     refine l_val (v := Value.int .i64 (m_c18 : Int)) rfl (e_move (by exact zs6)) ?_
     refine l_val (v := Value.pointer (some (eAddr b_0_v 1 (Int.toNat (m_c18 : Int))))) rfl (e_indexAddr (α := List Int) (xs := L_c18) (v := b_0_v) (i := (m_c18 : Int)) Try.underlying25 rfl rfl o_b_0.sl rfl (by omega) (by omega)) ?_
     obtain ⟨v963, cel964, r965⟩ := nst_row (r := (m_c18 : Int)) o_b_0 (by omega) (by omega)
     refine l_val (v := v963) rfl (e_load1 tp35_w rfl cel964) ?_
     have len966 := (r965.row_sl).small
     refine l_val (v := Value.int .i64 (List.length (gI L_c18 (m_c18 : Int)) : Int)) rfl (e_len Try.underlying35 rfl r965.row_sl) ?_
     refine l_val (v := Value.bool (decide ((n_c18 : Int) < (List.length (gI L_c18 (m_c18 : Int)) : Int)))) rfl (e_lss (m := (n_c18 : Int)) (n := (List.length (gI L_c18 (m_c18 : Int)) : Int)) rfl rfl) ?_
     refine l_nil ?_
     by_cases p15_c18 : (n_c18 : Int) < (List.length (gI L_c18 (m_c18 : Int)) : Int)
     ·
      refine run_cond_t rfl (decide_eq_true p15_c18) ?_
      refine run_skip ?_
      refine run_seq ?_
      refine run_block ?_
      refine run_seq ?_
      clear r965
      clear cel964
      refine run_region rfl ?_
      refine l_val (v := Value.pointer (some ⟨b40, 0, none⟩)) rfl (e_move (by exact zs0)) ?_
      refine l_val (v := Value.pointer (some ⟨b40, 0, none⟩)) rfl (e_nilCheck rfl) ?_
      refine l_val (v := Value.pointer (some ⟨b40, 0, none⟩)) rfl (e_fieldAddr Try.underlying49 rfl rfl rfl rfl) ?_
      refine l_val (v := b_0_v) rfl (e_load_bx1 tp25_w rfl bx42 rfl) ?_
      refine l_val (v := Value.int .i64 (m_c18 : Int)) rfl (e_move (by exact zs6)) ?_
      refine l_val (v := Value.pointer (some (eAddr b_0_v 1 (Int.toNat (m_c18 : Int))))) rfl (e_indexAddr (α := List Int) (xs := L_c18) (v := b_0_v) (i := (m_c18 : Int)) Try.underlying25 rfl rfl o_b_0.sl rfl (by omega) (by omega)) ?_
      obtain ⟨v967, cel968, r969⟩ := nst_row (r := (m_c18 : Int)) o_b_0 (by omega) (by omega)
      refine l_val (v := v967) rfl (e_load1 tp35_w rfl cel968) ?_
      refine l_val (v := Value.int .i64 (n_c18 : Int)) rfl (e_move (by exact zs7)) ?_
      refine l_val (v := Value.pointer (some (eAddr v967 1 (Int.toNat (n_c18 : Int))))) rfl (e_indexAddr (α := Int) (xs := gI L_c18 (m_c18 : Int)) (v := v967) (i := (n_c18 : Int)) Try.underlying35 rfl rfl r969.row_sl rfl (by omega) (by omega)) ?_
      refine l_val (v := Value.int .i64 (gI (gI L_c18 (m_c18 : Int)) (n_c18 : Int))) rfl (e_load_el1 (α := Int) (xs := gI L_c18 (m_c18 : Int)) (v := v967) (i := (n_c18 : Int)) tp3_w rfl r969.row_sl (by omega) (by omega) (by decide) rfl) ?_
      refine l_val (v := Value.int .i64 (m_c18 : Int)) rfl (e_move (by exact zs6)) ?_
      refine l_val (v := Value.int .i64 ((-1000) - (m_c18 : Int))) rfl (e_sub (m := -1000) (n := (m_c18 : Int)) rfl rfl (by omega)) ?_
      refine l_val (v := Value.bool (!(decide ((gI (gI L_c18 (m_c18 : Int)) (n_c18 : Int)) = ((-1000) - (m_c18 : Int)))))) rfl (e_neq (m := (gI (gI L_c18 (m_c18 : Int)) (n_c18 : Int))) (n := (-1000) - (m_c18 : Int)) rfl rfl) ?_
      refine l_nil ?_
      have p17_c18 : (gI (gI L_c18 (m_c18 : Int)) (n_c18 : Int)) = ((-1000) - (m_c18 : Int)) := by exact ha_c18.read (by omega) (by assumption) (by assumption)
      refine run_cond_f rfl (congrArg Bool.not (decide_eq_true p17_c18)) ?_
      refine run_skip ?_
      refine run_inBlock ?_
      clear r969
      clear cel968
      refine run_region rfl ?_
      refine l_val (v := Value.int .i64 (n_c18 : Int)) rfl (e_move (by exact zs7)) ?_
      refine l_val (v := Value.int .i64 ((n_c18 : Int) + 1)) rfl (e_add (m := (n_c18 : Int)) (n := 1) rfl rfl (by omega)) ?_
      refine l_val (v := Value.int .i64 ((n_c18 : Int) + 1)) rfl (e_assign rfl) ?_
      refine l_nil ?_
      refine back15_c18 (n_c18 + 1, g962) _ _ ⟨hbase, (by exact zs0), (by exact zs6), rfl, r_g_v, r_keep_v, r_nodes_v, o21, bx42, o_b_0, by omega, ?_⟩ ?_
      · show True
        trivial
      · show Int.toNat (((List.length (gI L_c18 (m_c18 : Int)) : Int) : Int) - ((n_c18 + 1) : Int)) < Int.toNat (((List.length (gI L_c18 (m_c18 : Int)) : Int) : Int) - (n_c18 : Int))
        omega
     refine run_cond_f rfl (decide_eq_false p15_c18) ?_
     refine run_exit rfl ?_
     refine run_inBlock ?_
     clear r965
     clear cel964
     refine run_region rfl ?_
     refine l_val (v := Value.int .i64 (m_c18 : Int)) rfl (e_move (by exact zs6)) ?_
     refine l_val (v := Value.int .i64 ((m_c18 : Int) + 1)) rfl (e_add (m := (m_c18 : Int)) (n := 1) rfl rfl (by omega)) ?_
     refine l_val (v := Value.int .i64 ((m_c18 : Int) + 1)) rfl (e_assign rfl) ?_
     refine l_nil ?_
     refine back12_c18 (m_c18 + 1, g962) _ _ ⟨hbase, (by exact zs0), rfl, r_g_v, r_keep_v, r_nodes_v, o21, bx42, o_b_0, by omega, ?_⟩ ?_
     · show True
       trivial
     · show Int.toNat (((List.length L_c18 : Int) : Int) - ((m_c18 + 1) : Int)) < Int.toNat (((List.length L_c18 : Int) : Int) - (m_c18 : Int))
       omega
    refine run_cond_f rfl (decide_eq_false p12_c18) ?_
    refine run_exit rfl ?_
    refine run_seq ?_
    refine run_region rfl ?_
    refine l_val (v := Value.bool true) rfl (e_assign rfl) ?_
    refine l_nil ?_
    refine run_ret (vs := [Value.bool true]) Try.func30 (.tmp rfl .nil) ?_
    refine ⟨Value.bool true, rfl, ?_⟩
    refine l_val (v := Value.bool true) rfl (e_assign rfl) ?_
    refine l_nil ?_
    refine run_ret (vs := [Value.bool true]) Try.func4 (.tmp rfl .nil) ?_
    -- return 0
    have e0 : (true : Bool) = (true) := by
      first | rfl | assumption | omega
    exact ⟨(congrArg (a₁ := true) (fun (z0 : Bool) => Ending.returned (Value.bool z0)) e0), hbase.below⟩
   refine run_cond_t rfl (congrArg Bool.not (Bool.eq_false_iff.2 p3)) ?_
   refine run_seq ?_
   clear bx5
   refine run_region rfl ?_
   refine l_val (v := Value.bool true) rfl (e_assign rfl) ?_
   refine l_nil ?_
   refine run_ret (vs := [Value.bool true]) Try.func4 (.tmp rfl .nil) ?_
   -- return 1
   have e0 : (true : Bool) = (true) := by
     first | rfl | assumption | omega
   have C970 : Chg (inl []) _ _ _ _ := (ch2.n).seq ((hb7.n).seq ((hb9.n).seq ((hb12.n).seq (hb15.n))))
   replace hbase := hbase.chg C970 (is_nl rfl)
   exact ⟨(congrArg (a₁ := true) (fun (z0 : Bool) => Ending.returned (Value.bool z0)) e0), hbase.below⟩
  refine l_skip (want_n rfl rfl rfl (congrArg Bool.not (Bool.eq_false_iff.2 q25))) ?_
  refine l_skip (want_n rfl rfl rfl (congrArg Bool.not (Bool.eq_false_iff.2 q25))) ?_
  refine l_skip (want_n rfl rfl rfl (congrArg Bool.not (Bool.eq_false_iff.2 q25))) ?_
  refine l_val (v := Value.bool true) rfl (e_pick_t rfl (congrArg Bool.not (Bool.eq_false_iff.2 q25)) rfl) ?_
  refine l_nil ?_
  refine run_cond_t rfl rfl ?_
  refine run_seq ?_
  clear bx5
  refine run_region rfl ?_
  refine l_val (v := Value.bool true) rfl (e_assign rfl) ?_
  refine l_nil ?_
  refine run_ret (vs := [Value.bool true]) Try.func4 (.tmp rfl .nil) ?_
  -- return 2
  have e0 : (true : Bool) = (true) := by
    first | rfl | assumption | omega
  have C971 : Chg (inl []) _ _ _ _ := (ch2.n).seq ((hb7.n).seq ((hb9.n).seq (hb12.n)))
  replace hbase := hbase.chg C971 (is_nl rfl)
  exact ⟨(congrArg (a₁ := true) (fun (z0 : Bool) => Ending.returned (Value.bool z0)) e0), hbase.below⟩
 refine l_skip (want_n rfl rfl rfl (congrArg Bool.not (Bool.eq_false_iff.2 q20))) ?_
 refine l_skip (want_n rfl rfl rfl (congrArg Bool.not (Bool.eq_false_iff.2 q20))) ?_
 refine l_skip (want_n rfl rfl rfl (congrArg Bool.not (Bool.eq_false_iff.2 q20))) ?_
 refine l_val (v := Value.bool true) rfl (e_pick_t rfl (congrArg Bool.not (Bool.eq_false_iff.2 q20)) rfl) ?_
 refine l_val (v := Value.bool true) rfl (e_move rfl) ?_
 refine l_skip (want_n rfl rfl rfl rfl) ?_
 refine l_skip (want_n rfl rfl rfl rfl) ?_
 refine l_skip (want_n rfl rfl rfl rfl) ?_
 refine l_val (v := Value.bool true) rfl (e_pick_t rfl rfl rfl) ?_
 refine l_nil ?_
 refine run_cond_t rfl rfl ?_
 refine run_seq ?_
 clear bx5
 refine run_region rfl ?_
 refine l_val (v := Value.bool true) rfl (e_assign rfl) ?_
 refine l_nil ?_
 refine run_ret (vs := [Value.bool true]) Try.func4 (.tmp rfl .nil) ?_
 -- return 3
 have e0 : (true : Bool) = (true) := by
   first | rfl | assumption | omega
 have C972 : Chg (inl []) _ _ _ _ := (ch2.n).seq ((hb7.n).seq (hb9.n))
 replace hbase := hbase.chg C972 (is_nl rfl)
 exact ⟨(congrArg (a₁ := true) (fun (z0 : Bool) => Ending.returned (Value.bool z0)) e0), hbase.below⟩
end TL
