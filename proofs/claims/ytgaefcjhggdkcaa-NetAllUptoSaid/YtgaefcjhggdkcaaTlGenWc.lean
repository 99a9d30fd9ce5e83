import Derived.Test.YtgaefcjhggdkcaaTlGenA
import Derived.Test.YtgaefcjhggdkcaaTlGenB
import Derived.Test.YtgaefcjhggdkcaaTlGenC
import Derived.Test.YtgaefcjhggdkcaaTlGenD
import Derived.Test.YtgaefcjhggdkcaaTlGenF
import Derived.Test.YtgaefcjhggdkcaaTlGenR
import Derived.Test.YtgaefcjhggdkcaaTlInts
import Derived.Test.YtgaefcjhggdkcaaProg
import Derived.Test.YtgaefcjhggdkcaaTlNet2
import Derived.Test.YtgaefcjhggdkcaaTlEq
import Derived.Test.YtgaefcjhggdkcaaTlHold
import Derived.Test.YtgaefcjhggdkcaaTlDraw
import Derived.Test.YtgaefcjhggdkcaaTlMap
set_option linter.all false
set_option maxRecDepth 20000
namespace TL
open Go Go.Proofs
theorem mixed_wc : Try.prog.follows .mixedOrders = true := by kernel_rfl
theorem tp3_wc : Tp Try.prog 3 false 1 8 (.int .i64 0) := Tp.of (by kernel_rfl)
theorem tp22_wc : Tp Try.prog 22 false 1 24 (.slice none 0 0) := Tp.of (by kernel_rfl)
theorem tp24_wc : Tp Try.prog 24 true 2 32 (.agg #[.int .i64 0, .slice none 0 0]) := Tp.of (by kernel_rfl)
theorem tp25_wc : Tp Try.prog 25 false 1 24 (.slice none 0 0) := Tp.of (by kernel_rfl)
theorem tp35_wc : Tp Try.prog 35 false 1 24 (.slice none 0 0) := Tp.of (by kernel_rfl)
theorem tp71_wc : Tp Try.prog 71 true 2 16 (.agg #[.int .i64 0, .int .i64 0]) := Tp.of (by kernel_rfl)
theorem bd37_wc : Try.f37.body.isNone = false := rfl
theorem nm37_wc : (Try.f37.name == "runtime.NumGoroutine") = false := by decide +kernel
theorem bd38_wc : Try.f38.body.isNone = false := rfl
theorem nm38_wc : (Try.f38.name == "runtime.NumGoroutine") = false := by decide +kernel
theorem bd58_wc : Try.f58.body.isNone = false := rfl
theorem nm58_wc : (Try.f58.name == "runtime.NumGoroutine") = false := by decide +kernel
theorem bd64_wc : Try.f64.body.isNone = false := rfl
theorem nm64_wc : (Try.f64.name == "runtime.NumGoroutine") = false := by decide +kernel
theorem bd68_wc : Try.f68.body.isNone = false := rfl
theorem nm68_wc : (Try.f68.name == "runtime.NumGoroutine") = false := by decide +kernel
theorem bd69_wc : Try.f69.body.isNone = false := rfl
theorem nm69_wc : (Try.f69.name == "runtime.NumGoroutine") = false := by decide +kernel
theorem bd70_wc : Try.f70.body.isNone = false := rfl
theorem nm70_wc : (Try.f70.name == "runtime.NumGoroutine") = false := by decide +kernel

set_option maxHeartbeats 16000000 in
theorem NetAll_ok_merged {g : (Int) × (List ((Int) × (Int)))} {v20 : Value} {g_v : Value} {v : Int} {e : Int} {b40 : Nat} {w0 : World} {keep_v : Value} {keep : List Int} {nodes_v : Value} {nodes : List Int} {b3 : Nat} {b27 : Nat} {g700 : Cmap} {w699 : World} {b_0_c11_v : Value} {b_1_c11 : Int} {b_0_c11 : List (List Int)} (hbase : Base w0 g700 w699) (r_g_v : Sl g700 (is 0) w699 g_v g.2) (r_keep_v : Sl g700 (is 0) w699 keep_v keep) (r_nodes_v : Sl g700 (is 0) w699 nodes_v nodes) (bx5 : Bx g700 (is 1) w699 b3 [Value.int .i64 g.1, g_v]) (o21 : Ow g700 (is 2) (is 2) w699 (upV v20) (g.2 ++ [((-7 : Int), (7 : Int))])) (r24 : Sl g700 (is 2) w699 v20 g.2) (bx32 : Bx g700 (is 3) w699 b27 [Value.int .i64 g.1, v20]) (bx42 : Bx g700 (is 4) w699 b40 [b_0_c11_v, Value.int .i64 b_1_c11]) (o_b_0_c11 : Nst g700 17 w699 b_0_c11_v b_0_c11) (hl300 : g.2.length ≤ 300) (hkl : keep.length ≤ 400) (hnl : nodes.length ≤ 400) (HJ : KInv b_0_c11 b_1_c11) :
    Calls Try.prog 28 (List.toArray [Value.agg (List.toArray [Value.int .i64 g.1, v20]), Value.agg (List.toArray [Value.int .i64 g.1, g_v]), Value.bool (mayB g), Value.int .i64 v, Value.int .i64 e, Value.pointer (some ⟨b40, 0, none⟩)]) w699 (fun ee w => ∃ xx : Value × (List (List Int)) × Int × Cmap, ee = .returned ((fun ⟨b_0_c15_v, b_0_c15, b_1_c15, gq⟩ => Value.bool true) xx) ∧ (fun (⟨b_0_c15_v, b_0_c15, b_1_c15, gq⟩ : Value × (List (List Int)) × Int × Cmap) (w : World) => Base w0 gq w ∧ Sl gq (is 0) w g_v g.2 ∧ Sl gq (is 0) w keep_v keep ∧ Sl gq (is 0) w nodes_v nodes ∧ Bx gq (is 1) w b3 [Value.int .i64 g.1, g_v] ∧ Ow gq (is 2) (is 2) w (upV v20) (g.2 ++ [((-7 : Int), (7 : Int))]) ∧ Sl gq (is 2) w v20 g.2 ∧ Bx gq (is 3) w b27 [Value.int .i64 g.1, v20] ∧ Bx gq (is 4) w b40 [b_0_c15_v, Value.int .i64 b_1_c15] ∧ Nst gq 17 w b_0_c15_v b_0_c15 ∧ (KInv b_0_c15 b_1_c15)) xx w) := by
 refine calls_of_run Try.func28 rfl (Nat.le_of_ble_eq_true rfl) ?_
 obtain ⟨hka, hkb, hkc⟩ := HJ.len
 refine run_seq ?_
 refine run_region rfl ?_
 refine l_op rfl ?_
 refine o_box g700 (is 157) (157, 0) rfl rfl ?_
 intro g704 w701 b703 ch702 bx705
 replace bx705 : Bx g704 (is 157) w701 b703 [Value.int .i64 g.1, v20] := bx705
 refine l_op rfl ?_
 refine o_box g704 (is 158) (158, 0) rfl rfl ?_
 intro g709 w706 b708 ch707 bx710
 replace bx710 : Bx g709 (is 158) w706 b708 [Value.int .i64 g.1, g_v] := bx710
 refine l_val (v := Value.bool false) rfl (e_assign rfl) ?_
 refine l_nil ?_
 refine run_seq ?_
 refine run_region rfl ?_
 replace bx705 := bx705.chg ch707 (not_no _)
 refine l_val (v := Value.agg (List.toArray [Value.int .i64 g.1, v20])) rfl (e_load_bxN (ds := [Value.int .i64 g.1, v20]) tp24_wc rfl bx705 rfl rfl) ?_
 refine l_val (v := Value.int .i64 v) rfl (e_move rfl) ?_
 refine l_val (v := Value.int .i64 e) rfl (e_move rfl) ?_
 replace r24 := (r24.chg ch702 (not_no _)).chg ch707 (not_no _)
 refine l_op rfl ?_
 refine o_callx (e_call (vals := [Value.agg (List.toArray [Value.int .i64 g.1, v20]), Value.int .i64 v, Value.int .i64 e]) Try.func68 bd68_wc nm68_wc rfl) (Merge_ok w706 g v20 (r24).ro v e) ?_
 rintro ⟨d712, v714, v716⟩ w711 ⟨fr713, o715, o717⟩
 obtain ⟨g718, hg718⟩ : ∃ q, q = glue w706.heap.size g709 d712 (fun n => if n = 1 then 159 else if n = 2 then 160 else 0) := ⟨_, rfl⟩
 have ch719 := chg_glue fr713.below g709 d712 (fun n => if n = 1 then 159 else if n = 2 then 160 else 0)
 rw [← hg718] at ch719
 replace o715 := o715.glue (γ := g709) (ren := (fun n => if n = 1 then 159 else if n = 2 then 160 else 0)) (k := 159) fr713.col rfl rfl
 rw [← hg718] at o715
 replace o717 := o717.glue (γ := g709) (ren := (fun n => if n = 1 then 159 else if n = 2 then 160 else 0)) (k := 160) fr713.col rfl rfl
 rw [← hg718] at o717
 clear hg718
 refine l_val (v := Value.tuple (List.toArray [Value.agg (List.toArray [Value.int .i64 (((mergeR g v e).1).1), v714]), v716, Value.int .i64 ((mergeR g v e).2.2)])) rfl (e_move rfl) ?_
 refine l_val (v := Value.agg (List.toArray [Value.int .i64 (((mergeR g v e).1).1), v714])) rfl (e_extract rfl rfl) ?_
 refine l_val (v := v716) rfl (e_extract rfl rfl) ?_
 refine l_val (v := Value.int .i64 ((mergeR g v e).2.2)) rfl (e_extract rfl rfl) ?_
 refine l_op rfl ?_
 refine o_alloc g718 (is 161) (161, 0) rfl tp24_wc ?_
 intro g723 w720 b722 ch721 bx724
 replace bx724 : Bx g723 (is 161) w720 b722 [Value.int .i64 0, Value.slice none 0 0] := bx724
 refine l_op rfl ?_
 replace o715 := o715.chg ch721 (not_no _) (not_no _)
 refine o_store_bx (cs' := [Value.int .i64 (((mergeR g v e).1).1), v714]) tp24_wc rfl rfl bx724 rfl (Nat.le_of_ble_eq_true rfl) (AllOne.all (.cons rfl (.cons (sl_one o715.flat) .nil))) rfl ?_
 intro w725 ch726 bx727
 clear bx724
 refine l_val (v := v716) rfl (e_assign rfl) ?_
 refine l_val (v := Value.int .i64 ((mergeR g v e).2.2)) rfl (e_assign rfl) ?_
 refine l_nil ?_
 refine run_seq ?_
 clear bx705
 refine run_region rfl ?_
 refine l_val (v := Value.pointer (some ⟨b40, 0, none⟩)) rfl (e_move rfl) ?_
 refine l_val (v := v716) rfl (e_move rfl) ?_
 refine l_op rfl ?_
 replace o717 := (o717.chg ch721 (not_no _) (not_no _)).chg ch726 (is_ne rfl) (is_ne rfl)
 obtain ⟨c728, hv729⟩ := vc_of (u := v716) (sl_one o717.flat)
 refine o_buildSlice (α := Vc) g723 (is 162) (is 162) (162, 0) rfl [c728] Try.underlying25 tp35_wc (by decide) (by decide) (vs := [(0, v716)]) rfl rfl (.cons (vc_els hv729 (sl_cells1 o717.flat)) .nil) ?_
 intro g730 w731 v732 ch733 o734
 refine l_op rfl ?_
 refine o_callx (σ := Value × (List (List Int)) × Int × Cmap) (V := fun ⟨b_0_c16_v, b_0_c16, b_1_c16, gq⟩ => Value.tuple (List.toArray [])) (S := fun ⟨b_0_c16_v, b_0_c16, b_1_c16, gq⟩ w => Base w0 gq w ∧ Sl gq (is 0) w g_v g.2 ∧ Sl gq (is 0) w keep_v keep ∧ Sl gq (is 0) w nodes_v nodes ∧ Bx gq (is 1) w b3 [Value.int .i64 g.1, g_v] ∧ Ow gq (is 2) (is 2) w (upV v20) (g.2 ++ [((-7 : Int), (7 : Int))]) ∧ Sl gq (is 2) w v20 g.2 ∧ Bx gq (is 3) w b27 [Value.int .i64 g.1, v20] ∧ Bx gq (is 4) w b40 [b_0_c16_v, Value.int .i64 b_1_c16] ∧ Bx gq (is 158) w b708 [Value.int .i64 g.1, g_v] ∧ Ow gq (is 159) (is 159) w v714 (((mergeR g v e).1).2) ∧ Sl gq (isr 160 17) w v716 ((mergeR g v e).2.1) ∧ Bx gq (is 161) w b722 [Value.int .i64 (((mergeR g v e).1).1), v714] ∧ Ow gq (is 162) (is 162) w v732 ([c728]) ∧ Nst gq 17 w b_0_c16_v b_0_c16 ∧ (KInv b_0_c16 b_1_c16)) (e_call (vals := [Value.pointer (some ⟨b40, 0, none⟩), v732]) Try.func58 bd58_wc nm58_wc rfl) ?_ ?_
 ·
  refine calls_of_run Try.func58 rfl (Nat.le_of_ble_eq_true rfl) ?_
  have C735 : Chg (inl [161]) _ _ _ _ := (ch702.n).seq ((ch707.n).seq ((ch719.n).seq ((ch721.n).seq ((ch726.l rfl).seq (ch733.n)))))
  replace o_b_0_c11 := o_b_0_c11.chg C735 (is_nl rfl)
  replace o717 := o717.chg ch733 (not_no _) (not_no _)
  refine run_seq ?_
  refine run_region rfl ?_
  refine l_val (v := Value.int .i64 0) rfl (e_assign rfl) ?_
  refine l_nil ?_
  refine run_block ?_
  refine run_loop0 ?_
  refine run_seq ?_
  refine run_seq ?_
  refine run_region rfl ?_
  refine l_val (v := Value.int .i64 0) rfl (e_move rfl) ?_
  refine l_val (v := v732) rfl (e_move rfl) ?_
  refine l_val (v := Value.int .i64 1) rfl (e_len (α := Vc) (xs := [c728]) Try.underlying25 rfl o734.flat) ?_
  refine l_val (v := Value.bool true) rfl (e_lss (m := 0) (n := 1) rfl rfl) ?_
  refine l_nil ?_
  refine run_cond_t rfl rfl ?_
  refine run_skip ?_
  refine run_seq ?_
  refine run_block ?_
  refine run_seq ?_
  refine run_mid [false, true, false, false, false] (σ := Value × (List (List Int)) × Int × Cmap) (fun ⟨b_0_j29_v, b_0_j29, b_1_j29, gq⟩ f w => Base w0 gq w ∧ f 0 = Value.pointer (some ⟨b40, 0, none⟩) ∧ f 1 = v732 ∧ f 4 = Value.int .i64 0 ∧ Sl gq (is 0) w g_v g.2 ∧ Sl gq (is 0) w keep_v keep ∧ Sl gq (is 0) w nodes_v nodes ∧ Bx gq (is 1) w b3 [Value.int .i64 g.1, g_v] ∧ Ow gq (is 2) (is 2) w (upV v20) (g.2 ++ [((-7 : Int), (7 : Int))]) ∧ Sl gq (is 2) w v20 g.2 ∧ Bx gq (is 3) w b27 [Value.int .i64 g.1, v20] ∧ Bx gq (is 4) w b40 [b_0_j29_v, Value.int .i64 b_1_j29] ∧ Bx gq (is 158) w b708 [Value.int .i64 g.1, g_v] ∧ Ow gq (is 159) (is 159) w v714 (((mergeR g v e).1).2) ∧ Sl gq (isr 160 17) w v716 ((mergeR g v e).2.1) ∧ Bx gq (is 161) w b722 [Value.int .i64 (((mergeR g v e).1).1), v714] ∧ Ow gq (is 162) (is 162) w v732 ([c728]) ∧ Nst gq 17 w b_0_j29_v b_0_j29 ∧ (KInv b_0_j29 b_1_j29)) ?_ ?_
  ·
   intro mid_j29
   refine region_q g730 rfl mixed_wc (by kernel_rfl) ?_
   intro w737 ch736
   refine q_val (v := v732) rfl (fun w' hw' => e_move rfl) ?_
   refine q_val (v := Value.int .i64 0) rfl (fun w' hw' => e_move rfl) ?_
   replace o717 := o717.chg ch736 (not_no _) (not_no _)
   replace o734 := o734.chg ch736 (not_no _) (not_no _)
   refine q_val (v := Value.pointer (some (eAddr v732 1 (Int.toNat 0)))) rfl (fun w' hw' => e_indexAddr (α := List Int) (xs := [(mergeR g v e).2.1]) (v := v732) (i := 0) Try.underlying25 rfl rfl ((vc_sl o734 (VcR.consv hv729 (o717.flat).ro VcR.nil)).bel hw') rfl (by omega) (by first | omega | (simp only [List.length_set, List.length_append, List.length_cons, List.length_nil, List.length_replicate, List.length_map, List.length_take, List.length_drop]; omega) | (simp; done) | (simp; omega))) ?_
   refine q_val (v := v716) rfl (fun w' hw' => e_load1 tp35_wc rfl (ow_atv hv729 (o734.bel hw') rfl)) ?_
   have len738 := (o717.flat).small
   refine q_val (v := Value.int .i64 (List.length ((mergeR g v e).2.1) : Int)) rfl (fun w' hw' => e_len Try.underlying35 rfl (o717.flat.bel hw')) ?_
   refine q_val (v := v732) rfl (fun w' hw' => e_move rfl) ?_
   refine q_val (v := Value.int .i64 0) rfl (fun w' hw' => e_move rfl) ?_
   refine q_val (v := Value.pointer (some (eAddr v732 1 (Int.toNat 0)))) rfl (fun w' hw' => e_indexAddr (α := List Int) (xs := [(mergeR g v e).2.1]) (v := v732) (i := 0) Try.underlying25 rfl rfl ((vc_sl o734 (VcR.consv hv729 (o717.flat).ro VcR.nil)).bel hw') rfl (by omega) (by first | omega | (simp only [List.length_set, List.length_append, List.length_cons, List.length_nil, List.length_replicate, List.length_map, List.length_take, List.length_drop]; omega) | (simp; done) | (simp; omega))) ?_
   refine q_val (v := v716) rfl (fun w' hw' => e_load1 tp35_wc rfl (ow_atv hv729 (o734.bel hw') rfl)) ?_
   have cap739 := Sl.cap o717.flat
   refine q_val (v := Value.int .i64 (sCap v716 : Int)) rfl (fun w' hw' => e_cap Try.underlying35 rfl (o717.flat.bel hw')) ?_
   refine q_call (v := Value.int .i64 (min (sCap v716 : Int) ((List.length ((mergeR g v e).2.1) : Int) + 2000))) rfl (fun w' hw' => e_call (vals := [Value.int .i64 (List.length ((mergeR g v e).2.1) : Int), Value.int .i64 (sCap v716 : Int)]) Try.func70 bd70_wc nm70_wc rfl) (fun w' hw' => (Room_ok w' (List.length ((mergeR g v e).2.1) : Int) (sCap v716 : Int) (by omega)).mono fun e w2 h2 => ⟨h2.1, hw'.trans (h2.2.mono hw'.size)⟩) ?_
   refine q_val (v := Value.int .i64 (min (sCap v716 : Int) ((List.length ((mergeR g v e).2.1) : Int) + 2000))) rfl (fun w' hw' => e_assign rfl) ?_
   refine q_nil ?_
   intro w740 hc741
   replace hc741 := chg_below hc741 g730
   refine run_seq ?_
   refine run_region rfl ?_
   refine l_val (v := Value.int .i64 (min (sCap v716 : Int) ((List.length ((mergeR g v e).2.1) : Int) + 2000))) rfl (e_move rfl) ?_
   refine l_val (v := Value.bool (decide (0 < (min (sCap v716 : Int) ((List.length ((mergeR g v e).2.1) : Int) + 2000))))) rfl (e_gtr (m := min (sCap v716 : Int) ((List.length ((mergeR g v e).2.1) : Int) + 2000)) (n := 0) rfl rfl) ?_
   refine l_val (v := Value.bool (decide (0 < (min (sCap v716 : Int) ((List.length ((mergeR g v e).2.1) : Int) + 2000))))) rfl (e_move rfl) ?_
   by_cases q25_c16 : 0 < (min (sCap v716 : Int) ((List.length ((mergeR g v e).2.1) : Int) + 2000))
   ·
    refine l_val (v := Value.pointer (some ⟨b40, 0, none⟩)) (want_y rfl rfl rfl (decide_eq_true q25_c16)) (e_move rfl) ?_
    refine l_val (v := Value.pointer (some ⟨b40, 0, none⟩)) (want_y rfl rfl rfl (decide_eq_true q25_c16)) (e_nilCheck rfl) ?_
    refine l_val (v := Value.pointer (some ⟨b40, 1, none⟩)) (want_y rfl rfl rfl (decide_eq_true q25_c16)) (e_fieldAddr Try.underlying49 rfl rfl rfl rfl) ?_
    have C742 : Chg (inl [161]) _ _ _ _ := (ch702.n).seq ((ch707.n).seq ((ch719.n).seq ((ch721.n).seq ((ch726.l rfl).seq ((ch733.n).seq ((ch736.n).seq (hc741.n)))))))
    replace bx42 := bx42.chg C742 (is_nl rfl)
    refine l_val (v := Value.int .i64 b_1_c11) (want_y rfl rfl rfl (decide_eq_true q25_c16)) (e_load_bx1 tp3_wc rfl bx42 rfl) ?_
    refine l_val (v := Value.int .i64 (min (sCap v716 : Int) ((List.length ((mergeR g v e).2.1) : Int) + 2000))) (want_y rfl rfl rfl (decide_eq_true q25_c16)) (e_move rfl) ?_
    refine l_val (v := Value.int .i64 (b_1_c11 + (min (sCap v716 : Int) ((List.length ((mergeR g v e).2.1) : Int) + 2000)))) (want_y rfl rfl rfl (decide_eq_true q25_c16)) (e_add (m := b_1_c11) (n := min (sCap v716 : Int) ((List.length ((mergeR g v e).2.1) : Int) + 2000)) rfl rfl (by omega)) ?_
    refine l_val (v := Value.bool (decide ((b_1_c11 + (min (sCap v716 : Int) ((List.length ((mergeR g v e).2.1) : Int) + 2000))) ≤ 1048576))) (want_y rfl rfl rfl (decide_eq_true q25_c16)) (e_leq (m := b_1_c11 + (min (sCap v716 : Int) ((List.length ((mergeR g v e).2.1) : Int) + 2000))) (n := 1048576) rfl rfl) ?_
    refine l_val (v := Value.bool (decide ((b_1_c11 + (min (sCap v716 : Int) ((List.length ((mergeR g v e).2.1) : Int) + 2000))) ≤ 1048576))) rfl (e_pick_t rfl (decide_eq_true q25_c16) rfl) ?_
    refine l_nil ?_
    by_cases p4_c16 : (b_1_c11 + (min (sCap v716 : Int) ((List.length ((mergeR g v e).2.1) : Int) + 2000))) ≤ 1048576
    ·
     refine run_cond_t rfl (decide_eq_true p4_c16) ?_
     refine run_seq ?_
     refine run_region rfl ?_
     refine l_val (v := Value.pointer (some ⟨b40, 0, none⟩)) rfl (e_move rfl) ?_
     refine l_val (v := Value.pointer (some ⟨b40, 0, none⟩)) rfl (e_move rfl) ?_
     refine l_val (v := Value.pointer (some ⟨b40, 0, none⟩)) rfl (e_nilCheck rfl) ?_
     refine l_val (v := Value.pointer (some ⟨b40, 1, none⟩)) rfl (e_fieldAddr Try.underlying49 rfl rfl rfl rfl) ?_
     refine l_val (v := Value.int .i64 b_1_c11) rfl (e_load_bx1 tp3_wc rfl bx42 rfl) ?_
     refine l_val (v := Value.int .i64 (min (sCap v716 : Int) ((List.length ((mergeR g v e).2.1) : Int) + 2000))) rfl (e_move rfl) ?_
     refine l_val (v := Value.int .i64 (b_1_c11 + (min (sCap v716 : Int) ((List.length ((mergeR g v e).2.1) : Int) + 2000)))) rfl (e_add (m := b_1_c11) (n := min (sCap v716 : Int) ((List.length ((mergeR g v e).2.1) : Int) + 2000)) rfl rfl (by omega)) ?_
     refine l_val (v := Value.pointer (some ⟨b40, 0, none⟩)) rfl (e_nilCheck rfl) ?_
     refine l_val (v := Value.pointer (some ⟨b40, 1, none⟩)) rfl (e_fieldAddr Try.underlying49 rfl rfl rfl rfl) ?_
     refine l_op rfl ?_
     refine o_store_bx (cs' := [b_0_c11_v, Value.int .i64 (b_1_c11 + (min (sCap v716 : Int) ((List.length ((mergeR g v e).2.1) : Int) + 2000)))]) tp3_wc rfl rfl bx42 rfl (Nat.le_of_ble_eq_true rfl) (AllOne.all (.cons rfl .nil)) rfl ?_
     intro w743 ch744 bx745
     clear bx42
     refine l_nil ?_
     refine run_region_x g730 [0, 1, 2, 3, 4, 5, 6, 7, 8, 11, 12] mixed_wc ?_
     intro w747 ch746
     refine x_pure (v := Value.pointer (some ⟨b40, 0, none⟩)) 0 rfl (by kernel_rfl) (by kernel_rfl) rfl (fun w => e_move rfl) ?_
     refine x_pure (v := Value.pointer (some ⟨b40, 0, none⟩)) 1 rfl (by kernel_rfl) (by kernel_rfl) rfl (fun w => e_move rfl) ?_
     refine x_pure (v := Value.pointer (some ⟨b40, 0, none⟩)) 2 rfl (by kernel_rfl) (by kernel_rfl) rfl (fun w => e_nilCheck rfl) ?_
     refine x_pure (v := Value.pointer (some ⟨b40, 0, none⟩)) 3 rfl (by kernel_rfl) (by kernel_rfl) rfl (fun w => e_fieldAddr Try.underlying49 rfl rfl rfl rfl) ?_
     replace bx745 := bx745.chg ch746 (not_no _)
     refine x_held (v := b_0_c11_v) 4 [3, 2, 1, 0, 5, 6, 7, 8, 9] rfl (by kernel_rfl) (by kernel_rfl) rfl (fun w' hw' => e_load_bx1 tp25_wc rfl (bx745.bel hw') rfl) ?_
     refine x_pure (v := v732) 5 rfl (by kernel_rfl) (by kernel_rfl) rfl (fun w => e_move rfl) ?_
     refine x_pure (v := Value.int .i64 0) 6 rfl (by kernel_rfl) (by kernel_rfl) rfl (fun w => e_move rfl) ?_
     have C748 : Chg (inl [4]) _ _ _ _ := (hc741.n).seq ((ch744.l rfl).seq (ch746.n))
     replace o717 := o717.chg C748 (is_nl rfl) (is_nl rfl)
     replace o734 := o734.chg C748 (is_nl rfl) (is_nl rfl)
     refine x_val (v := Value.pointer (some (eAddr v732 1 (Int.toNat 0)))) 7 [6, 5, 4, 3, 2, 1, 0] rfl (by kernel_rfl) (by kernel_rfl) rfl (e_indexAddr (α := List Int) (xs := [(mergeR g v e).2.1]) (v := v732) (i := 0) Try.underlying25 rfl rfl (vc_sl o734 (VcR.consv hv729 (o717.flat).ro VcR.nil)) rfl (by omega) (by first | omega | (simp only [List.length_set, List.length_append, List.length_cons, List.length_nil, List.length_replicate, List.length_map, List.length_take, List.length_drop]; omega) | (simp; done) | (simp; omega))) ?_
     refine x_val (v := v716) 8 [7, 6, 5, 4, 3, 2, 1, 0] rfl (by kernel_rfl) (by kernel_rfl) rfl (e_load1 tp35_wc rfl (ow_atv hv729 o734 rfl)) ?_
     refine x_one 9 rfl (by kernel_rfl) rfl ?_
     obtain ⟨c749, hv750⟩ := vc_of (u := v716) (sl_one o717.flat)
     refine o_buildSlice (α := Vc) g730 (is 163) (is 163) (163, 0) rfl [c749] Try.underlying25 tp35_wc (by decide) (by decide) (vs := [(0, v716)]) rfl rfl (.cons (vc_els hv750 (sl_cells1 o717.flat)) .nil) ?_
     intro g751 w752 v753 ch754 o755
     refine x_one 10 rfl (by kernel_rfl) rfl ?_
     have C756 : Chg (inl [4]) _ _ _ _ := (ch736.n).seq ((hc741.n).seq ((ch744.l rfl).seq ((ch746.n).seq (ch754.n))))
     replace o_b_0_c11 := o_b_0_c11.chg C756 (is_nl rfl)
     replace o717 := o717.chg ch754 (not_no _) (not_no _)
     refine o_append_nst hv750 (α := Int) (xss := b_0_c11) (i := 17) (γ := g751) Try.underlying25 tp35_wc rfl rfl rfl o_b_0_c11 (o755.flat) o717 rfl (by decide) (by first | omega | (simp; done) | (simp; omega)) ?_
     intro g757 w758 v759 ch760 o761 r762
     clear o_b_0_c11
     clear o717
     refine x_pure (v := Value.pointer (some ⟨b40, 0, none⟩)) 11 rfl (by kernel_rfl) (by kernel_rfl) rfl (fun w => e_nilCheck rfl) ?_
     refine x_pure (v := Value.pointer (some ⟨b40, 0, none⟩)) 12 rfl (by kernel_rfl) (by kernel_rfl) rfl (fun w => e_fieldAddr Try.underlying49 rfl rfl rfl rfl) ?_
     refine x_one 13 rfl (by kernel_rfl) rfl ?_
     replace bx745 := (bx745.chg ch754 (not_no _)).chg ch760 (is_neix rfl rfl)
     refine o_store_bx1 (cs' := [v759, Value.int .i64 (b_1_c11 + (min (sCap v716 : Int) ((List.length ((mergeR g v e).2.1) : Int) + 2000)))]) tp25_wc rfl rfl bx745 (sl_cells1 o761.sl) (Nat.le_of_ble_eq_true rfl) (sl_one o761.sl) rfl ?_
     intro w763 ch764 bx765
     clear bx745
     refine x_nil (by kernel_rfl) ?_
     refine run_inBlock ?_
     clear o755
     have C766 : Chg (inl [4, 17, 160, 161]) _ _ _ _ := (ch702.n).seq ((ch707.n).seq ((ch719.n).seq ((ch721.n).seq ((ch726.l rfl).seq ((ch733.n).seq ((ch736.n).seq ((hc741.n).seq ((ch744.l rfl).seq ((ch746.n).seq ((ch754.n).seq ((ch760.lx rfl rfl).seq (ch764.l rfl))))))))))))
     replace hbase := hbase.chg C766 (is_nl rfl)
     replace r_g_v := r_g_v.chg C766 (is_nl rfl)
     replace r_keep_v := r_keep_v.chg C766 (is_nl rfl)
     replace r_nodes_v := r_nodes_v.chg C766 (is_nl rfl)
     replace bx5 := bx5.chg C766 (is_nl rfl)
     replace o21 := o21.chg C766 (is_nl rfl) (is_nl rfl)
     have C767 : Chg (inl [4, 17, 160, 161]) _ _ _ _ := (ch719.n).seq ((ch721.n).seq ((ch726.l rfl).seq ((ch733.n).seq ((ch736.n).seq ((hc741.n).seq ((ch744.l rfl).seq ((ch746.n).seq ((ch754.n).seq ((ch760.lx rfl rfl).seq (ch764.l rfl))))))))))
     replace r24 := r24.chg C767 (is_nl rfl)
     replace bx32 := bx32.chg C766 (is_nl rfl)
     replace bx710 := bx710.chg C767 (is_nl rfl)
     have C768 : Chg (inl [4, 17, 160, 161]) _ _ _ _ := (ch726.l rfl).seq ((ch733.n).seq ((ch736.n).seq ((hc741.n).seq ((ch744.l rfl).seq ((ch746.n).seq ((ch754.n).seq ((ch760.lx rfl rfl).seq (ch764.l rfl))))))))
     replace o715 := o715.chg C768 (is_nl rfl) (is_nl rfl)
     replace r762 := r762.chg ch764 (isr_is rfl rfl)
     have C769 : Chg (inl [4, 17, 160]) _ _ _ _ := (ch733.n).seq ((ch736.n).seq ((hc741.n).seq ((ch744.l rfl).seq ((ch746.n).seq ((ch754.n).seq ((ch760.lx rfl rfl).seq (ch764.l rfl)))))))
     replace bx727 := bx727.chg C769 (is_nl rfl)
     have C770 : Chg (inl [4, 17, 160]) _ _ _ _ := (ch754.n).seq ((ch760.lx rfl rfl).seq (ch764.l rfl))
     replace o734 := o734.chg C770 (is_nl rfl) (is_nl rfl)
     replace o761 := o761.chg ch764 (is_ne rfl)
     refine mid_j29 (v759, (b_0_c11 ++ [(mergeR g v e).2.1]), b_1_c11 + (min (sCap v716 : Int) ((List.length ((mergeR g v e).2.1) : Int) + 2000)), g757) _ _ ⟨hbase, rfl, rfl, rfl, r_g_v, r_keep_v, r_nodes_v, bx5, o21, r24, bx32, bx765, bx710, o715, r762, bx727, o734, o761, ?_⟩
     show KInv (b_0_c11 ++ [(mergeR g v e).2.1]) (b_1_c11 + (min (sCap v716 : Int) ((List.length ((mergeR g v e).2.1) : Int) + 2000)))
     first | assumption | exact KInv.nil | exact (KInv.add (by first | assumption | exact KInv.nil) (by omega) (by omega) (by omega))
    refine run_cond_f rfl (decide_eq_false p4_c16) ?_
    refine run_skip ?_
    refine run_inBlock ?_
    replace hbase := hbase.chg C742 (is_nl rfl)
    replace r_g_v := r_g_v.chg C742 (is_nl rfl)
    replace r_keep_v := r_keep_v.chg C742 (is_nl rfl)
    replace r_nodes_v := r_nodes_v.chg C742 (is_nl rfl)
    replace bx5 := bx5.chg C742 (is_nl rfl)
    replace o21 := o21.chg C742 (is_nl rfl) (is_nl rfl)
    have C771 : Chg (inl [161]) _ _ _ _ := (ch719.n).seq ((ch721.n).seq ((ch726.l rfl).seq ((ch733.n).seq ((ch736.n).seq (hc741.n)))))
    replace r24 := r24.chg C771 (is_nl rfl)
    replace bx32 := bx32.chg C742 (is_nl rfl)
    replace bx710 := bx710.chg C771 (is_nl rfl)
    have C772 : Chg (inl [161]) _ _ _ _ := (ch726.l rfl).seq ((ch733.n).seq ((ch736.n).seq (hc741.n)))
    replace o715 := o715.chg C772 (is_nl rfl) (is_nl rfl)
    replace o717 := o717.chg hc741 (not_no _) (not_no _)
    have C773 : Chg (inl []) _ _ _ _ := (ch733.n).seq ((ch736.n).seq (hc741.n))
    replace bx727 := bx727.chg C773 (is_nl rfl)
    replace o734 := o734.chg hc741 (not_no _) (not_no _)
    replace o_b_0_c11 := (o_b_0_c11.chg ch736 (not_no _)).chg hc741 (not_no _)
    refine mid_j29 (b_0_c11_v, b_0_c11, b_1_c11, g730) _ _ ⟨hbase, rfl, rfl, rfl, r_g_v, r_keep_v, r_nodes_v, bx5, o21, r24, bx32, bx42, bx710, o715, o717.slk, bx727, o734, o_b_0_c11, ?_⟩
    show KInv b_0_c11 b_1_c11
    first | assumption | exact KInv.nil | exact (KInv.add (by first | assumption | exact KInv.nil) (by omega) (by omega) (by omega))
   refine l_skip (want_n rfl rfl rfl (decide_eq_false q25_c16)) ?_
   refine l_skip (want_n rfl rfl rfl (decide_eq_false q25_c16)) ?_
   refine l_skip (want_n rfl rfl rfl (decide_eq_false q25_c16)) ?_
   refine l_skip (want_n rfl rfl rfl (decide_eq_false q25_c16)) ?_
   refine l_skip (want_n rfl rfl rfl (decide_eq_false q25_c16)) ?_
   refine l_skip (want_n rfl rfl rfl (decide_eq_false q25_c16)) ?_
   refine l_skip (want_n rfl rfl rfl (decide_eq_false q25_c16)) ?_
   refine l_val (v := Value.bool false) rfl (e_pick_f rfl (decide_eq_false q25_c16) rfl) ?_
   refine l_nil ?_
   refine run_cond_f rfl rfl ?_
   refine run_skip ?_
   refine run_inBlock ?_
   have C774 : Chg (inl [161]) _ _ _ _ := (ch702.n).seq ((ch707.n).seq ((ch719.n).seq ((ch721.n).seq ((ch726.l rfl).seq ((ch733.n).seq ((ch736.n).seq (hc741.n)))))))
   replace hbase := hbase.chg C774 (is_nl rfl)
   replace r_g_v := r_g_v.chg C774 (is_nl rfl)
   replace r_keep_v := r_keep_v.chg C774 (is_nl rfl)
   replace r_nodes_v := r_nodes_v.chg C774 (is_nl rfl)
   replace bx5 := bx5.chg C774 (is_nl rfl)
   replace o21 := o21.chg C774 (is_nl rfl) (is_nl rfl)
   have C775 : Chg (inl [161]) _ _ _ _ := (ch719.n).seq ((ch721.n).seq ((ch726.l rfl).seq ((ch733.n).seq ((ch736.n).seq (hc741.n)))))
   replace r24 := r24.chg C775 (is_nl rfl)
   replace bx32 := bx32.chg C774 (is_nl rfl)
   replace bx42 := bx42.chg C774 (is_nl rfl)
   replace bx710 := bx710.chg C775 (is_nl rfl)
   have C776 : Chg (inl [161]) _ _ _ _ := (ch726.l rfl).seq ((ch733.n).seq ((ch736.n).seq (hc741.n)))
   replace o715 := o715.chg C776 (is_nl rfl) (is_nl rfl)
   replace o717 := o717.chg hc741 (not_no _) (not_no _)
   have C777 : Chg (inl []) _ _ _ _ := (ch733.n).seq ((ch736.n).seq (hc741.n))
   replace bx727 := bx727.chg C777 (is_nl rfl)
   replace o734 := o734.chg hc741 (not_no _) (not_no _)
   replace o_b_0_c11 := (o_b_0_c11.chg ch736 (not_no _)).chg hc741 (not_no _)
   refine mid_j29 (b_0_c11_v, b_0_c11, b_1_c11, g730) _ _ ⟨hbase, rfl, rfl, rfl, r_g_v, r_keep_v, r_nodes_v, bx5, o21, r24, bx32, bx42, bx710, o715, o717.slk, bx727, o734, o_b_0_c11, ?_⟩
   show KInv b_0_c11 b_1_c11
   first | assumption | exact KInv.nil | exact (KInv.add (by first | assumption | exact KInv.nil) (by omega) (by omega) (by omega))
  clear r_g_v
  clear r_keep_v
  clear r_nodes_v
  clear bx5
  clear o21
  clear r24
  clear bx32
  clear bx42
  clear o_b_0_c11
  clear bx710
  clear o715
  clear o717
  clear bx727
  clear o734
  clear hbase
  rintro ⟨b_0_j29_v, b_0_j29, b_1_j29, g780⟩ f778 w779 ⟨hbase, z781_0, z781_1, z781_4, r_g_v, r_keep_v, r_nodes_v, bx5, o21, r24, bx32, bx42, bx710, o715, o717, bx727, o734, o_b_0_j29, hj_j29⟩
  obtain ⟨hja_j29, hjb_j29, hjc_j29⟩ := hj_j29.len
  refine run_region rfl ?_
  refine l_val (v := Value.int .i64 0) rfl (e_move (by exact z781_4)) ?_
  refine l_val (v := Value.int .i64 1) rfl (e_add (m := 0) (n := 1) rfl rfl (by omega)) ?_
  refine l_val (v := Value.int .i64 1) rfl (e_assign rfl) ?_
  refine l_nil ?_
  refine run_inLoop ?_
  refine run_seq ?_
  refine run_seq ?_
  refine run_region rfl ?_
  refine l_val (v := Value.int .i64 1) rfl (e_move rfl) ?_
  refine l_val (v := v732) rfl (e_move (by exact z781_1)) ?_
  refine l_val (v := Value.int .i64 1) rfl (e_len (α := Vc) (xs := [c728]) Try.underlying25 rfl o734.flat) ?_
  refine l_val (v := Value.bool false) rfl (e_lss (m := 1) (n := 1) rfl rfl) ?_
  refine l_nil ?_
  refine run_cond_f rfl rfl ?_
  refine run_exit rfl ?_
  refine run_end (vs := []) Try.func58 .nil ?_
  refine ⟨(b_0_j29_v, b_0_j29, b_1_j29, g780), rfl, hbase, r_g_v, r_keep_v, r_nodes_v, bx5, o21, r24, bx32, bx42, bx710, o715, o717, bx727, o734, o_b_0_j29, ?_⟩
  show KInv b_0_j29 b_1_j29
  first | assumption | exact KInv.nil | exact (KInv.add (by first | assumption | exact KInv.nil) (by omega) (by omega) (by omega))
 clear r_g_v
 clear r_keep_v
 clear r_nodes_v
 clear bx5
 clear o21
 clear r24
 clear bx32
 clear bx42
 clear o_b_0_c11
 clear bx710
 clear o715
 clear o717
 clear bx727
 clear o734
 clear hbase
 rintro ⟨b_0_c16_v, b_0_c16, b_1_c16, g783⟩ w782 ⟨hbase, r_g_v, r_keep_v, r_nodes_v, bx5, o21, r24, bx32, bx42, bx710, o715, o717, bx727, o734, o_b_0_c16, hj_c16⟩
 obtain ⟨hja_c16, hjb_c16, hjc_c16⟩ := hj_c16.len
 refine l_nil ?_
 refine run_seq ?_
 refine run_seq ?_
 clear o734
 refine run_region rfl ?_
 refine l_val (v := Value.bool (mayB g)) rfl (e_move rfl) ?_
 refine l_val (v := Value.bool (!(mayB g))) rfl (e_not (b := (mayB g)) rfl) ?_
 refine l_nil ?_
 by_cases p3_c15 : (mayB g) = true
 ·
  have hm_c15 := of_decide_eq_true p3_c15
  refine run_cond_f rfl (congrArg Bool.not p3_c15) ?_
  refine run_skip ?_
  refine run_seq ?_
  refine run_region rfl ?_
  refine l_val (v := Value.agg (List.toArray [Value.int .i64 g.1, g_v])) rfl (e_load_bxN (ds := [Value.int .i64 g.1, g_v]) tp24_wc rfl bx710 rfl rfl) ?_
  refine l_val (v := Value.int .i64 v) rfl (e_move rfl) ?_
  refine l_val (v := Value.int .i64 e) rfl (e_move rfl) ?_
  refine l_op rfl ?_
  refine o_callx (e_call (vals := [Value.agg (List.toArray [Value.int .i64 g.1, g_v]), Value.int .i64 v, Value.int .i64 e]) Try.func69 bd69_wc nm69_wc rfl) (rMerge_ok w782 g g_v (r_g_v).ro v e (by exact hm_c15)) ?_
  rintro ⟨d785, v787, v789⟩ w784 ⟨fr786, o788, o790⟩
  obtain ⟨g791, hg791⟩ : ∃ q, q = glue w782.heap.size g783 d785 (fun n => if n = 1 then 164 else if n = 2 then 165 else 0) := ⟨_, rfl⟩
  have ch792 := chg_glue fr786.below g783 d785 (fun n => if n = 1 then 164 else if n = 2 then 165 else 0)
  rw [← hg791] at ch792
  replace o788 := o788.glue (γ := g783) (ren := (fun n => if n = 1 then 164 else if n = 2 then 165 else 0)) (k := 164) fr786.col rfl rfl
  rw [← hg791] at o788
  replace o790 := o790.glue (γ := g783) (ren := (fun n => if n = 1 then 164 else if n = 2 then 165 else 0)) (k := 165) fr786.col rfl rfl
  rw [← hg791] at o790
  clear hg791
  refine l_val (v := Value.tuple (List.toArray [Value.agg (List.toArray [Value.int .i64 (((mergeR g v e).1).1), v787]), v789, Value.int .i64 ((mergeR g v e).2.2)])) rfl (e_move rfl) ?_
  refine l_val (v := Value.agg (List.toArray [Value.int .i64 (((mergeR g v e).1).1), v787])) rfl (e_extract rfl rfl) ?_
  refine l_val (v := v789) rfl (e_extract rfl rfl) ?_
  refine l_val (v := Value.int .i64 ((mergeR g v e).2.2)) rfl (e_extract rfl rfl) ?_
  refine l_op rfl ?_
  refine o_alloc g791 (is 166) (166, 0) rfl tp24_wc ?_
  intro g796 w793 b795 ch794 bx797
  replace bx797 : Bx g796 (is 166) w793 b795 [Value.int .i64 0, Value.slice none 0 0] := bx797
  refine l_op rfl ?_
  replace o788 := o788.chg ch794 (not_no _) (not_no _)
  refine o_store_bx (cs' := [Value.int .i64 (((mergeR g v e).1).1), v787]) tp24_wc rfl rfl bx797 rfl (Nat.le_of_ble_eq_true rfl) (AllOne.all (.cons rfl (.cons (sl_one o788.flat) .nil))) rfl ?_
  intro w798 ch799 bx800
  clear bx797
  refine l_val (v := v789) rfl (e_assign rfl) ?_
  refine l_val (v := Value.int .i64 ((mergeR g v e).2.2)) rfl (e_assign rfl) ?_
  refine l_nil ?_
  refine run_seq ?_
  clear bx710
  refine run_region rfl ?_
  refine l_val (v := Value.int .i64 ((mergeR g v e).2.2)) rfl (e_move rfl) ?_
  refine l_val (v := Value.int .i64 ((mergeR g v e).2.2)) rfl (e_move rfl) ?_
  refine l_val (v := Value.bool (decide (((mergeR g v e).2.2) = ((mergeR g v e).2.2)))) rfl (e_eql (m := (mergeR g v e).2.2) (n := (mergeR g v e).2.2) rfl rfl) ?_
  refine l_val (v := Value.bool (decide (((mergeR g v e).2.2) = ((mergeR g v e).2.2)))) rfl (e_move rfl) ?_
  have q57_c15 : ((mergeR g v e).2.2) = ((mergeR g v e).2.2) := by first | rfl | exact decide_eq_true rfl | (rw [hs_c15]; done) | (rw [hs_c15]; exact decide_eq_true rfl) | (rw [hs_c15]; rfl)
  have C801 : Chg (inl [166]) _ _ _ _ := (ch792.n).seq ((ch794.n).seq (ch799.l rfl))
  replace bx727 := bx727.chg C801 (is_nl rfl)
  refine l_val (v := Value.agg (List.toArray [Value.int .i64 (((mergeR g v e).1).1), v714])) (want_y rfl rfl rfl (decide_eq_true q57_c15)) (e_load_bxN (ds := [Value.int .i64 (((mergeR g v e).1).1), v714]) tp24_wc rfl bx727 rfl rfl) ?_
  refine l_val (v := Value.agg (List.toArray [Value.int .i64 (((mergeR g v e).1).1), v787])) (want_y rfl rfl rfl (decide_eq_true q57_c15)) (e_load_bxN (ds := [Value.int .i64 (((mergeR g v e).1).1), v787]) tp24_wc rfl bx800 rfl rfl) ?_
  replace o715 := o715.chg C801 (is_nl rfl) (is_nl rfl)
  replace o788 := o788.chg ch799 (is_ne rfl) (is_ne rfl)
  refine l_op (want_y rfl rfl rfl (decide_eq_true q57_c15)) ?_
  refine o_call (v := Value.bool (decide (((mergeR g v e).1) = ((mergeR g v e).1)))) (e_call (vals := [Value.agg (List.toArray [Value.int .i64 (((mergeR g v e).1).1), v714]), Value.agg (List.toArray [Value.int .i64 (((mergeR g v e).1).1), v787])]) Try.func37 bd37_wc nm37_wc rfl) (rSame_ok w798 ((mergeR g v e).1) v714 (o715.flat).ro ((mergeR g v e).1) v787 (o788.flat).ro) ?_
  intro w802 hb803
  replace hb803 := chg_below hb803 g796
  refine l_val (v := Value.bool (decide (((mergeR g v e).1) = ((mergeR g v e).1)))) rfl (e_pick_t rfl (decide_eq_true q57_c15) rfl) ?_
  refine l_val (v := Value.bool (decide (((mergeR g v e).1) = ((mergeR g v e).1)))) rfl (e_move rfl) ?_
  have q62_c15 : (decide (((mergeR g v e).1) = ((mergeR g v e).1))) = true := by first | rfl | exact decide_eq_true rfl | (rw [hs_c15]; done) | (rw [hs_c15]; exact decide_eq_true rfl) | (rw [hs_c15]; rfl)
  refine l_val (v := v716) (want_y rfl rfl rfl q62_c15) (e_move rfl) ?_
  refine l_val (v := v789) (want_y rfl rfl rfl q62_c15) (e_move rfl) ?_
  replace o717 := (((o717.chg ch792 (not_no _)).chg ch794 (not_no _)).chg ch799 (isr_is rfl rfl)).chg hb803 (not_no _)
  have C804 : Chg (inl [166]) _ _ _ _ := (ch794.n).seq ((ch799.l rfl).seq (hb803.n))
  replace o790 := o790.chg C804 (is_nl rfl) (is_nl rfl)
  refine l_op (want_y rfl rfl rfl q62_c15) ?_
  refine o_call (v := Value.bool (decide (((mergeR g v e).2.1) = ((mergeR g v e).2.1)))) (e_call (vals := [v716, v789]) Try.func38 bd38_wc nm38_wc rfl) (rInts_ok w802 ((mergeR g v e).2.1) v716 (o717).ro ((mergeR g v e).2.1) v789 (o790.flat).ro) ?_
  intro w805 hb806
  replace hb806 := chg_below hb806 g796
  refine l_val (v := Value.bool (decide (((mergeR g v e).2.1) = ((mergeR g v e).2.1)))) rfl (e_pick_t rfl q62_c15 rfl) ?_
  refine l_val (v := Value.bool (decide (((mergeR g v e).2.1) = ((mergeR g v e).2.1)))) rfl (e_assign rfl) ?_
  refine l_nil ?_
  refine run_seq ?_
  clear o717
  clear o788
  clear o790
  clear bx800
  refine run_region rfl ?_
  replace bx727 := (bx727.chg hb803 (not_no _)).chg hb806 (not_no _)
  refine l_val (v := Value.agg (List.toArray [Value.int .i64 (((mergeR g v e).1).1), v714])) rfl (e_load_bxN (ds := [Value.int .i64 (((mergeR g v e).1).1), v714]) tp24_wc rfl bx727 rfl rfl) ?_
  refine l_op rfl ?_
  refine o_inline (e_call (vals := [Value.agg (List.toArray [Value.int .i64 (((mergeR g v e).1).1), v714])]) Try.func64 bd64_wc nm64_wc rfl) ?_
  refine calls_of_run Try.func64 rfl (Nat.le_of_ble_eq_true rfl) ?_
  replace o715 := (o715.chg hb803 (not_no _) (not_no _)).chg hb806 (not_no _) (not_no _)
  have hsp_c17 : (List.length (((mergeR g v e).1).2) : Int) ≤ 10000 := by first | exact split_few (by omega) | exact bare_few (by omega) | exact sub_few (by omega) | exact part_few (by omega) | exact merge_few (by omega)
  refine run_seq ?_
  refine run_region rfl ?_
  refine l_op rfl ?_
  refine o_box g796 (is 167) (167, 0) rfl rfl ?_
  intro g810 w807 b809 ch808 bx811
  replace bx811 : Bx g810 (is 167) w807 b809 [Value.int .i64 (((mergeR g v e).1).1), v714] := bx811
  refine l_nil ?_
  refine run_seq ?_
  refine run_seq ?_
  refine run_region rfl ?_
  refine l_val (v := Value.pointer (some ⟨b809, 1, none⟩)) rfl (e_fieldAddr Try.underlying24 rfl rfl rfl rfl) ?_
  refine l_val (v := v714) rfl (e_load_bx1 tp22_wc rfl bx811 rfl) ?_
  replace o715 := o715.chg ch808 (not_no _) (not_no _)
  have len812 := (o715.flat).small
  refine l_val (v := Value.int .i64 (List.length (((mergeR g v e).1).2) : Int)) rfl (e_len Try.underlying22 rfl o715.flat) ?_
  refine l_val (v := Value.pointer (some ⟨b809, 1, none⟩)) rfl (e_fieldAddr Try.underlying24 rfl rfl rfl rfl) ?_
  refine l_val (v := v714) rfl (e_load_bx1 tp22_wc rfl bx811 rfl) ?_
  have cap813 := Sl.cap o715.flat
  refine l_val (v := Value.int .i64 (sCap v714 : Int)) rfl (e_cap Try.underlying22 rfl o715.flat) ?_
  refine l_op rfl ?_
  refine o_call (v := Value.int .i64 (min (sCap v714 : Int) ((List.length (((mergeR g v e).1).2) : Int) + 2000))) (e_call (vals := [Value.int .i64 (List.length (((mergeR g v e).1).2) : Int), Value.int .i64 (sCap v714 : Int)]) Try.func70 bd70_wc nm70_wc rfl) (Room_ok w807 (List.length (((mergeR g v e).1).2) : Int) (sCap v714 : Int) (by omega)) ?_
  intro w814 hb815
  replace hb815 := chg_below hb815 g810
  refine l_val (v := Value.int .i64 (min (sCap v714 : Int) ((List.length (((mergeR g v e).1).2) : Int) + 2000))) rfl (e_assign rfl) ?_
  refine l_nil ?_
  refine run_block ?_
  refine run_loop (σ := Value × (List ((Int) × (Int))) × Cmap) (fun ⟨g_1_c17_v, g_1_c17, gq⟩ f w => Base w0 gq w ∧ f 1 = Value.pointer (some ⟨b809, 0, none⟩) ∧ f 2 = Value.int .i64 (min (sCap v714 : Int) ((List.length (((mergeR g v e).1).2) : Int) + 2000)) ∧ Sl gq (is 0) w g_v g.2 ∧ Sl gq (is 0) w keep_v keep ∧ Sl gq (is 0) w nodes_v nodes ∧ Bx gq (is 1) w b3 [Value.int .i64 g.1, g_v] ∧ Ow gq (is 2) (is 2) w (upV v20) (g.2 ++ [((-7 : Int), (7 : Int))]) ∧ Sl gq (is 2) w v20 g.2 ∧ Bx gq (is 3) w b27 [Value.int .i64 g.1, v20] ∧ Bx gq (is 4) w b40 [b_0_c16_v, Value.int .i64 b_1_c16] ∧ Bx gq (is 161) w b722 [Value.int .i64 (((mergeR g v e).1).1), v714] ∧ Nst gq 17 w b_0_c16_v b_0_c16 ∧ Bx gq (is 167) w b809 [Value.int .i64 (((mergeR g v e).1).1), g_1_c17_v] ∧ Ow gq (is 159) (is 159) w g_1_c17_v g_1_c17 ∧ ((List.length g_1_c17 : Int) ≤ 20000)) (fun ⟨g_1_c17_v, g_1_c17, gq⟩ => Int.toNat ((min (sCap v714 : Int) ((List.length (((mergeR g v e).1).2) : Int) + 2000)) - (List.length g_1_c17 : Int))) (v714, ((mergeR g v e).1).2, g810) ?_ ?_
  have C816 : Chg (inl [166]) _ _ _ _ := (ch792.n).seq ((ch794.n).seq ((ch799.l rfl).seq ((hb803.n).seq ((hb806.n).seq ((ch808.n).seq (hb815.n))))))
  replace hbase := hbase.chg C816 (is_nl rfl)
  replace r_g_v := r_g_v.chg C816 (is_nl rfl)
  replace r_keep_v := r_keep_v.chg C816 (is_nl rfl)
  replace r_nodes_v := r_nodes_v.chg C816 (is_nl rfl)
  replace bx5 := bx5.chg C816 (is_nl rfl)
  replace o21 := o21.chg C816 (is_nl rfl) (is_nl rfl)
  replace r24 := r24.chg C816 (is_nl rfl)
  replace bx32 := bx32.chg C816 (is_nl rfl)
  replace bx42 := bx42.chg C816 (is_nl rfl)
  replace bx727 := (bx727.chg ch808 (not_no _)).chg hb815 (not_no _)
  replace o_b_0_c16 := o_b_0_c16.chg C816 (is_nl rfl)
  replace bx811 := bx811.chg hb815 (not_no _)
  replace o715 := o715.chg hb815 (not_no _) (not_no _)
  · exact ⟨hbase, rfl, rfl, r_g_v, r_keep_v, r_nodes_v, bx5, o21, r24, bx32, bx42, bx727, o_b_0_c16, bx811, o715, by omega⟩
  clear r_g_v
  clear r_keep_v
  clear r_nodes_v
  clear bx5
  clear o21
  clear r24
  clear bx32
  clear bx42
  clear o715
  clear bx727
  clear o_b_0_c16
  clear bx811
  clear hbase
  rintro ⟨g_1_c17_v, g_1_c17, g819⟩ f817 w818 ⟨hbase, zs1, zs2, r_g_v, r_keep_v, r_nodes_v, bx5, o21, r24, bx32, bx42, bx727, o_b_0_c16, bx811, o_g_1_c17, hg_c17⟩ back2_c17
  refine run_seq ?_
  refine run_seq ?_
  refine run_region rfl ?_
  refine l_val (v := Value.pointer (some ⟨b809, 1, none⟩)) rfl (e_fieldAddr Try.underlying24 rfl rfl (by exact zs1) rfl) ?_
  refine l_val (v := g_1_c17_v) rfl (e_load_bx1 tp22_wc rfl bx811 rfl) ?_
  have len820 := (o_g_1_c17.flat).small
  refine l_val (v := Value.int .i64 (List.length g_1_c17 : Int)) rfl (e_len Try.underlying22 rfl o_g_1_c17.flat) ?_
  refine l_val (v := Value.int .i64 (min (sCap v714 : Int) ((List.length (((mergeR g v e).1).2) : Int) + 2000))) rfl (e_move (by exact zs2)) ?_
  refine l_val (v := Value.bool (decide ((List.length g_1_c17 : Int) < (min (sCap v714 : Int) ((List.length (((mergeR g v e).1).2) : Int) + 2000))))) rfl (e_lss (m := (List.length g_1_c17 : Int)) (n := min (sCap v714 : Int) ((List.length (((mergeR g v e).1).2) : Int) + 2000)) rfl rfl) ?_
  refine l_nil ?_
  by_cases p2_c17 : (List.length g_1_c17 : Int) < (min (sCap v714 : Int) ((List.length (((mergeR g v e).1).2) : Int) + 2000))
  ·
   refine run_cond_t rfl (decide_eq_true p2_c17) ?_
   refine run_skip ?_
   refine run_block ?_
   refine run_region rfl ?_
   refine l_val (v := Value.pointer (some ⟨b809, 1, none⟩)) rfl (e_fieldAddr Try.underlying24 rfl rfl (by exact zs1) rfl) ?_
   refine l_val (v := g_1_c17_v) rfl (e_load_bx1 tp22_wc rfl bx811 rfl) ?_
   refine l_val (v := Value.agg (List.toArray [Value.int .i64 0, Value.int .i64 0])) rfl (e_build (vs := []) rfl (by kernel_rfl)) ?_
   refine l_op rfl ?_
   refine o_buildSlice (α := (Int) × (Int)) g819 (is 168) (is 168) (168, 0) rfl [(0, 0)] Try.underlying22 tp71_wc (by decide) (by decide) (vs := [(0, Value.agg (List.toArray [Value.int .i64 0, Value.int .i64 0]))]) rfl rfl (.cons rfl .nil) ?_
   intro g821 w822 v823 ch824 o825
   refine l_op rfl ?_
   replace o_g_1_c17 := o_g_1_c17.chg ch824 (not_no _) (not_no _)
   refine o_append (α := (Int) × (Int)) (xs := g_1_c17) (ys := ([(0, 0)])) g821 (J := is 159) (S := is 159) (159, 0) rfl Try.underlying22 tp71_wc (by decide) rfl rfl rfl o_g_1_c17 o825.flat (by decide) (by first | omega | (simp; done) | (simp; omega)) ?_
   intro g826 w827 v828 ch829 o830
   clear o_g_1_c17
   refine l_val (v := Value.pointer (some ⟨b809, 1, none⟩)) rfl (e_fieldAddr Try.underlying24 rfl rfl (by exact zs1) rfl) ?_
   refine l_op rfl ?_
   replace bx811 := (bx811.chg ch824 (not_no _)).chg ch829 (is_ne rfl)
   refine o_store_bx1 (cs' := [Value.int .i64 (((mergeR g v e).1).1), v828]) tp22_wc rfl rfl bx811 (sl_cells1 o830.flat) (Nat.le_of_ble_eq_true rfl) (sl_one o830.flat) rfl ?_
   intro w831 ch832 bx833
   clear bx811
   refine l_nil ?_
   refine run_inBlock ?_
   have C834 : Chg (inl [159, 167]) _ _ _ _ := (ch824.n).seq ((ch829.l rfl).seq (ch832.l rfl))
   replace hbase := hbase.chg C834 (is_nl rfl)
   replace r_g_v := r_g_v.chg C834 (is_nl rfl)
   replace r_keep_v := r_keep_v.chg C834 (is_nl rfl)
   replace r_nodes_v := r_nodes_v.chg C834 (is_nl rfl)
   replace bx5 := bx5.chg C834 (is_nl rfl)
   replace o21 := o21.chg C834 (is_nl rfl) (is_nl rfl)
   replace r24 := r24.chg C834 (is_nl rfl)
   replace bx32 := bx32.chg C834 (is_nl rfl)
   replace bx42 := bx42.chg C834 (is_nl rfl)
   replace bx727 := bx727.chg C834 (is_nl rfl)
   replace o_b_0_c16 := o_b_0_c16.chg C834 (is_nl rfl)
   replace o830 := o830.chg ch832 (is_ne rfl) (is_ne rfl)
   refine back2_c17 (v828, (g_1_c17 ++ [(0, 0)]), g826) _ _ ⟨hbase, (by exact zs1), (by exact zs2), r_g_v, r_keep_v, r_nodes_v, bx5, o21, r24, bx32, bx42, bx727, o_b_0_c16, bx833, o830, ?_⟩ ?_
   · show (List.length (g_1_c17 ++ [(0, 0)]) : Int) ≤ 20000
     first | (simp only [List.length_append, List.length_cons, List.length_nil]; omega) | (simp; omega)
   · show Int.toNat ((min (sCap v714 : Int) ((List.length (((mergeR g v e).1).2) : Int) + 2000)) - (List.length (g_1_c17 ++ [(0, 0)]) : Int)) < Int.toNat ((min (sCap v714 : Int) ((List.length (((mergeR g v e).1).2) : Int) + 2000)) - (List.length g_1_c17 : Int))
     first | omega | (simp only [List.length_append, List.length_cons, List.length_nil]; omega)
  refine run_cond_f rfl (decide_eq_false p2_c17) ?_
  refine run_exit rfl ?_
  refine run_seq ?_
  refine run_region rfl ?_
  refine l_val (v := Value.int .i64 0) rfl (e_assign rfl) ?_
  refine l_nil ?_
  refine run_block ?_
  refine run_loop (σ := Nat × (List ((Int) × (Int))) × Cmap) (fun ⟨i_c17, gs_c17, gq⟩ f w => Base w0 gq w ∧ f 1 = Value.pointer (some ⟨b809, 0, none⟩) ∧ f 3 = Value.int .i64 (i_c17 : Int) ∧ Sl gq (is 0) w g_v g.2 ∧ Sl gq (is 0) w keep_v keep ∧ Sl gq (is 0) w nodes_v nodes ∧ Bx gq (is 1) w b3 [Value.int .i64 g.1, g_v] ∧ Ow gq (is 2) (is 2) w (upV v20) (g.2 ++ [((-7 : Int), (7 : Int))]) ∧ Sl gq (is 2) w v20 g.2 ∧ Bx gq (is 3) w b27 [Value.int .i64 g.1, v20] ∧ Bx gq (is 4) w b40 [b_0_c16_v, Value.int .i64 b_1_c16] ∧ Bx gq (is 161) w b722 [Value.int .i64 (((mergeR g v e).1).1), v714] ∧ Nst gq 17 w b_0_c16_v b_0_c16 ∧ Bx gq (is 167) w b809 [Value.int .i64 (((mergeR g v e).1).1), g_1_c17_v] ∧ Ow gq (is 159) (is 159) w g_1_c17_v gs_c17 ∧ ((i_c17 : Int) ≤ List.length gs_c17 ∧ (List.length gs_c17 : Int) ≤ 20000)) (fun ⟨i_c17, gs_c17, gq⟩ => List.length gs_c17 - i_c17) (0, g_1_c17, g819) ?_ ?_
  · exact ⟨hbase, (by exact zs1), rfl, r_g_v, r_keep_v, r_nodes_v, bx5, o21, r24, bx32, bx42, bx727, o_b_0_c16, bx811, o_g_1_c17, by exact ⟨by simp, by omega⟩⟩
  clear r_g_v
  clear r_keep_v
  clear r_nodes_v
  clear bx5
  clear o21
  clear r24
  clear bx32
  clear bx42
  clear bx727
  clear o_b_0_c16
  clear bx811
  clear o_g_1_c17
  clear hbase
  rintro ⟨i_c17, gs_c17, g837⟩ f835 w836 ⟨hbase, zs1, zs3, r_g_v, r_keep_v, r_nodes_v, bx5, o21, r24, bx32, bx42, bx727, o_b_0_c16, bx811, o_g_1_c17, hh_c17⟩ back5_c17
  refine run_seq ?_
  refine run_seq ?_
  refine run_region rfl ?_
  refine l_val (v := Value.int .i64 (i_c17 : Int)) rfl (e_move (by exact zs3)) ?_
  refine l_val (v := Value.pointer (some ⟨b809, 1, none⟩)) rfl (e_fieldAddr Try.underlying24 rfl rfl (by exact zs1) rfl) ?_
  refine l_val (v := g_1_c17_v) rfl (e_load_bx1 tp22_wc rfl bx811 rfl) ?_
  have len838 := (o_g_1_c17.flat).small
  refine l_val (v := Value.int .i64 (List.length gs_c17 : Int)) rfl (e_len Try.underlying22 rfl o_g_1_c17.flat) ?_
  refine l_val (v := Value.bool (decide ((i_c17 : Int) < (List.length gs_c17 : Int)))) rfl (e_lss (m := (i_c17 : Int)) (n := (List.length gs_c17 : Int)) rfl rfl) ?_
  refine l_nil ?_
  by_cases p5_c17 : (i_c17 : Int) < (List.length gs_c17 : Int)
  ·
   refine run_cond_t rfl (decide_eq_true p5_c17) ?_
   refine run_skip ?_
   refine run_seq ?_
   refine run_block ?_
   refine run_region rfl ?_
   refine l_val (v := Value.pointer (some ⟨b809, 1, none⟩)) rfl (e_fieldAddr Try.underlying24 rfl rfl (by exact zs1) rfl) ?_
   refine l_val (v := g_1_c17_v) rfl (e_load_bx1 tp22_wc rfl bx811 rfl) ?_
   refine l_val (v := Value.int .i64 (i_c17 : Int)) rfl (e_move (by exact zs3)) ?_
   refine l_val (v := Value.agg (List.toArray [Value.int .i64 (-9), Value.int .i64 (-9)])) rfl (e_build (vs := [(0, Value.int .i64 (-9)), (1, Value.int .i64 (-9))]) rfl (by kernel_rfl)) ?_
   refine l_val (v := Value.pointer (some (eAddr g_1_c17_v 2 (Int.toNat (i_c17 : Int))))) rfl (e_indexAddr (α := (Int) × (Int)) (xs := gs_c17) (v := g_1_c17_v) (i := (i_c17 : Int)) Try.underlying22 rfl rfl o_g_1_c17.flat rfl (by omega) (by omega)) ?_
   refine l_op rfl ?_
   refine o_store_el (i := (i_c17 : Int)) (-9, -9) tp71_wc rfl rfl o_g_1_c17 (by omega) (by omega) rfl ?_
   intro w839 ch840 bx841
   clear o_g_1_c17
   refine l_nil ?_
   refine run_inBlock ?_
   refine run_region rfl ?_
   refine l_val (v := Value.int .i64 (i_c17 : Int)) rfl (e_move (by exact zs3)) ?_
   refine l_val (v := Value.int .i64 ((i_c17 : Int) + 1)) rfl (e_add (m := (i_c17 : Int)) (n := 1) rfl rfl (by omega)) ?_
   refine l_val (v := Value.int .i64 ((i_c17 : Int) + 1)) rfl (e_assign rfl) ?_
   refine l_nil ?_
   replace hbase := hbase.chg ch840 (is_ne rfl)
   replace r_g_v := r_g_v.chg ch840 (is_ne rfl)
   replace r_keep_v := r_keep_v.chg ch840 (is_ne rfl)
   replace r_nodes_v := r_nodes_v.chg ch840 (is_ne rfl)
   replace bx5 := bx5.chg ch840 (is_ne rfl)
   replace o21 := o21.chg ch840 (is_ne rfl) (is_ne rfl)
   replace r24 := r24.chg ch840 (is_ne rfl)
   replace bx32 := bx32.chg ch840 (is_ne rfl)
   replace bx42 := bx42.chg ch840 (is_ne rfl)
   replace bx727 := bx727.chg ch840 (is_ne rfl)
   replace o_b_0_c16 := o_b_0_c16.chg ch840 (is_ne rfl)
   replace bx811 := bx811.chg ch840 (is_ne rfl)
   refine back5_c17 (i_c17 + 1, (List.set gs_c17 (Int.toNat (i_c17 : Int)) (-9, -9)), g837) _ _ ⟨hbase, (by exact zs1), rfl, r_g_v, r_keep_v, r_nodes_v, bx5, o21, r24, bx32, bx42, bx727, o_b_0_c16, bx811, bx841, ?_⟩ ?_
   · show ((i_c17 + 1) : Int) ≤ List.length (List.set gs_c17 (Int.toNat (i_c17 : Int)) (-9, -9)) ∧ (List.length (List.set gs_c17 (Int.toNat (i_c17 : Int)) (-9, -9)) : Int) ≤ 20000
     refine ⟨by simp; omega, by simp; omega⟩
   · show List.length (List.set gs_c17 (Int.toNat (i_c17 : Int)) (-9, -9)) - (i_c17 + 1) < List.length gs_c17 - i_c17
     simp only [List.length_set]; omega
  refine run_cond_f rfl (decide_eq_false p5_c17) ?_
  refine run_exit rfl ?_
  refine run_end (vs := []) Try.func64 .nil ?_
  refine ⟨Value.tuple (List.toArray []), rfl, ?_⟩
  refine l_nil ?_
  refine run_seq ?_
  clear bx727
  clear bx811
  clear o_g_1_c17
  refine run_region rfl ?_
  refine l_val (v := Value.bool (decide (((mergeR g v e).2.1) = ((mergeR g v e).2.1)))) rfl (e_move rfl) ?_
  refine l_val (v := Value.bool (decide (((mergeR g v e).2.1) = ((mergeR g v e).2.1)))) rfl (e_assign rfl) ?_
  refine l_nil ?_
  refine run_ret (vs := [Value.bool (decide (((mergeR g v e).2.1) = ((mergeR g v e).2.1)))]) Try.func28 (.tmp rfl .nil) ?_
  have rt842 : (decide (((mergeR g v e).2.1) = ((mergeR g v e).2.1))) = true := by
    first | rfl | exact decide_eq_true rfl | (rw [hs_c15]; done) | (rw [hs_c15]; exact decide_eq_true rfl) | (rw [hs_c15]; rfl)
  refine ⟨(b_0_c16_v, b_0_c16, b_1_c16, g837), (congrArg (fun b => Ending.returned (Value.bool b)) rt842), hbase, r_g_v, r_keep_v, r_nodes_v, bx5, o21, r24, bx32, bx42, o_b_0_c16, ?_⟩
  show KInv b_0_c16 b_1_c16
  first | assumption | exact KInv.nil | exact (KInv.add (by first | assumption | exact KInv.nil) (by omega) (by omega) (by omega))
 have hn_c15 : ¬ MayP g := fun h => p3_c15 (decide_eq_true h)
 have hs_c15 := mergeR_no (u := v) (v := e) hn_c15
 refine run_cond_t rfl (congrArg Bool.not (Bool.eq_false_iff.2 p3_c15)) ?_
 refine run_seq ?_
 clear bx710
 refine run_region rfl ?_
 refine l_val (v := Value.int .i64 ((mergeR g v e).2.2)) rfl (e_move rfl) ?_
 refine l_val (v := Value.bool (decide (((mergeR g v e).2.2) = 1))) rfl (e_eql (m := (mergeR g v e).2.2) (n := 1) rfl rfl) ?_
 refine l_val (v := Value.bool (decide (((mergeR g v e).2.2) = 1))) rfl (e_move rfl) ?_
 have q36_c15 : ((mergeR g v e).2.2) = 1 := by first | rfl | exact decide_eq_true rfl | (rw [hs_c15]; done) | (rw [hs_c15]; exact decide_eq_true rfl) | (rw [hs_c15]; rfl)
 refine l_val (v := Value.pointer (some ⟨b722, 0, none⟩)) (want_y rfl rfl rfl (decide_eq_true q36_c15)) (e_fieldAddr Try.underlying24 rfl rfl rfl rfl) ?_
 refine l_val (v := Value.int .i64 (((mergeR g v e).1).1)) (want_y rfl rfl rfl (decide_eq_true q36_c15)) (e_load_bx1 tp3_wc rfl bx727 rfl) ?_
 refine l_val (v := Value.bool (decide ((((mergeR g v e).1).1) = 0))) (want_y rfl rfl rfl (decide_eq_true q36_c15)) (e_eql (m := ((mergeR g v e).1).1) (n := 0) rfl rfl) ?_
 refine l_val (v := Value.bool (decide ((((mergeR g v e).1).1) = 0))) rfl (e_pick_t rfl (decide_eq_true q36_c15) rfl) ?_
 refine l_val (v := Value.bool (decide ((((mergeR g v e).1).1) = 0))) rfl (e_move rfl) ?_
 have q41_c15 : (((mergeR g v e).1).1) = 0 := by first | rfl | exact decide_eq_true rfl | (rw [hs_c15]; done) | (rw [hs_c15]; exact decide_eq_true rfl) | (rw [hs_c15]; rfl)
 refine l_val (v := v716) (want_y rfl rfl rfl (decide_eq_true q41_c15)) (e_move rfl) ?_
 have len843 := (o717).small
 refine l_val (v := Value.int .i64 (List.length ((mergeR g v e).2.1) : Int)) (want_y rfl rfl rfl (decide_eq_true q41_c15)) (e_len Try.underlying35 rfl o717) ?_
 refine l_val (v := Value.bool (decide ((List.length ((mergeR g v e).2.1) : Int) = 0))) (want_y rfl rfl rfl (decide_eq_true q41_c15)) (e_eql (m := (List.length ((mergeR g v e).2.1) : Int)) (n := 0) rfl rfl) ?_
 refine l_val (v := Value.bool (decide ((List.length ((mergeR g v e).2.1) : Int) = 0))) rfl (e_pick_t rfl (decide_eq_true q41_c15) rfl) ?_
 refine l_val (v := Value.bool (decide ((List.length ((mergeR g v e).2.1) : Int) = 0))) rfl (e_assign rfl) ?_
 refine l_nil ?_
 refine run_ret (vs := [Value.bool (decide ((List.length ((mergeR g v e).2.1) : Int) = 0))]) Try.func28 (.tmp rfl .nil) ?_
 have rt844 : decide ((List.length ((mergeR g v e).2.1) : Int) = 0) = true := by
   first | rfl | exact decide_eq_true rfl | (rw [hs_c15]; done) | (rw [hs_c15]; exact decide_eq_true rfl) | (rw [hs_c15]; rfl)
 refine ⟨(b_0_c16_v, b_0_c16, b_1_c16, g783), (congrArg (fun b => Ending.returned (Value.bool b)) rt844), hbase, r_g_v, r_keep_v, r_nodes_v, bx5, o21, r24, bx32, bx42, o_b_0_c16, ?_⟩
 show KInv b_0_c16 b_1_c16
 first | assumption | exact KInv.nil | exact (KInv.add (by first | assumption | exact KInv.nil) (by omega) (by omega) (by omega))
end TL
