import Derived.Test.YtgaefcjhggdkcaaTlGenA
import Derived.Test.YtgaefcjhggdkcaaTlGenB
import Derived.Test.YtgaefcjhggdkcaaTlGenC
import Derived.Test.YtgaefcjhggdkcaaTlGenD
import Derived.Test.YtgaefcjhggdkcaaTlGenF
import Derived.Test.YtgaefcjhggdkcaaTlGenR
import Derived.Test.YtgaefcjhggdkcaaTlInts
import Derived.Test.YtgaefcjhggdkcaaProg
import Derived.Test.YtgaefcjhggdkcaaTlNet2
import Derived.Test.YtgaefcjhggdkcaaTlEq
import Derived.Test.YtgaefcjhggdkcaaTlHold
import Derived.Test.YtgaefcjhggdkcaaTlDraw
import Derived.Test.YtgaefcjhggdkcaaTlMap
set_option linter.all false
set_option maxRecDepth 20000
namespace TL
open Go Go.Proofs
theorem mixed_wa : Try.prog.follows .mixedOrders = true := by kernel_rfl
theorem tp3_wa : Tp Try.prog 3 false 1 8 (.int .i64 0) := Tp.of (by kernel_rfl)
theorem tp4_wa : Tp Try.prog 4 false 1 1 (.bool false) := Tp.of (by kernel_rfl)
theorem tp22_wa : Tp Try.prog 22 false 1 24 (.slice none 0 0) := Tp.of (by kernel_rfl)
theorem tp24_wa : Tp Try.prog 24 true 2 32 (.agg #[.int .i64 0, .slice none 0 0]) := Tp.of (by kernel_rfl)
theorem tp25_wa : Tp Try.prog 25 false 1 24 (.slice none 0 0) := Tp.of (by kernel_rfl)
theorem tp35_wa : Tp Try.prog 35 false 1 24 (.slice none 0 0) := Tp.of (by kernel_rfl)
theorem tp71_wa : Tp Try.prog 71 true 2 16 (.agg #[.int .i64 0, .int .i64 0]) := Tp.of (by kernel_rfl)
theorem tp78_wa : Tp Try.prog 78 true 5 40 (.agg #[.int .i64 0, .int .i64 0, .int .i64 0, .int .i64 0, .bool false]) := Tp.of (by kernel_rfl)
theorem bd37_wa : Try.f37.body.isNone = false := rfl
theorem nm37_wa : (Try.f37.name == "runtime.NumGoroutine") = false := by decide +kernel
theorem bd38_wa : Try.f38.body.isNone = false := rfl
theorem nm38_wa : (Try.f38.name == "runtime.NumGoroutine") = false := by decide +kernel
theorem bd51_wa : Try.f51.body.isNone = false := rfl
theorem nm51_wa : (Try.f51.name == "runtime.NumGoroutine") = false := by decide +kernel
theorem bd52_wa : Try.f52.body.isNone = false := rfl
theorem nm52_wa : (Try.f52.name == "runtime.NumGoroutine") = false := by decide +kernel
theorem bd55_wa : Try.f55.body.isNone = false := rfl
theorem nm55_wa : (Try.f55.name == "runtime.NumGoroutine") = false := by decide +kernel
theorem bd56_wa : Try.f56.body.isNone = false := rfl
theorem nm56_wa : (Try.f56.name == "runtime.NumGoroutine") = false := by decide +kernel
theorem bd57_wa : Try.f57.body.isNone = false := rfl
theorem nm57_wa : (Try.f57.name == "runtime.NumGoroutine") = false := by decide +kernel
theorem bd58_wa : Try.f58.body.isNone = false := rfl
theorem nm58_wa : (Try.f58.name == "runtime.NumGoroutine") = false := by decide +kernel
theorem bd59_wa : Try.f59.body.isNone = false := rfl
theorem nm59_wa : (Try.f59.name == "runtime.NumGoroutine") = false := by decide +kernel
theorem bd60_wa : Try.f60.body.isNone = false := rfl
theorem nm60_wa : (Try.f60.name == "runtime.NumGoroutine") = false := by decide +kernel
theorem bd61_wa : Try.f61.body.isNone = false := rfl
theorem nm61_wa : (Try.f61.name == "runtime.NumGoroutine") = false := by decide +kernel
theorem bd62_wa : Try.f62.body.isNone = false := rfl
theorem nm62_wa : (Try.f62.name == "runtime.NumGoroutine") = false := by decide +kernel
theorem bd63_wa : Try.f63.body.isNone = false := rfl
theorem nm63_wa : (Try.f63.name == "runtime.NumGoroutine") = false := by decide +kernel
theorem bd64_wa : Try.f64.body.isNone = false := rfl
theorem nm64_wa : (Try.f64.name == "runtime.NumGoroutine") = false := by decide +kernel
theorem bd70_wa : Try.f70.body.isNone = false := rfl
theorem nm70_wa : (Try.f70.name == "runtime.NumGoroutine") = false := by decide +kernel

set_option maxHeartbeats 16000000 in
theorem NetAll_ok_asked {g : (Int) × (List ((Int) × (Int)))} {v20 : Value} {g_v : Value} {v : Int} {e : Int} {b40 : Nat} {w0 : World} {keep_v : Value} {keep : List Int} {nodes_v : Value} {nodes : List Int} {b3 : Nat} {b27 : Nat} {g50 : Cmap} {w49 : World} {b_0_v : Value} {b_1 : Int} {b_0 : List (List Int)} (hbase : Base w0 g50 w49) (r_g_v : Sl g50 (is 0) w49 g_v g.2) (r_keep_v : Sl g50 (is 0) w49 keep_v keep) (r_nodes_v : Sl g50 (is 0) w49 nodes_v nodes) (bx5 : Bx g50 (is 1) w49 b3 [Value.int .i64 g.1, g_v]) (o21 : Ow g50 (is 2) (is 2) w49 (upV v20) (g.2 ++ [((-7 : Int), (7 : Int))])) (r24 : Sl g50 (is 2) w49 v20 g.2) (bx32 : Bx g50 (is 3) w49 b27 [Value.int .i64 g.1, v20]) (bx42 : Bx g50 (is 4) w49 b40 [b_0_v, Value.int .i64 b_1]) (o_b_0 : Nst g50 17 w49 b_0_v b_0) (hl300 : g.2.length ≤ 300) (hkl : keep.length ≤ 400) (hnl : nodes.length ≤ 400) (hk : KInv b_0 b_1) :
    Calls Try.prog 26 (List.toArray [Value.agg (List.toArray [Value.int .i64 g.1, v20]), Value.agg (List.toArray [Value.int .i64 g.1, g_v]), Value.bool (mayB g), Value.int .i64 v, Value.int .i64 e, Value.pointer (some ⟨b40, 0, none⟩)]) w49 (fun ee w => ∃ xx : Value × (List (List Int)) × Int × Cmap, ee = .returned ((fun ⟨b_0_c7_v, b_0_c7, b_1_c7, gq⟩ => Value.bool true) xx) ∧ (fun (⟨b_0_c7_v, b_0_c7, b_1_c7, gq⟩ : Value × (List (List Int)) × Int × Cmap) (w : World) => Base w0 gq w ∧ Sl gq (is 0) w g_v g.2 ∧ Sl gq (is 0) w keep_v keep ∧ Sl gq (is 0) w nodes_v nodes ∧ Bx gq (is 1) w b3 [Value.int .i64 g.1, g_v] ∧ Ow gq (is 2) (is 2) w (upV v20) (g.2 ++ [((-7 : Int), (7 : Int))]) ∧ Sl gq (is 2) w v20 g.2 ∧ Bx gq (is 3) w b27 [Value.int .i64 g.1, v20] ∧ Bx gq (is 4) w b40 [b_0_c7_v, Value.int .i64 b_1_c7] ∧ Nst gq 17 w b_0_c7_v b_0_c7 ∧ (KInv b_0_c7 b_1_c7)) xx w) := by
 refine calls_of_run Try.func26 rfl (Nat.le_of_ble_eq_true rfl) ?_
 obtain ⟨hka, hkb, hkc⟩ := hk.len
 refine run_seq ?_
 refine run_region rfl ?_
 refine l_op rfl ?_
 refine o_box g50 (is 112) (112, 0) rfl rfl ?_
 intro g54 w51 b53 ch52 bx55
 replace bx55 : Bx g54 (is 112) w51 b53 [Value.int .i64 g.1, v20] := bx55
 refine l_op rfl ?_
 refine o_box g54 (is 113) (113, 0) rfl rfl ?_
 intro g59 w56 b58 ch57 bx60
 replace bx60 : Bx g59 (is 113) w56 b58 [Value.int .i64 g.1, g_v] := bx60
 refine l_val (v := Value.bool false) rfl (e_assign rfl) ?_
 refine l_nil ?_
 refine run_seq ?_
 refine run_region rfl ?_
 replace bx55 := bx55.chg ch57 (not_no _)
 refine l_val (v := Value.agg (List.toArray [Value.int .i64 g.1, v20])) rfl (e_load_bxN (ds := [Value.int .i64 g.1, v20]) tp24_wa rfl bx55 rfl rfl) ?_
 refine l_val (v := Value.int .i64 v) rfl (e_move rfl) ?_
 replace r24 := (r24.chg ch52 (not_no _)).chg ch57 (not_no _)
 refine l_op rfl ?_
 refine o_callx (e_call (vals := [Value.agg (List.toArray [Value.int .i64 g.1, v20]), Value.int .i64 v]) Try.func51 bd51_wa nm51_wa rfl) (Out_ok w56 g v20 (r24).ro v) ?_
 rintro ⟨d62, v64⟩ w61 ⟨fr63, o65⟩
 obtain ⟨g66, hg66⟩ : ∃ q, q = glue w56.heap.size g59 d62 (fun n => if n = 1 then 114 else 0) := ⟨_, rfl⟩
 have ch67 := chg_glue fr63.below g59 d62 (fun n => if n = 1 then 114 else 0)
 rw [← hg66] at ch67
 replace o65 := o65.glue (γ := g59) (ren := (fun n => if n = 1 then 114 else 0)) (k := 114) fr63.col rfl rfl
 rw [← hg66] at o65
 clear hg66
 refine l_val (v := Value.tuple (List.toArray [v64, Value.int .i64 ((outR g v).2)])) rfl (e_move rfl) ?_
 refine l_val (v := v64) rfl (e_extract rfl rfl) ?_
 refine l_val (v := Value.int .i64 ((outR g v).2)) rfl (e_extract rfl rfl) ?_
 refine l_val (v := v64) rfl (e_assign rfl) ?_
 refine l_val (v := Value.int .i64 ((outR g v).2)) rfl (e_assign rfl) ?_
 refine l_nil ?_
 refine run_seq ?_
 refine run_region rfl ?_
 replace bx55 := bx55.chg ch67 (not_no _)
 refine l_val (v := Value.agg (List.toArray [Value.int .i64 g.1, v20])) rfl (e_load_bxN (ds := [Value.int .i64 g.1, v20]) tp24_wa rfl bx55 rfl rfl) ?_
 replace r24 := r24.chg ch67 (not_no _)
 refine l_op rfl ?_
 refine o_callx (e_call (vals := [Value.agg (List.toArray [Value.int .i64 g.1, v20])]) Try.func55 bd55_wa nm55_wa rfl) (Degrees_ok w61 g v20 (r24).ro) ?_
 rintro ⟨d69, v71⟩ w68 ⟨fr70, o72⟩
 obtain ⟨g73, hg73⟩ : ∃ q, q = glue w61.heap.size g66 d69 (fun n => if n = 1 then 115 else 0) := ⟨_, rfl⟩
 have ch74 := chg_glue fr70.below g66 d69 (fun n => if n = 1 then 115 else 0)
 rw [← hg73] at ch74
 replace o72 := o72.glue (γ := g66) (ren := (fun n => if n = 1 then 115 else 0)) (k := 115) fr70.col rfl rfl
 rw [← hg73] at o72
 clear hg73
 refine l_val (v := Value.tuple (List.toArray [v71, Value.int .i64 ((degR g).2)])) rfl (e_move rfl) ?_
 refine l_val (v := v71) rfl (e_extract rfl rfl) ?_
 refine l_val (v := Value.int .i64 ((degR g).2)) rfl (e_extract rfl rfl) ?_
 refine l_val (v := v71) rfl (e_assign rfl) ?_
 refine l_val (v := Value.int .i64 ((degR g).2)) rfl (e_assign rfl) ?_
 refine l_nil ?_
 refine run_seq ?_
 refine run_region rfl ?_
 replace bx55 := bx55.chg ch74 (not_no _)
 refine l_val (v := Value.agg (List.toArray [Value.int .i64 g.1, v20])) rfl (e_load_bxN (ds := [Value.int .i64 g.1, v20]) tp24_wa rfl bx55 rfl rfl) ?_
 replace r24 := r24.chg ch74 (not_no _)
 refine l_op rfl ?_
 refine o_call (v := Value.tuple (List.toArray [Value.agg (List.toArray [Value.int .i64 (((lookR g).1).1), Value.int .i64 ((((lookR g).1).2).1), Value.int .i64 (((((lookR g).1).2).2).1), Value.int .i64 ((((((lookR g).1).2).2).2).1), Value.bool ((((((lookR g).1).2).2).2).2)]), Value.int .i64 ((lookR g).2)])) (e_call (vals := [Value.agg (List.toArray [Value.int .i64 g.1, v20])]) Try.func52 bd52_wa nm52_wa rfl) (Look_ok w68 g v20 (r24).ro) ?_
 intro w75 hb76
 replace hb76 := chg_below hb76 g73
 refine l_val (v := Value.tuple (List.toArray [Value.agg (List.toArray [Value.int .i64 (((lookR g).1).1), Value.int .i64 ((((lookR g).1).2).1), Value.int .i64 (((((lookR g).1).2).2).1), Value.int .i64 ((((((lookR g).1).2).2).2).1), Value.bool ((((((lookR g).1).2).2).2).2)]), Value.int .i64 ((lookR g).2)])) rfl (e_move rfl) ?_
 refine l_val (v := Value.agg (List.toArray [Value.int .i64 (((lookR g).1).1), Value.int .i64 ((((lookR g).1).2).1), Value.int .i64 (((((lookR g).1).2).2).1), Value.int .i64 ((((((lookR g).1).2).2).2).1), Value.bool ((((((lookR g).1).2).2).2).2)])) rfl (e_extract rfl rfl) ?_
 refine l_val (v := Value.int .i64 ((lookR g).2)) rfl (e_extract rfl rfl) ?_
 refine l_op rfl ?_
 refine o_alloc g73 (is 116) (116, 0) rfl tp78_wa ?_
 intro g80 w77 b79 ch78 bx81
 replace bx81 : Bx g80 (is 116) w77 b79 [Value.int .i64 0, Value.int .i64 0, Value.int .i64 0, Value.int .i64 0, Value.bool false] := bx81
 refine l_op rfl ?_
 refine o_store_bx (cs' := [Value.int .i64 (((lookR g).1).1), Value.int .i64 ((((lookR g).1).2).1), Value.int .i64 (((((lookR g).1).2).2).1), Value.int .i64 ((((((lookR g).1).2).2).2).1), Value.bool ((((((lookR g).1).2).2).2).2)]) tp78_wa rfl rfl bx81 rfl (Nat.le_of_ble_eq_true rfl) (AllOne.all (.cons rfl (.cons rfl (.cons rfl (.cons rfl (.cons rfl .nil)))))) rfl ?_
 intro w82 ch83 bx84
 clear bx81
 refine l_val (v := Value.int .i64 ((lookR g).2)) rfl (e_assign rfl) ?_
 refine l_nil ?_
 refine run_seq ?_
 refine run_region rfl ?_
 have C85 : Chg (inl [116]) _ _ _ _ := (hb76.n).seq ((ch78.n).seq (ch83.l rfl))
 replace bx55 := bx55.chg C85 (is_nl rfl)
 refine l_val (v := Value.agg (List.toArray [Value.int .i64 g.1, v20])) rfl (e_load_bxN (ds := [Value.int .i64 g.1, v20]) tp24_wa rfl bx55 rfl rfl) ?_
 refine l_val (v := Value.int .i64 e) rfl (e_move rfl) ?_
 replace r24 := r24.chg C85 (is_nl rfl)
 refine l_op rfl ?_
 refine o_callx (e_call (vals := [Value.agg (List.toArray [Value.int .i64 g.1, v20]), Value.int .i64 e]) Try.func56 bd56_wa nm56_wa rfl) (Split_ok w82 g v20 (r24).ro e) ?_
 rintro ⟨d87, v89⟩ w86 ⟨fr88, o90⟩
 obtain ⟨g91, hg91⟩ : ∃ q, q = glue w82.heap.size g80 d87 (fun n => if n = 1 then 117 else 0) := ⟨_, rfl⟩
 have ch92 := chg_glue fr88.below g80 d87 (fun n => if n = 1 then 117 else 0)
 rw [← hg91] at ch92
 replace o90 := o90.glue (γ := g80) (ren := (fun n => if n = 1 then 117 else 0)) (k := 117) fr88.col rfl rfl
 rw [← hg91] at o90
 clear hg91
 refine l_val (v := Value.tuple (List.toArray [Value.agg (List.toArray [Value.int .i64 (((splitR g e).1).1), v89]), Value.int .i64 ((splitR g e).2)])) rfl (e_move rfl) ?_
 refine l_val (v := Value.agg (List.toArray [Value.int .i64 (((splitR g e).1).1), v89])) rfl (e_extract rfl rfl) ?_
 refine l_val (v := Value.int .i64 ((splitR g e).2)) rfl (e_extract rfl rfl) ?_
 refine l_op rfl ?_
 refine o_alloc g91 (is 118) (118, 0) rfl tp24_wa ?_
 intro g96 w93 b95 ch94 bx97
 replace bx97 : Bx g96 (is 118) w93 b95 [Value.int .i64 0, Value.slice none 0 0] := bx97
 refine l_op rfl ?_
 replace o90 := o90.chg ch94 (not_no _) (not_no _)
 refine o_store_bx (cs' := [Value.int .i64 (((splitR g e).1).1), v89]) tp24_wa rfl rfl bx97 rfl (Nat.le_of_ble_eq_true rfl) (AllOne.all (.cons rfl (.cons (sl_one o90.flat) .nil))) rfl ?_
 intro w98 ch99 bx100
 clear bx97
 refine l_val (v := Value.int .i64 ((splitR g e).2)) rfl (e_assign rfl) ?_
 refine l_nil ?_
 refine run_seq ?_
 refine run_region rfl ?_
 have C101 : Chg (inl [118]) _ _ _ _ := (ch92.n).seq ((ch94.n).seq (ch99.l rfl))
 replace bx55 := bx55.chg C101 (is_nl rfl)
 refine l_val (v := Value.agg (List.toArray [Value.int .i64 g.1, v20])) rfl (e_load_bxN (ds := [Value.int .i64 g.1, v20]) tp24_wa rfl bx55 rfl rfl) ?_
 replace r24 := r24.chg C101 (is_nl rfl)
 refine l_op rfl ?_
 refine o_callx (e_call (vals := [Value.agg (List.toArray [Value.int .i64 g.1, v20])]) Try.func57 bd57_wa nm57_wa rfl) (Bare_ok w98 g v20 (r24).ro) ?_
 rintro ⟨d103, v105, v107⟩ w102 ⟨fr104, o106, o108⟩
 obtain ⟨g109, hg109⟩ : ∃ q, q = glue w98.heap.size g96 d103 (fun n => if n = 1 then 119 else if n = 2 then 120 else 0) := ⟨_, rfl⟩
 have ch110 := chg_glue fr104.below g96 d103 (fun n => if n = 1 then 119 else if n = 2 then 120 else 0)
 rw [← hg109] at ch110
 replace o106 := o106.glue (γ := g96) (ren := (fun n => if n = 1 then 119 else if n = 2 then 120 else 0)) (k := 119) fr104.col rfl rfl
 rw [← hg109] at o106
 replace o108 := o108.glue (γ := g96) (ren := (fun n => if n = 1 then 119 else if n = 2 then 120 else 0)) (k := 120) fr104.col rfl rfl
 rw [← hg109] at o108
 clear hg109
 refine l_val (v := Value.tuple (List.toArray [Value.agg (List.toArray [Value.int .i64 (((bareR g).1).1), v105]), v107, Value.int .i64 ((bareR g).2.2)])) rfl (e_move rfl) ?_
 refine l_val (v := Value.agg (List.toArray [Value.int .i64 (((bareR g).1).1), v105])) rfl (e_extract rfl rfl) ?_
 refine l_val (v := v107) rfl (e_extract rfl rfl) ?_
 refine l_val (v := Value.int .i64 ((bareR g).2.2)) rfl (e_extract rfl rfl) ?_
 refine l_op rfl ?_
 refine o_alloc g109 (is 121) (121, 0) rfl tp24_wa ?_
 intro g114 w111 b113 ch112 bx115
 replace bx115 : Bx g114 (is 121) w111 b113 [Value.int .i64 0, Value.slice none 0 0] := bx115
 refine l_op rfl ?_
 replace o106 := o106.chg ch112 (not_no _) (not_no _)
 refine o_store_bx (cs' := [Value.int .i64 (((bareR g).1).1), v105]) tp24_wa rfl rfl bx115 rfl (Nat.le_of_ble_eq_true rfl) (AllOne.all (.cons rfl (.cons (sl_one o106.flat) .nil))) rfl ?_
 intro w116 ch117 bx118
 clear bx115
 refine l_val (v := v107) rfl (e_assign rfl) ?_
 refine l_val (v := Value.int .i64 ((bareR g).2.2)) rfl (e_assign rfl) ?_
 refine l_nil ?_
 refine run_seq ?_
 clear bx55
 refine run_region rfl ?_
 refine l_val (v := Value.pointer (some ⟨b40, 0, none⟩)) rfl (e_move rfl) ?_
 refine l_val (v := v64) rfl (e_move rfl) ?_
 refine l_val (v := v71) rfl (e_move rfl) ?_
 refine l_val (v := v107) rfl (e_move rfl) ?_
 refine l_op rfl ?_
 have C121 : Chg (inl [116, 118, 121]) _ _ _ _ := (ch74.n).seq ((hb76.n).seq ((ch78.n).seq ((ch83.l rfl).seq ((ch92.n).seq ((ch94.n).seq ((ch99.l rfl).seq ((ch110.n).seq ((ch112.n).seq (ch117.l rfl)))))))))
 replace o65 := o65.chg C121 (is_nl rfl) (is_nl rfl)
 obtain ⟨c119, hv120⟩ := vc_of (u := v64) (sl_one o65.flat)
 have C124 : Chg (inl [116, 118, 121]) _ _ _ _ := (hb76.n).seq ((ch78.n).seq ((ch83.l rfl).seq ((ch92.n).seq ((ch94.n).seq ((ch99.l rfl).seq ((ch110.n).seq ((ch112.n).seq (ch117.l rfl))))))))
 replace o72 := o72.chg C124 (is_nl rfl) (is_nl rfl)
 obtain ⟨c122, hv123⟩ := vc_of (u := v71) (sl_one o72.flat)
 replace o108 := (o108.chg ch112 (not_no _) (not_no _)).chg ch117 (is_ne rfl) (is_ne rfl)
 obtain ⟨c125, hv126⟩ := vc_of (u := v107) (sl_one o108.flat)
 refine o_buildSlice (α := Vc) g114 (is 122) (is 122) (122, 0) rfl [c119, c122, c125] Try.underlying25 tp35_wa (by decide) (by decide) (vs := [(0, v64), (1, v71), (2, v107)]) rfl rfl (.cons (vc_els hv120 (sl_cells1 o65.flat)) (.cons (vc_els hv123 (sl_cells1 o72.flat)) (.cons (vc_els hv126 (sl_cells1 o108.flat)) .nil))) ?_
 intro g127 w128 v129 ch130 o131
 refine l_op rfl ?_
 refine o_callx (σ := Value × (List (List Int)) × Int × Cmap) (V := fun ⟨b_0_c8_v, b_0_c8, b_1_c8, gq⟩ => Value.tuple (List.toArray [])) (S := fun ⟨b_0_c8_v, b_0_c8, b_1_c8, gq⟩ w => Base w0 gq w ∧ Sl gq (is 0) w g_v g.2 ∧ Sl gq (is 0) w keep_v keep ∧ Sl gq (is 0) w nodes_v nodes ∧ Bx gq (is 1) w b3 [Value.int .i64 g.1, g_v] ∧ Ow gq (is 2) (is 2) w (upV v20) (g.2 ++ [((-7 : Int), (7 : Int))]) ∧ Sl gq (is 2) w v20 g.2 ∧ Bx gq (is 3) w b27 [Value.int .i64 g.1, v20] ∧ Bx gq (is 4) w b40 [b_0_c8_v, Value.int .i64 b_1_c8] ∧ Bx gq (is 113) w b58 [Value.int .i64 g.1, g_v] ∧ Sl gq (isr 114 17) w v64 ((outR g v).1) ∧ Sl gq (isr 115 17) w v71 ((degR g).1) ∧ Bx gq (is 116) w b79 [Value.int .i64 (((lookR g).1).1), Value.int .i64 ((((lookR g).1).2).1), Value.int .i64 (((((lookR g).1).2).2).1), Value.int .i64 ((((((lookR g).1).2).2).2).1), Value.bool ((((((lookR g).1).2).2).2).2)] ∧ Ow gq (is 117) (is 117) w v89 (((splitR g e).1).2) ∧ Bx gq (is 118) w b95 [Value.int .i64 (((splitR g e).1).1), v89] ∧ Ow gq (is 119) (is 119) w v105 (((bareR g).1).2) ∧ Sl gq (isr 120 17) w v107 ((bareR g).2.1) ∧ Bx gq (is 121) w b113 [Value.int .i64 (((bareR g).1).1), v105] ∧ Ow gq (is 122) (is 122) w v129 ([c119, c122, c125]) ∧ Nst gq 17 w b_0_c8_v b_0_c8 ∧ (KInv b_0_c8 b_1_c8)) (e_call (vals := [Value.pointer (some ⟨b40, 0, none⟩), v129]) Try.func58 bd58_wa nm58_wa rfl) ?_ ?_
 ·
  refine calls_of_run Try.func58 rfl (Nat.le_of_ble_eq_true rfl) ?_
  have C132 : Chg (inl [116, 118, 121]) _ _ _ _ := (ch52.n).seq ((ch57.n).seq ((ch67.n).seq ((ch74.n).seq ((hb76.n).seq ((ch78.n).seq ((ch83.l rfl).seq ((ch92.n).seq ((ch94.n).seq ((ch99.l rfl).seq ((ch110.n).seq ((ch112.n).seq ((ch117.l rfl).seq (ch130.n)))))))))))))
  replace o_b_0 := o_b_0.chg C132 (is_nl rfl)
  replace o108 := o108.chg ch130 (not_no _) (not_no _)
  replace o72 := o72.chg ch130 (not_no _) (not_no _)
  replace o65 := o65.chg ch130 (not_no _) (not_no _)
  refine run_seq ?_
  refine run_region rfl ?_
  refine l_val (v := Value.int .i64 0) rfl (e_assign rfl) ?_
  refine l_nil ?_
  refine run_block ?_
  refine run_loop0 ?_
  refine run_seq ?_
  refine run_seq ?_
  refine run_region rfl ?_
  refine l_val (v := Value.int .i64 0) rfl (e_move rfl) ?_
  refine l_val (v := v129) rfl (e_move rfl) ?_
  refine l_val (v := Value.int .i64 3) rfl (e_len (α := Vc) (xs := [c119, c122, c125]) Try.underlying25 rfl o131.flat) ?_
  refine l_val (v := Value.bool true) rfl (e_lss (m := 0) (n := 3) rfl rfl) ?_
  refine l_nil ?_
  refine run_cond_t rfl rfl ?_
  refine run_skip ?_
  refine run_seq ?_
  refine run_block ?_
  refine run_seq ?_
  refine run_mid [false, true, false, false, false] (σ := Value × (List (List Int)) × Int × Cmap) (fun ⟨b_0_j20_v, b_0_j20, b_1_j20, gq⟩ f w => Base w0 gq w ∧ f 0 = Value.pointer (some ⟨b40, 0, none⟩) ∧ f 1 = v129 ∧ f 4 = Value.int .i64 0 ∧ Sl gq (is 0) w g_v g.2 ∧ Sl gq (is 0) w keep_v keep ∧ Sl gq (is 0) w nodes_v nodes ∧ Bx gq (is 1) w b3 [Value.int .i64 g.1, g_v] ∧ Ow gq (is 2) (is 2) w (upV v20) (g.2 ++ [((-7 : Int), (7 : Int))]) ∧ Sl gq (is 2) w v20 g.2 ∧ Bx gq (is 3) w b27 [Value.int .i64 g.1, v20] ∧ Bx gq (is 4) w b40 [b_0_j20_v, Value.int .i64 b_1_j20] ∧ Bx gq (is 113) w b58 [Value.int .i64 g.1, g_v] ∧ Sl gq (isr 114 17) w v64 ((outR g v).1) ∧ Ow gq (is 115) (is 115) w v71 ((degR g).1) ∧ Bx gq (is 116) w b79 [Value.int .i64 (((lookR g).1).1), Value.int .i64 ((((lookR g).1).2).1), Value.int .i64 (((((lookR g).1).2).2).1), Value.int .i64 ((((((lookR g).1).2).2).2).1), Value.bool ((((((lookR g).1).2).2).2).2)] ∧ Ow gq (is 117) (is 117) w v89 (((splitR g e).1).2) ∧ Bx gq (is 118) w b95 [Value.int .i64 (((splitR g e).1).1), v89] ∧ Ow gq (is 119) (is 119) w v105 (((bareR g).1).2) ∧ Ow gq (is 120) (is 120) w v107 ((bareR g).2.1) ∧ Bx gq (is 121) w b113 [Value.int .i64 (((bareR g).1).1), v105] ∧ Ow gq (is 122) (is 122) w v129 ([c119, c122, c125]) ∧ Nst gq 17 w b_0_j20_v b_0_j20 ∧ (KInv b_0_j20 b_1_j20)) ?_ ?_
  ·
   intro mid_j20
   refine region_q g127 rfl mixed_wa (by kernel_rfl) ?_
   intro w134 ch133
   refine q_val (v := v129) rfl (fun w' hw' => e_move rfl) ?_
   refine q_val (v := Value.int .i64 0) rfl (fun w' hw' => e_move rfl) ?_
   replace o108 := o108.chg ch133 (not_no _) (not_no _)
   replace o72 := o72.chg ch133 (not_no _) (not_no _)
   replace o65 := o65.chg ch133 (not_no _) (not_no _)
   replace o131 := o131.chg ch133 (not_no _) (not_no _)
   refine q_val (v := Value.pointer (some (eAddr v129 1 (Int.toNat 0)))) rfl (fun w' hw' => e_indexAddr (α := List Int) (xs := [(outR g v).1, (degR g).1, (bareR g).2.1]) (v := v129) (i := 0) Try.underlying25 rfl rfl ((vc_sl o131 (VcR.consv hv120 (o65.flat).ro (VcR.consv hv123 (o72.flat).ro (VcR.consv hv126 (o108.flat).ro VcR.nil)))).bel hw') rfl (by omega) (by first | omega | (simp only [List.length_set, List.length_append, List.length_cons, List.length_nil, List.length_replicate, List.length_map, List.length_take, List.length_drop]; omega) | (simp; done) | (simp; omega))) ?_
   refine q_val (v := v64) rfl (fun w' hw' => e_load1 tp35_wa rfl (ow_atv hv120 (o131.bel hw') rfl)) ?_
   have len135 := (o65.flat).small
   refine q_val (v := Value.int .i64 (List.length ((outR g v).1) : Int)) rfl (fun w' hw' => e_len Try.underlying35 rfl (o65.flat.bel hw')) ?_
   refine q_val (v := v129) rfl (fun w' hw' => e_move rfl) ?_
   refine q_val (v := Value.int .i64 0) rfl (fun w' hw' => e_move rfl) ?_
   refine q_val (v := Value.pointer (some (eAddr v129 1 (Int.toNat 0)))) rfl (fun w' hw' => e_indexAddr (α := List Int) (xs := [(outR g v).1, (degR g).1, (bareR g).2.1]) (v := v129) (i := 0) Try.underlying25 rfl rfl ((vc_sl o131 (VcR.consv hv120 (o65.flat).ro (VcR.consv hv123 (o72.flat).ro (VcR.consv hv126 (o108.flat).ro VcR.nil)))).bel hw') rfl (by omega) (by first | omega | (simp only [List.length_set, List.length_append, List.length_cons, List.length_nil, List.length_replicate, List.length_map, List.length_take, List.length_drop]; omega) | (simp; done) | (simp; omega))) ?_
   refine q_val (v := v64) rfl (fun w' hw' => e_load1 tp35_wa rfl (ow_atv hv120 (o131.bel hw') rfl)) ?_
   have cap136 := Sl.cap o65.flat
   refine q_val (v := Value.int .i64 (sCap v64 : Int)) rfl (fun w' hw' => e_cap Try.underlying35 rfl (o65.flat.bel hw')) ?_
   refine q_call (v := Value.int .i64 (min (sCap v64 : Int) ((List.length ((outR g v).1) : Int) + 2000))) rfl (fun w' hw' => e_call (vals := [Value.int .i64 (List.length ((outR g v).1) : Int), Value.int .i64 (sCap v64 : Int)]) Try.func70 bd70_wa nm70_wa rfl) (fun w' hw' => (Room_ok w' (List.length ((outR g v).1) : Int) (sCap v64 : Int) (by omega)).mono fun e w2 h2 => ⟨h2.1, hw'.trans (h2.2.mono hw'.size)⟩) ?_
   refine q_val (v := Value.int .i64 (min (sCap v64 : Int) ((List.length ((outR g v).1) : Int) + 2000))) rfl (fun w' hw' => e_assign rfl) ?_
   refine q_nil ?_
   intro w137 hc138
   replace hc138 := chg_below hc138 g127
   refine run_seq ?_
   refine run_region rfl ?_
   refine l_val (v := Value.int .i64 (min (sCap v64 : Int) ((List.length ((outR g v).1) : Int) + 2000))) rfl (e_move rfl) ?_
   refine l_val (v := Value.bool (decide (0 < (min (sCap v64 : Int) ((List.length ((outR g v).1) : Int) + 2000))))) rfl (e_gtr (m := min (sCap v64 : Int) ((List.length ((outR g v).1) : Int) + 2000)) (n := 0) rfl rfl) ?_
   refine l_val (v := Value.bool (decide (0 < (min (sCap v64 : Int) ((List.length ((outR g v).1) : Int) + 2000))))) rfl (e_move rfl) ?_
   by_cases q25_c8 : 0 < (min (sCap v64 : Int) ((List.length ((outR g v).1) : Int) + 2000))
   ·
    refine l_val (v := Value.pointer (some ⟨b40, 0, none⟩)) (want_y rfl rfl rfl (decide_eq_true q25_c8)) (e_move rfl) ?_
    refine l_val (v := Value.pointer (some ⟨b40, 0, none⟩)) (want_y rfl rfl rfl (decide_eq_true q25_c8)) (e_nilCheck rfl) ?_
    refine l_val (v := Value.pointer (some ⟨b40, 1, none⟩)) (want_y rfl rfl rfl (decide_eq_true q25_c8)) (e_fieldAddr Try.underlying49 rfl rfl rfl rfl) ?_
    have C139 : Chg (inl [116, 118, 121]) _ _ _ _ := (ch52.n).seq ((ch57.n).seq ((ch67.n).seq ((ch74.n).seq ((hb76.n).seq ((ch78.n).seq ((ch83.l rfl).seq ((ch92.n).seq ((ch94.n).seq ((ch99.l rfl).seq ((ch110.n).seq ((ch112.n).seq ((ch117.l rfl).seq ((ch130.n).seq ((ch133.n).seq (hc138.n)))))))))))))))
    replace bx42 := bx42.chg C139 (is_nl rfl)
    refine l_val (v := Value.int .i64 b_1) (want_y rfl rfl rfl (decide_eq_true q25_c8)) (e_load_bx1 tp3_wa rfl bx42 rfl) ?_
    refine l_val (v := Value.int .i64 (min (sCap v64 : Int) ((List.length ((outR g v).1) : Int) + 2000))) (want_y rfl rfl rfl (decide_eq_true q25_c8)) (e_move rfl) ?_
    refine l_val (v := Value.int .i64 (b_1 + (min (sCap v64 : Int) ((List.length ((outR g v).1) : Int) + 2000)))) (want_y rfl rfl rfl (decide_eq_true q25_c8)) (e_add (m := b_1) (n := min (sCap v64 : Int) ((List.length ((outR g v).1) : Int) + 2000)) rfl rfl (by omega)) ?_
    refine l_val (v := Value.bool (decide ((b_1 + (min (sCap v64 : Int) ((List.length ((outR g v).1) : Int) + 2000))) ≤ 1048576))) (want_y rfl rfl rfl (decide_eq_true q25_c8)) (e_leq (m := b_1 + (min (sCap v64 : Int) ((List.length ((outR g v).1) : Int) + 2000))) (n := 1048576) rfl rfl) ?_
    refine l_val (v := Value.bool (decide ((b_1 + (min (sCap v64 : Int) ((List.length ((outR g v).1) : Int) + 2000))) ≤ 1048576))) rfl (e_pick_t rfl (decide_eq_true q25_c8) rfl) ?_
    refine l_nil ?_
    by_cases p4_c8 : (b_1 + (min (sCap v64 : Int) ((List.length ((outR g v).1) : Int) + 2000))) ≤ 1048576
    ·
     refine run_cond_t rfl (decide_eq_true p4_c8) ?_
     refine run_seq ?_
     refine run_region rfl ?_
     refine l_val (v := Value.pointer (some ⟨b40, 0, none⟩)) rfl (e_move rfl) ?_
     refine l_val (v := Value.pointer (some ⟨b40, 0, none⟩)) rfl (e_move rfl) ?_
     refine l_val (v := Value.pointer (some ⟨b40, 0, none⟩)) rfl (e_nilCheck rfl) ?_
     refine l_val (v := Value.pointer (some ⟨b40, 1, none⟩)) rfl (e_fieldAddr Try.underlying49 rfl rfl rfl rfl) ?_
     refine l_val (v := Value.int .i64 b_1) rfl (e_load_bx1 tp3_wa rfl bx42 rfl) ?_
     refine l_val (v := Value.int .i64 (min (sCap v64 : Int) ((List.length ((outR g v).1) : Int) + 2000))) rfl (e_move rfl) ?_
     refine l_val (v := Value.int .i64 (b_1 + (min (sCap v64 : Int) ((List.length ((outR g v).1) : Int) + 2000)))) rfl (e_add (m := b_1) (n := min (sCap v64 : Int) ((List.length ((outR g v).1) : Int) + 2000)) rfl rfl (by omega)) ?_
     refine l_val (v := Value.pointer (some ⟨b40, 0, none⟩)) rfl (e_nilCheck rfl) ?_
     refine l_val (v := Value.pointer (some ⟨b40, 1, none⟩)) rfl (e_fieldAddr Try.underlying49 rfl rfl rfl rfl) ?_
     refine l_op rfl ?_
     refine o_store_bx (cs' := [b_0_v, Value.int .i64 (b_1 + (min (sCap v64 : Int) ((List.length ((outR g v).1) : Int) + 2000)))]) tp3_wa rfl rfl bx42 rfl (Nat.le_of_ble_eq_true rfl) (AllOne.all (.cons rfl .nil)) rfl ?_
     intro w140 ch141 bx142
     clear bx42
     refine l_nil ?_
     refine run_region_x g127 [0, 1, 2, 3, 4, 5, 6, 7, 8, 11, 12] mixed_wa ?_
     intro w144 ch143
     refine x_pure (v := Value.pointer (some ⟨b40, 0, none⟩)) 0 rfl (by kernel_rfl) (by kernel_rfl) rfl (fun w => e_move rfl) ?_
     refine x_pure (v := Value.pointer (some ⟨b40, 0, none⟩)) 1 rfl (by kernel_rfl) (by kernel_rfl) rfl (fun w => e_move rfl) ?_
     refine x_pure (v := Value.pointer (some ⟨b40, 0, none⟩)) 2 rfl (by kernel_rfl) (by kernel_rfl) rfl (fun w => e_nilCheck rfl) ?_
     refine x_pure (v := Value.pointer (some ⟨b40, 0, none⟩)) 3 rfl (by kernel_rfl) (by kernel_rfl) rfl (fun w => e_fieldAddr Try.underlying49 rfl rfl rfl rfl) ?_
     replace bx142 := bx142.chg ch143 (not_no _)
     refine x_held (v := b_0_v) 4 [3, 2, 1, 0, 5, 6, 7, 8, 9] rfl (by kernel_rfl) (by kernel_rfl) rfl (fun w' hw' => e_load_bx1 tp25_wa rfl (bx142.bel hw') rfl) ?_
     refine x_pure (v := v129) 5 rfl (by kernel_rfl) (by kernel_rfl) rfl (fun w => e_move rfl) ?_
     refine x_pure (v := Value.int .i64 0) 6 rfl (by kernel_rfl) (by kernel_rfl) rfl (fun w => e_move rfl) ?_
     have C145 : Chg (inl [4]) _ _ _ _ := (hc138.n).seq ((ch141.l rfl).seq (ch143.n))
     replace o108 := o108.chg C145 (is_nl rfl) (is_nl rfl)
     replace o72 := o72.chg C145 (is_nl rfl) (is_nl rfl)
     replace o65 := o65.chg C145 (is_nl rfl) (is_nl rfl)
     replace o131 := o131.chg C145 (is_nl rfl) (is_nl rfl)
     refine x_val (v := Value.pointer (some (eAddr v129 1 (Int.toNat 0)))) 7 [6, 5, 4, 3, 2, 1, 0] rfl (by kernel_rfl) (by kernel_rfl) rfl (e_indexAddr (α := List Int) (xs := [(outR g v).1, (degR g).1, (bareR g).2.1]) (v := v129) (i := 0) Try.underlying25 rfl rfl (vc_sl o131 (VcR.consv hv120 (o65.flat).ro (VcR.consv hv123 (o72.flat).ro (VcR.consv hv126 (o108.flat).ro VcR.nil)))) rfl (by omega) (by first | omega | (simp only [List.length_set, List.length_append, List.length_cons, List.length_nil, List.length_replicate, List.length_map, List.length_take, List.length_drop]; omega) | (simp; done) | (simp; omega))) ?_
     refine x_val (v := v64) 8 [7, 6, 5, 4, 3, 2, 1, 0] rfl (by kernel_rfl) (by kernel_rfl) rfl (e_load1 tp35_wa rfl (ow_atv hv120 o131 rfl)) ?_
     refine x_one 9 rfl (by kernel_rfl) rfl ?_
     obtain ⟨c146, hv147⟩ := vc_of (u := v64) (sl_one o65.flat)
     refine o_buildSlice (α := Vc) g127 (is 123) (is 123) (123, 0) rfl [c146] Try.underlying25 tp35_wa (by decide) (by decide) (vs := [(0, v64)]) rfl rfl (.cons (vc_els hv147 (sl_cells1 o65.flat)) .nil) ?_
     intro g148 w149 v150 ch151 o152
     refine x_one 10 rfl (by kernel_rfl) rfl ?_
     have C153 : Chg (inl [4]) _ _ _ _ := (ch133.n).seq ((hc138.n).seq ((ch141.l rfl).seq ((ch143.n).seq (ch151.n))))
     replace o_b_0 := o_b_0.chg C153 (is_nl rfl)
     replace o65 := o65.chg ch151 (not_no _) (not_no _)
     refine o_append_nst hv147 (α := Int) (xss := b_0) (i := 17) (γ := g148) Try.underlying25 tp35_wa rfl rfl rfl o_b_0 (o152.flat) o65 rfl (by decide) (by first | omega | (simp; done) | (simp; omega)) ?_
     intro g154 w155 v156 ch157 o158 r159
     clear o_b_0
     clear o65
     refine x_pure (v := Value.pointer (some ⟨b40, 0, none⟩)) 11 rfl (by kernel_rfl) (by kernel_rfl) rfl (fun w => e_nilCheck rfl) ?_
     refine x_pure (v := Value.pointer (some ⟨b40, 0, none⟩)) 12 rfl (by kernel_rfl) (by kernel_rfl) rfl (fun w => e_fieldAddr Try.underlying49 rfl rfl rfl rfl) ?_
     refine x_one 13 rfl (by kernel_rfl) rfl ?_
     replace bx142 := (bx142.chg ch151 (not_no _)).chg ch157 (is_neix rfl rfl)
     refine o_store_bx1 (cs' := [v156, Value.int .i64 (b_1 + (min (sCap v64 : Int) ((List.length ((outR g v).1) : Int) + 2000)))]) tp25_wa rfl rfl bx142 (sl_cells1 o158.sl) (Nat.le_of_ble_eq_true rfl) (sl_one o158.sl) rfl ?_
     intro w160 ch161 bx162
     clear bx142
     refine x_nil (by kernel_rfl) ?_
     refine run_inBlock ?_
     clear o152
     have C163 : Chg (inl [4, 17, 114, 116, 118, 121]) _ _ _ _ := (ch52.n).seq ((ch57.n).seq ((ch67.n).seq ((ch74.n).seq ((hb76.n).seq ((ch78.n).seq ((ch83.l rfl).seq ((ch92.n).seq ((ch94.n).seq ((ch99.l rfl).seq ((ch110.n).seq ((ch112.n).seq ((ch117.l rfl).seq ((ch130.n).seq ((ch133.n).seq ((hc138.n).seq ((ch141.l rfl).seq ((ch143.n).seq ((ch151.n).seq ((ch157.lx rfl rfl).seq (ch161.l rfl))))))))))))))))))))
     replace hbase := hbase.chg C163 (is_nl rfl)
     replace r_g_v := r_g_v.chg C163 (is_nl rfl)
     replace r_keep_v := r_keep_v.chg C163 (is_nl rfl)
     replace r_nodes_v := r_nodes_v.chg C163 (is_nl rfl)
     replace bx5 := bx5.chg C163 (is_nl rfl)
     replace o21 := o21.chg C163 (is_nl rfl) (is_nl rfl)
     have C164 : Chg (inl [4, 17, 114, 121]) _ _ _ _ := (ch110.n).seq ((ch112.n).seq ((ch117.l rfl).seq ((ch130.n).seq ((ch133.n).seq ((hc138.n).seq ((ch141.l rfl).seq ((ch143.n).seq ((ch151.n).seq ((ch157.lx rfl rfl).seq (ch161.l rfl))))))))))
     replace r24 := r24.chg C164 (is_nl rfl)
     replace bx32 := bx32.chg C163 (is_nl rfl)
     have C165 : Chg (inl [4, 17, 114, 116, 118, 121]) _ _ _ _ := (ch67.n).seq ((ch74.n).seq ((hb76.n).seq ((ch78.n).seq ((ch83.l rfl).seq ((ch92.n).seq ((ch94.n).seq ((ch99.l rfl).seq ((ch110.n).seq ((ch112.n).seq ((ch117.l rfl).seq ((ch130.n).seq ((ch133.n).seq ((hc138.n).seq ((ch141.l rfl).seq ((ch143.n).seq ((ch151.n).seq ((ch157.lx rfl rfl).seq (ch161.l rfl))))))))))))))))))
     replace bx60 := bx60.chg C165 (is_nl rfl)
     replace r159 := r159.chg ch161 (isr_is rfl rfl)
     have C166 : Chg (inl [4, 17, 114]) _ _ _ _ := (ch151.n).seq ((ch157.lx rfl rfl).seq (ch161.l rfl))
     replace o72 := o72.chg C166 (is_nl rfl) (is_nl rfl)
     have C167 : Chg (inl [4, 17, 114, 118, 121]) _ _ _ _ := (ch92.n).seq ((ch94.n).seq ((ch99.l rfl).seq ((ch110.n).seq ((ch112.n).seq ((ch117.l rfl).seq ((ch130.n).seq ((ch133.n).seq ((hc138.n).seq ((ch141.l rfl).seq ((ch143.n).seq ((ch151.n).seq ((ch157.lx rfl rfl).seq (ch161.l rfl)))))))))))))
     replace bx84 := bx84.chg C167 (is_nl rfl)
     have C168 : Chg (inl [4, 17, 114, 118, 121]) _ _ _ _ := (ch99.l rfl).seq ((ch110.n).seq ((ch112.n).seq ((ch117.l rfl).seq ((ch130.n).seq ((ch133.n).seq ((hc138.n).seq ((ch141.l rfl).seq ((ch143.n).seq ((ch151.n).seq ((ch157.lx rfl rfl).seq (ch161.l rfl)))))))))))
     replace o90 := o90.chg C168 (is_nl rfl) (is_nl rfl)
     replace bx100 := bx100.chg C164 (is_nl rfl)
     have C169 : Chg (inl [4, 17, 114, 121]) _ _ _ _ := (ch117.l rfl).seq ((ch130.n).seq ((ch133.n).seq ((hc138.n).seq ((ch141.l rfl).seq ((ch143.n).seq ((ch151.n).seq ((ch157.lx rfl rfl).seq (ch161.l rfl))))))))
     replace o106 := o106.chg C169 (is_nl rfl) (is_nl rfl)
     replace o108 := o108.chg C166 (is_nl rfl) (is_nl rfl)
     have C170 : Chg (inl [4, 17, 114]) _ _ _ _ := (ch130.n).seq ((ch133.n).seq ((hc138.n).seq ((ch141.l rfl).seq ((ch143.n).seq ((ch151.n).seq ((ch157.lx rfl rfl).seq (ch161.l rfl)))))))
     replace bx118 := bx118.chg C170 (is_nl rfl)
     replace o131 := o131.chg C166 (is_nl rfl) (is_nl rfl)
     replace o158 := o158.chg ch161 (is_ne rfl)
     refine mid_j20 (v156, (b_0 ++ [(outR g v).1]), b_1 + (min (sCap v64 : Int) ((List.length ((outR g v).1) : Int) + 2000)), g154) _ _ ⟨hbase, rfl, rfl, rfl, r_g_v, r_keep_v, r_nodes_v, bx5, o21, r24, bx32, bx162, bx60, r159, o72, bx84, o90, bx100, o106, o108, bx118, o131, o158, ?_⟩
     show KInv (b_0 ++ [(outR g v).1]) (b_1 + (min (sCap v64 : Int) ((List.length ((outR g v).1) : Int) + 2000)))
     first | assumption | exact KInv.nil | exact (KInv.add (by first | assumption | exact KInv.nil) (by omega) (by omega) (by omega))
    refine run_cond_f rfl (decide_eq_false p4_c8) ?_
    refine run_skip ?_
    refine run_inBlock ?_
    replace hbase := hbase.chg C139 (is_nl rfl)
    replace r_g_v := r_g_v.chg C139 (is_nl rfl)
    replace r_keep_v := r_keep_v.chg C139 (is_nl rfl)
    replace r_nodes_v := r_nodes_v.chg C139 (is_nl rfl)
    replace bx5 := bx5.chg C139 (is_nl rfl)
    replace o21 := o21.chg C139 (is_nl rfl) (is_nl rfl)
    have C171 : Chg (inl [121]) _ _ _ _ := (ch110.n).seq ((ch112.n).seq ((ch117.l rfl).seq ((ch130.n).seq ((ch133.n).seq (hc138.n)))))
    replace r24 := r24.chg C171 (is_nl rfl)
    replace bx32 := bx32.chg C139 (is_nl rfl)
    have C172 : Chg (inl [116, 118, 121]) _ _ _ _ := (ch67.n).seq ((ch74.n).seq ((hb76.n).seq ((ch78.n).seq ((ch83.l rfl).seq ((ch92.n).seq ((ch94.n).seq ((ch99.l rfl).seq ((ch110.n).seq ((ch112.n).seq ((ch117.l rfl).seq ((ch130.n).seq ((ch133.n).seq (hc138.n)))))))))))))
    replace bx60 := bx60.chg C172 (is_nl rfl)
    replace o65 := o65.chg hc138 (not_no _) (not_no _)
    replace o72 := o72.chg hc138 (not_no _) (not_no _)
    have C173 : Chg (inl [118, 121]) _ _ _ _ := (ch92.n).seq ((ch94.n).seq ((ch99.l rfl).seq ((ch110.n).seq ((ch112.n).seq ((ch117.l rfl).seq ((ch130.n).seq ((ch133.n).seq (hc138.n))))))))
    replace bx84 := bx84.chg C173 (is_nl rfl)
    have C174 : Chg (inl [118, 121]) _ _ _ _ := (ch99.l rfl).seq ((ch110.n).seq ((ch112.n).seq ((ch117.l rfl).seq ((ch130.n).seq ((ch133.n).seq (hc138.n))))))
    replace o90 := o90.chg C174 (is_nl rfl) (is_nl rfl)
    replace bx100 := bx100.chg C171 (is_nl rfl)
    have C175 : Chg (inl [121]) _ _ _ _ := (ch117.l rfl).seq ((ch130.n).seq ((ch133.n).seq (hc138.n)))
    replace o106 := o106.chg C175 (is_nl rfl) (is_nl rfl)
    replace o108 := o108.chg hc138 (not_no _) (not_no _)
    have C176 : Chg (inl []) _ _ _ _ := (ch130.n).seq ((ch133.n).seq (hc138.n))
    replace bx118 := bx118.chg C176 (is_nl rfl)
    replace o131 := o131.chg hc138 (not_no _) (not_no _)
    replace o_b_0 := (o_b_0.chg ch133 (not_no _)).chg hc138 (not_no _)
    refine mid_j20 (b_0_v, b_0, b_1, g127) _ _ ⟨hbase, rfl, rfl, rfl, r_g_v, r_keep_v, r_nodes_v, bx5, o21, r24, bx32, bx42, bx60, o65.slk, o72, bx84, o90, bx100, o106, o108, bx118, o131, o_b_0, ?_⟩
    show KInv b_0 b_1
    first | assumption | exact KInv.nil | exact (KInv.add (by first | assumption | exact KInv.nil) (by omega) (by omega) (by omega))
   refine l_skip (want_n rfl rfl rfl (decide_eq_false q25_c8)) ?_
   refine l_skip (want_n rfl rfl rfl (decide_eq_false q25_c8)) ?_
   refine l_skip (want_n rfl rfl rfl (decide_eq_false q25_c8)) ?_
   refine l_skip (want_n rfl rfl rfl (decide_eq_false q25_c8)) ?_
   refine l_skip (want_n rfl rfl rfl (decide_eq_false q25_c8)) ?_
   refine l_skip (want_n rfl rfl rfl (decide_eq_false q25_c8)) ?_
   refine l_skip (want_n rfl rfl rfl (decide_eq_false q25_c8)) ?_
   refine l_val (v := Value.bool false) rfl (e_pick_f rfl (decide_eq_false q25_c8) rfl) ?_
   refine l_nil ?_
   refine run_cond_f rfl rfl ?_
   refine run_skip ?_
   refine run_inBlock ?_
   have C177 : Chg (inl [116, 118, 121]) _ _ _ _ := (ch52.n).seq ((ch57.n).seq ((ch67.n).seq ((ch74.n).seq ((hb76.n).seq ((ch78.n).seq ((ch83.l rfl).seq ((ch92.n).seq ((ch94.n).seq ((ch99.l rfl).seq ((ch110.n).seq ((ch112.n).seq ((ch117.l rfl).seq ((ch130.n).seq ((ch133.n).seq (hc138.n)))))))))))))))
   replace hbase := hbase.chg C177 (is_nl rfl)
   replace r_g_v := r_g_v.chg C177 (is_nl rfl)
   replace r_keep_v := r_keep_v.chg C177 (is_nl rfl)
   replace r_nodes_v := r_nodes_v.chg C177 (is_nl rfl)
   replace bx5 := bx5.chg C177 (is_nl rfl)
   replace o21 := o21.chg C177 (is_nl rfl) (is_nl rfl)
   have C178 : Chg (inl [121]) _ _ _ _ := (ch110.n).seq ((ch112.n).seq ((ch117.l rfl).seq ((ch130.n).seq ((ch133.n).seq (hc138.n)))))
   replace r24 := r24.chg C178 (is_nl rfl)
   replace bx32 := bx32.chg C177 (is_nl rfl)
   replace bx42 := bx42.chg C177 (is_nl rfl)
   have C179 : Chg (inl [116, 118, 121]) _ _ _ _ := (ch67.n).seq ((ch74.n).seq ((hb76.n).seq ((ch78.n).seq ((ch83.l rfl).seq ((ch92.n).seq ((ch94.n).seq ((ch99.l rfl).seq ((ch110.n).seq ((ch112.n).seq ((ch117.l rfl).seq ((ch130.n).seq ((ch133.n).seq (hc138.n)))))))))))))
   replace bx60 := bx60.chg C179 (is_nl rfl)
   replace o65 := o65.chg hc138 (not_no _) (not_no _)
   replace o72 := o72.chg hc138 (not_no _) (not_no _)
   have C180 : Chg (inl [118, 121]) _ _ _ _ := (ch92.n).seq ((ch94.n).seq ((ch99.l rfl).seq ((ch110.n).seq ((ch112.n).seq ((ch117.l rfl).seq ((ch130.n).seq ((ch133.n).seq (hc138.n))))))))
   replace bx84 := bx84.chg C180 (is_nl rfl)
   have C181 : Chg (inl [118, 121]) _ _ _ _ := (ch99.l rfl).seq ((ch110.n).seq ((ch112.n).seq ((ch117.l rfl).seq ((ch130.n).seq ((ch133.n).seq (hc138.n))))))
   replace o90 := o90.chg C181 (is_nl rfl) (is_nl rfl)
   replace bx100 := bx100.chg C178 (is_nl rfl)
   have C182 : Chg (inl [121]) _ _ _ _ := (ch117.l rfl).seq ((ch130.n).seq ((ch133.n).seq (hc138.n)))
   replace o106 := o106.chg C182 (is_nl rfl) (is_nl rfl)
   replace o108 := o108.chg hc138 (not_no _) (not_no _)
   have C183 : Chg (inl []) _ _ _ _ := (ch130.n).seq ((ch133.n).seq (hc138.n))
   replace bx118 := bx118.chg C183 (is_nl rfl)
   replace o131 := o131.chg hc138 (not_no _) (not_no _)
   replace o_b_0 := (o_b_0.chg ch133 (not_no _)).chg hc138 (not_no _)
   refine mid_j20 (b_0_v, b_0, b_1, g127) _ _ ⟨hbase, rfl, rfl, rfl, r_g_v, r_keep_v, r_nodes_v, bx5, o21, r24, bx32, bx42, bx60, o65.slk, o72, bx84, o90, bx100, o106, o108, bx118, o131, o_b_0, ?_⟩
   show KInv b_0 b_1
   first | assumption | exact KInv.nil | exact (KInv.add (by first | assumption | exact KInv.nil) (by omega) (by omega) (by omega))
  clear r_g_v
  clear r_keep_v
  clear r_nodes_v
  clear bx5
  clear o21
  clear r24
  clear bx32
  clear bx42
  clear o_b_0
  clear bx60
  clear o65
  clear o72
  clear bx84
  clear o90
  clear bx100
  clear o106
  clear o108
  clear bx118
  clear o131
  clear hbase
  rintro ⟨b_0_j20_v, b_0_j20, b_1_j20, g186⟩ f184 w185 ⟨hbase, z187_0, z187_1, z187_4, r_g_v, r_keep_v, r_nodes_v, bx5, o21, r24, bx32, bx42, bx60, o65, o72, bx84, o90, bx100, o106, o108, bx118, o131, o_b_0_j20, hj_j20⟩
  obtain ⟨hja_j20, hjb_j20, hjc_j20⟩ := hj_j20.len
  refine run_region rfl ?_
  refine l_val (v := Value.int .i64 0) rfl (e_move (by exact z187_4)) ?_
  refine l_val (v := Value.int .i64 1) rfl (e_add (m := 0) (n := 1) rfl rfl (by omega)) ?_
  refine l_val (v := Value.int .i64 1) rfl (e_assign rfl) ?_
  refine l_nil ?_
  refine run_inLoop ?_
  refine run_seq ?_
  refine run_seq ?_
  refine run_region rfl ?_
  refine l_val (v := Value.int .i64 1) rfl (e_move rfl) ?_
  refine l_val (v := v129) rfl (e_move (by exact z187_1)) ?_
  refine l_val (v := Value.int .i64 3) rfl (e_len (α := Vc) (xs := [c119, c122, c125]) Try.underlying25 rfl o131.flat) ?_
  refine l_val (v := Value.bool true) rfl (e_lss (m := 1) (n := 3) rfl rfl) ?_
  refine l_nil ?_
  refine run_cond_t rfl rfl ?_
  refine run_skip ?_
  refine run_seq ?_
  refine run_block ?_
  refine run_seq ?_
  refine run_mid [false, true, false, false, false] (σ := Value × (List (List Int)) × Int × Cmap) (fun ⟨b_0_j21_v, b_0_j21, b_1_j21, gq⟩ f w => Base w0 gq w ∧ f 0 = Value.pointer (some ⟨b40, 0, none⟩) ∧ f 1 = v129 ∧ f 4 = Value.int .i64 1 ∧ Sl gq (is 0) w g_v g.2 ∧ Sl gq (is 0) w keep_v keep ∧ Sl gq (is 0) w nodes_v nodes ∧ Bx gq (is 1) w b3 [Value.int .i64 g.1, g_v] ∧ Ow gq (is 2) (is 2) w (upV v20) (g.2 ++ [((-7 : Int), (7 : Int))]) ∧ Sl gq (is 2) w v20 g.2 ∧ Bx gq (is 3) w b27 [Value.int .i64 g.1, v20] ∧ Bx gq (is 4) w b40 [b_0_j21_v, Value.int .i64 b_1_j21] ∧ Bx gq (is 113) w b58 [Value.int .i64 g.1, g_v] ∧ Sl gq (isr 114 17) w v64 ((outR g v).1) ∧ Sl gq (isr 115 17) w v71 ((degR g).1) ∧ Bx gq (is 116) w b79 [Value.int .i64 (((lookR g).1).1), Value.int .i64 ((((lookR g).1).2).1), Value.int .i64 (((((lookR g).1).2).2).1), Value.int .i64 ((((((lookR g).1).2).2).2).1), Value.bool ((((((lookR g).1).2).2).2).2)] ∧ Ow gq (is 117) (is 117) w v89 (((splitR g e).1).2) ∧ Bx gq (is 118) w b95 [Value.int .i64 (((splitR g e).1).1), v89] ∧ Ow gq (is 119) (is 119) w v105 (((bareR g).1).2) ∧ Ow gq (is 120) (is 120) w v107 ((bareR g).2.1) ∧ Bx gq (is 121) w b113 [Value.int .i64 (((bareR g).1).1), v105] ∧ Ow gq (is 122) (is 122) w v129 ([c119, c122, c125]) ∧ Nst gq 17 w b_0_j21_v b_0_j21 ∧ (KInv b_0_j21 b_1_j21)) ?_ ?_
  ·
   intro mid_j21
   refine region_q g186 rfl mixed_wa (by kernel_rfl) ?_
   intro w189 ch188
   refine q_val (v := v129) rfl (fun w' hw' => e_move (by exact z187_1)) ?_
   refine q_val (v := Value.int .i64 1) rfl (fun w' hw' => e_move rfl) ?_
   replace o108 := o108.chg ch188 (not_no _) (not_no _)
   replace o72 := o72.chg ch188 (not_no _) (not_no _)
   replace o65 := o65.chg ch188 (not_no _)
   replace o131 := o131.chg ch188 (not_no _) (not_no _)
   refine q_val (v := Value.pointer (some (eAddr v129 1 (Int.toNat 1)))) rfl (fun w' hw' => e_indexAddr (α := List Int) (xs := [(outR g v).1, (degR g).1, (bareR g).2.1]) (v := v129) (i := 1) Try.underlying25 rfl rfl ((vc_sl o131 (VcR.consv hv120 (o65).ro (VcR.consv hv123 (o72.flat).ro (VcR.consv hv126 (o108.flat).ro VcR.nil)))).bel hw') rfl (by omega) (by first | omega | (simp only [List.length_set, List.length_append, List.length_cons, List.length_nil, List.length_replicate, List.length_map, List.length_take, List.length_drop]; omega) | (simp; done) | (simp; omega))) ?_
   refine q_val (v := v71) rfl (fun w' hw' => e_load1 tp35_wa rfl (ow_atv hv123 (o131.bel hw') rfl)) ?_
   have len190 := (o72.flat).small
   refine q_val (v := Value.int .i64 (List.length ((degR g).1) : Int)) rfl (fun w' hw' => e_len Try.underlying35 rfl (o72.flat.bel hw')) ?_
   refine q_val (v := v129) rfl (fun w' hw' => e_move (by exact z187_1)) ?_
   refine q_val (v := Value.int .i64 1) rfl (fun w' hw' => e_move rfl) ?_
   refine q_val (v := Value.pointer (some (eAddr v129 1 (Int.toNat 1)))) rfl (fun w' hw' => e_indexAddr (α := List Int) (xs := [(outR g v).1, (degR g).1, (bareR g).2.1]) (v := v129) (i := 1) Try.underlying25 rfl rfl ((vc_sl o131 (VcR.consv hv120 (o65).ro (VcR.consv hv123 (o72.flat).ro (VcR.consv hv126 (o108.flat).ro VcR.nil)))).bel hw') rfl (by omega) (by first | omega | (simp only [List.length_set, List.length_append, List.length_cons, List.length_nil, List.length_replicate, List.length_map, List.length_take, List.length_drop]; omega) | (simp; done) | (simp; omega))) ?_
   refine q_val (v := v71) rfl (fun w' hw' => e_load1 tp35_wa rfl (ow_atv hv123 (o131.bel hw') rfl)) ?_
   have cap191 := Sl.cap o72.flat
   refine q_val (v := Value.int .i64 (sCap v71 : Int)) rfl (fun w' hw' => e_cap Try.underlying35 rfl (o72.flat.bel hw')) ?_
   refine q_call (v := Value.int .i64 (min (sCap v71 : Int) ((List.length ((degR g).1) : Int) + 2000))) rfl (fun w' hw' => e_call (vals := [Value.int .i64 (List.length ((degR g).1) : Int), Value.int .i64 (sCap v71 : Int)]) Try.func70 bd70_wa nm70_wa rfl) (fun w' hw' => (Room_ok w' (List.length ((degR g).1) : Int) (sCap v71 : Int) (by omega)).mono fun e w2 h2 => ⟨h2.1, hw'.trans (h2.2.mono hw'.size)⟩) ?_
   refine q_val (v := Value.int .i64 (min (sCap v71 : Int) ((List.length ((degR g).1) : Int) + 2000))) rfl (fun w' hw' => e_assign rfl) ?_
   refine q_nil ?_
   intro w192 hc193
   replace hc193 := chg_below hc193 g186
   refine run_seq ?_
   refine run_region rfl ?_
   refine l_val (v := Value.int .i64 (min (sCap v71 : Int) ((List.length ((degR g).1) : Int) + 2000))) rfl (e_move rfl) ?_
   refine l_val (v := Value.bool (decide (0 < (min (sCap v71 : Int) ((List.length ((degR g).1) : Int) + 2000))))) rfl (e_gtr (m := min (sCap v71 : Int) ((List.length ((degR g).1) : Int) + 2000)) (n := 0) rfl rfl) ?_
   refine l_val (v := Value.bool (decide (0 < (min (sCap v71 : Int) ((List.length ((degR g).1) : Int) + 2000))))) rfl (e_move rfl) ?_
   by_cases q25_c8 : 0 < (min (sCap v71 : Int) ((List.length ((degR g).1) : Int) + 2000))
   ·
    refine l_val (v := Value.pointer (some ⟨b40, 0, none⟩)) (want_y rfl rfl rfl (decide_eq_true q25_c8)) (e_move (by exact z187_0)) ?_
    refine l_val (v := Value.pointer (some ⟨b40, 0, none⟩)) (want_y rfl rfl rfl (decide_eq_true q25_c8)) (e_nilCheck rfl) ?_
    refine l_val (v := Value.pointer (some ⟨b40, 1, none⟩)) (want_y rfl rfl rfl (decide_eq_true q25_c8)) (e_fieldAddr Try.underlying49 rfl rfl rfl rfl) ?_
    replace bx42 := (bx42.chg ch188 (not_no _)).chg hc193 (not_no _)
    refine l_val (v := Value.int .i64 b_1_j20) (want_y rfl rfl rfl (decide_eq_true q25_c8)) (e_load_bx1 tp3_wa rfl bx42 rfl) ?_
    refine l_val (v := Value.int .i64 (min (sCap v71 : Int) ((List.length ((degR g).1) : Int) + 2000))) (want_y rfl rfl rfl (decide_eq_true q25_c8)) (e_move rfl) ?_
    refine l_val (v := Value.int .i64 (b_1_j20 + (min (sCap v71 : Int) ((List.length ((degR g).1) : Int) + 2000)))) (want_y rfl rfl rfl (decide_eq_true q25_c8)) (e_add (m := b_1_j20) (n := min (sCap v71 : Int) ((List.length ((degR g).1) : Int) + 2000)) rfl rfl (by omega)) ?_
    refine l_val (v := Value.bool (decide ((b_1_j20 + (min (sCap v71 : Int) ((List.length ((degR g).1) : Int) + 2000))) ≤ 1048576))) (want_y rfl rfl rfl (decide_eq_true q25_c8)) (e_leq (m := b_1_j20 + (min (sCap v71 : Int) ((List.length ((degR g).1) : Int) + 2000))) (n := 1048576) rfl rfl) ?_
    refine l_val (v := Value.bool (decide ((b_1_j20 + (min (sCap v71 : Int) ((List.length ((degR g).1) : Int) + 2000))) ≤ 1048576))) rfl (e_pick_t rfl (decide_eq_true q25_c8) rfl) ?_
    refine l_nil ?_
    by_cases p4_c8 : (b_1_j20 + (min (sCap v71 : Int) ((List.length ((degR g).1) : Int) + 2000))) ≤ 1048576
    ·
     refine run_cond_t rfl (decide_eq_true p4_c8) ?_
     refine run_seq ?_
     refine run_region rfl ?_
     refine l_val (v := Value.pointer (some ⟨b40, 0, none⟩)) rfl (e_move (by exact z187_0)) ?_
     refine l_val (v := Value.pointer (some ⟨b40, 0, none⟩)) rfl (e_move (by exact z187_0)) ?_
     refine l_val (v := Value.pointer (some ⟨b40, 0, none⟩)) rfl (e_nilCheck rfl) ?_
     refine l_val (v := Value.pointer (some ⟨b40, 1, none⟩)) rfl (e_fieldAddr Try.underlying49 rfl rfl rfl rfl) ?_
     refine l_val (v := Value.int .i64 b_1_j20) rfl (e_load_bx1 tp3_wa rfl bx42 rfl) ?_
     refine l_val (v := Value.int .i64 (min (sCap v71 : Int) ((List.length ((degR g).1) : Int) + 2000))) rfl (e_move rfl) ?_
     refine l_val (v := Value.int .i64 (b_1_j20 + (min (sCap v71 : Int) ((List.length ((degR g).1) : Int) + 2000)))) rfl (e_add (m := b_1_j20) (n := min (sCap v71 : Int) ((List.length ((degR g).1) : Int) + 2000)) rfl rfl (by omega)) ?_
     refine l_val (v := Value.pointer (some ⟨b40, 0, none⟩)) rfl (e_nilCheck rfl) ?_
     refine l_val (v := Value.pointer (some ⟨b40, 1, none⟩)) rfl (e_fieldAddr Try.underlying49 rfl rfl rfl rfl) ?_
     refine l_op rfl ?_
     refine o_store_bx (cs' := [b_0_j20_v, Value.int .i64 (b_1_j20 + (min (sCap v71 : Int) ((List.length ((degR g).1) : Int) + 2000)))]) tp3_wa rfl rfl bx42 rfl (Nat.le_of_ble_eq_true rfl) (AllOne.all (.cons rfl .nil)) rfl ?_
     intro w194 ch195 bx196
     clear bx42
     refine l_nil ?_
     refine run_region_x g186 [0, 1, 2, 3, 4, 5, 6, 7, 8, 11, 12] mixed_wa ?_
     intro w198 ch197
     refine x_pure (v := Value.pointer (some ⟨b40, 0, none⟩)) 0 rfl (by kernel_rfl) (by kernel_rfl) rfl (fun w => e_move (by exact z187_0)) ?_
     refine x_pure (v := Value.pointer (some ⟨b40, 0, none⟩)) 1 rfl (by kernel_rfl) (by kernel_rfl) rfl (fun w => e_move (by exact z187_0)) ?_
     refine x_pure (v := Value.pointer (some ⟨b40, 0, none⟩)) 2 rfl (by kernel_rfl) (by kernel_rfl) rfl (fun w => e_nilCheck rfl) ?_
     refine x_pure (v := Value.pointer (some ⟨b40, 0, none⟩)) 3 rfl (by kernel_rfl) (by kernel_rfl) rfl (fun w => e_fieldAddr Try.underlying49 rfl rfl rfl rfl) ?_
     replace bx196 := bx196.chg ch197 (not_no _)
     refine x_held (v := b_0_j20_v) 4 [3, 2, 1, 0, 5, 6, 7, 8, 9] rfl (by kernel_rfl) (by kernel_rfl) rfl (fun w' hw' => e_load_bx1 tp25_wa rfl (bx196.bel hw') rfl) ?_
     refine x_pure (v := v129) 5 rfl (by kernel_rfl) (by kernel_rfl) rfl (fun w => e_move (by exact z187_1)) ?_
     refine x_pure (v := Value.int .i64 1) 6 rfl (by kernel_rfl) (by kernel_rfl) rfl (fun w => e_move rfl) ?_
     have C199 : Chg (inl [4]) _ _ _ _ := (hc193.n).seq ((ch195.l rfl).seq (ch197.n))
     replace o108 := o108.chg C199 (is_nl rfl) (is_nl rfl)
     replace o72 := o72.chg C199 (is_nl rfl) (is_nl rfl)
     replace o65 := ((o65.chg hc193 (not_no _)).chg ch195 (isr_is rfl rfl)).chg ch197 (not_no _)
     replace o131 := o131.chg C199 (is_nl rfl) (is_nl rfl)
     refine x_val (v := Value.pointer (some (eAddr v129 1 (Int.toNat 1)))) 7 [6, 5, 4, 3, 2, 1, 0] rfl (by kernel_rfl) (by kernel_rfl) rfl (e_indexAddr (α := List Int) (xs := [(outR g v).1, (degR g).1, (bareR g).2.1]) (v := v129) (i := 1) Try.underlying25 rfl rfl (vc_sl o131 (VcR.consv hv120 (o65).ro (VcR.consv hv123 (o72.flat).ro (VcR.consv hv126 (o108.flat).ro VcR.nil)))) rfl (by omega) (by first | omega | (simp only [List.length_set, List.length_append, List.length_cons, List.length_nil, List.length_replicate, List.length_map, List.length_take, List.length_drop]; omega) | (simp; done) | (simp; omega))) ?_
     refine x_val (v := v71) 8 [7, 6, 5, 4, 3, 2, 1, 0] rfl (by kernel_rfl) (by kernel_rfl) rfl (e_load1 tp35_wa rfl (ow_atv hv123 o131 rfl)) ?_
     refine x_one 9 rfl (by kernel_rfl) rfl ?_
     obtain ⟨c200, hv201⟩ := vc_of (u := v71) (sl_one o72.flat)
     refine o_buildSlice (α := Vc) g186 (is 123) (is 123) (123, 0) rfl [c200] Try.underlying25 tp35_wa (by decide) (by decide) (vs := [(0, v71)]) rfl rfl (.cons (vc_els hv201 (sl_cells1 o72.flat)) .nil) ?_
     intro g202 w203 v204 ch205 o206
     refine x_one 10 rfl (by kernel_rfl) rfl ?_
     have C207 : Chg (inl [4]) _ _ _ _ := (ch188.n).seq ((hc193.n).seq ((ch195.l rfl).seq ((ch197.n).seq (ch205.n))))
     replace o_b_0_j20 := o_b_0_j20.chg C207 (is_nl rfl)
     replace o72 := o72.chg ch205 (not_no _) (not_no _)
     refine o_append_nst hv201 (α := Int) (xss := b_0_j20) (i := 17) (γ := g202) Try.underlying25 tp35_wa rfl rfl rfl o_b_0_j20 (o206.flat) o72 rfl (by decide) (by first | omega | (simp; done) | (simp; omega)) ?_
     intro g208 w209 v210 ch211 o212 r213
     clear o72
     clear o_b_0_j20
     refine x_pure (v := Value.pointer (some ⟨b40, 0, none⟩)) 11 rfl (by kernel_rfl) (by kernel_rfl) rfl (fun w => e_nilCheck rfl) ?_
     refine x_pure (v := Value.pointer (some ⟨b40, 0, none⟩)) 12 rfl (by kernel_rfl) (by kernel_rfl) rfl (fun w => e_fieldAddr Try.underlying49 rfl rfl rfl rfl) ?_
     refine x_one 13 rfl (by kernel_rfl) rfl ?_
     replace bx196 := (bx196.chg ch205 (not_no _)).chg ch211 (is_neix rfl rfl)
     refine o_store_bx1 (cs' := [v210, Value.int .i64 (b_1_j20 + (min (sCap v71 : Int) ((List.length ((degR g).1) : Int) + 2000)))]) tp25_wa rfl rfl bx196 (sl_cells1 o212.sl) (Nat.le_of_ble_eq_true rfl) (sl_one o212.sl) rfl ?_
     intro w214 ch215 bx216
     clear bx196
     refine x_nil (by kernel_rfl) ?_
     refine run_inBlock ?_
     clear o206
     have C217 : Chg (inl [4, 17, 115]) _ _ _ _ := (ch188.n).seq ((hc193.n).seq ((ch195.l rfl).seq ((ch197.n).seq ((ch205.n).seq ((ch211.lx rfl rfl).seq (ch215.l rfl))))))
     replace hbase := hbase.chg C217 (is_nl rfl)
     replace r_g_v := r_g_v.chg C217 (is_nl rfl)
     replace r_keep_v := r_keep_v.chg C217 (is_nl rfl)
     replace r_nodes_v := r_nodes_v.chg C217 (is_nl rfl)
     replace bx5 := bx5.chg C217 (is_nl rfl)
     replace o21 := o21.chg C217 (is_nl rfl) (is_nl rfl)
     replace r24 := r24.chg C217 (is_nl rfl)
     replace bx32 := bx32.chg C217 (is_nl rfl)
     replace bx60 := bx60.chg C217 (is_nl rfl)
     replace o65 := ((o65.chg ch205 (not_no _)).chg ch211 (isr_ixs rfl rfl rfl)).chg ch215 (isr_is rfl rfl)
     replace r213 := r213.chg ch215 (isr_is rfl rfl)
     replace bx84 := bx84.chg C217 (is_nl rfl)
     replace o90 := o90.chg C217 (is_nl rfl) (is_nl rfl)
     replace bx100 := bx100.chg C217 (is_nl rfl)
     replace o106 := o106.chg C217 (is_nl rfl) (is_nl rfl)
     have C218 : Chg (inl [4, 17, 115]) _ _ _ _ := (ch205.n).seq ((ch211.lx rfl rfl).seq (ch215.l rfl))
     replace o108 := o108.chg C218 (is_nl rfl) (is_nl rfl)
     replace bx118 := bx118.chg C217 (is_nl rfl)
     replace o131 := o131.chg C218 (is_nl rfl) (is_nl rfl)
     replace o212 := o212.chg ch215 (is_ne rfl)
     refine mid_j21 (v210, (b_0_j20 ++ [(degR g).1]), b_1_j20 + (min (sCap v71 : Int) ((List.length ((degR g).1) : Int) + 2000)), g208) _ _ ⟨hbase, (by exact z187_0), (by exact z187_1), rfl, r_g_v, r_keep_v, r_nodes_v, bx5, o21, r24, bx32, bx216, bx60, o65, r213, bx84, o90, bx100, o106, o108, bx118, o131, o212, ?_⟩
     show KInv (b_0_j20 ++ [(degR g).1]) (b_1_j20 + (min (sCap v71 : Int) ((List.length ((degR g).1) : Int) + 2000)))
     first | assumption | exact KInv.nil | exact (KInv.add (by first | assumption | exact KInv.nil) (by omega) (by omega) (by omega))
    refine run_cond_f rfl (decide_eq_false p4_c8) ?_
    refine run_skip ?_
    refine run_inBlock ?_
    replace hbase := hbase.chg ch188 (not_no _)
    replace hbase := hbase.chg hc193 (not_no _)
    replace r_g_v := (r_g_v.chg ch188 (not_no _)).chg hc193 (not_no _)
    replace r_keep_v := (r_keep_v.chg ch188 (not_no _)).chg hc193 (not_no _)
    replace r_nodes_v := (r_nodes_v.chg ch188 (not_no _)).chg hc193 (not_no _)
    replace bx5 := (bx5.chg ch188 (not_no _)).chg hc193 (not_no _)
    replace o21 := (o21.chg ch188 (not_no _) (not_no _)).chg hc193 (not_no _) (not_no _)
    replace r24 := (r24.chg ch188 (not_no _)).chg hc193 (not_no _)
    replace bx32 := (bx32.chg ch188 (not_no _)).chg hc193 (not_no _)
    replace bx60 := (bx60.chg ch188 (not_no _)).chg hc193 (not_no _)
    replace o65 := o65.chg hc193 (not_no _)
    replace o72 := o72.chg hc193 (not_no _) (not_no _)
    replace bx84 := (bx84.chg ch188 (not_no _)).chg hc193 (not_no _)
    replace o90 := (o90.chg ch188 (not_no _) (not_no _)).chg hc193 (not_no _) (not_no _)
    replace bx100 := (bx100.chg ch188 (not_no _)).chg hc193 (not_no _)
    replace o106 := (o106.chg ch188 (not_no _) (not_no _)).chg hc193 (not_no _) (not_no _)
    replace o108 := o108.chg hc193 (not_no _) (not_no _)
    replace bx118 := (bx118.chg ch188 (not_no _)).chg hc193 (not_no _)
    replace o131 := o131.chg hc193 (not_no _) (not_no _)
    replace o_b_0_j20 := (o_b_0_j20.chg ch188 (not_no _)).chg hc193 (not_no _)
    refine mid_j21 (b_0_j20_v, b_0_j20, b_1_j20, g186) _ _ ⟨hbase, (by exact z187_0), (by exact z187_1), rfl, r_g_v, r_keep_v, r_nodes_v, bx5, o21, r24, bx32, bx42, bx60, o65, o72.slk, bx84, o90, bx100, o106, o108, bx118, o131, o_b_0_j20, ?_⟩
    show KInv b_0_j20 b_1_j20
    first | assumption | exact KInv.nil | exact (KInv.add (by first | assumption | exact KInv.nil) (by omega) (by omega) (by omega))
   refine l_skip (want_n rfl rfl rfl (decide_eq_false q25_c8)) ?_
   refine l_skip (want_n rfl rfl rfl (decide_eq_false q25_c8)) ?_
   refine l_skip (want_n rfl rfl rfl (decide_eq_false q25_c8)) ?_
   refine l_skip (want_n rfl rfl rfl (decide_eq_false q25_c8)) ?_
   refine l_skip (want_n rfl rfl rfl (decide_eq_false q25_c8)) ?_
   refine l_skip (want_n rfl rfl rfl (decide_eq_false q25_c8)) ?_
   refine l_skip (want_n rfl rfl rfl (decide_eq_false q25_c8)) ?_
   refine l_val (v := Value.bool false) rfl (e_pick_f rfl (decide_eq_false q25_c8) rfl) ?_
   refine l_nil ?_
   refine run_cond_f rfl rfl ?_
   refine run_skip ?_
   refine run_inBlock ?_
   replace hbase := hbase.chg ch188 (not_no _)
   replace hbase := hbase.chg hc193 (not_no _)
   replace r_g_v := (r_g_v.chg ch188 (not_no _)).chg hc193 (not_no _)
   replace r_keep_v := (r_keep_v.chg ch188 (not_no _)).chg hc193 (not_no _)
   replace r_nodes_v := (r_nodes_v.chg ch188 (not_no _)).chg hc193 (not_no _)
   replace bx5 := (bx5.chg ch188 (not_no _)).chg hc193 (not_no _)
   replace o21 := (o21.chg ch188 (not_no _) (not_no _)).chg hc193 (not_no _) (not_no _)
   replace r24 := (r24.chg ch188 (not_no _)).chg hc193 (not_no _)
   replace bx32 := (bx32.chg ch188 (not_no _)).chg hc193 (not_no _)
   replace bx42 := (bx42.chg ch188 (not_no _)).chg hc193 (not_no _)
   replace bx60 := (bx60.chg ch188 (not_no _)).chg hc193 (not_no _)
   replace o65 := o65.chg hc193 (not_no _)
   replace o72 := o72.chg hc193 (not_no _) (not_no _)
   replace bx84 := (bx84.chg ch188 (not_no _)).chg hc193 (not_no _)
   replace o90 := (o90.chg ch188 (not_no _) (not_no _)).chg hc193 (not_no _) (not_no _)
   replace bx100 := (bx100.chg ch188 (not_no _)).chg hc193 (not_no _)
   replace o106 := (o106.chg ch188 (not_no _) (not_no _)).chg hc193 (not_no _) (not_no _)
   replace o108 := o108.chg hc193 (not_no _) (not_no _)
   replace bx118 := (bx118.chg ch188 (not_no _)).chg hc193 (not_no _)
   replace o131 := o131.chg hc193 (not_no _) (not_no _)
   replace o_b_0_j20 := (o_b_0_j20.chg ch188 (not_no _)).chg hc193 (not_no _)
   refine mid_j21 (b_0_j20_v, b_0_j20, b_1_j20, g186) _ _ ⟨hbase, (by exact z187_0), (by exact z187_1), rfl, r_g_v, r_keep_v, r_nodes_v, bx5, o21, r24, bx32, bx42, bx60, o65, o72.slk, bx84, o90, bx100, o106, o108, bx118, o131, o_b_0_j20, ?_⟩
   show KInv b_0_j20 b_1_j20
   first | assumption | exact KInv.nil | exact (KInv.add (by first | assumption | exact KInv.nil) (by omega) (by omega) (by omega))
  clear r_g_v
  clear r_keep_v
  clear r_nodes_v
  clear bx5
  clear o21
  clear r24
  clear bx32
  clear bx42
  clear bx60
  clear o65
  clear o72
  clear bx84
  clear o90
  clear bx100
  clear o106
  clear o108
  clear bx118
  clear o131
  clear o_b_0_j20
  clear hbase
  rintro ⟨b_0_j21_v, b_0_j21, b_1_j21, g221⟩ f219 w220 ⟨hbase, z222_0, z222_1, z222_4, r_g_v, r_keep_v, r_nodes_v, bx5, o21, r24, bx32, bx42, bx60, o65, o72, bx84, o90, bx100, o106, o108, bx118, o131, o_b_0_j21, hj_j21⟩
  obtain ⟨hja_j21, hjb_j21, hjc_j21⟩ := hj_j21.len
  refine run_region rfl ?_
  refine l_val (v := Value.int .i64 1) rfl (e_move (by exact z222_4)) ?_
  refine l_val (v := Value.int .i64 2) rfl (e_add (m := 1) (n := 1) rfl rfl (by omega)) ?_
  refine l_val (v := Value.int .i64 2) rfl (e_assign rfl) ?_
  refine l_nil ?_
  refine run_inLoop ?_
  refine run_seq ?_
  refine run_seq ?_
  refine run_region rfl ?_
  refine l_val (v := Value.int .i64 2) rfl (e_move rfl) ?_
  refine l_val (v := v129) rfl (e_move (by exact z222_1)) ?_
  refine l_val (v := Value.int .i64 3) rfl (e_len (α := Vc) (xs := [c119, c122, c125]) Try.underlying25 rfl o131.flat) ?_
  refine l_val (v := Value.bool true) rfl (e_lss (m := 2) (n := 3) rfl rfl) ?_
  refine l_nil ?_
  refine run_cond_t rfl rfl ?_
  refine run_skip ?_
  refine run_seq ?_
  refine run_block ?_
  refine run_seq ?_
  refine run_mid [false, true, false, false, false] (σ := Value × (List (List Int)) × Int × Cmap) (fun ⟨b_0_j22_v, b_0_j22, b_1_j22, gq⟩ f w => Base w0 gq w ∧ f 0 = Value.pointer (some ⟨b40, 0, none⟩) ∧ f 1 = v129 ∧ f 4 = Value.int .i64 2 ∧ Sl gq (is 0) w g_v g.2 ∧ Sl gq (is 0) w keep_v keep ∧ Sl gq (is 0) w nodes_v nodes ∧ Bx gq (is 1) w b3 [Value.int .i64 g.1, g_v] ∧ Ow gq (is 2) (is 2) w (upV v20) (g.2 ++ [((-7 : Int), (7 : Int))]) ∧ Sl gq (is 2) w v20 g.2 ∧ Bx gq (is 3) w b27 [Value.int .i64 g.1, v20] ∧ Bx gq (is 4) w b40 [b_0_j22_v, Value.int .i64 b_1_j22] ∧ Bx gq (is 113) w b58 [Value.int .i64 g.1, g_v] ∧ Sl gq (isr 114 17) w v64 ((outR g v).1) ∧ Sl gq (isr 115 17) w v71 ((degR g).1) ∧ Bx gq (is 116) w b79 [Value.int .i64 (((lookR g).1).1), Value.int .i64 ((((lookR g).1).2).1), Value.int .i64 (((((lookR g).1).2).2).1), Value.int .i64 ((((((lookR g).1).2).2).2).1), Value.bool ((((((lookR g).1).2).2).2).2)] ∧ Ow gq (is 117) (is 117) w v89 (((splitR g e).1).2) ∧ Bx gq (is 118) w b95 [Value.int .i64 (((splitR g e).1).1), v89] ∧ Ow gq (is 119) (is 119) w v105 (((bareR g).1).2) ∧ Sl gq (isr 120 17) w v107 ((bareR g).2.1) ∧ Bx gq (is 121) w b113 [Value.int .i64 (((bareR g).1).1), v105] ∧ Ow gq (is 122) (is 122) w v129 ([c119, c122, c125]) ∧ Nst gq 17 w b_0_j22_v b_0_j22 ∧ (KInv b_0_j22 b_1_j22)) ?_ ?_
  ·
   intro mid_j22
   refine region_q g221 rfl mixed_wa (by kernel_rfl) ?_
   intro w224 ch223
   refine q_val (v := v129) rfl (fun w' hw' => e_move (by exact z222_1)) ?_
   refine q_val (v := Value.int .i64 2) rfl (fun w' hw' => e_move rfl) ?_
   replace o108 := o108.chg ch223 (not_no _) (not_no _)
   replace o72 := o72.chg ch223 (not_no _)
   replace o65 := o65.chg ch223 (not_no _)
   replace o131 := o131.chg ch223 (not_no _) (not_no _)
   refine q_val (v := Value.pointer (some (eAddr v129 1 (Int.toNat 2)))) rfl (fun w' hw' => e_indexAddr (α := List Int) (xs := [(outR g v).1, (degR g).1, (bareR g).2.1]) (v := v129) (i := 2) Try.underlying25 rfl rfl ((vc_sl o131 (VcR.consv hv120 (o65).ro (VcR.consv hv123 (o72).ro (VcR.consv hv126 (o108.flat).ro VcR.nil)))).bel hw') rfl (by omega) (by first | omega | (simp only [List.length_set, List.length_append, List.length_cons, List.length_nil, List.length_replicate, List.length_map, List.length_take, List.length_drop]; omega) | (simp; done) | (simp; omega))) ?_
   refine q_val (v := v107) rfl (fun w' hw' => e_load1 tp35_wa rfl (ow_atv hv126 (o131.bel hw') rfl)) ?_
   have len225 := (o108.flat).small
   refine q_val (v := Value.int .i64 (List.length ((bareR g).2.1) : Int)) rfl (fun w' hw' => e_len Try.underlying35 rfl (o108.flat.bel hw')) ?_
   refine q_val (v := v129) rfl (fun w' hw' => e_move (by exact z222_1)) ?_
   refine q_val (v := Value.int .i64 2) rfl (fun w' hw' => e_move rfl) ?_
   refine q_val (v := Value.pointer (some (eAddr v129 1 (Int.toNat 2)))) rfl (fun w' hw' => e_indexAddr (α := List Int) (xs := [(outR g v).1, (degR g).1, (bareR g).2.1]) (v := v129) (i := 2) Try.underlying25 rfl rfl ((vc_sl o131 (VcR.consv hv120 (o65).ro (VcR.consv hv123 (o72).ro (VcR.consv hv126 (o108.flat).ro VcR.nil)))).bel hw') rfl (by omega) (by first | omega | (simp only [List.length_set, List.length_append, List.length_cons, List.length_nil, List.length_replicate, List.length_map, List.length_take, List.length_drop]; omega) | (simp; done) | (simp; omega))) ?_
   refine q_val (v := v107) rfl (fun w' hw' => e_load1 tp35_wa rfl (ow_atv hv126 (o131.bel hw') rfl)) ?_
   have cap226 := Sl.cap o108.flat
   refine q_val (v := Value.int .i64 (sCap v107 : Int)) rfl (fun w' hw' => e_cap Try.underlying35 rfl (o108.flat.bel hw')) ?_
   refine q_call (v := Value.int .i64 (min (sCap v107 : Int) ((List.length ((bareR g).2.1) : Int) + 2000))) rfl (fun w' hw' => e_call (vals := [Value.int .i64 (List.length ((bareR g).2.1) : Int), Value.int .i64 (sCap v107 : Int)]) Try.func70 bd70_wa nm70_wa rfl) (fun w' hw' => (Room_ok w' (List.length ((bareR g).2.1) : Int) (sCap v107 : Int) (by omega)).mono fun e w2 h2 => ⟨h2.1, hw'.trans (h2.2.mono hw'.size)⟩) ?_
   refine q_val (v := Value.int .i64 (min (sCap v107 : Int) ((List.length ((bareR g).2.1) : Int) + 2000))) rfl (fun w' hw' => e_assign rfl) ?_
   refine q_nil ?_
   intro w227 hc228
   replace hc228 := chg_below hc228 g221
   refine run_seq ?_
   refine run_region rfl ?_
   refine l_val (v := Value.int .i64 (min (sCap v107 : Int) ((List.length ((bareR g).2.1) : Int) + 2000))) rfl (e_move rfl) ?_
   refine l_val (v := Value.bool (decide (0 < (min (sCap v107 : Int) ((List.length ((bareR g).2.1) : Int) + 2000))))) rfl (e_gtr (m := min (sCap v107 : Int) ((List.length ((bareR g).2.1) : Int) + 2000)) (n := 0) rfl rfl) ?_
   refine l_val (v := Value.bool (decide (0 < (min (sCap v107 : Int) ((List.length ((bareR g).2.1) : Int) + 2000))))) rfl (e_move rfl) ?_
   by_cases q25_c8 : 0 < (min (sCap v107 : Int) ((List.length ((bareR g).2.1) : Int) + 2000))
   ·
    refine l_val (v := Value.pointer (some ⟨b40, 0, none⟩)) (want_y rfl rfl rfl (decide_eq_true q25_c8)) (e_move (by exact z222_0)) ?_
    refine l_val (v := Value.pointer (some ⟨b40, 0, none⟩)) (want_y rfl rfl rfl (decide_eq_true q25_c8)) (e_nilCheck rfl) ?_
    refine l_val (v := Value.pointer (some ⟨b40, 1, none⟩)) (want_y rfl rfl rfl (decide_eq_true q25_c8)) (e_fieldAddr Try.underlying49 rfl rfl rfl rfl) ?_
    replace bx42 := (bx42.chg ch223 (not_no _)).chg hc228 (not_no _)
    refine l_val (v := Value.int .i64 b_1_j21) (want_y rfl rfl rfl (decide_eq_true q25_c8)) (e_load_bx1 tp3_wa rfl bx42 rfl) ?_
    refine l_val (v := Value.int .i64 (min (sCap v107 : Int) ((List.length ((bareR g).2.1) : Int) + 2000))) (want_y rfl rfl rfl (decide_eq_true q25_c8)) (e_move rfl) ?_
    refine l_val (v := Value.int .i64 (b_1_j21 + (min (sCap v107 : Int) ((List.length ((bareR g).2.1) : Int) + 2000)))) (want_y rfl rfl rfl (decide_eq_true q25_c8)) (e_add (m := b_1_j21) (n := min (sCap v107 : Int) ((List.length ((bareR g).2.1) : Int) + 2000)) rfl rfl (by omega)) ?_
    refine l_val (v := Value.bool (decide ((b_1_j21 + (min (sCap v107 : Int) ((List.length ((bareR g).2.1) : Int) + 2000))) ≤ 1048576))) (want_y rfl rfl rfl (decide_eq_true q25_c8)) (e_leq (m := b_1_j21 + (min (sCap v107 : Int) ((List.length ((bareR g).2.1) : Int) + 2000))) (n := 1048576) rfl rfl) ?_
    refine l_val (v := Value.bool (decide ((b_1_j21 + (min (sCap v107 : Int) ((List.length ((bareR g).2.1) : Int) + 2000))) ≤ 1048576))) rfl (e_pick_t rfl (decide_eq_true q25_c8) rfl) ?_
    refine l_nil ?_
    by_cases p4_c8 : (b_1_j21 + (min (sCap v107 : Int) ((List.length ((bareR g).2.1) : Int) + 2000))) ≤ 1048576
    ·
     refine run_cond_t rfl (decide_eq_true p4_c8) ?_
     refine run_seq ?_
     refine run_region rfl ?_
     refine l_val (v := Value.pointer (some ⟨b40, 0, none⟩)) rfl (e_move (by exact z222_0)) ?_
     refine l_val (v := Value.pointer (some ⟨b40, 0, none⟩)) rfl (e_move (by exact z222_0)) ?_
     refine l_val (v := Value.pointer (some ⟨b40, 0, none⟩)) rfl (e_nilCheck rfl) ?_
     refine l_val (v := Value.pointer (some ⟨b40, 1, none⟩)) rfl (e_fieldAddr Try.underlying49 rfl rfl rfl rfl) ?_
     refine l_val (v := Value.int .i64 b_1_j21) rfl (e_load_bx1 tp3_wa rfl bx42 rfl) ?_
     refine l_val (v := Value.int .i64 (min (sCap v107 : Int) ((List.length ((bareR g).2.1) : Int) + 2000))) rfl (e_move rfl) ?_
     refine l_val (v := Value.int .i64 (b_1_j21 + (min (sCap v107 : Int) ((List.length ((bareR g).2.1) : Int) + 2000)))) rfl (e_add (m := b_1_j21) (n := min (sCap v107 : Int) ((List.length ((bareR g).2.1) : Int) + 2000)) rfl rfl (by omega)) ?_
     refine l_val (v := Value.pointer (some ⟨b40, 0, none⟩)) rfl (e_nilCheck rfl) ?_
     refine l_val (v := Value.pointer (some ⟨b40, 1, none⟩)) rfl (e_fieldAddr Try.underlying49 rfl rfl rfl rfl) ?_
     refine l_op rfl ?_
     refine o_store_bx (cs' := [b_0_j21_v, Value.int .i64 (b_1_j21 + (min (sCap v107 : Int) ((List.length ((bareR g).2.1) : Int) + 2000)))]) tp3_wa rfl rfl bx42 rfl (Nat.le_of_ble_eq_true rfl) (AllOne.all (.cons rfl .nil)) rfl ?_
     intro w229 ch230 bx231
     clear bx42
     refine l_nil ?_
     refine run_region_x g221 [0, 1, 2, 3, 4, 5, 6, 7, 8, 11, 12] mixed_wa ?_
     intro w233 ch232
     refine x_pure (v := Value.pointer (some ⟨b40, 0, none⟩)) 0 rfl (by kernel_rfl) (by kernel_rfl) rfl (fun w => e_move (by exact z222_0)) ?_
     refine x_pure (v := Value.pointer (some ⟨b40, 0, none⟩)) 1 rfl (by kernel_rfl) (by kernel_rfl) rfl (fun w => e_move (by exact z222_0)) ?_
     refine x_pure (v := Value.pointer (some ⟨b40, 0, none⟩)) 2 rfl (by kernel_rfl) (by kernel_rfl) rfl (fun w => e_nilCheck rfl) ?_
     refine x_pure (v := Value.pointer (some ⟨b40, 0, none⟩)) 3 rfl (by kernel_rfl) (by kernel_rfl) rfl (fun w => e_fieldAddr Try.underlying49 rfl rfl rfl rfl) ?_
     replace bx231 := bx231.chg ch232 (not_no _)
     refine x_held (v := b_0_j21_v) 4 [3, 2, 1, 0, 5, 6, 7, 8, 9] rfl (by kernel_rfl) (by kernel_rfl) rfl (fun w' hw' => e_load_bx1 tp25_wa rfl (bx231.bel hw') rfl) ?_
     refine x_pure (v := v129) 5 rfl (by kernel_rfl) (by kernel_rfl) rfl (fun w => e_move (by exact z222_1)) ?_
     refine x_pure (v := Value.int .i64 2) 6 rfl (by kernel_rfl) (by kernel_rfl) rfl (fun w => e_move rfl) ?_
     have C234 : Chg (inl [4]) _ _ _ _ := (hc228.n).seq ((ch230.l rfl).seq (ch232.n))
     replace o108 := o108.chg C234 (is_nl rfl) (is_nl rfl)
     replace o72 := ((o72.chg hc228 (not_no _)).chg ch230 (isr_is rfl rfl)).chg ch232 (not_no _)
     replace o65 := ((o65.chg hc228 (not_no _)).chg ch230 (isr_is rfl rfl)).chg ch232 (not_no _)
     replace o131 := o131.chg C234 (is_nl rfl) (is_nl rfl)
     refine x_val (v := Value.pointer (some (eAddr v129 1 (Int.toNat 2)))) 7 [6, 5, 4, 3, 2, 1, 0] rfl (by kernel_rfl) (by kernel_rfl) rfl (e_indexAddr (α := List Int) (xs := [(outR g v).1, (degR g).1, (bareR g).2.1]) (v := v129) (i := 2) Try.underlying25 rfl rfl (vc_sl o131 (VcR.consv hv120 (o65).ro (VcR.consv hv123 (o72).ro (VcR.consv hv126 (o108.flat).ro VcR.nil)))) rfl (by omega) (by first | omega | (simp only [List.length_set, List.length_append, List.length_cons, List.length_nil, List.length_replicate, List.length_map, List.length_take, List.length_drop]; omega) | (simp; done) | (simp; omega))) ?_
     refine x_val (v := v107) 8 [7, 6, 5, 4, 3, 2, 1, 0] rfl (by kernel_rfl) (by kernel_rfl) rfl (e_load1 tp35_wa rfl (ow_atv hv126 o131 rfl)) ?_
     refine x_one 9 rfl (by kernel_rfl) rfl ?_
     obtain ⟨c235, hv236⟩ := vc_of (u := v107) (sl_one o108.flat)
     refine o_buildSlice (α := Vc) g221 (is 123) (is 123) (123, 0) rfl [c235] Try.underlying25 tp35_wa (by decide) (by decide) (vs := [(0, v107)]) rfl rfl (.cons (vc_els hv236 (sl_cells1 o108.flat)) .nil) ?_
     intro g237 w238 v239 ch240 o241
     refine x_one 10 rfl (by kernel_rfl) rfl ?_
     have C242 : Chg (inl [4]) _ _ _ _ := (ch223.n).seq ((hc228.n).seq ((ch230.l rfl).seq ((ch232.n).seq (ch240.n))))
     replace o_b_0_j21 := o_b_0_j21.chg C242 (is_nl rfl)
     replace o108 := o108.chg ch240 (not_no _) (not_no _)
     refine o_append_nst hv236 (α := Int) (xss := b_0_j21) (i := 17) (γ := g237) Try.underlying25 tp35_wa rfl rfl rfl o_b_0_j21 (o241.flat) o108 rfl (by decide) (by first | omega | (simp; done) | (simp; omega)) ?_
     intro g243 w244 v245 ch246 o247 r248
     clear o108
     clear o_b_0_j21
     refine x_pure (v := Value.pointer (some ⟨b40, 0, none⟩)) 11 rfl (by kernel_rfl) (by kernel_rfl) rfl (fun w => e_nilCheck rfl) ?_
     refine x_pure (v := Value.pointer (some ⟨b40, 0, none⟩)) 12 rfl (by kernel_rfl) (by kernel_rfl) rfl (fun w => e_fieldAddr Try.underlying49 rfl rfl rfl rfl) ?_
     refine x_one 13 rfl (by kernel_rfl) rfl ?_
     replace bx231 := (bx231.chg ch240 (not_no _)).chg ch246 (is_neix rfl rfl)
     refine o_store_bx1 (cs' := [v245, Value.int .i64 (b_1_j21 + (min (sCap v107 : Int) ((List.length ((bareR g).2.1) : Int) + 2000)))]) tp25_wa rfl rfl bx231 (sl_cells1 o247.sl) (Nat.le_of_ble_eq_true rfl) (sl_one o247.sl) rfl ?_
     intro w249 ch250 bx251
     clear bx231
     refine x_nil (by kernel_rfl) ?_
     refine run_inBlock ?_
     clear o241
     have C252 : Chg (inl [4, 17, 120]) _ _ _ _ := (ch223.n).seq ((hc228.n).seq ((ch230.l rfl).seq ((ch232.n).seq ((ch240.n).seq ((ch246.lx rfl rfl).seq (ch250.l rfl))))))
     replace hbase := hbase.chg C252 (is_nl rfl)
     replace r_g_v := r_g_v.chg C252 (is_nl rfl)
     replace r_keep_v := r_keep_v.chg C252 (is_nl rfl)
     replace r_nodes_v := r_nodes_v.chg C252 (is_nl rfl)
     replace bx5 := bx5.chg C252 (is_nl rfl)
     replace o21 := o21.chg C252 (is_nl rfl) (is_nl rfl)
     replace r24 := r24.chg C252 (is_nl rfl)
     replace bx32 := bx32.chg C252 (is_nl rfl)
     replace bx60 := bx60.chg C252 (is_nl rfl)
     replace o65 := ((o65.chg ch240 (not_no _)).chg ch246 (isr_ixs rfl rfl rfl)).chg ch250 (isr_is rfl rfl)
     replace o72 := ((o72.chg ch240 (not_no _)).chg ch246 (isr_ixs rfl rfl rfl)).chg ch250 (isr_is rfl rfl)
     replace bx84 := bx84.chg C252 (is_nl rfl)
     replace o90 := o90.chg C252 (is_nl rfl) (is_nl rfl)
     replace bx100 := bx100.chg C252 (is_nl rfl)
     replace o106 := o106.chg C252 (is_nl rfl) (is_nl rfl)
     replace r248 := r248.chg ch250 (isr_is rfl rfl)
     replace bx118 := bx118.chg C252 (is_nl rfl)
     have C253 : Chg (inl [4, 17, 120]) _ _ _ _ := (ch240.n).seq ((ch246.lx rfl rfl).seq (ch250.l rfl))
     replace o131 := o131.chg C253 (is_nl rfl) (is_nl rfl)
     replace o247 := o247.chg ch250 (is_ne rfl)
     refine mid_j22 (v245, (b_0_j21 ++ [(bareR g).2.1]), b_1_j21 + (min (sCap v107 : Int) ((List.length ((bareR g).2.1) : Int) + 2000)), g243) _ _ ⟨hbase, (by exact z222_0), (by exact z222_1), rfl, r_g_v, r_keep_v, r_nodes_v, bx5, o21, r24, bx32, bx251, bx60, o65, o72, bx84, o90, bx100, o106, r248, bx118, o131, o247, ?_⟩
     show KInv (b_0_j21 ++ [(bareR g).2.1]) (b_1_j21 + (min (sCap v107 : Int) ((List.length ((bareR g).2.1) : Int) + 2000)))
     first | assumption | exact KInv.nil | exact (KInv.add (by first | assumption | exact KInv.nil) (by omega) (by omega) (by omega))
    refine run_cond_f rfl (decide_eq_false p4_c8) ?_
    refine run_skip ?_
    refine run_inBlock ?_
    replace hbase := hbase.chg ch223 (not_no _)
    replace hbase := hbase.chg hc228 (not_no _)
    replace r_g_v := (r_g_v.chg ch223 (not_no _)).chg hc228 (not_no _)
    replace r_keep_v := (r_keep_v.chg ch223 (not_no _)).chg hc228 (not_no _)
    replace r_nodes_v := (r_nodes_v.chg ch223 (not_no _)).chg hc228 (not_no _)
    replace bx5 := (bx5.chg ch223 (not_no _)).chg hc228 (not_no _)
    replace o21 := (o21.chg ch223 (not_no _) (not_no _)).chg hc228 (not_no _) (not_no _)
    replace r24 := (r24.chg ch223 (not_no _)).chg hc228 (not_no _)
    replace bx32 := (bx32.chg ch223 (not_no _)).chg hc228 (not_no _)
    replace bx60 := (bx60.chg ch223 (not_no _)).chg hc228 (not_no _)
    replace o65 := o65.chg hc228 (not_no _)
    replace o72 := o72.chg hc228 (not_no _)
    replace bx84 := (bx84.chg ch223 (not_no _)).chg hc228 (not_no _)
    replace o90 := (o90.chg ch223 (not_no _) (not_no _)).chg hc228 (not_no _) (not_no _)
    replace bx100 := (bx100.chg ch223 (not_no _)).chg hc228 (not_no _)
    replace o106 := (o106.chg ch223 (not_no _) (not_no _)).chg hc228 (not_no _) (not_no _)
    replace o108 := o108.chg hc228 (not_no _) (not_no _)
    replace bx118 := (bx118.chg ch223 (not_no _)).chg hc228 (not_no _)
    replace o131 := o131.chg hc228 (not_no _) (not_no _)
    replace o_b_0_j21 := (o_b_0_j21.chg ch223 (not_no _)).chg hc228 (not_no _)
    refine mid_j22 (b_0_j21_v, b_0_j21, b_1_j21, g221) _ _ ⟨hbase, (by exact z222_0), (by exact z222_1), rfl, r_g_v, r_keep_v, r_nodes_v, bx5, o21, r24, bx32, bx42, bx60, o65, o72, bx84, o90, bx100, o106, o108.slk, bx118, o131, o_b_0_j21, ?_⟩
    show KInv b_0_j21 b_1_j21
    first | assumption | exact KInv.nil | exact (KInv.add (by first | assumption | exact KInv.nil) (by omega) (by omega) (by omega))
   refine l_skip (want_n rfl rfl rfl (decide_eq_false q25_c8)) ?_
   refine l_skip (want_n rfl rfl rfl (decide_eq_false q25_c8)) ?_
   refine l_skip (want_n rfl rfl rfl (decide_eq_false q25_c8)) ?_
   refine l_skip (want_n rfl rfl rfl (decide_eq_false q25_c8)) ?_
   refine l_skip (want_n rfl rfl rfl (decide_eq_false q25_c8)) ?_
   refine l_skip (want_n rfl rfl rfl (decide_eq_false q25_c8)) ?_
   refine l_skip (want_n rfl rfl rfl (decide_eq_false q25_c8)) ?_
   refine l_val (v := Value.bool false) rfl (e_pick_f rfl (decide_eq_false q25_c8) rfl) ?_
   refine l_nil ?_
   refine run_cond_f rfl rfl ?_
   refine run_skip ?_
   refine run_inBlock ?_
   replace hbase := hbase.chg ch223 (not_no _)
   replace hbase := hbase.chg hc228 (not_no _)
   replace r_g_v := (r_g_v.chg ch223 (not_no _)).chg hc228 (not_no _)
   replace r_keep_v := (r_keep_v.chg ch223 (not_no _)).chg hc228 (not_no _)
   replace r_nodes_v := (r_nodes_v.chg ch223 (not_no _)).chg hc228 (not_no _)
   replace bx5 := (bx5.chg ch223 (not_no _)).chg hc228 (not_no _)
   replace o21 := (o21.chg ch223 (not_no _) (not_no _)).chg hc228 (not_no _) (not_no _)
   replace r24 := (r24.chg ch223 (not_no _)).chg hc228 (not_no _)
   replace bx32 := (bx32.chg ch223 (not_no _)).chg hc228 (not_no _)
   replace bx42 := (bx42.chg ch223 (not_no _)).chg hc228 (not_no _)
   replace bx60 := (bx60.chg ch223 (not_no _)).chg hc228 (not_no _)
   replace o65 := o65.chg hc228 (not_no _)
   replace o72 := o72.chg hc228 (not_no _)
   replace bx84 := (bx84.chg ch223 (not_no _)).chg hc228 (not_no _)
   replace o90 := (o90.chg ch223 (not_no _) (not_no _)).chg hc228 (not_no _) (not_no _)
   replace bx100 := (bx100.chg ch223 (not_no _)).chg hc228 (not_no _)
   replace o106 := (o106.chg ch223 (not_no _) (not_no _)).chg hc228 (not_no _) (not_no _)
   replace o108 := o108.chg hc228 (not_no _) (not_no _)
   replace bx118 := (bx118.chg ch223 (not_no _)).chg hc228 (not_no _)
   replace o131 := o131.chg hc228 (not_no _) (not_no _)
   replace o_b_0_j21 := (o_b_0_j21.chg ch223 (not_no _)).chg hc228 (not_no _)
   refine mid_j22 (b_0_j21_v, b_0_j21, b_1_j21, g221) _ _ ⟨hbase, (by exact z222_0), (by exact z222_1), rfl, r_g_v, r_keep_v, r_nodes_v, bx5, o21, r24, bx32, bx42, bx60, o65, o72, bx84, o90, bx100, o106, o108.slk, bx118, o131, o_b_0_j21, ?_⟩
   show KInv b_0_j21 b_1_j21
   first | assumption | exact KInv.nil | exact (KInv.add (by first | assumption | exact KInv.nil) (by omega) (by omega) (by omega))
  clear r_g_v
  clear r_keep_v
  clear r_nodes_v
  clear bx5
  clear o21
  clear r24
  clear bx32
  clear bx42
  clear bx60
  clear o65
  clear o72
  clear bx84
  clear o90
  clear bx100
  clear o106
  clear o108
  clear bx118
  clear o131
  clear o_b_0_j21
  clear hbase
  rintro ⟨b_0_j22_v, b_0_j22, b_1_j22, g256⟩ f254 w255 ⟨hbase, z257_0, z257_1, z257_4, r_g_v, r_keep_v, r_nodes_v, bx5, o21, r24, bx32, bx42, bx60, o65, o72, bx84, o90, bx100, o106, o108, bx118, o131, o_b_0_j22, hj_j22⟩
  obtain ⟨hja_j22, hjb_j22, hjc_j22⟩ := hj_j22.len
  refine run_region rfl ?_
  refine l_val (v := Value.int .i64 2) rfl (e_move (by exact z257_4)) ?_
  refine l_val (v := Value.int .i64 3) rfl (e_add (m := 2) (n := 1) rfl rfl (by omega)) ?_
  refine l_val (v := Value.int .i64 3) rfl (e_assign rfl) ?_
  refine l_nil ?_
  refine run_inLoop ?_
  refine run_seq ?_
  refine run_seq ?_
  refine run_region rfl ?_
  refine l_val (v := Value.int .i64 3) rfl (e_move rfl) ?_
  refine l_val (v := v129) rfl (e_move (by exact z257_1)) ?_
  refine l_val (v := Value.int .i64 3) rfl (e_len (α := Vc) (xs := [c119, c122, c125]) Try.underlying25 rfl o131.flat) ?_
  refine l_val (v := Value.bool false) rfl (e_lss (m := 3) (n := 3) rfl rfl) ?_
  refine l_nil ?_
  refine run_cond_f rfl rfl ?_
  refine run_exit rfl ?_
  refine run_end (vs := []) Try.func58 .nil ?_
  refine ⟨(b_0_j22_v, b_0_j22, b_1_j22, g256), rfl, hbase, r_g_v, r_keep_v, r_nodes_v, bx5, o21, r24, bx32, bx42, bx60, o65, o72, bx84, o90, bx100, o106, o108, bx118, o131, o_b_0_j22, ?_⟩
  show KInv b_0_j22 b_1_j22
  first | assumption | exact KInv.nil | exact (KInv.add (by first | assumption | exact KInv.nil) (by omega) (by omega) (by omega))
 clear r_g_v
 clear r_keep_v
 clear r_nodes_v
 clear bx5
 clear o21
 clear r24
 clear bx32
 clear bx42
 clear o_b_0
 clear bx60
 clear o65
 clear o72
 clear bx84
 clear o90
 clear bx100
 clear o106
 clear o108
 clear bx118
 clear o131
 clear hbase
 rintro ⟨b_0_c8_v, b_0_c8, b_1_c8, g259⟩ w258 ⟨hbase, r_g_v, r_keep_v, r_nodes_v, bx5, o21, r24, bx32, bx42, bx60, o65, o72, bx84, o90, bx100, o106, o108, bx118, o131, o_b_0_c8, hj_c8⟩
 obtain ⟨hja_c8, hjb_c8, hjc_c8⟩ := hj_c8.len
 refine l_nil ?_
 refine run_seq ?_
 refine run_seq ?_
 clear o131
 refine run_region rfl ?_
 refine l_val (v := Value.bool (mayB g)) rfl (e_move rfl) ?_
 refine l_val (v := Value.bool (!(mayB g))) rfl (e_not (b := (mayB g)) rfl) ?_
 refine l_nil ?_
 by_cases p7_c7 : (mayB g) = true
 ·
  have hm_c7 := of_decide_eq_true p7_c7
  have hd_c7 := degR_yes hm_c7
  have hl_c7 := lookR_yes hm_c7
  have hb_c7 := bareR_yes hm_c7
  refine run_cond_f rfl (congrArg Bool.not p7_c7) ?_
  refine run_skip ?_
  refine run_seq ?_
  refine run_mid [false, true, true, false, false, true] (σ := Cmap) (fun gq f w => Base w0 gq w ∧ f 4 = Value.int .i64 e ∧ f 7 = Value.pointer (some ⟨b58, 0, none⟩) ∧ f 15 = v71 ∧ f 16 = Value.int .i64 ((degR g).2) ∧ f 17 = Value.pointer (some ⟨b79, 0, none⟩) ∧ f 18 = Value.int .i64 ((lookR g).2) ∧ f 19 = Value.pointer (some ⟨b95, 0, none⟩) ∧ f 20 = Value.int .i64 ((splitR g e).2) ∧ f 21 = Value.pointer (some ⟨b113, 0, none⟩) ∧ f 22 = v107 ∧ f 23 = Value.int .i64 ((bareR g).2.2) ∧ Sl gq (is 0) w g_v g.2 ∧ Sl gq (is 0) w keep_v keep ∧ Sl gq (is 0) w nodes_v nodes ∧ Bx gq (is 1) w b3 [Value.int .i64 g.1, g_v] ∧ Ow gq (is 2) (is 2) w (upV v20) (g.2 ++ [((-7 : Int), (7 : Int))]) ∧ Sl gq (is 2) w v20 g.2 ∧ Bx gq (is 3) w b27 [Value.int .i64 g.1, v20] ∧ Bx gq (is 4) w b40 [b_0_c8_v, Value.int .i64 b_1_c8] ∧ Bx gq (is 113) w b58 [Value.int .i64 g.1, g_v] ∧ Sl gq (isr 115 17) w v71 ((degR g).1) ∧ Bx gq (is 116) w b79 [Value.int .i64 (((lookR g).1).1), Value.int .i64 ((((lookR g).1).2).1), Value.int .i64 (((((lookR g).1).2).2).1), Value.int .i64 ((((((lookR g).1).2).2).2).1), Value.bool ((((((lookR g).1).2).2).2).2)] ∧ Ow gq (is 117) (is 117) w v89 (((splitR g e).1).2) ∧ Bx gq (is 118) w b95 [Value.int .i64 (((splitR g e).1).1), v89] ∧ Ow gq (is 119) (is 119) w v105 (((bareR g).1).2) ∧ Sl gq (isr 120 17) w v107 ((bareR g).2.1) ∧ Bx gq (is 121) w b113 [Value.int .i64 (((bareR g).1).1), v105] ∧ Nst gq 17 w b_0_c8_v b_0_c8 ∧ True) ?_ ?_
  ·
   intro mid_j23
   refine run_region rfl ?_
   refine l_val (v := Value.int .i64 v) rfl (e_move rfl) ?_
   refine l_val (v := Value.bool (decide (0 ≤ v))) rfl (e_geq (m := v) (n := 0) rfl rfl) ?_
   refine l_val (v := Value.bool (decide (0 ≤ v))) rfl (e_move rfl) ?_
   by_cases q112_c7 : 0 ≤ v
   ·
    refine l_val (v := Value.int .i64 v) (want_y rfl rfl rfl (decide_eq_true q112_c7)) (e_move rfl) ?_
    refine l_val (v := Value.pointer (some ⟨b58, 0, none⟩)) (want_y rfl rfl rfl (decide_eq_true q112_c7)) (e_fieldAddr Try.underlying24 rfl rfl rfl rfl) ?_
    refine l_val (v := Value.int .i64 g.1) (want_y rfl rfl rfl (decide_eq_true q112_c7)) (e_load_bx1 tp3_wa rfl bx60 rfl) ?_
    refine l_val (v := Value.bool (decide (v < g.1))) (want_y rfl rfl rfl (decide_eq_true q112_c7)) (e_lss (m := v) (n := g.1) rfl rfl) ?_
    refine l_val (v := Value.bool (decide (v < g.1))) rfl (e_pick_t rfl (decide_eq_true q112_c7) rfl) ?_
    refine l_val (v := Value.bool (decide (v < g.1))) rfl (e_assign rfl) ?_
    refine l_nil ?_
    refine run_seq ?_
    refine run_seq ?_
    refine run_region rfl ?_
    refine l_val (v := Value.bool (decide (v < g.1))) rfl (e_move rfl) ?_
    refine l_val (v := Value.int .i64 ((outR g v).2)) rfl (e_move rfl) ?_
    refine l_val (v := Value.bool (decide (((outR g v).2) = 0))) rfl (e_eql (m := (outR g v).2) (n := 0) rfl rfl) ?_
    refine l_val (v := Value.bool (!(decide ((decide (v < g.1)) = (decide (((outR g v).2) = 0)))))) rfl (e_neq_bool Try.underlying4 rfl rfl) ?_
    refine l_val (v := Value.bool (!(decide ((decide (v < g.1)) = (decide (((outR g v).2) = 0)))))) rfl (e_move rfl) ?_
    have q122_c7 : (decide (v < g.1)) = (decide (((outR g v).2) = 0)) := by first | rfl | exact decide_eq_true rfl | exact hl_c7 | exact hb_c7 | exact out_c1 hm_c7 (by assumption) | exact out_c2 hm_c7 (by assumption) | (rw [out_c3 hm_c7 (by omega)]; done) | (rw [out_c3 hm_c7 (by omega)]; rfl) | (rw [out_c4 hm_c7 (by omega) (by omega)]; exact decide_eq_true rfl) | (rw [hd_c7]; done) | (rw [ho_c7]; done) | (rw [hl_c7]; done) | (rw [hs_c7]; done) | (rw [hb_c7]; done) | (rw [hd_c7]; exact decide_eq_true rfl) | (rw [ho_c7]; exact decide_eq_true rfl) | (rw [hl_c7]; exact decide_eq_true rfl) | (rw [hs_c7]; exact decide_eq_true rfl) | (rw [hb_c7]; exact decide_eq_true rfl) | (rw [ho_c7, hd_c7, hb_c7]; rfl) | (rw [hs_c7, hb_c7]; exact decide_eq_true rfl)
    refine l_val (v := Value.bool (decide (v < g.1))) (want_y rfl rfl rfl (congrArg Bool.not (decide_eq_true q122_c7))) (e_move rfl) ?_
    refine l_val (v := Value.bool (!(decide (v < g.1)))) (want_y rfl rfl rfl (congrArg Bool.not (decide_eq_true q122_c7))) (e_not (b := decide (v < g.1)) rfl) ?_
    refine l_val (v := Value.bool (!(decide (v < g.1)))) (want_y rfl rfl rfl (congrArg Bool.not (decide_eq_true q122_c7))) (e_move rfl) ?_
    by_cases q125_c7 : v < g.1
    ·
     refine l_skip (want_n rfl rfl rfl (congrArg Bool.not (decide_eq_true q125_c7))) ?_
     refine l_skip (want_n rfl rfl rfl (congrArg Bool.not (decide_eq_true q125_c7))) ?_
     refine l_skip (want_n rfl rfl rfl (congrArg Bool.not (decide_eq_true q125_c7))) ?_
     refine l_skip (want_u rfl rfl rfl) ?_
     refine l_skip (want_u rfl rfl rfl) ?_
     refine l_skip (want_u rfl rfl rfl) ?_
     refine l_skip (want_n rfl rfl rfl (congrArg Bool.not (decide_eq_true q125_c7))) ?_
     refine l_val (v := Value.bool false) (want_y rfl rfl rfl (congrArg Bool.not (decide_eq_true q122_c7))) (e_pick_f rfl (congrArg Bool.not (decide_eq_true q125_c7)) rfl) ?_
     refine l_val (v := Value.bool false) rfl (e_pick_f rfl (congrArg Bool.not (decide_eq_true q122_c7)) rfl) ?_
     refine l_val (v := Value.bool false) rfl (e_move rfl) ?_
     refine l_val (v := Value.bool (decide (v < g.1))) (want_y rfl rfl rfl rfl) (e_move rfl) ?_
     refine l_val (v := Value.bool (decide (v < g.1))) (want_y rfl rfl rfl rfl) (e_move rfl) ?_
     refine l_val (v := v64) (want_y rfl rfl rfl (decide_eq_true q125_c7)) (e_move rfl) ?_
     refine l_val (v := Value.agg (List.toArray [Value.int .i64 g.1, g_v])) (want_y rfl rfl rfl (decide_eq_true q125_c7)) (e_load_bxN (ds := [Value.int .i64 g.1, g_v]) tp24_wa rfl bx60 rfl rfl) ?_
     refine l_val (v := Value.int .i64 v) (want_y rfl rfl rfl (decide_eq_true q125_c7)) (e_move rfl) ?_
     refine l_op (want_y rfl rfl rfl (decide_eq_true q125_c7)) ?_
     refine o_callx (e_call (vals := [Value.agg (List.toArray [Value.int .i64 g.1, g_v]), Value.int .i64 v]) Try.func59 bd59_wa nm59_wa rfl) (rOut_ok w258 g g_v (r_g_v).ro v (by omega)) ?_
     rintro ⟨d261, v263⟩ w260 ⟨fr262, o264⟩
     obtain ⟨g265, hg265⟩ : ∃ q, q = glue w258.heap.size g259 d261 (fun n => if n = 1 then 124 else 0) := ⟨_, rfl⟩
     have ch266 := chg_glue fr262.below g259 d261 (fun n => if n = 1 then 124 else 0)
     rw [← hg265] at ch266
     replace o264 := o264.glue (γ := g259) (ren := (fun n => if n = 1 then 124 else 0)) (k := 124) fr262.col rfl rfl
     rw [← hg265] at o264
     clear hg265
     replace o65 := o65.chg ch266 (not_no _)
     refine l_op (want_y rfl rfl rfl (decide_eq_true q125_c7)) ?_
     refine o_call (v := Value.bool (decide (((outR g v).1) = (outS g v)))) (e_call (vals := [v64, v263]) Try.func38 bd38_wa nm38_wa rfl) (rInts_ok w260 ((outR g v).1) v64 (o65).ro (outS g v) v263 (o264.flat).ro) ?_
     intro w267 hb268
     replace hb268 := chg_below hb268 g265
     refine l_val (v := Value.bool (!(decide (((outR g v).1) = (outS g v))))) (want_y rfl rfl rfl (decide_eq_true q125_c7)) (e_not (b := (decide (((outR g v).1) = (outS g v)))) rfl) ?_
     refine l_val (v := Value.bool (!(decide (((outR g v).1) = (outS g v))))) (want_y rfl rfl rfl rfl) (e_pick_t rfl (decide_eq_true q125_c7) rfl) ?_
     refine l_val (v := Value.bool (!(decide (((outR g v).1) = (outS g v))))) rfl (e_pick_f rfl rfl rfl) ?_
     refine l_nil ?_
     have p10_c7 : (decide (((outR g v).1) = (outS g v))) = true := by first | rfl | exact decide_eq_true rfl | exact hl_c7 | exact hb_c7 | exact out_c1 hm_c7 (by assumption) | exact out_c2 hm_c7 (by assumption) | (rw [out_c3 hm_c7 (by omega)]; done) | (rw [out_c3 hm_c7 (by omega)]; rfl) | (rw [out_c4 hm_c7 (by omega) (by omega)]; exact decide_eq_true rfl) | (rw [hd_c7]; done) | (rw [ho_c7]; done) | (rw [hl_c7]; done) | (rw [hs_c7]; done) | (rw [hb_c7]; done) | (rw [hd_c7]; exact decide_eq_true rfl) | (rw [ho_c7]; exact decide_eq_true rfl) | (rw [hl_c7]; exact decide_eq_true rfl) | (rw [hs_c7]; exact decide_eq_true rfl) | (rw [hb_c7]; exact decide_eq_true rfl) | (rw [ho_c7, hd_c7, hb_c7]; rfl) | (rw [hs_c7, hb_c7]; exact decide_eq_true rfl)
     refine run_cond_f rfl (congrArg Bool.not p10_c7) ?_
     refine run_skip ?_
     refine run_seq ?_
     clear o65
     clear o264
     replace hbase := hbase.chg ch266 (not_no _)
     replace hbase := hbase.chg hb268 (not_no _)
     replace r_g_v := (r_g_v.chg ch266 (not_no _)).chg hb268 (not_no _)
     replace r_keep_v := (r_keep_v.chg ch266 (not_no _)).chg hb268 (not_no _)
     replace r_nodes_v := (r_nodes_v.chg ch266 (not_no _)).chg hb268 (not_no _)
     replace bx5 := (bx5.chg ch266 (not_no _)).chg hb268 (not_no _)
     replace o21 := (o21.chg ch266 (not_no _) (not_no _)).chg hb268 (not_no _) (not_no _)
     replace r24 := (r24.chg ch266 (not_no _)).chg hb268 (not_no _)
     replace bx32 := (bx32.chg ch266 (not_no _)).chg hb268 (not_no _)
     replace bx42 := (bx42.chg ch266 (not_no _)).chg hb268 (not_no _)
     replace bx60 := (bx60.chg ch266 (not_no _)).chg hb268 (not_no _)
     replace o72 := (o72.chg ch266 (not_no _)).chg hb268 (not_no _)
     replace bx84 := (bx84.chg ch266 (not_no _)).chg hb268 (not_no _)
     replace o90 := (o90.chg ch266 (not_no _) (not_no _)).chg hb268 (not_no _) (not_no _)
     replace bx100 := (bx100.chg ch266 (not_no _)).chg hb268 (not_no _)
     replace o106 := (o106.chg ch266 (not_no _) (not_no _)).chg hb268 (not_no _) (not_no _)
     replace o108 := (o108.chg ch266 (not_no _)).chg hb268 (not_no _)
     replace bx118 := (bx118.chg ch266 (not_no _)).chg hb268 (not_no _)
     replace o_b_0_c8 := (o_b_0_c8.chg ch266 (not_no _)).chg hb268 (not_no _)
     refine mid_j23 (g265) _ _ ⟨hbase, rfl, rfl, rfl, rfl, rfl, rfl, rfl, rfl, rfl, rfl, rfl, r_g_v, r_keep_v, r_nodes_v, bx5, o21, r24, bx32, bx42, bx60, o72, bx84, o90, bx100, o106, o108, bx118, o_b_0_c8, ?_⟩
     trivial
    refine l_val (v := Value.int .i64 ((outR g v).2)) (want_y rfl rfl rfl (congrArg Bool.not (decide_eq_false q125_c7))) (e_move rfl) ?_
    refine l_val (v := Value.bool (!(decide (((outR g v).2) = 2)))) (want_y rfl rfl rfl (congrArg Bool.not (decide_eq_false q125_c7))) (e_neq (m := (outR g v).2) (n := 2) rfl rfl) ?_
    refine l_val (v := Value.bool (!(decide (((outR g v).2) = 2)))) (want_y rfl rfl rfl (congrArg Bool.not (decide_eq_false q125_c7))) (e_move rfl) ?_
    have q128_c7 : ((outR g v).2) = 2 := by first | rfl | exact decide_eq_true rfl | exact hl_c7 | exact hb_c7 | exact out_c1 hm_c7 (by assumption) | exact out_c2 hm_c7 (by assumption) | (rw [out_c3 hm_c7 (by omega)]; done) | (rw [out_c3 hm_c7 (by omega)]; rfl) | (rw [out_c4 hm_c7 (by omega) (by omega)]; exact decide_eq_true rfl) | (rw [hd_c7]; done) | (rw [ho_c7]; done) | (rw [hl_c7]; done) | (rw [hs_c7]; done) | (rw [hb_c7]; done) | (rw [hd_c7]; exact decide_eq_true rfl) | (rw [ho_c7]; exact decide_eq_true rfl) | (rw [hl_c7]; exact decide_eq_true rfl) | (rw [hs_c7]; exact decide_eq_true rfl) | (rw [hb_c7]; exact decide_eq_true rfl) | (rw [ho_c7, hd_c7, hb_c7]; rfl) | (rw [hs_c7, hb_c7]; exact decide_eq_true rfl)
    refine l_val (v := v64) (want_y rfl rfl rfl (congrArg Bool.not (decide_eq_true q128_c7))) (e_move rfl) ?_
    have len269 := (o65).small
    refine l_val (v := Value.int .i64 (List.length ((outR g v).1) : Int)) (want_y rfl rfl rfl (congrArg Bool.not (decide_eq_true q128_c7))) (e_len Try.underlying35 rfl o65) ?_
    refine l_val (v := Value.bool (!(decide ((List.length ((outR g v).1) : Int) = 0)))) (want_y rfl rfl rfl (congrArg Bool.not (decide_eq_true q128_c7))) (e_neq (m := (List.length ((outR g v).1) : Int)) (n := 0) rfl rfl) ?_
    refine l_val (v := Value.bool (!(decide ((List.length ((outR g v).1) : Int) = 0)))) (want_y rfl rfl rfl (congrArg Bool.not (decide_eq_false q125_c7))) (e_pick_f rfl (congrArg Bool.not (decide_eq_true q128_c7)) rfl) ?_
    refine l_val (v := Value.bool (!(decide ((List.length ((outR g v).1) : Int) = 0)))) (want_y rfl rfl rfl (congrArg Bool.not (decide_eq_true q122_c7))) (e_pick_t rfl (congrArg Bool.not (decide_eq_false q125_c7)) rfl) ?_
    refine l_val (v := Value.bool (!(decide ((List.length ((outR g v).1) : Int) = 0)))) rfl (e_pick_f rfl (congrArg Bool.not (decide_eq_true q122_c7)) rfl) ?_
    refine l_val (v := Value.bool (!(decide ((List.length ((outR g v).1) : Int) = 0)))) rfl (e_move rfl) ?_
    have q135_c7 : (List.length ((outR g v).1) : Int) = 0 := by first | rfl | exact decide_eq_true rfl | exact hl_c7 | exact hb_c7 | exact out_c1 hm_c7 (by assumption) | exact out_c2 hm_c7 (by assumption) | (rw [out_c3 hm_c7 (by omega)]; done) | (rw [out_c3 hm_c7 (by omega)]; rfl) | (rw [out_c4 hm_c7 (by omega) (by omega)]; exact decide_eq_true rfl) | (rw [hd_c7]; done) | (rw [ho_c7]; done) | (rw [hl_c7]; done) | (rw [hs_c7]; done) | (rw [hb_c7]; done) | (rw [hd_c7]; exact decide_eq_true rfl) | (rw [ho_c7]; exact decide_eq_true rfl) | (rw [hl_c7]; exact decide_eq_true rfl) | (rw [hs_c7]; exact decide_eq_true rfl) | (rw [hb_c7]; exact decide_eq_true rfl) | (rw [ho_c7, hd_c7, hb_c7]; rfl) | (rw [hs_c7, hb_c7]; exact decide_eq_true rfl)
    refine l_val (v := Value.bool (decide (v < g.1))) (want_y rfl rfl rfl (congrArg Bool.not (decide_eq_true q135_c7))) (e_move rfl) ?_
    refine l_val (v := Value.bool (decide (v < g.1))) (want_y rfl rfl rfl (congrArg Bool.not (decide_eq_true q135_c7))) (e_move rfl) ?_
    refine l_skip (want_n rfl rfl rfl (decide_eq_false q125_c7)) ?_
    refine l_skip (want_n rfl rfl rfl (decide_eq_false q125_c7)) ?_
    refine l_skip (want_n rfl rfl rfl (decide_eq_false q125_c7)) ?_
    refine l_skip (want_n rfl rfl rfl (decide_eq_false q125_c7)) ?_
    refine l_skip (want_n rfl rfl rfl (decide_eq_false q125_c7)) ?_
    refine l_skip (want_n rfl rfl rfl (decide_eq_false q125_c7)) ?_
    refine l_val (v := Value.bool false) (want_y rfl rfl rfl (congrArg Bool.not (decide_eq_true q135_c7))) (e_pick_f rfl (decide_eq_false q125_c7) rfl) ?_
    refine l_val (v := Value.bool false) rfl (e_pick_f rfl (congrArg Bool.not (decide_eq_true q135_c7)) rfl) ?_
    refine l_nil ?_
    refine run_cond_f rfl rfl ?_
    refine run_skip ?_
    refine run_seq ?_
    clear o65
    refine mid_j23 (g259) _ _ ⟨hbase, rfl, rfl, rfl, rfl, rfl, rfl, rfl, rfl, rfl, rfl, rfl, r_g_v, r_keep_v, r_nodes_v, bx5, o21, r24, bx32, bx42, bx60, o72, bx84, o90, bx100, o106, o108, bx118, o_b_0_c8, ?_⟩
    trivial
   refine l_skip (want_n rfl rfl rfl (decide_eq_false q112_c7)) ?_
   refine l_skip (want_n rfl rfl rfl (decide_eq_false q112_c7)) ?_
   refine l_skip (want_n rfl rfl rfl (decide_eq_false q112_c7)) ?_
   refine l_skip (want_n rfl rfl rfl (decide_eq_false q112_c7)) ?_
   refine l_val (v := Value.bool false) rfl (e_pick_f rfl (decide_eq_false q112_c7) rfl) ?_
   refine l_val (v := Value.bool false) rfl (e_assign rfl) ?_
   refine l_nil ?_
   refine run_seq ?_
   refine run_seq ?_
   refine run_region rfl ?_
   refine l_val (v := Value.bool false) rfl (e_move rfl) ?_
   refine l_val (v := Value.int .i64 ((outR g v).2)) rfl (e_move rfl) ?_
   refine l_val (v := Value.bool (decide (((outR g v).2) = 0))) rfl (e_eql (m := (outR g v).2) (n := 0) rfl rfl) ?_
   refine l_val (v := Value.bool (!(decide (false = (decide (((outR g v).2) = 0)))))) rfl (e_neq_bool Try.underlying4 rfl rfl) ?_
   refine l_val (v := Value.bool (!(decide (false = (decide (((outR g v).2) = 0)))))) rfl (e_move rfl) ?_
   have q122_c7_270 : false = (decide (((outR g v).2) = 0)) := by first | rfl | exact decide_eq_true rfl | exact hl_c7 | exact hb_c7 | exact out_c1 hm_c7 (by assumption) | exact out_c2 hm_c7 (by assumption) | (rw [out_c3 hm_c7 (by omega)]; done) | (rw [out_c3 hm_c7 (by omega)]; rfl) | (rw [out_c4 hm_c7 (by omega) (by omega)]; exact decide_eq_true rfl) | (rw [hd_c7]; done) | (rw [ho_c7]; done) | (rw [hl_c7]; done) | (rw [hs_c7]; done) | (rw [hb_c7]; done) | (rw [hd_c7]; exact decide_eq_true rfl) | (rw [ho_c7]; exact decide_eq_true rfl) | (rw [hl_c7]; exact decide_eq_true rfl) | (rw [hs_c7]; exact decide_eq_true rfl) | (rw [hb_c7]; exact decide_eq_true rfl) | (rw [ho_c7, hd_c7, hb_c7]; rfl) | (rw [hs_c7, hb_c7]; exact decide_eq_true rfl)
   refine l_val (v := Value.bool false) (want_y rfl rfl rfl (congrArg Bool.not (decide_eq_true q122_c7_270))) (e_move rfl) ?_
   refine l_val (v := Value.bool true) (want_y rfl rfl rfl (congrArg Bool.not (decide_eq_true q122_c7_270))) (e_not (b := false) rfl) ?_
   refine l_val (v := Value.bool true) (want_y rfl rfl rfl (congrArg Bool.not (decide_eq_true q122_c7_270))) (e_move rfl) ?_
   refine l_val (v := Value.int .i64 ((outR g v).2)) (want_y rfl rfl rfl rfl) (e_move rfl) ?_
   refine l_val (v := Value.bool (!(decide (((outR g v).2) = 2)))) (want_y rfl rfl rfl rfl) (e_neq (m := (outR g v).2) (n := 2) rfl rfl) ?_
   refine l_val (v := Value.bool (!(decide (((outR g v).2) = 2)))) (want_y rfl rfl rfl rfl) (e_move rfl) ?_
   have q128_c7_271 : ((outR g v).2) = 2 := by first | rfl | exact decide_eq_true rfl | exact hl_c7 | exact hb_c7 | exact out_c1 hm_c7 (by assumption) | exact out_c2 hm_c7 (by assumption) | (rw [out_c3 hm_c7 (by omega)]; done) | (rw [out_c3 hm_c7 (by omega)]; rfl) | (rw [out_c4 hm_c7 (by omega) (by omega)]; exact decide_eq_true rfl) | (rw [hd_c7]; done) | (rw [ho_c7]; done) | (rw [hl_c7]; done) | (rw [hs_c7]; done) | (rw [hb_c7]; done) | (rw [hd_c7]; exact decide_eq_true rfl) | (rw [ho_c7]; exact decide_eq_true rfl) | (rw [hl_c7]; exact decide_eq_true rfl) | (rw [hs_c7]; exact decide_eq_true rfl) | (rw [hb_c7]; exact decide_eq_true rfl) | (rw [ho_c7, hd_c7, hb_c7]; rfl) | (rw [hs_c7, hb_c7]; exact decide_eq_true rfl)
   refine l_val (v := v64) (want_y rfl rfl rfl (congrArg Bool.not (decide_eq_true q128_c7_271))) (e_move rfl) ?_
   have len272 := (o65).small
   refine l_val (v := Value.int .i64 (List.length ((outR g v).1) : Int)) (want_y rfl rfl rfl (congrArg Bool.not (decide_eq_true q128_c7_271))) (e_len Try.underlying35 rfl o65) ?_
   refine l_val (v := Value.bool (!(decide ((List.length ((outR g v).1) : Int) = 0)))) (want_y rfl rfl rfl (congrArg Bool.not (decide_eq_true q128_c7_271))) (e_neq (m := (List.length ((outR g v).1) : Int)) (n := 0) rfl rfl) ?_
   refine l_val (v := Value.bool (!(decide ((List.length ((outR g v).1) : Int) = 0)))) (want_y rfl rfl rfl rfl) (e_pick_f rfl (congrArg Bool.not (decide_eq_true q128_c7_271)) rfl) ?_
   refine l_val (v := Value.bool (!(decide ((List.length ((outR g v).1) : Int) = 0)))) (want_y rfl rfl rfl (congrArg Bool.not (decide_eq_true q122_c7_270))) (e_pick_t rfl rfl rfl) ?_
   refine l_val (v := Value.bool (!(decide ((List.length ((outR g v).1) : Int) = 0)))) rfl (e_pick_f rfl (congrArg Bool.not (decide_eq_true q122_c7_270)) rfl) ?_
   refine l_val (v := Value.bool (!(decide ((List.length ((outR g v).1) : Int) = 0)))) rfl (e_move rfl) ?_
   have q135_c7_273 : (List.length ((outR g v).1) : Int) = 0 := by first | rfl | exact decide_eq_true rfl | exact hl_c7 | exact hb_c7 | exact out_c1 hm_c7 (by assumption) | exact out_c2 hm_c7 (by assumption) | (rw [out_c3 hm_c7 (by omega)]; done) | (rw [out_c3 hm_c7 (by omega)]; rfl) | (rw [out_c4 hm_c7 (by omega) (by omega)]; exact decide_eq_true rfl) | (rw [hd_c7]; done) | (rw [ho_c7]; done) | (rw [hl_c7]; done) | (rw [hs_c7]; done) | (rw [hb_c7]; done) | (rw [hd_c7]; exact decide_eq_true rfl) | (rw [ho_c7]; exact decide_eq_true rfl) | (rw [hl_c7]; exact decide_eq_true rfl) | (rw [hs_c7]; exact decide_eq_true rfl) | (rw [hb_c7]; exact decide_eq_true rfl) | (rw [ho_c7, hd_c7, hb_c7]; rfl) | (rw [hs_c7, hb_c7]; exact decide_eq_true rfl)
   refine l_val (v := Value.bool false) (want_y rfl rfl rfl (congrArg Bool.not (decide_eq_true q135_c7_273))) (e_move rfl) ?_
   refine l_val (v := Value.bool false) (want_y rfl rfl rfl (congrArg Bool.not (decide_eq_true q135_c7_273))) (e_move rfl) ?_
   refine l_skip (want_n rfl rfl rfl rfl) ?_
   refine l_skip (want_n rfl rfl rfl rfl) ?_
   refine l_skip (want_n rfl rfl rfl rfl) ?_
   refine l_skip (want_n rfl rfl rfl rfl) ?_
   refine l_skip (want_n rfl rfl rfl rfl) ?_
   refine l_skip (want_n rfl rfl rfl rfl) ?_
   refine l_val (v := Value.bool false) (want_y rfl rfl rfl (congrArg Bool.not (decide_eq_true q135_c7_273))) (e_pick_f rfl rfl rfl) ?_
   refine l_val (v := Value.bool false) rfl (e_pick_f rfl (congrArg Bool.not (decide_eq_true q135_c7_273)) rfl) ?_
   refine l_nil ?_
   refine run_cond_f rfl rfl ?_
   refine run_skip ?_
   refine run_seq ?_
   clear o65
   refine mid_j23 (g259) _ _ ⟨hbase, rfl, rfl, rfl, rfl, rfl, rfl, rfl, rfl, rfl, rfl, rfl, r_g_v, r_keep_v, r_nodes_v, bx5, o21, r24, bx32, bx42, bx60, o72, bx84, o90, bx100, o106, o108, bx118, o_b_0_c8, ?_⟩
   trivial
  clear r_g_v
  clear r_keep_v
  clear r_nodes_v
  clear bx5
  clear o21
  clear r24
  clear bx32
  clear bx42
  clear bx60
  clear o65
  clear o72
  clear bx84
  clear o90
  clear bx100
  clear o106
  clear o108
  clear bx118
  clear o_b_0_c8
  clear hbase
  rintro g276 f274 w275 ⟨hbase, z277_4, z277_7, z277_15, z277_16, z277_17, z277_18, z277_19, z277_20, z277_21, z277_22, z277_23, r_g_v, r_keep_v, r_nodes_v, bx5, o21, r24, bx32, bx42, bx60, o72, bx84, o90, bx100, o106, o108, bx118, o_b_0_c8, hj_j23⟩
  refine run_region rfl ?_
  refine l_val (v := Value.agg (List.toArray [Value.int .i64 g.1, g_v])) rfl (e_load_bxN (ds := [Value.int .i64 g.1, g_v]) tp24_wa (by exact z277_7) bx60 rfl rfl) ?_
  refine l_val (v := Value.int .i64 e) rfl (e_move (by exact z277_4)) ?_
  refine l_op rfl ?_
  refine o_callx (e_call (vals := [Value.agg (List.toArray [Value.int .i64 g.1, g_v]), Value.int .i64 e]) Try.func60 bd60_wa nm60_wa rfl) (rSplit_ok w275 g g_v (r_g_v).ro e (by exact hm_c7)) ?_
  rintro ⟨d279, v281⟩ w278 ⟨fr280, o282⟩
  obtain ⟨g283, hg283⟩ : ∃ q, q = glue w275.heap.size g276 d279 (fun n => if n = 1 then 125 else 0) := ⟨_, rfl⟩
  have ch284 := chg_glue fr280.below g276 d279 (fun n => if n = 1 then 125 else 0)
  rw [← hg283] at ch284
  replace o282 := o282.glue (γ := g276) (ren := (fun n => if n = 1 then 125 else 0)) (k := 125) fr280.col rfl rfl
  rw [← hg283] at o282
  clear hg283
  refine l_val (v := Value.tuple (List.toArray [Value.agg (List.toArray [Value.int .i64 (((splitR g e).1).1), v281]), Value.int .i64 ((splitR g e).2)])) rfl (e_move rfl) ?_
  refine l_val (v := Value.agg (List.toArray [Value.int .i64 (((splitR g e).1).1), v281])) rfl (e_extract rfl rfl) ?_
  refine l_val (v := Value.int .i64 ((splitR g e).2)) rfl (e_extract rfl rfl) ?_
  refine l_op rfl ?_
  refine o_alloc g283 (is 126) (126, 0) rfl tp24_wa ?_
  intro g288 w285 b287 ch286 bx289
  replace bx289 : Bx g288 (is 126) w285 b287 [Value.int .i64 0, Value.slice none 0 0] := bx289
  refine l_op rfl ?_
  replace o282 := o282.chg ch286 (not_no _) (not_no _)
  refine o_store_bx (cs' := [Value.int .i64 (((splitR g e).1).1), v281]) tp24_wa rfl rfl bx289 rfl (Nat.le_of_ble_eq_true rfl) (AllOne.all (.cons rfl (.cons (sl_one o282.flat) .nil))) rfl ?_
  intro w290 ch291 bx292
  clear bx289
  refine l_val (v := Value.int .i64 ((splitR g e).2)) rfl (e_assign rfl) ?_
  refine l_nil ?_
  refine run_seq ?_
  refine run_region rfl ?_
  have C293 : Chg (inl [126]) _ _ _ _ := (ch284.n).seq ((ch286.n).seq (ch291.l rfl))
  replace bx60 := bx60.chg C293 (is_nl rfl)
  refine l_val (v := Value.agg (List.toArray [Value.int .i64 g.1, g_v])) rfl (e_load_bxN (ds := [Value.int .i64 g.1, g_v]) tp24_wa (by exact z277_7) bx60 rfl rfl) ?_
  replace r_g_v := r_g_v.chg C293 (is_nl rfl)
  refine l_op rfl ?_
  refine o_callx (e_call (vals := [Value.agg (List.toArray [Value.int .i64 g.1, g_v])]) Try.func61 bd61_wa nm61_wa rfl) (rBare_ok w290 g g_v (r_g_v).ro (by exact hm_c7)) ?_
  rintro ⟨d295, v297, v299⟩ w294 ⟨fr296, o298, o300⟩
  obtain ⟨g301, hg301⟩ : ∃ q, q = glue w290.heap.size g288 d295 (fun n => if n = 1 then 127 else if n = 2 then 128 else 0) := ⟨_, rfl⟩
  have ch302 := chg_glue fr296.below g288 d295 (fun n => if n = 1 then 127 else if n = 2 then 128 else 0)
  rw [← hg301] at ch302
  replace o298 := o298.glue (γ := g288) (ren := (fun n => if n = 1 then 127 else if n = 2 then 128 else 0)) (k := 127) fr296.col rfl rfl
  rw [← hg301] at o298
  replace o300 := o300.glue (γ := g288) (ren := (fun n => if n = 1 then 127 else if n = 2 then 128 else 0)) (k := 128) fr296.col rfl rfl
  rw [← hg301] at o300
  clear hg301
  refine l_val (v := Value.tuple (List.toArray [Value.agg (List.toArray [Value.int .i64 (((bareR g).1).1), v297]), v299])) rfl (e_move rfl) ?_
  refine l_val (v := Value.agg (List.toArray [Value.int .i64 (((bareR g).1).1), v297])) rfl (e_extract rfl rfl) ?_
  refine l_val (v := v299) rfl (e_extract rfl rfl) ?_
  refine l_op rfl ?_
  refine o_alloc g301 (is 129) (129, 0) rfl tp24_wa ?_
  intro g306 w303 b305 ch304 bx307
  replace bx307 : Bx g306 (is 129) w303 b305 [Value.int .i64 0, Value.slice none 0 0] := bx307
  refine l_op rfl ?_
  replace o298 := o298.chg ch304 (not_no _) (not_no _)
  refine o_store_bx (cs' := [Value.int .i64 (((bareR g).1).1), v297]) tp24_wa rfl rfl bx307 rfl (Nat.le_of_ble_eq_true rfl) (AllOne.all (.cons rfl (.cons (sl_one o298.flat) .nil))) rfl ?_
  intro w308 ch309 bx310
  clear bx307
  refine l_val (v := v299) rfl (e_assign rfl) ?_
  refine l_nil ?_
  refine run_seq ?_
  refine run_region_h g306 (inl []) mixed_wa ?_
  intro w312 ch311
  refine h_take (v := Value.int .i64 ((degR g).2)) 0 rfl (by kernel_rfl) (by kernel_rfl) rfl (Chg.refl _ _ _) (fun w' hw' => e_move (by exact z277_16)) ?_
  refine h_take (v := Value.bool (decide (((degR g).2) = 0))) 1 rfl (by kernel_rfl) (by kernel_rfl) rfl (Chg.refl _ _ _) (fun w' hw' => e_eql (m := (degR g).2) (n := 0) rfl rfl) ?_
  refine h_take (v := Value.bool (decide (((degR g).2) = 0))) 2 rfl (by kernel_rfl) (by kernel_rfl) rfl (Chg.refl _ _ _) (fun w' hw' => e_move rfl) ?_
  have q159_c7 : ((degR g).2) = 0 := by first | rfl | exact decide_eq_true rfl | exact hl_c7 | exact hb_c7 | exact out_c1 hm_c7 (by assumption) | exact out_c2 hm_c7 (by assumption) | (rw [out_c3 hm_c7 (by omega)]; done) | (rw [out_c3 hm_c7 (by omega)]; rfl) | (rw [out_c4 hm_c7 (by omega) (by omega)]; exact decide_eq_true rfl) | (rw [hd_c7]; done) | (rw [ho_c7]; done) | (rw [hl_c7]; done) | (rw [hs_c7]; done) | (rw [hb_c7]; done) | (rw [hd_c7]; exact decide_eq_true rfl) | (rw [ho_c7]; exact decide_eq_true rfl) | (rw [hl_c7]; exact decide_eq_true rfl) | (rw [hs_c7]; exact decide_eq_true rfl) | (rw [hb_c7]; exact decide_eq_true rfl) | (rw [ho_c7, hd_c7, hb_c7]; rfl) | (rw [hs_c7, hb_c7]; exact decide_eq_true rfl)
  refine h_take (v := v71) 3 rfl (by kernel_rfl) (by kernel_rfl) (want_y rfl rfl rfl (decide_eq_true q159_c7)) (Chg.refl _ _ _) (fun w' hw' => e_move (by exact z277_15)) ?_
  have C313 : Chg (inl [129]) _ _ _ _ := (ch302.n).seq ((ch304.n).seq ((ch309.l rfl).seq (ch311.n)))
  replace bx60 := bx60.chg C313 (is_nl rfl)
  refine h_take (v := Value.agg (List.toArray [Value.int .i64 g.1, g_v])) 4 rfl (by kernel_rfl) (by kernel_rfl) (want_y rfl rfl rfl (decide_eq_true q159_c7)) (Chg.refl _ _ _) (fun w' hw' => e_load_bxN (ds := [Value.int .i64 g.1, g_v]) tp24_wa (by exact z277_7) (bx60.chg hw' (is_nl rfl)) rfl rfl) ?_
  refine h_one 5 rfl (by kernel_rfl) (want_y rfl rfl rfl (decide_eq_true q159_c7)) ?_
  replace r_g_v := r_g_v.chg C313 (is_nl rfl)
  refine o_callx (e_call (vals := [Value.agg (List.toArray [Value.int .i64 g.1, g_v])]) Try.func62 bd62_wa nm62_wa rfl) (rDegrees_ok w312 g g_v (r_g_v).ro (by exact hm_c7)) ?_
  rintro ⟨d315, v317⟩ w314 ⟨fr316, o318⟩
  obtain ⟨g319, hg319⟩ : ∃ q, q = glue w312.heap.size g306 d315 (fun n => if n = 1 then 130 else 0) := ⟨_, rfl⟩
  have ch320 := chg_glue fr316.below g306 d315 (fun n => if n = 1 then 130 else 0)
  rw [← hg319] at ch320
  replace o318 := o318.glue (γ := g306) (ren := (fun n => if n = 1 then 130 else 0)) (k := 130) fr316.col rfl rfl
  rw [← hg319] at o318
  clear hg319
  have hs321 : Chg (inl []) _ _ _ _ := ch320.n
  refine ⟨hs321.same, ?_⟩
  refine h_one 6 rfl (by kernel_rfl) (want_y rfl rfl rfl (decide_eq_true q159_c7)) ?_
  replace o72 := ((((((o72.chg ch284 (not_no _)).chg ch286 (not_no _)).chg ch291 (isr_is rfl rfl)).chg ch302 (not_no _)).chg ch304 (not_no _)).chg ch309 (isr_is rfl rfl)).chg ch311 (not_no _)
  refine o_call (v := Value.bool (decide (((degR g).1) = (degS g)))) (e_call (vals := [v71, v317]) Try.func38 bd38_wa nm38_wa rfl) (rInts_ok w314 ((degR g).1) v71 ((o72.chg hs321 (isr_nl rfl rfl))).ro (degS g) v317 (o318.flat).ro) ?_
  intro w322 hb323
  replace hb323 := chg_below hb323 g319
  have hs324 := hs321.seq (hb323.n)
  refine ⟨hs324.same, ?_⟩
  refine h_take (v := Value.bool (decide (((degR g).1) = (degS g)))) 7 rfl (by kernel_rfl) (by kernel_rfl) rfl hs324.same (fun w' hw' => e_pick_t rfl (decide_eq_true q159_c7) rfl) ?_
  refine h_take (v := Value.bool (decide (((degR g).1) = (degS g)))) 8 rfl (by kernel_rfl) (by kernel_rfl) rfl hs324.same (fun w' hw' => e_move rfl) ?_
  have q165_c7 : (decide (((degR g).1) = (degS g))) = true := by first | rfl | exact decide_eq_true rfl | exact hl_c7 | exact hb_c7 | exact out_c1 hm_c7 (by assumption) | exact out_c2 hm_c7 (by assumption) | (rw [out_c3 hm_c7 (by omega)]; done) | (rw [out_c3 hm_c7 (by omega)]; rfl) | (rw [out_c4 hm_c7 (by omega) (by omega)]; exact decide_eq_true rfl) | (rw [hd_c7]; done) | (rw [ho_c7]; done) | (rw [hl_c7]; done) | (rw [hs_c7]; done) | (rw [hb_c7]; done) | (rw [hd_c7]; exact decide_eq_true rfl) | (rw [ho_c7]; exact decide_eq_true rfl) | (rw [hl_c7]; exact decide_eq_true rfl) | (rw [hs_c7]; exact decide_eq_true rfl) | (rw [hb_c7]; exact decide_eq_true rfl) | (rw [ho_c7, hd_c7, hb_c7]; rfl) | (rw [hs_c7, hb_c7]; exact decide_eq_true rfl)
  refine h_take (v := Value.int .i64 ((lookR g).2)) 9 rfl (by kernel_rfl) (by kernel_rfl) (want_y rfl rfl rfl q165_c7) hs324.same (fun w' hw' => e_move (by exact z277_18)) ?_
  refine h_take (v := Value.bool (decide (((lookR g).2) = 0))) 10 rfl (by kernel_rfl) (by kernel_rfl) (want_y rfl rfl rfl q165_c7) hs324.same (fun w' hw' => e_eql (m := (lookR g).2) (n := 0) rfl rfl) ?_
  refine h_take (v := Value.bool (decide (((lookR g).2) = 0))) 11 rfl (by kernel_rfl) (by kernel_rfl) rfl hs324.same (fun w' hw' => e_pick_t rfl q165_c7 rfl) ?_
  refine h_take (v := Value.bool (decide (((lookR g).2) = 0))) 12 rfl (by kernel_rfl) (by kernel_rfl) rfl hs324.same (fun w' hw' => e_move rfl) ?_
  have q169_c7 : ((lookR g).2) = 0 := by first | rfl | exact decide_eq_true rfl | exact hl_c7 | exact hb_c7 | exact out_c1 hm_c7 (by assumption) | exact out_c2 hm_c7 (by assumption) | (rw [out_c3 hm_c7 (by omega)]; done) | (rw [out_c3 hm_c7 (by omega)]; rfl) | (rw [out_c4 hm_c7 (by omega) (by omega)]; exact decide_eq_true rfl) | (rw [hd_c7]; done) | (rw [ho_c7]; done) | (rw [hl_c7]; done) | (rw [hs_c7]; done) | (rw [hb_c7]; done) | (rw [hd_c7]; exact decide_eq_true rfl) | (rw [ho_c7]; exact decide_eq_true rfl) | (rw [hl_c7]; exact decide_eq_true rfl) | (rw [hs_c7]; exact decide_eq_true rfl) | (rw [hb_c7]; exact decide_eq_true rfl) | (rw [ho_c7, hd_c7, hb_c7]; rfl) | (rw [hs_c7, hb_c7]; exact decide_eq_true rfl)
  have C325 : Chg (inl [126, 129]) _ _ _ _ := (ch284.n).seq ((ch286.n).seq ((ch291.l rfl).seq ((ch302.n).seq ((ch304.n).seq ((ch309.l rfl).seq (ch311.n))))))
  replace bx84 := bx84.chg C325 (is_nl rfl)
  refine h_take (v := Value.agg (List.toArray [Value.int .i64 (((lookR g).1).1), Value.int .i64 ((((lookR g).1).2).1), Value.int .i64 (((((lookR g).1).2).2).1), Value.int .i64 ((((((lookR g).1).2).2).2).1), Value.bool ((((((lookR g).1).2).2).2).2)])) 13 rfl (by kernel_rfl) (by kernel_rfl) (want_y rfl rfl rfl (decide_eq_true q169_c7)) hs324.same (fun w' hw' => e_load_bxN (ds := [Value.int .i64 (((lookR g).1).1), Value.int .i64 ((((lookR g).1).2).1), Value.int .i64 (((((lookR g).1).2).2).1), Value.int .i64 ((((((lookR g).1).2).2).2).1), Value.bool ((((((lookR g).1).2).2).2).2)]) tp78_wa (by exact z277_17) (bx84.chg hw' (is_nl rfl)) rfl rfl) ?_
  refine h_take (v := Value.agg (List.toArray [Value.int .i64 g.1, g_v])) 14 rfl (by kernel_rfl) (by kernel_rfl) (want_y rfl rfl rfl (decide_eq_true q169_c7)) hs324.same (fun w' hw' => e_load_bxN (ds := [Value.int .i64 g.1, g_v]) tp24_wa (by exact z277_7) (bx60.chg hw' (is_nl rfl)) rfl rfl) ?_
  refine h_one 15 rfl (by kernel_rfl) (want_y rfl rfl rfl (decide_eq_true q169_c7)) ?_
  refine o_call (v := Value.agg (List.toArray [Value.int .i64 (((lookR g).1).1), Value.int .i64 ((((lookR g).1).2).1), Value.int .i64 (((((lookR g).1).2).2).1), Value.int .i64 ((((((lookR g).1).2).2).2).1), Value.bool ((((((lookR g).1).2).2).2).2)])) (e_call (vals := [Value.agg (List.toArray [Value.int .i64 g.1, g_v])]) Try.func63 bd63_wa nm63_wa rfl) (rLook_ok w322 g g_v ((r_g_v.chg hs324 (is_nl rfl))).ro (by exact hm_c7)) ?_
  intro w326 hb327
  replace hb327 := chg_below hb327 g319
  have hs328 := hs324.seq (hb327.n)
  refine ⟨hs328.same, ?_⟩
  refine h_take (v := Value.bool (decide ((((lookR g).1).1, (((lookR g).1).2).1, ((((lookR g).1).2).2).1, (((((lookR g).1).2).2).2).1, ((((((lookR g).1).2).2).2).2)) = (((lookR g).1).1, (((lookR g).1).2).1, ((((lookR g).1).2).2).1, (((((lookR g).1).2).2).2).1, ((((((lookR g).1).2).2).2).2))))) 16 rfl (by kernel_rfl) (by kernel_rfl) (want_y rfl rfl rfl (decide_eq_true q169_c7)) hs328.same (fun w' hw' => e_eql_struct (bs := [decide ((((lookR g).1).1) = (((lookR g).1).1)), decide (((((lookR g).1).2).1) = ((((lookR g).1).2).1)), decide ((((((lookR g).1).2).2).1) = (((((lookR g).1).2).2).1)), decide (((((((lookR g).1).2).2).2).1) = ((((((lookR g).1).2).2).2).1)), decide (((((((lookR g).1).2).2).2).2) = ((((((lookR g).1).2).2).2).2))]) Try.underlying78 (by kernel_rfl) (by kernel_rfl) rfl rfl (.cons (by decide +kernel) tp3_wa rfl rfl (.int Try.underlying3) (.cons (by decide +kernel) tp3_wa rfl rfl (.int Try.underlying3) (.cons (by decide +kernel) tp3_wa rfl rfl (.int Try.underlying3) (.cons (by decide +kernel) tp3_wa rfl rfl (.int Try.underlying3) (.cons (by decide +kernel) tp4_wa rfl rfl (.bool Try.underlying4) .nil))))) (by simp [Prod.ext_iff, Bool.decide_and, Bool.and_assoc])) ?_
  refine h_take (v := Value.bool (decide ((((lookR g).1).1, (((lookR g).1).2).1, ((((lookR g).1).2).2).1, (((((lookR g).1).2).2).2).1, ((((((lookR g).1).2).2).2).2)) = (((lookR g).1).1, (((lookR g).1).2).1, ((((lookR g).1).2).2).1, (((((lookR g).1).2).2).2).1, ((((((lookR g).1).2).2).2).2))))) 17 rfl (by kernel_rfl) (by kernel_rfl) rfl hs328.same (fun w' hw' => e_pick_t rfl (decide_eq_true q169_c7) rfl) ?_
  refine h_take (v := Value.bool (decide ((((lookR g).1).1, (((lookR g).1).2).1, ((((lookR g).1).2).2).1, (((((lookR g).1).2).2).2).1, ((((((lookR g).1).2).2).2).2)) = (((lookR g).1).1, (((lookR g).1).2).1, ((((lookR g).1).2).2).1, (((((lookR g).1).2).2).2).1, ((((((lookR g).1).2).2).2).2))))) 18 rfl (by kernel_rfl) (by kernel_rfl) rfl hs328.same (fun w' hw' => e_move rfl) ?_
  have q175_c7 : (((lookR g).1).1, (((lookR g).1).2).1, ((((lookR g).1).2).2).1, (((((lookR g).1).2).2).2).1, ((((((lookR g).1).2).2).2).2)) = (((lookR g).1).1, (((lookR g).1).2).1, ((((lookR g).1).2).2).1, (((((lookR g).1).2).2).2).1, ((((((lookR g).1).2).2).2).2)) := by first | rfl | exact decide_eq_true rfl | exact hl_c7 | exact hb_c7 | exact out_c1 hm_c7 (by assumption) | exact out_c2 hm_c7 (by assumption) | (rw [out_c3 hm_c7 (by omega)]; done) | (rw [out_c3 hm_c7 (by omega)]; rfl) | (rw [out_c4 hm_c7 (by omega) (by omega)]; exact decide_eq_true rfl) | (rw [hd_c7]; done) | (rw [ho_c7]; done) | (rw [hl_c7]; done) | (rw [hs_c7]; done) | (rw [hb_c7]; done) | (rw [hd_c7]; exact decide_eq_true rfl) | (rw [ho_c7]; exact decide_eq_true rfl) | (rw [hl_c7]; exact decide_eq_true rfl) | (rw [hs_c7]; exact decide_eq_true rfl) | (rw [hb_c7]; exact decide_eq_true rfl) | (rw [ho_c7, hd_c7, hb_c7]; rfl) | (rw [hs_c7, hb_c7]; exact decide_eq_true rfl)
  refine h_take (v := Value.int .i64 ((splitR g e).2)) 19 rfl (by kernel_rfl) (by kernel_rfl) (want_y rfl rfl rfl (decide_eq_true q175_c7)) hs328.same (fun w' hw' => e_move (by exact z277_20)) ?_
  refine h_take (v := Value.int .i64 ((splitR g e).2)) 20 rfl (by kernel_rfl) (by kernel_rfl) (want_y rfl rfl rfl (decide_eq_true q175_c7)) hs328.same (fun w' hw' => e_move rfl) ?_
  refine h_take (v := Value.bool (decide (((splitR g e).2) = ((splitR g e).2)))) 21 rfl (by kernel_rfl) (by kernel_rfl) (want_y rfl rfl rfl (decide_eq_true q175_c7)) hs328.same (fun w' hw' => e_eql (m := (splitR g e).2) (n := (splitR g e).2) rfl rfl) ?_
  refine h_take (v := Value.bool (decide (((splitR g e).2) = ((splitR g e).2)))) 22 rfl (by kernel_rfl) (by kernel_rfl) rfl hs328.same (fun w' hw' => e_pick_t rfl (decide_eq_true q175_c7) rfl) ?_
  refine h_take (v := Value.bool (decide (((splitR g e).2) = ((splitR g e).2)))) 23 rfl (by kernel_rfl) (by kernel_rfl) rfl hs328.same (fun w' hw' => e_move rfl) ?_
  have q180_c7 : ((splitR g e).2) = ((splitR g e).2) := by first | rfl | exact decide_eq_true rfl | exact hl_c7 | exact hb_c7 | exact out_c1 hm_c7 (by assumption) | exact out_c2 hm_c7 (by assumption) | (rw [out_c3 hm_c7 (by omega)]; done) | (rw [out_c3 hm_c7 (by omega)]; rfl) | (rw [out_c4 hm_c7 (by omega) (by omega)]; exact decide_eq_true rfl) | (rw [hd_c7]; done) | (rw [ho_c7]; done) | (rw [hl_c7]; done) | (rw [hs_c7]; done) | (rw [hb_c7]; done) | (rw [hd_c7]; exact decide_eq_true rfl) | (rw [ho_c7]; exact decide_eq_true rfl) | (rw [hl_c7]; exact decide_eq_true rfl) | (rw [hs_c7]; exact decide_eq_true rfl) | (rw [hb_c7]; exact decide_eq_true rfl) | (rw [ho_c7, hd_c7, hb_c7]; rfl) | (rw [hs_c7, hb_c7]; exact decide_eq_true rfl)
  replace bx100 := bx100.chg C325 (is_nl rfl)
  refine h_take (v := Value.agg (List.toArray [Value.int .i64 (((splitR g e).1).1), v89])) 24 rfl (by kernel_rfl) (by kernel_rfl) (want_y rfl rfl rfl (decide_eq_true q180_c7)) hs328.same (fun w' hw' => e_load_bxN (ds := [Value.int .i64 (((splitR g e).1).1), v89]) tp24_wa (by exact z277_19) (bx100.chg hw' (is_nl rfl)) rfl rfl) ?_
  replace bx292 := bx292.chg C313 (is_nl rfl)
  refine h_take (v := Value.agg (List.toArray [Value.int .i64 (((splitR g e).1).1), v281])) 25 rfl (by kernel_rfl) (by kernel_rfl) (want_y rfl rfl rfl (decide_eq_true q180_c7)) hs328.same (fun w' hw' => e_load_bxN (ds := [Value.int .i64 (((splitR g e).1).1), v281]) tp24_wa rfl (bx292.chg hw' (is_nl rfl)) rfl rfl) ?_
  refine h_one 26 rfl (by kernel_rfl) (want_y rfl rfl rfl (decide_eq_true q180_c7)) ?_
  replace o90 := o90.chg C325 (is_nl rfl) (is_nl rfl)
  have C329 : Chg (inl [126, 129]) _ _ _ _ := (ch291.l rfl).seq ((ch302.n).seq ((ch304.n).seq ((ch309.l rfl).seq (ch311.n))))
  replace o282 := o282.chg C329 (is_nl rfl) (is_nl rfl)
  refine o_call (v := Value.bool (decide (((splitR g e).1) = ((splitR g e).1)))) (e_call (vals := [Value.agg (List.toArray [Value.int .i64 (((splitR g e).1).1), v89]), Value.agg (List.toArray [Value.int .i64 (((splitR g e).1).1), v281])]) Try.func37 bd37_wa nm37_wa rfl) (rSame_ok w326 ((splitR g e).1) v89 ((o90.chg hs328 (is_nl rfl) (is_nl rfl)).flat).ro ((splitR g e).1) v281 ((o282.chg hs328 (is_nl rfl) (is_nl rfl)).flat).ro) ?_
  intro w330 hb331
  replace hb331 := chg_below hb331 g319
  have hs332 := hs328.seq (hb331.n)
  refine ⟨hs332.same, ?_⟩
  refine h_take (v := Value.bool (decide (((splitR g e).1) = ((splitR g e).1)))) 27 rfl (by kernel_rfl) (by kernel_rfl) rfl hs332.same (fun w' hw' => e_pick_t rfl (decide_eq_true q180_c7) rfl) ?_
  refine h_take (v := Value.bool (decide (((splitR g e).1) = ((splitR g e).1)))) 28 rfl (by kernel_rfl) (by kernel_rfl) rfl hs332.same (fun w' hw' => e_move rfl) ?_
  have q185_c7 : (decide (((splitR g e).1) = ((splitR g e).1))) = true := by first | rfl | exact decide_eq_true rfl | exact hl_c7 | exact hb_c7 | exact out_c1 hm_c7 (by assumption) | exact out_c2 hm_c7 (by assumption) | (rw [out_c3 hm_c7 (by omega)]; done) | (rw [out_c3 hm_c7 (by omega)]; rfl) | (rw [out_c4 hm_c7 (by omega) (by omega)]; exact decide_eq_true rfl) | (rw [hd_c7]; done) | (rw [ho_c7]; done) | (rw [hl_c7]; done) | (rw [hs_c7]; done) | (rw [hb_c7]; done) | (rw [hd_c7]; exact decide_eq_true rfl) | (rw [ho_c7]; exact decide_eq_true rfl) | (rw [hl_c7]; exact decide_eq_true rfl) | (rw [hs_c7]; exact decide_eq_true rfl) | (rw [hb_c7]; exact decide_eq_true rfl) | (rw [ho_c7, hd_c7, hb_c7]; rfl) | (rw [hs_c7, hb_c7]; exact decide_eq_true rfl)
  refine h_take (v := Value.int .i64 ((bareR g).2.2)) 29 rfl (by kernel_rfl) (by kernel_rfl) (want_y rfl rfl rfl q185_c7) hs332.same (fun w' hw' => e_move (by exact z277_23)) ?_
  refine h_take (v := Value.bool (decide (((bareR g).2.2) = 0))) 30 rfl (by kernel_rfl) (by kernel_rfl) (want_y rfl rfl rfl q185_c7) hs332.same (fun w' hw' => e_eql (m := (bareR g).2.2) (n := 0) rfl rfl) ?_
  refine h_take (v := Value.bool (decide (((bareR g).2.2) = 0))) 31 rfl (by kernel_rfl) (by kernel_rfl) rfl hs332.same (fun w' hw' => e_pick_t rfl q185_c7 rfl) ?_
  refine h_take (v := Value.bool (decide (((bareR g).2.2) = 0))) 32 rfl (by kernel_rfl) (by kernel_rfl) rfl hs332.same (fun w' hw' => e_move rfl) ?_
  have q189_c7 : ((bareR g).2.2) = 0 := by first | rfl | exact decide_eq_true rfl | exact hl_c7 | exact hb_c7 | exact out_c1 hm_c7 (by assumption) | exact out_c2 hm_c7 (by assumption) | (rw [out_c3 hm_c7 (by omega)]; done) | (rw [out_c3 hm_c7 (by omega)]; rfl) | (rw [out_c4 hm_c7 (by omega) (by omega)]; exact decide_eq_true rfl) | (rw [hd_c7]; done) | (rw [ho_c7]; done) | (rw [hl_c7]; done) | (rw [hs_c7]; done) | (rw [hb_c7]; done) | (rw [hd_c7]; exact decide_eq_true rfl) | (rw [ho_c7]; exact decide_eq_true rfl) | (rw [hl_c7]; exact decide_eq_true rfl) | (rw [hs_c7]; exact decide_eq_true rfl) | (rw [hb_c7]; exact decide_eq_true rfl) | (rw [ho_c7, hd_c7, hb_c7]; rfl) | (rw [hs_c7, hb_c7]; exact decide_eq_true rfl)
  replace bx118 := bx118.chg C325 (is_nl rfl)
  refine h_take (v := Value.agg (List.toArray [Value.int .i64 (((bareR g).1).1), v105])) 33 rfl (by kernel_rfl) (by kernel_rfl) (want_y rfl rfl rfl (decide_eq_true q189_c7)) hs332.same (fun w' hw' => e_load_bxN (ds := [Value.int .i64 (((bareR g).1).1), v105]) tp24_wa (by exact z277_21) (bx118.chg hw' (is_nl rfl)) rfl rfl) ?_
  replace bx310 := bx310.chg ch311 (not_no _)
  refine h_take (v := Value.agg (List.toArray [Value.int .i64 (((bareR g).1).1), v297])) 34 rfl (by kernel_rfl) (by kernel_rfl) (want_y rfl rfl rfl (decide_eq_true q189_c7)) hs332.same (fun w' hw' => e_load_bxN (ds := [Value.int .i64 (((bareR g).1).1), v297]) tp24_wa rfl (bx310.chg hw' (is_nl rfl)) rfl rfl) ?_
  refine h_one 35 rfl (by kernel_rfl) (want_y rfl rfl rfl (decide_eq_true q189_c7)) ?_
  replace o106 := o106.chg C325 (is_nl rfl) (is_nl rfl)
  replace o298 := (o298.chg ch309 (is_ne rfl) (is_ne rfl)).chg ch311 (not_no _) (not_no _)
  refine o_call (v := Value.bool (decide (((bareR g).1) = ((bareR g).1)))) (e_call (vals := [Value.agg (List.toArray [Value.int .i64 (((bareR g).1).1), v105]), Value.agg (List.toArray [Value.int .i64 (((bareR g).1).1), v297])]) Try.func37 bd37_wa nm37_wa rfl) (rSame_ok w330 ((bareR g).1) v105 ((o106.chg hs332 (is_nl rfl) (is_nl rfl)).flat).ro ((bareR g).1) v297 ((o298.chg hs332 (is_nl rfl) (is_nl rfl)).flat).ro) ?_
  intro w333 hb334
  replace hb334 := chg_below hb334 g319
  have hs335 := hs332.seq (hb334.n)
  refine ⟨hs335.same, ?_⟩
  refine h_take (v := Value.bool (decide (((bareR g).1) = ((bareR g).1)))) 36 rfl (by kernel_rfl) (by kernel_rfl) rfl hs335.same (fun w' hw' => e_pick_t rfl (decide_eq_true q189_c7) rfl) ?_
  refine h_take (v := Value.bool (decide (((bareR g).1) = ((bareR g).1)))) 37 rfl (by kernel_rfl) (by kernel_rfl) rfl hs335.same (fun w' hw' => e_move rfl) ?_
  have q194_c7 : (decide (((bareR g).1) = ((bareR g).1))) = true := by first | rfl | exact decide_eq_true rfl | exact hl_c7 | exact hb_c7 | exact out_c1 hm_c7 (by assumption) | exact out_c2 hm_c7 (by assumption) | (rw [out_c3 hm_c7 (by omega)]; done) | (rw [out_c3 hm_c7 (by omega)]; rfl) | (rw [out_c4 hm_c7 (by omega) (by omega)]; exact decide_eq_true rfl) | (rw [hd_c7]; done) | (rw [ho_c7]; done) | (rw [hl_c7]; done) | (rw [hs_c7]; done) | (rw [hb_c7]; done) | (rw [hd_c7]; exact decide_eq_true rfl) | (rw [ho_c7]; exact decide_eq_true rfl) | (rw [hl_c7]; exact decide_eq_true rfl) | (rw [hs_c7]; exact decide_eq_true rfl) | (rw [hb_c7]; exact decide_eq_true rfl) | (rw [ho_c7, hd_c7, hb_c7]; rfl) | (rw [hs_c7, hb_c7]; exact decide_eq_true rfl)
  refine h_take (v := v107) 38 rfl (by kernel_rfl) (by kernel_rfl) (want_y rfl rfl rfl q194_c7) hs335.same (fun w' hw' => e_move (by exact z277_22)) ?_
  refine h_take (v := v299) 39 rfl (by kernel_rfl) (by kernel_rfl) (want_y rfl rfl rfl q194_c7) hs335.same (fun w' hw' => e_move rfl) ?_
  refine h_one 40 rfl (by kernel_rfl) (want_y rfl rfl rfl q194_c7) ?_
  replace o108 := ((((((o108.chg ch284 (not_no _)).chg ch286 (not_no _)).chg ch291 (isr_is rfl rfl)).chg ch302 (not_no _)).chg ch304 (not_no _)).chg ch309 (isr_is rfl rfl)).chg ch311 (not_no _)
  have C336 : Chg (inl [129]) _ _ _ _ := (ch304.n).seq ((ch309.l rfl).seq (ch311.n))
  replace o300 := o300.chg C336 (is_nl rfl) (is_nl rfl)
  refine o_call (v := Value.bool (decide (((bareR g).2.1) = ((bareR g).2.1)))) (e_call (vals := [v107, v299]) Try.func38 bd38_wa nm38_wa rfl) (rInts_ok w333 ((bareR g).2.1) v107 ((o108.chg hs335 (isr_nl rfl rfl))).ro ((bareR g).2.1) v299 ((o300.chg hs335 (is_nl rfl) (is_nl rfl)).flat).ro) ?_
  intro w337 hb338
  replace hb338 := chg_below hb338 g319
  have hs339 := hs335.seq (hb338.n)
  refine ⟨hs339.same, ?_⟩
  refine h_take (v := Value.bool (decide (((bareR g).2.1) = ((bareR g).2.1)))) 41 rfl (by kernel_rfl) (by kernel_rfl) rfl hs339.same (fun w' hw' => e_pick_t rfl q194_c7 rfl) ?_
  refine h_take (v := Value.bool (decide (((bareR g).2.1) = ((bareR g).2.1)))) 42 rfl (by kernel_rfl) (by kernel_rfl) rfl hs339.same (fun w' hw' => e_assign rfl) ?_
  refine h_nil (by kernel_rfl) ?_
  refine run_seq ?_
  clear bx60
  clear o72
  clear bx84
  clear o108
  clear o282
  clear bx292
  clear o298
  clear o300
  clear bx310
  clear o318
  refine run_region rfl ?_
  have C340 : Chg (inl []) _ _ _ _ := (ch320.n).seq ((hb323.n).seq ((hb327.n).seq ((hb331.n).seq ((hb334.n).seq (hb338.n)))))
  replace bx100 := bx100.chg C340 (is_nl rfl)
  refine l_val (v := Value.agg (List.toArray [Value.int .i64 (((splitR g e).1).1), v89])) rfl (e_load_bxN (ds := [Value.int .i64 (((splitR g e).1).1), v89]) tp24_wa (by exact z277_19) bx100 rfl rfl) ?_
  refine l_op rfl ?_
  refine o_inline (e_call (vals := [Value.agg (List.toArray [Value.int .i64 (((splitR g e).1).1), v89])]) Try.func64 bd64_wa nm64_wa rfl) ?_
  refine calls_of_run Try.func64 rfl (Nat.le_of_ble_eq_true rfl) ?_
  replace o90 := o90.chg C340 (is_nl rfl) (is_nl rfl)
  have hsp_c9 : (List.length (((splitR g e).1).2) : Int) ≤ 10000 := by first | exact split_few (by omega) | exact bare_few (by omega) | exact sub_few (by omega) | exact part_few (by omega) | exact merge_few (by omega)
  refine run_seq ?_
  refine run_region rfl ?_
  refine l_op rfl ?_
  refine o_box g319 (is 131) (131, 0) rfl rfl ?_
  intro g344 w341 b343 ch342 bx345
  replace bx345 : Bx g344 (is 131) w341 b343 [Value.int .i64 (((splitR g e).1).1), v89] := bx345
  refine l_nil ?_
  refine run_seq ?_
  refine run_seq ?_
  refine run_region rfl ?_
  refine l_val (v := Value.pointer (some ⟨b343, 1, none⟩)) rfl (e_fieldAddr Try.underlying24 rfl rfl rfl rfl) ?_
  refine l_val (v := v89) rfl (e_load_bx1 tp22_wa rfl bx345 rfl) ?_
  replace o90 := o90.chg ch342 (not_no _) (not_no _)
  have len346 := (o90.flat).small
  refine l_val (v := Value.int .i64 (List.length (((splitR g e).1).2) : Int)) rfl (e_len Try.underlying22 rfl o90.flat) ?_
  refine l_val (v := Value.pointer (some ⟨b343, 1, none⟩)) rfl (e_fieldAddr Try.underlying24 rfl rfl rfl rfl) ?_
  refine l_val (v := v89) rfl (e_load_bx1 tp22_wa rfl bx345 rfl) ?_
  have cap347 := Sl.cap o90.flat
  refine l_val (v := Value.int .i64 (sCap v89 : Int)) rfl (e_cap Try.underlying22 rfl o90.flat) ?_
  refine l_op rfl ?_
  refine o_call (v := Value.int .i64 (min (sCap v89 : Int) ((List.length (((splitR g e).1).2) : Int) + 2000))) (e_call (vals := [Value.int .i64 (List.length (((splitR g e).1).2) : Int), Value.int .i64 (sCap v89 : Int)]) Try.func70 bd70_wa nm70_wa rfl) (Room_ok w341 (List.length (((splitR g e).1).2) : Int) (sCap v89 : Int) (by omega)) ?_
  intro w348 hb349
  replace hb349 := chg_below hb349 g344
  refine l_val (v := Value.int .i64 (min (sCap v89 : Int) ((List.length (((splitR g e).1).2) : Int) + 2000))) rfl (e_assign rfl) ?_
  refine l_nil ?_
  refine run_block ?_
  refine run_loop (σ := Value × (List ((Int) × (Int))) × Cmap) (fun ⟨g_1_c9_v, g_1_c9, gq⟩ f w => Base w0 gq w ∧ f 1 = Value.pointer (some ⟨b343, 0, none⟩) ∧ f 2 = Value.int .i64 (min (sCap v89 : Int) ((List.length (((splitR g e).1).2) : Int) + 2000)) ∧ Sl gq (is 0) w g_v g.2 ∧ Sl gq (is 0) w keep_v keep ∧ Sl gq (is 0) w nodes_v nodes ∧ Bx gq (is 1) w b3 [Value.int .i64 g.1, g_v] ∧ Ow gq (is 2) (is 2) w (upV v20) (g.2 ++ [((-7 : Int), (7 : Int))]) ∧ Sl gq (is 2) w v20 g.2 ∧ Bx gq (is 3) w b27 [Value.int .i64 g.1, v20] ∧ Bx gq (is 4) w b40 [b_0_c8_v, Value.int .i64 b_1_c8] ∧ Bx gq (is 118) w b95 [Value.int .i64 (((splitR g e).1).1), v89] ∧ Ow gq (is 119) (is 119) w v105 (((bareR g).1).2) ∧ Bx gq (is 121) w b113 [Value.int .i64 (((bareR g).1).1), v105] ∧ Nst gq 17 w b_0_c8_v b_0_c8 ∧ Bx gq (is 131) w b343 [Value.int .i64 (((splitR g e).1).1), g_1_c9_v] ∧ Ow gq (is 117) (is 117) w g_1_c9_v g_1_c9 ∧ ((List.length g_1_c9 : Int) ≤ 20000)) (fun ⟨g_1_c9_v, g_1_c9, gq⟩ => Int.toNat ((min (sCap v89 : Int) ((List.length (((splitR g e).1).2) : Int) + 2000)) - (List.length g_1_c9 : Int))) (v89, ((splitR g e).1).2, g344) ?_ ?_
  have C350 : Chg (inl [126, 129]) _ _ _ _ := (ch284.n).seq ((ch286.n).seq ((ch291.l rfl).seq ((ch302.n).seq ((ch304.n).seq ((ch309.l rfl).seq ((ch311.n).seq ((ch320.n).seq ((hb323.n).seq ((hb327.n).seq ((hb331.n).seq ((hb334.n).seq ((hb338.n).seq ((ch342.n).seq (hb349.n))))))))))))))
  replace hbase := hbase.chg C350 (is_nl rfl)
  have C351 : Chg (inl []) _ _ _ _ := (ch320.n).seq ((hb323.n).seq ((hb327.n).seq ((hb331.n).seq ((hb334.n).seq ((hb338.n).seq ((ch342.n).seq (hb349.n)))))))
  replace r_g_v := r_g_v.chg C351 (is_nl rfl)
  replace r_keep_v := r_keep_v.chg C350 (is_nl rfl)
  replace r_nodes_v := r_nodes_v.chg C350 (is_nl rfl)
  replace bx5 := bx5.chg C350 (is_nl rfl)
  replace o21 := o21.chg C350 (is_nl rfl) (is_nl rfl)
  replace r24 := r24.chg C350 (is_nl rfl)
  replace bx32 := bx32.chg C350 (is_nl rfl)
  replace bx42 := bx42.chg C350 (is_nl rfl)
  replace bx100 := (bx100.chg ch342 (not_no _)).chg hb349 (not_no _)
  replace o106 := o106.chg C351 (is_nl rfl) (is_nl rfl)
  replace bx118 := bx118.chg C351 (is_nl rfl)
  replace o_b_0_c8 := o_b_0_c8.chg C350 (is_nl rfl)
  replace bx345 := bx345.chg hb349 (not_no _)
  replace o90 := o90.chg hb349 (not_no _) (not_no _)
  · exact ⟨hbase, rfl, rfl, r_g_v, r_keep_v, r_nodes_v, bx5, o21, r24, bx32, bx42, bx100, o106, bx118, o_b_0_c8, bx345, o90, by omega⟩
  clear r_g_v
  clear r_keep_v
  clear r_nodes_v
  clear bx5
  clear o21
  clear r24
  clear bx32
  clear bx42
  clear o90
  clear bx100
  clear o106
  clear bx118
  clear o_b_0_c8
  clear bx345
  clear hbase
  rintro ⟨g_1_c9_v, g_1_c9, g354⟩ f352 w353 ⟨hbase, zs1, zs2, r_g_v, r_keep_v, r_nodes_v, bx5, o21, r24, bx32, bx42, bx100, o106, bx118, o_b_0_c8, bx345, o_g_1_c9, hg_c9⟩ back2_c9
  refine run_seq ?_
  refine run_seq ?_
  refine run_region rfl ?_
  refine l_val (v := Value.pointer (some ⟨b343, 1, none⟩)) rfl (e_fieldAddr Try.underlying24 rfl rfl (by exact zs1) rfl) ?_
  refine l_val (v := g_1_c9_v) rfl (e_load_bx1 tp22_wa rfl bx345 rfl) ?_
  have len355 := (o_g_1_c9.flat).small
  refine l_val (v := Value.int .i64 (List.length g_1_c9 : Int)) rfl (e_len Try.underlying22 rfl o_g_1_c9.flat) ?_
  refine l_val (v := Value.int .i64 (min (sCap v89 : Int) ((List.length (((splitR g e).1).2) : Int) + 2000))) rfl (e_move (by exact zs2)) ?_
  refine l_val (v := Value.bool (decide ((List.length g_1_c9 : Int) < (min (sCap v89 : Int) ((List.length (((splitR g e).1).2) : Int) + 2000))))) rfl (e_lss (m := (List.length g_1_c9 : Int)) (n := min (sCap v89 : Int) ((List.length (((splitR g e).1).2) : Int) + 2000)) rfl rfl) ?_
  refine l_nil ?_
  by_cases p2_c9 : (List.length g_1_c9 : Int) < (min (sCap v89 : Int) ((List.length (((splitR g e).1).2) : Int) + 2000))
  ·
   refine run_cond_t rfl (decide_eq_true p2_c9) ?_
   refine run_skip ?_
   refine run_block ?_
   refine run_region rfl ?_
   refine l_val (v := Value.pointer (some ⟨b343, 1, none⟩)) rfl (e_fieldAddr Try.underlying24 rfl rfl (by exact zs1) rfl) ?_
   refine l_val (v := g_1_c9_v) rfl (e_load_bx1 tp22_wa rfl bx345 rfl) ?_
   refine l_val (v := Value.agg (List.toArray [Value.int .i64 0, Value.int .i64 0])) rfl (e_build (vs := []) rfl (by kernel_rfl)) ?_
   refine l_op rfl ?_
   refine o_buildSlice (α := (Int) × (Int)) g354 (is 132) (is 132) (132, 0) rfl [(0, 0)] Try.underlying22 tp71_wa (by decide) (by decide) (vs := [(0, Value.agg (List.toArray [Value.int .i64 0, Value.int .i64 0]))]) rfl rfl (.cons rfl .nil) ?_
   intro g356 w357 v358 ch359 o360
   refine l_op rfl ?_
   replace o_g_1_c9 := o_g_1_c9.chg ch359 (not_no _) (not_no _)
   refine o_append (α := (Int) × (Int)) (xs := g_1_c9) (ys := ([(0, 0)])) g356 (J := is 117) (S := is 117) (117, 0) rfl Try.underlying22 tp71_wa (by decide) rfl rfl rfl o_g_1_c9 o360.flat (by decide) (by first | omega | (simp; done) | (simp; omega)) ?_
   intro g361 w362 v363 ch364 o365
   clear o_g_1_c9
   refine l_val (v := Value.pointer (some ⟨b343, 1, none⟩)) rfl (e_fieldAddr Try.underlying24 rfl rfl (by exact zs1) rfl) ?_
   refine l_op rfl ?_
   replace bx345 := (bx345.chg ch359 (not_no _)).chg ch364 (is_ne rfl)
   refine o_store_bx1 (cs' := [Value.int .i64 (((splitR g e).1).1), v363]) tp22_wa rfl rfl bx345 (sl_cells1 o365.flat) (Nat.le_of_ble_eq_true rfl) (sl_one o365.flat) rfl ?_
   intro w366 ch367 bx368
   clear bx345
   refine l_nil ?_
   refine run_inBlock ?_
   have C369 : Chg (inl [117, 131]) _ _ _ _ := (ch359.n).seq ((ch364.l rfl).seq (ch367.l rfl))
   replace hbase := hbase.chg C369 (is_nl rfl)
   replace r_g_v := r_g_v.chg C369 (is_nl rfl)
   replace r_keep_v := r_keep_v.chg C369 (is_nl rfl)
   replace r_nodes_v := r_nodes_v.chg C369 (is_nl rfl)
   replace bx5 := bx5.chg C369 (is_nl rfl)
   replace o21 := o21.chg C369 (is_nl rfl) (is_nl rfl)
   replace r24 := r24.chg C369 (is_nl rfl)
   replace bx32 := bx32.chg C369 (is_nl rfl)
   replace bx42 := bx42.chg C369 (is_nl rfl)
   replace bx100 := bx100.chg C369 (is_nl rfl)
   replace o106 := o106.chg C369 (is_nl rfl) (is_nl rfl)
   replace bx118 := bx118.chg C369 (is_nl rfl)
   replace o_b_0_c8 := o_b_0_c8.chg C369 (is_nl rfl)
   replace o365 := o365.chg ch367 (is_ne rfl) (is_ne rfl)
   refine back2_c9 (v363, (g_1_c9 ++ [(0, 0)]), g361) _ _ ⟨hbase, (by exact zs1), (by exact zs2), r_g_v, r_keep_v, r_nodes_v, bx5, o21, r24, bx32, bx42, bx100, o106, bx118, o_b_0_c8, bx368, o365, ?_⟩ ?_
   · show (List.length (g_1_c9 ++ [(0, 0)]) : Int) ≤ 20000
     first | (simp only [List.length_append, List.length_cons, List.length_nil]; omega) | (simp; omega)
   · show Int.toNat ((min (sCap v89 : Int) ((List.length (((splitR g e).1).2) : Int) + 2000)) - (List.length (g_1_c9 ++ [(0, 0)]) : Int)) < Int.toNat ((min (sCap v89 : Int) ((List.length (((splitR g e).1).2) : Int) + 2000)) - (List.length g_1_c9 : Int))
     first | omega | (simp only [List.length_append, List.length_cons, List.length_nil]; omega)
  refine run_cond_f rfl (decide_eq_false p2_c9) ?_
  refine run_exit rfl ?_
  refine run_seq ?_
  refine run_region rfl ?_
  refine l_val (v := Value.int .i64 0) rfl (e_assign rfl) ?_
  refine l_nil ?_
  refine run_block ?_
  refine run_loop (σ := Nat × (List ((Int) × (Int))) × Cmap) (fun ⟨i_c9, gs_c9, gq⟩ f w => Base w0 gq w ∧ f 1 = Value.pointer (some ⟨b343, 0, none⟩) ∧ f 3 = Value.int .i64 (i_c9 : Int) ∧ Sl gq (is 0) w g_v g.2 ∧ Sl gq (is 0) w keep_v keep ∧ Sl gq (is 0) w nodes_v nodes ∧ Bx gq (is 1) w b3 [Value.int .i64 g.1, g_v] ∧ Ow gq (is 2) (is 2) w (upV v20) (g.2 ++ [((-7 : Int), (7 : Int))]) ∧ Sl gq (is 2) w v20 g.2 ∧ Bx gq (is 3) w b27 [Value.int .i64 g.1, v20] ∧ Bx gq (is 4) w b40 [b_0_c8_v, Value.int .i64 b_1_c8] ∧ Bx gq (is 118) w b95 [Value.int .i64 (((splitR g e).1).1), v89] ∧ Ow gq (is 119) (is 119) w v105 (((bareR g).1).2) ∧ Bx gq (is 121) w b113 [Value.int .i64 (((bareR g).1).1), v105] ∧ Nst gq 17 w b_0_c8_v b_0_c8 ∧ Bx gq (is 131) w b343 [Value.int .i64 (((splitR g e).1).1), g_1_c9_v] ∧ Ow gq (is 117) (is 117) w g_1_c9_v gs_c9 ∧ ((i_c9 : Int) ≤ List.length gs_c9 ∧ (List.length gs_c9 : Int) ≤ 20000)) (fun ⟨i_c9, gs_c9, gq⟩ => List.length gs_c9 - i_c9) (0, g_1_c9, g354) ?_ ?_
  · exact ⟨hbase, (by exact zs1), rfl, r_g_v, r_keep_v, r_nodes_v, bx5, o21, r24, bx32, bx42, bx100, o106, bx118, o_b_0_c8, bx345, o_g_1_c9, by exact ⟨by simp, by omega⟩⟩
  clear r_g_v
  clear r_keep_v
  clear r_nodes_v
  clear bx5
  clear o21
  clear r24
  clear bx32
  clear bx42
  clear bx100
  clear o106
  clear bx118
  clear o_b_0_c8
  clear bx345
  clear o_g_1_c9
  clear hbase
  rintro ⟨i_c9, gs_c9, g372⟩ f370 w371 ⟨hbase, zs1, zs3, r_g_v, r_keep_v, r_nodes_v, bx5, o21, r24, bx32, bx42, bx100, o106, bx118, o_b_0_c8, bx345, o_g_1_c9, hh_c9⟩ back5_c9
  refine run_seq ?_
  refine run_seq ?_
  refine run_region rfl ?_
  refine l_val (v := Value.int .i64 (i_c9 : Int)) rfl (e_move (by exact zs3)) ?_
  refine l_val (v := Value.pointer (some ⟨b343, 1, none⟩)) rfl (e_fieldAddr Try.underlying24 rfl rfl (by exact zs1) rfl) ?_
  refine l_val (v := g_1_c9_v) rfl (e_load_bx1 tp22_wa rfl bx345 rfl) ?_
  have len373 := (o_g_1_c9.flat).small
  refine l_val (v := Value.int .i64 (List.length gs_c9 : Int)) rfl (e_len Try.underlying22 rfl o_g_1_c9.flat) ?_
  refine l_val (v := Value.bool (decide ((i_c9 : Int) < (List.length gs_c9 : Int)))) rfl (e_lss (m := (i_c9 : Int)) (n := (List.length gs_c9 : Int)) rfl rfl) ?_
  refine l_nil ?_
  by_cases p5_c9 : (i_c9 : Int) < (List.length gs_c9 : Int)
  ·
   refine run_cond_t rfl (decide_eq_true p5_c9) ?_
   refine run_skip ?_
   refine run_seq ?_
   refine run_block ?_
   refine run_region rfl ?_
   refine l_val (v := Value.pointer (some ⟨b343, 1, none⟩)) rfl (e_fieldAddr Try.underlying24 rfl rfl (by exact zs1) rfl) ?_
   refine l_val (v := g_1_c9_v) rfl (e_load_bx1 tp22_wa rfl bx345 rfl) ?_
   refine l_val (v := Value.int .i64 (i_c9 : Int)) rfl (e_move (by exact zs3)) ?_
   refine l_val (v := Value.agg (List.toArray [Value.int .i64 (-9), Value.int .i64 (-9)])) rfl (e_build (vs := [(0, Value.int .i64 (-9)), (1, Value.int .i64 (-9))]) rfl (by kernel_rfl)) ?_
   refine l_val (v := Value.pointer (some (eAddr g_1_c9_v 2 (Int.toNat (i_c9 : Int))))) rfl (e_indexAddr (α := (Int) × (Int)) (xs := gs_c9) (v := g_1_c9_v) (i := (i_c9 : Int)) Try.underlying22 rfl rfl o_g_1_c9.flat rfl (by omega) (by omega)) ?_
   refine l_op rfl ?_
   refine o_store_el (i := (i_c9 : Int)) (-9, -9) tp71_wa rfl rfl o_g_1_c9 (by omega) (by omega) rfl ?_
   intro w374 ch375 bx376
   clear o_g_1_c9
   refine l_nil ?_
   refine run_inBlock ?_
   refine run_region rfl ?_
   refine l_val (v := Value.int .i64 (i_c9 : Int)) rfl (e_move (by exact zs3)) ?_
   refine l_val (v := Value.int .i64 ((i_c9 : Int) + 1)) rfl (e_add (m := (i_c9 : Int)) (n := 1) rfl rfl (by omega)) ?_
   refine l_val (v := Value.int .i64 ((i_c9 : Int) + 1)) rfl (e_assign rfl) ?_
   refine l_nil ?_
   replace hbase := hbase.chg ch375 (is_ne rfl)
   replace r_g_v := r_g_v.chg ch375 (is_ne rfl)
   replace r_keep_v := r_keep_v.chg ch375 (is_ne rfl)
   replace r_nodes_v := r_nodes_v.chg ch375 (is_ne rfl)
   replace bx5 := bx5.chg ch375 (is_ne rfl)
   replace o21 := o21.chg ch375 (is_ne rfl) (is_ne rfl)
   replace r24 := r24.chg ch375 (is_ne rfl)
   replace bx32 := bx32.chg ch375 (is_ne rfl)
   replace bx42 := bx42.chg ch375 (is_ne rfl)
   replace bx100 := bx100.chg ch375 (is_ne rfl)
   replace o106 := o106.chg ch375 (is_ne rfl) (is_ne rfl)
   replace bx118 := bx118.chg ch375 (is_ne rfl)
   replace o_b_0_c8 := o_b_0_c8.chg ch375 (is_ne rfl)
   replace bx345 := bx345.chg ch375 (is_ne rfl)
   refine back5_c9 (i_c9 + 1, (List.set gs_c9 (Int.toNat (i_c9 : Int)) (-9, -9)), g372) _ _ ⟨hbase, (by exact zs1), rfl, r_g_v, r_keep_v, r_nodes_v, bx5, o21, r24, bx32, bx42, bx100, o106, bx118, o_b_0_c8, bx345, bx376, ?_⟩ ?_
   · show ((i_c9 + 1) : Int) ≤ List.length (List.set gs_c9 (Int.toNat (i_c9 : Int)) (-9, -9)) ∧ (List.length (List.set gs_c9 (Int.toNat (i_c9 : Int)) (-9, -9)) : Int) ≤ 20000
     refine ⟨by simp; omega, by simp; omega⟩
   · show List.length (List.set gs_c9 (Int.toNat (i_c9 : Int)) (-9, -9)) - (i_c9 + 1) < List.length gs_c9 - i_c9
     simp only [List.length_set]; omega
  refine run_cond_f rfl (decide_eq_false p5_c9) ?_
  refine run_exit rfl ?_
  refine run_end (vs := []) Try.func64 .nil ?_
  refine ⟨Value.tuple (List.toArray []), rfl, ?_⟩
  refine l_nil ?_
  refine run_seq ?_
  clear bx100
  clear bx345
  clear o_g_1_c9
  refine run_region rfl ?_
  refine l_val (v := Value.agg (List.toArray [Value.int .i64 (((bareR g).1).1), v105])) rfl (e_load_bxN (ds := [Value.int .i64 (((bareR g).1).1), v105]) tp24_wa (by exact z277_21) bx118 rfl rfl) ?_
  refine l_op rfl ?_
  refine o_inline (e_call (vals := [Value.agg (List.toArray [Value.int .i64 (((bareR g).1).1), v105])]) Try.func64 bd64_wa nm64_wa rfl) ?_
  refine calls_of_run Try.func64 rfl (Nat.le_of_ble_eq_true rfl) ?_
  have hsp_c10 : (List.length (((bareR g).1).2) : Int) ≤ 10000 := by first | exact split_few (by omega) | exact bare_few (by omega) | exact sub_few (by omega) | exact part_few (by omega) | exact merge_few (by omega)
  refine run_seq ?_
  refine run_region rfl ?_
  refine l_op rfl ?_
  refine o_box g372 (is 133) (133, 0) rfl rfl ?_
  intro g380 w377 b379 ch378 bx381
  replace bx381 : Bx g380 (is 133) w377 b379 [Value.int .i64 (((bareR g).1).1), v105] := bx381
  refine l_nil ?_
  refine run_seq ?_
  refine run_seq ?_
  refine run_region rfl ?_
  refine l_val (v := Value.pointer (some ⟨b379, 1, none⟩)) rfl (e_fieldAddr Try.underlying24 rfl rfl rfl rfl) ?_
  refine l_val (v := v105) rfl (e_load_bx1 tp22_wa rfl bx381 rfl) ?_
  replace o106 := o106.chg ch378 (not_no _) (not_no _)
  have len382 := (o106.flat).small
  refine l_val (v := Value.int .i64 (List.length (((bareR g).1).2) : Int)) rfl (e_len Try.underlying22 rfl o106.flat) ?_
  refine l_val (v := Value.pointer (some ⟨b379, 1, none⟩)) rfl (e_fieldAddr Try.underlying24 rfl rfl rfl rfl) ?_
  refine l_val (v := v105) rfl (e_load_bx1 tp22_wa rfl bx381 rfl) ?_
  have cap383 := Sl.cap o106.flat
  refine l_val (v := Value.int .i64 (sCap v105 : Int)) rfl (e_cap Try.underlying22 rfl o106.flat) ?_
  refine l_op rfl ?_
  refine o_call (v := Value.int .i64 (min (sCap v105 : Int) ((List.length (((bareR g).1).2) : Int) + 2000))) (e_call (vals := [Value.int .i64 (List.length (((bareR g).1).2) : Int), Value.int .i64 (sCap v105 : Int)]) Try.func70 bd70_wa nm70_wa rfl) (Room_ok w377 (List.length (((bareR g).1).2) : Int) (sCap v105 : Int) (by omega)) ?_
  intro w384 hb385
  replace hb385 := chg_below hb385 g380
  refine l_val (v := Value.int .i64 (min (sCap v105 : Int) ((List.length (((bareR g).1).2) : Int) + 2000))) rfl (e_assign rfl) ?_
  refine l_nil ?_
  refine run_block ?_
  refine run_loop (σ := Value × (List ((Int) × (Int))) × Cmap) (fun ⟨g_1_c10_v, g_1_c10, gq⟩ f w => Base w0 gq w ∧ f 1 = Value.pointer (some ⟨b379, 0, none⟩) ∧ f 2 = Value.int .i64 (min (sCap v105 : Int) ((List.length (((bareR g).1).2) : Int) + 2000)) ∧ Sl gq (is 0) w g_v g.2 ∧ Sl gq (is 0) w keep_v keep ∧ Sl gq (is 0) w nodes_v nodes ∧ Bx gq (is 1) w b3 [Value.int .i64 g.1, g_v] ∧ Ow gq (is 2) (is 2) w (upV v20) (g.2 ++ [((-7 : Int), (7 : Int))]) ∧ Sl gq (is 2) w v20 g.2 ∧ Bx gq (is 3) w b27 [Value.int .i64 g.1, v20] ∧ Bx gq (is 4) w b40 [b_0_c8_v, Value.int .i64 b_1_c8] ∧ Bx gq (is 121) w b113 [Value.int .i64 (((bareR g).1).1), v105] ∧ Nst gq 17 w b_0_c8_v b_0_c8 ∧ Bx gq (is 133) w b379 [Value.int .i64 (((bareR g).1).1), g_1_c10_v] ∧ Ow gq (is 119) (is 119) w g_1_c10_v g_1_c10 ∧ ((List.length g_1_c10 : Int) ≤ 20000)) (fun ⟨g_1_c10_v, g_1_c10, gq⟩ => Int.toNat ((min (sCap v105 : Int) ((List.length (((bareR g).1).2) : Int) + 2000)) - (List.length g_1_c10 : Int))) (v105, ((bareR g).1).2, g380) ?_ ?_
  replace hbase := hbase.chg ch378 (not_no _)
  replace hbase := hbase.chg hb385 (not_no _)
  replace r_g_v := (r_g_v.chg ch378 (not_no _)).chg hb385 (not_no _)
  replace r_keep_v := (r_keep_v.chg ch378 (not_no _)).chg hb385 (not_no _)
  replace r_nodes_v := (r_nodes_v.chg ch378 (not_no _)).chg hb385 (not_no _)
  replace bx5 := (bx5.chg ch378 (not_no _)).chg hb385 (not_no _)
  replace o21 := (o21.chg ch378 (not_no _) (not_no _)).chg hb385 (not_no _) (not_no _)
  replace r24 := (r24.chg ch378 (not_no _)).chg hb385 (not_no _)
  replace bx32 := (bx32.chg ch378 (not_no _)).chg hb385 (not_no _)
  replace bx42 := (bx42.chg ch378 (not_no _)).chg hb385 (not_no _)
  replace bx118 := (bx118.chg ch378 (not_no _)).chg hb385 (not_no _)
  replace o_b_0_c8 := (o_b_0_c8.chg ch378 (not_no _)).chg hb385 (not_no _)
  replace bx381 := bx381.chg hb385 (not_no _)
  replace o106 := o106.chg hb385 (not_no _) (not_no _)
  · exact ⟨hbase, rfl, rfl, r_g_v, r_keep_v, r_nodes_v, bx5, o21, r24, bx32, bx42, bx118, o_b_0_c8, bx381, o106, by omega⟩
  clear r_g_v
  clear r_keep_v
  clear r_nodes_v
  clear bx5
  clear o21
  clear r24
  clear bx32
  clear bx42
  clear o106
  clear bx118
  clear o_b_0_c8
  clear bx381
  clear hbase
  rintro ⟨g_1_c10_v, g_1_c10, g388⟩ f386 w387 ⟨hbase, zs1, zs2, r_g_v, r_keep_v, r_nodes_v, bx5, o21, r24, bx32, bx42, bx118, o_b_0_c8, bx381, o_g_1_c10, hg_c10⟩ back2_c10
  refine run_seq ?_
  refine run_seq ?_
  refine run_region rfl ?_
  refine l_val (v := Value.pointer (some ⟨b379, 1, none⟩)) rfl (e_fieldAddr Try.underlying24 rfl rfl (by exact zs1) rfl) ?_
  refine l_val (v := g_1_c10_v) rfl (e_load_bx1 tp22_wa rfl bx381 rfl) ?_
  have len389 := (o_g_1_c10.flat).small
  refine l_val (v := Value.int .i64 (List.length g_1_c10 : Int)) rfl (e_len Try.underlying22 rfl o_g_1_c10.flat) ?_
  refine l_val (v := Value.int .i64 (min (sCap v105 : Int) ((List.length (((bareR g).1).2) : Int) + 2000))) rfl (e_move (by exact zs2)) ?_
  refine l_val (v := Value.bool (decide ((List.length g_1_c10 : Int) < (min (sCap v105 : Int) ((List.length (((bareR g).1).2) : Int) + 2000))))) rfl (e_lss (m := (List.length g_1_c10 : Int)) (n := min (sCap v105 : Int) ((List.length (((bareR g).1).2) : Int) + 2000)) rfl rfl) ?_
  refine l_nil ?_
  by_cases p2_c10 : (List.length g_1_c10 : Int) < (min (sCap v105 : Int) ((List.length (((bareR g).1).2) : Int) + 2000))
  ·
   refine run_cond_t rfl (decide_eq_true p2_c10) ?_
   refine run_skip ?_
   refine run_block ?_
   refine run_region rfl ?_
   refine l_val (v := Value.pointer (some ⟨b379, 1, none⟩)) rfl (e_fieldAddr Try.underlying24 rfl rfl (by exact zs1) rfl) ?_
   refine l_val (v := g_1_c10_v) rfl (e_load_bx1 tp22_wa rfl bx381 rfl) ?_
   refine l_val (v := Value.agg (List.toArray [Value.int .i64 0, Value.int .i64 0])) rfl (e_build (vs := []) rfl (by kernel_rfl)) ?_
   refine l_op rfl ?_
   refine o_buildSlice (α := (Int) × (Int)) g388 (is 134) (is 134) (134, 0) rfl [(0, 0)] Try.underlying22 tp71_wa (by decide) (by decide) (vs := [(0, Value.agg (List.toArray [Value.int .i64 0, Value.int .i64 0]))]) rfl rfl (.cons rfl .nil) ?_
   intro g390 w391 v392 ch393 o394
   refine l_op rfl ?_
   replace o_g_1_c10 := o_g_1_c10.chg ch393 (not_no _) (not_no _)
   refine o_append (α := (Int) × (Int)) (xs := g_1_c10) (ys := ([(0, 0)])) g390 (J := is 119) (S := is 119) (119, 0) rfl Try.underlying22 tp71_wa (by decide) rfl rfl rfl o_g_1_c10 o394.flat (by decide) (by first | omega | (simp; done) | (simp; omega)) ?_
   intro g395 w396 v397 ch398 o399
   clear o_g_1_c10
   refine l_val (v := Value.pointer (some ⟨b379, 1, none⟩)) rfl (e_fieldAddr Try.underlying24 rfl rfl (by exact zs1) rfl) ?_
   refine l_op rfl ?_
   replace bx381 := (bx381.chg ch393 (not_no _)).chg ch398 (is_ne rfl)
   refine o_store_bx1 (cs' := [Value.int .i64 (((bareR g).1).1), v397]) tp22_wa rfl rfl bx381 (sl_cells1 o399.flat) (Nat.le_of_ble_eq_true rfl) (sl_one o399.flat) rfl ?_
   intro w400 ch401 bx402
   clear bx381
   refine l_nil ?_
   refine run_inBlock ?_
   have C403 : Chg (inl [119, 133]) _ _ _ _ := (ch393.n).seq ((ch398.l rfl).seq (ch401.l rfl))
   replace hbase := hbase.chg C403 (is_nl rfl)
   replace r_g_v := r_g_v.chg C403 (is_nl rfl)
   replace r_keep_v := r_keep_v.chg C403 (is_nl rfl)
   replace r_nodes_v := r_nodes_v.chg C403 (is_nl rfl)
   replace bx5 := bx5.chg C403 (is_nl rfl)
   replace o21 := o21.chg C403 (is_nl rfl) (is_nl rfl)
   replace r24 := r24.chg C403 (is_nl rfl)
   replace bx32 := bx32.chg C403 (is_nl rfl)
   replace bx42 := bx42.chg C403 (is_nl rfl)
   replace bx118 := bx118.chg C403 (is_nl rfl)
   replace o_b_0_c8 := o_b_0_c8.chg C403 (is_nl rfl)
   replace o399 := o399.chg ch401 (is_ne rfl) (is_ne rfl)
   refine back2_c10 (v397, (g_1_c10 ++ [(0, 0)]), g395) _ _ ⟨hbase, (by exact zs1), (by exact zs2), r_g_v, r_keep_v, r_nodes_v, bx5, o21, r24, bx32, bx42, bx118, o_b_0_c8, bx402, o399, ?_⟩ ?_
   · show (List.length (g_1_c10 ++ [(0, 0)]) : Int) ≤ 20000
     first | (simp only [List.length_append, List.length_cons, List.length_nil]; omega) | (simp; omega)
   · show Int.toNat ((min (sCap v105 : Int) ((List.length (((bareR g).1).2) : Int) + 2000)) - (List.length (g_1_c10 ++ [(0, 0)]) : Int)) < Int.toNat ((min (sCap v105 : Int) ((List.length (((bareR g).1).2) : Int) + 2000)) - (List.length g_1_c10 : Int))
     first | omega | (simp only [List.length_append, List.length_cons, List.length_nil]; omega)
  refine run_cond_f rfl (decide_eq_false p2_c10) ?_
  refine run_exit rfl ?_
  refine run_seq ?_
  refine run_region rfl ?_
  refine l_val (v := Value.int .i64 0) rfl (e_assign rfl) ?_
  refine l_nil ?_
  refine run_block ?_
  refine run_loop (σ := Nat × (List ((Int) × (Int))) × Cmap) (fun ⟨i_c10, gs_c10, gq⟩ f w => Base w0 gq w ∧ f 1 = Value.pointer (some ⟨b379, 0, none⟩) ∧ f 3 = Value.int .i64 (i_c10 : Int) ∧ Sl gq (is 0) w g_v g.2 ∧ Sl gq (is 0) w keep_v keep ∧ Sl gq (is 0) w nodes_v nodes ∧ Bx gq (is 1) w b3 [Value.int .i64 g.1, g_v] ∧ Ow gq (is 2) (is 2) w (upV v20) (g.2 ++ [((-7 : Int), (7 : Int))]) ∧ Sl gq (is 2) w v20 g.2 ∧ Bx gq (is 3) w b27 [Value.int .i64 g.1, v20] ∧ Bx gq (is 4) w b40 [b_0_c8_v, Value.int .i64 b_1_c8] ∧ Bx gq (is 121) w b113 [Value.int .i64 (((bareR g).1).1), v105] ∧ Nst gq 17 w b_0_c8_v b_0_c8 ∧ Bx gq (is 133) w b379 [Value.int .i64 (((bareR g).1).1), g_1_c10_v] ∧ Ow gq (is 119) (is 119) w g_1_c10_v gs_c10 ∧ ((i_c10 : Int) ≤ List.length gs_c10 ∧ (List.length gs_c10 : Int) ≤ 20000)) (fun ⟨i_c10, gs_c10, gq⟩ => List.length gs_c10 - i_c10) (0, g_1_c10, g388) ?_ ?_
  · exact ⟨hbase, (by exact zs1), rfl, r_g_v, r_keep_v, r_nodes_v, bx5, o21, r24, bx32, bx42, bx118, o_b_0_c8, bx381, o_g_1_c10, by exact ⟨by simp, by omega⟩⟩
  clear r_g_v
  clear r_keep_v
  clear r_nodes_v
  clear bx5
  clear o21
  clear r24
  clear bx32
  clear bx42
  clear bx118
  clear o_b_0_c8
  clear bx381
  clear o_g_1_c10
  clear hbase
  rintro ⟨i_c10, gs_c10, g406⟩ f404 w405 ⟨hbase, zs1, zs3, r_g_v, r_keep_v, r_nodes_v, bx5, o21, r24, bx32, bx42, bx118, o_b_0_c8, bx381, o_g_1_c10, hh_c10⟩ back5_c10
  refine run_seq ?_
  refine run_seq ?_
  refine run_region rfl ?_
  refine l_val (v := Value.int .i64 (i_c10 : Int)) rfl (e_move (by exact zs3)) ?_
  refine l_val (v := Value.pointer (some ⟨b379, 1, none⟩)) rfl (e_fieldAddr Try.underlying24 rfl rfl (by exact zs1) rfl) ?_
  refine l_val (v := g_1_c10_v) rfl (e_load_bx1 tp22_wa rfl bx381 rfl) ?_
  have len407 := (o_g_1_c10.flat).small
  refine l_val (v := Value.int .i64 (List.length gs_c10 : Int)) rfl (e_len Try.underlying22 rfl o_g_1_c10.flat) ?_
  refine l_val (v := Value.bool (decide ((i_c10 : Int) < (List.length gs_c10 : Int)))) rfl (e_lss (m := (i_c10 : Int)) (n := (List.length gs_c10 : Int)) rfl rfl) ?_
  refine l_nil ?_
  by_cases p5_c10 : (i_c10 : Int) < (List.length gs_c10 : Int)
  ·
   refine run_cond_t rfl (decide_eq_true p5_c10) ?_
   refine run_skip ?_
   refine run_seq ?_
   refine run_block ?_
   refine run_region rfl ?_
   refine l_val (v := Value.pointer (some ⟨b379, 1, none⟩)) rfl (e_fieldAddr Try.underlying24 rfl rfl (by exact zs1) rfl) ?_
   refine l_val (v := g_1_c10_v) rfl (e_load_bx1 tp22_wa rfl bx381 rfl) ?_
   refine l_val (v := Value.int .i64 (i_c10 : Int)) rfl (e_move (by exact zs3)) ?_
   refine l_val (v := Value.agg (List.toArray [Value.int .i64 (-9), Value.int .i64 (-9)])) rfl (e_build (vs := [(0, Value.int .i64 (-9)), (1, Value.int .i64 (-9))]) rfl (by kernel_rfl)) ?_
   refine l_val (v := Value.pointer (some (eAddr g_1_c10_v 2 (Int.toNat (i_c10 : Int))))) rfl (e_indexAddr (α := (Int) × (Int)) (xs := gs_c10) (v := g_1_c10_v) (i := (i_c10 : Int)) Try.underlying22 rfl rfl o_g_1_c10.flat rfl (by omega) (by omega)) ?_
   refine l_op rfl ?_
   refine o_store_el (i := (i_c10 : Int)) (-9, -9) tp71_wa rfl rfl o_g_1_c10 (by omega) (by omega) rfl ?_
   intro w408 ch409 bx410
   clear o_g_1_c10
   refine l_nil ?_
   refine run_inBlock ?_
   refine run_region rfl ?_
   refine l_val (v := Value.int .i64 (i_c10 : Int)) rfl (e_move (by exact zs3)) ?_
   refine l_val (v := Value.int .i64 ((i_c10 : Int) + 1)) rfl (e_add (m := (i_c10 : Int)) (n := 1) rfl rfl (by omega)) ?_
   refine l_val (v := Value.int .i64 ((i_c10 : Int) + 1)) rfl (e_assign rfl) ?_
   refine l_nil ?_
   replace hbase := hbase.chg ch409 (is_ne rfl)
   replace r_g_v := r_g_v.chg ch409 (is_ne rfl)
   replace r_keep_v := r_keep_v.chg ch409 (is_ne rfl)
   replace r_nodes_v := r_nodes_v.chg ch409 (is_ne rfl)
   replace bx5 := bx5.chg ch409 (is_ne rfl)
   replace o21 := o21.chg ch409 (is_ne rfl) (is_ne rfl)
   replace r24 := r24.chg ch409 (is_ne rfl)
   replace bx32 := bx32.chg ch409 (is_ne rfl)
   replace bx42 := bx42.chg ch409 (is_ne rfl)
   replace bx118 := bx118.chg ch409 (is_ne rfl)
   replace o_b_0_c8 := o_b_0_c8.chg ch409 (is_ne rfl)
   replace bx381 := bx381.chg ch409 (is_ne rfl)
   refine back5_c10 (i_c10 + 1, (List.set gs_c10 (Int.toNat (i_c10 : Int)) (-9, -9)), g406) _ _ ⟨hbase, (by exact zs1), rfl, r_g_v, r_keep_v, r_nodes_v, bx5, o21, r24, bx32, bx42, bx118, o_b_0_c8, bx381, bx410, ?_⟩ ?_
   · show ((i_c10 + 1) : Int) ≤ List.length (List.set gs_c10 (Int.toNat (i_c10 : Int)) (-9, -9)) ∧ (List.length (List.set gs_c10 (Int.toNat (i_c10 : Int)) (-9, -9)) : Int) ≤ 20000
     refine ⟨by simp; omega, by simp; omega⟩
   · show List.length (List.set gs_c10 (Int.toNat (i_c10 : Int)) (-9, -9)) - (i_c10 + 1) < List.length gs_c10 - i_c10
     simp only [List.length_set]; omega
  refine run_cond_f rfl (decide_eq_false p5_c10) ?_
  refine run_exit rfl ?_
  refine run_end (vs := []) Try.func64 .nil ?_
  refine ⟨Value.tuple (List.toArray []), rfl, ?_⟩
  refine l_nil ?_
  refine run_seq ?_
  clear bx118
  clear bx381
  clear o_g_1_c10
  refine run_region rfl ?_
  refine l_val (v := Value.bool (decide (((bareR g).2.1) = ((bareR g).2.1)))) rfl (e_move rfl) ?_
  refine l_val (v := Value.bool (decide (((bareR g).2.1) = ((bareR g).2.1)))) rfl (e_assign rfl) ?_
  refine l_nil ?_
  refine run_ret (vs := [Value.bool (decide (((bareR g).2.1) = ((bareR g).2.1)))]) Try.func26 (.tmp rfl .nil) ?_
  have rt411 : (decide (((bareR g).2.1) = ((bareR g).2.1))) = true := by
    first | rfl | exact decide_eq_true rfl | exact hl_c7 | exact hb_c7 | exact out_c1 hm_c7 (by assumption) | exact out_c2 hm_c7 (by assumption) | (rw [out_c3 hm_c7 (by omega)]; done) | (rw [out_c3 hm_c7 (by omega)]; rfl) | (rw [out_c4 hm_c7 (by omega) (by omega)]; exact decide_eq_true rfl) | (rw [hd_c7]; done) | (rw [ho_c7]; done) | (rw [hl_c7]; done) | (rw [hs_c7]; done) | (rw [hb_c7]; done) | (rw [hd_c7]; exact decide_eq_true rfl) | (rw [ho_c7]; exact decide_eq_true rfl) | (rw [hl_c7]; exact decide_eq_true rfl) | (rw [hs_c7]; exact decide_eq_true rfl) | (rw [hb_c7]; exact decide_eq_true rfl) | (rw [ho_c7, hd_c7, hb_c7]; rfl) | (rw [hs_c7, hb_c7]; exact decide_eq_true rfl)
  refine ⟨(b_0_c8_v, b_0_c8, b_1_c8, g406), (congrArg (fun b => Ending.returned (Value.bool b)) rt411), hbase, r_g_v, r_keep_v, r_nodes_v, bx5, o21, r24, bx32, bx42, o_b_0_c8, ?_⟩
  show KInv b_0_c8 b_1_c8
  first | assumption | exact KInv.nil | exact (KInv.add (by first | assumption | exact KInv.nil) (by omega) (by omega) (by omega))
 have hn_c7 : ¬ MayP g := fun h => p7_c7 (decide_eq_true h)
 have ho_c7 := outR_no (v := v) hn_c7
 have hd_c7 := degR_no hn_c7
 have hl_c7 := lookR_no hn_c7
 have hs_c7 := splitR_no (e := e) hn_c7
 have hb_c7 := bareR_no hn_c7
 refine run_cond_t rfl (congrArg Bool.not (Bool.eq_false_iff.2 p7_c7)) ?_
 refine run_seq ?_
 clear bx60
 refine run_region rfl ?_
 refine l_val (v := Value.int .i64 ((outR g v).2)) rfl (e_move rfl) ?_
 refine l_val (v := Value.bool (decide (((outR g v).2) = 1))) rfl (e_eql (m := (outR g v).2) (n := 1) rfl rfl) ?_
 refine l_val (v := Value.bool (decide (((outR g v).2) = 1))) rfl (e_move rfl) ?_
 have q68_c7 : ((outR g v).2) = 1 := by first | rfl | exact decide_eq_true rfl | exact hl_c7 | exact hb_c7 | exact out_c1 hm_c7 (by assumption) | exact out_c2 hm_c7 (by assumption) | (rw [out_c3 hm_c7 (by omega)]; done) | (rw [out_c3 hm_c7 (by omega)]; rfl) | (rw [out_c4 hm_c7 (by omega) (by omega)]; exact decide_eq_true rfl) | (rw [hd_c7]; done) | (rw [ho_c7]; done) | (rw [hl_c7]; done) | (rw [hs_c7]; done) | (rw [hb_c7]; done) | (rw [hd_c7]; exact decide_eq_true rfl) | (rw [ho_c7]; exact decide_eq_true rfl) | (rw [hl_c7]; exact decide_eq_true rfl) | (rw [hs_c7]; exact decide_eq_true rfl) | (rw [hb_c7]; exact decide_eq_true rfl) | (rw [ho_c7, hd_c7, hb_c7]; rfl) | (rw [hs_c7, hb_c7]; exact decide_eq_true rfl)
 refine l_val (v := Value.int .i64 ((degR g).2)) (want_y rfl rfl rfl (decide_eq_true q68_c7)) (e_move rfl) ?_
 refine l_val (v := Value.bool (decide (((degR g).2) = 1))) (want_y rfl rfl rfl (decide_eq_true q68_c7)) (e_eql (m := (degR g).2) (n := 1) rfl rfl) ?_
 refine l_val (v := Value.bool (decide (((degR g).2) = 1))) rfl (e_pick_t rfl (decide_eq_true q68_c7) rfl) ?_
 refine l_val (v := Value.bool (decide (((degR g).2) = 1))) rfl (e_move rfl) ?_
 have q72_c7 : ((degR g).2) = 1 := by first | rfl | exact decide_eq_true rfl | exact hl_c7 | exact hb_c7 | exact out_c1 hm_c7 (by assumption) | exact out_c2 hm_c7 (by assumption) | (rw [out_c3 hm_c7 (by omega)]; done) | (rw [out_c3 hm_c7 (by omega)]; rfl) | (rw [out_c4 hm_c7 (by omega) (by omega)]; exact decide_eq_true rfl) | (rw [hd_c7]; done) | (rw [ho_c7]; done) | (rw [hl_c7]; done) | (rw [hs_c7]; done) | (rw [hb_c7]; done) | (rw [hd_c7]; exact decide_eq_true rfl) | (rw [ho_c7]; exact decide_eq_true rfl) | (rw [hl_c7]; exact decide_eq_true rfl) | (rw [hs_c7]; exact decide_eq_true rfl) | (rw [hb_c7]; exact decide_eq_true rfl) | (rw [ho_c7, hd_c7, hb_c7]; rfl) | (rw [hs_c7, hb_c7]; exact decide_eq_true rfl)
 refine l_val (v := Value.int .i64 ((lookR g).2)) (want_y rfl rfl rfl (decide_eq_true q72_c7)) (e_move rfl) ?_
 refine l_val (v := Value.bool (decide (((lookR g).2) = 1))) (want_y rfl rfl rfl (decide_eq_true q72_c7)) (e_eql (m := (lookR g).2) (n := 1) rfl rfl) ?_
 refine l_val (v := Value.bool (decide (((lookR g).2) = 1))) rfl (e_pick_t rfl (decide_eq_true q72_c7) rfl) ?_
 refine l_val (v := Value.bool (decide (((lookR g).2) = 1))) rfl (e_move rfl) ?_
 have q76_c7 : ((lookR g).2) = 1 := by first | rfl | exact decide_eq_true rfl | exact hl_c7 | exact hb_c7 | exact out_c1 hm_c7 (by assumption) | exact out_c2 hm_c7 (by assumption) | (rw [out_c3 hm_c7 (by omega)]; done) | (rw [out_c3 hm_c7 (by omega)]; rfl) | (rw [out_c4 hm_c7 (by omega) (by omega)]; exact decide_eq_true rfl) | (rw [hd_c7]; done) | (rw [ho_c7]; done) | (rw [hl_c7]; done) | (rw [hs_c7]; done) | (rw [hb_c7]; done) | (rw [hd_c7]; exact decide_eq_true rfl) | (rw [ho_c7]; exact decide_eq_true rfl) | (rw [hl_c7]; exact decide_eq_true rfl) | (rw [hs_c7]; exact decide_eq_true rfl) | (rw [hb_c7]; exact decide_eq_true rfl) | (rw [ho_c7, hd_c7, hb_c7]; rfl) | (rw [hs_c7, hb_c7]; exact decide_eq_true rfl)
 refine l_val (v := Value.int .i64 ((splitR g e).2)) (want_y rfl rfl rfl (decide_eq_true q76_c7)) (e_move rfl) ?_
 refine l_val (v := Value.bool (decide (((splitR g e).2) = 1))) (want_y rfl rfl rfl (decide_eq_true q76_c7)) (e_eql (m := (splitR g e).2) (n := 1) rfl rfl) ?_
 refine l_val (v := Value.bool (decide (((splitR g e).2) = 1))) rfl (e_pick_t rfl (decide_eq_true q76_c7) rfl) ?_
 refine l_val (v := Value.bool (decide (((splitR g e).2) = 1))) rfl (e_move rfl) ?_
 have q80_c7 : ((splitR g e).2) = 1 := by first | rfl | exact decide_eq_true rfl | exact hl_c7 | exact hb_c7 | exact out_c1 hm_c7 (by assumption) | exact out_c2 hm_c7 (by assumption) | (rw [out_c3 hm_c7 (by omega)]; done) | (rw [out_c3 hm_c7 (by omega)]; rfl) | (rw [out_c4 hm_c7 (by omega) (by omega)]; exact decide_eq_true rfl) | (rw [hd_c7]; done) | (rw [ho_c7]; done) | (rw [hl_c7]; done) | (rw [hs_c7]; done) | (rw [hb_c7]; done) | (rw [hd_c7]; exact decide_eq_true rfl) | (rw [ho_c7]; exact decide_eq_true rfl) | (rw [hl_c7]; exact decide_eq_true rfl) | (rw [hs_c7]; exact decide_eq_true rfl) | (rw [hb_c7]; exact decide_eq_true rfl) | (rw [ho_c7, hd_c7, hb_c7]; rfl) | (rw [hs_c7, hb_c7]; exact decide_eq_true rfl)
 refine l_val (v := Value.int .i64 ((bareR g).2.2)) (want_y rfl rfl rfl (decide_eq_true q80_c7)) (e_move rfl) ?_
 refine l_val (v := Value.bool (decide (((bareR g).2.2) = 1))) (want_y rfl rfl rfl (decide_eq_true q80_c7)) (e_eql (m := (bareR g).2.2) (n := 1) rfl rfl) ?_
 refine l_val (v := Value.bool (decide (((bareR g).2.2) = 1))) rfl (e_pick_t rfl (decide_eq_true q80_c7) rfl) ?_
 refine l_val (v := Value.bool (decide (((bareR g).2.2) = 1))) rfl (e_move rfl) ?_
 have q84_c7 : ((bareR g).2.2) = 1 := by first | rfl | exact decide_eq_true rfl | exact hl_c7 | exact hb_c7 | exact out_c1 hm_c7 (by assumption) | exact out_c2 hm_c7 (by assumption) | (rw [out_c3 hm_c7 (by omega)]; done) | (rw [out_c3 hm_c7 (by omega)]; rfl) | (rw [out_c4 hm_c7 (by omega) (by omega)]; exact decide_eq_true rfl) | (rw [hd_c7]; done) | (rw [ho_c7]; done) | (rw [hl_c7]; done) | (rw [hs_c7]; done) | (rw [hb_c7]; done) | (rw [hd_c7]; exact decide_eq_true rfl) | (rw [ho_c7]; exact decide_eq_true rfl) | (rw [hl_c7]; exact decide_eq_true rfl) | (rw [hs_c7]; exact decide_eq_true rfl) | (rw [hb_c7]; exact decide_eq_true rfl) | (rw [ho_c7, hd_c7, hb_c7]; rfl) | (rw [hs_c7, hb_c7]; exact decide_eq_true rfl)
 refine l_val (v := v64) (want_y rfl rfl rfl (decide_eq_true q84_c7)) (e_move rfl) ?_
 have len412 := (o65).small
 refine l_val (v := Value.int .i64 (List.length ((outR g v).1) : Int)) (want_y rfl rfl rfl (decide_eq_true q84_c7)) (e_len Try.underlying35 rfl o65) ?_
 refine l_val (v := v71) (want_y rfl rfl rfl (decide_eq_true q84_c7)) (e_move rfl) ?_
 have len413 := (o72).small
 refine l_val (v := Value.int .i64 (List.length ((degR g).1) : Int)) (want_y rfl rfl rfl (decide_eq_true q84_c7)) (e_len Try.underlying35 rfl o72) ?_
 refine l_val (v := Value.int .i64 ((List.length ((outR g v).1) : Int) + (List.length ((degR g).1) : Int))) (want_y rfl rfl rfl (decide_eq_true q84_c7)) (e_add (m := (List.length ((outR g v).1) : Int)) (n := (List.length ((degR g).1) : Int)) rfl rfl (by omega)) ?_
 refine l_val (v := v107) (want_y rfl rfl rfl (decide_eq_true q84_c7)) (e_move rfl) ?_
 have len414 := (o108).small
 refine l_val (v := Value.int .i64 (List.length ((bareR g).2.1) : Int)) (want_y rfl rfl rfl (decide_eq_true q84_c7)) (e_len Try.underlying35 rfl o108) ?_
 refine l_val (v := Value.int .i64 (((List.length ((outR g v).1) : Int) + (List.length ((degR g).1) : Int)) + (List.length ((bareR g).2.1) : Int))) (want_y rfl rfl rfl (decide_eq_true q84_c7)) (e_add (m := (List.length ((outR g v).1) : Int) + (List.length ((degR g).1) : Int)) (n := (List.length ((bareR g).2.1) : Int)) rfl rfl (by omega)) ?_
 refine l_val (v := Value.bool (decide ((((List.length ((outR g v).1) : Int) + (List.length ((degR g).1) : Int)) + (List.length ((bareR g).2.1) : Int)) = 0))) (want_y rfl rfl rfl (decide_eq_true q84_c7)) (e_eql (m := ((List.length ((outR g v).1) : Int) + (List.length ((degR g).1) : Int)) + (List.length ((bareR g).2.1) : Int)) (n := 0) rfl rfl) ?_
 refine l_val (v := Value.bool (decide ((((List.length ((outR g v).1) : Int) + (List.length ((degR g).1) : Int)) + (List.length ((bareR g).2.1) : Int)) = 0))) rfl (e_pick_t rfl (decide_eq_true q84_c7) rfl) ?_
 refine l_val (v := Value.bool (decide ((((List.length ((outR g v).1) : Int) + (List.length ((degR g).1) : Int)) + (List.length ((bareR g).2.1) : Int)) = 0))) rfl (e_move rfl) ?_
 have q95_c7 : (((List.length ((outR g v).1) : Int) + (List.length ((degR g).1) : Int)) + (List.length ((bareR g).2.1) : Int)) = 0 := by first | rfl | exact decide_eq_true rfl | exact hl_c7 | exact hb_c7 | exact out_c1 hm_c7 (by assumption) | exact out_c2 hm_c7 (by assumption) | (rw [out_c3 hm_c7 (by omega)]; done) | (rw [out_c3 hm_c7 (by omega)]; rfl) | (rw [out_c4 hm_c7 (by omega) (by omega)]; exact decide_eq_true rfl) | (rw [hd_c7]; done) | (rw [ho_c7]; done) | (rw [hl_c7]; done) | (rw [hs_c7]; done) | (rw [hb_c7]; done) | (rw [hd_c7]; exact decide_eq_true rfl) | (rw [ho_c7]; exact decide_eq_true rfl) | (rw [hl_c7]; exact decide_eq_true rfl) | (rw [hs_c7]; exact decide_eq_true rfl) | (rw [hb_c7]; exact decide_eq_true rfl) | (rw [ho_c7, hd_c7, hb_c7]; rfl) | (rw [hs_c7, hb_c7]; exact decide_eq_true rfl)
 refine l_val (v := Value.agg (List.toArray [Value.int .i64 (((lookR g).1).1), Value.int .i64 ((((lookR g).1).2).1), Value.int .i64 (((((lookR g).1).2).2).1), Value.int .i64 ((((((lookR g).1).2).2).2).1), Value.bool ((((((lookR g).1).2).2).2).2)])) (want_y rfl rfl rfl (decide_eq_true q95_c7)) (e_load_bxN (ds := [Value.int .i64 (((lookR g).1).1), Value.int .i64 ((((lookR g).1).2).1), Value.int .i64 (((((lookR g).1).2).2).1), Value.int .i64 ((((((lookR g).1).2).2).2).1), Value.bool ((((((lookR g).1).2).2).2).2)]) tp78_wa rfl bx84 rfl rfl) ?_
 refine l_val (v := Value.agg (List.toArray [Value.int .i64 0, Value.int .i64 0, Value.int .i64 0, Value.int .i64 0, Value.bool false])) (want_y rfl rfl rfl (decide_eq_true q95_c7)) (e_build (vs := []) rfl (by kernel_rfl)) ?_
 refine l_val (v := Value.bool (decide ((((lookR g).1).1, (((lookR g).1).2).1, ((((lookR g).1).2).2).1, (((((lookR g).1).2).2).2).1, ((((((lookR g).1).2).2).2).2)) = (0, 0, 0, 0, false)))) (want_y rfl rfl rfl (decide_eq_true q95_c7)) (e_eql_struct (bs := [decide ((((lookR g).1).1) = 0), decide (((((lookR g).1).2).1) = 0), decide ((((((lookR g).1).2).2).1) = 0), decide (((((((lookR g).1).2).2).2).1) = 0), decide (((((((lookR g).1).2).2).2).2) = false)]) Try.underlying78 (by kernel_rfl) (by kernel_rfl) rfl rfl (.cons (by decide +kernel) tp3_wa rfl rfl (.int Try.underlying3) (.cons (by decide +kernel) tp3_wa rfl rfl (.int Try.underlying3) (.cons (by decide +kernel) tp3_wa rfl rfl (.int Try.underlying3) (.cons (by decide +kernel) tp3_wa rfl rfl (.int Try.underlying3) (.cons (by decide +kernel) tp4_wa rfl rfl (.bool Try.underlying4) .nil))))) (by simp [Prod.ext_iff, Bool.decide_and, Bool.and_assoc])) ?_
 refine l_val (v := Value.bool (decide ((((lookR g).1).1, (((lookR g).1).2).1, ((((lookR g).1).2).2).1, (((((lookR g).1).2).2).2).1, ((((((lookR g).1).2).2).2).2)) = (0, 0, 0, 0, false)))) rfl (e_pick_t rfl (decide_eq_true q95_c7) rfl) ?_
 refine l_val (v := Value.bool (decide ((((lookR g).1).1, (((lookR g).1).2).1, ((((lookR g).1).2).2).1, (((((lookR g).1).2).2).2).1, ((((((lookR g).1).2).2).2).2)) = (0, 0, 0, 0, false)))) rfl (e_move rfl) ?_
 have q100_c7 : (((lookR g).1).1, (((lookR g).1).2).1, ((((lookR g).1).2).2).1, (((((lookR g).1).2).2).2).1, ((((((lookR g).1).2).2).2).2)) = (0, 0, 0, 0, false) := by first | rfl | exact decide_eq_true rfl | exact hl_c7 | exact hb_c7 | exact out_c1 hm_c7 (by assumption) | exact out_c2 hm_c7 (by assumption) | (rw [out_c3 hm_c7 (by omega)]; done) | (rw [out_c3 hm_c7 (by omega)]; rfl) | (rw [out_c4 hm_c7 (by omega) (by omega)]; exact decide_eq_true rfl) | (rw [hd_c7]; done) | (rw [ho_c7]; done) | (rw [hl_c7]; done) | (rw [hs_c7]; done) | (rw [hb_c7]; done) | (rw [hd_c7]; exact decide_eq_true rfl) | (rw [ho_c7]; exact decide_eq_true rfl) | (rw [hl_c7]; exact decide_eq_true rfl) | (rw [hs_c7]; exact decide_eq_true rfl) | (rw [hb_c7]; exact decide_eq_true rfl) | (rw [ho_c7, hd_c7, hb_c7]; rfl) | (rw [hs_c7, hb_c7]; exact decide_eq_true rfl)
 refine l_val (v := Value.agg (List.toArray [Value.int .i64 (((splitR g e).1).1), v89])) (want_y rfl rfl rfl (decide_eq_true q100_c7)) (e_load_bxN (ds := [Value.int .i64 (((splitR g e).1).1), v89]) tp24_wa rfl bx100 rfl rfl) ?_
 refine l_val (v := Value.agg (List.toArray [Value.int .i64 (((bareR g).1).1), v105])) (want_y rfl rfl rfl (decide_eq_true q100_c7)) (e_load_bxN (ds := [Value.int .i64 (((bareR g).1).1), v105]) tp24_wa rfl bx118 rfl rfl) ?_
 refine l_op (want_y rfl rfl rfl (decide_eq_true q100_c7)) ?_
 refine o_call (v := Value.bool (decide (((splitR g e).1) = ((bareR g).1)))) (e_call (vals := [Value.agg (List.toArray [Value.int .i64 (((splitR g e).1).1), v89]), Value.agg (List.toArray [Value.int .i64 (((bareR g).1).1), v105])]) Try.func37 bd37_wa nm37_wa rfl) (rSame_ok w258 ((splitR g e).1) v89 (o90.flat).ro ((bareR g).1) v105 (o106.flat).ro) ?_
 intro w415 hb416
 replace hb416 := chg_below hb416 g259
 refine l_val (v := Value.bool (decide (((splitR g e).1) = ((bareR g).1)))) rfl (e_pick_t rfl (decide_eq_true q100_c7) rfl) ?_
 refine l_val (v := Value.bool (decide (((splitR g e).1) = ((bareR g).1)))) rfl (e_move rfl) ?_
 have q105_c7 : (decide (((splitR g e).1) = ((bareR g).1))) = true := by first | rfl | exact decide_eq_true rfl | exact hl_c7 | exact hb_c7 | exact out_c1 hm_c7 (by assumption) | exact out_c2 hm_c7 (by assumption) | (rw [out_c3 hm_c7 (by omega)]; done) | (rw [out_c3 hm_c7 (by omega)]; rfl) | (rw [out_c4 hm_c7 (by omega) (by omega)]; exact decide_eq_true rfl) | (rw [hd_c7]; done) | (rw [ho_c7]; done) | (rw [hl_c7]; done) | (rw [hs_c7]; done) | (rw [hb_c7]; done) | (rw [hd_c7]; exact decide_eq_true rfl) | (rw [ho_c7]; exact decide_eq_true rfl) | (rw [hl_c7]; exact decide_eq_true rfl) | (rw [hs_c7]; exact decide_eq_true rfl) | (rw [hb_c7]; exact decide_eq_true rfl) | (rw [ho_c7, hd_c7, hb_c7]; rfl) | (rw [hs_c7, hb_c7]; exact decide_eq_true rfl)
 refine l_val (v := Value.pointer (some ⟨b95, 0, none⟩)) (want_y rfl rfl rfl q105_c7) (e_fieldAddr Try.underlying24 rfl rfl rfl rfl) ?_
 replace bx100 := bx100.chg hb416 (not_no _)
 refine l_val (v := Value.int .i64 (((splitR g e).1).1)) (want_y rfl rfl rfl q105_c7) (e_load_bx1 tp3_wa rfl bx100 rfl) ?_
 refine l_val (v := Value.bool (decide ((((splitR g e).1).1) = 0))) (want_y rfl rfl rfl q105_c7) (e_eql (m := ((splitR g e).1).1) (n := 0) rfl rfl) ?_
 refine l_val (v := Value.bool (decide ((((splitR g e).1).1) = 0))) rfl (e_pick_t rfl q105_c7 rfl) ?_
 refine l_val (v := Value.bool (decide ((((splitR g e).1).1) = 0))) rfl (e_assign rfl) ?_
 refine l_nil ?_
 refine run_ret (vs := [Value.bool (decide ((((splitR g e).1).1) = 0))]) Try.func26 (.tmp rfl .nil) ?_
 replace hbase := hbase.chg hb416 (not_no _)
 replace r_g_v := r_g_v.chg hb416 (not_no _)
 replace r_keep_v := r_keep_v.chg hb416 (not_no _)
 replace r_nodes_v := r_nodes_v.chg hb416 (not_no _)
 replace bx5 := bx5.chg hb416 (not_no _)
 replace o21 := o21.chg hb416 (not_no _) (not_no _)
 replace r24 := r24.chg hb416 (not_no _)
 replace bx32 := bx32.chg hb416 (not_no _)
 replace bx42 := bx42.chg hb416 (not_no _)
 replace o_b_0_c8 := o_b_0_c8.chg hb416 (not_no _)
 have rt417 : decide ((((splitR g e).1).1) = 0) = true := by
   first | rfl | exact decide_eq_true rfl | exact hl_c7 | exact hb_c7 | exact out_c1 hm_c7 (by assumption) | exact out_c2 hm_c7 (by assumption) | (rw [out_c3 hm_c7 (by omega)]; done) | (rw [out_c3 hm_c7 (by omega)]; rfl) | (rw [out_c4 hm_c7 (by omega) (by omega)]; exact decide_eq_true rfl) | (rw [hd_c7]; done) | (rw [ho_c7]; done) | (rw [hl_c7]; done) | (rw [hs_c7]; done) | (rw [hb_c7]; done) | (rw [hd_c7]; exact decide_eq_true rfl) | (rw [ho_c7]; exact decide_eq_true rfl) | (rw [hl_c7]; exact decide_eq_true rfl) | (rw [hs_c7]; exact decide_eq_true rfl) | (rw [hb_c7]; exact decide_eq_true rfl) | (rw [ho_c7, hd_c7, hb_c7]; rfl) | (rw [hs_c7, hb_c7]; exact decide_eq_true rfl)
 refine ⟨(b_0_c8_v, b_0_c8, b_1_c8, g259), (congrArg (fun b => Ending.returned (Value.bool b)) rt417), hbase, r_g_v, r_keep_v, r_nodes_v, bx5, o21, r24, bx32, bx42, o_b_0_c8, ?_⟩
 show KInv b_0_c8 b_1_c8
 first | assumption | exact KInv.nil | exact (KInv.add (by first | assumption | exact KInv.nil) (by omega) (by omega) (by omega))
end TL
