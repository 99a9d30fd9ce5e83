import Derived.Test.YtilohhkbelkmdaaTlGenA
import Derived.Test.YtilohhkbelkmdaaTlGenC
import Derived.Test.YtilohhkbelkmdaaTlGenD
import Derived.Test.YtilohhkbelkmdaaTlGenX
import Derived.Test.YtilohhkbelkmdaaTlGenY
import Derived.Test.YtilohhkbelkmdaaTlGenZ
import Derived.Test.YtilohhkbelkmdaaTlGenV
import Derived.Test.YtilohhkbelkmdaaTlGenI
import Derived.Test.YtilohhkbelkmdaaTlGenJ
import Derived.Test.YtilohhkbelkmdaaTlGenO
import Derived.Test.YtilohhkbelkmdaaTlGenK
import Derived.Test.YtilohhkbelkmdaaTlKeepA
import Derived.Test.YtilohhkbelkmdaaTlTwinA
import Derived.Test.YtilohhkbelkmdaaTlP2
import Derived.Test.YtilohhkbelkmdaaProg
set_option linter.all false
set_option maxRecDepth 20000
namespace TL
open Go Go.Proofs
theorem mixed_wa : Try.prog.follows .mixedOrders = true := by kernel_rfl
theorem tp3_wa : Tp Try.prog 3 false 1 8 (.int .i64 0) := Tp.of (by kernel_rfl)
theorem tp24_wa : Tp Try.prog 24 true 2 32 (.agg #[.int .i64 0, .slice none 0 0]) := Tp.of (by kernel_rfl)
theorem tp25_wa : Tp Try.prog 25 false 1 24 (.slice none 0 0) := Tp.of (by kernel_rfl)
theorem tp27_wa : Tp Try.prog 27 false 1 24 (.slice none 0 0) := Tp.of (by kernel_rfl)
theorem bd23_wa : Try.f23.body.isNone = false := rfl
theorem nm23_wa : (Try.f23.name == "runtime.NumGoroutine") = false := by decide +kernel
theorem bd26_wa : Try.f26.body.isNone = false := rfl
theorem nm26_wa : (Try.f26.name == "runtime.NumGoroutine") = false := by decide +kernel
theorem bd29_wa : Try.f29.body.isNone = false := rfl
theorem nm29_wa : (Try.f29.name == "runtime.NumGoroutine") = false := by decide +kernel
theorem bd35_wa : Try.f35.body.isNone = false := rfl
theorem nm35_wa : (Try.f35.name == "runtime.NumGoroutine") = false := by decide +kernel
theorem bd37_wa : Try.f37.body.isNone = false := rfl
theorem nm37_wa : (Try.f37.name == "runtime.NumGoroutine") = false := by decide +kernel
theorem bd38_wa : Try.f38.body.isNone = false := rfl
theorem nm38_wa : (Try.f38.name == "runtime.NumGoroutine") = false := by decide +kernel
theorem bd46_wa : Try.f46.body.isNone = false := rfl
theorem nm46_wa : (Try.f46.name == "runtime.NumGoroutine") = false := by decide +kernel
theorem bd47_wa : Try.f47.body.isNone = false := rfl
theorem nm47_wa : (Try.f47.name == "runtime.NumGoroutine") = false := by decide +kernel
theorem bd49_wa : Try.f49.body.isNone = false := rfl
theorem nm49_wa : (Try.f49.name == "runtime.NumGoroutine") = false := by decide +kernel
theorem bd50_wa : Try.f50.body.isNone = false := rfl
theorem nm50_wa : (Try.f50.name == "runtime.NumGoroutine") = false := by decide +kernel
theorem bd54_wa : Try.f54.body.isNone = false := rfl
theorem nm54_wa : (Try.f54.name == "runtime.NumGoroutine") = false := by decide +kernel
theorem bd55_wa : Try.f55.body.isNone = false := rfl
theorem nm55_wa : (Try.f55.name == "runtime.NumGoroutine") = false := by decide +kernel
theorem bd56_wa : Try.f56.body.isNone = false := rfl
theorem nm56_wa : (Try.f56.name == "runtime.NumGoroutine") = false := by decide +kernel
theorem bd57_wa : Try.f57.body.isNone = false := rfl
theorem nm57_wa : (Try.f57.name == "runtime.NumGoroutine") = false := by decide +kernel
theorem bd58_wa : Try.f58.body.isNone = false := rfl
theorem nm58_wa : (Try.f58.name == "runtime.NumGoroutine") = false := by decide +kernel
theorem bd59_wa : Try.f59.body.isNone = false := rfl
theorem nm59_wa : (Try.f59.name == "runtime.NumGoroutine") = false := by decide +kernel
theorem bd60_wa : Try.f60.body.isNone = false := rfl
theorem nm60_wa : (Try.f60.name == "runtime.NumGoroutine") = false := by decide +kernel
theorem bd65_wa : Try.f65.body.isNone = false := rfl
theorem nm65_wa : (Try.f65.name == "runtime.NumGoroutine") = false := by decide +kernel
set_option maxHeartbeats 16000000 in
theorem RotAll_ok_told {g : (Int) × (List ((Int) × (Int)))} {v18 : Value} {v26 : Value} {g_v : Value} {r_v : Value} {r : List (List Int)} {b41 : Nat} {w0 : World} {keep_v : Value} {keep : List Int} {to_v : Value} {to : List Int} {b3 : Nat} {b33 : Nat} {g51 : Cmap} {w52 : World} {b_0_v : Value} {b_1 : Int} {b_0 : List (List Int)} (hbase : Base w0 g51 w52) (r_g_v : Sl g51 (is 0) w52 g_v g.2) (r_r_v : Sl g51 (is 0) w52 r_v r) (r_keep_v : Sl g51 (is 0) w52 keep_v keep) (r_to_v : Sl g51 (is 0) w52 to_v to) (bx5 : Bx g51 (is 1) w52 b3 [Value.int .i64 g.1, g_v]) (o19 : Ow g51 (is 2) (is 2) w52 (upV v18) (g.2 ++ [((-7 : Int), (7 : Int))])) (r22 : Sl g51 (is 2) w52 v18 g.2) (o27 : Ow g51 (is 3) (is 3) w52 (upV v26) (TWL r)) (r30 : Sl g51 (is 3) w52 v26 r) (bx38 : Bx g51 (is 4) w52 b33 [Value.int .i64 g.1, v18]) (bx43 : Bx g51 (is 5) w52 b41 [b_0_v, Value.int .i64 b_1]) (o_b_0 : Nst g51 14 w52 b_0_v b_0) (hr1000 : r.length ≤ 1000) (hbig : (r.length : Int) ≤ 1048576 ∧ ∀ l_ ∈ r, l_.length ≤ 1048576) (hk : KInv b_0 b_1) :
    Calls Try.prog 16 (List.toArray [Value.agg (List.toArray [Value.int .i64 g.1, v18]), v26, Value.agg (List.toArray [Value.int .i64 g.1, g_v]), r_v, Value.int .i64 (rmayR g r), Value.pointer (some ⟨b41, 0, none⟩)]) w52 (fun ee w => ∃ xx : Value × (List (List Int)) × Int × Cmap, ee = .returned ((fun ⟨b_0_c1_v, b_0_c1, b_1_c1, gq⟩ => Value.bool true) xx) ∧ (fun (⟨b_0_c1_v, b_0_c1, b_1_c1, gq⟩ : Value × (List (List Int)) × Int × Cmap) (w : World) => Base w0 gq w ∧ Sl gq (is 0) w g_v g.2 ∧ Sl gq (is 0) w r_v r ∧ Sl gq (is 0) w keep_v keep ∧ Sl gq (is 0) w to_v to ∧ Bx gq (is 1) w b3 [Value.int .i64 g.1, g_v] ∧ Ow gq (is 2) (is 2) w (upV v18) (g.2 ++ [((-7 : Int), (7 : Int))]) ∧ Sl gq (is 2) w v18 g.2 ∧ Ow gq (is 3) (is 3) w (upV v26) (TWL r) ∧ Sl gq (is 3) w v26 r ∧ Bx gq (is 4) w b33 [Value.int .i64 g.1, v18] ∧ Bx gq (is 5) w b41 [b_0_c1_v, Value.int .i64 b_1_c1] ∧ Nst gq 14 w b_0_c1_v b_0_c1 ∧ (KInv b_0_c1 b_1_c1)) xx w) := by
 refine calls_of_run Try.func16 rfl (Nat.le_of_ble_eq_true rfl) ?_
 obtain ⟨hka, hkb, hkc⟩ := hk.len
 obtain ⟨hlf, hlo, hlm, hlc, hlx⟩ := L9.mk' (g := g) hr1000
 refine run_seq ?_
 refine run_region rfl ?_
 refine l_op rfl ?_
 refine o_box g51 (is 6) (6, 0) rfl rfl ?_
 intro g57 w54 b56 ch55 bx58
 replace bx58 : Bx g57 (is 6) w54 b56 [Value.int .i64 g.1, v18] := bx58
 refine l_op rfl ?_
 refine o_box g57 (is 7) (7, 0) rfl rfl ?_
 intro g62 w59 b61 ch60 bx63
 replace bx63 : Bx g62 (is 7) w59 b61 [Value.int .i64 g.1, g_v] := bx63
 refine lv (Value.bool false) rfl (e_assign rfl) ?_
 refine l_nil ?_
 refine run_seq ?_
 refine run_region rfl ?_
 replace bx58 := bx58.chg ch60 (not_no _)
 refine lv (Value.agg (List.toArray [Value.int .i64 g.1, v18])) rfl (e_load_bxN (ds := [Value.int .i64 g.1, v18]) tp24_wa rfl bx58 rfl rfl) ?_
 refine lv (v26) rfl (e_move rfl) ?_
 replace r22 := (r22.chg ch55 (not_no _)).chg ch60 (not_no _)
 replace r30 := (r30.chg ch55 (not_no _)).chg ch60 (not_no _)
 refine l_op rfl ?_
 refine o_callx (e_call (vals := [Value.agg (List.toArray [Value.int .i64 g.1, v18]), v26]) Try.func47 bd47_wa nm47_wa rfl) (Faces_ok w59 g v18 (r22).ro r v26 (r30).ro) ?_
 rintro ⟨d65, v67⟩ w64 ⟨fr66, o68⟩
 obtain ⟨g69, hg69⟩ : ∃ q, q = glue w59.heap.size g62 d65 (fun n => if n = 1 then 8 else 0) := ⟨_, rfl⟩
 have ch70 := chg_glue fr66.below g62 d65 (fun n => if n = 1 then 8 else 0)
 rw [← hg69] at ch70
 replace o68 := o68.glue (γ := g62) (ren := (fun n => if n = 1 then 8 else 0)) (k := 8) fr66.col rfl rfl
 rw [← hg69] at o68
 clear hg69
 refine lv (Value.tuple (List.toArray [v67, Value.int .i64 ((facesR g r).2)])) rfl (e_move rfl) ?_
 refine lv (v67) rfl (e_extract rfl rfl) ?_
 refine lv (Value.int .i64 ((facesR g r).2)) rfl (e_extract rfl rfl) ?_
 refine lv (v67) rfl (e_assign rfl) ?_
 refine lv (Value.int .i64 ((facesR g r).2)) rfl (e_assign rfl) ?_
 refine l_nil ?_
 refine run_seq ?_
 refine run_region rfl ?_
 replace bx58 := bx58.chg ch70 (not_no _)
 refine lv (Value.agg (List.toArray [Value.int .i64 g.1, v18])) rfl (e_load_bxN (ds := [Value.int .i64 g.1, v18]) tp24_wa rfl bx58 rfl rfl) ?_
 refine lv (v26) rfl (e_move rfl) ?_
 replace r22 := r22.chg ch70 (not_no _)
 replace r30 := r30.chg ch70 (not_no _)
 refine l_op rfl ?_
 refine o_callx (e_call (vals := [Value.agg (List.toArray [Value.int .i64 g.1, v18]), v26]) Try.func54 bd54_wa nm54_wa rfl) (ROf_ok w64 g v18 (r22).ro r v26 (r30).ro) ?_
 rintro ⟨d72, v74⟩ w71 ⟨fr73, o75⟩
 obtain ⟨g76, hg76⟩ : ∃ q, q = glue w64.heap.size g69 d72 (fun n => if n = 1 then 9 else 0) := ⟨_, rfl⟩
 have ch77 := chg_glue fr73.below g69 d72 (fun n => if n = 1 then 9 else 0)
 rw [← hg76] at ch77
 replace o75 := o75.glue (γ := g69) (ren := (fun n => if n = 1 then 9 else 0)) (k := 9) fr73.col rfl rfl
 rw [← hg76] at o75
 clear hg76
 refine lv (Value.tuple (List.toArray [v74, Value.int .i64 ((ofR g r).2)])) rfl (e_move rfl) ?_
 refine lv (v74) rfl (e_extract rfl rfl) ?_
 refine lv (Value.int .i64 ((ofR g r).2)) rfl (e_extract rfl rfl) ?_
 refine lv (v74) rfl (e_assign rfl) ?_
 refine lv (Value.int .i64 ((ofR g r).2)) rfl (e_assign rfl) ?_
 refine l_nil ?_
 refine run_seq ?_
 refine run_region rfl ?_
 replace bx58 := bx58.chg ch77 (not_no _)
 refine lv (Value.agg (List.toArray [Value.int .i64 g.1, v18])) rfl (e_load_bxN (ds := [Value.int .i64 g.1, v18]) tp24_wa rfl bx58 rfl rfl) ?_
 refine lv (v26) rfl (e_move rfl) ?_
 replace r22 := r22.chg ch77 (not_no _)
 replace r30 := r30.chg ch77 (not_no _)
 refine l_op rfl ?_
 refine o_call (v := Value.tuple (List.toArray [Value.int .i64 ((genusR g r).1), Value.int .i64 ((genusR g r).2)])) (e_call (vals := [Value.agg (List.toArray [Value.int .i64 g.1, v18]), v26]) Try.func49 bd49_wa nm49_wa rfl) (Genus_ok w71 g v18 (r22).ro r v26 (r30).ro) ?_
 intro w78 hb79
 replace hb79 := chg_below hb79 g76
 refine lv (Value.tuple (List.toArray [Value.int .i64 ((genusR g r).1), Value.int .i64 ((genusR g r).2)])) rfl (e_move rfl) ?_
 refine lv (Value.int .i64 ((genusR g r).1)) rfl (e_extract rfl rfl) ?_
 refine lv (Value.int .i64 ((genusR g r).2)) rfl (e_extract rfl rfl) ?_
 refine lv (Value.int .i64 ((genusR g r).1)) rfl (e_assign rfl) ?_
 refine lv (Value.int .i64 ((genusR g r).2)) rfl (e_assign rfl) ?_
 refine l_nil ?_
 refine run_seq ?_
 refine run_region rfl ?_
 replace bx58 := bx58.chg hb79 (not_no _)
 refine lv (Value.agg (List.toArray [Value.int .i64 g.1, v18])) rfl (e_load_bxN (ds := [Value.int .i64 g.1, v18]) tp24_wa rfl bx58 rfl rfl) ?_
 refine lv (v26) rfl (e_move rfl) ?_
 replace r22 := r22.chg hb79 (not_no _)
 replace r30 := r30.chg hb79 (not_no _)
 refine l_op rfl ?_
 refine o_callx (e_call (vals := [Value.agg (List.toArray [Value.int .i64 g.1, v18]), v26]) Try.func50 bd50_wa nm50_wa rfl) (RMirror_ok w78 g v18 (r22).ro r v26 (r30).ro) ?_
 rintro ⟨d81, v83⟩ w80 ⟨fr82, o84⟩
 obtain ⟨g85, hg85⟩ : ∃ q, q = glue w78.heap.size g76 d81 (fun n => if n = 1 then 10 else 0) := ⟨_, rfl⟩
 have ch86 := chg_glue fr82.below g76 d81 (fun n => if n = 1 then 10 else 0)
 rw [← hg85] at ch86
 replace o84 := o84.glue (γ := g76) (ren := (fun n => if n = 1 then 10 else 0)) (k := 10) fr82.col rfl rfl
 rw [← hg85] at o84
 clear hg85
 refine lv (Value.tuple (List.toArray [v83, Value.int .i64 ((mirrorR g r).2)])) rfl (e_move rfl) ?_
 refine lv (v83) rfl (e_extract rfl rfl) ?_
 refine lv (Value.int .i64 ((mirrorR g r).2)) rfl (e_extract rfl rfl) ?_
 refine lv (v83) rfl (e_assign rfl) ?_
 refine lv (Value.int .i64 ((mirrorR g r).2)) rfl (e_assign rfl) ?_
 refine l_nil ?_
 refine run_seq ?_
 refine run_region rfl ?_
 replace bx58 := bx58.chg ch86 (not_no _)
 refine lv (Value.agg (List.toArray [Value.int .i64 g.1, v18])) rfl (e_load_bxN (ds := [Value.int .i64 g.1, v18]) tp24_wa rfl bx58 rfl rfl) ?_
 refine lv (v26) rfl (e_move rfl) ?_
 replace r22 := r22.chg ch86 (not_no _)
 replace r30 := r30.chg ch86 (not_no _)
 refine l_op rfl ?_
 refine o_callx (e_call (vals := [Value.agg (List.toArray [Value.int .i64 g.1, v18]), v26]) Try.func55 bd55_wa nm55_wa rfl) (RCanon_ok w80 g v18 (r22).ro r v26 (r30).ro) ?_
 rintro ⟨d88, v90⟩ w87 ⟨fr89, o91⟩
 obtain ⟨g92, hg92⟩ : ∃ q, q = glue w80.heap.size g85 d88 (fun n => if n = 1 then 11 else 0) := ⟨_, rfl⟩
 have ch93 := chg_glue fr89.below g85 d88 (fun n => if n = 1 then 11 else 0)
 rw [← hg92] at ch93
 replace o91 := o91.glue (γ := g85) (ren := (fun n => if n = 1 then 11 else 0)) (k := 11) fr89.col rfl rfl
 rw [← hg92] at o91
 clear hg92
 refine lv (Value.tuple (List.toArray [v90, Value.int .i64 ((canonR g r).2)])) rfl (e_move rfl) ?_
 refine lv (v90) rfl (e_extract rfl rfl) ?_
 refine lv (Value.int .i64 ((canonR g r).2)) rfl (e_extract rfl rfl) ?_
 refine lv (v90) rfl (e_assign rfl) ?_
 refine lv (Value.int .i64 ((canonR g r).2)) rfl (e_assign rfl) ?_
 refine l_nil ?_
 refine run_seq ?_
 refine run_region rfl ?_
 replace bx58 := bx58.chg ch93 (not_no _)
 refine lv (Value.agg (List.toArray [Value.int .i64 g.1, v18])) rfl (e_load_bxN (ds := [Value.int .i64 g.1, v18]) tp24_wa rfl bx58 rfl rfl) ?_
 replace r22 := r22.chg ch93 (not_no _)
 refine l_op rfl ?_
 refine o_callx (e_call (vals := [Value.agg (List.toArray [Value.int .i64 g.1, v18])]) Try.func56 bd56_wa nm56_wa rfl) (RFirst_ok w87 g v18 (r22).ro) ?_
 rintro ⟨d95, v97⟩ w94 ⟨fr96, o98⟩
 obtain ⟨g99, hg99⟩ : ∃ q, q = glue w87.heap.size g92 d95 (fun n => if n = 1 then 12 else 0) := ⟨_, rfl⟩
 have ch100 := chg_glue fr96.below g92 d95 (fun n => if n = 1 then 12 else 0)
 rw [← hg99] at ch100
 replace o98 := o98.glue (γ := g92) (ren := (fun n => if n = 1 then 12 else 0)) (k := 12) fr96.col rfl rfl
 rw [← hg99] at o98
 clear hg99
 refine lv (Value.tuple (List.toArray [v97, Value.int .i64 ((firstR g).2)])) rfl (e_move rfl) ?_
 refine lv (v97) rfl (e_extract rfl rfl) ?_
 refine lv (Value.int .i64 ((firstR g).2)) rfl (e_extract rfl rfl) ?_
 refine lv (v97) rfl (e_assign rfl) ?_
 refine lv (Value.int .i64 ((firstR g).2)) rfl (e_assign rfl) ?_
 refine l_nil ?_
 refine run_seq ?_
 refine run_seq ?_
 clear bx58
 refine run_region rfl ?_
 refine lv (Value.int .i64 ((facesR g r).2)) rfl (e_move rfl) ?_
 refine lv (Value.int .i64 (rmayR g r)) rfl (e_move rfl) ?_
 refine lv (Value.bool (!(decide (((facesR g r).2) = (rmayR g r))))) rfl (e_neq (m := (facesR g r).2) (n := rmayR g r) rfl rfl) ?_
 refine lv (Value.bool (!(decide (((facesR g r).2) = (rmayR g r))))) rfl (e_move rfl) ?_
 have q63_c1 : ((facesR g r).2) = (rmayR g r) := by first | rfl | exact decide_eq_true rfl | exact a9_fe | exact decide_eq_true a9_fe | exact a9_oe | exact decide_eq_true a9_oe | exact a9_ge | exact decide_eq_true a9_ge | exact a9_me | exact decide_eq_true a9_me | exact a9_ce | exact decide_eq_true a9_ce | exact a9_xe | exact decide_eq_true a9_xe | exact a9_x1 (by assumption) | exact decide_eq_true (a9_x1 (by assumption)) | exact a9_x (by assumption) | exact decide_eq_true (a9_x (by assumption)) | (rw [a9_x0 (by assumption)]; rfl) | exact hn_c1.sum | exact decide_eq_true hn_c1.sum | exact hy_c1.f | exact decide_eq_true hy_c1.f | exact hy_c1.o | exact decide_eq_true hy_c1.o | exact hy_c1.n | exact decide_eq_true hy_c1.n | exact hy_c1.m | exact decide_eq_true hy_c1.m | exact hy_c1.c | exact decide_eq_true hy_c1.c
 refine lv (Value.int .i64 ((ofR g r).2)) (want_y rfl rfl rfl (congrArg Bool.not (decide_eq_true q63_c1))) (e_move rfl) ?_
 refine lv (Value.int .i64 (rmayR g r)) (want_y rfl rfl rfl (congrArg Bool.not (decide_eq_true q63_c1))) (e_move rfl) ?_
 refine lv (Value.bool (!(decide (((ofR g r).2) = (rmayR g r))))) (want_y rfl rfl rfl (congrArg Bool.not (decide_eq_true q63_c1))) (e_neq (m := (ofR g r).2) (n := rmayR g r) rfl rfl) ?_
 refine lv (Value.bool (!(decide (((ofR g r).2) = (rmayR g r))))) rfl (e_pick_f rfl (congrArg Bool.not (decide_eq_true q63_c1)) rfl) ?_
 refine lv (Value.bool (!(decide (((ofR g r).2) = (rmayR g r))))) rfl (e_move rfl) ?_
 have q68_c1 : ((ofR g r).2) = (rmayR g r) := by first | rfl | exact decide_eq_true rfl | exact a9_fe | exact decide_eq_true a9_fe | exact a9_oe | exact decide_eq_true a9_oe | exact a9_ge | exact decide_eq_true a9_ge | exact a9_me | exact decide_eq_true a9_me | exact a9_ce | exact decide_eq_true a9_ce | exact a9_xe | exact decide_eq_true a9_xe | exact a9_x1 (by assumption) | exact decide_eq_true (a9_x1 (by assumption)) | exact a9_x (by assumption) | exact decide_eq_true (a9_x (by assumption)) | (rw [a9_x0 (by assumption)]; rfl) | exact hn_c1.sum | exact decide_eq_true hn_c1.sum | exact hy_c1.f | exact decide_eq_true hy_c1.f | exact hy_c1.o | exact decide_eq_true hy_c1.o | exact hy_c1.n | exact decide_eq_true hy_c1.n | exact hy_c1.m | exact decide_eq_true hy_c1.m | exact hy_c1.c | exact decide_eq_true hy_c1.c
 refine lv (Value.int .i64 ((genusR g r).2)) (want_y rfl rfl rfl (congrArg Bool.not (decide_eq_true q68_c1))) (e_move rfl) ?_
 refine lv (Value.int .i64 (rmayR g r)) (want_y rfl rfl rfl (congrArg Bool.not (decide_eq_true q68_c1))) (e_move rfl) ?_
 refine lv (Value.bool (!(decide (((genusR g r).2) = (rmayR g r))))) (want_y rfl rfl rfl (congrArg Bool.not (decide_eq_true q68_c1))) (e_neq (m := (genusR g r).2) (n := rmayR g r) rfl rfl) ?_
 refine lv (Value.bool (!(decide (((genusR g r).2) = (rmayR g r))))) rfl (e_pick_f rfl (congrArg Bool.not (decide_eq_true q68_c1)) rfl) ?_
 refine lv (Value.bool (!(decide (((genusR g r).2) = (rmayR g r))))) rfl (e_move rfl) ?_
 have q73_c1 : ((genusR g r).2) = (rmayR g r) := by first | rfl | exact decide_eq_true rfl | exact a9_fe | exact decide_eq_true a9_fe | exact a9_oe | exact decide_eq_true a9_oe | exact a9_ge | exact decide_eq_true a9_ge | exact a9_me | exact decide_eq_true a9_me | exact a9_ce | exact decide_eq_true a9_ce | exact a9_xe | exact decide_eq_true a9_xe | exact a9_x1 (by assumption) | exact decide_eq_true (a9_x1 (by assumption)) | exact a9_x (by assumption) | exact decide_eq_true (a9_x (by assumption)) | (rw [a9_x0 (by assumption)]; rfl) | exact hn_c1.sum | exact decide_eq_true hn_c1.sum | exact hy_c1.f | exact decide_eq_true hy_c1.f | exact hy_c1.o | exact decide_eq_true hy_c1.o | exact hy_c1.n | exact decide_eq_true hy_c1.n | exact hy_c1.m | exact decide_eq_true hy_c1.m | exact hy_c1.c | exact decide_eq_true hy_c1.c
 refine lv (Value.int .i64 ((mirrorR g r).2)) (want_y rfl rfl rfl (congrArg Bool.not (decide_eq_true q73_c1))) (e_move rfl) ?_
 refine lv (Value.int .i64 (rmayR g r)) (want_y rfl rfl rfl (congrArg Bool.not (decide_eq_true q73_c1))) (e_move rfl) ?_
 refine lv (Value.bool (!(decide (((mirrorR g r).2) = (rmayR g r))))) (want_y rfl rfl rfl (congrArg Bool.not (decide_eq_true q73_c1))) (e_neq (m := (mirrorR g r).2) (n := rmayR g r) rfl rfl) ?_
 refine lv (Value.bool (!(decide (((mirrorR g r).2) = (rmayR g r))))) rfl (e_pick_f rfl (congrArg Bool.not (decide_eq_true q73_c1)) rfl) ?_
 refine lv (Value.bool (!(decide (((mirrorR g r).2) = (rmayR g r))))) rfl (e_move rfl) ?_
 have q78_c1 : ((mirrorR g r).2) = (rmayR g r) := by first | rfl | exact decide_eq_true rfl | exact a9_fe | exact decide_eq_true a9_fe | exact a9_oe | exact decide_eq_true a9_oe | exact a9_ge | exact decide_eq_true a9_ge | exact a9_me | exact decide_eq_true a9_me | exact a9_ce | exact decide_eq_true a9_ce | exact a9_xe | exact decide_eq_true a9_xe | exact a9_x1 (by assumption) | exact decide_eq_true (a9_x1 (by assumption)) | exact a9_x (by assumption) | exact decide_eq_true (a9_x (by assumption)) | (rw [a9_x0 (by assumption)]; rfl) | exact hn_c1.sum | exact decide_eq_true hn_c1.sum | exact hy_c1.f | exact decide_eq_true hy_c1.f | exact hy_c1.o | exact decide_eq_true hy_c1.o | exact hy_c1.n | exact decide_eq_true hy_c1.n | exact hy_c1.m | exact decide_eq_true hy_c1.m | exact hy_c1.c | exact decide_eq_true hy_c1.c
 refine lv (Value.int .i64 ((canonR g r).2)) (want_y rfl rfl rfl (congrArg Bool.not (decide_eq_true q78_c1))) (e_move rfl) ?_
 refine lv (Value.int .i64 (rmayR g r)) (want_y rfl rfl rfl (congrArg Bool.not (decide_eq_true q78_c1))) (e_move rfl) ?_
 refine lv (Value.bool (!(decide (((canonR g r).2) = (rmayR g r))))) (want_y rfl rfl rfl (congrArg Bool.not (decide_eq_true q78_c1))) (e_neq (m := (canonR g r).2) (n := rmayR g r) rfl rfl) ?_
 refine lv (Value.bool (!(decide (((canonR g r).2) = (rmayR g r))))) rfl (e_pick_f rfl (congrArg Bool.not (decide_eq_true q78_c1)) rfl) ?_
 refine lv (Value.bool (!(decide (((canonR g r).2) = (rmayR g r))))) rfl (e_move rfl) ?_
 have q83_c1 : ((canonR g r).2) = (rmayR g r) := by first | rfl | exact decide_eq_true rfl | exact a9_fe | exact decide_eq_true a9_fe | exact a9_oe | exact decide_eq_true a9_oe | exact a9_ge | exact decide_eq_true a9_ge | exact a9_me | exact decide_eq_true a9_me | exact a9_ce | exact decide_eq_true a9_ce | exact a9_xe | exact decide_eq_true a9_xe | exact a9_x1 (by assumption) | exact decide_eq_true (a9_x1 (by assumption)) | exact a9_x (by assumption) | exact decide_eq_true (a9_x (by assumption)) | (rw [a9_x0 (by assumption)]; rfl) | exact hn_c1.sum | exact decide_eq_true hn_c1.sum | exact hy_c1.f | exact decide_eq_true hy_c1.f | exact hy_c1.o | exact decide_eq_true hy_c1.o | exact hy_c1.n | exact decide_eq_true hy_c1.n | exact hy_c1.m | exact decide_eq_true hy_c1.m | exact hy_c1.c | exact decide_eq_true hy_c1.c
 refine lv (Value.int .i64 ((firstR g).2)) (want_y rfl rfl rfl (congrArg Bool.not (decide_eq_true q83_c1))) (e_move rfl) ?_
 refine lv (Value.bool (decide (((firstR g).2) = 0))) (want_y rfl rfl rfl (congrArg Bool.not (decide_eq_true q83_c1))) (e_eql (m := (firstR g).2) (n := 0) rfl rfl) ?_
 have C101 : Chg (inl []) _ _ _ _ := (ch70.n).seq ((ch77.n).seq ((hb79.n).seq ((ch86.n).seq ((ch93.n).seq (ch100.n)))))
 replace bx63 := bx63.chg C101 (is_nl rfl)
 refine lv (Value.agg (List.toArray [Value.int .i64 g.1, g_v])) (want_y rfl rfl rfl (congrArg Bool.not (decide_eq_true q83_c1))) (e_load_bxN (ds := [Value.int .i64 g.1, g_v]) tp24_wa rfl bx63 rfl rfl) ?_
 have C102 : Chg (inl []) _ _ _ _ := (ch55.n).seq ((ch60.n).seq ((ch70.n).seq ((ch77.n).seq ((hb79.n).seq ((ch86.n).seq ((ch93.n).seq (ch100.n)))))))
 replace r_g_v := r_g_v.chg C102 (is_nl rfl)
 refine l_op (want_y rfl rfl rfl (congrArg Bool.not (decide_eq_true q83_c1))) ?_
 refine o_call (v := Value.bool (mayB g)) (e_call (vals := [Value.agg (List.toArray [Value.int .i64 g.1, g_v])]) Try.func35 bd35_wa nm35_wa rfl) (rMay_ok w94 g g_v (r_g_v).ro) ?_
 intro w103 hb104
 replace hb104 := chg_below hb104 g99
 refine lv (Value.bool (!(decide ((decide (((firstR g).2) = 0)) = (mayB g))))) (want_y rfl rfl rfl (congrArg Bool.not (decide_eq_true q83_c1))) (e_neq_bool Try.underlying4 rfl rfl) ?_
 refine lv (Value.bool (!(decide ((decide (((firstR g).2) = 0)) = (mayB g))))) rfl (e_pick_f rfl (congrArg Bool.not (decide_eq_true q83_c1)) rfl) ?_
 refine lv (Value.bool (!(decide ((decide (((firstR g).2) = 0)) = (mayB g))))) rfl (e_move rfl) ?_
 have q90_c1 : (decide (((firstR g).2) = 0)) = (mayB g) := by first | rfl | exact decide_eq_true rfl | exact a9_fe | exact decide_eq_true a9_fe | exact a9_oe | exact decide_eq_true a9_oe | exact a9_ge | exact decide_eq_true a9_ge | exact a9_me | exact decide_eq_true a9_me | exact a9_ce | exact decide_eq_true a9_ce | exact a9_xe | exact decide_eq_true a9_xe | exact a9_x1 (by assumption) | exact decide_eq_true (a9_x1 (by assumption)) | exact a9_x (by assumption) | exact decide_eq_true (a9_x (by assumption)) | (rw [a9_x0 (by assumption)]; rfl) | exact hn_c1.sum | exact decide_eq_true hn_c1.sum | exact hy_c1.f | exact decide_eq_true hy_c1.f | exact hy_c1.o | exact decide_eq_true hy_c1.o | exact hy_c1.n | exact decide_eq_true hy_c1.n | exact hy_c1.m | exact decide_eq_true hy_c1.m | exact hy_c1.c | exact decide_eq_true hy_c1.c
 refine lv (Value.int .i64 ((firstR g).2)) (want_y rfl rfl rfl (congrArg Bool.not (decide_eq_true q90_c1))) (e_move rfl) ?_
 refine lv (Value.bool (!(decide (((firstR g).2) = 0)))) (want_y rfl rfl rfl (congrArg Bool.not (decide_eq_true q90_c1))) (e_neq (m := (firstR g).2) (n := 0) rfl rfl) ?_
 refine lv (Value.bool (!(decide (((firstR g).2) = 0)))) (want_y rfl rfl rfl (congrArg Bool.not (decide_eq_true q90_c1))) (e_move rfl) ?_
 by_cases q93_c1 : ((firstR g).2) = 0
 ·
  refine l_skip (want_n rfl rfl rfl (congrArg Bool.not (decide_eq_true q93_c1))) ?_
  refine l_skip (want_n rfl rfl rfl (congrArg Bool.not (decide_eq_true q93_c1))) ?_
  refine lv (Value.bool false) (want_y rfl rfl rfl (congrArg Bool.not (decide_eq_true q90_c1))) (e_pick_f rfl (congrArg Bool.not (decide_eq_true q93_c1)) rfl) ?_
  refine lv (Value.bool false) rfl (e_pick_f rfl (congrArg Bool.not (decide_eq_true q90_c1)) rfl) ?_
  refine l_nil ?_
  refine run_cond_f rfl rfl ?_
  refine run_skip ?_
  refine run_seq ?_
  refine run_seq ?_
  refine run_region rfl ?_
  refine lv (Value.int .i64 ((firstR g).2)) rfl (e_move rfl) ?_
  refine lv (Value.bool (decide (((firstR g).2) = 0))) rfl (e_eql (m := (firstR g).2) (n := 0) rfl rfl) ?_
  refine lv (Value.bool (decide (((firstR g).2) = 0))) rfl (e_move rfl) ?_
  refine lv (v97) (want_y rfl rfl rfl (decide_eq_true q93_c1)) (e_move rfl) ?_
  replace bx63 := bx63.chg hb104 (not_no _)
  refine lv (Value.agg (List.toArray [Value.int .i64 g.1, g_v])) (want_y rfl rfl rfl (decide_eq_true q93_c1)) (e_load_bxN (ds := [Value.int .i64 g.1, g_v]) tp24_wa rfl bx63 rfl rfl) ?_
  replace r_g_v := r_g_v.chg hb104 (not_no _)
  refine l_op (want_y rfl rfl rfl (decide_eq_true q93_c1)) ?_
  refine o_callx (e_call (vals := [Value.agg (List.toArray [Value.int .i64 g.1, g_v])]) Try.func58 bd58_wa nm58_wa rfl) (rFirst_ok w103 g g_v (r_g_v).ro (by exact a9_xm (by assumption))) ?_
  rintro ⟨d106, v108⟩ w105 ⟨fr107, o109⟩
  obtain ⟨g110, hg110⟩ : ∃ q, q = glue w103.heap.size g99 d106 (fun n => if n = 1 then 13 else 0) := ⟨_, rfl⟩
  have ch111 := chg_glue fr107.below g99 d106 (fun n => if n = 1 then 13 else 0)
  rw [← hg110] at ch111
  replace o109 := o109.glue (γ := g99) (ren := (fun n => if n = 1 then 13 else 0)) (k := 13) fr107.col rfl rfl
  rw [← hg110] at o109
  clear hg110
  replace o98 := (o98.chg hb104 (not_no _)).chg ch111 (not_no _)
  refine l_op (want_y rfl rfl rfl (decide_eq_true q93_c1)) ?_
  refine o_call (v := Value.bool (decide (((firstR g).1) = (firstS g)))) (e_call (vals := [v97, v108]) Try.func57 bd57_wa nm57_wa rfl) (Lists_ok w105 ((firstR g).1) v97 (o98.sl).ro (firstS g) v108 (o109.sl).ro) ?_
  intro w112 hb113
  replace hb113 := chg_below hb113 g110
  refine lv (Value.bool (!(decide (((firstR g).1) = (firstS g))))) (want_y rfl rfl rfl (decide_eq_true q93_c1)) (e_not (b := (decide (((firstR g).1) = (firstS g)))) rfl) ?_
  refine lv (Value.bool (!(decide (((firstR g).1) = (firstS g))))) rfl (e_pick_t rfl (decide_eq_true q93_c1) rfl) ?_
  refine lv (Value.bool (!(decide (((firstR g).1) = (firstS g))))) rfl (e_move rfl) ?_
  have q107_c1 : (decide (((firstR g).1) = (firstS g))) = true := by first | rfl | exact decide_eq_true rfl | exact a9_fe | exact decide_eq_true a9_fe | exact a9_oe | exact decide_eq_true a9_oe | exact a9_ge | exact decide_eq_true a9_ge | exact a9_me | exact decide_eq_true a9_me | exact a9_ce | exact decide_eq_true a9_ce | exact a9_xe | exact decide_eq_true a9_xe | exact a9_x1 (by assumption) | exact decide_eq_true (a9_x1 (by assumption)) | exact a9_x (by assumption) | exact decide_eq_true (a9_x (by assumption)) | (rw [a9_x0 (by assumption)]; rfl) | exact hn_c1.sum | exact decide_eq_true hn_c1.sum | exact hy_c1.f | exact decide_eq_true hy_c1.f | exact hy_c1.o | exact decide_eq_true hy_c1.o | exact hy_c1.n | exact decide_eq_true hy_c1.n | exact hy_c1.m | exact decide_eq_true hy_c1.m | exact hy_c1.c | exact decide_eq_true hy_c1.c
  refine lv (Value.int .i64 ((firstR g).2)) (want_y rfl rfl rfl (congrArg Bool.not q107_c1)) (e_move rfl) ?_
  refine lv (Value.bool (!(decide (((firstR g).2) = 0)))) (want_y rfl rfl rfl (congrArg Bool.not q107_c1)) (e_neq (m := (firstR g).2) (n := 0) rfl rfl) ?_
  refine lv (Value.bool (!(decide (((firstR g).2) = 0)))) (want_y rfl rfl rfl (congrArg Bool.not q107_c1)) (e_move rfl) ?_
  refine l_skip (want_n rfl rfl rfl (congrArg Bool.not (decide_eq_true q93_c1))) ?_
  refine l_skip (want_n rfl rfl rfl (congrArg Bool.not (decide_eq_true q93_c1))) ?_
  refine l_skip (want_n rfl rfl rfl (congrArg Bool.not (decide_eq_true q93_c1))) ?_
  refine lv (Value.bool false) (want_y rfl rfl rfl (congrArg Bool.not q107_c1)) (e_pick_f rfl (congrArg Bool.not (decide_eq_true q93_c1)) rfl) ?_
  refine lv (Value.bool false) rfl (e_pick_f rfl (congrArg Bool.not q107_c1) rfl) ?_
  refine l_nil ?_
  refine run_cond_f rfl rfl ?_
  refine run_skip ?_
  refine run_seq ?_
  clear o109
  refine run_region rfl ?_
  refine lv (Value.pointer (some ⟨b41, 0, none⟩)) rfl (e_move rfl) ?_
  refine lv (v67) rfl (e_move rfl) ?_
  refine l_op rfl ?_
  have C114 : Chg (inl []) _ _ _ _ := (ch55.n).seq ((ch60.n).seq ((ch70.n).seq ((ch77.n).seq ((hb79.n).seq ((ch86.n).seq ((ch93.n).seq ((ch100.n).seq ((hb104.n).seq ((ch111.n).seq (hb113.n))))))))))
  replace o_b_0 := o_b_0.chg C114 (is_nl rfl)
  replace bx43 := bx43.chg C114 (is_nl rfl)
  have C115 : Chg (inl []) _ _ _ _ := (ch77.n).seq ((hb79.n).seq ((ch86.n).seq ((ch93.n).seq ((ch100.n).seq ((hb104.n).seq ((ch111.n).seq (hb113.n)))))))
  replace o68 := o68.chg C115 (is_nl rfl)
  refine o_callx (σ := Value × List (List Int) × Int × Cmap) (V := fun _ => Value.tuple (List.toArray [])) (e_call (vals := [Value.pointer (some ⟨b41, 0, none⟩), v67]) Try.func37 bd37_wa nm37_wa rfl) (KeepAll_lift (γ := g110) (q := 5) (i := 14) (k := 8) (K := b_0) (s := b_1) bx43 o_b_0 o68 (by first | assumption | exact KInv.nil) (by omega) rfl rfl rfl) ?_
  rintro ⟨v116, K117, s118, g119⟩ w120 ⟨ch121, o122, o123, hj124, r125⟩
  replace ch121 : Chg (j3 5 14 8) g110 w112 g119 w120 := ch121
  replace o122 : Bx g119 (is 5) w120 b41 [v116, Value.int .i64 s118] := o122
  replace o123 : Nst g119 14 w120 v116 K117 := o123
  replace hj124 : KInv K117 s118 := hj124
  replace r125 : Sl g119 (isr 8 14) w120 v67 ((facesR g r).1) := r125
  obtain ⟨hj124a, hj124b, hj124c⟩ := hj124.len
  clear bx43 o_b_0 o68
  refine l_nil ?_
  refine run_seq ?_
  refine run_region rfl ?_
  refine lv (Value.pointer (some ⟨b41, 0, none⟩)) rfl (e_move rfl) ?_
  refine lv (v74) rfl (e_move rfl) ?_
  refine l_op rfl ?_
  have C128 : Chg (inl [5, 8, 14]) _ _ _ _ := (hb79.n).seq ((ch86.n).seq ((ch93.n).seq ((ch100.n).seq ((hb104.n).seq ((ch111.n).seq ((hb113.n).seq (ch121.l3 rfl rfl rfl)))))))
  replace o75 := o75.chg C128 (is_nl rfl) (is_nl rfl)
  obtain ⟨c126, hv127⟩ := vc_of (u := v74) (sl_one o75.flat)
  refine o_buildSlice (α := Vc) g119 (is 15) (is 15) (15, 0) rfl [c126] Try.underlying25 tp27_wa (by decide) (by decide) (vs := [(0, v74)]) rfl rfl (.cons (vc_els hv127 (sl_cells1 o75.flat)) .nil) ?_
  intro g129 w130 v131 ch132 o133
  refine l_op rfl ?_
  refine o_callx (σ := Value × (List (List Int)) × Int × Cmap) (V := fun ⟨b_0_c2_v, b_0_c2, b_1_c2, gq⟩ => Value.tuple (List.toArray [])) (S := fun ⟨b_0_c2_v, b_0_c2, b_1_c2, gq⟩ w => Base w0 gq w ∧ Sl gq (is 0) w g_v g.2 ∧ Sl gq (is 0) w r_v r ∧ Sl gq (is 0) w keep_v keep ∧ Sl gq (is 0) w to_v to ∧ Bx gq (is 1) w b3 [Value.int .i64 g.1, g_v] ∧ Ow gq (is 2) (is 2) w (upV v18) (g.2 ++ [((-7 : Int), (7 : Int))]) ∧ Sl gq (is 2) w v18 g.2 ∧ Ow gq (is 3) (is 3) w (upV v26) (TWL r) ∧ Sl gq (is 3) w v26 r ∧ Bx gq (is 4) w b33 [Value.int .i64 g.1, v18] ∧ Bx gq (is 7) w b61 [Value.int .i64 g.1, g_v] ∧ Sl gq (isr 9 14) w v74 ((ofR g r).1) ∧ Nst gq 10 w v83 ((mirrorR g r).1) ∧ Nst gq 11 w v90 ((canonR g r).1) ∧ Nst gq 12 w v97 ((firstR g).1) ∧ Bx gq (is 5) w b41 [b_0_c2_v, Value.int .i64 b_1_c2] ∧ Sl gq (isr 8 14) w v67 ((facesR g r).1) ∧ Ow gq (is 15) (is 15) w v131 ([c126]) ∧ Nst gq 14 w b_0_c2_v b_0_c2 ∧ (KInv b_0_c2 b_1_c2)) (e_call (vals := [Value.pointer (some ⟨b41, 0, none⟩), v131]) Try.func38 bd38_wa nm38_wa rfl) ?_ ?_
  ·
   refine calls_of_run Try.func38 rfl (Nat.le_of_ble_eq_true rfl) ?_
   replace o123 := o123.chg ch132 (not_no _)
   replace o75 := o75.chg ch132 (not_no _) (not_no _)
   refine run_seq ?_
   refine run_region rfl ?_
   refine lv (Value.int .i64 0) rfl (e_assign rfl) ?_
   refine l_nil ?_
   refine run_block ?_
   refine run_loop0 ?_
   refine run_seq ?_
   refine run_seq ?_
   refine run_region rfl ?_
   refine lv (Value.int .i64 0) rfl (e_move rfl) ?_
   refine lv (v131) rfl (e_move rfl) ?_
   refine lv (Value.int .i64 1) rfl (e_len (α := Vc) (xs := [c126]) Try.underlying25 rfl o133.flat) ?_
   refine lv (Value.bool true) rfl (e_lss (m := 0) (n := 1) rfl rfl) ?_
   refine l_nil ?_
   refine run_cond_t rfl rfl ?_
   refine run_skip ?_
   refine run_seq ?_
   refine run_block ?_
   refine run_seq ?_
   refine run_mid [false, true, false, false, false] (σ := Value × (List (List Int)) × Int × Cmap) (fun ⟨b_0_j4_v, b_0_j4, b_1_j4, gq⟩ f w => Base w0 gq w ∧ f 0 = Value.pointer (some ⟨b41, 0, none⟩) ∧ f 1 = v131 ∧ f 4 = Value.int .i64 0 ∧ Sl gq (is 0) w g_v g.2 ∧ Sl gq (is 0) w r_v r ∧ Sl gq (is 0) w keep_v keep ∧ Sl gq (is 0) w to_v to ∧ Bx gq (is 1) w b3 [Value.int .i64 g.1, g_v] ∧ Ow gq (is 2) (is 2) w (upV v18) (g.2 ++ [((-7 : Int), (7 : Int))]) ∧ Sl gq (is 2) w v18 g.2 ∧ Ow gq (is 3) (is 3) w (upV v26) (TWL r) ∧ Sl gq (is 3) w v26 r ∧ Bx gq (is 4) w b33 [Value.int .i64 g.1, v18] ∧ Bx gq (is 7) w b61 [Value.int .i64 g.1, g_v] ∧ Sl gq (isr 9 14) w v74 ((ofR g r).1) ∧ Nst gq 10 w v83 ((mirrorR g r).1) ∧ Nst gq 11 w v90 ((canonR g r).1) ∧ Nst gq 12 w v97 ((firstR g).1) ∧ Bx gq (is 5) w b41 [b_0_j4_v, Value.int .i64 b_1_j4] ∧ Sl gq (isr 8 14) w v67 ((facesR g r).1) ∧ Ow gq (is 15) (is 15) w v131 ([c126]) ∧ Nst gq 14 w b_0_j4_v b_0_j4 ∧ (KInv b_0_j4 b_1_j4)) ?_ ?_
   ·
    intro mid_j4
    refine region_q g129 rfl mixed_wa (by kernel_rfl) ?_
    intro w135 ch134
    refine q_val (v := v131) rfl (fun w' hw' => e_move rfl) ?_
    refine q_val (v := Value.int .i64 0) rfl (fun w' hw' => e_move rfl) ?_
    replace o75 := o75.chg ch134 (not_no _) (not_no _)
    replace o133 := o133.chg ch134 (not_no _) (not_no _)
    refine q_val (v := Value.pointer (some (eAddr v131 1 (Int.toNat 0)))) rfl (fun w' hw' => e_indexAddr (α := List Int) (xs := [(ofR g r).1]) (v := v131) (i := 0) Try.underlying25 rfl rfl ((vc_sl o133 (VcR.consv hv127 (o75.flat).ro VcR.nil)).bel hw') rfl (by omega) (by first | omega | (simp only [List.length_set, List.length_append, List.length_cons, List.length_nil, List.length_replicate, List.length_map, List.length_take, List.length_drop]; omega) | (simp; done) | (simp; omega))) ?_
    refine q_val (v := v74) rfl (fun w' hw' => e_load1 tp27_wa rfl (ow_atv hv127 (o133.bel hw') rfl)) ?_
    have len136 := (o75.flat).small
    refine q_val (v := Value.int .i64 (List.length ((ofR g r).1) : Int)) rfl (fun w' hw' => e_len Try.underlying27 rfl (o75.flat.bel hw')) ?_
    refine q_val (v := v131) rfl (fun w' hw' => e_move rfl) ?_
    refine q_val (v := Value.int .i64 0) rfl (fun w' hw' => e_move rfl) ?_
    refine q_val (v := Value.pointer (some (eAddr v131 1 (Int.toNat 0)))) rfl (fun w' hw' => e_indexAddr (α := List Int) (xs := [(ofR g r).1]) (v := v131) (i := 0) Try.underlying25 rfl rfl ((vc_sl o133 (VcR.consv hv127 (o75.flat).ro VcR.nil)).bel hw') rfl (by omega) (by first | omega | (simp only [List.length_set, List.length_append, List.length_cons, List.length_nil, List.length_replicate, List.length_map, List.length_take, List.length_drop]; omega) | (simp; done) | (simp; omega))) ?_
    refine q_val (v := v74) rfl (fun w' hw' => e_load1 tp27_wa rfl (ow_atv hv127 (o133.bel hw') rfl)) ?_
    have cap137 := Sl.cap o75.flat
    refine q_val (v := Value.int .i64 (sCap v74 : Int)) rfl (fun w' hw' => e_cap Try.underlying27 rfl (o75.flat.bel hw')) ?_
    refine q_call (v := Value.int .i64 (min (sCap v74 : Int) ((List.length ((ofR g r).1) : Int) + 2000))) rfl (fun w' hw' => e_call (vals := [Value.int .i64 (List.length ((ofR g r).1) : Int), Value.int .i64 (sCap v74 : Int)]) Try.func65 bd65_wa nm65_wa rfl) (fun w' hw' => (Room_ok w' (List.length ((ofR g r).1) : Int) (sCap v74 : Int) (by omega)).mono fun e w2 h2 => ⟨h2.1, hw'.trans (h2.2.mono hw'.size)⟩) ?_
    refine q_val (v := Value.int .i64 (min (sCap v74 : Int) ((List.length ((ofR g r).1) : Int) + 2000))) rfl (fun w' hw' => e_assign rfl) ?_
    refine q_nil ?_
    intro w138 hc139
    replace hc139 := chg_below hc139 g129
    refine run_seq ?_
    refine run_region rfl ?_
    refine lv (Value.int .i64 (min (sCap v74 : Int) ((List.length ((ofR g r).1) : Int) + 2000))) rfl (e_move rfl) ?_
    refine lv (Value.bool (decide (0 < (min (sCap v74 : Int) ((List.length ((ofR g r).1) : Int) + 2000))))) rfl (e_gtr (m := min (sCap v74 : Int) ((List.length ((ofR g r).1) : Int) + 2000)) (n := 0) rfl rfl) ?_
    refine lv (Value.bool (decide (0 < (min (sCap v74 : Int) ((List.length ((ofR g r).1) : Int) + 2000))))) rfl (e_move rfl) ?_
    by_cases q25_c2 : 0 < (min (sCap v74 : Int) ((List.length ((ofR g r).1) : Int) + 2000))
    ·
     refine lv (Value.pointer (some ⟨b41, 0, none⟩)) (want_y rfl rfl rfl (decide_eq_true q25_c2)) (e_move rfl) ?_
     refine lv (Value.pointer (some ⟨b41, 0, none⟩)) (want_y rfl rfl rfl (decide_eq_true q25_c2)) (e_nilCheck rfl) ?_
     refine lv (Value.pointer (some ⟨b41, 1, none⟩)) (want_y rfl rfl rfl (decide_eq_true q25_c2)) (e_fieldAddr Try.underlying36 rfl rfl rfl rfl) ?_
     have C140 : Chg (inl []) _ _ _ _ := (ch132.n).seq ((ch134.n).seq (hc139.n))
     replace o122 := o122.chg C140 (is_nl rfl)
     refine lv (Value.int .i64 s118) (want_y rfl rfl rfl (decide_eq_true q25_c2)) (e_load_bx1 tp3_wa rfl o122 rfl) ?_
     refine lv (Value.int .i64 (min (sCap v74 : Int) ((List.length ((ofR g r).1) : Int) + 2000))) (want_y rfl rfl rfl (decide_eq_true q25_c2)) (e_move rfl) ?_
     refine lv (Value.int .i64 (s118 + (min (sCap v74 : Int) ((List.length ((ofR g r).1) : Int) + 2000)))) (want_y rfl rfl rfl (decide_eq_true q25_c2)) (e_add (m := s118) (n := min (sCap v74 : Int) ((List.length ((ofR g r).1) : Int) + 2000)) rfl rfl (by omega)) ?_
     refine lv (Value.bool (decide ((s118 + (min (sCap v74 : Int) ((List.length ((ofR g r).1) : Int) + 2000))) ≤ 1048576))) (want_y rfl rfl rfl (decide_eq_true q25_c2)) (e_leq (m := s118 + (min (sCap v74 : Int) ((List.length ((ofR g r).1) : Int) + 2000))) (n := 1048576) rfl rfl) ?_
     refine lv (Value.bool (decide ((s118 + (min (sCap v74 : Int) ((List.length ((ofR g r).1) : Int) + 2000))) ≤ 1048576))) rfl (e_pick_t rfl (decide_eq_true q25_c2) rfl) ?_
     refine l_nil ?_
     by_cases p4_c2 : (s118 + (min (sCap v74 : Int) ((List.length ((ofR g r).1) : Int) + 2000))) ≤ 1048576
     ·
      refine run_cond_t rfl (decide_eq_true p4_c2) ?_
      refine run_seq ?_
      refine run_region rfl ?_
      refine lv (Value.pointer (some ⟨b41, 0, none⟩)) rfl (e_move rfl) ?_
      refine lv (Value.pointer (some ⟨b41, 0, none⟩)) rfl (e_move rfl) ?_
      refine lv (Value.pointer (some ⟨b41, 0, none⟩)) rfl (e_nilCheck rfl) ?_
      refine lv (Value.pointer (some ⟨b41, 1, none⟩)) rfl (e_fieldAddr Try.underlying36 rfl rfl rfl rfl) ?_
      refine lv (Value.int .i64 s118) rfl (e_load_bx1 tp3_wa rfl o122 rfl) ?_
      refine lv (Value.int .i64 (min (sCap v74 : Int) ((List.length ((ofR g r).1) : Int) + 2000))) rfl (e_move rfl) ?_
      refine lv (Value.int .i64 (s118 + (min (sCap v74 : Int) ((List.length ((ofR g r).1) : Int) + 2000)))) rfl (e_add (m := s118) (n := min (sCap v74 : Int) ((List.length ((ofR g r).1) : Int) + 2000)) rfl rfl (by omega)) ?_
      refine lv (Value.pointer (some ⟨b41, 0, none⟩)) rfl (e_nilCheck rfl) ?_
      refine lv (Value.pointer (some ⟨b41, 1, none⟩)) rfl (e_fieldAddr Try.underlying36 rfl rfl rfl rfl) ?_
      refine l_op rfl ?_
      refine o_store_bx (cs' := [v116, Value.int .i64 (s118 + (min (sCap v74 : Int) ((List.length ((ofR g r).1) : Int) + 2000)))]) tp3_wa rfl rfl o122 rfl (Nat.le_of_ble_eq_true rfl) (AllOne.all (.cons rfl .nil)) rfl ?_
      intro w141 ch142 bx143
      clear o122
      refine l_nil ?_
      refine run_region_x g129 [0, 1, 2, 3, 4, 5, 6, 7, 8, 11, 12] mixed_wa ?_
      intro w145 ch144
      refine x_pure (v := Value.pointer (some ⟨b41, 0, none⟩)) 0 rfl (by kernel_rfl) (by kernel_rfl) rfl (fun w => e_move rfl) ?_
      refine x_pure (v := Value.pointer (some ⟨b41, 0, none⟩)) 1 rfl (by kernel_rfl) (by kernel_rfl) rfl (fun w => e_move rfl) ?_
      refine x_pure (v := Value.pointer (some ⟨b41, 0, none⟩)) 2 rfl (by kernel_rfl) (by kernel_rfl) rfl (fun w => e_nilCheck rfl) ?_
      refine x_pure (v := Value.pointer (some ⟨b41, 0, none⟩)) 3 rfl (by kernel_rfl) (by kernel_rfl) rfl (fun w => e_fieldAddr Try.underlying36 rfl rfl rfl rfl) ?_
      replace bx143 := bx143.chg ch144 (not_no _)
      refine x_held (v := v116) 4 [3, 2, 1, 0, 5, 6, 7, 8, 9] rfl (by kernel_rfl) (by kernel_rfl) rfl (fun w' hw' => e_load_bx1 tp25_wa rfl (bx143.bel hw') rfl) ?_
      refine x_pure (v := v131) 5 rfl (by kernel_rfl) (by kernel_rfl) rfl (fun w => e_move rfl) ?_
      refine x_pure (v := Value.int .i64 0) 6 rfl (by kernel_rfl) (by kernel_rfl) rfl (fun w => e_move rfl) ?_
      have C146 : Chg (inl [5]) _ _ _ _ := (hc139.n).seq ((ch142.l rfl).seq (ch144.n))
      replace o75 := o75.chg C146 (is_nl rfl) (is_nl rfl)
      replace o133 := o133.chg C146 (is_nl rfl) (is_nl rfl)
      refine x_val (v := Value.pointer (some (eAddr v131 1 (Int.toNat 0)))) 7 [6, 5, 4, 3, 2, 1, 0] rfl (by kernel_rfl) (by kernel_rfl) rfl (e_indexAddr (α := List Int) (xs := [(ofR g r).1]) (v := v131) (i := 0) Try.underlying25 rfl rfl (vc_sl o133 (VcR.consv hv127 (o75.flat).ro VcR.nil)) rfl (by omega) (by first | omega | (simp only [List.length_set, List.length_append, List.length_cons, List.length_nil, List.length_replicate, List.length_map, List.length_take, List.length_drop]; omega) | (simp; done) | (simp; omega))) ?_
      refine x_val (v := v74) 8 [7, 6, 5, 4, 3, 2, 1, 0] rfl (by kernel_rfl) (by kernel_rfl) rfl (e_load1 tp27_wa rfl (ow_atv hv127 o133 rfl)) ?_
      refine x_one 9 rfl (by kernel_rfl) rfl ?_
      obtain ⟨c147, hv148⟩ := vc_of (u := v74) (sl_one o75.flat)
      refine o_buildSlice (α := Vc) g129 (is 16) (is 16) (16, 0) rfl [c147] Try.underlying25 tp27_wa (by decide) (by decide) (vs := [(0, v74)]) rfl rfl (.cons (vc_els hv148 (sl_cells1 o75.flat)) .nil) ?_
      intro g149 w150 v151 ch152 o153
      refine x_one 10 rfl (by kernel_rfl) rfl ?_
      have C154 : Chg (inl [5]) _ _ _ _ := (ch134.n).seq ((hc139.n).seq ((ch142.l rfl).seq ((ch144.n).seq (ch152.n))))
      replace o123 := o123.chg C154 (is_nl rfl)
      replace o75 := o75.chg ch152 (not_no _) (not_no _)
      refine o_append_nst hv148 (α := Int) (xss := K117) (i := 14) (γ := g149) Try.underlying25 tp27_wa rfl rfl rfl o123 (o153.flat) o75 rfl (by decide) (by first | omega | (simp; done) | (simp; omega)) ?_
      intro g155 w156 v157 ch158 o159 r160
      clear o75 o123
      refine x_pure (v := Value.pointer (some ⟨b41, 0, none⟩)) 11 rfl (by kernel_rfl) (by kernel_rfl) rfl (fun w => e_nilCheck rfl) ?_
      refine x_pure (v := Value.pointer (some ⟨b41, 0, none⟩)) 12 rfl (by kernel_rfl) (by kernel_rfl) rfl (fun w => e_fieldAddr Try.underlying36 rfl rfl rfl rfl) ?_
      refine x_one 13 rfl (by kernel_rfl) rfl ?_
      replace bx143 := (bx143.chg ch152 (not_no _)).chg ch158 (is_neix rfl rfl)
      refine o_store_bx1 (cs' := [v157, Value.int .i64 (s118 + (min (sCap v74 : Int) ((List.length ((ofR g r).1) : Int) + 2000)))]) tp25_wa rfl rfl bx143 (sl_cells1 o159.sl) (Nat.le_of_ble_eq_true rfl) (sl_one o159.sl) rfl ?_
      intro w161 ch162 bx163
      clear bx143
      refine x_nil (by kernel_rfl) ?_
      refine run_inBlock ?_
      clear o153
      have C164 : Chg (inl [5, 8, 9, 14]) _ _ _ _ := (ch55.n).seq ((ch60.n).seq ((ch70.n).seq ((ch77.n).seq ((hb79.n).seq ((ch86.n).seq ((ch93.n).seq ((ch100.n).seq ((hb104.n).seq ((ch111.n).seq ((hb113.n).seq ((ch121.l3 rfl rfl rfl).seq ((ch132.n).seq ((ch134.n).seq ((hc139.n).seq ((ch142.l rfl).seq ((ch144.n).seq ((ch152.n).seq ((ch158.lx rfl rfl).seq (ch162.l rfl)))))))))))))))))))
      replace hbase := hbase.chg C164 (is_nl rfl)
      have C165 : Chg (inl [5, 8, 9, 14]) _ _ _ _ := (ch111.n).seq ((hb113.n).seq ((ch121.l3 rfl rfl rfl).seq ((ch132.n).seq ((ch134.n).seq ((hc139.n).seq ((ch142.l rfl).seq ((ch144.n).seq ((ch152.n).seq ((ch158.lx rfl rfl).seq (ch162.l rfl))))))))))
      replace r_g_v := r_g_v.chg C165 (is_nl rfl)
      replace r_r_v := r_r_v.chg C164 (is_nl rfl)
      replace r_keep_v := r_keep_v.chg C164 (is_nl rfl)
      replace r_to_v := r_to_v.chg C164 (is_nl rfl)
      replace bx5 := bx5.chg C164 (is_nl rfl)
      replace o19 := o19.chg C164 (is_nl rfl) (is_nl rfl)
      have C166 : Chg (inl [5, 8, 9, 14]) _ _ _ _ := (ch100.n).seq ((hb104.n).seq ((ch111.n).seq ((hb113.n).seq ((ch121.l3 rfl rfl rfl).seq ((ch132.n).seq ((ch134.n).seq ((hc139.n).seq ((ch142.l rfl).seq ((ch144.n).seq ((ch152.n).seq ((ch158.lx rfl rfl).seq (ch162.l rfl))))))))))))
      replace r22 := r22.chg C166 (is_nl rfl)
      replace o27 := o27.chg C164 (is_nl rfl) (is_nl rfl)
      have C167 : Chg (inl [5, 8, 9, 14]) _ _ _ _ := (ch93.n).seq ((ch100.n).seq ((hb104.n).seq ((ch111.n).seq ((hb113.n).seq ((ch121.l3 rfl rfl rfl).seq ((ch132.n).seq ((ch134.n).seq ((hc139.n).seq ((ch142.l rfl).seq ((ch144.n).seq ((ch152.n).seq ((ch158.lx rfl rfl).seq (ch162.l rfl)))))))))))))
      replace r30 := r30.chg C167 (is_nl rfl)
      replace bx38 := bx38.chg C164 (is_nl rfl)
      replace bx63 := bx63.chg C165 (is_nl rfl)
      replace r160 := r160.chg ch162 (isr_is rfl rfl)
      replace o84 := o84.chg C167 (is_nl rfl)
      replace o91 := o91.chg C166 (is_nl rfl)
      have C168 : Chg (inl [5, 8, 9, 14]) _ _ _ _ := (hb113.n).seq ((ch121.l3 rfl rfl rfl).seq ((ch132.n).seq ((ch134.n).seq ((hc139.n).seq ((ch142.l rfl).seq ((ch144.n).seq ((ch152.n).seq ((ch158.lx rfl rfl).seq (ch162.l rfl)))))))))
      replace o98 := o98.chg C168 (is_nl rfl)
      replace r125 := (((((((r125.chg ch132 (not_no _)).chg ch134 (not_no _)).chg hc139 (not_no _)).chg ch142 (isr_is rfl rfl)).chg ch144 (not_no _)).chg ch152 (not_no _)).chg ch158 (isr_ixs rfl rfl rfl)).chg ch162 (isr_is rfl rfl)
      have C169 : Chg (inl [5, 9, 14]) _ _ _ _ := (ch152.n).seq ((ch158.lx rfl rfl).seq (ch162.l rfl))
      replace o133 := o133.chg C169 (is_nl rfl) (is_nl rfl)
      replace o159 := o159.chg ch162 (is_ne rfl)
      refine mid_j4 (v157, (K117 ++ [(ofR g r).1]), s118 + (min (sCap v74 : Int) ((List.length ((ofR g r).1) : Int) + 2000)), g155) _ _ ⟨hbase, rfl, rfl, rfl, r_g_v, r_r_v, r_keep_v, r_to_v, bx5, o19, r22, o27, r30, bx38, bx63, r160, o84, o91, o98, bx163, r125, o133, o159, ?_⟩
      show KInv (K117 ++ [(ofR g r).1]) (s118 + (min (sCap v74 : Int) ((List.length ((ofR g r).1) : Int) + 2000)))
      first | assumption | exact KInv.nil | exact (KInv.add (by first | assumption | exact KInv.nil) (by omega) (by omega) (by omega))
     refine run_cond_f rfl (decide_eq_false p4_c2) ?_
     refine run_skip ?_
     refine run_inBlock ?_
     have C170 : Chg (inl [5, 8, 14]) _ _ _ _ := (ch55.n).seq ((ch60.n).seq ((ch70.n).seq ((ch77.n).seq ((hb79.n).seq ((ch86.n).seq ((ch93.n).seq ((ch100.n).seq ((hb104.n).seq ((ch111.n).seq ((hb113.n).seq ((ch121.l3 rfl rfl rfl).seq ((ch132.n).seq ((ch134.n).seq (hc139.n))))))))))))))
     replace hbase := hbase.chg C170 (is_nl rfl)
     have C171 : Chg (inl [5, 8, 14]) _ _ _ _ := (ch111.n).seq ((hb113.n).seq ((ch121.l3 rfl rfl rfl).seq ((ch132.n).seq ((ch134.n).seq (hc139.n)))))
     replace r_g_v := r_g_v.chg C171 (is_nl rfl)
     replace r_r_v := r_r_v.chg C170 (is_nl rfl)
     replace r_keep_v := r_keep_v.chg C170 (is_nl rfl)
     replace r_to_v := r_to_v.chg C170 (is_nl rfl)
     replace bx5 := bx5.chg C170 (is_nl rfl)
     replace o19 := o19.chg C170 (is_nl rfl) (is_nl rfl)
     have C172 : Chg (inl [5, 8, 14]) _ _ _ _ := (ch100.n).seq ((hb104.n).seq ((ch111.n).seq ((hb113.n).seq ((ch121.l3 rfl rfl rfl).seq ((ch132.n).seq ((ch134.n).seq (hc139.n)))))))
     replace r22 := r22.chg C172 (is_nl rfl)
     replace o27 := o27.chg C170 (is_nl rfl) (is_nl rfl)
     have C173 : Chg (inl [5, 8, 14]) _ _ _ _ := (ch93.n).seq ((ch100.n).seq ((hb104.n).seq ((ch111.n).seq ((hb113.n).seq ((ch121.l3 rfl rfl rfl).seq ((ch132.n).seq ((ch134.n).seq (hc139.n))))))))
     replace r30 := r30.chg C173 (is_nl rfl)
     replace bx38 := bx38.chg C170 (is_nl rfl)
     replace bx63 := bx63.chg C171 (is_nl rfl)
     replace o75 := o75.chg hc139 (not_no _) (not_no _)
     replace o84 := o84.chg C173 (is_nl rfl)
     replace o91 := o91.chg C172 (is_nl rfl)
     have C174 : Chg (inl [5, 8, 14]) _ _ _ _ := (hb113.n).seq ((ch121.l3 rfl rfl rfl).seq ((ch132.n).seq ((ch134.n).seq (hc139.n))))
     replace o98 := o98.chg C174 (is_nl rfl)
     replace r125 := ((r125.chg ch132 (not_no _)).chg ch134 (not_no _)).chg hc139 (not_no _)
     replace o133 := o133.chg hc139 (not_no _) (not_no _)
     replace o123 := (o123.chg ch134 (not_no _)).chg hc139 (not_no _)
     refine mid_j4 (v116, K117, s118, g129) _ _ ⟨hbase, rfl, rfl, rfl, r_g_v, r_r_v, r_keep_v, r_to_v, bx5, o19, r22, o27, r30, bx38, bx63, o75.slk, o84, o91, o98, o122, r125, o133, o123, ?_⟩
     show KInv K117 s118
     first | assumption | exact KInv.nil | exact (KInv.add (by first | assumption | exact KInv.nil) (by omega) (by omega) (by omega))
    refine l_skip (want_n rfl rfl rfl (decide_eq_false q25_c2)) ?_
    refine l_skip (want_n rfl rfl rfl (decide_eq_false q25_c2)) ?_
    refine l_skip (want_n rfl rfl rfl (decide_eq_false q25_c2)) ?_
    refine l_skip (want_n rfl rfl rfl (decide_eq_false q25_c2)) ?_
    refine l_skip (want_n rfl rfl rfl (decide_eq_false q25_c2)) ?_
    refine l_skip (want_n rfl rfl rfl (decide_eq_false q25_c2)) ?_
    refine l_skip (want_n rfl rfl rfl (decide_eq_false q25_c2)) ?_
    refine lv (Value.bool false) rfl (e_pick_f rfl (decide_eq_false q25_c2) rfl) ?_
    refine l_nil ?_
    refine run_cond_f rfl rfl ?_
    refine run_skip ?_
    refine run_inBlock ?_
    have C175 : Chg (inl [5, 8, 14]) _ _ _ _ := (ch55.n).seq ((ch60.n).seq ((ch70.n).seq ((ch77.n).seq ((hb79.n).seq ((ch86.n).seq ((ch93.n).seq ((ch100.n).seq ((hb104.n).seq ((ch111.n).seq ((hb113.n).seq ((ch121.l3 rfl rfl rfl).seq ((ch132.n).seq ((ch134.n).seq (hc139.n))))))))))))))
    replace hbase := hbase.chg C175 (is_nl rfl)
    have C176 : Chg (inl [5, 8, 14]) _ _ _ _ := (ch111.n).seq ((hb113.n).seq ((ch121.l3 rfl rfl rfl).seq ((ch132.n).seq ((ch134.n).seq (hc139.n)))))
    replace r_g_v := r_g_v.chg C176 (is_nl rfl)
    replace r_r_v := r_r_v.chg C175 (is_nl rfl)
    replace r_keep_v := r_keep_v.chg C175 (is_nl rfl)
    replace r_to_v := r_to_v.chg C175 (is_nl rfl)
    replace bx5 := bx5.chg C175 (is_nl rfl)
    replace o19 := o19.chg C175 (is_nl rfl) (is_nl rfl)
    have C177 : Chg (inl [5, 8, 14]) _ _ _ _ := (ch100.n).seq ((hb104.n).seq ((ch111.n).seq ((hb113.n).seq ((ch121.l3 rfl rfl rfl).seq ((ch132.n).seq ((ch134.n).seq (hc139.n)))))))
    replace r22 := r22.chg C177 (is_nl rfl)
    replace o27 := o27.chg C175 (is_nl rfl) (is_nl rfl)
    have C178 : Chg (inl [5, 8, 14]) _ _ _ _ := (ch93.n).seq ((ch100.n).seq ((hb104.n).seq ((ch111.n).seq ((hb113.n).seq ((ch121.l3 rfl rfl rfl).seq ((ch132.n).seq ((ch134.n).seq (hc139.n))))))))
    replace r30 := r30.chg C178 (is_nl rfl)
    replace bx38 := bx38.chg C175 (is_nl rfl)
    replace bx63 := bx63.chg C176 (is_nl rfl)
    replace o75 := o75.chg hc139 (not_no _) (not_no _)
    replace o84 := o84.chg C178 (is_nl rfl)
    replace o91 := o91.chg C177 (is_nl rfl)
    have C179 : Chg (inl [5, 8, 14]) _ _ _ _ := (hb113.n).seq ((ch121.l3 rfl rfl rfl).seq ((ch132.n).seq ((ch134.n).seq (hc139.n))))
    replace o98 := o98.chg C179 (is_nl rfl)
    have C180 : Chg (inl []) _ _ _ _ := (ch132.n).seq ((ch134.n).seq (hc139.n))
    replace o122 := o122.chg C180 (is_nl rfl)
    replace r125 := ((r125.chg ch132 (not_no _)).chg ch134 (not_no _)).chg hc139 (not_no _)
    replace o133 := o133.chg hc139 (not_no _) (not_no _)
    replace o123 := (o123.chg ch134 (not_no _)).chg hc139 (not_no _)
    refine mid_j4 (v116, K117, s118, g129) _ _ ⟨hbase, rfl, rfl, rfl, r_g_v, r_r_v, r_keep_v, r_to_v, bx5, o19, r22, o27, r30, bx38, bx63, o75.slk, o84, o91, o98, o122, r125, o133, o123, ?_⟩
    show KInv K117 s118
    first | assumption | exact KInv.nil | exact (KInv.add (by first | assumption | exact KInv.nil) (by omega) (by omega) (by omega))
   clear r_g_v r_r_v r_keep_v r_to_v bx5 o19 r22 o27 r30 bx38 bx63 o75 o84 o91 o98 o122 o123 r125 o133 hbase
   rintro ⟨b_0_j4_v, b_0_j4, b_1_j4, g183⟩ f181 w182 ⟨hbase, z184_0, z184_1, z184_4, r_g_v, r_r_v, r_keep_v, r_to_v, bx5, o19, r22, o27, r30, bx38, bx63, o75, o84, o91, o98, o122, r125, o133, o_b_0_j4, hj_j4⟩
   obtain ⟨hja_j4, hjb_j4, hjc_j4⟩ := hj_j4.len
   refine run_region rfl ?_
   refine lv (Value.int .i64 0) rfl (e_move (by exact z184_4)) ?_
   refine lv (Value.int .i64 1) rfl (e_add (m := 0) (n := 1) rfl rfl (by omega)) ?_
   refine lv (Value.int .i64 1) rfl (e_assign rfl) ?_
   refine l_nil ?_
   refine run_inLoop ?_
   refine run_seq ?_
   refine run_seq ?_
   refine run_region rfl ?_
   refine lv (Value.int .i64 1) rfl (e_move rfl) ?_
   refine lv (v131) rfl (e_move (by exact z184_1)) ?_
   refine lv (Value.int .i64 1) rfl (e_len (α := Vc) (xs := [c126]) Try.underlying25 rfl o133.flat) ?_
   refine lv (Value.bool false) rfl (e_lss (m := 1) (n := 1) rfl rfl) ?_
   refine l_nil ?_
   refine run_cond_f rfl rfl ?_
   refine run_exit rfl ?_
   refine run_end (vs := []) Try.func38 .nil ?_
   refine ⟨(b_0_j4_v, b_0_j4, b_1_j4, g183), rfl, hbase, r_g_v, r_r_v, r_keep_v, r_to_v, bx5, o19, r22, o27, r30, bx38, bx63, o75, o84, o91, o98, o122, r125, o133, o_b_0_j4, ?_⟩
   show KInv b_0_j4 b_1_j4
   first | assumption | exact KInv.nil | exact (KInv.add (by first | assumption | exact KInv.nil) (by omega) (by omega) (by omega))
  clear r_g_v r_r_v r_keep_v r_to_v bx5 o19 r22 o27 r30 bx38 bx63 o75 o84 o91 o98 o122 o123 r125 o133 hbase
  rintro ⟨b_0_c2_v, b_0_c2, b_1_c2, g186⟩ w185 ⟨hbase, r_g_v, r_r_v, r_keep_v, r_to_v, bx5, o19, r22, o27, r30, bx38, bx63, o75, o84, o91, o98, o122, r125, o133, o_b_0_c2, hj_c2⟩
  obtain ⟨hja_c2, hjb_c2, hjc_c2⟩ := hj_c2.len
  refine l_nil ?_
  refine run_seq ?_
  clear o133
  refine run_region rfl ?_
  refine lv (Value.pointer (some ⟨b41, 0, none⟩)) rfl (e_move rfl) ?_
  refine lv (v83) rfl (e_move rfl) ?_
  refine l_op rfl ?_
  refine o_callx (σ := Value × List (List Int) × Int × Cmap) (V := fun _ => Value.tuple (List.toArray [])) (e_call (vals := [Value.pointer (some ⟨b41, 0, none⟩), v83]) Try.func37 bd37_wa nm37_wa rfl) (KeepAll_lift (γ := g186) (q := 5) (i := 14) (k := 10) (K := b_0_c2) (s := b_1_c2) o122 o_b_0_c2 o84 (by first | assumption | exact KInv.nil) (by omega) rfl rfl rfl) ?_
  rintro ⟨v187, K188, s189, g190⟩ w191 ⟨ch192, o193, o194, hj195, r196⟩
  replace ch192 : Chg (j3 5 14 10) g186 w185 g190 w191 := ch192
  replace o193 : Bx g190 (is 5) w191 b41 [v187, Value.int .i64 s189] := o193
  replace o194 : Nst g190 14 w191 v187 K188 := o194
  replace hj195 : KInv K188 s189 := hj195
  replace r196 : Sl g190 (isr 10 14) w191 v83 ((mirrorR g r).1) := r196
  obtain ⟨hj195a, hj195b, hj195c⟩ := hj195.len
  clear o84 o122 o_b_0_c2
  refine l_nil ?_
  refine run_seq ?_
  refine run_region rfl ?_
  refine lv (Value.pointer (some ⟨b41, 0, none⟩)) rfl (e_move rfl) ?_
  refine lv (v90) rfl (e_move rfl) ?_
  refine l_op rfl ?_
  replace o91 := o91.chg ch192 (is_j3 rfl rfl rfl)
  refine o_callx (σ := Value × List (List Int) × Int × Cmap) (V := fun _ => Value.tuple (List.toArray [])) (e_call (vals := [Value.pointer (some ⟨b41, 0, none⟩), v90]) Try.func37 bd37_wa nm37_wa rfl) (KeepAll_lift (γ := g190) (q := 5) (i := 14) (k := 11) (K := K188) (s := s189) o193 o194 o91 (by first | assumption | exact KInv.nil) (by omega) rfl rfl rfl) ?_
  rintro ⟨v197, K198, s199, g200⟩ w201 ⟨ch202, o203, o204, hj205, r206⟩
  replace ch202 : Chg (j3 5 14 11) g190 w191 g200 w201 := ch202
  replace o203 : Bx g200 (is 5) w201 b41 [v197, Value.int .i64 s199] := o203
  replace o204 : Nst g200 14 w201 v197 K198 := o204
  replace hj205 : KInv K198 s199 := hj205
  replace r206 : Sl g200 (isr 11 14) w201 v90 ((canonR g r).1) := r206
  obtain ⟨hj205a, hj205b, hj205c⟩ := hj205.len
  clear o91 o193 o194
  refine l_nil ?_
  refine run_seq ?_
  refine run_region rfl ?_
  refine lv (Value.pointer (some ⟨b41, 0, none⟩)) rfl (e_move rfl) ?_
  refine lv (v97) rfl (e_move rfl) ?_
  refine l_op rfl ?_
  replace o98 := (o98.chg ch192 (is_j3 rfl rfl rfl)).chg ch202 (is_j3 rfl rfl rfl)
  refine o_callx (σ := Value × List (List Int) × Int × Cmap) (V := fun _ => Value.tuple (List.toArray [])) (e_call (vals := [Value.pointer (some ⟨b41, 0, none⟩), v97]) Try.func37 bd37_wa nm37_wa rfl) (KeepAll_lift (γ := g200) (q := 5) (i := 14) (k := 12) (K := K198) (s := s199) o203 o204 o98 (by first | assumption | exact KInv.nil) (by omega) rfl rfl rfl) ?_
  rintro ⟨v207, K208, s209, g210⟩ w211 ⟨ch212, o213, o214, hj215, r216⟩
  replace ch212 : Chg (j3 5 14 12) g200 w201 g210 w211 := ch212
  replace o213 : Bx g210 (is 5) w211 b41 [v207, Value.int .i64 s209] := o213
  replace o214 : Nst g210 14 w211 v207 K208 := o214
  replace hj215 : KInv K208 s209 := hj215
  replace r216 : Sl g210 (isr 12 14) w211 v97 ((firstR g).1) := r216
  obtain ⟨hj215a, hj215b, hj215c⟩ := hj215.len
  clear o98 o203 o204
  refine l_nil ?_
  refine run_seq ?_
  refine run_seq ?_
  clear r216
  refine run_region rfl ?_
  refine lv (Value.int .i64 (rmayR g r)) rfl (e_move rfl) ?_
  refine lv (Value.bool (!(decide ((rmayR g r) = 0)))) rfl (e_neq (m := rmayR g r) (n := 0) rfl rfl) ?_
  refine l_nil ?_
  by_cases p16_c1 : (rmayR g r) = 0
  ·
   have hy_c1 := Y9.mk' p16_c1
   obtain ⟨hmm_c1, hrp_c1⟩ := rmay_ok p16_c1
   refine run_cond_f rfl (congrArg Bool.not (decide_eq_true p16_c1)) ?_
   refine run_skip ?_
   refine run_seq ?_
   refine run_region rfl ?_
   refine lv (v67) rfl (e_move rfl) ?_
   have C217 : Chg (inl [5, 10, 11, 12, 14]) _ _ _ _ := (ch192.l3 rfl rfl rfl).seq ((ch202.l3 rfl rfl rfl).seq (ch212.l3 rfl rfl rfl))
   replace bx63 := bx63.chg C217 (is_nl rfl)
   refine lv (Value.agg (List.toArray [Value.int .i64 g.1, g_v])) rfl (e_load_bxN (ds := [Value.int .i64 g.1, g_v]) tp24_wa rfl bx63 rfl rfl) ?_
   refine lv (r_v) rfl (e_move rfl) ?_
   replace r_g_v := r_g_v.chg C217 (is_nl rfl)
   replace r_r_v := r_r_v.chg C217 (is_nl rfl)
   refine l_op rfl ?_
   refine o_callx (e_call (vals := [Value.agg (List.toArray [Value.int .i64 g.1, g_v]), r_v]) Try.func29 bd29_wa nm29_wa rfl) (rFaces_ok w211 g g_v (r_g_v).ro r r_v (r_r_v).ro (by assumption) (by assumption)) ?_
   rintro ⟨d219, v221⟩ w218 ⟨fr220, o222⟩
   obtain ⟨g223, hg223⟩ : ∃ q, q = glue w211.heap.size g210 d219 (fun n => if n = 1 then 17 else 0) := ⟨_, rfl⟩
   have ch224 := chg_glue fr220.below g210 d219 (fun n => if n = 1 then 17 else 0)
   rw [← hg223] at ch224
   replace o222 := o222.glue (γ := g210) (ren := (fun n => if n = 1 then 17 else 0)) (k := 17) fr220.col rfl rfl
   rw [← hg223] at o222
   clear hg223
   replace r125 := (((r125.chg ch192 (isr_j3 rfl rfl rfl rfl rfl)).chg ch202 (isr_j3 rfl rfl rfl rfl rfl)).chg ch212 (isr_j3 rfl rfl rfl rfl rfl)).chg ch224 (not_no _)
   refine l_op rfl ?_
   refine o_call (v := Value.bool (decide (((facesR g r).1) = (facesS (nextS g r) r)))) (e_call (vals := [v67, v221]) Try.func57 bd57_wa nm57_wa rfl) (Lists_ok w218 ((facesR g r).1) v67 (r125).ro (facesS (nextS g r) r) v221 (o222.sl).ro) ?_
   intro w225 hb226
   replace hb226 := chg_below hb226 g223
   refine lv (Value.bool (decide (((facesR g r).1) = (facesS (nextS g r) r)))) rfl (e_move rfl) ?_
   have q153_c1 : (decide (((facesR g r).1) = (facesS (nextS g r) r))) = true := by first | rfl | exact decide_eq_true rfl | exact a9_fe | exact decide_eq_true a9_fe | exact a9_oe | exact decide_eq_true a9_oe | exact a9_ge | exact decide_eq_true a9_ge | exact a9_me | exact decide_eq_true a9_me | exact a9_ce | exact decide_eq_true a9_ce | exact a9_xe | exact decide_eq_true a9_xe | exact a9_x1 (by assumption) | exact decide_eq_true (a9_x1 (by assumption)) | exact a9_x (by assumption) | exact decide_eq_true (a9_x (by assumption)) | (rw [a9_x0 (by assumption)]; rfl) | exact hn_c1.sum | exact decide_eq_true hn_c1.sum | exact hy_c1.f | exact decide_eq_true hy_c1.f | exact hy_c1.o | exact decide_eq_true hy_c1.o | exact hy_c1.n | exact decide_eq_true hy_c1.n | exact hy_c1.m | exact decide_eq_true hy_c1.m | exact hy_c1.c | exact decide_eq_true hy_c1.c
   refine lv (v74) (want_y rfl rfl rfl q153_c1) (e_move rfl) ?_
   replace bx63 := (bx63.chg ch224 (not_no _)).chg hb226 (not_no _)
   refine lv (Value.agg (List.toArray [Value.int .i64 g.1, g_v])) (want_y rfl rfl rfl q153_c1) (e_load_bxN (ds := [Value.int .i64 g.1, g_v]) tp24_wa rfl bx63 rfl rfl) ?_
   refine lv (r_v) (want_y rfl rfl rfl q153_c1) (e_move rfl) ?_
   replace r_g_v := (r_g_v.chg ch224 (not_no _)).chg hb226 (not_no _)
   replace r_r_v := (r_r_v.chg ch224 (not_no _)).chg hb226 (not_no _)
   refine l_op (want_y rfl rfl rfl q153_c1) ?_
   refine o_callx (e_call (vals := [Value.agg (List.toArray [Value.int .i64 g.1, g_v]), r_v]) Try.func26 bd26_wa nm26_wa rfl) (rOf_ok w225 g g_v (r_g_v).ro r r_v (r_r_v).ro (by assumption) (by assumption)) ?_
   rintro ⟨d228, v230⟩ w227 ⟨fr229, o231⟩
   obtain ⟨g232, hg232⟩ : ∃ q, q = glue w225.heap.size g223 d228 (fun n => if n = 1 then 18 else 0) := ⟨_, rfl⟩
   have ch233 := chg_glue fr229.below g223 d228 (fun n => if n = 1 then 18 else 0)
   rw [← hg232] at ch233
   replace o231 := o231.glue (γ := g223) (ren := (fun n => if n = 1 then 18 else 0)) (k := 18) fr229.col rfl rfl
   rw [← hg232] at o231
   clear hg232
   replace o75 := (((((o75.chg ch192 (isr_j3 rfl rfl rfl rfl rfl)).chg ch202 (isr_j3 rfl rfl rfl rfl rfl)).chg ch212 (isr_j3 rfl rfl rfl rfl rfl)).chg ch224 (not_no _)).chg hb226 (not_no _)).chg ch233 (not_no _)
   refine l_op (want_y rfl rfl rfl q153_c1) ?_
   refine o_call (v := Value.bool (decide (((ofR g r).1) = (ofS g r)))) (e_call (vals := [v74, v230]) Try.func46 bd46_wa nm46_wa rfl) (rInts_ok w227 ((ofR g r).1) v74 (o75).ro (ofS g r) v230 (o231.flat).ro) ?_
   intro w234 hb235
   replace hb235 := chg_below hb235 g232
   refine lv (Value.bool (decide (((ofR g r).1) = (ofS g r)))) rfl (e_pick_t rfl q153_c1 rfl) ?_
   refine lv (Value.bool (decide (((ofR g r).1) = (ofS g r)))) rfl (e_move rfl) ?_
   have q160_c1 : (decide (((ofR g r).1) = (ofS g r))) = true := by first | rfl | exact decide_eq_true rfl | exact a9_fe | exact decide_eq_true a9_fe | exact a9_oe | exact decide_eq_true a9_oe | exact a9_ge | exact decide_eq_true a9_ge | exact a9_me | exact decide_eq_true a9_me | exact a9_ce | exact decide_eq_true a9_ce | exact a9_xe | exact decide_eq_true a9_xe | exact a9_x1 (by assumption) | exact decide_eq_true (a9_x1 (by assumption)) | exact a9_x (by assumption) | exact decide_eq_true (a9_x (by assumption)) | (rw [a9_x0 (by assumption)]; rfl) | exact hn_c1.sum | exact decide_eq_true hn_c1.sum | exact hy_c1.f | exact decide_eq_true hy_c1.f | exact hy_c1.o | exact decide_eq_true hy_c1.o | exact hy_c1.n | exact decide_eq_true hy_c1.n | exact hy_c1.m | exact decide_eq_true hy_c1.m | exact hy_c1.c | exact decide_eq_true hy_c1.c
   refine lv (Value.int .i64 ((genusR g r).1)) (want_y rfl rfl rfl q160_c1) (e_move rfl) ?_
   replace bx63 := (bx63.chg ch233 (not_no _)).chg hb235 (not_no _)
   refine lv (Value.agg (List.toArray [Value.int .i64 g.1, g_v])) (want_y rfl rfl rfl q160_c1) (e_load_bxN (ds := [Value.int .i64 g.1, g_v]) tp24_wa rfl bx63 rfl rfl) ?_
   refine lv (r_v) (want_y rfl rfl rfl q160_c1) (e_move rfl) ?_
   replace r_g_v := (r_g_v.chg ch233 (not_no _)).chg hb235 (not_no _)
   replace r_r_v := (r_r_v.chg ch233 (not_no _)).chg hb235 (not_no _)
   refine l_op (want_y rfl rfl rfl q160_c1) ?_
   refine o_call (v := Value.int .i64 (genusS g r)) (e_call (vals := [Value.agg (List.toArray [Value.int .i64 g.1, g_v]), r_v]) Try.func23 bd23_wa nm23_wa rfl) (rGenus_ok w234 g g_v (r_g_v).ro r r_v (r_r_v).ro (by assumption) (by assumption)) ?_
   intro w236 hb237
   replace hb237 := chg_below hb237 g232
   refine lv (Value.bool (decide (((genusR g r).1) = (genusS g r)))) (want_y rfl rfl rfl q160_c1) (e_eql (m := (genusR g r).1) (n := genusS g r) rfl rfl) ?_
   refine lv (Value.bool (decide (((genusR g r).1) = (genusS g r)))) rfl (e_pick_t rfl q160_c1 rfl) ?_
   refine lv (Value.bool (decide (((genusR g r).1) = (genusS g r)))) rfl (e_move rfl) ?_
   have q167_c1 : ((genusR g r).1) = (genusS g r) := by first | rfl | exact decide_eq_true rfl | exact a9_fe | exact decide_eq_true a9_fe | exact a9_oe | exact decide_eq_true a9_oe | exact a9_ge | exact decide_eq_true a9_ge | exact a9_me | exact decide_eq_true a9_me | exact a9_ce | exact decide_eq_true a9_ce | exact a9_xe | exact decide_eq_true a9_xe | exact a9_x1 (by assumption) | exact decide_eq_true (a9_x1 (by assumption)) | exact a9_x (by assumption) | exact decide_eq_true (a9_x (by assumption)) | (rw [a9_x0 (by assumption)]; rfl) | exact hn_c1.sum | exact decide_eq_true hn_c1.sum | exact hy_c1.f | exact decide_eq_true hy_c1.f | exact hy_c1.o | exact decide_eq_true hy_c1.o | exact hy_c1.n | exact decide_eq_true hy_c1.n | exact hy_c1.m | exact decide_eq_true hy_c1.m | exact hy_c1.c | exact decide_eq_true hy_c1.c
   refine lv (v83) (want_y rfl rfl rfl (decide_eq_true q167_c1)) (e_move rfl) ?_
   refine lv (r_v) (want_y rfl rfl rfl (decide_eq_true q167_c1)) (e_move rfl) ?_
   replace r_r_v := r_r_v.chg hb237 (not_no _)
   refine l_op (want_y rfl rfl rfl (decide_eq_true q167_c1)) ?_
   refine o_callx (e_call (vals := [r_v]) Try.func59 bd59_wa nm59_wa rfl) (rMirror_ok w236 r r_v (r_r_v).ro (by assumption)) ?_
   rintro ⟨d239, v241⟩ w238 ⟨fr240, o242⟩
   obtain ⟨g243, hg243⟩ : ∃ q, q = glue w236.heap.size g232 d239 (fun n => if n = 1 then 19 else 0) := ⟨_, rfl⟩
   have ch244 := chg_glue fr240.below g232 d239 (fun n => if n = 1 then 19 else 0)
   rw [← hg243] at ch244
   replace o242 := o242.glue (γ := g232) (ren := (fun n => if n = 1 then 19 else 0)) (k := 19) fr240.col rfl rfl
   rw [← hg243] at o242
   clear hg243
   replace r196 := (((((((r196.chg ch202 (isr_j3 rfl rfl rfl rfl rfl)).chg ch212 (isr_j3 rfl rfl rfl rfl rfl)).chg ch224 (not_no _)).chg hb226 (not_no _)).chg ch233 (not_no _)).chg hb235 (not_no _)).chg hb237 (not_no _)).chg ch244 (not_no _)
   refine l_op (want_y rfl rfl rfl (decide_eq_true q167_c1)) ?_
   refine o_call (v := Value.bool (decide (((mirrorR g r).1) = (mirrorS r)))) (e_call (vals := [v83, v241]) Try.func57 bd57_wa nm57_wa rfl) (Lists_ok w238 ((mirrorR g r).1) v83 (r196).ro (mirrorS r) v241 (o242.sl).ro) ?_
   intro w245 hb246
   replace hb246 := chg_below hb246 g243
   refine lv (Value.bool (decide (((mirrorR g r).1) = (mirrorS r)))) rfl (e_pick_t rfl (decide_eq_true q167_c1) rfl) ?_
   refine lv (Value.bool (decide (((mirrorR g r).1) = (mirrorS r)))) rfl (e_move rfl) ?_
   have q173_c1 : (decide (((mirrorR g r).1) = (mirrorS r))) = true := by first | rfl | exact decide_eq_true rfl | exact a9_fe | exact decide_eq_true a9_fe | exact a9_oe | exact decide_eq_true a9_oe | exact a9_ge | exact decide_eq_true a9_ge | exact a9_me | exact decide_eq_true a9_me | exact a9_ce | exact decide_eq_true a9_ce | exact a9_xe | exact decide_eq_true a9_xe | exact a9_x1 (by assumption) | exact decide_eq_true (a9_x1 (by assumption)) | exact a9_x (by assumption) | exact decide_eq_true (a9_x (by assumption)) | (rw [a9_x0 (by assumption)]; rfl) | exact hn_c1.sum | exact decide_eq_true hn_c1.sum | exact hy_c1.f | exact decide_eq_true hy_c1.f | exact hy_c1.o | exact decide_eq_true hy_c1.o | exact hy_c1.n | exact decide_eq_true hy_c1.n | exact hy_c1.m | exact decide_eq_true hy_c1.m | exact hy_c1.c | exact decide_eq_true hy_c1.c
   refine lv (v90) (want_y rfl rfl rfl q173_c1) (e_move rfl) ?_
   refine lv (r_v) (want_y rfl rfl rfl q173_c1) (e_move rfl) ?_
   replace r_r_v := (r_r_v.chg ch244 (not_no _)).chg hb246 (not_no _)
   refine l_op (want_y rfl rfl rfl q173_c1) ?_
   refine o_callx (e_call (vals := [r_v]) Try.func60 bd60_wa nm60_wa rfl) (rCanon_ok w245 r r_v (r_r_v).ro) ?_
   rintro ⟨d248, v250⟩ w247 ⟨fr249, o251⟩
   obtain ⟨g252, hg252⟩ : ∃ q, q = glue w245.heap.size g243 d248 (fun n => if n = 1 then 20 else 0) := ⟨_, rfl⟩
   have ch253 := chg_glue fr249.below g243 d248 (fun n => if n = 1 then 20 else 0)
   rw [← hg252] at ch253
   replace o251 := o251.glue (γ := g243) (ren := (fun n => if n = 1 then 20 else 0)) (k := 20) fr249.col rfl rfl
   rw [← hg252] at o251
   clear hg252
   replace r206 := ((((((((r206.chg ch212 (isr_j3 rfl rfl rfl rfl rfl)).chg ch224 (not_no _)).chg hb226 (not_no _)).chg ch233 (not_no _)).chg hb235 (not_no _)).chg hb237 (not_no _)).chg ch244 (not_no _)).chg hb246 (not_no _)).chg ch253 (not_no _)
   refine l_op (want_y rfl rfl rfl q173_c1) ?_
   refine o_call (v := Value.bool (decide (((canonR g r).1) = (canonS r)))) (e_call (vals := [v90, v250]) Try.func57 bd57_wa nm57_wa rfl) (Lists_ok w247 ((canonR g r).1) v90 (r206).ro (canonS r) v250 (o251.sl).ro) ?_
   intro w254 hb255
   replace hb255 := chg_below hb255 g252
   refine lv (Value.bool (decide (((canonR g r).1) = (canonS r)))) rfl (e_pick_t rfl q173_c1 rfl) ?_
   refine lv (Value.bool (decide (((canonR g r).1) = (canonS r)))) rfl (e_assign rfl) ?_
   refine l_nil ?_
   refine run_ret (vs := [Value.bool (decide (((canonR g r).1) = (canonS r)))]) Try.func16 (.tmp rfl .nil) ?_
   have C256 : Chg (inl [5, 10, 11, 12, 14]) _ _ _ _ := (ch192.l3 rfl rfl rfl).seq ((ch202.l3 rfl rfl rfl).seq ((ch212.l3 rfl rfl rfl).seq ((ch224.n).seq ((hb226.n).seq ((ch233.n).seq ((hb235.n).seq ((hb237.n).seq ((ch244.n).seq ((hb246.n).seq ((ch253.n).seq (hb255.n)))))))))))
   replace hbase := hbase.chg C256 (is_nl rfl)
   have C257 : Chg (inl []) _ _ _ _ := (hb237.n).seq ((ch244.n).seq ((hb246.n).seq ((ch253.n).seq (hb255.n))))
   replace r_g_v := r_g_v.chg C257 (is_nl rfl)
   replace r_r_v := (r_r_v.chg ch253 (not_no _)).chg hb255 (not_no _)
   replace r_keep_v := r_keep_v.chg C256 (is_nl rfl)
   replace r_to_v := r_to_v.chg C256 (is_nl rfl)
   replace bx5 := bx5.chg C256 (is_nl rfl)
   replace o19 := o19.chg C256 (is_nl rfl) (is_nl rfl)
   replace r22 := r22.chg C256 (is_nl rfl)
   replace o27 := o27.chg C256 (is_nl rfl) (is_nl rfl)
   replace r30 := r30.chg C256 (is_nl rfl)
   replace bx38 := bx38.chg C256 (is_nl rfl)
   have C258 : Chg (inl []) _ _ _ _ := (ch224.n).seq ((hb226.n).seq ((ch233.n).seq ((hb235.n).seq ((hb237.n).seq ((ch244.n).seq ((hb246.n).seq ((ch253.n).seq (hb255.n))))))))
   replace o213 := o213.chg C258 (is_nl rfl)
   replace o214 := o214.chg C258 (is_nl rfl)
   have rt259 : (decide (((canonR g r).1) = (canonS r))) = true := by
     first | rfl | exact decide_eq_true rfl | exact a9_fe | exact decide_eq_true a9_fe | exact a9_oe | exact decide_eq_true a9_oe | exact a9_ge | exact decide_eq_true a9_ge | exact a9_me | exact decide_eq_true a9_me | exact a9_ce | exact decide_eq_true a9_ce | exact a9_xe | exact decide_eq_true a9_xe | exact a9_x1 (by assumption) | exact decide_eq_true (a9_x1 (by assumption)) | exact a9_x (by assumption) | exact decide_eq_true (a9_x (by assumption)) | (rw [a9_x0 (by assumption)]; rfl) | exact hn_c1.sum | exact decide_eq_true hn_c1.sum | exact hy_c1.f | exact decide_eq_true hy_c1.f | exact hy_c1.o | exact decide_eq_true hy_c1.o | exact hy_c1.n | exact decide_eq_true hy_c1.n | exact hy_c1.m | exact decide_eq_true hy_c1.m | exact hy_c1.c | exact decide_eq_true hy_c1.c
   refine ⟨(v207, K208, s209, g252), (congrArg (fun b => Ending.returned (Value.bool b)) rt259), hbase, r_g_v, r_r_v, r_keep_v, r_to_v, bx5, o19, r22, o27, r30, bx38, o213, o214, ?_⟩
   show KInv K208 s209
   first | assumption | exact KInv.nil | exact (KInv.add (by first | assumption | exact KInv.nil) (by omega) (by omega) (by omega))
  have hn_c1 := N9.mk' p16_c1
  have hnn_c1 := hn_c1.n
  refine run_cond_t rfl (congrArg Bool.not (decide_eq_false p16_c1)) ?_
  refine run_seq ?_
  clear bx63
  refine run_region rfl ?_
  refine lv (v67) rfl (e_move rfl) ?_
  replace r125 := ((r125.chg ch192 (isr_j3 rfl rfl rfl rfl rfl)).chg ch202 (isr_j3 rfl rfl rfl rfl rfl)).chg ch212 (isr_j3 rfl rfl rfl rfl rfl)
  have len260 := (r125).small
  refine lv (Value.int .i64 (List.length ((facesR g r).1) : Int)) rfl (e_len Try.underlying25 rfl r125) ?_
  refine lv (v74) rfl (e_move rfl) ?_
  replace o75 := ((o75.chg ch192 (isr_j3 rfl rfl rfl rfl rfl)).chg ch202 (isr_j3 rfl rfl rfl rfl rfl)).chg ch212 (isr_j3 rfl rfl rfl rfl rfl)
  have len261 := (o75).small
  refine lv (Value.int .i64 (List.length ((ofR g r).1) : Int)) rfl (e_len Try.underlying27 rfl o75) ?_
  refine lv (Value.int .i64 ((List.length ((facesR g r).1) : Int) + (List.length ((ofR g r).1) : Int))) rfl (e_add (m := (List.length ((facesR g r).1) : Int)) (n := (List.length ((ofR g r).1) : Int)) rfl rfl (by omega)) ?_
  refine lv (Value.int .i64 ((genusR g r).1)) rfl (e_move rfl) ?_
  refine lv (Value.int .i64 (((List.length ((facesR g r).1) : Int) + (List.length ((ofR g r).1) : Int)) + ((genusR g r).1))) rfl (e_add (m := (List.length ((facesR g r).1) : Int) + (List.length ((ofR g r).1) : Int)) (n := (genusR g r).1) rfl rfl (by omega)) ?_
  refine lv (v83) rfl (e_move rfl) ?_
  replace r196 := (r196.chg ch202 (isr_j3 rfl rfl rfl rfl rfl)).chg ch212 (isr_j3 rfl rfl rfl rfl rfl)
  have len262 := (r196).small
  refine lv (Value.int .i64 (List.length ((mirrorR g r).1) : Int)) rfl (e_len Try.underlying26 rfl r196) ?_
  refine lv (Value.int .i64 ((((List.length ((facesR g r).1) : Int) + (List.length ((ofR g r).1) : Int)) + ((genusR g r).1)) + (List.length ((mirrorR g r).1) : Int))) rfl (e_add (m := ((List.length ((facesR g r).1) : Int) + (List.length ((ofR g r).1) : Int)) + ((genusR g r).1)) (n := (List.length ((mirrorR g r).1) : Int)) rfl rfl (by omega)) ?_
  refine lv (v90) rfl (e_move rfl) ?_
  replace r206 := r206.chg ch212 (isr_j3 rfl rfl rfl rfl rfl)
  have len263 := (r206).small
  refine lv (Value.int .i64 (List.length ((canonR g r).1) : Int)) rfl (e_len Try.underlying26 rfl r206) ?_
  refine lv (Value.int .i64 (((((List.length ((facesR g r).1) : Int) + (List.length ((ofR g r).1) : Int)) + ((genusR g r).1)) + (List.length ((mirrorR g r).1) : Int)) + (List.length ((canonR g r).1) : Int))) rfl (e_add (m := (((List.length ((facesR g r).1) : Int) + (List.length ((ofR g r).1) : Int)) + ((genusR g r).1)) + (List.length ((mirrorR g r).1) : Int)) (n := (List.length ((canonR g r).1) : Int)) rfl rfl (by omega)) ?_
  refine lv (Value.bool (decide ((((((List.length ((facesR g r).1) : Int) + (List.length ((ofR g r).1) : Int)) + ((genusR g r).1)) + (List.length ((mirrorR g r).1) : Int)) + (List.length ((canonR g r).1) : Int)) = 0))) rfl (e_eql (m := ((((List.length ((facesR g r).1) : Int) + (List.length ((ofR g r).1) : Int)) + ((genusR g r).1)) + (List.length ((mirrorR g r).1) : Int)) + (List.length ((canonR g r).1) : Int)) (n := 0) rfl rfl) ?_
  refine lv (Value.bool (decide ((((((List.length ((facesR g r).1) : Int) + (List.length ((ofR g r).1) : Int)) + ((genusR g r).1)) + (List.length ((mirrorR g r).1) : Int)) + (List.length ((canonR g r).1) : Int)) = 0))) rfl (e_assign rfl) ?_
  refine l_nil ?_
  refine run_ret (vs := [Value.bool (decide ((((((List.length ((facesR g r).1) : Int) + (List.length ((ofR g r).1) : Int)) + ((genusR g r).1)) + (List.length ((mirrorR g r).1) : Int)) + (List.length ((canonR g r).1) : Int)) = 0))]) Try.func16 (.tmp rfl .nil) ?_
  have C264 : Chg (inl [5, 10, 11, 12, 14]) _ _ _ _ := (ch192.l3 rfl rfl rfl).seq ((ch202.l3 rfl rfl rfl).seq (ch212.l3 rfl rfl rfl))
  replace hbase := hbase.chg C264 (is_nl rfl)
  replace r_g_v := r_g_v.chg C264 (is_nl rfl)
  replace r_r_v := r_r_v.chg C264 (is_nl rfl)
  replace r_keep_v := r_keep_v.chg C264 (is_nl rfl)
  replace r_to_v := r_to_v.chg C264 (is_nl rfl)
  replace bx5 := bx5.chg C264 (is_nl rfl)
  replace o19 := o19.chg C264 (is_nl rfl) (is_nl rfl)
  replace r22 := r22.chg C264 (is_nl rfl)
  replace o27 := o27.chg C264 (is_nl rfl) (is_nl rfl)
  replace r30 := r30.chg C264 (is_nl rfl)
  replace bx38 := bx38.chg C264 (is_nl rfl)
  have rt265 : decide ((((((List.length ((facesR g r).1) : Int) + (List.length ((ofR g r).1) : Int)) + ((genusR g r).1)) + (List.length ((mirrorR g r).1) : Int)) + (List.length ((canonR g r).1) : Int)) = 0) = true := by
    first | rfl | exact decide_eq_true rfl | exact a9_fe | exact decide_eq_true a9_fe | exact a9_oe | exact decide_eq_true a9_oe | exact a9_ge | exact decide_eq_true a9_ge | exact a9_me | exact decide_eq_true a9_me | exact a9_ce | exact decide_eq_true a9_ce | exact a9_xe | exact decide_eq_true a9_xe | exact a9_x1 (by assumption) | exact decide_eq_true (a9_x1 (by assumption)) | exact a9_x (by assumption) | exact decide_eq_true (a9_x (by assumption)) | (rw [a9_x0 (by assumption)]; rfl) | exact hn_c1.sum | exact decide_eq_true hn_c1.sum | exact hy_c1.f | exact decide_eq_true hy_c1.f | exact hy_c1.o | exact decide_eq_true hy_c1.o | exact hy_c1.n | exact decide_eq_true hy_c1.n | exact hy_c1.m | exact decide_eq_true hy_c1.m | exact hy_c1.c | exact decide_eq_true hy_c1.c
  refine ⟨(v207, K208, s209, g210), (congrArg (fun b => Ending.returned (Value.bool b)) rt265), hbase, r_g_v, r_r_v, r_keep_v, r_to_v, bx5, o19, r22, o27, r30, bx38, o213, o214, ?_⟩
  show KInv K208 s209
  first | assumption | exact KInv.nil | exact (KInv.add (by first | assumption | exact KInv.nil) (by omega) (by omega) (by omega))
 refine lv (Value.int .i64 ((firstR g).2)) (want_y rfl rfl rfl (congrArg Bool.not (decide_eq_false q93_c1))) (e_move rfl) ?_
 refine lv (Value.bool (!(decide (((firstR g).2) = 1)))) (want_y rfl rfl rfl (congrArg Bool.not (decide_eq_false q93_c1))) (e_neq (m := (firstR g).2) (n := 1) rfl rfl) ?_
 refine lv (Value.bool (!(decide (((firstR g).2) = 1)))) (want_y rfl rfl rfl (congrArg Bool.not (decide_eq_true q90_c1))) (e_pick_t rfl (congrArg Bool.not (decide_eq_false q93_c1)) rfl) ?_
 refine lv (Value.bool (!(decide (((firstR g).2) = 1)))) rfl (e_pick_f rfl (congrArg Bool.not (decide_eq_true q90_c1)) rfl) ?_
 refine l_nil ?_
 have p7_c1 : ((firstR g).2) = 1 := by first | rfl | exact decide_eq_true rfl | exact a9_fe | exact decide_eq_true a9_fe | exact a9_oe | exact decide_eq_true a9_oe | exact a9_ge | exact decide_eq_true a9_ge | exact a9_me | exact decide_eq_true a9_me | exact a9_ce | exact decide_eq_true a9_ce | exact a9_xe | exact decide_eq_true a9_xe | exact a9_x1 (by assumption) | exact decide_eq_true (a9_x1 (by assumption)) | exact a9_x (by assumption) | exact decide_eq_true (a9_x (by assumption)) | (rw [a9_x0 (by assumption)]; rfl) | exact hn_c1.sum | exact decide_eq_true hn_c1.sum | exact hy_c1.f | exact decide_eq_true hy_c1.f | exact hy_c1.o | exact decide_eq_true hy_c1.o | exact hy_c1.n | exact decide_eq_true hy_c1.n | exact hy_c1.m | exact decide_eq_true hy_c1.m | exact hy_c1.c | exact decide_eq_true hy_c1.c
 refine run_cond_f rfl (congrArg Bool.not (decide_eq_true p7_c1)) ?_
 refine run_skip ?_
 refine run_seq ?_
 refine run_seq ?_
 refine run_region rfl ?_
 refine lv (Value.int .i64 ((firstR g).2)) rfl (e_move rfl) ?_
 refine lv (Value.bool (decide (((firstR g).2) = 0))) rfl (e_eql (m := (firstR g).2) (n := 0) rfl rfl) ?_
 refine lv (Value.bool (decide (((firstR g).2) = 0))) rfl (e_move rfl) ?_
 refine l_skip (want_n rfl rfl rfl (decide_eq_false q93_c1)) ?_
 refine l_skip (want_n rfl rfl rfl (decide_eq_false q93_c1)) ?_
 refine l_skip (want_n rfl rfl rfl (decide_eq_false q93_c1)) ?_
 refine l_skip (want_n rfl rfl rfl (decide_eq_false q93_c1)) ?_
 refine l_skip (want_n rfl rfl rfl (decide_eq_false q93_c1)) ?_
 refine lv (Value.bool false) rfl (e_pick_f rfl (decide_eq_false q93_c1) rfl) ?_
 refine lv (Value.bool false) rfl (e_move rfl) ?_
 refine lv (Value.int .i64 ((firstR g).2)) (want_y rfl rfl rfl rfl) (e_move rfl) ?_
 refine lv (Value.bool (!(decide (((firstR g).2) = 0)))) (want_y rfl rfl rfl rfl) (e_neq (m := (firstR g).2) (n := 0) rfl rfl) ?_
 refine lv (Value.bool (!(decide (((firstR g).2) = 0)))) (want_y rfl rfl rfl rfl) (e_move rfl) ?_
 refine lv (v97) (want_y rfl rfl rfl (congrArg Bool.not (decide_eq_false q93_c1))) (e_move rfl) ?_
 replace o98 := o98.chg hb104 (not_no _)
 have len266 := (o98.sl).small
 refine lv (Value.int .i64 (List.length ((firstR g).1) : Int)) (want_y rfl rfl rfl (congrArg Bool.not (decide_eq_false q93_c1))) (e_len Try.underlying26 rfl o98.sl) ?_
 refine lv (Value.bool (!(decide ((List.length ((firstR g).1) : Int) = 0)))) (want_y rfl rfl rfl (congrArg Bool.not (decide_eq_false q93_c1))) (e_neq (m := (List.length ((firstR g).1) : Int)) (n := 0) rfl rfl) ?_
 refine lv (Value.bool (!(decide ((List.length ((firstR g).1) : Int) = 0)))) (want_y rfl rfl rfl rfl) (e_pick_t rfl (congrArg Bool.not (decide_eq_false q93_c1)) rfl) ?_
 refine lv (Value.bool (!(decide ((List.length ((firstR g).1) : Int) = 0)))) rfl (e_pick_f rfl rfl rfl) ?_
 refine l_nil ?_
 have p9_c1 : (List.length ((firstR g).1) : Int) = 0 := by first | rfl | exact decide_eq_true rfl | exact a9_fe | exact decide_eq_true a9_fe | exact a9_oe | exact decide_eq_true a9_oe | exact a9_ge | exact decide_eq_true a9_ge | exact a9_me | exact decide_eq_true a9_me | exact a9_ce | exact decide_eq_true a9_ce | exact a9_xe | exact decide_eq_true a9_xe | exact a9_x1 (by assumption) | exact decide_eq_true (a9_x1 (by assumption)) | exact a9_x (by assumption) | exact decide_eq_true (a9_x (by assumption)) | (rw [a9_x0 (by assumption)]; rfl) | exact hn_c1.sum | exact decide_eq_true hn_c1.sum | exact hy_c1.f | exact decide_eq_true hy_c1.f | exact hy_c1.o | exact decide_eq_true hy_c1.o | exact hy_c1.n | exact decide_eq_true hy_c1.n | exact hy_c1.m | exact decide_eq_true hy_c1.m | exact hy_c1.c | exact decide_eq_true hy_c1.c
 refine run_cond_f rfl (congrArg Bool.not (decide_eq_true p9_c1)) ?_
 refine run_skip ?_
 refine run_seq ?_
 refine run_region rfl ?_
 refine lv (Value.pointer (some ⟨b41, 0, none⟩)) rfl (e_move rfl) ?_
 refine lv (v67) rfl (e_move rfl) ?_
 refine l_op rfl ?_
 have C267 : Chg (inl []) _ _ _ _ := (ch55.n).seq ((ch60.n).seq ((ch70.n).seq ((ch77.n).seq ((hb79.n).seq ((ch86.n).seq ((ch93.n).seq ((ch100.n).seq (hb104.n))))))))
 replace o_b_0 := o_b_0.chg C267 (is_nl rfl)
 replace bx43 := bx43.chg C267 (is_nl rfl)
 have C268 : Chg (inl []) _ _ _ _ := (ch77.n).seq ((hb79.n).seq ((ch86.n).seq ((ch93.n).seq ((ch100.n).seq (hb104.n)))))
 replace o68 := o68.chg C268 (is_nl rfl)
 refine o_callx (σ := Value × List (List Int) × Int × Cmap) (V := fun _ => Value.tuple (List.toArray [])) (e_call (vals := [Value.pointer (some ⟨b41, 0, none⟩), v67]) Try.func37 bd37_wa nm37_wa rfl) (KeepAll_lift (γ := g99) (q := 5) (i := 14) (k := 8) (K := b_0) (s := b_1) bx43 o_b_0 o68 (by first | assumption | exact KInv.nil) (by omega) rfl rfl rfl) ?_
 rintro ⟨v269, K270, s271, g272⟩ w273 ⟨ch274, o275, o276, hj277, r278⟩
 replace ch274 : Chg (j3 5 14 8) g99 w103 g272 w273 := ch274
 replace o275 : Bx g272 (is 5) w273 b41 [v269, Value.int .i64 s271] := o275
 replace o276 : Nst g272 14 w273 v269 K270 := o276
 replace hj277 : KInv K270 s271 := hj277
 replace r278 : Sl g272 (isr 8 14) w273 v67 ((facesR g r).1) := r278
 obtain ⟨hj277a, hj277b, hj277c⟩ := hj277.len
 clear bx43 o_b_0 o68
 refine l_nil ?_
 refine run_seq ?_
 refine run_region rfl ?_
 refine lv (Value.pointer (some ⟨b41, 0, none⟩)) rfl (e_move rfl) ?_
 refine lv (v74) rfl (e_move rfl) ?_
 refine l_op rfl ?_
 have C281 : Chg (inl [5, 8, 14]) _ _ _ _ := (hb79.n).seq ((ch86.n).seq ((ch93.n).seq ((ch100.n).seq ((hb104.n).seq (ch274.l3 rfl rfl rfl)))))
 replace o75 := o75.chg C281 (is_nl rfl) (is_nl rfl)
 obtain ⟨c279, hv280⟩ := vc_of (u := v74) (sl_one o75.flat)
 refine o_buildSlice (α := Vc) g272 (is 15) (is 15) (15, 0) rfl [c279] Try.underlying25 tp27_wa (by decide) (by decide) (vs := [(0, v74)]) rfl rfl (.cons (vc_els hv280 (sl_cells1 o75.flat)) .nil) ?_
 intro g282 w283 v284 ch285 o286
 refine l_op rfl ?_
 refine o_callx (σ := Value × (List (List Int)) × Int × Cmap) (V := fun ⟨b_0_c3_v, b_0_c3, b_1_c3, gq⟩ => Value.tuple (List.toArray [])) (S := fun ⟨b_0_c3_v, b_0_c3, b_1_c3, gq⟩ w => Base w0 gq w ∧ Sl gq (is 0) w g_v g.2 ∧ Sl gq (is 0) w r_v r ∧ Sl gq (is 0) w keep_v keep ∧ Sl gq (is 0) w to_v to ∧ Bx gq (is 1) w b3 [Value.int .i64 g.1, g_v] ∧ Ow gq (is 2) (is 2) w (upV v18) (g.2 ++ [((-7 : Int), (7 : Int))]) ∧ Sl gq (is 2) w v18 g.2 ∧ Ow gq (is 3) (is 3) w (upV v26) (TWL r) ∧ Sl gq (is 3) w v26 r ∧ Bx gq (is 4) w b33 [Value.int .i64 g.1, v18] ∧ Bx gq (is 7) w b61 [Value.int .i64 g.1, g_v] ∧ Sl gq (isr 9 14) w v74 ((ofR g r).1) ∧ Nst gq 10 w v83 ((mirrorR g r).1) ∧ Nst gq 11 w v90 ((canonR g r).1) ∧ Nst gq 12 w v97 ((firstR g).1) ∧ Bx gq (is 5) w b41 [b_0_c3_v, Value.int .i64 b_1_c3] ∧ Sl gq (isr 8 14) w v67 ((facesR g r).1) ∧ Ow gq (is 15) (is 15) w v284 ([c279]) ∧ Nst gq 14 w b_0_c3_v b_0_c3 ∧ (KInv b_0_c3 b_1_c3)) (e_call (vals := [Value.pointer (some ⟨b41, 0, none⟩), v284]) Try.func38 bd38_wa nm38_wa rfl) ?_ ?_
 ·
  refine calls_of_run Try.func38 rfl (Nat.le_of_ble_eq_true rfl) ?_
  replace o276 := o276.chg ch285 (not_no _)
  replace o75 := o75.chg ch285 (not_no _) (not_no _)
  refine run_seq ?_
  refine run_region rfl ?_
  refine lv (Value.int .i64 0) rfl (e_assign rfl) ?_
  refine l_nil ?_
  refine run_block ?_
  refine run_loop0 ?_
  refine run_seq ?_
  refine run_seq ?_
  refine run_region rfl ?_
  refine lv (Value.int .i64 0) rfl (e_move rfl) ?_
  refine lv (v284) rfl (e_move rfl) ?_
  refine lv (Value.int .i64 1) rfl (e_len (α := Vc) (xs := [c279]) Try.underlying25 rfl o286.flat) ?_
  refine lv (Value.bool true) rfl (e_lss (m := 0) (n := 1) rfl rfl) ?_
  refine l_nil ?_
  refine run_cond_t rfl rfl ?_
  refine run_skip ?_
  refine run_seq ?_
  refine run_block ?_
  refine run_seq ?_
  refine run_mid [false, true, false, false, false] (σ := Value × (List (List Int)) × Int × Cmap) (fun ⟨b_0_j6_v, b_0_j6, b_1_j6, gq⟩ f w => Base w0 gq w ∧ f 0 = Value.pointer (some ⟨b41, 0, none⟩) ∧ f 1 = v284 ∧ f 4 = Value.int .i64 0 ∧ Sl gq (is 0) w g_v g.2 ∧ Sl gq (is 0) w r_v r ∧ Sl gq (is 0) w keep_v keep ∧ Sl gq (is 0) w to_v to ∧ Bx gq (is 1) w b3 [Value.int .i64 g.1, g_v] ∧ Ow gq (is 2) (is 2) w (upV v18) (g.2 ++ [((-7 : Int), (7 : Int))]) ∧ Sl gq (is 2) w v18 g.2 ∧ Ow gq (is 3) (is 3) w (upV v26) (TWL r) ∧ Sl gq (is 3) w v26 r ∧ Bx gq (is 4) w b33 [Value.int .i64 g.1, v18] ∧ Bx gq (is 7) w b61 [Value.int .i64 g.1, g_v] ∧ Sl gq (isr 9 14) w v74 ((ofR g r).1) ∧ Nst gq 10 w v83 ((mirrorR g r).1) ∧ Nst gq 11 w v90 ((canonR g r).1) ∧ Nst gq 12 w v97 ((firstR g).1) ∧ Bx gq (is 5) w b41 [b_0_j6_v, Value.int .i64 b_1_j6] ∧ Sl gq (isr 8 14) w v67 ((facesR g r).1) ∧ Ow gq (is 15) (is 15) w v284 ([c279]) ∧ Nst gq 14 w b_0_j6_v b_0_j6 ∧ (KInv b_0_j6 b_1_j6)) ?_ ?_
  ·
   intro mid_j6
   refine region_q g282 rfl mixed_wa (by kernel_rfl) ?_
   intro w288 ch287
   refine q_val (v := v284) rfl (fun w' hw' => e_move rfl) ?_
   refine q_val (v := Value.int .i64 0) rfl (fun w' hw' => e_move rfl) ?_
   replace o75 := o75.chg ch287 (not_no _) (not_no _)
   replace o286 := o286.chg ch287 (not_no _) (not_no _)
   refine q_val (v := Value.pointer (some (eAddr v284 1 (Int.toNat 0)))) rfl (fun w' hw' => e_indexAddr (α := List Int) (xs := [(ofR g r).1]) (v := v284) (i := 0) Try.underlying25 rfl rfl ((vc_sl o286 (VcR.consv hv280 (o75.flat).ro VcR.nil)).bel hw') rfl (by omega) (by first | omega | (simp only [List.length_set, List.length_append, List.length_cons, List.length_nil, List.length_replicate, List.length_map, List.length_take, List.length_drop]; omega) | (simp; done) | (simp; omega))) ?_
   refine q_val (v := v74) rfl (fun w' hw' => e_load1 tp27_wa rfl (ow_atv hv280 (o286.bel hw') rfl)) ?_
   have len289 := (o75.flat).small
   refine q_val (v := Value.int .i64 (List.length ((ofR g r).1) : Int)) rfl (fun w' hw' => e_len Try.underlying27 rfl (o75.flat.bel hw')) ?_
   refine q_val (v := v284) rfl (fun w' hw' => e_move rfl) ?_
   refine q_val (v := Value.int .i64 0) rfl (fun w' hw' => e_move rfl) ?_
   refine q_val (v := Value.pointer (some (eAddr v284 1 (Int.toNat 0)))) rfl (fun w' hw' => e_indexAddr (α := List Int) (xs := [(ofR g r).1]) (v := v284) (i := 0) Try.underlying25 rfl rfl ((vc_sl o286 (VcR.consv hv280 (o75.flat).ro VcR.nil)).bel hw') rfl (by omega) (by first | omega | (simp only [List.length_set, List.length_append, List.length_cons, List.length_nil, List.length_replicate, List.length_map, List.length_take, List.length_drop]; omega) | (simp; done) | (simp; omega))) ?_
   refine q_val (v := v74) rfl (fun w' hw' => e_load1 tp27_wa rfl (ow_atv hv280 (o286.bel hw') rfl)) ?_
   have cap290 := Sl.cap o75.flat
   refine q_val (v := Value.int .i64 (sCap v74 : Int)) rfl (fun w' hw' => e_cap Try.underlying27 rfl (o75.flat.bel hw')) ?_
   refine q_call (v := Value.int .i64 (min (sCap v74 : Int) ((List.length ((ofR g r).1) : Int) + 2000))) rfl (fun w' hw' => e_call (vals := [Value.int .i64 (List.length ((ofR g r).1) : Int), Value.int .i64 (sCap v74 : Int)]) Try.func65 bd65_wa nm65_wa rfl) (fun w' hw' => (Room_ok w' (List.length ((ofR g r).1) : Int) (sCap v74 : Int) (by omega)).mono fun e w2 h2 => ⟨h2.1, hw'.trans (h2.2.mono hw'.size)⟩) ?_
   refine q_val (v := Value.int .i64 (min (sCap v74 : Int) ((List.length ((ofR g r).1) : Int) + 2000))) rfl (fun w' hw' => e_assign rfl) ?_
   refine q_nil ?_
   intro w291 hc292
   replace hc292 := chg_below hc292 g282
   refine run_seq ?_
   refine run_region rfl ?_
   refine lv (Value.int .i64 (min (sCap v74 : Int) ((List.length ((ofR g r).1) : Int) + 2000))) rfl (e_move rfl) ?_
   refine lv (Value.bool (decide (0 < (min (sCap v74 : Int) ((List.length ((ofR g r).1) : Int) + 2000))))) rfl (e_gtr (m := min (sCap v74 : Int) ((List.length ((ofR g r).1) : Int) + 2000)) (n := 0) rfl rfl) ?_
   refine lv (Value.bool (decide (0 < (min (sCap v74 : Int) ((List.length ((ofR g r).1) : Int) + 2000))))) rfl (e_move rfl) ?_
   by_cases q25_c3 : 0 < (min (sCap v74 : Int) ((List.length ((ofR g r).1) : Int) + 2000))
   ·
    refine lv (Value.pointer (some ⟨b41, 0, none⟩)) (want_y rfl rfl rfl (decide_eq_true q25_c3)) (e_move rfl) ?_
    refine lv (Value.pointer (some ⟨b41, 0, none⟩)) (want_y rfl rfl rfl (decide_eq_true q25_c3)) (e_nilCheck rfl) ?_
    refine lv (Value.pointer (some ⟨b41, 1, none⟩)) (want_y rfl rfl rfl (decide_eq_true q25_c3)) (e_fieldAddr Try.underlying36 rfl rfl rfl rfl) ?_
    have C293 : Chg (inl []) _ _ _ _ := (ch285.n).seq ((ch287.n).seq (hc292.n))
    replace o275 := o275.chg C293 (is_nl rfl)
    refine lv (Value.int .i64 s271) (want_y rfl rfl rfl (decide_eq_true q25_c3)) (e_load_bx1 tp3_wa rfl o275 rfl) ?_
    refine lv (Value.int .i64 (min (sCap v74 : Int) ((List.length ((ofR g r).1) : Int) + 2000))) (want_y rfl rfl rfl (decide_eq_true q25_c3)) (e_move rfl) ?_
    refine lv (Value.int .i64 (s271 + (min (sCap v74 : Int) ((List.length ((ofR g r).1) : Int) + 2000)))) (want_y rfl rfl rfl (decide_eq_true q25_c3)) (e_add (m := s271) (n := min (sCap v74 : Int) ((List.length ((ofR g r).1) : Int) + 2000)) rfl rfl (by omega)) ?_
    refine lv (Value.bool (decide ((s271 + (min (sCap v74 : Int) ((List.length ((ofR g r).1) : Int) + 2000))) ≤ 1048576))) (want_y rfl rfl rfl (decide_eq_true q25_c3)) (e_leq (m := s271 + (min (sCap v74 : Int) ((List.length ((ofR g r).1) : Int) + 2000))) (n := 1048576) rfl rfl) ?_
    refine lv (Value.bool (decide ((s271 + (min (sCap v74 : Int) ((List.length ((ofR g r).1) : Int) + 2000))) ≤ 1048576))) rfl (e_pick_t rfl (decide_eq_true q25_c3) rfl) ?_
    refine l_nil ?_
    by_cases p4_c3 : (s271 + (min (sCap v74 : Int) ((List.length ((ofR g r).1) : Int) + 2000))) ≤ 1048576
    ·
     refine run_cond_t rfl (decide_eq_true p4_c3) ?_
     refine run_seq ?_
     refine run_region rfl ?_
     refine lv (Value.pointer (some ⟨b41, 0, none⟩)) rfl (e_move rfl) ?_
     refine lv (Value.pointer (some ⟨b41, 0, none⟩)) rfl (e_move rfl) ?_
     refine lv (Value.pointer (some ⟨b41, 0, none⟩)) rfl (e_nilCheck rfl) ?_
     refine lv (Value.pointer (some ⟨b41, 1, none⟩)) rfl (e_fieldAddr Try.underlying36 rfl rfl rfl rfl) ?_
     refine lv (Value.int .i64 s271) rfl (e_load_bx1 tp3_wa rfl o275 rfl) ?_
     refine lv (Value.int .i64 (min (sCap v74 : Int) ((List.length ((ofR g r).1) : Int) + 2000))) rfl (e_move rfl) ?_
     refine lv (Value.int .i64 (s271 + (min (sCap v74 : Int) ((List.length ((ofR g r).1) : Int) + 2000)))) rfl (e_add (m := s271) (n := min (sCap v74 : Int) ((List.length ((ofR g r).1) : Int) + 2000)) rfl rfl (by omega)) ?_
     refine lv (Value.pointer (some ⟨b41, 0, none⟩)) rfl (e_nilCheck rfl) ?_
     refine lv (Value.pointer (some ⟨b41, 1, none⟩)) rfl (e_fieldAddr Try.underlying36 rfl rfl rfl rfl) ?_
     refine l_op rfl ?_
     refine o_store_bx (cs' := [v269, Value.int .i64 (s271 + (min (sCap v74 : Int) ((List.length ((ofR g r).1) : Int) + 2000)))]) tp3_wa rfl rfl o275 rfl (Nat.le_of_ble_eq_true rfl) (AllOne.all (.cons rfl .nil)) rfl ?_
     intro w294 ch295 bx296
     clear o275
     refine l_nil ?_
     refine run_region_x g282 [0, 1, 2, 3, 4, 5, 6, 7, 8, 11, 12] mixed_wa ?_
     intro w298 ch297
     refine x_pure (v := Value.pointer (some ⟨b41, 0, none⟩)) 0 rfl (by kernel_rfl) (by kernel_rfl) rfl (fun w => e_move rfl) ?_
     refine x_pure (v := Value.pointer (some ⟨b41, 0, none⟩)) 1 rfl (by kernel_rfl) (by kernel_rfl) rfl (fun w => e_move rfl) ?_
     refine x_pure (v := Value.pointer (some ⟨b41, 0, none⟩)) 2 rfl (by kernel_rfl) (by kernel_rfl) rfl (fun w => e_nilCheck rfl) ?_
     refine x_pure (v := Value.pointer (some ⟨b41, 0, none⟩)) 3 rfl (by kernel_rfl) (by kernel_rfl) rfl (fun w => e_fieldAddr Try.underlying36 rfl rfl rfl rfl) ?_
     replace bx296 := bx296.chg ch297 (not_no _)
     refine x_held (v := v269) 4 [3, 2, 1, 0, 5, 6, 7, 8, 9] rfl (by kernel_rfl) (by kernel_rfl) rfl (fun w' hw' => e_load_bx1 tp25_wa rfl (bx296.bel hw') rfl) ?_
     refine x_pure (v := v284) 5 rfl (by kernel_rfl) (by kernel_rfl) rfl (fun w => e_move rfl) ?_
     refine x_pure (v := Value.int .i64 0) 6 rfl (by kernel_rfl) (by kernel_rfl) rfl (fun w => e_move rfl) ?_
     have C299 : Chg (inl [5]) _ _ _ _ := (hc292.n).seq ((ch295.l rfl).seq (ch297.n))
     replace o75 := o75.chg C299 (is_nl rfl) (is_nl rfl)
     replace o286 := o286.chg C299 (is_nl rfl) (is_nl rfl)
     refine x_val (v := Value.pointer (some (eAddr v284 1 (Int.toNat 0)))) 7 [6, 5, 4, 3, 2, 1, 0] rfl (by kernel_rfl) (by kernel_rfl) rfl (e_indexAddr (α := List Int) (xs := [(ofR g r).1]) (v := v284) (i := 0) Try.underlying25 rfl rfl (vc_sl o286 (VcR.consv hv280 (o75.flat).ro VcR.nil)) rfl (by omega) (by first | omega | (simp only [List.length_set, List.length_append, List.length_cons, List.length_nil, List.length_replicate, List.length_map, List.length_take, List.length_drop]; omega) | (simp; done) | (simp; omega))) ?_
     refine x_val (v := v74) 8 [7, 6, 5, 4, 3, 2, 1, 0] rfl (by kernel_rfl) (by kernel_rfl) rfl (e_load1 tp27_wa rfl (ow_atv hv280 o286 rfl)) ?_
     refine x_one 9 rfl (by kernel_rfl) rfl ?_
     obtain ⟨c300, hv301⟩ := vc_of (u := v74) (sl_one o75.flat)
     refine o_buildSlice (α := Vc) g282 (is 21) (is 21) (21, 0) rfl [c300] Try.underlying25 tp27_wa (by decide) (by decide) (vs := [(0, v74)]) rfl rfl (.cons (vc_els hv301 (sl_cells1 o75.flat)) .nil) ?_
     intro g302 w303 v304 ch305 o306
     refine x_one 10 rfl (by kernel_rfl) rfl ?_
     have C307 : Chg (inl [5]) _ _ _ _ := (ch287.n).seq ((hc292.n).seq ((ch295.l rfl).seq ((ch297.n).seq (ch305.n))))
     replace o276 := o276.chg C307 (is_nl rfl)
     replace o75 := o75.chg ch305 (not_no _) (not_no _)
     refine o_append_nst hv301 (α := Int) (xss := K270) (i := 14) (γ := g302) Try.underlying25 tp27_wa rfl rfl rfl o276 (o306.flat) o75 rfl (by decide) (by first | omega | (simp; done) | (simp; omega)) ?_
     intro g308 w309 v310 ch311 o312 r313
     clear o75 o276
     refine x_pure (v := Value.pointer (some ⟨b41, 0, none⟩)) 11 rfl (by kernel_rfl) (by kernel_rfl) rfl (fun w => e_nilCheck rfl) ?_
     refine x_pure (v := Value.pointer (some ⟨b41, 0, none⟩)) 12 rfl (by kernel_rfl) (by kernel_rfl) rfl (fun w => e_fieldAddr Try.underlying36 rfl rfl rfl rfl) ?_
     refine x_one 13 rfl (by kernel_rfl) rfl ?_
     replace bx296 := (bx296.chg ch305 (not_no _)).chg ch311 (is_neix rfl rfl)
     refine o_store_bx1 (cs' := [v310, Value.int .i64 (s271 + (min (sCap v74 : Int) ((List.length ((ofR g r).1) : Int) + 2000)))]) tp25_wa rfl rfl bx296 (sl_cells1 o312.sl) (Nat.le_of_ble_eq_true rfl) (sl_one o312.sl) rfl ?_
     intro w314 ch315 bx316
     clear bx296
     refine x_nil (by kernel_rfl) ?_
     refine run_inBlock ?_
     clear o306
     have C317 : Chg (inl [5, 8, 9, 14]) _ _ _ _ := (ch55.n).seq ((ch60.n).seq ((ch70.n).seq ((ch77.n).seq ((hb79.n).seq ((ch86.n).seq ((ch93.n).seq ((ch100.n).seq ((hb104.n).seq ((ch274.l3 rfl rfl rfl).seq ((ch285.n).seq ((ch287.n).seq ((hc292.n).seq ((ch295.l rfl).seq ((ch297.n).seq ((ch305.n).seq ((ch311.lx rfl rfl).seq (ch315.l rfl)))))))))))))))))
     replace hbase := hbase.chg C317 (is_nl rfl)
     have C318 : Chg (inl [5, 8, 9, 14]) _ _ _ _ := (hb104.n).seq ((ch274.l3 rfl rfl rfl).seq ((ch285.n).seq ((ch287.n).seq ((hc292.n).seq ((ch295.l rfl).seq ((ch297.n).seq ((ch305.n).seq ((ch311.lx rfl rfl).seq (ch315.l rfl)))))))))
     replace r_g_v := r_g_v.chg C318 (is_nl rfl)
     replace r_r_v := r_r_v.chg C317 (is_nl rfl)
     replace r_keep_v := r_keep_v.chg C317 (is_nl rfl)
     replace r_to_v := r_to_v.chg C317 (is_nl rfl)
     replace bx5 := bx5.chg C317 (is_nl rfl)
     replace o19 := o19.chg C317 (is_nl rfl) (is_nl rfl)
     have C319 : Chg (inl [5, 8, 9, 14]) _ _ _ _ := (ch100.n).seq ((hb104.n).seq ((ch274.l3 rfl rfl rfl).seq ((ch285.n).seq ((ch287.n).seq ((hc292.n).seq ((ch295.l rfl).seq ((ch297.n).seq ((ch305.n).seq ((ch311.lx rfl rfl).seq (ch315.l rfl))))))))))
     replace r22 := r22.chg C319 (is_nl rfl)
     replace o27 := o27.chg C317 (is_nl rfl) (is_nl rfl)
     have C320 : Chg (inl [5, 8, 9, 14]) _ _ _ _ := (ch93.n).seq ((ch100.n).seq ((hb104.n).seq ((ch274.l3 rfl rfl rfl).seq ((ch285.n).seq ((ch287.n).seq ((hc292.n).seq ((ch295.l rfl).seq ((ch297.n).seq ((ch305.n).seq ((ch311.lx rfl rfl).seq (ch315.l rfl)))))))))))
     replace r30 := r30.chg C320 (is_nl rfl)
     replace bx38 := bx38.chg C317 (is_nl rfl)
     replace bx63 := bx63.chg C318 (is_nl rfl)
     replace r313 := r313.chg ch315 (isr_is rfl rfl)
     replace o84 := o84.chg C320 (is_nl rfl)
     replace o91 := o91.chg C319 (is_nl rfl)
     have C321 : Chg (inl [5, 8, 9, 14]) _ _ _ _ := (ch274.l3 rfl rfl rfl).seq ((ch285.n).seq ((ch287.n).seq ((hc292.n).seq ((ch295.l rfl).seq ((ch297.n).seq ((ch305.n).seq ((ch311.lx rfl rfl).seq (ch315.l rfl))))))))
     replace o98 := o98.chg C321 (is_nl rfl)
     replace r278 := (((((((r278.chg ch285 (not_no _)).chg ch287 (not_no _)).chg hc292 (not_no _)).chg ch295 (isr_is rfl rfl)).chg ch297 (not_no _)).chg ch305 (not_no _)).chg ch311 (isr_ixs rfl rfl rfl)).chg ch315 (isr_is rfl rfl)
     have C322 : Chg (inl [5, 9, 14]) _ _ _ _ := (ch305.n).seq ((ch311.lx rfl rfl).seq (ch315.l rfl))
     replace o286 := o286.chg C322 (is_nl rfl) (is_nl rfl)
     replace o312 := o312.chg ch315 (is_ne rfl)
     refine mid_j6 (v310, (K270 ++ [(ofR g r).1]), s271 + (min (sCap v74 : Int) ((List.length ((ofR g r).1) : Int) + 2000)), g308) _ _ ⟨hbase, rfl, rfl, rfl, r_g_v, r_r_v, r_keep_v, r_to_v, bx5, o19, r22, o27, r30, bx38, bx63, r313, o84, o91, o98, bx316, r278, o286, o312, ?_⟩
     show KInv (K270 ++ [(ofR g r).1]) (s271 + (min (sCap v74 : Int) ((List.length ((ofR g r).1) : Int) + 2000)))
     first | assumption | exact KInv.nil | exact (KInv.add (by first | assumption | exact KInv.nil) (by omega) (by omega) (by omega))
    refine run_cond_f rfl (decide_eq_false p4_c3) ?_
    refine run_skip ?_
    refine run_inBlock ?_
    have C323 : Chg (inl [5, 8, 14]) _ _ _ _ := (ch55.n).seq ((ch60.n).seq ((ch70.n).seq ((ch77.n).seq ((hb79.n).seq ((ch86.n).seq ((ch93.n).seq ((ch100.n).seq ((hb104.n).seq ((ch274.l3 rfl rfl rfl).seq ((ch285.n).seq ((ch287.n).seq (hc292.n))))))))))))
    replace hbase := hbase.chg C323 (is_nl rfl)
    have C324 : Chg (inl [5, 8, 14]) _ _ _ _ := (hb104.n).seq ((ch274.l3 rfl rfl rfl).seq ((ch285.n).seq ((ch287.n).seq (hc292.n))))
    replace r_g_v := r_g_v.chg C324 (is_nl rfl)
    replace r_r_v := r_r_v.chg C323 (is_nl rfl)
    replace r_keep_v := r_keep_v.chg C323 (is_nl rfl)
    replace r_to_v := r_to_v.chg C323 (is_nl rfl)
    replace bx5 := bx5.chg C323 (is_nl rfl)
    replace o19 := o19.chg C323 (is_nl rfl) (is_nl rfl)
    have C325 : Chg (inl [5, 8, 14]) _ _ _ _ := (ch100.n).seq ((hb104.n).seq ((ch274.l3 rfl rfl rfl).seq ((ch285.n).seq ((ch287.n).seq (hc292.n)))))
    replace r22 := r22.chg C325 (is_nl rfl)
    replace o27 := o27.chg C323 (is_nl rfl) (is_nl rfl)
    have C326 : Chg (inl [5, 8, 14]) _ _ _ _ := (ch93.n).seq ((ch100.n).seq ((hb104.n).seq ((ch274.l3 rfl rfl rfl).seq ((ch285.n).seq ((ch287.n).seq (hc292.n))))))
    replace r30 := r30.chg C326 (is_nl rfl)
    replace bx38 := bx38.chg C323 (is_nl rfl)
    replace bx63 := bx63.chg C324 (is_nl rfl)
    replace o75 := o75.chg hc292 (not_no _) (not_no _)
    replace o84 := o84.chg C326 (is_nl rfl)
    replace o91 := o91.chg C325 (is_nl rfl)
    have C327 : Chg (inl [5, 8, 14]) _ _ _ _ := (ch274.l3 rfl rfl rfl).seq ((ch285.n).seq ((ch287.n).seq (hc292.n)))
    replace o98 := o98.chg C327 (is_nl rfl)
    replace r278 := ((r278.chg ch285 (not_no _)).chg ch287 (not_no _)).chg hc292 (not_no _)
    replace o286 := o286.chg hc292 (not_no _) (not_no _)
    replace o276 := (o276.chg ch287 (not_no _)).chg hc292 (not_no _)
    refine mid_j6 (v269, K270, s271, g282) _ _ ⟨hbase, rfl, rfl, rfl, r_g_v, r_r_v, r_keep_v, r_to_v, bx5, o19, r22, o27, r30, bx38, bx63, o75.slk, o84, o91, o98, o275, r278, o286, o276, ?_⟩
    show KInv K270 s271
    first | assumption | exact KInv.nil | exact (KInv.add (by first | assumption | exact KInv.nil) (by omega) (by omega) (by omega))
   refine l_skip (want_n rfl rfl rfl (decide_eq_false q25_c3)) ?_
   refine l_skip (want_n rfl rfl rfl (decide_eq_false q25_c3)) ?_
   refine l_skip (want_n rfl rfl rfl (decide_eq_false q25_c3)) ?_
   refine l_skip (want_n rfl rfl rfl (decide_eq_false q25_c3)) ?_
   refine l_skip (want_n rfl rfl rfl (decide_eq_false q25_c3)) ?_
   refine l_skip (want_n rfl rfl rfl (decide_eq_false q25_c3)) ?_
   refine l_skip (want_n rfl rfl rfl (decide_eq_false q25_c3)) ?_
   refine lv (Value.bool false) rfl (e_pick_f rfl (decide_eq_false q25_c3) rfl) ?_
   refine l_nil ?_
   refine run_cond_f rfl rfl ?_
   refine run_skip ?_
   refine run_inBlock ?_
   have C328 : Chg (inl [5, 8, 14]) _ _ _ _ := (ch55.n).seq ((ch60.n).seq ((ch70.n).seq ((ch77.n).seq ((hb79.n).seq ((ch86.n).seq ((ch93.n).seq ((ch100.n).seq ((hb104.n).seq ((ch274.l3 rfl rfl rfl).seq ((ch285.n).seq ((ch287.n).seq (hc292.n))))))))))))
   replace hbase := hbase.chg C328 (is_nl rfl)
   have C329 : Chg (inl [5, 8, 14]) _ _ _ _ := (hb104.n).seq ((ch274.l3 rfl rfl rfl).seq ((ch285.n).seq ((ch287.n).seq (hc292.n))))
   replace r_g_v := r_g_v.chg C329 (is_nl rfl)
   replace r_r_v := r_r_v.chg C328 (is_nl rfl)
   replace r_keep_v := r_keep_v.chg C328 (is_nl rfl)
   replace r_to_v := r_to_v.chg C328 (is_nl rfl)
   replace bx5 := bx5.chg C328 (is_nl rfl)
   replace o19 := o19.chg C328 (is_nl rfl) (is_nl rfl)
   have C330 : Chg (inl [5, 8, 14]) _ _ _ _ := (ch100.n).seq ((hb104.n).seq ((ch274.l3 rfl rfl rfl).seq ((ch285.n).seq ((ch287.n).seq (hc292.n)))))
   replace r22 := r22.chg C330 (is_nl rfl)
   replace o27 := o27.chg C328 (is_nl rfl) (is_nl rfl)
   have C331 : Chg (inl [5, 8, 14]) _ _ _ _ := (ch93.n).seq ((ch100.n).seq ((hb104.n).seq ((ch274.l3 rfl rfl rfl).seq ((ch285.n).seq ((ch287.n).seq (hc292.n))))))
   replace r30 := r30.chg C331 (is_nl rfl)
   replace bx38 := bx38.chg C328 (is_nl rfl)
   replace bx63 := bx63.chg C329 (is_nl rfl)
   replace o75 := o75.chg hc292 (not_no _) (not_no _)
   replace o84 := o84.chg C331 (is_nl rfl)
   replace o91 := o91.chg C330 (is_nl rfl)
   have C332 : Chg (inl [5, 8, 14]) _ _ _ _ := (ch274.l3 rfl rfl rfl).seq ((ch285.n).seq ((ch287.n).seq (hc292.n)))
   replace o98 := o98.chg C332 (is_nl rfl)
   have C333 : Chg (inl []) _ _ _ _ := (ch285.n).seq ((ch287.n).seq (hc292.n))
   replace o275 := o275.chg C333 (is_nl rfl)
   replace r278 := ((r278.chg ch285 (not_no _)).chg ch287 (not_no _)).chg hc292 (not_no _)
   replace o286 := o286.chg hc292 (not_no _) (not_no _)
   replace o276 := (o276.chg ch287 (not_no _)).chg hc292 (not_no _)
   refine mid_j6 (v269, K270, s271, g282) _ _ ⟨hbase, rfl, rfl, rfl, r_g_v, r_r_v, r_keep_v, r_to_v, bx5, o19, r22, o27, r30, bx38, bx63, o75.slk, o84, o91, o98, o275, r278, o286, o276, ?_⟩
   show KInv K270 s271
   first | assumption | exact KInv.nil | exact (KInv.add (by first | assumption | exact KInv.nil) (by omega) (by omega) (by omega))
  clear r_g_v r_r_v r_keep_v r_to_v bx5 o19 r22 o27 r30 bx38 bx63 o75 o84 o91 o98 o275 o276 r278 o286 hbase
  rintro ⟨b_0_j6_v, b_0_j6, b_1_j6, g336⟩ f334 w335 ⟨hbase, z337_0, z337_1, z337_4, r_g_v, r_r_v, r_keep_v, r_to_v, bx5, o19, r22, o27, r30, bx38, bx63, o75, o84, o91, o98, o275, r278, o286, o_b_0_j6, hj_j6⟩
  obtain ⟨hja_j6, hjb_j6, hjc_j6⟩ := hj_j6.len
  refine run_region rfl ?_
  refine lv (Value.int .i64 0) rfl (e_move (by exact z337_4)) ?_
  refine lv (Value.int .i64 1) rfl (e_add (m := 0) (n := 1) rfl rfl (by omega)) ?_
  refine lv (Value.int .i64 1) rfl (e_assign rfl) ?_
  refine l_nil ?_
  refine run_inLoop ?_
  refine run_seq ?_
  refine run_seq ?_
  refine run_region rfl ?_
  refine lv (Value.int .i64 1) rfl (e_move rfl) ?_
  refine lv (v284) rfl (e_move (by exact z337_1)) ?_
  refine lv (Value.int .i64 1) rfl (e_len (α := Vc) (xs := [c279]) Try.underlying25 rfl o286.flat) ?_
  refine lv (Value.bool false) rfl (e_lss (m := 1) (n := 1) rfl rfl) ?_
  refine l_nil ?_
  refine run_cond_f rfl rfl ?_
  refine run_exit rfl ?_
  refine run_end (vs := []) Try.func38 .nil ?_
  refine ⟨(b_0_j6_v, b_0_j6, b_1_j6, g336), rfl, hbase, r_g_v, r_r_v, r_keep_v, r_to_v, bx5, o19, r22, o27, r30, bx38, bx63, o75, o84, o91, o98, o275, r278, o286, o_b_0_j6, ?_⟩
  show KInv b_0_j6 b_1_j6
  first | assumption | exact KInv.nil | exact (KInv.add (by first | assumption | exact KInv.nil) (by omega) (by omega) (by omega))
 clear r_g_v r_r_v r_keep_v r_to_v bx5 o19 r22 o27 r30 bx38 bx63 o75 o84 o91 o98 o275 o276 r278 o286 hbase
 rintro ⟨b_0_c3_v, b_0_c3, b_1_c3, g339⟩ w338 ⟨hbase, r_g_v, r_r_v, r_keep_v, r_to_v, bx5, o19, r22, o27, r30, bx38, bx63, o75, o84, o91, o98, o275, r278, o286, o_b_0_c3, hj_c3⟩
 obtain ⟨hja_c3, hjb_c3, hjc_c3⟩ := hj_c3.len
 refine l_nil ?_
 refine run_seq ?_
 clear o286
 refine run_region rfl ?_
 refine lv (Value.pointer (some ⟨b41, 0, none⟩)) rfl (e_move rfl) ?_
 refine lv (v83) rfl (e_move rfl) ?_
 refine l_op rfl ?_
 refine o_callx (σ := Value × List (List Int) × Int × Cmap) (V := fun _ => Value.tuple (List.toArray [])) (e_call (vals := [Value.pointer (some ⟨b41, 0, none⟩), v83]) Try.func37 bd37_wa nm37_wa rfl) (KeepAll_lift (γ := g339) (q := 5) (i := 14) (k := 10) (K := b_0_c3) (s := b_1_c3) o275 o_b_0_c3 o84 (by first | assumption | exact KInv.nil) (by omega) rfl rfl rfl) ?_
 rintro ⟨v340, K341, s342, g343⟩ w344 ⟨ch345, o346, o347, hj348, r349⟩
 replace ch345 : Chg (j3 5 14 10) g339 w338 g343 w344 := ch345
 replace o346 : Bx g343 (is 5) w344 b41 [v340, Value.int .i64 s342] := o346
 replace o347 : Nst g343 14 w344 v340 K341 := o347
 replace hj348 : KInv K341 s342 := hj348
 replace r349 : Sl g343 (isr 10 14) w344 v83 ((mirrorR g r).1) := r349
 obtain ⟨hj348a, hj348b, hj348c⟩ := hj348.len
 clear o84 o275 o_b_0_c3
 refine l_nil ?_
 refine run_seq ?_
 refine run_region rfl ?_
 refine lv (Value.pointer (some ⟨b41, 0, none⟩)) rfl (e_move rfl) ?_
 refine lv (v90) rfl (e_move rfl) ?_
 refine l_op rfl ?_
 replace o91 := o91.chg ch345 (is_j3 rfl rfl rfl)
 refine o_callx (σ := Value × List (List Int) × Int × Cmap) (V := fun _ => Value.tuple (List.toArray [])) (e_call (vals := [Value.pointer (some ⟨b41, 0, none⟩), v90]) Try.func37 bd37_wa nm37_wa rfl) (KeepAll_lift (γ := g343) (q := 5) (i := 14) (k := 11) (K := K341) (s := s342) o346 o347 o91 (by first | assumption | exact KInv.nil) (by omega) rfl rfl rfl) ?_
 rintro ⟨v350, K351, s352, g353⟩ w354 ⟨ch355, o356, o357, hj358, r359⟩
 replace ch355 : Chg (j3 5 14 11) g343 w344 g353 w354 := ch355
 replace o356 : Bx g353 (is 5) w354 b41 [v350, Value.int .i64 s352] := o356
 replace o357 : Nst g353 14 w354 v350 K351 := o357
 replace hj358 : KInv K351 s352 := hj358
 replace r359 : Sl g353 (isr 11 14) w354 v90 ((canonR g r).1) := r359
 obtain ⟨hj358a, hj358b, hj358c⟩ := hj358.len
 clear o91 o346 o347
 refine l_nil ?_
 refine run_seq ?_
 refine run_region rfl ?_
 refine lv (Value.pointer (some ⟨b41, 0, none⟩)) rfl (e_move rfl) ?_
 refine lv (v97) rfl (e_move rfl) ?_
 refine l_op rfl ?_
 replace o98 := (o98.chg ch345 (is_j3 rfl rfl rfl)).chg ch355 (is_j3 rfl rfl rfl)
 refine o_callx (σ := Value × List (List Int) × Int × Cmap) (V := fun _ => Value.tuple (List.toArray [])) (e_call (vals := [Value.pointer (some ⟨b41, 0, none⟩), v97]) Try.func37 bd37_wa nm37_wa rfl) (KeepAll_lift (γ := g353) (q := 5) (i := 14) (k := 12) (K := K351) (s := s352) o356 o357 o98 (by first | assumption | exact KInv.nil) (by omega) rfl rfl rfl) ?_
 rintro ⟨v360, K361, s362, g363⟩ w364 ⟨ch365, o366, o367, hj368, r369⟩
 replace ch365 : Chg (j3 5 14 12) g353 w354 g363 w364 := ch365
 replace o366 : Bx g363 (is 5) w364 b41 [v360, Value.int .i64 s362] := o366
 replace o367 : Nst g363 14 w364 v360 K361 := o367
 replace hj368 : KInv K361 s362 := hj368
 replace r369 : Sl g363 (isr 12 14) w364 v97 ((firstR g).1) := r369
 obtain ⟨hj368a, hj368b, hj368c⟩ := hj368.len
 clear o98 o356 o357
 refine l_nil ?_
 refine run_seq ?_
 refine run_seq ?_
 clear r369
 refine run_region rfl ?_
 refine lv (Value.int .i64 (rmayR g r)) rfl (e_move rfl) ?_
 refine lv (Value.bool (!(decide ((rmayR g r) = 0)))) rfl (e_neq (m := rmayR g r) (n := 0) rfl rfl) ?_
 refine l_nil ?_
 by_cases p16_c1 : (rmayR g r) = 0
 ·
  have hy_c1 := Y9.mk' p16_c1
  obtain ⟨hmm_c1, hrp_c1⟩ := rmay_ok p16_c1
  refine run_cond_f rfl (congrArg Bool.not (decide_eq_true p16_c1)) ?_
  refine run_skip ?_
  refine run_seq ?_
  refine run_region rfl ?_
  refine lv (v67) rfl (e_move rfl) ?_
  have C370 : Chg (inl [5, 10, 11, 12, 14]) _ _ _ _ := (ch345.l3 rfl rfl rfl).seq ((ch355.l3 rfl rfl rfl).seq (ch365.l3 rfl rfl rfl))
  replace bx63 := bx63.chg C370 (is_nl rfl)
  refine lv (Value.agg (List.toArray [Value.int .i64 g.1, g_v])) rfl (e_load_bxN (ds := [Value.int .i64 g.1, g_v]) tp24_wa rfl bx63 rfl rfl) ?_
  refine lv (r_v) rfl (e_move rfl) ?_
  replace r_g_v := r_g_v.chg C370 (is_nl rfl)
  replace r_r_v := r_r_v.chg C370 (is_nl rfl)
  refine l_op rfl ?_
  refine o_callx (e_call (vals := [Value.agg (List.toArray [Value.int .i64 g.1, g_v]), r_v]) Try.func29 bd29_wa nm29_wa rfl) (rFaces_ok w364 g g_v (r_g_v).ro r r_v (r_r_v).ro (by assumption) (by assumption)) ?_
  rintro ⟨d372, v374⟩ w371 ⟨fr373, o375⟩
  obtain ⟨g376, hg376⟩ : ∃ q, q = glue w364.heap.size g363 d372 (fun n => if n = 1 then 17 else 0) := ⟨_, rfl⟩
  have ch377 := chg_glue fr373.below g363 d372 (fun n => if n = 1 then 17 else 0)
  rw [← hg376] at ch377
  replace o375 := o375.glue (γ := g363) (ren := (fun n => if n = 1 then 17 else 0)) (k := 17) fr373.col rfl rfl
  rw [← hg376] at o375
  clear hg376
  replace r278 := (((r278.chg ch345 (isr_j3 rfl rfl rfl rfl rfl)).chg ch355 (isr_j3 rfl rfl rfl rfl rfl)).chg ch365 (isr_j3 rfl rfl rfl rfl rfl)).chg ch377 (not_no _)
  refine l_op rfl ?_
  refine o_call (v := Value.bool (decide (((facesR g r).1) = (facesS (nextS g r) r)))) (e_call (vals := [v67, v374]) Try.func57 bd57_wa nm57_wa rfl) (Lists_ok w371 ((facesR g r).1) v67 (r278).ro (facesS (nextS g r) r) v374 (o375.sl).ro) ?_
  intro w378 hb379
  replace hb379 := chg_below hb379 g376
  refine lv (Value.bool (decide (((facesR g r).1) = (facesS (nextS g r) r)))) rfl (e_move rfl) ?_
  have q153_c1_380 : (decide (((facesR g r).1) = (facesS (nextS g r) r))) = true := by first | rfl | exact decide_eq_true rfl | exact a9_fe | exact decide_eq_true a9_fe | exact a9_oe | exact decide_eq_true a9_oe | exact a9_ge | exact decide_eq_true a9_ge | exact a9_me | exact decide_eq_true a9_me | exact a9_ce | exact decide_eq_true a9_ce | exact a9_xe | exact decide_eq_true a9_xe | exact a9_x1 (by assumption) | exact decide_eq_true (a9_x1 (by assumption)) | exact a9_x (by assumption) | exact decide_eq_true (a9_x (by assumption)) | (rw [a9_x0 (by assumption)]; rfl) | exact hn_c1.sum | exact decide_eq_true hn_c1.sum | exact hy_c1.f | exact decide_eq_true hy_c1.f | exact hy_c1.o | exact decide_eq_true hy_c1.o | exact hy_c1.n | exact decide_eq_true hy_c1.n | exact hy_c1.m | exact decide_eq_true hy_c1.m | exact hy_c1.c | exact decide_eq_true hy_c1.c
  refine lv (v74) (want_y rfl rfl rfl q153_c1_380) (e_move rfl) ?_
  replace bx63 := (bx63.chg ch377 (not_no _)).chg hb379 (not_no _)
  refine lv (Value.agg (List.toArray [Value.int .i64 g.1, g_v])) (want_y rfl rfl rfl q153_c1_380) (e_load_bxN (ds := [Value.int .i64 g.1, g_v]) tp24_wa rfl bx63 rfl rfl) ?_
  refine lv (r_v) (want_y rfl rfl rfl q153_c1_380) (e_move rfl) ?_
  replace r_g_v := (r_g_v.chg ch377 (not_no _)).chg hb379 (not_no _)
  replace r_r_v := (r_r_v.chg ch377 (not_no _)).chg hb379 (not_no _)
  refine l_op (want_y rfl rfl rfl q153_c1_380) ?_
  refine o_callx (e_call (vals := [Value.agg (List.toArray [Value.int .i64 g.1, g_v]), r_v]) Try.func26 bd26_wa nm26_wa rfl) (rOf_ok w378 g g_v (r_g_v).ro r r_v (r_r_v).ro (by assumption) (by assumption)) ?_
  rintro ⟨d382, v384⟩ w381 ⟨fr383, o385⟩
  obtain ⟨g386, hg386⟩ : ∃ q, q = glue w378.heap.size g376 d382 (fun n => if n = 1 then 18 else 0) := ⟨_, rfl⟩
  have ch387 := chg_glue fr383.below g376 d382 (fun n => if n = 1 then 18 else 0)
  rw [← hg386] at ch387
  replace o385 := o385.glue (γ := g376) (ren := (fun n => if n = 1 then 18 else 0)) (k := 18) fr383.col rfl rfl
  rw [← hg386] at o385
  clear hg386
  replace o75 := (((((o75.chg ch345 (isr_j3 rfl rfl rfl rfl rfl)).chg ch355 (isr_j3 rfl rfl rfl rfl rfl)).chg ch365 (isr_j3 rfl rfl rfl rfl rfl)).chg ch377 (not_no _)).chg hb379 (not_no _)).chg ch387 (not_no _)
  refine l_op (want_y rfl rfl rfl q153_c1_380) ?_
  refine o_call (v := Value.bool (decide (((ofR g r).1) = (ofS g r)))) (e_call (vals := [v74, v384]) Try.func46 bd46_wa nm46_wa rfl) (rInts_ok w381 ((ofR g r).1) v74 (o75).ro (ofS g r) v384 (o385.flat).ro) ?_
  intro w388 hb389
  replace hb389 := chg_below hb389 g386
  refine lv (Value.bool (decide (((ofR g r).1) = (ofS g r)))) rfl (e_pick_t rfl q153_c1_380 rfl) ?_
  refine lv (Value.bool (decide (((ofR g r).1) = (ofS g r)))) rfl (e_move rfl) ?_
  have q160_c1_390 : (decide (((ofR g r).1) = (ofS g r))) = true := by first | rfl | exact decide_eq_true rfl | exact a9_fe | exact decide_eq_true a9_fe | exact a9_oe | exact decide_eq_true a9_oe | exact a9_ge | exact decide_eq_true a9_ge | exact a9_me | exact decide_eq_true a9_me | exact a9_ce | exact decide_eq_true a9_ce | exact a9_xe | exact decide_eq_true a9_xe | exact a9_x1 (by assumption) | exact decide_eq_true (a9_x1 (by assumption)) | exact a9_x (by assumption) | exact decide_eq_true (a9_x (by assumption)) | (rw [a9_x0 (by assumption)]; rfl) | exact hn_c1.sum | exact decide_eq_true hn_c1.sum | exact hy_c1.f | exact decide_eq_true hy_c1.f | exact hy_c1.o | exact decide_eq_true hy_c1.o | exact hy_c1.n | exact decide_eq_true hy_c1.n | exact hy_c1.m | exact decide_eq_true hy_c1.m | exact hy_c1.c | exact decide_eq_true hy_c1.c
  refine lv (Value.int .i64 ((genusR g r).1)) (want_y rfl rfl rfl q160_c1_390) (e_move rfl) ?_
  replace bx63 := (bx63.chg ch387 (not_no _)).chg hb389 (not_no _)
  refine lv (Value.agg (List.toArray [Value.int .i64 g.1, g_v])) (want_y rfl rfl rfl q160_c1_390) (e_load_bxN (ds := [Value.int .i64 g.1, g_v]) tp24_wa rfl bx63 rfl rfl) ?_
  refine lv (r_v) (want_y rfl rfl rfl q160_c1_390) (e_move rfl) ?_
  replace r_g_v := (r_g_v.chg ch387 (not_no _)).chg hb389 (not_no _)
  replace r_r_v := (r_r_v.chg ch387 (not_no _)).chg hb389 (not_no _)
  refine l_op (want_y rfl rfl rfl q160_c1_390) ?_
  refine o_call (v := Value.int .i64 (genusS g r)) (e_call (vals := [Value.agg (List.toArray [Value.int .i64 g.1, g_v]), r_v]) Try.func23 bd23_wa nm23_wa rfl) (rGenus_ok w388 g g_v (r_g_v).ro r r_v (r_r_v).ro (by assumption) (by assumption)) ?_
  intro w391 hb392
  replace hb392 := chg_below hb392 g386
  refine lv (Value.bool (decide (((genusR g r).1) = (genusS g r)))) (want_y rfl rfl rfl q160_c1_390) (e_eql (m := (genusR g r).1) (n := genusS g r) rfl rfl) ?_
  refine lv (Value.bool (decide (((genusR g r).1) = (genusS g r)))) rfl (e_pick_t rfl q160_c1_390 rfl) ?_
  refine lv (Value.bool (decide (((genusR g r).1) = (genusS g r)))) rfl (e_move rfl) ?_
  have q167_c1_393 : ((genusR g r).1) = (genusS g r) := by first | rfl | exact decide_eq_true rfl | exact a9_fe | exact decide_eq_true a9_fe | exact a9_oe | exact decide_eq_true a9_oe | exact a9_ge | exact decide_eq_true a9_ge | exact a9_me | exact decide_eq_true a9_me | exact a9_ce | exact decide_eq_true a9_ce | exact a9_xe | exact decide_eq_true a9_xe | exact a9_x1 (by assumption) | exact decide_eq_true (a9_x1 (by assumption)) | exact a9_x (by assumption) | exact decide_eq_true (a9_x (by assumption)) | (rw [a9_x0 (by assumption)]; rfl) | exact hn_c1.sum | exact decide_eq_true hn_c1.sum | exact hy_c1.f | exact decide_eq_true hy_c1.f | exact hy_c1.o | exact decide_eq_true hy_c1.o | exact hy_c1.n | exact decide_eq_true hy_c1.n | exact hy_c1.m | exact decide_eq_true hy_c1.m | exact hy_c1.c | exact decide_eq_true hy_c1.c
  refine lv (v83) (want_y rfl rfl rfl (decide_eq_true q167_c1_393)) (e_move rfl) ?_
  refine lv (r_v) (want_y rfl rfl rfl (decide_eq_true q167_c1_393)) (e_move rfl) ?_
  replace r_r_v := r_r_v.chg hb392 (not_no _)
  refine l_op (want_y rfl rfl rfl (decide_eq_true q167_c1_393)) ?_
  refine o_callx (e_call (vals := [r_v]) Try.func59 bd59_wa nm59_wa rfl) (rMirror_ok w391 r r_v (r_r_v).ro (by assumption)) ?_
  rintro ⟨d395, v397⟩ w394 ⟨fr396, o398⟩
  obtain ⟨g399, hg399⟩ : ∃ q, q = glue w391.heap.size g386 d395 (fun n => if n = 1 then 19 else 0) := ⟨_, rfl⟩
  have ch400 := chg_glue fr396.below g386 d395 (fun n => if n = 1 then 19 else 0)
  rw [← hg399] at ch400
  replace o398 := o398.glue (γ := g386) (ren := (fun n => if n = 1 then 19 else 0)) (k := 19) fr396.col rfl rfl
  rw [← hg399] at o398
  clear hg399
  replace r349 := (((((((r349.chg ch355 (isr_j3 rfl rfl rfl rfl rfl)).chg ch365 (isr_j3 rfl rfl rfl rfl rfl)).chg ch377 (not_no _)).chg hb379 (not_no _)).chg ch387 (not_no _)).chg hb389 (not_no _)).chg hb392 (not_no _)).chg ch400 (not_no _)
  refine l_op (want_y rfl rfl rfl (decide_eq_true q167_c1_393)) ?_
  refine o_call (v := Value.bool (decide (((mirrorR g r).1) = (mirrorS r)))) (e_call (vals := [v83, v397]) Try.func57 bd57_wa nm57_wa rfl) (Lists_ok w394 ((mirrorR g r).1) v83 (r349).ro (mirrorS r) v397 (o398.sl).ro) ?_
  intro w401 hb402
  replace hb402 := chg_below hb402 g399
  refine lv (Value.bool (decide (((mirrorR g r).1) = (mirrorS r)))) rfl (e_pick_t rfl (decide_eq_true q167_c1_393) rfl) ?_
  refine lv (Value.bool (decide (((mirrorR g r).1) = (mirrorS r)))) rfl (e_move rfl) ?_
  have q173_c1_403 : (decide (((mirrorR g r).1) = (mirrorS r))) = true := by first | rfl | exact decide_eq_true rfl | exact a9_fe | exact decide_eq_true a9_fe | exact a9_oe | exact decide_eq_true a9_oe | exact a9_ge | exact decide_eq_true a9_ge | exact a9_me | exact decide_eq_true a9_me | exact a9_ce | exact decide_eq_true a9_ce | exact a9_xe | exact decide_eq_true a9_xe | exact a9_x1 (by assumption) | exact decide_eq_true (a9_x1 (by assumption)) | exact a9_x (by assumption) | exact decide_eq_true (a9_x (by assumption)) | (rw [a9_x0 (by assumption)]; rfl) | exact hn_c1.sum | exact decide_eq_true hn_c1.sum | exact hy_c1.f | exact decide_eq_true hy_c1.f | exact hy_c1.o | exact decide_eq_true hy_c1.o | exact hy_c1.n | exact decide_eq_true hy_c1.n | exact hy_c1.m | exact decide_eq_true hy_c1.m | exact hy_c1.c | exact decide_eq_true hy_c1.c
  refine lv (v90) (want_y rfl rfl rfl q173_c1_403) (e_move rfl) ?_
  refine lv (r_v) (want_y rfl rfl rfl q173_c1_403) (e_move rfl) ?_
  replace r_r_v := (r_r_v.chg ch400 (not_no _)).chg hb402 (not_no _)
  refine l_op (want_y rfl rfl rfl q173_c1_403) ?_
  refine o_callx (e_call (vals := [r_v]) Try.func60 bd60_wa nm60_wa rfl) (rCanon_ok w401 r r_v (r_r_v).ro) ?_
  rintro ⟨d405, v407⟩ w404 ⟨fr406, o408⟩
  obtain ⟨g409, hg409⟩ : ∃ q, q = glue w401.heap.size g399 d405 (fun n => if n = 1 then 20 else 0) := ⟨_, rfl⟩
  have ch410 := chg_glue fr406.below g399 d405 (fun n => if n = 1 then 20 else 0)
  rw [← hg409] at ch410
  replace o408 := o408.glue (γ := g399) (ren := (fun n => if n = 1 then 20 else 0)) (k := 20) fr406.col rfl rfl
  rw [← hg409] at o408
  clear hg409
  replace r359 := ((((((((r359.chg ch365 (isr_j3 rfl rfl rfl rfl rfl)).chg ch377 (not_no _)).chg hb379 (not_no _)).chg ch387 (not_no _)).chg hb389 (not_no _)).chg hb392 (not_no _)).chg ch400 (not_no _)).chg hb402 (not_no _)).chg ch410 (not_no _)
  refine l_op (want_y rfl rfl rfl q173_c1_403) ?_
  refine o_call (v := Value.bool (decide (((canonR g r).1) = (canonS r)))) (e_call (vals := [v90, v407]) Try.func57 bd57_wa nm57_wa rfl) (Lists_ok w404 ((canonR g r).1) v90 (r359).ro (canonS r) v407 (o408.sl).ro) ?_
  intro w411 hb412
  replace hb412 := chg_below hb412 g409
  refine lv (Value.bool (decide (((canonR g r).1) = (canonS r)))) rfl (e_pick_t rfl q173_c1_403 rfl) ?_
  refine lv (Value.bool (decide (((canonR g r).1) = (canonS r)))) rfl (e_assign rfl) ?_
  refine l_nil ?_
  refine run_ret (vs := [Value.bool (decide (((canonR g r).1) = (canonS r)))]) Try.func16 (.tmp rfl .nil) ?_
  have C413 : Chg (inl [5, 10, 11, 12, 14]) _ _ _ _ := (ch345.l3 rfl rfl rfl).seq ((ch355.l3 rfl rfl rfl).seq ((ch365.l3 rfl rfl rfl).seq ((ch377.n).seq ((hb379.n).seq ((ch387.n).seq ((hb389.n).seq ((hb392.n).seq ((ch400.n).seq ((hb402.n).seq ((ch410.n).seq (hb412.n)))))))))))
  replace hbase := hbase.chg C413 (is_nl rfl)
  have C414 : Chg (inl []) _ _ _ _ := (hb392.n).seq ((ch400.n).seq ((hb402.n).seq ((ch410.n).seq (hb412.n))))
  replace r_g_v := r_g_v.chg C414 (is_nl rfl)
  replace r_r_v := (r_r_v.chg ch410 (not_no _)).chg hb412 (not_no _)
  replace r_keep_v := r_keep_v.chg C413 (is_nl rfl)
  replace r_to_v := r_to_v.chg C413 (is_nl rfl)
  replace bx5 := bx5.chg C413 (is_nl rfl)
  replace o19 := o19.chg C413 (is_nl rfl) (is_nl rfl)
  replace r22 := r22.chg C413 (is_nl rfl)
  replace o27 := o27.chg C413 (is_nl rfl) (is_nl rfl)
  replace r30 := r30.chg C413 (is_nl rfl)
  replace bx38 := bx38.chg C413 (is_nl rfl)
  have C415 : Chg (inl []) _ _ _ _ := (ch377.n).seq ((hb379.n).seq ((ch387.n).seq ((hb389.n).seq ((hb392.n).seq ((ch400.n).seq ((hb402.n).seq ((ch410.n).seq (hb412.n))))))))
  replace o366 := o366.chg C415 (is_nl rfl)
  replace o367 := o367.chg C415 (is_nl rfl)
  have rt416 : (decide (((canonR g r).1) = (canonS r))) = true := by
    first | rfl | exact decide_eq_true rfl | exact a9_fe | exact decide_eq_true a9_fe | exact a9_oe | exact decide_eq_true a9_oe | exact a9_ge | exact decide_eq_true a9_ge | exact a9_me | exact decide_eq_true a9_me | exact a9_ce | exact decide_eq_true a9_ce | exact a9_xe | exact decide_eq_true a9_xe | exact a9_x1 (by assumption) | exact decide_eq_true (a9_x1 (by assumption)) | exact a9_x (by assumption) | exact decide_eq_true (a9_x (by assumption)) | (rw [a9_x0 (by assumption)]; rfl) | exact hn_c1.sum | exact decide_eq_true hn_c1.sum | exact hy_c1.f | exact decide_eq_true hy_c1.f | exact hy_c1.o | exact decide_eq_true hy_c1.o | exact hy_c1.n | exact decide_eq_true hy_c1.n | exact hy_c1.m | exact decide_eq_true hy_c1.m | exact hy_c1.c | exact decide_eq_true hy_c1.c
  refine ⟨(v360, K361, s362, g409), (congrArg (fun b => Ending.returned (Value.bool b)) rt416), hbase, r_g_v, r_r_v, r_keep_v, r_to_v, bx5, o19, r22, o27, r30, bx38, o366, o367, ?_⟩
  show KInv K361 s362
  first | assumption | exact KInv.nil | exact (KInv.add (by first | assumption | exact KInv.nil) (by omega) (by omega) (by omega))
 have hn_c1 := N9.mk' p16_c1
 have hnn_c1 := hn_c1.n
 refine run_cond_t rfl (congrArg Bool.not (decide_eq_false p16_c1)) ?_
 refine run_seq ?_
 clear bx63
 refine run_region rfl ?_
 refine lv (v67) rfl (e_move rfl) ?_
 replace r278 := ((r278.chg ch345 (isr_j3 rfl rfl rfl rfl rfl)).chg ch355 (isr_j3 rfl rfl rfl rfl rfl)).chg ch365 (isr_j3 rfl rfl rfl rfl rfl)
 have len417 := (r278).small
 refine lv (Value.int .i64 (List.length ((facesR g r).1) : Int)) rfl (e_len Try.underlying25 rfl r278) ?_
 refine lv (v74) rfl (e_move rfl) ?_
 replace o75 := ((o75.chg ch345 (isr_j3 rfl rfl rfl rfl rfl)).chg ch355 (isr_j3 rfl rfl rfl rfl rfl)).chg ch365 (isr_j3 rfl rfl rfl rfl rfl)
 have len418 := (o75).small
 refine lv (Value.int .i64 (List.length ((ofR g r).1) : Int)) rfl (e_len Try.underlying27 rfl o75) ?_
 refine lv (Value.int .i64 ((List.length ((facesR g r).1) : Int) + (List.length ((ofR g r).1) : Int))) rfl (e_add (m := (List.length ((facesR g r).1) : Int)) (n := (List.length ((ofR g r).1) : Int)) rfl rfl (by omega)) ?_
 refine lv (Value.int .i64 ((genusR g r).1)) rfl (e_move rfl) ?_
 refine lv (Value.int .i64 (((List.length ((facesR g r).1) : Int) + (List.length ((ofR g r).1) : Int)) + ((genusR g r).1))) rfl (e_add (m := (List.length ((facesR g r).1) : Int) + (List.length ((ofR g r).1) : Int)) (n := (genusR g r).1) rfl rfl (by omega)) ?_
 refine lv (v83) rfl (e_move rfl) ?_
 replace r349 := (r349.chg ch355 (isr_j3 rfl rfl rfl rfl rfl)).chg ch365 (isr_j3 rfl rfl rfl rfl rfl)
 have len419 := (r349).small
 refine lv (Value.int .i64 (List.length ((mirrorR g r).1) : Int)) rfl (e_len Try.underlying26 rfl r349) ?_
 refine lv (Value.int .i64 ((((List.length ((facesR g r).1) : Int) + (List.length ((ofR g r).1) : Int)) + ((genusR g r).1)) + (List.length ((mirrorR g r).1) : Int))) rfl (e_add (m := ((List.length ((facesR g r).1) : Int) + (List.length ((ofR g r).1) : Int)) + ((genusR g r).1)) (n := (List.length ((mirrorR g r).1) : Int)) rfl rfl (by omega)) ?_
 refine lv (v90) rfl (e_move rfl) ?_
 replace r359 := r359.chg ch365 (isr_j3 rfl rfl rfl rfl rfl)
 have len420 := (r359).small
 refine lv (Value.int .i64 (List.length ((canonR g r).1) : Int)) rfl (e_len Try.underlying26 rfl r359) ?_
 refine lv (Value.int .i64 (((((List.length ((facesR g r).1) : Int) + (List.length ((ofR g r).1) : Int)) + ((genusR g r).1)) + (List.length ((mirrorR g r).1) : Int)) + (List.length ((canonR g r).1) : Int))) rfl (e_add (m := (((List.length ((facesR g r).1) : Int) + (List.length ((ofR g r).1) : Int)) + ((genusR g r).1)) + (List.length ((mirrorR g r).1) : Int)) (n := (List.length ((canonR g r).1) : Int)) rfl rfl (by omega)) ?_
 refine lv (Value.bool (decide ((((((List.length ((facesR g r).1) : Int) + (List.length ((ofR g r).1) : Int)) + ((genusR g r).1)) + (List.length ((mirrorR g r).1) : Int)) + (List.length ((canonR g r).1) : Int)) = 0))) rfl (e_eql (m := ((((List.length ((facesR g r).1) : Int) + (List.length ((ofR g r).1) : Int)) + ((genusR g r).1)) + (List.length ((mirrorR g r).1) : Int)) + (List.length ((canonR g r).1) : Int)) (n := 0) rfl rfl) ?_
 refine lv (Value.bool (decide ((((((List.length ((facesR g r).1) : Int) + (List.length ((ofR g r).1) : Int)) + ((genusR g r).1)) + (List.length ((mirrorR g r).1) : Int)) + (List.length ((canonR g r).1) : Int)) = 0))) rfl (e_assign rfl) ?_
 refine l_nil ?_
 refine run_ret (vs := [Value.bool (decide ((((((List.length ((facesR g r).1) : Int) + (List.length ((ofR g r).1) : Int)) + ((genusR g r).1)) + (List.length ((mirrorR g r).1) : Int)) + (List.length ((canonR g r).1) : Int)) = 0))]) Try.func16 (.tmp rfl .nil) ?_
 have C421 : Chg (inl [5, 10, 11, 12, 14]) _ _ _ _ := (ch345.l3 rfl rfl rfl).seq ((ch355.l3 rfl rfl rfl).seq (ch365.l3 rfl rfl rfl))
 replace hbase := hbase.chg C421 (is_nl rfl)
 replace r_g_v := r_g_v.chg C421 (is_nl rfl)
 replace r_r_v := r_r_v.chg C421 (is_nl rfl)
 replace r_keep_v := r_keep_v.chg C421 (is_nl rfl)
 replace r_to_v := r_to_v.chg C421 (is_nl rfl)
 replace bx5 := bx5.chg C421 (is_nl rfl)
 replace o19 := o19.chg C421 (is_nl rfl) (is_nl rfl)
 replace r22 := r22.chg C421 (is_nl rfl)
 replace o27 := o27.chg C421 (is_nl rfl) (is_nl rfl)
 replace r30 := r30.chg C421 (is_nl rfl)
 replace bx38 := bx38.chg C421 (is_nl rfl)
 have rt422 : decide ((((((List.length ((facesR g r).1) : Int) + (List.length ((ofR g r).1) : Int)) + ((genusR g r).1)) + (List.length ((mirrorR g r).1) : Int)) + (List.length ((canonR g r).1) : Int)) = 0) = true := by
   first | rfl | exact decide_eq_true rfl | exact a9_fe | exact decide_eq_true a9_fe | exact a9_oe | exact decide_eq_true a9_oe | exact a9_ge | exact decide_eq_true a9_ge | exact a9_me | exact decide_eq_true a9_me | exact a9_ce | exact decide_eq_true a9_ce | exact a9_xe | exact decide_eq_true a9_xe | exact a9_x1 (by assumption) | exact decide_eq_true (a9_x1 (by assumption)) | exact a9_x (by assumption) | exact decide_eq_true (a9_x (by assumption)) | (rw [a9_x0 (by assumption)]; rfl) | exact hn_c1.sum | exact decide_eq_true hn_c1.sum | exact hy_c1.f | exact decide_eq_true hy_c1.f | exact hy_c1.o | exact decide_eq_true hy_c1.o | exact hy_c1.n | exact decide_eq_true hy_c1.n | exact hy_c1.m | exact decide_eq_true hy_c1.m | exact hy_c1.c | exact decide_eq_true hy_c1.c
 refine ⟨(v360, K361, s362, g363), (congrArg (fun b => Ending.returned (Value.bool b)) rt422), hbase, r_g_v, r_r_v, r_keep_v, r_to_v, bx5, o19, r22, o27, r30, bx38, o366, o367, ?_⟩
 show KInv K361 s362
 first | assumption | exact KInv.nil | exact (KInv.add (by first | assumption | exact KInv.nil) (by omega) (by omega) (by omega))
end TL
