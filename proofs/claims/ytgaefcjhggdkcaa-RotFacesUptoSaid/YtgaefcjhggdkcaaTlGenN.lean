import Derived.Test.YtgaefcjhggdkcaaTlGenA
import Derived.Test.YtgaefcjhggdkcaaTlGenQ
import Derived.Test.YtgaefcjhggdkcaaTlGenX
import Derived.Test.YtgaefcjhggdkcaaTlGenY
import Derived.Test.YtgaefcjhggdkcaaTlGenZ
import Derived.Test.YtgaefcjhggdkcaaTlGenV
import Derived.Test.YtgaefcjhggdkcaaTlGenI
import Derived.Test.YtgaefcjhggdkcaaTlFacesW
import Derived.Test.YtgaefcjhggdkcaaProg
import Derived.Test.YtgaefcjhggdkcaaTlNet2
import Derived.Test.YtgaefcjhggdkcaaTlEq
import Derived.Test.YtgaefcjhggdkcaaTlHold
import Derived.Test.YtgaefcjhggdkcaaTlDraw
import Derived.Test.YtgaefcjhggdkcaaTlMap
set_option linter.all false
set_option maxRecDepth 20000
namespace TL
open Go Go.Proofs
theorem mixed_n : Try.prog.follows .mixedOrders = true := by kernel_rfl
theorem tp3_n : Tp Try.prog 3 false 1 8 (.int .i64 0) := Tp.of (by kernel_rfl)
theorem tp4_n : Tp Try.prog 4 false 1 1 (.bool false) := Tp.of (by kernel_rfl)
theorem tp22_n : Tp Try.prog 22 false 1 24 (.slice none 0 0) := Tp.of (by kernel_rfl)
theorem tp24_n : Tp Try.prog 24 true 2 32 (.agg #[.int .i64 0, .slice none 0 0]) := Tp.of (by kernel_rfl)
theorem tp35_n : Tp Try.prog 35 false 1 24 (.slice none 0 0) := Tp.of (by kernel_rfl)
theorem bd9_n : Try.f9.body.isNone = false := rfl
theorem nm9_n : (Try.f9.name == "runtime.NumGoroutine") = false := by decide +kernel
theorem bd10_n : Try.f10.body.isNone = false := rfl
theorem nm10_n : (Try.f10.name == "runtime.NumGoroutine") = false := by decide +kernel
theorem bd11_n : Try.f11.body.isNone = false := rfl
theorem nm11_n : (Try.f11.name == "runtime.NumGoroutine") = false := by decide +kernel
theorem bd12_n : Try.f12.body.isNone = false := rfl
theorem nm12_n : (Try.f12.name == "runtime.NumGoroutine") = false := by decide +kernel
theorem bd13_n : Try.f13.body.isNone = false := rfl
theorem nm13_n : (Try.f13.name == "runtime.NumGoroutine") = false := by decide +kernel
theorem bd14_n : Try.f14.body.isNone = false := rfl
theorem nm14_n : (Try.f14.name == "runtime.NumGoroutine") = false := by decide +kernel
theorem bd15_n : Try.f15.body.isNone = false := rfl
theorem nm15_n : (Try.f15.name == "runtime.NumGoroutine") = false := by decide +kernel
theorem bd16_n : Try.f16.body.isNone = false := rfl
theorem nm16_n : (Try.f16.name == "runtime.NumGoroutine") = false := by decide +kernel
theorem bd17_n : Try.f17.body.isNone = false := rfl
theorem nm17_n : (Try.f17.name == "runtime.NumGoroutine") = false := by decide +kernel
theorem bd18_n : Try.f18.body.isNone = false := rfl
theorem nm18_n : (Try.f18.name == "runtime.NumGoroutine") = false := by decide +kernel
theorem bd19_n : Try.f19.body.isNone = false := rfl
theorem nm19_n : (Try.f19.name == "runtime.NumGoroutine") = false := by decide +kernel

set_option maxHeartbeats 8000000 in
theorem RotFaces_ok (w0 : World) (g : (Int) × (List ((Int) × (Int)))) (g_v : Value) (hg_v : Ro w0 g_v g.2) (r : List (List Int)) (r_v : Value) (hr_v : Ro w0 r_v r) (hb : (r.length : Int) ≤ 1048576 ∧ ∀ l_ ∈ r, l_.length ≤ 1048576) :
    Calls Try.prog 3 #[Value.agg (List.toArray [Value.int .i64 g.1, g_v]), r_v] w0 (fun ee w => ee = .returned (Value.bool true) ∧ RowKit.Below w0.heap.size w0 w) := by
 refine calls_of_run Try.func3 rfl (Nat.le_of_ble_eq_true rfl) ?_
 have hbase := Base.start w0
 have r_g_v := hg_v.sl
 have r_r_v := hr_v.sl
 refine run_seq ?_
 refine run_region rfl ?_
 refine l_op rfl ?_
 refine o_box c0 (is 1) (1, 0) rfl rfl ?_
 intro g4 w1 b3 ch2 bx5
 replace bx5 : Bx g4 (is 1) w1 b3 [Value.int .i64 g.1, g_v] := bx5
 refine l_val (v := Value.bool false) rfl (e_assign rfl) ?_
 refine l_nil ?_
 refine run_seq ?_
 refine run_seq ?_
 refine run_region rfl ?_
 refine l_op rfl ?_
 refine o_call (v := Value.bool true) (e_call (vals := []) Try.func9 bd9_n nm9_n rfl) (begun9_ok w1 ) ?_
 intro w6 hb7
 replace hb7 := chg_below hb7 g4
 refine l_val (v := Value.bool false) rfl (e_not (b := true) rfl) ?_
 refine l_nil ?_
 refine run_cond_f rfl rfl ?_
 refine run_skip ?_
 refine run_seq ?_
 refine run_region rfl ?_
 replace bx5 := bx5.chg hb7 (not_no _)
 refine l_val (v := Value.agg (List.toArray [Value.int .i64 g.1, g_v])) rfl (e_load_bxN (ds := [Value.int .i64 g.1, g_v]) tp24_n rfl bx5 rfl rfl) ?_
 refine l_val (v := r_v) rfl (e_move rfl) ?_
 replace r_g_v := (r_g_v.chg ch2 (not_no _)).chg hb7 (not_no _)
 replace r_r_v := (r_r_v.chg ch2 (not_no _)).chg hb7 (not_no _)
 refine l_op rfl ?_
 refine o_callx (e_call (vals := [Value.agg (List.toArray [Value.int .i64 g.1, g_v]), r_v]) Try.func10 bd10_n nm10_n rfl) (Faces_ok w6 g g_v (r_g_v).ro r r_v (r_r_v).ro) ?_
 rintro ⟨d9, v11⟩ w8 ⟨fr10, o12⟩
 obtain ⟨g13, hg13⟩ : ∃ q, q = glue w6.heap.size g4 d9 (fun n => if n = 1 then 2 else 0) := ⟨_, rfl⟩
 have ch14 := chg_glue fr10.below g4 d9 (fun n => if n = 1 then 2 else 0)
 rw [← hg13] at ch14
 replace o12 := o12.glue (γ := g4) (ren := (fun n => if n = 1 then 2 else 0)) (k := 2) fr10.col rfl rfl
 rw [← hg13] at o12
 clear hg13
 refine l_val (v := Value.tuple (List.toArray [v11, Value.int .i64 ((facesR g r).2)])) rfl (e_move rfl) ?_
 refine l_val (v := v11) rfl (e_extract rfl rfl) ?_
 refine l_val (v := Value.int .i64 ((facesR g r).2)) rfl (e_extract rfl rfl) ?_
 refine l_val (v := v11) rfl (e_assign rfl) ?_
 refine l_val (v := Value.int .i64 ((facesR g r).2)) rfl (e_assign rfl) ?_
 refine l_nil ?_
 refine run_seq ?_
 refine run_region rfl ?_
 replace bx5 := bx5.chg ch14 (not_no _)
 refine l_val (v := Value.agg (List.toArray [Value.int .i64 g.1, g_v])) rfl (e_load_bxN (ds := [Value.int .i64 g.1, g_v]) tp24_n rfl bx5 rfl rfl) ?_
 refine l_val (v := r_v) rfl (e_move rfl) ?_
 replace r_g_v := r_g_v.chg ch14 (not_no _)
 replace r_r_v := r_r_v.chg ch14 (not_no _)
 refine l_op rfl ?_
 refine o_call (v := Value.tuple (List.toArray [Value.int .i64 ((genusR g r).1), Value.int .i64 ((genusR g r).2)])) (e_call (vals := [Value.agg (List.toArray [Value.int .i64 g.1, g_v]), r_v]) Try.func11 bd11_n nm11_n rfl) (Genus_ok w8 g g_v (r_g_v).ro r r_v (r_r_v).ro) ?_
 intro w15 hb16
 replace hb16 := chg_below hb16 g13
 refine l_val (v := Value.tuple (List.toArray [Value.int .i64 ((genusR g r).1), Value.int .i64 ((genusR g r).2)])) rfl (e_move rfl) ?_
 refine l_val (v := Value.int .i64 ((genusR g r).1)) rfl (e_extract rfl rfl) ?_
 refine l_val (v := Value.int .i64 ((genusR g r).2)) rfl (e_extract rfl rfl) ?_
 refine l_val (v := Value.int .i64 ((genusR g r).1)) rfl (e_assign rfl) ?_
 refine l_val (v := Value.int .i64 ((genusR g r).2)) rfl (e_assign rfl) ?_
 refine l_nil ?_
 refine run_seq ?_
 refine run_seq ?_
 refine run_region rfl ?_
 refine l_val (v := Value.int .i64 ((facesR g r).2)) rfl (e_move rfl) ?_
 refine l_val (v := Value.bool (!(decide (((facesR g r).2) = 0)))) rfl (e_neq (m := (facesR g r).2) (n := 0) rfl rfl) ?_
 refine l_val (v := Value.bool (!(decide (((facesR g r).2) = 0)))) rfl (e_move rfl) ?_
 by_cases q46 : ((facesR g r).2) = 0
 ·
  obtain ⟨hm, hrp⟩ := rmay_ok (facesR_may q46)
  have hm0 := hm
  obtain ⟨hm1, hm2, hm3, hm4⟩ := hm0
  have hrl := hrp.1
  obtain ⟨hFe, ⟨hnum, hnn⟩, hflen, hfle⟩ := faces_nums hm hrp
  obtain ⟨⟨hmq1, hmq2, hmq3, hmq4⟩, hplen⟩ := mir_nums hm hrp
  have hpb := partsR_bd g hm
  replace bx5 := bx5.chg hb16 (not_no _)
  refine l_val (v := Value.agg (List.toArray [Value.int .i64 g.1, g_v])) (want_y rfl rfl rfl (congrArg Bool.not (decide_eq_true q46))) (e_load_bxN (ds := [Value.int .i64 g.1, g_v]) tp24_n rfl bx5 rfl rfl) ?_
  refine l_val (v := r_v) (want_y rfl rfl rfl (congrArg Bool.not (decide_eq_true q46))) (e_move rfl) ?_
  replace r_g_v := r_g_v.chg hb16 (not_no _)
  replace r_r_v := r_r_v.chg hb16 (not_no _)
  refine l_op (want_y rfl rfl rfl (congrArg Bool.not (decide_eq_true q46))) ?_
  refine o_call (v := Value.bool (decide ((g.2.length ≤ 300 ∧ (g.1 ≤ 300 ∨ ¬ MayP g)) ∧ g.1 ≤ 200 ∧ r.length + r.flatten.length ≤ 1000))) (e_call (vals := [Value.agg (List.toArray [Value.int .i64 g.1, g_v]), r_v]) Try.func12 bd12_n nm12_n rfl) (Light9_ok w15 g g_v (r_g_v).ro r r_v (r_r_v).ro (by assumption)) ?_
  intro w17 hb18
  replace hb18 := chg_below hb18 g13
  refine l_val (v := Value.bool (!(decide ((g.2.length ≤ 300 ∧ (g.1 ≤ 300 ∨ ¬ MayP g)) ∧ g.1 ≤ 200 ∧ r.length + r.flatten.length ≤ 1000)))) (want_y rfl rfl rfl (congrArg Bool.not (decide_eq_true q46))) (e_not (b := (decide ((g.2.length ≤ 300 ∧ (g.1 ≤ 300 ∨ ¬ MayP g)) ∧ g.1 ≤ 200 ∧ r.length + r.flatten.length ≤ 1000))) rfl) ?_
  refine l_val (v := Value.bool (!(decide ((g.2.length ≤ 300 ∧ (g.1 ≤ 300 ∨ ¬ MayP g)) ∧ g.1 ≤ 200 ∧ r.length + r.flatten.length ≤ 1000)))) rfl (e_pick_f rfl (congrArg Bool.not (decide_eq_true q46)) rfl) ?_
  refine l_nil ?_
  by_cases p5 : (decide ((g.2.length ≤ 300 ∧ (g.1 ≤ 300 ∨ ¬ MayP g)) ∧ g.1 ≤ 200 ∧ r.length + r.flatten.length ≤ 1000)) = true
  ·
   have hli := of_decide_eq_true p5
   refine run_cond_f rfl (congrArg Bool.not p5) ?_
   refine run_skip ?_
   refine run_seq ?_
   refine run_region rfl ?_
   refine l_val (v := Value.pointer (some ⟨b3, 1, none⟩)) rfl (e_fieldAddr Try.underlying24 rfl rfl rfl rfl) ?_
   replace bx5 := bx5.chg hb18 (not_no _)
   refine l_val (v := g_v) rfl (e_load_bx1 tp22_n rfl bx5 rfl) ?_
   replace r_g_v := r_g_v.chg hb18 (not_no _)
   have len19 := (r_g_v).small
   refine l_val (v := Value.int .i64 (List.length g.2 : Int)) rfl (e_len Try.underlying22 rfl r_g_v) ?_
   refine l_val (v := Value.int .i64 (2 * (List.length g.2 : Int))) rfl (e_mul (m := 2) (n := (List.length g.2 : Int)) rfl rfl (by omega)) ?_
   refine l_op rfl ?_
   refine o_make (α := Bool) (l := 2 * (List.length g.2 : Int)) (cp := 2 * (List.length g.2 : Int)) g13 (is 3) (is 3) (3, 0) rfl false Try.underlying34 tp4_n rfl rfl rfl (by omega) (by omega) (by omega) (by omega) ?_
   intro g20 w21 v22 ch23 o24 _
   refine l_val (v := v22) rfl (e_assign rfl) ?_
   refine l_nil ?_
   refine run_seq ?_
   refine run_region rfl ?_
   refine l_val (v := Value.int .i64 0) rfl (e_assign rfl) ?_
   refine l_nil ?_
   refine run_seq ?_
   refine run_seq ?_
   refine run_region rfl ?_
   refine l_val (v := Value.int .i64 0) rfl (e_assign rfl) ?_
   refine l_nil ?_
   refine run_block ?_
   refine run_loop (σ := Int × Nat × (List Bool) × Cmap) (fun ⟨count, q, seen, gq⟩ f w => Base w0 gq w ∧ f 1 = r_v ∧ f 2 = Value.pointer (some ⟨b3, 0, none⟩) ∧ f 5 = v11 ∧ f 7 = Value.int .i64 ((genusR g r).1) ∧ f 9 = v22 ∧ f 10 = Value.int .i64 count ∧ f 11 = Value.int .i64 (q : Int) ∧ Sl gq (is 0) w g_v g.2 ∧ Sl gq (is 0) w r_v r ∧ Bx gq (is 1) w b3 [Value.int .i64 g.1, g_v] ∧ Nst gq 2 w v11 ((facesR g r).1) ∧ Ow gq (is 3) (is 3) w v22 seen ∧ (q : Int) ≤ ((List.length ((facesR g r).1) : Int) : Int) ∧ (FcInv g (facesR g r).1 seen count q 0)) (fun ⟨count, q, seen, gq⟩ => Int.toNat (((List.length ((facesR g r).1) : Int) : Int) - (q : Int))) (0, 0, (List.replicate (Int.toNat (2 * (List.length g.2 : Int))) false), g20) ?_ ?_
   have C25 : Chg (inl []) _ _ _ _ := (ch2.n).seq ((hb7.n).seq ((ch14.n).seq ((hb16.n).seq ((hb18.n).seq (ch23.n)))))
   replace hbase := hbase.chg C25 (is_nl rfl)
   replace r_g_v := r_g_v.chg ch23 (not_no _)
   replace r_r_v := (r_r_v.chg hb18 (not_no _)).chg ch23 (not_no _)
   replace bx5 := bx5.chg ch23 (not_no _)
   have C26 : Chg (inl []) _ _ _ _ := (hb16.n).seq ((hb18.n).seq (ch23.n))
   replace o12 := o12.chg C26 (is_nl rfl)
   · exact ⟨hbase, rfl, rfl, rfl, rfl, rfl, rfl, rfl, r_g_v, r_r_v, bx5, o12, o24, by omega, by exact FcInv.start g _⟩
   clear r_g_v
   clear r_r_v
   clear bx5
   clear o12
   clear o24
   clear hbase
   rintro ⟨count, q, seen, g29⟩ f27 w28 ⟨hbase, zs1, zs2, zs5, zs7, zs9, zs10, zs11, r_g_v, r_r_v, bx5, o12, o24, hle_q, hfc⟩ back10
   have hsl := hfc.rm.len
   have hcb := hfc.bd
   refine run_seq ?_
   refine run_seq ?_
   refine run_region rfl ?_
   refine l_val (v := Value.int .i64 (q : Int)) rfl (e_move (by exact zs11)) ?_
   refine l_val (v := v11) rfl (e_move (by exact zs5)) ?_
   have len30 := (o12.sl).small
   refine l_val (v := Value.int .i64 (List.length ((facesR g r).1) : Int)) rfl (e_len Try.underlying25 rfl o12.sl) ?_
   refine l_val (v := Value.bool (decide ((q : Int) < (List.length ((facesR g r).1) : Int)))) rfl (e_lss (m := (q : Int)) (n := (List.length ((facesR g r).1) : Int)) rfl rfl) ?_
   refine l_nil ?_
   by_cases p10 : (q : Int) < (List.length ((facesR g r).1) : Int)
   ·
    refine run_cond_t rfl (decide_eq_true p10) ?_
    refine run_skip ?_
    refine run_seq ?_
    refine run_block ?_
    refine run_seq ?_
    refine run_region rfl ?_
    refine l_val (v := Value.int .i64 0) rfl (e_assign rfl) ?_
    refine l_nil ?_
    refine run_block ?_
    refine run_loop (σ := Int × Nat × (List Bool) × Cmap) (fun ⟨count1, k, seen1, gq⟩ f w => Base w0 gq w ∧ f 1 = r_v ∧ f 2 = Value.pointer (some ⟨b3, 0, none⟩) ∧ f 5 = v11 ∧ f 7 = Value.int .i64 ((genusR g r).1) ∧ f 9 = v22 ∧ f 10 = Value.int .i64 count1 ∧ f 11 = Value.int .i64 (q : Int) ∧ f 12 = Value.int .i64 (k : Int) ∧ Sl gq (is 0) w g_v g.2 ∧ Sl gq (is 0) w r_v r ∧ Bx gq (is 1) w b3 [Value.int .i64 g.1, g_v] ∧ Nst gq 2 w v11 ((facesR g r).1) ∧ Ow gq (is 3) (is 3) w v22 seen1 ∧ (k : Int) ≤ ((List.length (gI ((facesR g r).1) (q : Int)) : Int) : Int) ∧ (FcInv g (facesR g r).1 seen1 count1 q k)) (fun ⟨count1, k, seen1, gq⟩ => Int.toNat (((List.length (gI ((facesR g r).1) (q : Int)) : Int) : Int) - (k : Int))) (count, 0, seen, g29) ?_ ?_
    · exact ⟨hbase, (by exact zs1), (by exact zs2), (by exact zs5), (by exact zs7), (by exact zs9), (by exact zs10), (by exact zs11), rfl, r_g_v, r_r_v, bx5, o12, o24, by omega, by exact hfc⟩
    clear r_g_v
    clear r_r_v
    clear bx5
    clear o12
    clear o24
    clear hbase
    rintro ⟨count1, k, seen1, g33⟩ f31 w32 ⟨hbase, zs1, zs2, zs5, zs7, zs9, zs10, zs11, zs12, r_g_v, r_r_v, bx5, o12, o24, hle_k, hfk⟩ back13
    have hsl1 := hfk.rm.len
    have hcb1 := hfk.bd
    have hfq := hflen q (by assumption)
    refine run_seq ?_
    refine run_seq ?_
    refine run_region rfl ?_
    refine l_val (v := Value.int .i64 (k : Int)) rfl (e_move (by exact zs12)) ?_
    refine l_val (v := v11) rfl (e_move (by exact zs5)) ?_
    refine l_val (v := Value.int .i64 (q : Int)) rfl (e_move (by exact zs11)) ?_
    refine l_val (v := Value.pointer (some (eAddr v11 1 (Int.toNat (q : Int))))) rfl (e_indexAddr (α := List Int) (xs := (facesR g r).1) (v := v11) (i := (q : Int)) Try.underlying25 rfl rfl o12.sl rfl (by omega) (by omega)) ?_
    obtain ⟨v34, cel35, r36⟩ := nst_row (r := (q : Int)) o12 (by omega) (by omega)
    refine l_val (v := v34) rfl (e_load1 tp35_n rfl cel35) ?_
    have len37 := (r36.row_sl).small
    refine l_val (v := Value.int .i64 (List.length (gI ((facesR g r).1) (q : Int)) : Int)) rfl (e_len Try.underlying35 rfl r36.row_sl) ?_
    refine l_val (v := Value.bool (decide ((k : Int) < (List.length (gI ((facesR g r).1) (q : Int)) : Int)))) rfl (e_lss (m := (k : Int)) (n := (List.length (gI ((facesR g r).1) (q : Int)) : Int)) rfl rfl) ?_
    refine l_nil ?_
    by_cases p13 : (k : Int) < (List.length (gI ((facesR g r).1) (q : Int)) : Int)
    ·
     refine run_cond_t rfl (decide_eq_true p13) ?_
     obtain ⟨⟨hx0, hx1⟩, hx2, hx3, hx4, hx5⟩ := hfk.next hrp hFe (by assumption) (by assumption)
     obtain ⟨hto1, hto2⟩ := toS_in hm hx0 hx1
     have he1 := Int.emod_nonneg ((k : Int) + 1) (show ((List.length (gI (facesR g r).1 (q : Int)) : Nat) : Int) ≠ 0 by omega)
     have he2 := Int.emod_lt_of_pos ((k : Int) + 1) (show (0 : Int) < ((List.length (gI (facesR g r).1 (q : Int)) : Nat) : Int) by omega)
     have htw := twin_in hx0 hx1
     refine run_skip ?_
     refine run_seq ?_
     refine run_block ?_
     refine run_seq ?_
     clear cel35
     clear r36
     refine region_q g33 rfl mixed_n (by kernel_rfl) ?_
     intro w39 ch38
     refine q_val (v := v11) rfl (fun w' hw' => e_move (by exact zs5)) ?_
     refine q_val (v := Value.int .i64 (q : Int)) rfl (fun w' hw' => e_move (by exact zs11)) ?_
     replace o12 := o12.chg ch38 (not_no _)
     refine q_val (v := Value.pointer (some (eAddr v11 1 (Int.toNat (q : Int))))) rfl (fun w' hw' => e_indexAddr (α := List Int) (xs := (facesR g r).1) (v := v11) (i := (q : Int)) Try.underlying25 rfl rfl (o12.sl.bel hw') rfl (by omega) (by omega)) ?_
     obtain ⟨v40, cel41, r42⟩ := nst_row (r := (q : Int)) o12 (by omega) (by omega)
     refine q_val (v := v40) rfl (fun w' hw' => e_load1 tp35_n rfl (cel_bel cel41 hw')) ?_
     refine q_val (v := Value.int .i64 (k : Int)) rfl (fun w' hw' => e_move (by exact zs12)) ?_
     refine q_val (v := Value.pointer (some (eAddr v40 1 (Int.toNat (k : Int))))) rfl (fun w' hw' => e_indexAddr (α := Int) (xs := gI ((facesR g r).1) (q : Int)) (v := v40) (i := (k : Int)) Try.underlying35 rfl rfl (r42.row_sl.bel hw') rfl (by omega) (by omega)) ?_
     refine q_val (v := Value.int .i64 (gI (gI ((facesR g r).1) (q : Int)) (k : Int))) rfl (fun w' hw' => e_load_el1 (α := Int) (xs := gI ((facesR g r).1) (q : Int)) (v := v40) (i := (k : Int)) tp3_n rfl (r42.row_sl.bel hw') (by omega) (by omega) (by decide) rfl) ?_
     refine q_val (v := v11) rfl (fun w' hw' => e_move (by exact zs5)) ?_
     refine q_val (v := Value.int .i64 (q : Int)) rfl (fun w' hw' => e_move (by exact zs11)) ?_
     refine q_val (v := Value.pointer (some (eAddr v11 1 (Int.toNat (q : Int))))) rfl (fun w' hw' => e_indexAddr (α := List Int) (xs := (facesR g r).1) (v := v11) (i := (q : Int)) Try.underlying25 rfl rfl (o12.sl.bel hw') rfl (by omega) (by omega)) ?_
     obtain ⟨v43, cel44, r45⟩ := nst_row (r := (q : Int)) o12 (by omega) (by omega)
     refine q_val (v := v43) rfl (fun w' hw' => e_load1 tp35_n rfl (cel_bel cel44 hw')) ?_
     refine q_val (v := Value.int .i64 (k : Int)) rfl (fun w' hw' => e_move (by exact zs12)) ?_
     refine q_val (v := Value.int .i64 ((k : Int) + 1)) rfl (fun w' hw' => e_add (m := (k : Int)) (n := 1) rfl rfl (by omega)) ?_
     refine q_val (v := v11) rfl (fun w' hw' => e_move (by exact zs5)) ?_
     refine q_val (v := Value.int .i64 (q : Int)) rfl (fun w' hw' => e_move (by exact zs11)) ?_
     refine q_val (v := Value.pointer (some (eAddr v11 1 (Int.toNat (q : Int))))) rfl (fun w' hw' => e_indexAddr (α := List Int) (xs := (facesR g r).1) (v := v11) (i := (q : Int)) Try.underlying25 rfl rfl (o12.sl.bel hw') rfl (by omega) (by omega)) ?_
     obtain ⟨v46, cel47, r48⟩ := nst_row (r := (q : Int)) o12 (by omega) (by omega)
     refine q_val (v := v46) rfl (fun w' hw' => e_load1 tp35_n rfl (cel_bel cel47 hw')) ?_
     refine q_val (v := Value.int .i64 (List.length (gI ((facesR g r).1) (q : Int)) : Int)) rfl (fun w' hw' => e_len Try.underlying35 rfl (r48.row_sl.bel hw')) ?_
     refine q_val (v := Value.int .i64 (((k : Int) + 1) % (List.length (gI ((facesR g r).1) (q : Int)) : Int))) rfl (fun w' hw' => e_rem (m := (k : Int) + 1) (n := (List.length (gI ((facesR g r).1) (q : Int)) : Int)) rfl rfl (by omega) (by omega)) ?_
     refine q_val (v := Value.pointer (some (eAddr v43 1 (Int.toNat (((k : Int) + 1) % (List.length (gI ((facesR g r).1) (q : Int)) : Int)))))) rfl (fun w' hw' => e_indexAddr (α := Int) (xs := gI ((facesR g r).1) (q : Int)) (v := v43) (i := ((k : Int) + 1) % (List.length (gI ((facesR g r).1) (q : Int)) : Int)) Try.underlying35 rfl rfl (r45.row_sl.bel hw') rfl (by omega) (by omega)) ?_
     refine q_val (v := Value.int .i64 (gI (gI ((facesR g r).1) (q : Int)) (((k : Int) + 1) % (List.length (gI ((facesR g r).1) (q : Int)) : Int)))) rfl (fun w' hw' => e_load_el1 (α := Int) (xs := gI ((facesR g r).1) (q : Int)) (v := v43) (i := ((k : Int) + 1) % (List.length (gI ((facesR g r).1) (q : Int)) : Int)) tp3_n rfl (r45.row_sl.bel hw') (by omega) (by omega) (by decide) rfl) ?_
     refine q_val (v := Value.int .i64 (gI (gI ((facesR g r).1) (q : Int)) (k : Int))) rfl (fun w' hw' => e_assign rfl) ?_
     refine q_val (v := Value.int .i64 (gI (gI ((facesR g r).1) (q : Int)) (((k : Int) + 1) % (List.length (gI ((facesR g r).1) (q : Int)) : Int)))) rfl (fun w' hw' => e_assign rfl) ?_
     refine q_nil ?_
     intro w49 hc50
     replace hc50 := chg_below hc50 g33
     refine run_seq ?_
     refine run_seq ?_
     clear cel41
     clear r42
     clear cel44
     clear r45
     clear cel47
     clear r48
     refine region_q g33 rfl mixed_n (by kernel_rfl) ?_
     intro w52 ch51
     refine q_val (v := v22) rfl (fun w' hw' => e_move (by exact zs9)) ?_
     refine q_val (v := Value.int .i64 (gI (gI ((facesR g r).1) (q : Int)) (k : Int))) rfl (fun w' hw' => e_move rfl) ?_
     have C53 : Chg (inl []) _ _ _ _ := (ch38.n).seq ((hc50.n).seq (ch51.n))
     replace o24 := o24.chg C53 (is_nl rfl) (is_nl rfl)
     refine q_val (v := Value.pointer (some (eAddr v22 1 (Int.toNat (gI (gI ((facesR g r).1) (q : Int)) (k : Int)))))) rfl (fun w' hw' => e_indexAddr (α := Bool) (xs := seen1) (v := v22) (i := (gI (gI ((facesR g r).1) (q : Int)) (k : Int))) Try.underlying34 rfl rfl (o24.flat.bel hw') rfl (by omega) (by omega)) ?_
     refine q_val (v := Value.bool (gI seen1 (gI (gI ((facesR g r).1) (q : Int)) (k : Int)))) rfl (fun w' hw' => e_load_el1 (α := Bool) (xs := seen1) (v := v22) (i := (gI (gI ((facesR g r).1) (q : Int)) (k : Int))) tp4_n rfl (o24.flat.bel hw') (by omega) (by omega) (by decide) rfl) ?_
     refine q_val (v := Value.bool (gI seen1 (gI (gI ((facesR g r).1) (q : Int)) (k : Int)))) rfl (fun w' hw' => e_move rfl) ?_
     have q104 : ¬ ((gI seen1 (gI (gI ((facesR g r).1) (q : Int)) (k : Int))) = true) := by first | exact hx2 | exact hx3 | exact hx4 | exact hcd | exact hnum | omega | exact hmq2 | exact hmq3 | exact decide_eq_true hmq3 | exact hle.done hmq4 (by omega) (by omega)
     refine q_val (v := Value.int .i64 (gI (gI ((facesR g r).1) (q : Int)) (k : Int))) (want_y rfl rfl rfl (Bool.eq_false_iff.2 q104)) (fun w' hw' => e_move rfl) ?_
     refine q_val (v := v11) (want_y rfl rfl rfl (Bool.eq_false_iff.2 q104)) (fun w' hw' => e_move (by exact zs5)) ?_
     refine q_val (v := Value.int .i64 (q : Int)) (want_y rfl rfl rfl (Bool.eq_false_iff.2 q104)) (fun w' hw' => e_move (by exact zs11)) ?_
     replace o12 := (o12.chg hc50 (not_no _)).chg ch51 (not_no _)
     refine q_val (v := Value.pointer (some (eAddr v11 1 (Int.toNat (q : Int))))) (want_y rfl rfl rfl (Bool.eq_false_iff.2 q104)) (fun w' hw' => e_indexAddr (α := List Int) (xs := (facesR g r).1) (v := v11) (i := (q : Int)) Try.underlying25 rfl rfl (o12.sl.bel hw') rfl (by omega) (by omega)) ?_
     obtain ⟨v54, cel55, r56⟩ := nst_row (r := (q : Int)) o12 (by omega) (by omega)
     refine q_val (v := v54) (want_y rfl rfl rfl (Bool.eq_false_iff.2 q104)) (fun w' hw' => e_load1 tp35_n rfl (cel_bel cel55 hw')) ?_
     refine q_val (v := Value.pointer (some (eAddr v54 1 (Int.toNat 0)))) (want_y rfl rfl rfl (Bool.eq_false_iff.2 q104)) (fun w' hw' => e_indexAddr (α := Int) (xs := gI ((facesR g r).1) (q : Int)) (v := v54) (i := 0) Try.underlying35 rfl rfl (r56.row_sl.bel hw') rfl (by omega) (by omega)) ?_
     refine q_val (v := Value.int .i64 (gI (gI ((facesR g r).1) (q : Int)) 0)) (want_y rfl rfl rfl (Bool.eq_false_iff.2 q104)) (fun w' hw' => e_load_el1 (α := Int) (xs := gI ((facesR g r).1) (q : Int)) (v := v54) (i := 0) tp3_n rfl (r56.row_sl.bel hw') (by omega) (by omega) (by decide) rfl) ?_
     refine q_val (v := Value.bool (decide ((gI (gI ((facesR g r).1) (q : Int)) (k : Int)) < (gI (gI ((facesR g r).1) (q : Int)) 0)))) (want_y rfl rfl rfl (Bool.eq_false_iff.2 q104)) (fun w' hw' => e_lss (m := (gI (gI ((facesR g r).1) (q : Int)) (k : Int))) (n := (gI (gI ((facesR g r).1) (q : Int)) 0)) rfl rfl) ?_
     refine q_val (v := Value.bool (decide ((gI (gI ((facesR g r).1) (q : Int)) (k : Int)) < (gI (gI ((facesR g r).1) (q : Int)) 0)))) rfl (fun w' hw' => e_pick_f rfl (Bool.eq_false_iff.2 q104) rfl) ?_
     refine q_val (v := Value.bool (decide ((gI (gI ((facesR g r).1) (q : Int)) (k : Int)) < (gI (gI ((facesR g r).1) (q : Int)) 0)))) rfl (fun w' hw' => e_move rfl) ?_
     have q114 : ¬ ((gI (gI ((facesR g r).1) (q : Int)) (k : Int)) < (gI (gI ((facesR g r).1) (q : Int)) 0)) := by first | exact hx2 | exact hx3 | exact hx4 | exact hcd | exact hnum | omega | exact hmq2 | exact hmq3 | exact decide_eq_true hmq3 | exact hle.done hmq4 (by omega) (by omega)
     refine q_val (v := r_v) (want_y rfl rfl rfl (decide_eq_false q114)) (fun w' hw' => e_move (by exact zs1)) ?_
     replace bx5 := bx5.chg C53 (is_nl rfl)
     refine q_val (v := Value.agg (List.toArray [Value.int .i64 g.1, g_v])) (want_y rfl rfl rfl (decide_eq_false q114)) (fun w' hw' => e_load_bxN (ds := [Value.int .i64 g.1, g_v]) tp24_n (by exact zs2) (bx5.bel hw') rfl rfl) ?_
     refine q_val (v := Value.int .i64 (gI (gI ((facesR g r).1) (q : Int)) (k : Int))) (want_y rfl rfl rfl (decide_eq_false q114)) (fun w' hw' => e_move rfl) ?_
     replace r_g_v := r_g_v.chg C53 (is_nl rfl)
     refine q_call (v := Value.int .i64 (toS g (gI (gI ((facesR g r).1) (q : Int)) (k : Int)))) (want_y rfl rfl rfl (decide_eq_false q114)) (fun w' hw' => e_call (vals := [Value.agg (List.toArray [Value.int .i64 g.1, g_v]), Value.int .i64 (gI (gI ((facesR g r).1) (q : Int)) (k : Int))]) Try.func14 bd14_n nm14_n rfl) (fun w' hw' => (rTo_ok w' g g_v ((r_g_v.bel hw')).ro (gI (gI ((facesR g r).1) (q : Int)) (k : Int)) (by omega) (by omega)).mono fun e w2 h2 => ⟨h2.1, hw'.trans (h2.2.mono hw'.size)⟩) ?_
     replace r_r_v := r_r_v.chg C53 (is_nl rfl)
     refine q_val (v := Value.pointer (some (eAddr r_v 1 (Int.toNat (toS g (gI (gI ((facesR g r).1) (q : Int)) (k : Int))))))) (want_y rfl rfl rfl (decide_eq_false q114)) (fun w' hw' => e_indexAddr (α := List Int) (xs := r) (v := r_v) (i := toS g (gI (gI ((facesR g r).1) (q : Int)) (k : Int))) Try.underlying26 rfl rfl (r_r_v.bel hw') rfl (by omega) (by omega)) ?_
     obtain ⟨v57, cel58, r59⟩ := sl_row (r := toS g (gI (gI ((facesR g r).1) (q : Int)) (k : Int))) r_r_v (by omega) (by omega)
     refine q_val (v := v57) (want_y rfl rfl rfl (decide_eq_false q114)) (fun w' hw' => e_load1 tp35_n rfl (cel_bel cel58 hw')) ?_
     refine q_val (v := Value.int .i64 (gI (gI ((facesR g r).1) (q : Int)) (k : Int))) (want_y rfl rfl rfl (decide_eq_false q114)) (fun w' hw' => e_move rfl) ?_
     refine q_call (v := Value.int .i64 (twin (gI (gI ((facesR g r).1) (q : Int)) (k : Int)))) (want_y rfl rfl rfl (decide_eq_false q114)) (fun w' hw' => e_call (vals := [Value.int .i64 (gI (gI ((facesR g r).1) (q : Int)) (k : Int))]) Try.func15 bd15_n nm15_n rfl) (fun w' hw' => (rTwin_ok w' (gI (gI ((facesR g r).1) (q : Int)) (k : Int)) (by omega)).mono fun e w2 h2 => ⟨h2.1, hw'.trans (h2.2.mono hw'.size)⟩) ?_
     refine q_call (v := Value.int .i64 (behS (gI r (toS g (gI (gI ((facesR g r).1) (q : Int)) (k : Int)))) (twin (gI (gI ((facesR g r).1) (q : Int)) (k : Int))))) (want_y rfl rfl rfl (decide_eq_false q114)) (fun w' hw' => e_call (vals := [v57, Value.int .i64 (twin (gI (gI ((facesR g r).1) (q : Int)) (k : Int)))]) Try.func13 bd13_n nm13_n rfl) (fun w' hw' => (behind_ok w' (gI r (toS g (gI (gI ((facesR g r).1) (q : Int)) (k : Int)))) v57 ((r59.bel hw')).ro (twin (gI (gI ((facesR g r).1) (q : Int)) (k : Int))) (by (have h0 := row_len hrp (k := (toS g (gI (gI (facesR g r).1 (q : Int)) (k : Int))).toNat) (by omega); rw [Int.toNat_of_nonneg (by omega)] at h0; omega))).mono fun e w2 h2 => ⟨h2.1, hw'.trans (h2.2.mono hw'.size)⟩) ?_
     refine q_val (v := Value.int .i64 (gI (gI ((facesR g r).1) (q : Int)) (((k : Int) + 1) % (List.length (gI ((facesR g r).1) (q : Int)) : Int)))) (want_y rfl rfl rfl (decide_eq_false q114)) (fun w' hw' => e_move rfl) ?_
     refine q_val (v := Value.bool (!(decide ((behS (gI r (toS g (gI (gI ((facesR g r).1) (q : Int)) (k : Int)))) (twin (gI (gI ((facesR g r).1) (q : Int)) (k : Int)))) = (gI (gI ((facesR g r).1) (q : Int)) (((k : Int) + 1) % (List.length (gI ((facesR g r).1) (q : Int)) : Int))))))) (want_y rfl rfl rfl (decide_eq_false q114)) (fun w' hw' => e_neq (m := behS (gI r (toS g (gI (gI ((facesR g r).1) (q : Int)) (k : Int)))) (twin (gI (gI ((facesR g r).1) (q : Int)) (k : Int)))) (n := (gI (gI ((facesR g r).1) (q : Int)) (((k : Int) + 1) % (List.length (gI ((facesR g r).1) (q : Int)) : Int)))) rfl rfl) ?_
     refine q_val (v := Value.bool (!(decide ((behS (gI r (toS g (gI (gI ((facesR g r).1) (q : Int)) (k : Int)))) (twin (gI (gI ((facesR g r).1) (q : Int)) (k : Int)))) = (gI (gI ((facesR g r).1) (q : Int)) (((k : Int) + 1) % (List.length (gI ((facesR g r).1) (q : Int)) : Int))))))) rfl (fun w' hw' => e_pick_f rfl (decide_eq_false q114) rfl) ?_
     refine q_nil ?_
     intro w60 hc61
     replace hc61 := chg_below hc61 g33
     have p16 : (behS (gI r (toS g (gI (gI ((facesR g r).1) (q : Int)) (k : Int)))) (twin (gI (gI ((facesR g r).1) (q : Int)) (k : Int)))) = (gI (gI ((facesR g r).1) (q : Int)) (((k : Int) + 1) % (List.length (gI ((facesR g r).1) (q : Int)) : Int))) := by first | exact hx2 | exact hx3 | exact hx4 | exact hcd | exact hnum | omega | exact hmq2 | exact hmq3 | exact decide_eq_true hmq3 | exact hle.done hmq4 (by omega) (by omega)
     refine run_cond_f rfl (congrArg Bool.not (decide_eq_true p16)) ?_
     refine run_skip ?_
     refine run_seq ?_
     clear cel55
     clear r56
     clear r59
     refine run_region rfl ?_
     refine l_val (v := v22) rfl (e_move (by exact zs9)) ?_
     refine l_val (v := Value.int .i64 (gI (gI ((facesR g r).1) (q : Int)) (k : Int))) rfl (e_move rfl) ?_
     replace o24 := o24.chg hc61 (not_no _) (not_no _)
     refine l_val (v := Value.pointer (some (eAddr v22 1 (Int.toNat (gI (gI ((facesR g r).1) (q : Int)) (k : Int)))))) rfl (e_indexAddr (α := Bool) (xs := seen1) (v := v22) (i := (gI (gI ((facesR g r).1) (q : Int)) (k : Int))) Try.underlying34 rfl rfl o24.flat rfl (by omega) (by omega)) ?_
     refine l_op rfl ?_
     refine o_store_el (i := (gI (gI ((facesR g r).1) (q : Int)) (k : Int))) true tp4_n rfl rfl o24 (by omega) (by omega) rfl ?_
     intro w62 ch63 bx64
     clear o24
     refine l_nil ?_
     refine run_region rfl ?_
     refine l_val (v := Value.int .i64 count1) rfl (e_move (by exact zs10)) ?_
     refine l_val (v := Value.int .i64 (count1 + 1)) rfl (e_add (m := count1) (n := 1) rfl rfl (by omega)) ?_
     refine l_val (v := Value.int .i64 (count1 + 1)) rfl (e_assign rfl) ?_
     refine l_nil ?_
     refine run_inBlock ?_
     refine run_region rfl ?_
     refine l_val (v := Value.int .i64 (k : Int)) rfl (e_move (by exact zs12)) ?_
     refine l_val (v := Value.int .i64 ((k : Int) + 1)) rfl (e_add (m := (k : Int)) (n := 1) rfl rfl (by omega)) ?_
     refine l_val (v := Value.int .i64 ((k : Int) + 1)) rfl (e_assign rfl) ?_
     refine l_nil ?_
     have C65 : Chg (inl [3]) _ _ _ _ := (ch38.n).seq ((hc50.n).seq ((ch51.n).seq ((hc61.n).seq (ch63.l rfl))))
     replace hbase := hbase.chg C65 (is_nl rfl)
     replace r_g_v := (r_g_v.chg hc61 (not_no _)).chg ch63 (is_ne rfl)
     replace r_r_v := (r_r_v.chg hc61 (not_no _)).chg ch63 (is_ne rfl)
     replace bx5 := (bx5.chg hc61 (not_no _)).chg ch63 (is_ne rfl)
     replace o12 := (o12.chg hc61 (not_no _)).chg ch63 (is_ne rfl)
     refine back13 (count1 + 1, k + 1, (List.set seen1 (Int.toNat (gI (gI ((facesR g r).1) (q : Int)) (k : Int))) true), g33) _ _ ⟨hbase, (by exact zs1), (by exact zs2), (by exact zs5), (by exact zs7), (by exact zs9), rfl, (by exact zs11), rfl, r_g_v, r_r_v, bx5, o12, bx64, by omega, ?_⟩ ?_
     · show FcInv g (facesR g r).1 (List.set seen1 (Int.toNat (gI (gI ((facesR g r).1) (q : Int)) (k : Int))) true) (count1 + 1) q (k + 1)
       exact hx5
     · show Int.toNat (((List.length (gI ((facesR g r).1) (q : Int)) : Int) : Int) - ((k + 1) : Int)) < Int.toNat (((List.length (gI ((facesR g r).1) (q : Int)) : Int) : Int) - (k : Int))
       omega
    refine run_cond_f rfl (decide_eq_false p13) ?_
    refine run_exit rfl ?_
    refine run_inBlock ?_
    clear cel35
    clear r36
    refine run_region rfl ?_
    refine l_val (v := Value.int .i64 (q : Int)) rfl (e_move (by exact zs11)) ?_
    refine l_val (v := Value.int .i64 ((q : Int) + 1)) rfl (e_add (m := (q : Int)) (n := 1) rfl rfl (by omega)) ?_
    refine l_val (v := Value.int .i64 ((q : Int) + 1)) rfl (e_assign rfl) ?_
    refine l_nil ?_
    refine back10 (count1, q + 1, seen1, g33) _ _ ⟨hbase, (by exact zs1), (by exact zs2), (by exact zs5), (by exact zs7), (by exact zs9), (by exact zs10), rfl, r_g_v, r_r_v, bx5, o12, o24, by omega, ?_⟩ ?_
    · show FcInv g (facesR g r).1 seen1 count1 (q + 1) 0
      exact hfk.row_done (by assumption) (by assumption)
    · show Int.toNat (((List.length ((facesR g r).1) : Int) : Int) - ((q + 1) : Int)) < Int.toNat (((List.length ((facesR g r).1) : Int) : Int) - (q : Int))
      omega
   refine run_cond_f rfl (decide_eq_false p10) ?_
   refine run_exit rfl ?_
   refine run_seq ?_
   refine run_region rfl ?_
   refine l_val (v := Value.agg (List.toArray [Value.int .i64 g.1, g_v])) rfl (e_load_bxN (ds := [Value.int .i64 g.1, g_v]) tp24_n (by exact zs2) bx5 rfl rfl) ?_
   refine l_op rfl ?_
   refine o_callx (e_call (vals := [Value.agg (List.toArray [Value.int .i64 g.1, g_v]), Value.slice none 0 0, Value.slice none 0 0]) Try.func16 bd16_n nm16_n rfl) (rParts_ok w28 g g_v (r_g_v).ro (by assumption)) ?_
   rintro ⟨d67, v69⟩ w66 ⟨fr68, o70⟩
   obtain ⟨g71, hg71⟩ : ∃ q, q = glue w28.heap.size g29 d67 (fun n => if n = 1 then 4 else 0) := ⟨_, rfl⟩
   have ch72 := chg_glue fr68.below g29 d67 (fun n => if n = 1 then 4 else 0)
   rw [← hg71] at ch72
   replace o70 := o70.glue (γ := g29) (ren := (fun n => if n = 1 then 4 else 0)) (k := 4) fr68.col rfl rfl
   rw [← hg71] at o70
   clear hg71
   refine l_val (v := Value.tuple (List.toArray [v69, Value.int .i64 ((partsR g).2.1)])) rfl (e_move rfl) ?_
   refine l_val (v := v69) rfl (e_extract rfl rfl) ?_
   refine l_val (v := Value.int .i64 ((partsR g).2.1)) rfl (e_extract rfl rfl) ?_
   refine l_val (v := v69) rfl (e_assign rfl) ?_
   refine l_val (v := Value.int .i64 ((partsR g).2.1)) rfl (e_assign rfl) ?_
   refine l_nil ?_
   refine run_seq ?_
   refine run_seq ?_
   clear o70
   have hcd := hfc.done hrp hFe (by assumption)
   refine run_region rfl ?_
   refine l_val (v := Value.int .i64 count) rfl (e_move (by exact zs10)) ?_
   refine l_val (v := v22) rfl (e_move (by exact zs9)) ?_
   replace o24 := o24.chg ch72 (not_no _) (not_no _)
   have len73 := (o24.flat).small
   refine l_val (v := Value.int .i64 (List.length seen : Int)) rfl (e_len Try.underlying34 rfl o24.flat) ?_
   refine l_val (v := Value.bool (!(decide (count = (List.length seen : Int))))) rfl (e_neq (m := count) (n := (List.length seen : Int)) rfl rfl) ?_
   refine l_val (v := Value.bool (!(decide (count = (List.length seen : Int))))) rfl (e_move rfl) ?_
   have q141 : count = (List.length seen : Int) := by first | exact hx2 | exact hx3 | exact hx4 | exact hcd | exact hnum | omega | exact hmq2 | exact hmq3 | exact decide_eq_true hmq3 | exact hle.done hmq4 (by omega) (by omega)
   refine l_val (v := Value.pointer (some ⟨b3, 0, none⟩)) (want_y rfl rfl rfl (congrArg Bool.not (decide_eq_true q141))) (e_fieldAddr Try.underlying24 rfl rfl (by exact zs2) rfl) ?_
   replace bx5 := bx5.chg ch72 (not_no _)
   refine l_val (v := Value.int .i64 g.1) (want_y rfl rfl rfl (congrArg Bool.not (decide_eq_true q141))) (e_load_bx1 tp3_n rfl bx5 rfl) ?_
   refine l_val (v := Value.pointer (some ⟨b3, 1, none⟩)) (want_y rfl rfl rfl (congrArg Bool.not (decide_eq_true q141))) (e_fieldAddr Try.underlying24 rfl rfl (by exact zs2) rfl) ?_
   refine l_val (v := g_v) (want_y rfl rfl rfl (congrArg Bool.not (decide_eq_true q141))) (e_load_bx1 tp22_n rfl bx5 rfl) ?_
   replace r_g_v := r_g_v.chg ch72 (not_no _)
   refine l_val (v := Value.int .i64 (List.length g.2 : Int)) (want_y rfl rfl rfl (congrArg Bool.not (decide_eq_true q141))) (e_len Try.underlying22 rfl r_g_v) ?_
   refine l_val (v := Value.int .i64 (g.1 - (List.length g.2 : Int))) (want_y rfl rfl rfl (congrArg Bool.not (decide_eq_true q141))) (e_sub (m := g.1) (n := (List.length g.2 : Int)) rfl rfl (by omega)) ?_
   refine l_val (v := v11) (want_y rfl rfl rfl (congrArg Bool.not (decide_eq_true q141))) (e_move (by exact zs5)) ?_
   replace o12 := o12.chg ch72 (not_no _)
   refine l_val (v := Value.int .i64 (List.length ((facesR g r).1) : Int)) (want_y rfl rfl rfl (congrArg Bool.not (decide_eq_true q141))) (e_len Try.underlying25 rfl o12.sl) ?_
   refine l_val (v := Value.int .i64 ((g.1 - (List.length g.2 : Int)) + (List.length ((facesR g r).1) : Int))) (want_y rfl rfl rfl (congrArg Bool.not (decide_eq_true q141))) (e_add (m := g.1 - (List.length g.2 : Int)) (n := (List.length ((facesR g r).1) : Int)) rfl rfl (by omega)) ?_
   refine l_val (v := Value.int .i64 ((partsR g).2.1)) (want_y rfl rfl rfl (congrArg Bool.not (decide_eq_true q141))) (e_move rfl) ?_
   refine l_val (v := Value.int .i64 (2 * ((partsR g).2.1))) (want_y rfl rfl rfl (congrArg Bool.not (decide_eq_true q141))) (e_mul (m := 2) (n := (partsR g).2.1) rfl rfl (by omega)) ?_
   refine l_val (v := Value.int .i64 ((genusR g r).1)) (want_y rfl rfl rfl (congrArg Bool.not (decide_eq_true q141))) (e_move (by exact zs7)) ?_
   refine l_val (v := Value.int .i64 (2 * ((genusR g r).1))) (want_y rfl rfl rfl (congrArg Bool.not (decide_eq_true q141))) (e_mul (m := 2) (n := (genusR g r).1) rfl rfl (by omega)) ?_
   refine l_val (v := Value.int .i64 ((2 * ((partsR g).2.1)) - (2 * ((genusR g r).1)))) (want_y rfl rfl rfl (congrArg Bool.not (decide_eq_true q141))) (e_sub (m := 2 * ((partsR g).2.1)) (n := 2 * ((genusR g r).1)) rfl rfl (by omega)) ?_
   refine l_val (v := Value.bool (!(decide (((g.1 - (List.length g.2 : Int)) + (List.length ((facesR g r).1) : Int)) = ((2 * ((partsR g).2.1)) - (2 * ((genusR g r).1))))))) (want_y rfl rfl rfl (congrArg Bool.not (decide_eq_true q141))) (e_neq (m := (g.1 - (List.length g.2 : Int)) + (List.length ((facesR g r).1) : Int)) (n := (2 * ((partsR g).2.1)) - (2 * ((genusR g r).1))) rfl rfl) ?_
   refine l_val (v := Value.bool (!(decide (((g.1 - (List.length g.2 : Int)) + (List.length ((facesR g r).1) : Int)) = ((2 * ((partsR g).2.1)) - (2 * ((genusR g r).1))))))) rfl (e_pick_f rfl (congrArg Bool.not (decide_eq_true q141)) rfl) ?_
   refine l_val (v := Value.bool (!(decide (((g.1 - (List.length g.2 : Int)) + (List.length ((facesR g r).1) : Int)) = ((2 * ((partsR g).2.1)) - (2 * ((genusR g r).1))))))) rfl (e_move rfl) ?_
   have q158 : ((g.1 - (List.length g.2 : Int)) + (List.length ((facesR g r).1) : Int)) = ((2 * ((partsR g).2.1)) - (2 * ((genusR g r).1))) := by first | exact hx2 | exact hx3 | exact hx4 | exact hcd | exact hnum | omega | exact hmq2 | exact hmq3 | exact decide_eq_true hmq3 | exact hle.done hmq4 (by omega) (by omega)
   refine l_val (v := Value.int .i64 ((genusR g r).1)) (want_y rfl rfl rfl (congrArg Bool.not (decide_eq_true q158))) (e_move (by exact zs7)) ?_
   refine l_val (v := Value.bool (decide (((genusR g r).1) < 0))) (want_y rfl rfl rfl (congrArg Bool.not (decide_eq_true q158))) (e_lss (m := (genusR g r).1) (n := 0) rfl rfl) ?_
   refine l_val (v := Value.bool (decide (((genusR g r).1) < 0))) rfl (e_pick_f rfl (congrArg Bool.not (decide_eq_true q158)) rfl) ?_
   refine l_nil ?_
   have p21 : ¬ (((genusR g r).1) < 0) := by first | exact hx2 | exact hx3 | exact hx4 | exact hcd | exact hnum | omega | exact hmq2 | exact hmq3 | exact decide_eq_true hmq3 | exact hle.done hmq4 (by omega) (by omega)
   refine run_cond_f rfl (decide_eq_false p21) ?_
   refine run_skip ?_
   refine run_seq ?_
   clear o24
   refine run_region rfl ?_
   refine l_val (v := Value.agg (List.toArray [Value.int .i64 g.1, g_v])) rfl (e_load_bxN (ds := [Value.int .i64 g.1, g_v]) tp24_n (by exact zs2) bx5 rfl rfl) ?_
   refine l_val (v := r_v) rfl (e_move (by exact zs1)) ?_
   replace r_r_v := r_r_v.chg ch72 (not_no _)
   refine l_op rfl ?_
   refine o_callx (e_call (vals := [Value.agg (List.toArray [Value.int .i64 g.1, g_v]), r_v]) Try.func17 bd17_n nm17_n rfl) (RMirror_ok w66 g g_v (r_g_v).ro r r_v (r_r_v).ro) ?_
   rintro ⟨d75, v77⟩ w74 ⟨fr76, o78⟩
   obtain ⟨g79, hg79⟩ : ∃ q, q = glue w66.heap.size g71 d75 (fun n => if n = 1 then 5 else 0) := ⟨_, rfl⟩
   have ch80 := chg_glue fr76.below g71 d75 (fun n => if n = 1 then 5 else 0)
   rw [← hg79] at ch80
   replace o78 := o78.glue (γ := g71) (ren := (fun n => if n = 1 then 5 else 0)) (k := 5) fr76.col rfl rfl
   rw [← hg79] at o78
   clear hg79
   refine l_val (v := Value.tuple (List.toArray [v77, Value.int .i64 ((mirrorR g r).2)])) rfl (e_move rfl) ?_
   refine l_val (v := v77) rfl (e_extract rfl rfl) ?_
   refine l_val (v := Value.int .i64 ((mirrorR g r).2)) rfl (e_extract rfl rfl) ?_
   refine l_val (v := v77) rfl (e_assign rfl) ?_
   refine l_val (v := Value.int .i64 ((mirrorR g r).2)) rfl (e_assign rfl) ?_
   refine l_nil ?_
   refine run_seq ?_
   refine run_region rfl ?_
   replace bx5 := bx5.chg ch80 (not_no _)
   refine l_val (v := Value.agg (List.toArray [Value.int .i64 g.1, g_v])) rfl (e_load_bxN (ds := [Value.int .i64 g.1, g_v]) tp24_n (by exact zs2) bx5 rfl rfl) ?_
   refine l_val (v := v77) rfl (e_move rfl) ?_
   replace r_g_v := r_g_v.chg ch80 (not_no _)
   refine l_op rfl ?_
   refine o_callx (e_call (vals := [Value.agg (List.toArray [Value.int .i64 g.1, g_v]), v77]) Try.func10 bd10_n nm10_n rfl) (Faces_ok w74 g g_v (r_g_v).ro ((mirrorR g r).1) v77 (o78.sl).ro) ?_
   rintro ⟨d82, v84⟩ w81 ⟨fr83, o85⟩
   obtain ⟨g86, hg86⟩ : ∃ q, q = glue w74.heap.size g79 d82 (fun n => if n = 1 then 6 else 0) := ⟨_, rfl⟩
   have ch87 := chg_glue fr83.below g79 d82 (fun n => if n = 1 then 6 else 0)
   rw [← hg86] at ch87
   replace o85 := o85.glue (γ := g79) (ren := (fun n => if n = 1 then 6 else 0)) (k := 6) fr83.col rfl rfl
   rw [← hg86] at o85
   clear hg86
   refine l_val (v := Value.tuple (List.toArray [v84, Value.int .i64 ((facesR g ((mirrorR g r).1)).2)])) rfl (e_move rfl) ?_
   refine l_val (v := v84) rfl (e_extract rfl rfl) ?_
   refine l_val (v := Value.int .i64 ((facesR g ((mirrorR g r).1)).2)) rfl (e_extract rfl rfl) ?_
   refine l_val (v := v84) rfl (e_assign rfl) ?_
   refine l_val (v := Value.int .i64 ((facesR g ((mirrorR g r).1)).2)) rfl (e_assign rfl) ?_
   refine l_nil ?_
   refine run_seq ?_
   refine run_region rfl ?_
   replace bx5 := bx5.chg ch87 (not_no _)
   refine l_val (v := Value.agg (List.toArray [Value.int .i64 g.1, g_v])) rfl (e_load_bxN (ds := [Value.int .i64 g.1, g_v]) tp24_n (by exact zs2) bx5 rfl rfl) ?_
   refine l_val (v := v77) rfl (e_move rfl) ?_
   replace r_g_v := r_g_v.chg ch87 (not_no _)
   replace o78 := o78.chg ch87 (not_no _)
   refine l_op rfl ?_
   refine o_call (v := Value.tuple (List.toArray [Value.int .i64 ((genusR g ((mirrorR g r).1)).1), Value.int .i64 ((genusR g ((mirrorR g r).1)).2)])) (e_call (vals := [Value.agg (List.toArray [Value.int .i64 g.1, g_v]), v77]) Try.func11 bd11_n nm11_n rfl) (Genus_ok w81 g g_v (r_g_v).ro ((mirrorR g r).1) v77 (o78.sl).ro) ?_
   intro w88 hb89
   replace hb89 := chg_below hb89 g86
   refine l_val (v := Value.tuple (List.toArray [Value.int .i64 ((genusR g ((mirrorR g r).1)).1), Value.int .i64 ((genusR g ((mirrorR g r).1)).2)])) rfl (e_move rfl) ?_
   refine l_val (v := Value.int .i64 ((genusR g ((mirrorR g r).1)).1)) rfl (e_extract rfl rfl) ?_
   refine l_val (v := Value.int .i64 ((genusR g ((mirrorR g r).1)).2)) rfl (e_extract rfl rfl) ?_
   refine l_val (v := Value.int .i64 ((genusR g ((mirrorR g r).1)).1)) rfl (e_assign rfl) ?_
   refine l_val (v := Value.int .i64 ((genusR g ((mirrorR g r).1)).2)) rfl (e_assign rfl) ?_
   refine l_nil ?_
   refine run_seq ?_
   refine run_region rfl ?_
   replace bx5 := bx5.chg hb89 (not_no _)
   refine l_val (v := Value.agg (List.toArray [Value.int .i64 g.1, g_v])) rfl (e_load_bxN (ds := [Value.int .i64 g.1, g_v]) tp24_n (by exact zs2) bx5 rfl rfl) ?_
   refine l_val (v := v77) rfl (e_move rfl) ?_
   replace r_g_v := r_g_v.chg hb89 (not_no _)
   replace o78 := o78.chg hb89 (not_no _)
   refine l_op rfl ?_
   refine o_callx (e_call (vals := [Value.agg (List.toArray [Value.int .i64 g.1, g_v]), v77]) Try.func17 bd17_n nm17_n rfl) (RMirror_ok w88 g g_v (r_g_v).ro ((mirrorR g r).1) v77 (o78.sl).ro) ?_
   rintro ⟨d91, v93⟩ w90 ⟨fr92, o94⟩
   obtain ⟨g95, hg95⟩ : ∃ q, q = glue w88.heap.size g86 d91 (fun n => if n = 1 then 7 else 0) := ⟨_, rfl⟩
   have ch96 := chg_glue fr92.below g86 d91 (fun n => if n = 1 then 7 else 0)
   rw [← hg95] at ch96
   replace o94 := o94.glue (γ := g86) (ren := (fun n => if n = 1 then 7 else 0)) (k := 7) fr92.col rfl rfl
   rw [← hg95] at o94
   clear hg95
   refine l_val (v := Value.tuple (List.toArray [v93, Value.int .i64 ((mirrorR g ((mirrorR g r).1)).2)])) rfl (e_move rfl) ?_
   refine l_val (v := v93) rfl (e_extract rfl rfl) ?_
   refine l_val (v := Value.int .i64 ((mirrorR g ((mirrorR g r).1)).2)) rfl (e_extract rfl rfl) ?_
   refine l_val (v := v93) rfl (e_assign rfl) ?_
   refine l_val (v := Value.int .i64 ((mirrorR g ((mirrorR g r).1)).2)) rfl (e_assign rfl) ?_
   refine l_nil ?_
   refine run_seq ?_
   clear o78
   refine run_region rfl ?_
   replace bx5 := bx5.chg ch96 (not_no _)
   refine l_val (v := Value.agg (List.toArray [Value.int .i64 g.1, g_v])) rfl (e_load_bxN (ds := [Value.int .i64 g.1, g_v]) tp24_n (by exact zs2) bx5 rfl rfl) ?_
   refine l_val (v := r_v) rfl (e_move (by exact zs1)) ?_
   replace r_g_v := r_g_v.chg ch96 (not_no _)
   have C97 : Chg (inl []) _ _ _ _ := (ch80.n).seq ((ch87.n).seq ((hb89.n).seq (ch96.n)))
   replace r_r_v := r_r_v.chg C97 (is_nl rfl)
   refine l_op rfl ?_
   refine o_callx (e_call (vals := [Value.agg (List.toArray [Value.int .i64 g.1, g_v]), r_v]) Try.func18 bd18_n nm18_n rfl) (RCanon_ok w90 g g_v (r_g_v).ro r r_v (r_r_v).ro) ?_
   rintro ⟨d99, v101⟩ w98 ⟨fr100, o102⟩
   obtain ⟨g103, hg103⟩ : ∃ q, q = glue w90.heap.size g95 d99 (fun n => if n = 1 then 8 else 0) := ⟨_, rfl⟩
   have ch104 := chg_glue fr100.below g95 d99 (fun n => if n = 1 then 8 else 0)
   rw [← hg103] at ch104
   replace o102 := o102.glue (γ := g95) (ren := (fun n => if n = 1 then 8 else 0)) (k := 8) fr100.col rfl rfl
   rw [← hg103] at o102
   clear hg103
   refine l_val (v := Value.tuple (List.toArray [v101, Value.int .i64 ((canonR g r).2)])) rfl (e_move rfl) ?_
   refine l_val (v := v101) rfl (e_extract rfl rfl) ?_
   refine l_val (v := Value.int .i64 ((canonR g r).2)) rfl (e_extract rfl rfl) ?_
   refine l_val (v := v101) rfl (e_assign rfl) ?_
   refine l_val (v := Value.int .i64 ((canonR g r).2)) rfl (e_assign rfl) ?_
   refine l_nil ?_
   refine run_seq ?_
   refine run_seq ?_
   refine run_region rfl ?_
   refine l_val (v := v84) rfl (e_move rfl) ?_
   have C105 : Chg (inl []) _ _ _ _ := (hb89.n).seq ((ch96.n).seq (ch104.n))
   replace o85 := o85.chg C105 (is_nl rfl)
   have len106 := (o85.sl).small
   refine l_val (v := Value.int .i64 (List.length ((facesR g ((mirrorR g r).1)).1) : Int)) rfl (e_len Try.underlying25 rfl o85.sl) ?_
   refine l_val (v := v11) rfl (e_move (by exact zs5)) ?_
   have C107 : Chg (inl []) _ _ _ _ := (ch80.n).seq ((ch87.n).seq ((hb89.n).seq ((ch96.n).seq (ch104.n))))
   replace o12 := o12.chg C107 (is_nl rfl)
   refine l_val (v := Value.int .i64 (List.length ((facesR g r).1) : Int)) rfl (e_len Try.underlying25 rfl o12.sl) ?_
   refine l_val (v := Value.bool (!(decide ((List.length ((facesR g ((mirrorR g r).1)).1) : Int) = (List.length ((facesR g r).1) : Int))))) rfl (e_neq (m := (List.length ((facesR g ((mirrorR g r).1)).1) : Int)) (n := (List.length ((facesR g r).1) : Int)) rfl rfl) ?_
   refine l_val (v := Value.bool (!(decide ((List.length ((facesR g ((mirrorR g r).1)).1) : Int) = (List.length ((facesR g r).1) : Int))))) rfl (e_move rfl) ?_
   have q197 : (List.length ((facesR g ((mirrorR g r).1)).1) : Int) = (List.length ((facesR g r).1) : Int) := by first | exact hx2 | exact hx3 | exact hx4 | exact hcd | exact hnum | omega | exact hmq2 | exact hmq3 | exact decide_eq_true hmq3 | exact hle.done hmq4 (by omega) (by omega)
   refine l_val (v := Value.int .i64 ((genusR g ((mirrorR g r).1)).1)) (want_y rfl rfl rfl (congrArg Bool.not (decide_eq_true q197))) (e_move rfl) ?_
   refine l_val (v := Value.int .i64 ((genusR g r).1)) (want_y rfl rfl rfl (congrArg Bool.not (decide_eq_true q197))) (e_move (by exact zs7)) ?_
   refine l_val (v := Value.bool (!(decide (((genusR g ((mirrorR g r).1)).1) = ((genusR g r).1))))) (want_y rfl rfl rfl (congrArg Bool.not (decide_eq_true q197))) (e_neq (m := (genusR g ((mirrorR g r).1)).1) (n := (genusR g r).1) rfl rfl) ?_
   refine l_val (v := Value.bool (!(decide (((genusR g ((mirrorR g r).1)).1) = ((genusR g r).1))))) rfl (e_pick_f rfl (congrArg Bool.not (decide_eq_true q197)) rfl) ?_
   refine l_val (v := Value.bool (!(decide (((genusR g ((mirrorR g r).1)).1) = ((genusR g r).1))))) rfl (e_move rfl) ?_
   have q202 : ((genusR g ((mirrorR g r).1)).1) = ((genusR g r).1) := by first | exact hx2 | exact hx3 | exact hx4 | exact hcd | exact hnum | omega | exact hmq2 | exact hmq3 | exact decide_eq_true hmq3 | exact hle.done hmq4 (by omega) (by omega)
   refine l_val (v := v93) (want_y rfl rfl rfl (congrArg Bool.not (decide_eq_true q202))) (e_move rfl) ?_
   refine l_val (v := v101) (want_y rfl rfl rfl (congrArg Bool.not (decide_eq_true q202))) (e_move rfl) ?_
   replace o94 := o94.chg ch104 (not_no _)
   refine l_op (want_y rfl rfl rfl (congrArg Bool.not (decide_eq_true q202))) ?_
   refine o_call (v := Value.bool (decide (((mirrorR g ((mirrorR g r).1)).1) = ((canonR g r).1)))) (e_call (vals := [v93, v101]) Try.func19 bd19_n nm19_n rfl) (Lists_ok w98 ((mirrorR g ((mirrorR g r).1)).1) v93 (o94.sl).ro ((canonR g r).1) v101 (o102.sl).ro) ?_
   intro w108 hb109
   replace hb109 := chg_below hb109 g103
   refine l_val (v := Value.bool (!(decide (((mirrorR g ((mirrorR g r).1)).1) = ((canonR g r).1))))) (want_y rfl rfl rfl (congrArg Bool.not (decide_eq_true q202))) (e_not (b := (decide (((mirrorR g ((mirrorR g r).1)).1) = ((canonR g r).1)))) rfl) ?_
   refine l_val (v := Value.bool (!(decide (((mirrorR g ((mirrorR g r).1)).1) = ((canonR g r).1))))) rfl (e_pick_f rfl (congrArg Bool.not (decide_eq_true q202)) rfl) ?_
   refine l_nil ?_
   have p28 : (decide (((mirrorR g ((mirrorR g r).1)).1) = ((canonR g r).1))) = true := by first | exact hx2 | exact hx3 | exact hx4 | exact hcd | exact hnum | omega | exact hmq2 | exact hmq3 | exact decide_eq_true hmq3 | exact hle.done hmq4 (by omega) (by omega)
   refine run_cond_f rfl (congrArg Bool.not p28) ?_
   refine run_skip ?_
   refine run_seq ?_
   clear o94
   clear o102
   refine run_region rfl ?_
   refine l_val (v := Value.pointer (some ⟨b3, 1, none⟩)) rfl (e_fieldAddr Try.underlying24 rfl rfl (by exact zs2) rfl) ?_
   replace bx5 := (bx5.chg ch104 (not_no _)).chg hb109 (not_no _)
   refine l_val (v := g_v) rfl (e_load_bx1 tp22_n rfl bx5 rfl) ?_
   replace r_g_v := (r_g_v.chg ch104 (not_no _)).chg hb109 (not_no _)
   refine l_val (v := Value.int .i64 (List.length g.2 : Int)) rfl (e_len Try.underlying22 rfl r_g_v) ?_
   refine l_val (v := Value.int .i64 (2 * (List.length g.2 : Int))) rfl (e_mul (m := 2) (n := (List.length g.2 : Int)) rfl rfl (by omega)) ?_
   refine l_val (v := Value.int .i64 ((2 * (List.length g.2 : Int)) + 1)) rfl (e_add (m := 2 * (List.length g.2 : Int)) (n := 1) rfl rfl (by omega)) ?_
   refine l_op rfl ?_
   refine o_make (α := Int) (l := (2 * (List.length g.2 : Int)) + 1) (cp := (2 * (List.length g.2 : Int)) + 1) g103 (is 9) (is 9) (9, 0) rfl (0 : Int) Try.underlying35 tp3_n rfl rfl rfl (by omega) (by omega) (by omega) (by omega) ?_
   intro g110 w111 v112 ch113 o114 _
   refine l_val (v := v112) rfl (e_assign rfl) ?_
   refine l_nil ?_
   refine run_seq ?_
   refine run_seq ?_
   clear bx5
   refine run_region rfl ?_
   refine l_val (v := Value.int .i64 0) rfl (e_assign rfl) ?_
   refine l_nil ?_
   refine run_block ?_
   refine run_loop (σ := Nat × (List Int) × Cmap) (fun ⟨p, lengths, gq⟩ f w => Base w0 gq w ∧ f 5 = v11 ∧ f 19 = v84 ∧ f 27 = v112 ∧ f 28 = Value.int .i64 (p : Int) ∧ Sl gq (is 0) w g_v g.2 ∧ Sl gq (is 0) w r_v r ∧ Nst gq 2 w v11 ((facesR g r).1) ∧ Nst gq 6 w v84 ((facesR g ((mirrorR g r).1)).1) ∧ Ow gq (is 9) (is 9) w v112 lengths ∧ (p : Int) ≤ ((List.length ((facesR g r).1) : Int) : Int) ∧ (LenInv lengths (facesR g r).1 (facesR g (mirrorR g r).1).1 (2 * (g.2.length : Int) + 1) p)) (fun ⟨p, lengths, gq⟩ => Int.toNat (((List.length ((facesR g r).1) : Int) : Int) - (p : Int))) (0, (List.replicate (Int.toNat ((2 * (List.length g.2 : Int)) + 1)) (0 : Int)), g110) ?_ ?_
   have C115 : Chg (inl []) _ _ _ _ := (ch72.n).seq ((ch80.n).seq ((ch87.n).seq ((hb89.n).seq ((ch96.n).seq ((ch104.n).seq ((hb109.n).seq (ch113.n)))))))
   replace hbase := hbase.chg C115 (is_nl rfl)
   replace r_g_v := r_g_v.chg ch113 (not_no _)
   have C116 : Chg (inl []) _ _ _ _ := (ch104.n).seq ((hb109.n).seq (ch113.n))
   replace r_r_v := r_r_v.chg C116 (is_nl rfl)
   replace o12 := (o12.chg hb109 (not_no _)).chg ch113 (not_no _)
   replace o85 := (o85.chg hb109 (not_no _)).chg ch113 (not_no _)
   · exact ⟨hbase, (by exact zs5), rfl, rfl, rfl, r_g_v, r_r_v, o12, o85, o114, by omega, by exact LenInv.start _ _ (by omega)⟩
   clear r_g_v
   clear r_r_v
   clear o12
   clear o85
   clear o114
   clear hbase
   rintro ⟨p, lengths, g119⟩ f117 w118 ⟨hbase, zs5, zs19, zs27, zs28, r_g_v, r_r_v, o12, o85, o114, hle_p, hle⟩ back32
   have hll := hle.len
   refine run_seq ?_
   refine run_seq ?_
   refine run_region rfl ?_
   refine l_val (v := Value.int .i64 (p : Int)) rfl (e_move (by exact zs28)) ?_
   refine l_val (v := v11) rfl (e_move (by exact zs5)) ?_
   refine l_val (v := Value.int .i64 (List.length ((facesR g r).1) : Int)) rfl (e_len Try.underlying25 rfl o12.sl) ?_
   refine l_val (v := Value.bool (decide ((p : Int) < (List.length ((facesR g r).1) : Int)))) rfl (e_lss (m := (p : Int)) (n := (List.length ((facesR g r).1) : Int)) rfl rfl) ?_
   refine l_nil ?_
   by_cases p32 : (p : Int) < (List.length ((facesR g r).1) : Int)
   ·
    refine run_cond_t rfl (decide_eq_true p32) ?_
    have hl1 := hflen p (by assumption)
    have hl2 := hplen p (by omega)
    have hb1 := hle.bd (i := (gI (facesR g r).1 (p : Int)).length) hl1
    have hb2 := hle.bd (i := (gI (facesR g (mirrorR g r).1).1 (p : Int)).length) hl2
    have hb3 := hle.more hl1 hl2
    refine run_skip ?_
    refine run_seq ?_
    refine run_block ?_
    refine run_seq ?_
    refine run_region rfl ?_
    refine l_val (v := v112) rfl (e_move (by exact zs27)) ?_
    refine l_val (v := v11) rfl (e_move (by exact zs5)) ?_
    refine l_val (v := Value.int .i64 (p : Int)) rfl (e_move (by exact zs28)) ?_
    refine l_val (v := Value.pointer (some (eAddr v11 1 (Int.toNat (p : Int))))) rfl (e_indexAddr (α := List Int) (xs := (facesR g r).1) (v := v11) (i := (p : Int)) Try.underlying25 rfl rfl o12.sl rfl (by omega) (by omega)) ?_
    obtain ⟨v120, cel121, r122⟩ := nst_row (r := (p : Int)) o12 (by omega) (by omega)
    refine l_val (v := v120) rfl (e_load1 tp35_n rfl cel121) ?_
    have len123 := (r122.row_sl).small
    refine l_val (v := Value.int .i64 (List.length (gI ((facesR g r).1) (p : Int)) : Int)) rfl (e_len Try.underlying35 rfl r122.row_sl) ?_
    refine l_val (v := Value.pointer (some (eAddr v112 1 (Int.toNat (List.length (gI ((facesR g r).1) (p : Int)) : Int))))) rfl (e_indexAddr (α := Int) (xs := lengths) (v := v112) (i := (List.length (gI ((facesR g r).1) (p : Int)) : Int)) Try.underlying35 rfl rfl o114.flat rfl (by omega) (by omega)) ?_
    refine l_val (v := Value.int .i64 (gI lengths (List.length (gI ((facesR g r).1) (p : Int)) : Int))) rfl (e_load_el1 (α := Int) (xs := lengths) (v := v112) (i := (List.length (gI ((facesR g r).1) (p : Int)) : Int)) tp3_n rfl o114.flat (by omega) (by omega) (by decide) rfl) ?_
    refine l_val (v := Value.int .i64 ((gI lengths (List.length (gI ((facesR g r).1) (p : Int)) : Int)) + 1)) rfl (e_add (m := (gI lengths (List.length (gI ((facesR g r).1) (p : Int)) : Int))) (n := 1) rfl rfl (by omega)) ?_
    refine l_val (v := Value.pointer (some (eAddr v112 1 (Int.toNat (List.length (gI ((facesR g r).1) (p : Int)) : Int))))) rfl (e_indexAddr (α := Int) (xs := lengths) (v := v112) (i := (List.length (gI ((facesR g r).1) (p : Int)) : Int)) Try.underlying35 rfl rfl o114.flat rfl (by omega) (by omega)) ?_
    refine l_op rfl ?_
    refine o_store_el (i := (List.length (gI ((facesR g r).1) (p : Int)) : Int)) ((gI lengths (List.length (gI ((facesR g r).1) (p : Int)) : Int)) + 1) tp3_n rfl rfl o114 (by omega) (by omega) rfl ?_
    intro w124 ch125 bx126
    clear o114
    clear cel121
    refine l_nil ?_
    clear r122
    refine run_region rfl ?_
    refine l_val (v := v112) rfl (e_move (by exact zs27)) ?_
    refine l_val (v := v84) rfl (e_move (by exact zs19)) ?_
    refine l_val (v := Value.int .i64 (p : Int)) rfl (e_move (by exact zs28)) ?_
    replace o85 := o85.chg ch125 (is_ne rfl)
    refine l_val (v := Value.pointer (some (eAddr v84 1 (Int.toNat (p : Int))))) rfl (e_indexAddr (α := List Int) (xs := (facesR g ((mirrorR g r).1)).1) (v := v84) (i := (p : Int)) Try.underlying25 rfl rfl o85.sl rfl (by omega) (by omega)) ?_
    obtain ⟨v127, cel128, r129⟩ := nst_row (r := (p : Int)) o85 (by omega) (by omega)
    refine l_val (v := v127) rfl (e_load1 tp35_n rfl cel128) ?_
    have len130 := (r129.row_sl).small
    refine l_val (v := Value.int .i64 (List.length (gI ((facesR g ((mirrorR g r).1)).1) (p : Int)) : Int)) rfl (e_len Try.underlying35 rfl r129.row_sl) ?_
    refine l_val (v := Value.pointer (some (eAddr v112 1 (Int.toNat (List.length (gI ((facesR g ((mirrorR g r).1)).1) (p : Int)) : Int))))) rfl (e_indexAddr (α := Int) (xs := (List.set lengths (Int.toNat (List.length (gI ((facesR g r).1) (p : Int)) : Int)) ((gI lengths (List.length (gI ((facesR g r).1) (p : Int)) : Int)) + 1))) (v := v112) (i := (List.length (gI ((facesR g ((mirrorR g r).1)).1) (p : Int)) : Int)) Try.underlying35 rfl rfl bx126.flat rfl (by omega) (by first | omega | (simp only [List.length_set, List.length_append, List.length_cons, List.length_nil, List.length_replicate, List.length_map, List.length_take, List.length_drop]; omega) | (simp; done) | (simp; omega))) ?_
    refine l_val (v := Value.int .i64 (gI (List.set lengths (Int.toNat (List.length (gI ((facesR g r).1) (p : Int)) : Int)) ((gI lengths (List.length (gI ((facesR g r).1) (p : Int)) : Int)) + 1)) (List.length (gI ((facesR g ((mirrorR g r).1)).1) (p : Int)) : Int))) rfl (e_load_el1 (α := Int) (xs := (List.set lengths (Int.toNat (List.length (gI ((facesR g r).1) (p : Int)) : Int)) ((gI lengths (List.length (gI ((facesR g r).1) (p : Int)) : Int)) + 1))) (v := v112) (i := (List.length (gI ((facesR g ((mirrorR g r).1)).1) (p : Int)) : Int)) tp3_n rfl bx126.flat (by omega) (by first | omega | (simp only [List.length_set, List.length_append, List.length_cons, List.length_nil, List.length_replicate, List.length_map, List.length_take, List.length_drop]; omega) | (simp; done) | (simp; omega)) (by decide) rfl) ?_
    refine l_val (v := Value.int .i64 ((gI (List.set lengths (Int.toNat (List.length (gI ((facesR g r).1) (p : Int)) : Int)) ((gI lengths (List.length (gI ((facesR g r).1) (p : Int)) : Int)) + 1)) (List.length (gI ((facesR g ((mirrorR g r).1)).1) (p : Int)) : Int)) - 1)) rfl (e_sub (m := (gI (List.set lengths (Int.toNat (List.length (gI ((facesR g r).1) (p : Int)) : Int)) ((gI lengths (List.length (gI ((facesR g r).1) (p : Int)) : Int)) + 1)) (List.length (gI ((facesR g ((mirrorR g r).1)).1) (p : Int)) : Int))) (n := 1) rfl rfl (by omega)) ?_
    refine l_val (v := Value.pointer (some (eAddr v112 1 (Int.toNat (List.length (gI ((facesR g ((mirrorR g r).1)).1) (p : Int)) : Int))))) rfl (e_indexAddr (α := Int) (xs := (List.set lengths (Int.toNat (List.length (gI ((facesR g r).1) (p : Int)) : Int)) ((gI lengths (List.length (gI ((facesR g r).1) (p : Int)) : Int)) + 1))) (v := v112) (i := (List.length (gI ((facesR g ((mirrorR g r).1)).1) (p : Int)) : Int)) Try.underlying35 rfl rfl bx126.flat rfl (by omega) (by first | omega | (simp only [List.length_set, List.length_append, List.length_cons, List.length_nil, List.length_replicate, List.length_map, List.length_take, List.length_drop]; omega) | (simp; done) | (simp; omega))) ?_
    refine l_op rfl ?_
    refine o_store_el (i := (List.length (gI ((facesR g ((mirrorR g r).1)).1) (p : Int)) : Int)) ((gI (List.set lengths (Int.toNat (List.length (gI ((facesR g r).1) (p : Int)) : Int)) ((gI lengths (List.length (gI ((facesR g r).1) (p : Int)) : Int)) + 1)) (List.length (gI ((facesR g ((mirrorR g r).1)).1) (p : Int)) : Int)) - 1) tp3_n rfl rfl bx126 (by omega) (by first | omega | (simp only [List.length_set, List.length_append, List.length_cons, List.length_nil, List.length_replicate, List.length_map, List.length_take, List.length_drop]; omega) | (simp; done) | (simp; omega)) rfl ?_
    intro w131 ch132 bx133
    clear bx126
    clear cel128
    refine l_nil ?_
    refine run_inBlock ?_
    clear r129
    refine run_region rfl ?_
    refine l_val (v := Value.int .i64 (p : Int)) rfl (e_move (by exact zs28)) ?_
    refine l_val (v := Value.int .i64 ((p : Int) + 1)) rfl (e_add (m := (p : Int)) (n := 1) rfl rfl (by omega)) ?_
    refine l_val (v := Value.int .i64 ((p : Int) + 1)) rfl (e_assign rfl) ?_
    refine l_nil ?_
    replace hbase := hbase.chg ch125 (is_ne rfl)
    replace hbase := hbase.chg ch132 (is_ne rfl)
    replace r_g_v := (r_g_v.chg ch125 (is_ne rfl)).chg ch132 (is_ne rfl)
    replace r_r_v := (r_r_v.chg ch125 (is_ne rfl)).chg ch132 (is_ne rfl)
    replace o12 := (o12.chg ch125 (is_ne rfl)).chg ch132 (is_ne rfl)
    replace o85 := o85.chg ch132 (is_ne rfl)
    refine back32 (p + 1, (List.set (List.set lengths (Int.toNat (List.length (gI ((facesR g r).1) (p : Int)) : Int)) ((gI lengths (List.length (gI ((facesR g r).1) (p : Int)) : Int)) + 1)) (Int.toNat (List.length (gI ((facesR g ((mirrorR g r).1)).1) (p : Int)) : Int)) ((gI (List.set lengths (Int.toNat (List.length (gI ((facesR g r).1) (p : Int)) : Int)) ((gI lengths (List.length (gI ((facesR g r).1) (p : Int)) : Int)) + 1)) (List.length (gI ((facesR g ((mirrorR g r).1)).1) (p : Int)) : Int)) - 1)), g119) _ _ ⟨hbase, (by exact zs5), (by exact zs19), (by exact zs27), rfl, r_g_v, r_r_v, o12, o85, bx133, by omega, ?_⟩ ?_
    · show LenInv (List.set (List.set lengths (Int.toNat (List.length (gI ((facesR g r).1) (p : Int)) : Int)) ((gI lengths (List.length (gI ((facesR g r).1) (p : Int)) : Int)) + 1)) (Int.toNat (List.length (gI ((facesR g ((mirrorR g r).1)).1) (p : Int)) : Int)) ((gI (List.set lengths (Int.toNat (List.length (gI ((facesR g r).1) (p : Int)) : Int)) ((gI lengths (List.length (gI ((facesR g r).1) (p : Int)) : Int)) + 1)) (List.length (gI ((facesR g ((mirrorR g r).1)).1) (p : Int)) : Int)) - 1)) (facesR g r).1 (facesR g (mirrorR g r).1).1 (2 * (g.2.length : Int) + 1) (p + 1)
      exact hle.next (by assumption) (by omega) hl1 hl2
    · show Int.toNat (((List.length ((facesR g r).1) : Int) : Int) - ((p + 1) : Int)) < Int.toNat (((List.length ((facesR g r).1) : Int) : Int) - (p : Int))
      omega
   refine run_cond_f rfl (decide_eq_false p32) ?_
   refine run_exit rfl ?_
   refine run_seq ?_
   refine run_seq ?_
   clear o12
   clear o85
   refine run_region rfl ?_
   refine l_val (v := Value.int .i64 0) rfl (e_assign rfl) ?_
   refine l_nil ?_
   refine run_block ?_
   refine run_loop (σ := Nat × Cmap) (fun ⟨i, gq⟩ f w => Base w0 gq w ∧ f 27 = v112 ∧ f 29 = Value.int .i64 (i : Int) ∧ Sl gq (is 0) w g_v g.2 ∧ Sl gq (is 0) w r_v r ∧ Ow gq (is 9) (is 9) w v112 lengths ∧ (i : Int) ≤ ((List.length lengths : Int) : Int) ∧ (True)) (fun ⟨i, gq⟩ => Int.toNat (((List.length lengths : Int) : Int) - (i : Int))) (0, g119) ?_ ?_
   · exact ⟨hbase, (by exact zs27), rfl, r_g_v, r_r_v, o114, by omega, by trivial⟩
   clear r_g_v
   clear r_r_v
   clear o114
   clear hbase
   rintro ⟨i, g136⟩ f134 w135 ⟨hbase, zs27, zs29, r_g_v, r_r_v, o114, hle_i, hinv37⟩ back37
   refine run_seq ?_
   refine run_seq ?_
   refine run_region rfl ?_
   refine l_val (v := Value.int .i64 (i : Int)) rfl (e_move (by exact zs29)) ?_
   refine l_val (v := v112) rfl (e_move (by exact zs27)) ?_
   have len137 := (o114.flat).small
   refine l_val (v := Value.int .i64 (List.length lengths : Int)) rfl (e_len Try.underlying35 rfl o114.flat) ?_
   refine l_val (v := Value.bool (decide ((i : Int) < (List.length lengths : Int)))) rfl (e_lss (m := (i : Int)) (n := (List.length lengths : Int)) rfl rfl) ?_
   refine l_nil ?_
   by_cases p37 : (i : Int) < (List.length lengths : Int)
   ·
    refine run_cond_t rfl (decide_eq_true p37) ?_
    refine run_skip ?_
    refine run_seq ?_
    refine run_block ?_
    refine run_seq ?_
    refine run_region rfl ?_
    refine l_val (v := v112) rfl (e_move (by exact zs27)) ?_
    refine l_val (v := Value.int .i64 (i : Int)) rfl (e_move (by exact zs29)) ?_
    refine l_val (v := Value.pointer (some (eAddr v112 1 (Int.toNat (i : Int))))) rfl (e_indexAddr (α := Int) (xs := lengths) (v := v112) (i := (i : Int)) Try.underlying35 rfl rfl o114.flat rfl (by omega) (by omega)) ?_
    refine l_val (v := Value.int .i64 (gI lengths (i : Int))) rfl (e_load_el1 (α := Int) (xs := lengths) (v := v112) (i := (i : Int)) tp3_n rfl o114.flat (by omega) (by omega) (by decide) rfl) ?_
    refine l_val (v := Value.bool (!(decide ((gI lengths (i : Int)) = 0)))) rfl (e_neq (m := (gI lengths (i : Int))) (n := 0) rfl rfl) ?_
    refine l_nil ?_
    have p39 : (gI lengths (i : Int)) = 0 := by first | exact hx2 | exact hx3 | exact hx4 | exact hcd | exact hnum | omega | exact hmq2 | exact hmq3 | exact decide_eq_true hmq3 | exact hle.done hmq4 (by omega) (by omega)
    refine run_cond_f rfl (congrArg Bool.not (decide_eq_true p39)) ?_
    refine run_skip ?_
    refine run_inBlock ?_
    refine run_region rfl ?_
    refine l_val (v := Value.int .i64 (i : Int)) rfl (e_move (by exact zs29)) ?_
    refine l_val (v := Value.int .i64 ((i : Int) + 1)) rfl (e_add (m := (i : Int)) (n := 1) rfl rfl (by omega)) ?_
    refine l_val (v := Value.int .i64 ((i : Int) + 1)) rfl (e_assign rfl) ?_
    refine l_nil ?_
    refine back37 (i + 1, g136) _ _ ⟨hbase, (by exact zs27), rfl, r_g_v, r_r_v, o114, by omega, ?_⟩ ?_
    · show True
      trivial
    · show Int.toNat (((List.length lengths : Int) : Int) - ((i + 1) : Int)) < Int.toNat (((List.length lengths : Int) : Int) - (i : Int))
      omega
   refine run_cond_f rfl (decide_eq_false p37) ?_
   refine run_exit rfl ?_
   refine run_seq ?_
   clear o114
   refine run_region rfl ?_
   refine l_val (v := Value.bool true) rfl (e_assign rfl) ?_
   refine l_nil ?_
   refine run_ret (vs := [Value.bool true]) Try.func3 (.tmp rfl .nil) ?_
   -- return 0
   have e0 : (true : Bool) = (true) := by
     first
       | rfl
       | (rw [hfb]; rfl)
       | (simp_all; done)
   exact ⟨(congrArg (a₁ := true) (fun (z0 : Bool) => Ending.returned (Value.bool z0)) e0), hbase.below⟩
  refine run_cond_t rfl (congrArg Bool.not (Bool.eq_false_iff.2 p5)) ?_
  refine run_seq ?_
  clear bx5
  refine run_region rfl ?_
  refine l_val (v := Value.int .i64 ((facesR g r).2)) rfl (e_move rfl) ?_
  refine l_val (v := Value.bool (decide (((facesR g r).2) = 0))) rfl (e_eql (m := (facesR g r).2) (n := 0) rfl rfl) ?_
  refine l_val (v := Value.bool (decide (((facesR g r).2) = 0))) rfl (e_move rfl) ?_
  refine l_skip (want_n rfl rfl rfl (decide_eq_true q46)) ?_
  refine l_skip (want_n rfl rfl rfl (decide_eq_true q46)) ?_
  refine l_skip (want_n rfl rfl rfl (decide_eq_true q46)) ?_
  refine l_val (v := Value.bool true) rfl (e_pick_t rfl (decide_eq_true q46) rfl) ?_
  refine l_val (v := Value.bool true) rfl (e_assign rfl) ?_
  refine l_nil ?_
  refine run_ret (vs := [Value.bool true]) Try.func3 (.tmp rfl .nil) ?_
  -- return 1
  have e0 : (true : Bool) = (true) := by
    first
      | rfl
      | (rw [hfb]; rfl)
      | (simp_all; done)
  have C138 : Chg (inl []) _ _ _ _ := (ch2.n).seq ((hb7.n).seq ((ch14.n).seq ((hb16.n).seq (hb18.n))))
  replace hbase := hbase.chg C138 (is_nl rfl)
  exact ⟨(congrArg (a₁ := true) (fun (z0 : Bool) => Ending.returned (Value.bool z0)) e0), hbase.below⟩
 have hfb := facesR_bad q46
 refine l_skip (want_n rfl rfl rfl (congrArg Bool.not (decide_eq_false q46))) ?_
 refine l_skip (want_n rfl rfl rfl (congrArg Bool.not (decide_eq_false q46))) ?_
 refine l_skip (want_n rfl rfl rfl (congrArg Bool.not (decide_eq_false q46))) ?_
 refine l_skip (want_n rfl rfl rfl (congrArg Bool.not (decide_eq_false q46))) ?_
 refine l_val (v := Value.bool true) rfl (e_pick_t rfl (congrArg Bool.not (decide_eq_false q46)) rfl) ?_
 refine l_nil ?_
 refine run_cond_t rfl rfl ?_
 refine run_seq ?_
 clear bx5
 refine run_region rfl ?_
 refine l_val (v := Value.int .i64 ((facesR g r).2)) rfl (e_move rfl) ?_
 refine l_val (v := Value.bool (decide (((facesR g r).2) = 0))) rfl (e_eql (m := (facesR g r).2) (n := 0) rfl rfl) ?_
 refine l_val (v := Value.bool (decide (((facesR g r).2) = 0))) rfl (e_move rfl) ?_
 refine l_val (v := v11) (want_y rfl rfl rfl (decide_eq_false q46)) (e_move rfl) ?_
 replace o12 := o12.chg hb16 (not_no _)
 have len139 := (o12.sl).small
 refine l_val (v := Value.int .i64 (List.length ((facesR g r).1) : Int)) (want_y rfl rfl rfl (decide_eq_false q46)) (e_len Try.underlying25 rfl o12.sl) ?_
 refine l_val (v := Value.bool (decide ((List.length ((facesR g r).1) : Int) = 0))) (want_y rfl rfl rfl (decide_eq_false q46)) (e_eql (m := (List.length ((facesR g r).1) : Int)) (n := 0) rfl rfl) ?_
 refine l_val (v := Value.bool (decide ((List.length ((facesR g r).1) : Int) = 0))) rfl (e_pick_f rfl (decide_eq_false q46) rfl) ?_
 refine l_val (v := Value.bool (decide ((List.length ((facesR g r).1) : Int) = 0))) rfl (e_assign rfl) ?_
 refine l_nil ?_
 refine run_ret (vs := [Value.bool (decide ((List.length ((facesR g r).1) : Int) = 0))]) Try.func3 (.tmp rfl .nil) ?_
 -- return 2
 have e0 : (decide ((List.length ((facesR g r).1) : Int) = 0) : Bool) = (true) := by
   first
     | rfl
     | (rw [hfb]; rfl)
     | (simp_all; done)
 have C140 : Chg (inl []) _ _ _ _ := (ch2.n).seq ((hb7.n).seq ((ch14.n).seq (hb16.n)))
 replace hbase := hbase.chg C140 (is_nl rfl)
 exact ⟨(congrArg (a₁ := decide ((List.length ((facesR g r).1) : Int) = 0)) (fun (z0 : Bool) => Ending.returned (Value.bool z0)) e0), hbase.below⟩
end TL
