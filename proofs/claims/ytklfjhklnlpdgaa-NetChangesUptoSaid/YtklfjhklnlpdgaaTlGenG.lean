import Derived.Test.YtklfjhklnlpdgaaTlGenA
import Derived.Test.YtklfjhklnlpdgaaTlGenB
import Derived.Test.YtklfjhklnlpdgaaTlGenC
import Derived.Test.YtklfjhklnlpdgaaTlGenF
import Derived.Test.YtklfjhklnlpdgaaTlNetChg
import Derived.Test.YtklfjhklnlpdgaaProg
import Derived.Test.YtklfjhklnlpdgaaTlNet2
import Derived.Test.YtklfjhklnlpdgaaTlMark
import Derived.Test.YtklfjhklnlpdgaaTlDraw
import Derived.Test.YtklfjhklnlpdgaaTlMap
set_option linter.all false
set_option maxRecDepth 20000
namespace TL
open Go Go.Proofs
theorem mixed_g : Try.prog.follows .mixedOrders = true := by kernel_rfl
theorem tp3_g : Tp Try.prog 3 false 1 8 (.int .i64 0) := Tp.of (by kernel_rfl)
theorem tp4_g : Tp Try.prog 4 false 1 1 (.bool false) := Tp.of (by kernel_rfl)
theorem tp22_g : Tp Try.prog 22 false 1 24 (.slice none 0 0) := Tp.of (by kernel_rfl)
theorem tp24_g : Tp Try.prog 24 true 2 32 (.agg #[.int .i64 0, .slice none 0 0]) := Tp.of (by kernel_rfl)
theorem tp48_g : Tp Try.prog 48 true 5 40 (.agg #[.int .i64 0, .int .i64 0, .int .i64 0, .int .i64 0, .bool false]) := Tp.of (by kernel_rfl)
theorem bd8_g : Try.f8.body.isNone = false := rfl
theorem nm8_g : (Try.f8.name == "runtime.NumGoroutine") = false := by decide +kernel
theorem bd9_g : Try.f9.body.isNone = false := rfl
theorem nm9_g : (Try.f9.name == "runtime.NumGoroutine") = false := by decide +kernel
theorem bd11_g : Try.f11.body.isNone = false := rfl
theorem nm11_g : (Try.f11.name == "runtime.NumGoroutine") = false := by decide +kernel
theorem bd12_g : Try.f12.body.isNone = false := rfl
theorem nm12_g : (Try.f12.name == "runtime.NumGoroutine") = false := by decide +kernel
theorem bd24_g : Try.f24.body.isNone = false := rfl
theorem nm24_g : (Try.f24.name == "runtime.NumGoroutine") = false := by decide +kernel
theorem bd26_g : Try.f26.body.isNone = false := rfl
theorem nm26_g : (Try.f26.name == "runtime.NumGoroutine") = false := by decide +kernel
theorem bd27_g : Try.f27.body.isNone = false := rfl
theorem nm27_g : (Try.f27.name == "runtime.NumGoroutine") = false := by decide +kernel
theorem bd28_g : Try.f28.body.isNone = false := rfl
theorem nm28_g : (Try.f28.name == "runtime.NumGoroutine") = false := by decide +kernel
theorem bd29_g : Try.f29.body.isNone = false := rfl
theorem nm29_g : (Try.f29.name == "runtime.NumGoroutine") = false := by decide +kernel

set_option maxHeartbeats 8000000 in
theorem NetChanges_ok (w0 : World) (g : (Int) × (List ((Int) × (Int)))) (g_v : Value) (hg_v : Ro w0 g_v g.2) (e : Int) (u : Int) (v : Int) :
    Calls Try.prog 6 #[Value.agg (List.toArray [Value.int .i64 g.1, g_v]), Value.int .i64 e, Value.int .i64 u, Value.int .i64 v] w0 (fun ee w => ee = .returned (Value.bool true) ∧ RowKit.Below w0.heap.size w0 w) := by
  refine calls_of_run Try.func6 rfl (Nat.le_of_ble_eq_true rfl) ?_
  have hbase := Base.start w0
  have r_g_v := hg_v.sl
  refine run_seq ?_
  refine run_region rfl ?_
  refine l_op rfl ?_
  refine o_box c0 (is 1) (1, 0) rfl rfl ?_
  intro g4 w1 b3 ch2 bx5
  replace hbase := hbase.chg ch2 (not_no _)
  replace r_g_v := r_g_v.chg ch2 (not_no _)
  replace bx5 : Bx g4 (is 1) w1 b3 [Value.int .i64 g.1, g_v] := bx5
  refine l_val (v := Value.bool false) rfl (e_assign rfl) ?_
  refine l_nil ?_
  refine run_seq ?_
  refine run_seq ?_
  refine run_region rfl ?_
  refine l_op rfl ?_
  refine o_call (v := Value.bool true) (e_call (vals := []) Try.func8 bd8_g nm8_g rfl) (begun_ok w1 ) ?_
  intro w6 hb7
  replace hb7 := chg_below hb7 g4
  replace hbase := hbase.chg hb7 (not_no _)
  replace r_g_v := r_g_v.chg hb7 (not_no _)
  replace bx5 := bx5.chg hb7 (not_no _)
  refine l_val (v := Value.bool false) rfl (e_not (b := true) rfl) ?_
  refine l_nil ?_
  refine run_cond_f rfl rfl ?_
  refine run_skip ?_
  refine run_seq ?_
  refine run_seq ?_
  refine run_region rfl ?_
  refine l_val (v := Value.agg (List.toArray [Value.int .i64 g.1, g_v])) rfl (e_load_bxN (ds := [Value.int .i64 g.1, g_v]) tp24_g rfl bx5 rfl rfl) ?_
  refine l_op rfl ?_
  refine o_call (v := Value.bool (mayB g)) (e_call (vals := [Value.agg (List.toArray [Value.int .i64 g.1, g_v])]) Try.func9 bd9_g nm9_g rfl) (rMay_ok w6 g g_v (r_g_v).ro) ?_
  intro w8 hb9
  replace hb9 := chg_below hb9 g4
  replace hbase := hbase.chg hb9 (not_no _)
  replace r_g_v := r_g_v.chg hb9 (not_no _)
  replace bx5 := bx5.chg hb9 (not_no _)
  refine l_val (v := Value.bool (!(mayB g))) rfl (e_not (b := (mayB g)) rfl) ?_
  refine l_val (v := Value.bool (!(mayB g))) rfl (e_move rfl) ?_
  by_cases q32 : (mayB g) = true
  · skip
    have hm := of_decide_eq_true q32
    have hm0 := hm
    obtain ⟨hm1, hm2, hm3, hm4⟩ := hm0
    have hdr := degR_eq hm
    have hdl := degR_len hm
    refine l_val (v := Value.pointer (some ⟨b3, 0, none⟩)) (want_y rfl rfl rfl (congrArg Bool.not q32)) (e_fieldAddr Try.underlying24 rfl rfl rfl rfl) ?_
    refine l_val (v := Value.int .i64 g.1) (want_y rfl rfl rfl (congrArg Bool.not q32)) (e_load_bx1 tp3_g rfl bx5 rfl) ?_
    refine l_val (v := Value.bool (decide (200 < g.1))) (want_y rfl rfl rfl (congrArg Bool.not q32)) (e_gtr (m := g.1) (n := 200) rfl rfl) ?_
    refine l_val (v := Value.bool (decide (200 < g.1))) rfl (e_pick_f rfl (congrArg Bool.not q32) rfl) ?_
    refine l_val (v := Value.bool (decide (200 < g.1))) rfl (e_move rfl) ?_
    by_cases q37 : 200 < g.1
    · skip
      refine l_skip (want_n rfl rfl rfl (decide_eq_true q37)) ?_
      refine l_skip (want_n rfl rfl rfl (decide_eq_true q37)) ?_
      refine l_skip (want_n rfl rfl rfl (decide_eq_true q37)) ?_
      refine l_skip (want_n rfl rfl rfl (decide_eq_true q37)) ?_
      refine l_val (v := Value.bool true) rfl (e_pick_t rfl (decide_eq_true q37) rfl) ?_
      refine l_nil ?_
      refine run_cond_t rfl rfl ?_
      refine run_seq ?_
      clear bx5
      refine run_region rfl ?_
      refine l_val (v := Value.bool true) rfl (e_assign rfl) ?_
      refine l_nil ?_
      refine run_ret (vs := [Value.bool true]) Try.func6 (.tmp rfl .nil) ?_
      -- return 0
      have e0 : (true : Bool) = (true) := by
        first
          | rfl
          | exact decide_eq_true (congrArg (fun n : Nat => (n : Int)) (bare_len hm))
          | exact decide_eq_true (bare_len hm)
      exact ⟨(congrArg (a₁ := true) (fun (z0 : Bool) => Ending.returned (Value.bool z0)) e0), hbase.below⟩
    · skip
      refine l_val (v := Value.pointer (some ⟨b3, 1, none⟩)) (want_y rfl rfl rfl (decide_eq_false q37)) (e_fieldAddr Try.underlying24 rfl rfl rfl rfl) ?_
      refine l_val (v := g_v) (want_y rfl rfl rfl (decide_eq_false q37)) (e_load_bx1 tp22_g rfl bx5 rfl) ?_
      have len10 := (r_g_v).small
      refine l_val (v := Value.int .i64 (List.length g.2 : Int)) (want_y rfl rfl rfl (decide_eq_false q37)) (e_len Try.underlying22 rfl r_g_v) ?_
      refine l_val (v := Value.bool (decide (200 < (List.length g.2 : Int)))) (want_y rfl rfl rfl (decide_eq_false q37)) (e_gtr (m := (List.length g.2 : Int)) (n := 200) rfl rfl) ?_
      refine l_val (v := Value.bool (decide (200 < (List.length g.2 : Int)))) rfl (e_pick_f rfl (decide_eq_false q37) rfl) ?_
      refine l_nil ?_
      by_cases p4 : 200 < (List.length g.2 : Int)
      · skip
        refine run_cond_t rfl (decide_eq_true p4) ?_
        refine run_seq ?_
        clear bx5
        refine run_region rfl ?_
        refine l_val (v := Value.bool true) rfl (e_assign rfl) ?_
        refine l_nil ?_
        refine run_ret (vs := [Value.bool true]) Try.func6 (.tmp rfl .nil) ?_
        -- return 1
        have e0 : (true : Bool) = (true) := by
          first
            | rfl
            | exact decide_eq_true (congrArg (fun n : Nat => (n : Int)) (bare_len hm))
            | exact decide_eq_true (bare_len hm)
        exact ⟨(congrArg (a₁ := true) (fun (z0 : Bool) => Ending.returned (Value.bool z0)) e0), hbase.below⟩
      · skip
        refine run_cond_f rfl (decide_eq_false p4) ?_
        refine run_skip ?_
        refine run_seq ?_
        refine run_region rfl ?_
        refine l_val (v := Value.agg (List.toArray [Value.int .i64 g.1, g_v])) rfl (e_load_bxN (ds := [Value.int .i64 g.1, g_v]) tp24_g rfl bx5 rfl rfl) ?_
        refine l_op rfl ?_
        refine o_callx (e_call (vals := [Value.agg (List.toArray [Value.int .i64 g.1, g_v])]) Try.func24 bd24_g nm24_g rfl) (Degrees_ok w8 g g_v (r_g_v).ro) ?_
        rintro ⟨d12, v14⟩ w11 ⟨fr13, o15⟩
        obtain ⟨g16, hg16⟩ : ∃ q, q = glue w8.heap.size g4 d12 (fun n => if n = 1 then 2 else 0) := ⟨_, rfl⟩
        have ch17 := chg_glue fr13.below g4 d12 (fun n => if n = 1 then 2 else 0)
        rw [← hg16] at ch17
        replace hbase := hbase.chg ch17 (not_no _)
        replace r_g_v := r_g_v.chg ch17 (not_no _)
        replace bx5 := bx5.chg ch17 (not_no _)
        replace o15 := o15.glue (γ := g4) (ren := (fun n => if n = 1 then 2 else 0)) (k := 2) fr13.col rfl rfl
        rw [← hg16] at o15
        clear hg16
        refine l_val (v := Value.tuple (List.toArray [v14, Value.int .i64 ((degR g).2)])) rfl (e_move rfl) ?_
        refine l_val (v := v14) rfl (e_extract rfl rfl) ?_
        refine l_val (v := Value.int .i64 ((degR g).2)) rfl (e_extract rfl rfl) ?_
        refine l_val (v := v14) rfl (e_assign rfl) ?_
        refine l_val (v := Value.int .i64 ((degR g).2)) rfl (e_assign rfl) ?_
        refine l_nil ?_
        refine run_seq ?_
        refine run_region rfl ?_
        refine l_val (v := Value.agg (List.toArray [Value.int .i64 g.1, g_v])) rfl (e_load_bxN (ds := [Value.int .i64 g.1, g_v]) tp24_g rfl bx5 rfl rfl) ?_
        refine l_val (v := Value.int .i64 e) rfl (e_move rfl) ?_
        refine l_op rfl ?_
        refine o_callx (e_call (vals := [Value.agg (List.toArray [Value.int .i64 g.1, g_v]), Value.int .i64 e]) Try.func26 bd26_g nm26_g rfl) (Split_ok w11 g g_v (r_g_v).ro e) ?_
        rintro ⟨d19, v21⟩ w18 ⟨fr20, o22⟩
        obtain ⟨g23, hg23⟩ : ∃ q, q = glue w11.heap.size g16 d19 (fun n => if n = 1 then 3 else 0) := ⟨_, rfl⟩
        have ch24 := chg_glue fr20.below g16 d19 (fun n => if n = 1 then 3 else 0)
        rw [← hg23] at ch24
        replace hbase := hbase.chg ch24 (not_no _)
        replace r_g_v := r_g_v.chg ch24 (not_no _)
        replace bx5 := bx5.chg ch24 (not_no _)
        replace o15 := o15.chg ch24 (not_no _) (not_no _)
        replace o22 := o22.glue (γ := g16) (ren := (fun n => if n = 1 then 3 else 0)) (k := 3) fr20.col rfl rfl
        rw [← hg23] at o22
        clear hg23
        refine l_val (v := Value.tuple (List.toArray [Value.agg (List.toArray [Value.int .i64 (((splitR g e).1).1), v21]), Value.int .i64 ((splitR g e).2)])) rfl (e_move rfl) ?_
        refine l_val (v := Value.agg (List.toArray [Value.int .i64 (((splitR g e).1).1), v21])) rfl (e_extract rfl rfl) ?_
        refine l_val (v := Value.int .i64 ((splitR g e).2)) rfl (e_extract rfl rfl) ?_
        refine l_op rfl ?_
        refine o_alloc g23 (is 4) (4, 0) rfl tp24_g ?_
        intro g28 w25 b27 ch26 bx29
        replace hbase := hbase.chg ch26 (not_no _)
        replace r_g_v := r_g_v.chg ch26 (not_no _)
        replace bx5 := bx5.chg ch26 (not_no _)
        replace o15 := o15.chg ch26 (not_no _) (not_no _)
        replace o22 := o22.chg ch26 (not_no _) (not_no _)
        replace bx29 : Bx g28 (is 4) w25 b27 [Value.int .i64 0, Value.slice none 0 0] := bx29
        refine l_op rfl ?_
        refine o_store_bx (cs' := [Value.int .i64 (((splitR g e).1).1), v21]) tp24_g rfl rfl bx29 rfl (Nat.le_of_ble_eq_true rfl) (AllOne.all (.cons rfl (.cons (sl_one o22.flat) .nil))) rfl ?_
        intro w30 ch31 bx32
        replace hbase := hbase.chg ch31 (is_ne rfl)
        replace r_g_v := r_g_v.chg ch31 (is_ne rfl)
        replace bx5 := bx5.chg ch31 (is_ne rfl)
        replace o15 := o15.chg ch31 (is_ne rfl) (is_ne rfl)
        replace o22 := o22.chg ch31 (is_ne rfl) (is_ne rfl)
        clear bx29
        refine l_val (v := Value.int .i64 ((splitR g e).2)) rfl (e_assign rfl) ?_
        refine l_nil ?_
        refine run_seq ?_
        refine run_seq ?_
        refine run_region rfl ?_
        refine l_val (v := Value.int .i64 ((splitR g e).2)) rfl (e_move rfl) ?_
        refine l_val (v := Value.bool (decide (((splitR g e).2) = 0))) rfl (e_eql (m := (splitR g e).2) (n := 0) rfl rfl) ?_
        refine l_nil ?_
        by_cases p7 : ((splitR g e).2) = 0
        · skip
          have hst := split_take p7
          have hsd := degR_eq (split_may p7)
          refine run_cond_t rfl (decide_eq_true p7) ?_
          refine run_seq ?_
          refine run_region rfl ?_
          refine l_val (v := Value.agg (List.toArray [Value.int .i64 (((splitR g e).1).1), v21])) rfl (e_load_bxN (ds := [Value.int .i64 (((splitR g e).1).1), v21]) tp24_g rfl bx32 rfl rfl) ?_
          refine l_op rfl ?_
          refine o_callx (e_call (vals := [Value.agg (List.toArray [Value.int .i64 (((splitR g e).1).1), v21])]) Try.func24 bd24_g nm24_g rfl) (Degrees_ok w30 ((splitR g e).1) v21 (o22.flat).ro) ?_
          rintro ⟨d34, v36⟩ w33 ⟨fr35, o37⟩
          obtain ⟨g38, hg38⟩ : ∃ q, q = glue w30.heap.size g28 d34 (fun n => if n = 1 then 5 else 0) := ⟨_, rfl⟩
          have ch39 := chg_glue fr35.below g28 d34 (fun n => if n = 1 then 5 else 0)
          rw [← hg38] at ch39
          replace hbase := hbase.chg ch39 (not_no _)
          replace r_g_v := r_g_v.chg ch39 (not_no _)
          replace bx5 := bx5.chg ch39 (not_no _)
          replace o15 := o15.chg ch39 (not_no _) (not_no _)
          replace o22 := o22.chg ch39 (not_no _) (not_no _)
          replace bx32 := bx32.chg ch39 (not_no _)
          replace o37 := o37.glue (γ := g28) (ren := (fun n => if n = 1 then 5 else 0)) (k := 5) fr35.col rfl rfl
          rw [← hg38] at o37
          clear hg38
          refine l_val (v := Value.tuple (List.toArray [v36, Value.int .i64 ((degR ((splitR g e).1)).2)])) rfl (e_move rfl) ?_
          refine l_val (v := v36) rfl (e_extract rfl rfl) ?_
          refine l_val (v := Value.int .i64 ((degR ((splitR g e).1)).2)) rfl (e_extract rfl rfl) ?_
          refine l_val (v := v36) rfl (e_assign rfl) ?_
          refine l_val (v := Value.int .i64 ((degR ((splitR g e).1)).2)) rfl (e_assign rfl) ?_
          refine l_nil ?_
          refine run_seq ?_
          clear o22
          clear bx32
          refine run_region rfl ?_
          refine l_val (v := v36) rfl (e_move rfl) ?_
          have len40 := (o37.flat).small
          refine l_val (v := Value.int .i64 (List.length ((degR ((splitR g e).1)).1) : Int)) rfl (e_len Try.underlying25 rfl o37.flat) ?_
          refine l_val (v := Value.pointer (some ⟨b3, 0, none⟩)) rfl (e_fieldAddr Try.underlying24 rfl rfl rfl rfl) ?_
          refine l_val (v := Value.int .i64 g.1) rfl (e_load_bx1 tp3_g rfl bx5 rfl) ?_
          refine l_val (v := Value.int .i64 (g.1 + 1)) rfl (e_add (m := g.1) (n := 1) rfl rfl (by omega)) ?_
          refine l_val (v := Value.bool (!(decide ((List.length ((degR ((splitR g e).1)).1) : Int) = (g.1 + 1))))) rfl (e_neq (m := (List.length ((degR ((splitR g e).1)).1) : Int)) (n := g.1 + 1) rfl rfl) ?_
          refine l_val (v := Value.bool (!(decide ((List.length ((degR ((splitR g e).1)).1) : Int) = (g.1 + 1))))) rfl (e_move rfl) ?_
          have q67 : (List.length ((degR ((splitR g e).1)).1) : Int) = (g.1 + 1) := by first
  | rfl
  | exact merge_to_uv p12
  | exact bare_simple hm
  | (rw [bare_bare hm]; exact decide_eq_true rfl)
  | (rw [bareR_eq hm]; done)
  | (rw [bare_bare hm]; done)
  | (rw [hsd]; exact hst.2.2)
  | (rw [hsd]; exact hst.2.1)
  | (rw [hsd, hdr]; exact decide_eq_true hst.1)
  | (rw [hme]; exact mergeTo_len hm1)
  | (rw [hmd, hdr]; exact merge_deg_u p12)
  | (rw [hme]; simp [renR]; done)
  | (rw [hmd, hdr]; exact merge_deg_w p12 ⟨by omega, by omega⟩ q152 q157)
          refine l_val (v := v36) (want_y rfl rfl rfl (congrArg Bool.not (decide_eq_true q67))) (e_move rfl) ?_
          refine l_val (v := Value.pointer (some ⟨b3, 0, none⟩)) (want_y rfl rfl rfl (congrArg Bool.not (decide_eq_true q67))) (e_fieldAddr Try.underlying24 rfl rfl rfl rfl) ?_
          refine l_val (v := Value.int .i64 g.1) (want_y rfl rfl rfl (congrArg Bool.not (decide_eq_true q67))) (e_load_bx1 tp3_g rfl bx5 rfl) ?_
          refine l_val (v := Value.pointer (some (eAddr v36 1 (Int.toNat g.1)))) (want_y rfl rfl rfl (congrArg Bool.not (decide_eq_true q67))) (e_indexAddr (α := Int) (xs := (degR ((splitR g e).1)).1) (v := v36) (i := g.1) Try.underlying25 rfl rfl o37.flat rfl (by omega) (by omega)) ?_
          refine l_val (v := Value.int .i64 (gI ((degR ((splitR g e).1)).1) g.1)) (want_y rfl rfl rfl (congrArg Bool.not (decide_eq_true q67))) (e_load_el1 (α := Int) (xs := (degR ((splitR g e).1)).1) (v := v36) (i := g.1) tp3_g rfl o37.flat (by omega) (by omega) (by decide) rfl) ?_
          refine l_val (v := Value.bool (!(decide ((gI ((degR ((splitR g e).1)).1) g.1) = 2)))) (want_y rfl rfl rfl (congrArg Bool.not (decide_eq_true q67))) (e_neq (m := (gI ((degR ((splitR g e).1)).1) g.1)) (n := 2) rfl rfl) ?_
          refine l_val (v := Value.bool (!(decide ((gI ((degR ((splitR g e).1)).1) g.1) = 2)))) rfl (e_pick_f rfl (congrArg Bool.not (decide_eq_true q67)) rfl) ?_
          refine l_val (v := Value.bool (!(decide ((gI ((degR ((splitR g e).1)).1) g.1) = 2)))) rfl (e_move rfl) ?_
          have q75 : (gI ((degR ((splitR g e).1)).1) g.1) = 2 := by first
  | rfl
  | exact merge_to_uv p12
  | exact bare_simple hm
  | (rw [bare_bare hm]; exact decide_eq_true rfl)
  | (rw [bareR_eq hm]; done)
  | (rw [bare_bare hm]; done)
  | (rw [hsd]; exact hst.2.2)
  | (rw [hsd]; exact hst.2.1)
  | (rw [hsd, hdr]; exact decide_eq_true hst.1)
  | (rw [hme]; exact mergeTo_len hm1)
  | (rw [hmd, hdr]; exact merge_deg_u p12)
  | (rw [hme]; simp [renR]; done)
  | (rw [hmd, hdr]; exact merge_deg_w p12 ⟨by omega, by omega⟩ q152 q157)
          refine l_val (v := v36) (want_y rfl rfl rfl (congrArg Bool.not (decide_eq_true q75))) (e_move rfl) ?_
          refine l_val (v := Value.pointer (some ⟨b3, 0, none⟩)) (want_y rfl rfl rfl (congrArg Bool.not (decide_eq_true q75))) (e_fieldAddr Try.underlying24 rfl rfl rfl rfl) ?_
          refine l_val (v := Value.int .i64 g.1) (want_y rfl rfl rfl (congrArg Bool.not (decide_eq_true q75))) (e_load_bx1 tp3_g rfl bx5 rfl) ?_
          refine l_val (v := (subV v36 1 (Int.toNat 0) (Int.toNat g.1))) (want_y rfl rfl rfl (congrArg Bool.not (decide_eq_true q75))) (e_slice (α := Int) (xs := (degR ((splitR g e).1)).1) (v := v36) (l := 0) (h := g.1) Try.underlying25 rfl rfl o37.flat (.inr ⟨rfl, rfl⟩) (.inl (congrArg some rfl)) (by omega) (by omega) (by omega)) ?_
          have r42 := sl_sub o37.flat (show Int.toNat 0 ≤ Int.toNat g.1 by omega) (show Int.toNat g.1 ≤ List.length _ by omega)
          refine l_val (v := v14) (want_y rfl rfl rfl (congrArg Bool.not (decide_eq_true q75))) (e_move rfl) ?_
          refine l_op (want_y rfl rfl rfl (congrArg Bool.not (decide_eq_true q75))) ?_
          refine o_call (v := Value.bool (decide ((List.drop (Int.toNat 0) (List.take (Int.toNat g.1) ((degR ((splitR g e).1)).1))) = ((degR g).1)))) (e_call (vals := [(subV v36 1 (Int.toNat 0) (Int.toNat g.1)), v14]) Try.func12 bd12_g nm12_g rfl) (rInts_ok w33 (List.drop (Int.toNat 0) (List.take (Int.toNat g.1) ((degR ((splitR g e).1)).1))) (subV v36 1 (Int.toNat 0) (Int.toNat g.1)) (r42).ro ((degR g).1) v14 (o15.flat).ro) ?_
          intro w43 hb44
          replace hb44 := chg_below hb44 g38
          replace hbase := hbase.chg hb44 (not_no _)
          replace r_g_v := r_g_v.chg hb44 (not_no _)
          replace bx5 := bx5.chg hb44 (not_no _)
          replace o15 := o15.chg hb44 (not_no _) (not_no _)
          replace o37 := o37.chg hb44 (not_no _) (not_no _)
          replace r42 := r42.chg hb44 (not_no _)
          refine l_val (v := Value.bool (!(decide ((List.drop (Int.toNat 0) (List.take (Int.toNat g.1) ((degR ((splitR g e).1)).1))) = ((degR g).1))))) (want_y rfl rfl rfl (congrArg Bool.not (decide_eq_true q75))) (e_not (b := (decide ((List.drop (Int.toNat 0) (List.take (Int.toNat g.1) ((degR ((splitR g e).1)).1))) = ((degR g).1)))) rfl) ?_
          refine l_val (v := Value.bool (!(decide ((List.drop (Int.toNat 0) (List.take (Int.toNat g.1) ((degR ((splitR g e).1)).1))) = ((degR g).1))))) rfl (e_pick_f rfl (congrArg Bool.not (decide_eq_true q75)) rfl) ?_
          refine l_nil ?_
          have p9 : (decide ((List.drop (Int.toNat 0) (List.take (Int.toNat g.1) ((degR ((splitR g e).1)).1))) = ((degR g).1))) = true := by first
  | rfl
  | exact merge_to_uv p12
  | exact bare_simple hm
  | (rw [bare_bare hm]; exact decide_eq_true rfl)
  | (rw [bareR_eq hm]; done)
  | (rw [bare_bare hm]; done)
  | (rw [hsd]; exact hst.2.2)
  | (rw [hsd]; exact hst.2.1)
  | (rw [hsd, hdr]; exact decide_eq_true hst.1)
  | (rw [hme]; exact mergeTo_len hm1)
  | (rw [hmd, hdr]; exact merge_deg_u p12)
  | (rw [hme]; simp [renR]; done)
  | (rw [hmd, hdr]; exact merge_deg_w p12 ⟨by omega, by omega⟩ q152 q157)
          refine run_cond_f rfl (congrArg Bool.not p9) ?_
          refine run_skip ?_
          refine run_seq ?_
          clear o37
          clear r42
          refine run_region rfl ?_
          refine l_val (v := Value.agg (List.toArray [Value.int .i64 g.1, g_v])) rfl (e_load_bxN (ds := [Value.int .i64 g.1, g_v]) tp24_g rfl bx5 rfl rfl) ?_
          refine l_val (v := Value.int .i64 u) rfl (e_move rfl) ?_
          refine l_val (v := Value.int .i64 v) rfl (e_move rfl) ?_
          refine l_op rfl ?_
          refine o_callx (e_call (vals := [Value.agg (List.toArray [Value.int .i64 g.1, g_v]), Value.int .i64 u, Value.int .i64 v]) Try.func27 bd27_g nm27_g rfl) (Merge_ok w43 g g_v (r_g_v).ro u v) ?_
          rintro ⟨d46, v48, v50⟩ w45 ⟨fr47, o49, o51⟩
          obtain ⟨g52, hg52⟩ : ∃ q, q = glue w43.heap.size g38 d46 (fun n => if n = 1 then 6 else if n = 2 then 7 else 0) := ⟨_, rfl⟩
          have ch53 := chg_glue fr47.below g38 d46 (fun n => if n = 1 then 6 else if n = 2 then 7 else 0)
          rw [← hg52] at ch53
          replace hbase := hbase.chg ch53 (not_no _)
          replace r_g_v := r_g_v.chg ch53 (not_no _)
          replace bx5 := bx5.chg ch53 (not_no _)
          replace o15 := o15.chg ch53 (not_no _) (not_no _)
          replace o49 := o49.glue (γ := g38) (ren := (fun n => if n = 1 then 6 else if n = 2 then 7 else 0)) (k := 6) fr47.col rfl rfl
          rw [← hg52] at o49
          replace o51 := o51.glue (γ := g38) (ren := (fun n => if n = 1 then 6 else if n = 2 then 7 else 0)) (k := 7) fr47.col rfl rfl
          rw [← hg52] at o51
          clear hg52
          refine l_val (v := Value.tuple (List.toArray [Value.agg (List.toArray [Value.int .i64 (((mergeR g u v).1).1), v48]), v50, Value.int .i64 ((mergeR g u v).2.2)])) rfl (e_move rfl) ?_
          refine l_val (v := Value.agg (List.toArray [Value.int .i64 (((mergeR g u v).1).1), v48])) rfl (e_extract rfl rfl) ?_
          refine l_val (v := v50) rfl (e_extract rfl rfl) ?_
          refine l_val (v := Value.int .i64 ((mergeR g u v).2.2)) rfl (e_extract rfl rfl) ?_
          refine l_op rfl ?_
          refine o_alloc g52 (is 8) (8, 0) rfl tp24_g ?_
          intro g57 w54 b56 ch55 bx58
          replace hbase := hbase.chg ch55 (not_no _)
          replace r_g_v := r_g_v.chg ch55 (not_no _)
          replace bx5 := bx5.chg ch55 (not_no _)
          replace o15 := o15.chg ch55 (not_no _) (not_no _)
          replace o49 := o49.chg ch55 (not_no _) (not_no _)
          replace o51 := o51.chg ch55 (not_no _) (not_no _)
          replace bx58 : Bx g57 (is 8) w54 b56 [Value.int .i64 0, Value.slice none 0 0] := bx58
          refine l_op rfl ?_
          refine o_store_bx (cs' := [Value.int .i64 (((mergeR g u v).1).1), v48]) tp24_g rfl rfl bx58 rfl (Nat.le_of_ble_eq_true rfl) (AllOne.all (.cons rfl (.cons (sl_one o49.flat) .nil))) rfl ?_
          intro w59 ch60 bx61
          replace hbase := hbase.chg ch60 (is_ne rfl)
          replace r_g_v := r_g_v.chg ch60 (is_ne rfl)
          replace bx5 := bx5.chg ch60 (is_ne rfl)
          replace o15 := o15.chg ch60 (is_ne rfl) (is_ne rfl)
          replace o49 := o49.chg ch60 (is_ne rfl) (is_ne rfl)
          replace o51 := o51.chg ch60 (is_ne rfl) (is_ne rfl)
          clear bx58
          refine l_val (v := v50) rfl (e_assign rfl) ?_
          refine l_val (v := Value.int .i64 ((mergeR g u v).2.2)) rfl (e_assign rfl) ?_
          refine l_nil ?_
          refine run_seq ?_
          refine run_seq ?_
          refine run_region rfl ?_
          refine l_val (v := Value.int .i64 ((mergeR g u v).2.2)) rfl (e_move rfl) ?_
          refine l_val (v := Value.bool (decide (((mergeR g u v).2.2) = 0))) rfl (e_eql (m := (mergeR g u v).2.2) (n := 0) rfl rfl) ?_
          refine l_nil ?_
          by_cases p12 : ((mergeR g u v).2.2) = 0
          · skip
            obtain ⟨_, ⟨⟨hu1, hu2⟩, hv1, hv2⟩, hne, hme⟩ := mergeR_ok p12
            have hmd := degR_eq (merge_may p12)
            have hml := degR_len (merge_may p12)
            have hmtu := merge_to p12 hu1 hu2
            have hmtv := merge_to p12 hv1 hv2
            have hbu := deg_bd (g := g) hu1 hu2
            have hbv := deg_bd (g := g) hv1 hv2
            refine run_cond_t rfl (decide_eq_true p12) ?_
            refine run_seq ?_
            refine run_region rfl ?_
            refine l_val (v := Value.agg (List.toArray [Value.int .i64 (((mergeR g u v).1).1), v48])) rfl (e_load_bxN (ds := [Value.int .i64 (((mergeR g u v).1).1), v48]) tp24_g rfl bx61 rfl rfl) ?_
            refine l_op rfl ?_
            refine o_callx (e_call (vals := [Value.agg (List.toArray [Value.int .i64 (((mergeR g u v).1).1), v48])]) Try.func24 bd24_g nm24_g rfl) (Degrees_ok w59 ((mergeR g u v).1) v48 (o49.flat).ro) ?_
            rintro ⟨d63, v65⟩ w62 ⟨fr64, o66⟩
            obtain ⟨g67, hg67⟩ : ∃ q, q = glue w59.heap.size g57 d63 (fun n => if n = 1 then 9 else 0) := ⟨_, rfl⟩
            have ch68 := chg_glue fr64.below g57 d63 (fun n => if n = 1 then 9 else 0)
            rw [← hg67] at ch68
            replace hbase := hbase.chg ch68 (not_no _)
            replace r_g_v := r_g_v.chg ch68 (not_no _)
            replace bx5 := bx5.chg ch68 (not_no _)
            replace o15 := o15.chg ch68 (not_no _) (not_no _)
            replace o49 := o49.chg ch68 (not_no _) (not_no _)
            replace o51 := o51.chg ch68 (not_no _) (not_no _)
            replace bx61 := bx61.chg ch68 (not_no _)
            replace o66 := o66.glue (γ := g57) (ren := (fun n => if n = 1 then 9 else 0)) (k := 9) fr64.col rfl rfl
            rw [← hg67] at o66
            clear hg67
            refine l_val (v := Value.tuple (List.toArray [v65, Value.int .i64 ((degR ((mergeR g u v).1)).2)])) rfl (e_move rfl) ?_
            refine l_val (v := v65) rfl (e_extract rfl rfl) ?_
            refine l_val (v := Value.int .i64 ((degR ((mergeR g u v).1)).2)) rfl (e_extract rfl rfl) ?_
            refine l_val (v := v65) rfl (e_assign rfl) ?_
            refine l_val (v := Value.int .i64 ((degR ((mergeR g u v).1)).2)) rfl (e_assign rfl) ?_
            refine l_nil ?_
            refine run_seq ?_
            refine run_seq ?_
            refine region_q g67 rfl mixed_g (by kernel_rfl) ?_
            intro w70 ch69
            replace hbase := hbase.chg ch69 (not_no _)
            replace r_g_v := r_g_v.chg ch69 (not_no _)
            replace bx5 := bx5.chg ch69 (not_no _)
            replace o15 := o15.chg ch69 (not_no _) (not_no _)
            replace o49 := o49.chg ch69 (not_no _) (not_no _)
            replace o51 := o51.chg ch69 (not_no _) (not_no _)
            replace bx61 := bx61.chg ch69 (not_no _)
            replace o66 := o66.chg ch69 (not_no _) (not_no _)
            refine q_val (v := v50) rfl (fun w' hw' => e_move rfl) ?_
            have len71 := (o51.flat).small
            refine q_val (v := Value.int .i64 (List.length ((mergeR g u v).2.1) : Int)) rfl (fun w' hw' => e_len Try.underlying25 rfl (o51.flat.bel hw')) ?_
            refine q_val (v := Value.pointer (some ⟨b3, 0, none⟩)) rfl (fun w' hw' => e_fieldAddr Try.underlying24 rfl rfl rfl rfl) ?_
            refine q_val (v := Value.int .i64 g.1) rfl (fun w' hw' => e_load_bx1 tp3_g rfl (bx5.bel hw') rfl) ?_
            refine q_val (v := Value.bool (!(decide ((List.length ((mergeR g u v).2.1) : Int) = g.1)))) rfl (fun w' hw' => e_neq (m := (List.length ((mergeR g u v).2.1) : Int)) (n := g.1) rfl rfl) ?_
            refine q_val (v := Value.bool (!(decide ((List.length ((mergeR g u v).2.1) : Int) = g.1)))) rfl (fun w' hw' => e_move rfl) ?_
            have q104 : (List.length ((mergeR g u v).2.1) : Int) = g.1 := by first
  | rfl
  | exact merge_to_uv p12
  | exact bare_simple hm
  | (rw [bare_bare hm]; exact decide_eq_true rfl)
  | (rw [bareR_eq hm]; done)
  | (rw [bare_bare hm]; done)
  | (rw [hsd]; exact hst.2.2)
  | (rw [hsd]; exact hst.2.1)
  | (rw [hsd, hdr]; exact decide_eq_true hst.1)
  | (rw [hme]; exact mergeTo_len hm1)
  | (rw [hmd, hdr]; exact merge_deg_u p12)
  | (rw [hme]; simp [renR]; done)
  | (rw [hmd, hdr]; exact merge_deg_w p12 ⟨by omega, by omega⟩ q152 q157)
            refine q_val (v := v50) (want_y rfl rfl rfl (congrArg Bool.not (decide_eq_true q104))) (fun w' hw' => e_move rfl) ?_
            refine q_val (v := Value.int .i64 u) (want_y rfl rfl rfl (congrArg Bool.not (decide_eq_true q104))) (fun w' hw' => e_move rfl) ?_
            refine q_val (v := Value.pointer (some (eAddr v50 1 (Int.toNat u)))) (want_y rfl rfl rfl (congrArg Bool.not (decide_eq_true q104))) (fun w' hw' => e_indexAddr (α := Int) (xs := (mergeR g u v).2.1) (v := v50) (i := u) Try.underlying25 rfl rfl (o51.flat.bel hw') rfl (by omega) (by omega)) ?_
            refine q_val (v := Value.int .i64 (gI ((mergeR g u v).2.1) u)) (want_y rfl rfl rfl (congrArg Bool.not (decide_eq_true q104))) (fun w' hw' => e_load_el1 (α := Int) (xs := (mergeR g u v).2.1) (v := v50) (i := u) tp3_g rfl (o51.flat.bel hw') (by omega) (by omega) (by decide) rfl) ?_
            refine q_val (v := v50) (want_y rfl rfl rfl (congrArg Bool.not (decide_eq_true q104))) (fun w' hw' => e_move rfl) ?_
            refine q_val (v := Value.int .i64 v) (want_y rfl rfl rfl (congrArg Bool.not (decide_eq_true q104))) (fun w' hw' => e_move rfl) ?_
            refine q_val (v := Value.pointer (some (eAddr v50 1 (Int.toNat v)))) (want_y rfl rfl rfl (congrArg Bool.not (decide_eq_true q104))) (fun w' hw' => e_indexAddr (α := Int) (xs := (mergeR g u v).2.1) (v := v50) (i := v) Try.underlying25 rfl rfl (o51.flat.bel hw') rfl (by omega) (by omega)) ?_
            refine q_val (v := Value.int .i64 (gI ((mergeR g u v).2.1) v)) (want_y rfl rfl rfl (congrArg Bool.not (decide_eq_true q104))) (fun w' hw' => e_load_el1 (α := Int) (xs := (mergeR g u v).2.1) (v := v50) (i := v) tp3_g rfl (o51.flat.bel hw') (by omega) (by omega) (by decide) rfl) ?_
            refine q_val (v := Value.bool (!(decide ((gI ((mergeR g u v).2.1) u) = (gI ((mergeR g u v).2.1) v))))) (want_y rfl rfl rfl (congrArg Bool.not (decide_eq_true q104))) (fun w' hw' => e_neq (m := (gI ((mergeR g u v).2.1) u)) (n := (gI ((mergeR g u v).2.1) v)) rfl rfl) ?_
            refine q_val (v := Value.bool (!(decide ((gI ((mergeR g u v).2.1) u) = (gI ((mergeR g u v).2.1) v))))) rfl (fun w' hw' => e_pick_f rfl (congrArg Bool.not (decide_eq_true q104)) rfl) ?_
            refine q_val (v := Value.bool (!(decide ((gI ((mergeR g u v).2.1) u) = (gI ((mergeR g u v).2.1) v))))) rfl (fun w' hw' => e_move rfl) ?_
            have q115 : (gI ((mergeR g u v).2.1) u) = (gI ((mergeR g u v).2.1) v) := by first
  | rfl
  | exact merge_to_uv p12
  | exact bare_simple hm
  | (rw [bare_bare hm]; exact decide_eq_true rfl)
  | (rw [bareR_eq hm]; done)
  | (rw [bare_bare hm]; done)
  | (rw [hsd]; exact hst.2.2)
  | (rw [hsd]; exact hst.2.1)
  | (rw [hsd, hdr]; exact decide_eq_true hst.1)
  | (rw [hme]; exact mergeTo_len hm1)
  | (rw [hmd, hdr]; exact merge_deg_u p12)
  | (rw [hme]; simp [renR]; done)
  | (rw [hmd, hdr]; exact merge_deg_w p12 ⟨by omega, by omega⟩ q152 q157)
            refine q_val (v := v65) (want_y rfl rfl rfl (congrArg Bool.not (decide_eq_true q115))) (fun w' hw' => e_move rfl) ?_
            refine q_val (v := v50) (want_y rfl rfl rfl (congrArg Bool.not (decide_eq_true q115))) (fun w' hw' => e_move rfl) ?_
            refine q_val (v := Value.int .i64 u) (want_y rfl rfl rfl (congrArg Bool.not (decide_eq_true q115))) (fun w' hw' => e_move rfl) ?_
            refine q_val (v := Value.pointer (some (eAddr v50 1 (Int.toNat u)))) (want_y rfl rfl rfl (congrArg Bool.not (decide_eq_true q115))) (fun w' hw' => e_indexAddr (α := Int) (xs := (mergeR g u v).2.1) (v := v50) (i := u) Try.underlying25 rfl rfl (o51.flat.bel hw') rfl (by omega) (by omega)) ?_
            refine q_val (v := Value.int .i64 (gI ((mergeR g u v).2.1) u)) (want_y rfl rfl rfl (congrArg Bool.not (decide_eq_true q115))) (fun w' hw' => e_load_el1 (α := Int) (xs := (mergeR g u v).2.1) (v := v50) (i := u) tp3_g rfl (o51.flat.bel hw') (by omega) (by omega) (by decide) rfl) ?_
            refine q_val (v := Value.pointer (some (eAddr v65 1 (Int.toNat (gI ((mergeR g u v).2.1) u))))) (want_y rfl rfl rfl (congrArg Bool.not (decide_eq_true q115))) (fun w' hw' => e_indexAddr (α := Int) (xs := (degR ((mergeR g u v).1)).1) (v := v65) (i := (gI ((mergeR g u v).2.1) u)) Try.underlying25 rfl rfl (o66.flat.bel hw') rfl (by omega) (by omega)) ?_
            refine q_val (v := Value.int .i64 (gI ((degR ((mergeR g u v).1)).1) (gI ((mergeR g u v).2.1) u))) (want_y rfl rfl rfl (congrArg Bool.not (decide_eq_true q115))) (fun w' hw' => e_load_el1 (α := Int) (xs := (degR ((mergeR g u v).1)).1) (v := v65) (i := (gI ((mergeR g u v).2.1) u)) tp3_g rfl (o66.flat.bel hw') (by omega) (by omega) (by decide) rfl) ?_
            refine q_val (v := v14) (want_y rfl rfl rfl (congrArg Bool.not (decide_eq_true q115))) (fun w' hw' => e_move rfl) ?_
            refine q_val (v := Value.int .i64 u) (want_y rfl rfl rfl (congrArg Bool.not (decide_eq_true q115))) (fun w' hw' => e_move rfl) ?_
            refine q_val (v := Value.pointer (some (eAddr v14 1 (Int.toNat u)))) (want_y rfl rfl rfl (congrArg Bool.not (decide_eq_true q115))) (fun w' hw' => e_indexAddr (α := Int) (xs := (degR g).1) (v := v14) (i := u) Try.underlying25 rfl rfl (o15.flat.bel hw') rfl (by omega) (by omega)) ?_
            refine q_val (v := Value.int .i64 (gI ((degR g).1) u)) (want_y rfl rfl rfl (congrArg Bool.not (decide_eq_true q115))) (fun w' hw' => e_load_el1 (α := Int) (xs := (degR g).1) (v := v14) (i := u) tp3_g rfl (o15.flat.bel hw') (by omega) (by omega) (by decide) rfl) ?_
            refine q_val (v := v14) (want_y rfl rfl rfl (congrArg Bool.not (decide_eq_true q115))) (fun w' hw' => e_move rfl) ?_
            refine q_val (v := Value.int .i64 v) (want_y rfl rfl rfl (congrArg Bool.not (decide_eq_true q115))) (fun w' hw' => e_move rfl) ?_
            refine q_val (v := Value.pointer (some (eAddr v14 1 (Int.toNat v)))) (want_y rfl rfl rfl (congrArg Bool.not (decide_eq_true q115))) (fun w' hw' => e_indexAddr (α := Int) (xs := (degR g).1) (v := v14) (i := v) Try.underlying25 rfl rfl (o15.flat.bel hw') rfl (by omega) (by omega)) ?_
            refine q_val (v := Value.int .i64 (gI ((degR g).1) v)) (want_y rfl rfl rfl (congrArg Bool.not (decide_eq_true q115))) (fun w' hw' => e_load_el1 (α := Int) (xs := (degR g).1) (v := v14) (i := v) tp3_g rfl (o15.flat.bel hw') (by omega) (by omega) (by decide) rfl) ?_
            refine q_val (v := Value.int .i64 ((gI ((degR g).1) u) + (gI ((degR g).1) v))) (want_y rfl rfl rfl (congrArg Bool.not (decide_eq_true q115))) (fun w' hw' => e_add (m := (gI ((degR g).1) u)) (n := (gI ((degR g).1) v)) rfl rfl (by omega)) ?_
            refine q_val (v := Value.bool (!(decide ((gI ((degR ((mergeR g u v).1)).1) (gI ((mergeR g u v).2.1) u)) = ((gI ((degR g).1) u) + (gI ((degR g).1) v)))))) (want_y rfl rfl rfl (congrArg Bool.not (decide_eq_true q115))) (fun w' hw' => e_neq (m := (gI ((degR ((mergeR g u v).1)).1) (gI ((mergeR g u v).2.1) u))) (n := (gI ((degR g).1) u) + (gI ((degR g).1) v)) rfl rfl) ?_
            refine q_val (v := Value.bool (!(decide ((gI ((degR ((mergeR g u v).1)).1) (gI ((mergeR g u v).2.1) u)) = ((gI ((degR g).1) u) + (gI ((degR g).1) v)))))) rfl (fun w' hw' => e_pick_f rfl (congrArg Bool.not (decide_eq_true q115)) rfl) ?_
            refine q_val (v := Value.bool (!(decide ((gI ((degR ((mergeR g u v).1)).1) (gI ((mergeR g u v).2.1) u)) = ((gI ((degR g).1) u) + (gI ((degR g).1) v)))))) rfl (fun w' hw' => e_move rfl) ?_
            have q134 : (gI ((degR ((mergeR g u v).1)).1) (gI ((mergeR g u v).2.1) u)) = ((gI ((degR g).1) u) + (gI ((degR g).1) v)) := by first
  | rfl
  | exact merge_to_uv p12
  | exact bare_simple hm
  | (rw [bare_bare hm]; exact decide_eq_true rfl)
  | (rw [bareR_eq hm]; done)
  | (rw [bare_bare hm]; done)
  | (rw [hsd]; exact hst.2.2)
  | (rw [hsd]; exact hst.2.1)
  | (rw [hsd, hdr]; exact decide_eq_true hst.1)
  | (rw [hme]; exact mergeTo_len hm1)
  | (rw [hmd, hdr]; exact merge_deg_u p12)
  | (rw [hme]; simp [renR]; done)
  | (rw [hmd, hdr]; exact merge_deg_w p12 ⟨by omega, by omega⟩ q152 q157)
            refine q_val (v := Value.pointer (some ⟨b56, 1, none⟩)) (want_y rfl rfl rfl (congrArg Bool.not (decide_eq_true q134))) (fun w' hw' => e_fieldAddr Try.underlying24 rfl rfl rfl rfl) ?_
            refine q_val (v := v48) (want_y rfl rfl rfl (congrArg Bool.not (decide_eq_true q134))) (fun w' hw' => e_load_bx1 tp22_g rfl (bx61.bel hw') rfl) ?_
            have len72 := (o49.flat).small
            refine q_val (v := Value.int .i64 (List.length (((mergeR g u v).1).2) : Int)) (want_y rfl rfl rfl (congrArg Bool.not (decide_eq_true q134))) (fun w' hw' => e_len Try.underlying22 rfl (o49.flat.bel hw')) ?_
            refine q_val (v := Value.pointer (some ⟨b3, 1, none⟩)) (want_y rfl rfl rfl (congrArg Bool.not (decide_eq_true q134))) (fun w' hw' => e_fieldAddr Try.underlying24 rfl rfl rfl rfl) ?_
            refine q_val (v := g_v) (want_y rfl rfl rfl (congrArg Bool.not (decide_eq_true q134))) (fun w' hw' => e_load_bx1 tp22_g rfl (bx5.bel hw') rfl) ?_
            refine q_val (v := Value.int .i64 (List.length g.2 : Int)) (want_y rfl rfl rfl (congrArg Bool.not (decide_eq_true q134))) (fun w' hw' => e_len Try.underlying22 rfl (r_g_v.bel hw')) ?_
            refine q_val (v := Value.bool (!(decide ((List.length (((mergeR g u v).1).2) : Int) = (List.length g.2 : Int))))) (want_y rfl rfl rfl (congrArg Bool.not (decide_eq_true q134))) (fun w' hw' => e_neq (m := (List.length (((mergeR g u v).1).2) : Int)) (n := (List.length g.2 : Int)) rfl rfl) ?_
            refine q_val (v := Value.bool (!(decide ((List.length (((mergeR g u v).1).2) : Int) = (List.length g.2 : Int))))) rfl (fun w' hw' => e_pick_f rfl (congrArg Bool.not (decide_eq_true q134)) rfl) ?_
            refine q_nil ?_
            intro w73 hc74
            replace hc74 := chg_below hc74 g67
            replace hbase := hbase.chg hc74 (not_no _)
            replace r_g_v := r_g_v.chg hc74 (not_no _)
            replace bx5 := bx5.chg hc74 (not_no _)
            replace o15 := o15.chg hc74 (not_no _) (not_no _)
            replace o49 := o49.chg hc74 (not_no _) (not_no _)
            replace o51 := o51.chg hc74 (not_no _) (not_no _)
            replace bx61 := bx61.chg hc74 (not_no _)
            replace o66 := o66.chg hc74 (not_no _) (not_no _)
            have p14 : (List.length (((mergeR g u v).1).2) : Int) = (List.length g.2 : Int) := by first
  | rfl
  | exact merge_to_uv p12
  | exact bare_simple hm
  | (rw [bare_bare hm]; exact decide_eq_true rfl)
  | (rw [bareR_eq hm]; done)
  | (rw [bare_bare hm]; done)
  | (rw [hsd]; exact hst.2.2)
  | (rw [hsd]; exact hst.2.1)
  | (rw [hsd, hdr]; exact decide_eq_true hst.1)
  | (rw [hme]; exact mergeTo_len hm1)
  | (rw [hmd, hdr]; exact merge_deg_u p12)
  | (rw [hme]; simp [renR]; done)
  | (rw [hmd, hdr]; exact merge_deg_w p12 ⟨by omega, by omega⟩ q152 q157)
            refine run_cond_f rfl (congrArg Bool.not (decide_eq_true p14)) ?_
            refine run_skip ?_
            refine run_seq ?_
            clear o49
            clear bx61
            refine run_region rfl ?_
            refine l_val (v := Value.int .i64 0) rfl (e_assign rfl) ?_
            refine l_nil ?_
            refine run_block ?_
            refine run_loop (σ := Nat × Cmap) (fun ⟨j, gq⟩ f w => Base w0 gq w ∧ f 2 = Value.int .i64 u ∧ f 3 = Value.int .i64 v ∧ f 4 = Value.pointer (some ⟨b3, 0, none⟩) ∧ f 9 = v14 ∧ f 16 = v50 ∧ f 17 = v65 ∧ f 19 = Value.int .i64 (j : Int) ∧ Sl gq (is 0) w g_v g.2 ∧ Bx gq (is 1) w b3 [Value.int .i64 g.1, g_v] ∧ Ow gq (is 2) (is 2) w v14 ((degR g).1) ∧ Ow gq (is 7) (is 7) w v50 ((mergeR g u v).2.1) ∧ Ow gq (is 9) (is 9) w v65 ((degR ((mergeR g u v).1)).1) ∧ (j : Int) ≤ (g.1 : Int) ∧ ((j : Int) ≤ g.1)) (fun ⟨j, gq⟩ => Int.toNat ((g.1 : Int) - (j : Int))) (0, g67) ?_ ?_
            · exact ⟨hbase, rfl, rfl, rfl, rfl, rfl, rfl, rfl, r_g_v, bx5, o15, o51, o66, by omega, by omega⟩
            clear r_g_v
            clear bx5
            clear o15
            clear o51
            clear o66
            clear hbase
            rintro ⟨j, g77⟩ f75 w76 ⟨hbase, zs2, zs3, zs4, zs9, zs16, zs17, zs19, r_g_v, bx5, o15, o51, o66, hle_j, hinv⟩ back17
            refine run_seq ?_
            refine run_seq ?_
            refine run_region rfl ?_
            refine l_val (v := Value.int .i64 (j : Int)) rfl (e_move (by exact zs19)) ?_
            refine l_val (v := Value.pointer (some ⟨b3, 0, none⟩)) rfl (e_fieldAddr Try.underlying24 rfl rfl (by exact zs4) rfl) ?_
            refine l_val (v := Value.int .i64 g.1) rfl (e_load_bx1 tp3_g rfl bx5 rfl) ?_
            refine l_val (v := Value.bool (decide ((j : Int) < g.1))) rfl (e_lss (m := (j : Int)) (n := g.1) rfl rfl) ?_
            refine l_nil ?_
            by_cases p17 : (j : Int) < g.1
            · skip
              have hmtw := merge_to p12 (w := (j : Int)) (by omega) p17
              refine run_cond_t rfl (decide_eq_true p17) ?_
              refine run_skip ?_
              refine run_seq ?_
              refine run_block ?_
              refine run_seq ?_
              refine region_q g77 rfl mixed_g (by kernel_rfl) ?_
              intro w79 ch78
              replace hbase := hbase.chg ch78 (not_no _)
              replace r_g_v := r_g_v.chg ch78 (not_no _)
              replace bx5 := bx5.chg ch78 (not_no _)
              replace o15 := o15.chg ch78 (not_no _) (not_no _)
              replace o51 := o51.chg ch78 (not_no _) (not_no _)
              replace o66 := o66.chg ch78 (not_no _) (not_no _)
              refine q_val (v := Value.int .i64 (j : Int)) rfl (fun w' hw' => e_move (by exact zs19)) ?_
              refine q_val (v := Value.int .i64 u) rfl (fun w' hw' => e_move (by exact zs2)) ?_
              refine q_val (v := Value.bool (!(decide ((j : Int) = u)))) rfl (fun w' hw' => e_neq (m := (j : Int)) (n := u) rfl rfl) ?_
              refine q_val (v := Value.bool (!(decide ((j : Int) = u)))) rfl (fun w' hw' => e_move rfl) ?_
              by_cases q152 : (j : Int) = u
              · skip
                refine q_skip (want_n rfl rfl rfl (congrArg Bool.not (decide_eq_true q152))) ?_
                refine q_skip (want_n rfl rfl rfl (congrArg Bool.not (decide_eq_true q152))) ?_
                refine q_skip (want_n rfl rfl rfl (congrArg Bool.not (decide_eq_true q152))) ?_
                refine q_val (v := Value.bool false) rfl (fun w' hw' => e_pick_f rfl (congrArg Bool.not (decide_eq_true q152)) rfl) ?_
                refine q_val (v := Value.bool false) rfl (fun w' hw' => e_move rfl) ?_
                refine q_skip (want_n rfl rfl rfl rfl) ?_
                refine q_skip (want_n rfl rfl rfl rfl) ?_
                refine q_skip (want_n rfl rfl rfl rfl) ?_
                refine q_skip (want_n rfl rfl rfl rfl) ?_
                refine q_skip (want_n rfl rfl rfl rfl) ?_
                refine q_skip (want_n rfl rfl rfl rfl) ?_
                refine q_skip (want_n rfl rfl rfl rfl) ?_
                refine q_skip (want_n rfl rfl rfl rfl) ?_
                refine q_skip (want_n rfl rfl rfl rfl) ?_
                refine q_skip (want_n rfl rfl rfl rfl) ?_
                refine q_skip (want_n rfl rfl rfl rfl) ?_
                refine q_skip (want_n rfl rfl rfl rfl) ?_
                refine q_val (v := Value.bool false) rfl (fun w' hw' => e_pick_f rfl rfl rfl) ?_
                refine q_nil ?_
                intro w80 hc81
                replace hc81 := chg_below hc81 g77
                replace hbase := hbase.chg hc81 (not_no _)
                replace r_g_v := r_g_v.chg hc81 (not_no _)
                replace bx5 := bx5.chg hc81 (not_no _)
                replace o15 := o15.chg hc81 (not_no _) (not_no _)
                replace o51 := o51.chg hc81 (not_no _) (not_no _)
                replace o66 := o66.chg hc81 (not_no _) (not_no _)
                refine run_cond_f rfl rfl ?_
                refine run_skip ?_
                refine run_inBlock ?_
                refine run_region rfl ?_
                refine l_val (v := Value.int .i64 (j : Int)) rfl (e_move (by exact zs19)) ?_
                refine l_val (v := Value.int .i64 ((j : Int) + 1)) rfl (e_add (m := (j : Int)) (n := 1) rfl rfl (by omega)) ?_
                refine l_val (v := Value.int .i64 ((j : Int) + 1)) rfl (e_assign rfl) ?_
                refine l_nil ?_
                refine back17 (j + 1, g77) _ _ ⟨hbase, (by exact zs2), (by exact zs3), (by exact zs4), (by exact zs9), (by exact zs16), (by exact zs17), rfl, r_g_v, bx5, o15, o51, o66, by omega, ?_⟩ ?_
                · show ((j + 1) : Int) ≤ g.1
                  omega
                · show Int.toNat ((g.1 : Int) - ((j + 1) : Int)) < Int.toNat ((g.1 : Int) - (j : Int))
                  omega
              · skip
                refine q_val (v := Value.int .i64 (j : Int)) (want_y rfl rfl rfl (congrArg Bool.not (decide_eq_false q152))) (fun w' hw' => e_move (by exact zs19)) ?_
                refine q_val (v := Value.int .i64 v) (want_y rfl rfl rfl (congrArg Bool.not (decide_eq_false q152))) (fun w' hw' => e_move (by exact zs3)) ?_
                refine q_val (v := Value.bool (!(decide ((j : Int) = v)))) (want_y rfl rfl rfl (congrArg Bool.not (decide_eq_false q152))) (fun w' hw' => e_neq (m := (j : Int)) (n := v) rfl rfl) ?_
                refine q_val (v := Value.bool (!(decide ((j : Int) = v)))) rfl (fun w' hw' => e_pick_t rfl (congrArg Bool.not (decide_eq_false q152)) rfl) ?_
                refine q_val (v := Value.bool (!(decide ((j : Int) = v)))) rfl (fun w' hw' => e_move rfl) ?_
                by_cases q157 : (j : Int) = v
                · skip
                  refine q_skip (want_n rfl rfl rfl (congrArg Bool.not (decide_eq_true q157))) ?_
                  refine q_skip (want_n rfl rfl rfl (congrArg Bool.not (decide_eq_true q157))) ?_
                  refine q_skip (want_n rfl rfl rfl (congrArg Bool.not (decide_eq_true q157))) ?_
                  refine q_skip (want_n rfl rfl rfl (congrArg Bool.not (decide_eq_true q157))) ?_
                  refine q_skip (want_n rfl rfl rfl (congrArg Bool.not (decide_eq_true q157))) ?_
                  refine q_skip (want_n rfl rfl rfl (congrArg Bool.not (decide_eq_true q157))) ?_
                  refine q_skip (want_n rfl rfl rfl (congrArg Bool.not (decide_eq_true q157))) ?_
                  refine q_skip (want_n rfl rfl rfl (congrArg Bool.not (decide_eq_true q157))) ?_
                  refine q_skip (want_n rfl rfl rfl (congrArg Bool.not (decide_eq_true q157))) ?_
                  refine q_skip (want_n rfl rfl rfl (congrArg Bool.not (decide_eq_true q157))) ?_
                  refine q_skip (want_n rfl rfl rfl (congrArg Bool.not (decide_eq_true q157))) ?_
                  refine q_skip (want_n rfl rfl rfl (congrArg Bool.not (decide_eq_true q157))) ?_
                  refine q_val (v := Value.bool false) rfl (fun w' hw' => e_pick_f rfl (congrArg Bool.not (decide_eq_true q157)) rfl) ?_
                  refine q_nil ?_
                  intro w82 hc83
                  replace hc83 := chg_below hc83 g77
                  replace hbase := hbase.chg hc83 (not_no _)
                  replace r_g_v := r_g_v.chg hc83 (not_no _)
                  replace bx5 := bx5.chg hc83 (not_no _)
                  replace o15 := o15.chg hc83 (not_no _) (not_no _)
                  replace o51 := o51.chg hc83 (not_no _) (not_no _)
                  replace o66 := o66.chg hc83 (not_no _) (not_no _)
                  refine run_cond_f rfl rfl ?_
                  refine run_skip ?_
                  refine run_inBlock ?_
                  refine run_region rfl ?_
                  refine l_val (v := Value.int .i64 (j : Int)) rfl (e_move (by exact zs19)) ?_
                  refine l_val (v := Value.int .i64 ((j : Int) + 1)) rfl (e_add (m := (j : Int)) (n := 1) rfl rfl (by omega)) ?_
                  refine l_val (v := Value.int .i64 ((j : Int) + 1)) rfl (e_assign rfl) ?_
                  refine l_nil ?_
                  refine back17 (j + 1, g77) _ _ ⟨hbase, (by exact zs2), (by exact zs3), (by exact zs4), (by exact zs9), (by exact zs16), (by exact zs17), rfl, r_g_v, bx5, o15, o51, o66, by omega, ?_⟩ ?_
                  · show ((j + 1) : Int) ≤ g.1
                    omega
                  · show Int.toNat ((g.1 : Int) - ((j + 1) : Int)) < Int.toNat ((g.1 : Int) - (j : Int))
                    omega
                · skip
                  refine q_val (v := v65) (want_y rfl rfl rfl (congrArg Bool.not (decide_eq_false q157))) (fun w' hw' => e_move (by exact zs17)) ?_
                  refine q_val (v := v50) (want_y rfl rfl rfl (congrArg Bool.not (decide_eq_false q157))) (fun w' hw' => e_move (by exact zs16)) ?_
                  refine q_val (v := Value.int .i64 (j : Int)) (want_y rfl rfl rfl (congrArg Bool.not (decide_eq_false q157))) (fun w' hw' => e_move (by exact zs19)) ?_
                  refine q_val (v := Value.pointer (some (eAddr v50 1 (Int.toNat (j : Int))))) (want_y rfl rfl rfl (congrArg Bool.not (decide_eq_false q157))) (fun w' hw' => e_indexAddr (α := Int) (xs := (mergeR g u v).2.1) (v := v50) (i := (j : Int)) Try.underlying25 rfl rfl (o51.flat.bel hw') rfl (by omega) (by omega)) ?_
                  refine q_val (v := Value.int .i64 (gI ((mergeR g u v).2.1) (j : Int))) (want_y rfl rfl rfl (congrArg Bool.not (decide_eq_false q157))) (fun w' hw' => e_load_el1 (α := Int) (xs := (mergeR g u v).2.1) (v := v50) (i := (j : Int)) tp3_g rfl (o51.flat.bel hw') (by omega) (by omega) (by decide) rfl) ?_
                  refine q_val (v := Value.pointer (some (eAddr v65 1 (Int.toNat (gI ((mergeR g u v).2.1) (j : Int)))))) (want_y rfl rfl rfl (congrArg Bool.not (decide_eq_false q157))) (fun w' hw' => e_indexAddr (α := Int) (xs := (degR ((mergeR g u v).1)).1) (v := v65) (i := (gI ((mergeR g u v).2.1) (j : Int))) Try.underlying25 rfl rfl (o66.flat.bel hw') rfl (by omega) (by omega)) ?_
                  refine q_val (v := Value.int .i64 (gI ((degR ((mergeR g u v).1)).1) (gI ((mergeR g u v).2.1) (j : Int)))) (want_y rfl rfl rfl (congrArg Bool.not (decide_eq_false q157))) (fun w' hw' => e_load_el1 (α := Int) (xs := (degR ((mergeR g u v).1)).1) (v := v65) (i := (gI ((mergeR g u v).2.1) (j : Int))) tp3_g rfl (o66.flat.bel hw') (by omega) (by omega) (by decide) rfl) ?_
                  refine q_val (v := v14) (want_y rfl rfl rfl (congrArg Bool.not (decide_eq_false q157))) (fun w' hw' => e_move (by exact zs9)) ?_
                  refine q_val (v := Value.int .i64 (j : Int)) (want_y rfl rfl rfl (congrArg Bool.not (decide_eq_false q157))) (fun w' hw' => e_move (by exact zs19)) ?_
                  refine q_val (v := Value.pointer (some (eAddr v14 1 (Int.toNat (j : Int))))) (want_y rfl rfl rfl (congrArg Bool.not (decide_eq_false q157))) (fun w' hw' => e_indexAddr (α := Int) (xs := (degR g).1) (v := v14) (i := (j : Int)) Try.underlying25 rfl rfl (o15.flat.bel hw') rfl (by omega) (by omega)) ?_
                  refine q_val (v := Value.int .i64 (gI ((degR g).1) (j : Int))) (want_y rfl rfl rfl (congrArg Bool.not (decide_eq_false q157))) (fun w' hw' => e_load_el1 (α := Int) (xs := (degR g).1) (v := v14) (i := (j : Int)) tp3_g rfl (o15.flat.bel hw') (by omega) (by omega) (by decide) rfl) ?_
                  refine q_val (v := Value.bool (!(decide ((gI ((degR ((mergeR g u v).1)).1) (gI ((mergeR g u v).2.1) (j : Int))) = (gI ((degR g).1) (j : Int)))))) (want_y rfl rfl rfl (congrArg Bool.not (decide_eq_false q157))) (fun w' hw' => e_neq (m := (gI ((degR ((mergeR g u v).1)).1) (gI ((mergeR g u v).2.1) (j : Int)))) (n := (gI ((degR g).1) (j : Int))) rfl rfl) ?_
                  refine q_val (v := Value.bool (!(decide ((gI ((degR ((mergeR g u v).1)).1) (gI ((mergeR g u v).2.1) (j : Int))) = (gI ((degR g).1) (j : Int)))))) rfl (fun w' hw' => e_pick_t rfl (congrArg Bool.not (decide_eq_false q157)) rfl) ?_
                  refine q_nil ?_
                  intro w84 hc85
                  replace hc85 := chg_below hc85 g77
                  replace hbase := hbase.chg hc85 (not_no _)
                  replace r_g_v := r_g_v.chg hc85 (not_no _)
                  replace bx5 := bx5.chg hc85 (not_no _)
                  replace o15 := o15.chg hc85 (not_no _) (not_no _)
                  replace o51 := o51.chg hc85 (not_no _) (not_no _)
                  replace o66 := o66.chg hc85 (not_no _) (not_no _)
                  have p18 : (gI ((degR ((mergeR g u v).1)).1) (gI ((mergeR g u v).2.1) (j : Int))) = (gI ((degR g).1) (j : Int)) := by first
  | rfl
  | exact merge_to_uv p12
  | exact bare_simple hm
  | (rw [bare_bare hm]; exact decide_eq_true rfl)
  | (rw [bareR_eq hm]; done)
  | (rw [bare_bare hm]; done)
  | (rw [hsd]; exact hst.2.2)
  | (rw [hsd]; exact hst.2.1)
  | (rw [hsd, hdr]; exact decide_eq_true hst.1)
  | (rw [hme]; exact mergeTo_len hm1)
  | (rw [hmd, hdr]; exact merge_deg_u p12)
  | (rw [hme]; simp [renR]; done)
  | (rw [hmd, hdr]; exact merge_deg_w p12 ⟨by omega, by omega⟩ q152 q157)
                  refine run_cond_f rfl (congrArg Bool.not (decide_eq_true p18)) ?_
                  refine run_skip ?_
                  refine run_inBlock ?_
                  refine run_region rfl ?_
                  refine l_val (v := Value.int .i64 (j : Int)) rfl (e_move (by exact zs19)) ?_
                  refine l_val (v := Value.int .i64 ((j : Int) + 1)) rfl (e_add (m := (j : Int)) (n := 1) rfl rfl (by omega)) ?_
                  refine l_val (v := Value.int .i64 ((j : Int) + 1)) rfl (e_assign rfl) ?_
                  refine l_nil ?_
                  refine back17 (j + 1, g77) _ _ ⟨hbase, (by exact zs2), (by exact zs3), (by exact zs4), (by exact zs9), (by exact zs16), (by exact zs17), rfl, r_g_v, bx5, o15, o51, o66, by omega, ?_⟩ ?_
                  · show ((j + 1) : Int) ≤ g.1
                    omega
                  · show Int.toNat ((g.1 : Int) - ((j + 1) : Int)) < Int.toNat ((g.1 : Int) - (j : Int))
                    omega
            · skip
              refine run_cond_f rfl (decide_eq_false p17) ?_
              refine run_exit rfl ?_
              refine run_seq ?_
              clear o15
              clear o51
              clear o66
              refine run_region rfl ?_
              refine l_val (v := Value.agg (List.toArray [Value.int .i64 g.1, g_v])) rfl (e_load_bxN (ds := [Value.int .i64 g.1, g_v]) tp24_g (by exact zs4) bx5 rfl rfl) ?_
              refine l_op rfl ?_
              refine o_callx (e_call (vals := [Value.agg (List.toArray [Value.int .i64 g.1, g_v])]) Try.func28 bd28_g nm28_g rfl) (Bare_ok w76 g g_v (r_g_v).ro) ?_
              rintro ⟨d87, v89, v91⟩ w86 ⟨fr88, o90, o92⟩
              obtain ⟨g93, hg93⟩ : ∃ q, q = glue w76.heap.size g77 d87 (fun n => if n = 1 then 10 else if n = 2 then 11 else 0) := ⟨_, rfl⟩
              have ch94 := chg_glue fr88.below g77 d87 (fun n => if n = 1 then 10 else if n = 2 then 11 else 0)
              rw [← hg93] at ch94
              replace hbase := hbase.chg ch94 (not_no _)
              replace r_g_v := r_g_v.chg ch94 (not_no _)
              replace bx5 := bx5.chg ch94 (not_no _)
              replace o90 := o90.glue (γ := g77) (ren := (fun n => if n = 1 then 10 else if n = 2 then 11 else 0)) (k := 10) fr88.col rfl rfl
              rw [← hg93] at o90
              replace o92 := o92.glue (γ := g77) (ren := (fun n => if n = 1 then 10 else if n = 2 then 11 else 0)) (k := 11) fr88.col rfl rfl
              rw [← hg93] at o92
              clear hg93
              refine l_val (v := Value.tuple (List.toArray [Value.agg (List.toArray [Value.int .i64 (((bareR g).1).1), v89]), v91, Value.int .i64 ((bareR g).2.2)])) rfl (e_move rfl) ?_
              refine l_val (v := Value.agg (List.toArray [Value.int .i64 (((bareR g).1).1), v89])) rfl (e_extract rfl rfl) ?_
              refine l_val (v := v91) rfl (e_extract rfl rfl) ?_
              refine l_val (v := Value.int .i64 ((bareR g).2.2)) rfl (e_extract rfl rfl) ?_
              refine l_op rfl ?_
              refine o_alloc g93 (is 12) (12, 0) rfl tp24_g ?_
              intro g98 w95 b97 ch96 bx99
              replace hbase := hbase.chg ch96 (not_no _)
              replace r_g_v := r_g_v.chg ch96 (not_no _)
              replace bx5 := bx5.chg ch96 (not_no _)
              replace o90 := o90.chg ch96 (not_no _) (not_no _)
              replace o92 := o92.chg ch96 (not_no _) (not_no _)
              replace bx99 : Bx g98 (is 12) w95 b97 [Value.int .i64 0, Value.slice none 0 0] := bx99
              refine l_op rfl ?_
              refine o_store_bx (cs' := [Value.int .i64 (((bareR g).1).1), v89]) tp24_g rfl rfl bx99 rfl (Nat.le_of_ble_eq_true rfl) (AllOne.all (.cons rfl (.cons (sl_one o90.flat) .nil))) rfl ?_
              intro w100 ch101 bx102
              replace hbase := hbase.chg ch101 (is_ne rfl)
              replace r_g_v := r_g_v.chg ch101 (is_ne rfl)
              replace bx5 := bx5.chg ch101 (is_ne rfl)
              replace o90 := o90.chg ch101 (is_ne rfl) (is_ne rfl)
              replace o92 := o92.chg ch101 (is_ne rfl) (is_ne rfl)
              clear bx99
              refine l_val (v := v91) rfl (e_assign rfl) ?_
              refine l_val (v := Value.int .i64 ((bareR g).2.2)) rfl (e_assign rfl) ?_
              refine l_nil ?_
              refine run_seq ?_
              clear bx5
              refine run_region rfl ?_
              refine l_val (v := Value.agg (List.toArray [Value.int .i64 (((bareR g).1).1), v89])) rfl (e_load_bxN (ds := [Value.int .i64 (((bareR g).1).1), v89]) tp24_g rfl bx102 rfl rfl) ?_
              refine l_op rfl ?_
              refine o_callx (e_call (vals := [Value.agg (List.toArray [Value.int .i64 (((bareR g).1).1), v89])]) Try.func28 bd28_g nm28_g rfl) (Bare_ok w100 ((bareR g).1) v89 (o90.flat).ro) ?_
              rintro ⟨d104, v106, v108⟩ w103 ⟨fr105, o107, o109⟩
              obtain ⟨g110, hg110⟩ : ∃ q, q = glue w100.heap.size g98 d104 (fun n => if n = 1 then 13 else if n = 2 then 14 else 0) := ⟨_, rfl⟩
              have ch111 := chg_glue fr105.below g98 d104 (fun n => if n = 1 then 13 else if n = 2 then 14 else 0)
              rw [← hg110] at ch111
              replace hbase := hbase.chg ch111 (not_no _)
              replace r_g_v := r_g_v.chg ch111 (not_no _)
              replace o90 := o90.chg ch111 (not_no _) (not_no _)
              replace o92 := o92.chg ch111 (not_no _) (not_no _)
              replace bx102 := bx102.chg ch111 (not_no _)
              replace o107 := o107.glue (γ := g98) (ren := (fun n => if n = 1 then 13 else if n = 2 then 14 else 0)) (k := 13) fr105.col rfl rfl
              rw [← hg110] at o107
              replace o109 := o109.glue (γ := g98) (ren := (fun n => if n = 1 then 13 else if n = 2 then 14 else 0)) (k := 14) fr105.col rfl rfl
              rw [← hg110] at o109
              clear hg110
              refine l_val (v := Value.tuple (List.toArray [Value.agg (List.toArray [Value.int .i64 (((bareR ((bareR g).1)).1).1), v106]), v108, Value.int .i64 ((bareR ((bareR g).1)).2.2)])) rfl (e_move rfl) ?_
              refine l_val (v := Value.agg (List.toArray [Value.int .i64 (((bareR ((bareR g).1)).1).1), v106])) rfl (e_extract rfl rfl) ?_
              refine l_val (v := v108) rfl (e_extract rfl rfl) ?_
              refine l_val (v := Value.int .i64 ((bareR ((bareR g).1)).2.2)) rfl (e_extract rfl rfl) ?_
              refine l_op rfl ?_
              refine o_alloc g110 (is 15) (15, 0) rfl tp24_g ?_
              intro g115 w112 b114 ch113 bx116
              replace hbase := hbase.chg ch113 (not_no _)
              replace r_g_v := r_g_v.chg ch113 (not_no _)
              replace o90 := o90.chg ch113 (not_no _) (not_no _)
              replace o92 := o92.chg ch113 (not_no _) (not_no _)
              replace bx102 := bx102.chg ch113 (not_no _)
              replace o107 := o107.chg ch113 (not_no _) (not_no _)
              replace o109 := o109.chg ch113 (not_no _) (not_no _)
              replace bx116 : Bx g115 (is 15) w112 b114 [Value.int .i64 0, Value.slice none 0 0] := bx116
              refine l_op rfl ?_
              refine o_store_bx (cs' := [Value.int .i64 (((bareR ((bareR g).1)).1).1), v106]) tp24_g rfl rfl bx116 rfl (Nat.le_of_ble_eq_true rfl) (AllOne.all (.cons rfl (.cons (sl_one o107.flat) .nil))) rfl ?_
              intro w117 ch118 bx119
              replace hbase := hbase.chg ch118 (is_ne rfl)
              replace r_g_v := r_g_v.chg ch118 (is_ne rfl)
              replace o90 := o90.chg ch118 (is_ne rfl) (is_ne rfl)
              replace o92 := o92.chg ch118 (is_ne rfl) (is_ne rfl)
              replace bx102 := bx102.chg ch118 (is_ne rfl)
              replace o107 := o107.chg ch118 (is_ne rfl) (is_ne rfl)
              replace o109 := o109.chg ch118 (is_ne rfl) (is_ne rfl)
              clear bx116
              refine l_val (v := v108) rfl (e_assign rfl) ?_
              refine l_val (v := Value.int .i64 ((bareR ((bareR g).1)).2.2)) rfl (e_assign rfl) ?_
              refine l_nil ?_
              refine run_seq ?_
              refine run_region rfl ?_
              refine l_val (v := Value.agg (List.toArray [Value.int .i64 (((bareR g).1).1), v89])) rfl (e_load_bxN (ds := [Value.int .i64 (((bareR g).1).1), v89]) tp24_g rfl bx102 rfl rfl) ?_
              refine l_op rfl ?_
              refine o_call (v := Value.tuple (List.toArray [Value.agg (List.toArray [Value.int .i64 (((lookR ((bareR g).1)).1).1), Value.int .i64 ((((lookR ((bareR g).1)).1).2).1), Value.int .i64 (((((lookR ((bareR g).1)).1).2).2).1), Value.int .i64 ((((((lookR ((bareR g).1)).1).2).2).2).1), Value.bool ((((((lookR ((bareR g).1)).1).2).2).2).2)]), Value.int .i64 ((lookR ((bareR g).1)).2)])) (e_call (vals := [Value.agg (List.toArray [Value.int .i64 (((bareR g).1).1), v89])]) Try.func29 bd29_g nm29_g rfl) (Look_ok w117 ((bareR g).1) v89 (o90.flat).ro) ?_
              intro w120 hb121
              replace hb121 := chg_below hb121 g115
              replace hbase := hbase.chg hb121 (not_no _)
              replace r_g_v := r_g_v.chg hb121 (not_no _)
              replace o90 := o90.chg hb121 (not_no _) (not_no _)
              replace o92 := o92.chg hb121 (not_no _) (not_no _)
              replace bx102 := bx102.chg hb121 (not_no _)
              replace o107 := o107.chg hb121 (not_no _) (not_no _)
              replace o109 := o109.chg hb121 (not_no _) (not_no _)
              replace bx119 := bx119.chg hb121 (not_no _)
              refine l_val (v := Value.tuple (List.toArray [Value.agg (List.toArray [Value.int .i64 (((lookR ((bareR g).1)).1).1), Value.int .i64 ((((lookR ((bareR g).1)).1).2).1), Value.int .i64 (((((lookR ((bareR g).1)).1).2).2).1), Value.int .i64 ((((((lookR ((bareR g).1)).1).2).2).2).1), Value.bool ((((((lookR ((bareR g).1)).1).2).2).2).2)]), Value.int .i64 ((lookR ((bareR g).1)).2)])) rfl (e_move rfl) ?_
              refine l_val (v := Value.agg (List.toArray [Value.int .i64 (((lookR ((bareR g).1)).1).1), Value.int .i64 ((((lookR ((bareR g).1)).1).2).1), Value.int .i64 (((((lookR ((bareR g).1)).1).2).2).1), Value.int .i64 ((((((lookR ((bareR g).1)).1).2).2).2).1), Value.bool ((((((lookR ((bareR g).1)).1).2).2).2).2)])) rfl (e_extract rfl rfl) ?_
              refine l_val (v := Value.int .i64 ((lookR ((bareR g).1)).2)) rfl (e_extract rfl rfl) ?_
              refine l_op rfl ?_
              refine o_alloc g115 (is 16) (16, 0) rfl tp48_g ?_
              intro g125 w122 b124 ch123 bx126
              replace hbase := hbase.chg ch123 (not_no _)
              replace r_g_v := r_g_v.chg ch123 (not_no _)
              replace o90 := o90.chg ch123 (not_no _) (not_no _)
              replace o92 := o92.chg ch123 (not_no _) (not_no _)
              replace bx102 := bx102.chg ch123 (not_no _)
              replace o107 := o107.chg ch123 (not_no _) (not_no _)
              replace o109 := o109.chg ch123 (not_no _) (not_no _)
              replace bx119 := bx119.chg ch123 (not_no _)
              replace bx126 : Bx g125 (is 16) w122 b124 [Value.int .i64 0, Value.int .i64 0, Value.int .i64 0, Value.int .i64 0, Value.bool false] := bx126
              refine l_op rfl ?_
              refine o_store_bx (cs' := [Value.int .i64 (((lookR ((bareR g).1)).1).1), Value.int .i64 ((((lookR ((bareR g).1)).1).2).1), Value.int .i64 (((((lookR ((bareR g).1)).1).2).2).1), Value.int .i64 ((((((lookR ((bareR g).1)).1).2).2).2).1), Value.bool ((((((lookR ((bareR g).1)).1).2).2).2).2)]) tp48_g rfl rfl bx126 rfl (Nat.le_of_ble_eq_true rfl) (AllOne.all (.cons rfl (.cons rfl (.cons rfl (.cons rfl (.cons rfl .nil)))))) rfl ?_
              intro w127 ch128 bx129
              replace hbase := hbase.chg ch128 (is_ne rfl)
              replace r_g_v := r_g_v.chg ch128 (is_ne rfl)
              replace o90 := o90.chg ch128 (is_ne rfl) (is_ne rfl)
              replace o92 := o92.chg ch128 (is_ne rfl) (is_ne rfl)
              replace bx102 := bx102.chg ch128 (is_ne rfl)
              replace o107 := o107.chg ch128 (is_ne rfl) (is_ne rfl)
              replace o109 := o109.chg ch128 (is_ne rfl) (is_ne rfl)
              replace bx119 := bx119.chg ch128 (is_ne rfl)
              clear bx126
              refine l_val (v := Value.int .i64 ((lookR ((bareR g).1)).2)) rfl (e_assign rfl) ?_
              refine l_nil ?_
              refine run_seq ?_
              refine run_region rfl ?_
              refine l_val (v := Value.int .i64 ((bareR g).2.2)) rfl (e_move rfl) ?_
              refine l_val (v := Value.bool (decide (((bareR g).2.2) = 0))) rfl (e_eql (m := (bareR g).2.2) (n := 0) rfl rfl) ?_
              refine l_val (v := Value.bool (decide (((bareR g).2.2) = 0))) rfl (e_move rfl) ?_
              have q190 : ((bareR g).2.2) = 0 := by first
  | rfl
  | exact merge_to_uv p12
  | exact bare_simple hm
  | (rw [bare_bare hm]; exact decide_eq_true rfl)
  | (rw [bareR_eq hm]; done)
  | (rw [bare_bare hm]; done)
  | (rw [hsd]; exact hst.2.2)
  | (rw [hsd]; exact hst.2.1)
  | (rw [hsd, hdr]; exact decide_eq_true hst.1)
  | (rw [hme]; exact mergeTo_len hm1)
  | (rw [hmd, hdr]; exact merge_deg_u p12)
  | (rw [hme]; simp [renR]; done)
  | (rw [hmd, hdr]; exact merge_deg_w p12 ⟨by omega, by omega⟩ q152 q157)
              refine l_val (v := Value.int .i64 ((bareR ((bareR g).1)).2.2)) (want_y rfl rfl rfl (decide_eq_true q190)) (e_move rfl) ?_
              refine l_val (v := Value.bool (decide (((bareR ((bareR g).1)).2.2) = 0))) (want_y rfl rfl rfl (decide_eq_true q190)) (e_eql (m := (bareR ((bareR g).1)).2.2) (n := 0) rfl rfl) ?_
              refine l_val (v := Value.bool (decide (((bareR ((bareR g).1)).2.2) = 0))) rfl (e_pick_t rfl (decide_eq_true q190) rfl) ?_
              refine l_val (v := Value.bool (decide (((bareR ((bareR g).1)).2.2) = 0))) rfl (e_move rfl) ?_
              have q194 : ((bareR ((bareR g).1)).2.2) = 0 := by first
  | rfl
  | exact merge_to_uv p12
  | exact bare_simple hm
  | (rw [bare_bare hm]; exact decide_eq_true rfl)
  | (rw [bareR_eq hm]; done)
  | (rw [bare_bare hm]; done)
  | (rw [hsd]; exact hst.2.2)
  | (rw [hsd]; exact hst.2.1)
  | (rw [hsd, hdr]; exact decide_eq_true hst.1)
  | (rw [hme]; exact mergeTo_len hm1)
  | (rw [hmd, hdr]; exact merge_deg_u p12)
  | (rw [hme]; simp [renR]; done)
  | (rw [hmd, hdr]; exact merge_deg_w p12 ⟨by omega, by omega⟩ q152 q157)
              refine l_val (v := Value.pointer (some ⟨b124, 4, none⟩)) (want_y rfl rfl rfl (decide_eq_true q194)) (e_fieldAddr Try.underlying48 rfl rfl rfl rfl) ?_
              refine l_val (v := Value.bool ((((((lookR ((bareR g).1)).1).2).2).2).2)) (want_y rfl rfl rfl (decide_eq_true q194)) (e_load_bx1 tp4_g rfl bx129 rfl) ?_
              refine l_val (v := Value.bool ((((((lookR ((bareR g).1)).1).2).2).2).2)) rfl (e_pick_t rfl (decide_eq_true q194) rfl) ?_
              refine l_val (v := Value.bool ((((((lookR ((bareR g).1)).1).2).2).2).2)) rfl (e_move rfl) ?_
              have q198 : ((((((lookR ((bareR g).1)).1).2).2).2).2) = true := by first
  | rfl
  | exact merge_to_uv p12
  | exact bare_simple hm
  | (rw [bare_bare hm]; exact decide_eq_true rfl)
  | (rw [bareR_eq hm]; done)
  | (rw [bare_bare hm]; done)
  | (rw [hsd]; exact hst.2.2)
  | (rw [hsd]; exact hst.2.1)
  | (rw [hsd, hdr]; exact decide_eq_true hst.1)
  | (rw [hme]; exact mergeTo_len hm1)
  | (rw [hmd, hdr]; exact merge_deg_u p12)
  | (rw [hme]; simp [renR]; done)
  | (rw [hmd, hdr]; exact merge_deg_w p12 ⟨by omega, by omega⟩ q152 q157)
              refine l_val (v := Value.agg (List.toArray [Value.int .i64 (((bareR g).1).1), v89])) (want_y rfl rfl rfl q198) (e_load_bxN (ds := [Value.int .i64 (((bareR g).1).1), v89]) tp24_g rfl bx102 rfl rfl) ?_
              refine l_val (v := Value.agg (List.toArray [Value.int .i64 (((bareR ((bareR g).1)).1).1), v106])) (want_y rfl rfl rfl q198) (e_load_bxN (ds := [Value.int .i64 (((bareR ((bareR g).1)).1).1), v106]) tp24_g rfl bx119 rfl rfl) ?_
              refine l_op (want_y rfl rfl rfl q198) ?_
              refine o_call (v := Value.bool (decide (((bareR g).1) = ((bareR ((bareR g).1)).1)))) (e_call (vals := [Value.agg (List.toArray [Value.int .i64 (((bareR g).1).1), v89]), Value.agg (List.toArray [Value.int .i64 (((bareR ((bareR g).1)).1).1), v106])]) Try.func11 bd11_g nm11_g rfl) (Same_ok w127 ((bareR g).1) v89 (o90.flat).ro ((bareR ((bareR g).1)).1) v106 (o107.flat).ro) ?_
              intro w130 hb131
              replace hb131 := chg_below hb131 g125
              replace hbase := hbase.chg hb131 (not_no _)
              replace r_g_v := r_g_v.chg hb131 (not_no _)
              replace o90 := o90.chg hb131 (not_no _) (not_no _)
              replace o92 := o92.chg hb131 (not_no _) (not_no _)
              replace bx102 := bx102.chg hb131 (not_no _)
              replace o107 := o107.chg hb131 (not_no _) (not_no _)
              replace o109 := o109.chg hb131 (not_no _) (not_no _)
              replace bx119 := bx119.chg hb131 (not_no _)
              replace bx129 := bx129.chg hb131 (not_no _)
              refine l_val (v := Value.bool (decide (((bareR g).1) = ((bareR ((bareR g).1)).1)))) rfl (e_pick_t rfl q198 rfl) ?_
              refine l_val (v := Value.bool (decide (((bareR g).1) = ((bareR ((bareR g).1)).1)))) rfl (e_move rfl) ?_
              have q203 : (decide (((bareR g).1) = ((bareR ((bareR g).1)).1))) = true := by first
  | rfl
  | exact merge_to_uv p12
  | exact bare_simple hm
  | (rw [bare_bare hm]; exact decide_eq_true rfl)
  | (rw [bareR_eq hm]; done)
  | (rw [bare_bare hm]; done)
  | (rw [hsd]; exact hst.2.2)
  | (rw [hsd]; exact hst.2.1)
  | (rw [hsd, hdr]; exact decide_eq_true hst.1)
  | (rw [hme]; exact mergeTo_len hm1)
  | (rw [hmd, hdr]; exact merge_deg_u p12)
  | (rw [hme]; simp [renR]; done)
  | (rw [hmd, hdr]; exact merge_deg_w p12 ⟨by omega, by omega⟩ q152 q157)
              refine l_val (v := v108) (want_y rfl rfl rfl q203) (e_move rfl) ?_
              have len132 := (o109.flat).small
              refine l_val (v := Value.int .i64 (List.length ((bareR ((bareR g).1)).2.1) : Int)) (want_y rfl rfl rfl q203) (e_len Try.underlying25 rfl o109.flat) ?_
              refine l_val (v := v91) (want_y rfl rfl rfl q203) (e_move rfl) ?_
              have len133 := (o92.flat).small
              refine l_val (v := Value.int .i64 (List.length ((bareR g).2.1) : Int)) (want_y rfl rfl rfl q203) (e_len Try.underlying25 rfl o92.flat) ?_
              refine l_val (v := Value.bool (decide ((List.length ((bareR ((bareR g).1)).2.1) : Int) = (List.length ((bareR g).2.1) : Int)))) (want_y rfl rfl rfl q203) (e_eql (m := (List.length ((bareR ((bareR g).1)).2.1) : Int)) (n := (List.length ((bareR g).2.1) : Int)) rfl rfl) ?_
              refine l_val (v := Value.bool (decide ((List.length ((bareR ((bareR g).1)).2.1) : Int) = (List.length ((bareR g).2.1) : Int)))) rfl (e_pick_t rfl q203 rfl) ?_
              refine l_val (v := Value.bool (decide ((List.length ((bareR ((bareR g).1)).2.1) : Int) = (List.length ((bareR g).2.1) : Int)))) rfl (e_assign rfl) ?_
              refine l_nil ?_
              refine run_ret (vs := [Value.bool (decide ((List.length ((bareR ((bareR g).1)).2.1) : Int) = (List.length ((bareR g).2.1) : Int)))]) Try.func6 (.tmp rfl .nil) ?_
              -- return 2
              have e0 : (decide ((List.length ((bareR ((bareR g).1)).2.1) : Int) = (List.length ((bareR g).2.1) : Int)) : Bool) = (true) := by
                first
                  | rfl
                  | exact decide_eq_true (congrArg (fun n : Nat => (n : Int)) (bare_len hm))
                  | exact decide_eq_true (bare_len hm)
              exact ⟨(congrArg (a₁ := decide ((List.length ((bareR ((bareR g).1)).2.1) : Int) = (List.length ((bareR g).2.1) : Int))) (fun (z0 : Bool) => Ending.returned (Value.bool z0)) e0), hbase.below⟩
          · skip
            refine run_cond_f rfl (decide_eq_false p12) ?_
            refine run_skip ?_
            refine run_seq ?_
            clear o15
            clear o49
            clear o51
            clear bx61
            refine run_region rfl ?_
            refine l_val (v := Value.agg (List.toArray [Value.int .i64 g.1, g_v])) rfl (e_load_bxN (ds := [Value.int .i64 g.1, g_v]) tp24_g rfl bx5 rfl rfl) ?_
            refine l_op rfl ?_
            refine o_callx (e_call (vals := [Value.agg (List.toArray [Value.int .i64 g.1, g_v])]) Try.func28 bd28_g nm28_g rfl) (Bare_ok w59 g g_v (r_g_v).ro) ?_
            rintro ⟨d135, v137, v139⟩ w134 ⟨fr136, o138, o140⟩
            obtain ⟨g141, hg141⟩ : ∃ q, q = glue w59.heap.size g57 d135 (fun n => if n = 1 then 10 else if n = 2 then 11 else 0) := ⟨_, rfl⟩
            have ch142 := chg_glue fr136.below g57 d135 (fun n => if n = 1 then 10 else if n = 2 then 11 else 0)
            rw [← hg141] at ch142
            replace hbase := hbase.chg ch142 (not_no _)
            replace r_g_v := r_g_v.chg ch142 (not_no _)
            replace bx5 := bx5.chg ch142 (not_no _)
            replace o138 := o138.glue (γ := g57) (ren := (fun n => if n = 1 then 10 else if n = 2 then 11 else 0)) (k := 10) fr136.col rfl rfl
            rw [← hg141] at o138
            replace o140 := o140.glue (γ := g57) (ren := (fun n => if n = 1 then 10 else if n = 2 then 11 else 0)) (k := 11) fr136.col rfl rfl
            rw [← hg141] at o140
            clear hg141
            refine l_val (v := Value.tuple (List.toArray [Value.agg (List.toArray [Value.int .i64 (((bareR g).1).1), v137]), v139, Value.int .i64 ((bareR g).2.2)])) rfl (e_move rfl) ?_
            refine l_val (v := Value.agg (List.toArray [Value.int .i64 (((bareR g).1).1), v137])) rfl (e_extract rfl rfl) ?_
            refine l_val (v := v139) rfl (e_extract rfl rfl) ?_
            refine l_val (v := Value.int .i64 ((bareR g).2.2)) rfl (e_extract rfl rfl) ?_
            refine l_op rfl ?_
            refine o_alloc g141 (is 12) (12, 0) rfl tp24_g ?_
            intro g146 w143 b145 ch144 bx147
            replace hbase := hbase.chg ch144 (not_no _)
            replace r_g_v := r_g_v.chg ch144 (not_no _)
            replace bx5 := bx5.chg ch144 (not_no _)
            replace o138 := o138.chg ch144 (not_no _) (not_no _)
            replace o140 := o140.chg ch144 (not_no _) (not_no _)
            replace bx147 : Bx g146 (is 12) w143 b145 [Value.int .i64 0, Value.slice none 0 0] := bx147
            refine l_op rfl ?_
            refine o_store_bx (cs' := [Value.int .i64 (((bareR g).1).1), v137]) tp24_g rfl rfl bx147 rfl (Nat.le_of_ble_eq_true rfl) (AllOne.all (.cons rfl (.cons (sl_one o138.flat) .nil))) rfl ?_
            intro w148 ch149 bx150
            replace hbase := hbase.chg ch149 (is_ne rfl)
            replace r_g_v := r_g_v.chg ch149 (is_ne rfl)
            replace bx5 := bx5.chg ch149 (is_ne rfl)
            replace o138 := o138.chg ch149 (is_ne rfl) (is_ne rfl)
            replace o140 := o140.chg ch149 (is_ne rfl) (is_ne rfl)
            clear bx147
            refine l_val (v := v139) rfl (e_assign rfl) ?_
            refine l_val (v := Value.int .i64 ((bareR g).2.2)) rfl (e_assign rfl) ?_
            refine l_nil ?_
            refine run_seq ?_
            clear bx5
            refine run_region rfl ?_
            refine l_val (v := Value.agg (List.toArray [Value.int .i64 (((bareR g).1).1), v137])) rfl (e_load_bxN (ds := [Value.int .i64 (((bareR g).1).1), v137]) tp24_g rfl bx150 rfl rfl) ?_
            refine l_op rfl ?_
            refine o_callx (e_call (vals := [Value.agg (List.toArray [Value.int .i64 (((bareR g).1).1), v137])]) Try.func28 bd28_g nm28_g rfl) (Bare_ok w148 ((bareR g).1) v137 (o138.flat).ro) ?_
            rintro ⟨d152, v154, v156⟩ w151 ⟨fr153, o155, o157⟩
            obtain ⟨g158, hg158⟩ : ∃ q, q = glue w148.heap.size g146 d152 (fun n => if n = 1 then 13 else if n = 2 then 14 else 0) := ⟨_, rfl⟩
            have ch159 := chg_glue fr153.below g146 d152 (fun n => if n = 1 then 13 else if n = 2 then 14 else 0)
            rw [← hg158] at ch159
            replace hbase := hbase.chg ch159 (not_no _)
            replace r_g_v := r_g_v.chg ch159 (not_no _)
            replace o138 := o138.chg ch159 (not_no _) (not_no _)
            replace o140 := o140.chg ch159 (not_no _) (not_no _)
            replace bx150 := bx150.chg ch159 (not_no _)
            replace o155 := o155.glue (γ := g146) (ren := (fun n => if n = 1 then 13 else if n = 2 then 14 else 0)) (k := 13) fr153.col rfl rfl
            rw [← hg158] at o155
            replace o157 := o157.glue (γ := g146) (ren := (fun n => if n = 1 then 13 else if n = 2 then 14 else 0)) (k := 14) fr153.col rfl rfl
            rw [← hg158] at o157
            clear hg158
            refine l_val (v := Value.tuple (List.toArray [Value.agg (List.toArray [Value.int .i64 (((bareR ((bareR g).1)).1).1), v154]), v156, Value.int .i64 ((bareR ((bareR g).1)).2.2)])) rfl (e_move rfl) ?_
            refine l_val (v := Value.agg (List.toArray [Value.int .i64 (((bareR ((bareR g).1)).1).1), v154])) rfl (e_extract rfl rfl) ?_
            refine l_val (v := v156) rfl (e_extract rfl rfl) ?_
            refine l_val (v := Value.int .i64 ((bareR ((bareR g).1)).2.2)) rfl (e_extract rfl rfl) ?_
            refine l_op rfl ?_
            refine o_alloc g158 (is 15) (15, 0) rfl tp24_g ?_
            intro g163 w160 b162 ch161 bx164
            replace hbase := hbase.chg ch161 (not_no _)
            replace r_g_v := r_g_v.chg ch161 (not_no _)
            replace o138 := o138.chg ch161 (not_no _) (not_no _)
            replace o140 := o140.chg ch161 (not_no _) (not_no _)
            replace bx150 := bx150.chg ch161 (not_no _)
            replace o155 := o155.chg ch161 (not_no _) (not_no _)
            replace o157 := o157.chg ch161 (not_no _) (not_no _)
            replace bx164 : Bx g163 (is 15) w160 b162 [Value.int .i64 0, Value.slice none 0 0] := bx164
            refine l_op rfl ?_
            refine o_store_bx (cs' := [Value.int .i64 (((bareR ((bareR g).1)).1).1), v154]) tp24_g rfl rfl bx164 rfl (Nat.le_of_ble_eq_true rfl) (AllOne.all (.cons rfl (.cons (sl_one o155.flat) .nil))) rfl ?_
            intro w165 ch166 bx167
            replace hbase := hbase.chg ch166 (is_ne rfl)
            replace r_g_v := r_g_v.chg ch166 (is_ne rfl)
            replace o138 := o138.chg ch166 (is_ne rfl) (is_ne rfl)
            replace o140 := o140.chg ch166 (is_ne rfl) (is_ne rfl)
            replace bx150 := bx150.chg ch166 (is_ne rfl)
            replace o155 := o155.chg ch166 (is_ne rfl) (is_ne rfl)
            replace o157 := o157.chg ch166 (is_ne rfl) (is_ne rfl)
            clear bx164
            refine l_val (v := v156) rfl (e_assign rfl) ?_
            refine l_val (v := Value.int .i64 ((bareR ((bareR g).1)).2.2)) rfl (e_assign rfl) ?_
            refine l_nil ?_
            refine run_seq ?_
            refine run_region rfl ?_
            refine l_val (v := Value.agg (List.toArray [Value.int .i64 (((bareR g).1).1), v137])) rfl (e_load_bxN (ds := [Value.int .i64 (((bareR g).1).1), v137]) tp24_g rfl bx150 rfl rfl) ?_
            refine l_op rfl ?_
            refine o_call (v := Value.tuple (List.toArray [Value.agg (List.toArray [Value.int .i64 (((lookR ((bareR g).1)).1).1), Value.int .i64 ((((lookR ((bareR g).1)).1).2).1), Value.int .i64 (((((lookR ((bareR g).1)).1).2).2).1), Value.int .i64 ((((((lookR ((bareR g).1)).1).2).2).2).1), Value.bool ((((((lookR ((bareR g).1)).1).2).2).2).2)]), Value.int .i64 ((lookR ((bareR g).1)).2)])) (e_call (vals := [Value.agg (List.toArray [Value.int .i64 (((bareR g).1).1), v137])]) Try.func29 bd29_g nm29_g rfl) (Look_ok w165 ((bareR g).1) v137 (o138.flat).ro) ?_
            intro w168 hb169
            replace hb169 := chg_below hb169 g163
            replace hbase := hbase.chg hb169 (not_no _)
            replace r_g_v := r_g_v.chg hb169 (not_no _)
            replace o138 := o138.chg hb169 (not_no _) (not_no _)
            replace o140 := o140.chg hb169 (not_no _) (not_no _)
            replace bx150 := bx150.chg hb169 (not_no _)
            replace o155 := o155.chg hb169 (not_no _) (not_no _)
            replace o157 := o157.chg hb169 (not_no _) (not_no _)
            replace bx167 := bx167.chg hb169 (not_no _)
            refine l_val (v := Value.tuple (List.toArray [Value.agg (List.toArray [Value.int .i64 (((lookR ((bareR g).1)).1).1), Value.int .i64 ((((lookR ((bareR g).1)).1).2).1), Value.int .i64 (((((lookR ((bareR g).1)).1).2).2).1), Value.int .i64 ((((((lookR ((bareR g).1)).1).2).2).2).1), Value.bool ((((((lookR ((bareR g).1)).1).2).2).2).2)]), Value.int .i64 ((lookR ((bareR g).1)).2)])) rfl (e_move rfl) ?_
            refine l_val (v := Value.agg (List.toArray [Value.int .i64 (((lookR ((bareR g).1)).1).1), Value.int .i64 ((((lookR ((bareR g).1)).1).2).1), Value.int .i64 (((((lookR ((bareR g).1)).1).2).2).1), Value.int .i64 ((((((lookR ((bareR g).1)).1).2).2).2).1), Value.bool ((((((lookR ((bareR g).1)).1).2).2).2).2)])) rfl (e_extract rfl rfl) ?_
            refine l_val (v := Value.int .i64 ((lookR ((bareR g).1)).2)) rfl (e_extract rfl rfl) ?_
            refine l_op rfl ?_
            refine o_alloc g163 (is 16) (16, 0) rfl tp48_g ?_
            intro g173 w170 b172 ch171 bx174
            replace hbase := hbase.chg ch171 (not_no _)
            replace r_g_v := r_g_v.chg ch171 (not_no _)
            replace o138 := o138.chg ch171 (not_no _) (not_no _)
            replace o140 := o140.chg ch171 (not_no _) (not_no _)
            replace bx150 := bx150.chg ch171 (not_no _)
            replace o155 := o155.chg ch171 (not_no _) (not_no _)
            replace o157 := o157.chg ch171 (not_no _) (not_no _)
            replace bx167 := bx167.chg ch171 (not_no _)
            replace bx174 : Bx g173 (is 16) w170 b172 [Value.int .i64 0, Value.int .i64 0, Value.int .i64 0, Value.int .i64 0, Value.bool false] := bx174
            refine l_op rfl ?_
            refine o_store_bx (cs' := [Value.int .i64 (((lookR ((bareR g).1)).1).1), Value.int .i64 ((((lookR ((bareR g).1)).1).2).1), Value.int .i64 (((((lookR ((bareR g).1)).1).2).2).1), Value.int .i64 ((((((lookR ((bareR g).1)).1).2).2).2).1), Value.bool ((((((lookR ((bareR g).1)).1).2).2).2).2)]) tp48_g rfl rfl bx174 rfl (Nat.le_of_ble_eq_true rfl) (AllOne.all (.cons rfl (.cons rfl (.cons rfl (.cons rfl (.cons rfl .nil)))))) rfl ?_
            intro w175 ch176 bx177
            replace hbase := hbase.chg ch176 (is_ne rfl)
            replace r_g_v := r_g_v.chg ch176 (is_ne rfl)
            replace o138 := o138.chg ch176 (is_ne rfl) (is_ne rfl)
            replace o140 := o140.chg ch176 (is_ne rfl) (is_ne rfl)
            replace bx150 := bx150.chg ch176 (is_ne rfl)
            replace o155 := o155.chg ch176 (is_ne rfl) (is_ne rfl)
            replace o157 := o157.chg ch176 (is_ne rfl) (is_ne rfl)
            replace bx167 := bx167.chg ch176 (is_ne rfl)
            clear bx174
            refine l_val (v := Value.int .i64 ((lookR ((bareR g).1)).2)) rfl (e_assign rfl) ?_
            refine l_nil ?_
            refine run_seq ?_
            refine run_region rfl ?_
            refine l_val (v := Value.int .i64 ((bareR g).2.2)) rfl (e_move rfl) ?_
            refine l_val (v := Value.bool (decide (((bareR g).2.2) = 0))) rfl (e_eql (m := (bareR g).2.2) (n := 0) rfl rfl) ?_
            refine l_val (v := Value.bool (decide (((bareR g).2.2) = 0))) rfl (e_move rfl) ?_
            have q190_178 : ((bareR g).2.2) = 0 := by first
  | rfl
  | exact merge_to_uv p12
  | exact bare_simple hm
  | (rw [bare_bare hm]; exact decide_eq_true rfl)
  | (rw [bareR_eq hm]; done)
  | (rw [bare_bare hm]; done)
  | (rw [hsd]; exact hst.2.2)
  | (rw [hsd]; exact hst.2.1)
  | (rw [hsd, hdr]; exact decide_eq_true hst.1)
  | (rw [hme]; exact mergeTo_len hm1)
  | (rw [hmd, hdr]; exact merge_deg_u p12)
  | (rw [hme]; simp [renR]; done)
  | (rw [hmd, hdr]; exact merge_deg_w p12 ⟨by omega, by omega⟩ q152 q157)
            refine l_val (v := Value.int .i64 ((bareR ((bareR g).1)).2.2)) (want_y rfl rfl rfl (decide_eq_true q190_178)) (e_move rfl) ?_
            refine l_val (v := Value.bool (decide (((bareR ((bareR g).1)).2.2) = 0))) (want_y rfl rfl rfl (decide_eq_true q190_178)) (e_eql (m := (bareR ((bareR g).1)).2.2) (n := 0) rfl rfl) ?_
            refine l_val (v := Value.bool (decide (((bareR ((bareR g).1)).2.2) = 0))) rfl (e_pick_t rfl (decide_eq_true q190_178) rfl) ?_
            refine l_val (v := Value.bool (decide (((bareR ((bareR g).1)).2.2) = 0))) rfl (e_move rfl) ?_
            have q194_179 : ((bareR ((bareR g).1)).2.2) = 0 := by first
  | rfl
  | exact merge_to_uv p12
  | exact bare_simple hm
  | (rw [bare_bare hm]; exact decide_eq_true rfl)
  | (rw [bareR_eq hm]; done)
  | (rw [bare_bare hm]; done)
  | (rw [hsd]; exact hst.2.2)
  | (rw [hsd]; exact hst.2.1)
  | (rw [hsd, hdr]; exact decide_eq_true hst.1)
  | (rw [hme]; exact mergeTo_len hm1)
  | (rw [hmd, hdr]; exact merge_deg_u p12)
  | (rw [hme]; simp [renR]; done)
  | (rw [hmd, hdr]; exact merge_deg_w p12 ⟨by omega, by omega⟩ q152 q157)
            refine l_val (v := Value.pointer (some ⟨b172, 4, none⟩)) (want_y rfl rfl rfl (decide_eq_true q194_179)) (e_fieldAddr Try.underlying48 rfl rfl rfl rfl) ?_
            refine l_val (v := Value.bool ((((((lookR ((bareR g).1)).1).2).2).2).2)) (want_y rfl rfl rfl (decide_eq_true q194_179)) (e_load_bx1 tp4_g rfl bx177 rfl) ?_
            refine l_val (v := Value.bool ((((((lookR ((bareR g).1)).1).2).2).2).2)) rfl (e_pick_t rfl (decide_eq_true q194_179) rfl) ?_
            refine l_val (v := Value.bool ((((((lookR ((bareR g).1)).1).2).2).2).2)) rfl (e_move rfl) ?_
            have q198_180 : ((((((lookR ((bareR g).1)).1).2).2).2).2) = true := by first
  | rfl
  | exact merge_to_uv p12
  | exact bare_simple hm
  | (rw [bare_bare hm]; exact decide_eq_true rfl)
  | (rw [bareR_eq hm]; done)
  | (rw [bare_bare hm]; done)
  | (rw [hsd]; exact hst.2.2)
  | (rw [hsd]; exact hst.2.1)
  | (rw [hsd, hdr]; exact decide_eq_true hst.1)
  | (rw [hme]; exact mergeTo_len hm1)
  | (rw [hmd, hdr]; exact merge_deg_u p12)
  | (rw [hme]; simp [renR]; done)
  | (rw [hmd, hdr]; exact merge_deg_w p12 ⟨by omega, by omega⟩ q152 q157)
            refine l_val (v := Value.agg (List.toArray [Value.int .i64 (((bareR g).1).1), v137])) (want_y rfl rfl rfl q198_180) (e_load_bxN (ds := [Value.int .i64 (((bareR g).1).1), v137]) tp24_g rfl bx150 rfl rfl) ?_
            refine l_val (v := Value.agg (List.toArray [Value.int .i64 (((bareR ((bareR g).1)).1).1), v154])) (want_y rfl rfl rfl q198_180) (e_load_bxN (ds := [Value.int .i64 (((bareR ((bareR g).1)).1).1), v154]) tp24_g rfl bx167 rfl rfl) ?_
            refine l_op (want_y rfl rfl rfl q198_180) ?_
            refine o_call (v := Value.bool (decide (((bareR g).1) = ((bareR ((bareR g).1)).1)))) (e_call (vals := [Value.agg (List.toArray [Value.int .i64 (((bareR g).1).1), v137]), Value.agg (List.toArray [Value.int .i64 (((bareR ((bareR g).1)).1).1), v154])]) Try.func11 bd11_g nm11_g rfl) (Same_ok w175 ((bareR g).1) v137 (o138.flat).ro ((bareR ((bareR g).1)).1) v154 (o155.flat).ro) ?_
            intro w181 hb182
            replace hb182 := chg_below hb182 g173
            replace hbase := hbase.chg hb182 (not_no _)
            replace r_g_v := r_g_v.chg hb182 (not_no _)
            replace o138 := o138.chg hb182 (not_no _) (not_no _)
            replace o140 := o140.chg hb182 (not_no _) (not_no _)
            replace bx150 := bx150.chg hb182 (not_no _)
            replace o155 := o155.chg hb182 (not_no _) (not_no _)
            replace o157 := o157.chg hb182 (not_no _) (not_no _)
            replace bx167 := bx167.chg hb182 (not_no _)
            replace bx177 := bx177.chg hb182 (not_no _)
            refine l_val (v := Value.bool (decide (((bareR g).1) = ((bareR ((bareR g).1)).1)))) rfl (e_pick_t rfl q198_180 rfl) ?_
            refine l_val (v := Value.bool (decide (((bareR g).1) = ((bareR ((bareR g).1)).1)))) rfl (e_move rfl) ?_
            have q203_183 : (decide (((bareR g).1) = ((bareR ((bareR g).1)).1))) = true := by first
  | rfl
  | exact merge_to_uv p12
  | exact bare_simple hm
  | (rw [bare_bare hm]; exact decide_eq_true rfl)
  | (rw [bareR_eq hm]; done)
  | (rw [bare_bare hm]; done)
  | (rw [hsd]; exact hst.2.2)
  | (rw [hsd]; exact hst.2.1)
  | (rw [hsd, hdr]; exact decide_eq_true hst.1)
  | (rw [hme]; exact mergeTo_len hm1)
  | (rw [hmd, hdr]; exact merge_deg_u p12)
  | (rw [hme]; simp [renR]; done)
  | (rw [hmd, hdr]; exact merge_deg_w p12 ⟨by omega, by omega⟩ q152 q157)
            refine l_val (v := v156) (want_y rfl rfl rfl q203_183) (e_move rfl) ?_
            have len184 := (o157.flat).small
            refine l_val (v := Value.int .i64 (List.length ((bareR ((bareR g).1)).2.1) : Int)) (want_y rfl rfl rfl q203_183) (e_len Try.underlying25 rfl o157.flat) ?_
            refine l_val (v := v139) (want_y rfl rfl rfl q203_183) (e_move rfl) ?_
            have len185 := (o140.flat).small
            refine l_val (v := Value.int .i64 (List.length ((bareR g).2.1) : Int)) (want_y rfl rfl rfl q203_183) (e_len Try.underlying25 rfl o140.flat) ?_
            refine l_val (v := Value.bool (decide ((List.length ((bareR ((bareR g).1)).2.1) : Int) = (List.length ((bareR g).2.1) : Int)))) (want_y rfl rfl rfl q203_183) (e_eql (m := (List.length ((bareR ((bareR g).1)).2.1) : Int)) (n := (List.length ((bareR g).2.1) : Int)) rfl rfl) ?_
            refine l_val (v := Value.bool (decide ((List.length ((bareR ((bareR g).1)).2.1) : Int) = (List.length ((bareR g).2.1) : Int)))) rfl (e_pick_t rfl q203_183 rfl) ?_
            refine l_val (v := Value.bool (decide ((List.length ((bareR ((bareR g).1)).2.1) : Int) = (List.length ((bareR g).2.1) : Int)))) rfl (e_assign rfl) ?_
            refine l_nil ?_
            refine run_ret (vs := [Value.bool (decide ((List.length ((bareR ((bareR g).1)).2.1) : Int) = (List.length ((bareR g).2.1) : Int)))]) Try.func6 (.tmp rfl .nil) ?_
            -- return 3
            have e0 : (decide ((List.length ((bareR ((bareR g).1)).2.1) : Int) = (List.length ((bareR g).2.1) : Int)) : Bool) = (true) := by
              first
                | rfl
                | exact decide_eq_true (congrArg (fun n : Nat => (n : Int)) (bare_len hm))
                | exact decide_eq_true (bare_len hm)
            exact ⟨(congrArg (a₁ := decide ((List.length ((bareR ((bareR g).1)).2.1) : Int) = (List.length ((bareR g).2.1) : Int))) (fun (z0 : Bool) => Ending.returned (Value.bool z0)) e0), hbase.below⟩
        · skip
          refine run_cond_f rfl (decide_eq_false p7) ?_
          refine run_skip ?_
          refine run_seq ?_
          clear o22
          clear bx32
          refine run_region rfl ?_
          refine l_val (v := Value.agg (List.toArray [Value.int .i64 g.1, g_v])) rfl (e_load_bxN (ds := [Value.int .i64 g.1, g_v]) tp24_g rfl bx5 rfl rfl) ?_
          refine l_val (v := Value.int .i64 u) rfl (e_move rfl) ?_
          refine l_val (v := Value.int .i64 v) rfl (e_move rfl) ?_
          refine l_op rfl ?_
          refine o_callx (e_call (vals := [Value.agg (List.toArray [Value.int .i64 g.1, g_v]), Value.int .i64 u, Value.int .i64 v]) Try.func27 bd27_g nm27_g rfl) (Merge_ok w30 g g_v (r_g_v).ro u v) ?_
          rintro ⟨d187, v189, v191⟩ w186 ⟨fr188, o190, o192⟩
          obtain ⟨g193, hg193⟩ : ∃ q, q = glue w30.heap.size g28 d187 (fun n => if n = 1 then 6 else if n = 2 then 7 else 0) := ⟨_, rfl⟩
          have ch194 := chg_glue fr188.below g28 d187 (fun n => if n = 1 then 6 else if n = 2 then 7 else 0)
          rw [← hg193] at ch194
          replace hbase := hbase.chg ch194 (not_no _)
          replace r_g_v := r_g_v.chg ch194 (not_no _)
          replace bx5 := bx5.chg ch194 (not_no _)
          replace o15 := o15.chg ch194 (not_no _) (not_no _)
          replace o190 := o190.glue (γ := g28) (ren := (fun n => if n = 1 then 6 else if n = 2 then 7 else 0)) (k := 6) fr188.col rfl rfl
          rw [← hg193] at o190
          replace o192 := o192.glue (γ := g28) (ren := (fun n => if n = 1 then 6 else if n = 2 then 7 else 0)) (k := 7) fr188.col rfl rfl
          rw [← hg193] at o192
          clear hg193
          refine l_val (v := Value.tuple (List.toArray [Value.agg (List.toArray [Value.int .i64 (((mergeR g u v).1).1), v189]), v191, Value.int .i64 ((mergeR g u v).2.2)])) rfl (e_move rfl) ?_
          refine l_val (v := Value.agg (List.toArray [Value.int .i64 (((mergeR g u v).1).1), v189])) rfl (e_extract rfl rfl) ?_
          refine l_val (v := v191) rfl (e_extract rfl rfl) ?_
          refine l_val (v := Value.int .i64 ((mergeR g u v).2.2)) rfl (e_extract rfl rfl) ?_
          refine l_op rfl ?_
          refine o_alloc g193 (is 8) (8, 0) rfl tp24_g ?_
          intro g198 w195 b197 ch196 bx199
          replace hbase := hbase.chg ch196 (not_no _)
          replace r_g_v := r_g_v.chg ch196 (not_no _)
          replace bx5 := bx5.chg ch196 (not_no _)
          replace o15 := o15.chg ch196 (not_no _) (not_no _)
          replace o190 := o190.chg ch196 (not_no _) (not_no _)
          replace o192 := o192.chg ch196 (not_no _) (not_no _)
          replace bx199 : Bx g198 (is 8) w195 b197 [Value.int .i64 0, Value.slice none 0 0] := bx199
          refine l_op rfl ?_
          refine o_store_bx (cs' := [Value.int .i64 (((mergeR g u v).1).1), v189]) tp24_g rfl rfl bx199 rfl (Nat.le_of_ble_eq_true rfl) (AllOne.all (.cons rfl (.cons (sl_one o190.flat) .nil))) rfl ?_
          intro w200 ch201 bx202
          replace hbase := hbase.chg ch201 (is_ne rfl)
          replace r_g_v := r_g_v.chg ch201 (is_ne rfl)
          replace bx5 := bx5.chg ch201 (is_ne rfl)
          replace o15 := o15.chg ch201 (is_ne rfl) (is_ne rfl)
          replace o190 := o190.chg ch201 (is_ne rfl) (is_ne rfl)
          replace o192 := o192.chg ch201 (is_ne rfl) (is_ne rfl)
          clear bx199
          refine l_val (v := v191) rfl (e_assign rfl) ?_
          refine l_val (v := Value.int .i64 ((mergeR g u v).2.2)) rfl (e_assign rfl) ?_
          refine l_nil ?_
          refine run_seq ?_
          refine run_seq ?_
          refine run_region rfl ?_
          refine l_val (v := Value.int .i64 ((mergeR g u v).2.2)) rfl (e_move rfl) ?_
          refine l_val (v := Value.bool (decide (((mergeR g u v).2.2) = 0))) rfl (e_eql (m := (mergeR g u v).2.2) (n := 0) rfl rfl) ?_
          refine l_nil ?_
          by_cases p12 : ((mergeR g u v).2.2) = 0
          · skip
            obtain ⟨_, ⟨⟨hu1, hu2⟩, hv1, hv2⟩, hne, hme⟩ := mergeR_ok p12
            have hmd := degR_eq (merge_may p12)
            have hml := degR_len (merge_may p12)
            have hmtu := merge_to p12 hu1 hu2
            have hmtv := merge_to p12 hv1 hv2
            have hbu := deg_bd (g := g) hu1 hu2
            have hbv := deg_bd (g := g) hv1 hv2
            refine run_cond_t rfl (decide_eq_true p12) ?_
            refine run_seq ?_
            refine run_region rfl ?_
            refine l_val (v := Value.agg (List.toArray [Value.int .i64 (((mergeR g u v).1).1), v189])) rfl (e_load_bxN (ds := [Value.int .i64 (((mergeR g u v).1).1), v189]) tp24_g rfl bx202 rfl rfl) ?_
            refine l_op rfl ?_
            refine o_callx (e_call (vals := [Value.agg (List.toArray [Value.int .i64 (((mergeR g u v).1).1), v189])]) Try.func24 bd24_g nm24_g rfl) (Degrees_ok w200 ((mergeR g u v).1) v189 (o190.flat).ro) ?_
            rintro ⟨d204, v206⟩ w203 ⟨fr205, o207⟩
            obtain ⟨g208, hg208⟩ : ∃ q, q = glue w200.heap.size g198 d204 (fun n => if n = 1 then 9 else 0) := ⟨_, rfl⟩
            have ch209 := chg_glue fr205.below g198 d204 (fun n => if n = 1 then 9 else 0)
            rw [← hg208] at ch209
            replace hbase := hbase.chg ch209 (not_no _)
            replace r_g_v := r_g_v.chg ch209 (not_no _)
            replace bx5 := bx5.chg ch209 (not_no _)
            replace o15 := o15.chg ch209 (not_no _) (not_no _)
            replace o190 := o190.chg ch209 (not_no _) (not_no _)
            replace o192 := o192.chg ch209 (not_no _) (not_no _)
            replace bx202 := bx202.chg ch209 (not_no _)
            replace o207 := o207.glue (γ := g198) (ren := (fun n => if n = 1 then 9 else 0)) (k := 9) fr205.col rfl rfl
            rw [← hg208] at o207
            clear hg208
            refine l_val (v := Value.tuple (List.toArray [v206, Value.int .i64 ((degR ((mergeR g u v).1)).2)])) rfl (e_move rfl) ?_
            refine l_val (v := v206) rfl (e_extract rfl rfl) ?_
            refine l_val (v := Value.int .i64 ((degR ((mergeR g u v).1)).2)) rfl (e_extract rfl rfl) ?_
            refine l_val (v := v206) rfl (e_assign rfl) ?_
            refine l_val (v := Value.int .i64 ((degR ((mergeR g u v).1)).2)) rfl (e_assign rfl) ?_
            refine l_nil ?_
            refine run_seq ?_
            refine run_seq ?_
            refine region_q g208 rfl mixed_g (by kernel_rfl) ?_
            intro w211 ch210
            replace hbase := hbase.chg ch210 (not_no _)
            replace r_g_v := r_g_v.chg ch210 (not_no _)
            replace bx5 := bx5.chg ch210 (not_no _)
            replace o15 := o15.chg ch210 (not_no _) (not_no _)
            replace o190 := o190.chg ch210 (not_no _) (not_no _)
            replace o192 := o192.chg ch210 (not_no _) (not_no _)
            replace bx202 := bx202.chg ch210 (not_no _)
            replace o207 := o207.chg ch210 (not_no _) (not_no _)
            refine q_val (v := v191) rfl (fun w' hw' => e_move rfl) ?_
            have len212 := (o192.flat).small
            refine q_val (v := Value.int .i64 (List.length ((mergeR g u v).2.1) : Int)) rfl (fun w' hw' => e_len Try.underlying25 rfl (o192.flat.bel hw')) ?_
            refine q_val (v := Value.pointer (some ⟨b3, 0, none⟩)) rfl (fun w' hw' => e_fieldAddr Try.underlying24 rfl rfl rfl rfl) ?_
            refine q_val (v := Value.int .i64 g.1) rfl (fun w' hw' => e_load_bx1 tp3_g rfl (bx5.bel hw') rfl) ?_
            refine q_val (v := Value.bool (!(decide ((List.length ((mergeR g u v).2.1) : Int) = g.1)))) rfl (fun w' hw' => e_neq (m := (List.length ((mergeR g u v).2.1) : Int)) (n := g.1) rfl rfl) ?_
            refine q_val (v := Value.bool (!(decide ((List.length ((mergeR g u v).2.1) : Int) = g.1)))) rfl (fun w' hw' => e_move rfl) ?_
            have q104_213 : (List.length ((mergeR g u v).2.1) : Int) = g.1 := by first
  | rfl
  | exact merge_to_uv p12
  | exact bare_simple hm
  | (rw [bare_bare hm]; exact decide_eq_true rfl)
  | (rw [bareR_eq hm]; done)
  | (rw [bare_bare hm]; done)
  | (rw [hsd]; exact hst.2.2)
  | (rw [hsd]; exact hst.2.1)
  | (rw [hsd, hdr]; exact decide_eq_true hst.1)
  | (rw [hme]; exact mergeTo_len hm1)
  | (rw [hmd, hdr]; exact merge_deg_u p12)
  | (rw [hme]; simp [renR]; done)
  | (rw [hmd, hdr]; exact merge_deg_w p12 ⟨by omega, by omega⟩ q152 q157)
            refine q_val (v := v191) (want_y rfl rfl rfl (congrArg Bool.not (decide_eq_true q104_213))) (fun w' hw' => e_move rfl) ?_
            refine q_val (v := Value.int .i64 u) (want_y rfl rfl rfl (congrArg Bool.not (decide_eq_true q104_213))) (fun w' hw' => e_move rfl) ?_
            refine q_val (v := Value.pointer (some (eAddr v191 1 (Int.toNat u)))) (want_y rfl rfl rfl (congrArg Bool.not (decide_eq_true q104_213))) (fun w' hw' => e_indexAddr (α := Int) (xs := (mergeR g u v).2.1) (v := v191) (i := u) Try.underlying25 rfl rfl (o192.flat.bel hw') rfl (by omega) (by omega)) ?_
            refine q_val (v := Value.int .i64 (gI ((mergeR g u v).2.1) u)) (want_y rfl rfl rfl (congrArg Bool.not (decide_eq_true q104_213))) (fun w' hw' => e_load_el1 (α := Int) (xs := (mergeR g u v).2.1) (v := v191) (i := u) tp3_g rfl (o192.flat.bel hw') (by omega) (by omega) (by decide) rfl) ?_
            refine q_val (v := v191) (want_y rfl rfl rfl (congrArg Bool.not (decide_eq_true q104_213))) (fun w' hw' => e_move rfl) ?_
            refine q_val (v := Value.int .i64 v) (want_y rfl rfl rfl (congrArg Bool.not (decide_eq_true q104_213))) (fun w' hw' => e_move rfl) ?_
            refine q_val (v := Value.pointer (some (eAddr v191 1 (Int.toNat v)))) (want_y rfl rfl rfl (congrArg Bool.not (decide_eq_true q104_213))) (fun w' hw' => e_indexAddr (α := Int) (xs := (mergeR g u v).2.1) (v := v191) (i := v) Try.underlying25 rfl rfl (o192.flat.bel hw') rfl (by omega) (by omega)) ?_
            refine q_val (v := Value.int .i64 (gI ((mergeR g u v).2.1) v)) (want_y rfl rfl rfl (congrArg Bool.not (decide_eq_true q104_213))) (fun w' hw' => e_load_el1 (α := Int) (xs := (mergeR g u v).2.1) (v := v191) (i := v) tp3_g rfl (o192.flat.bel hw') (by omega) (by omega) (by decide) rfl) ?_
            refine q_val (v := Value.bool (!(decide ((gI ((mergeR g u v).2.1) u) = (gI ((mergeR g u v).2.1) v))))) (want_y rfl rfl rfl (congrArg Bool.not (decide_eq_true q104_213))) (fun w' hw' => e_neq (m := (gI ((mergeR g u v).2.1) u)) (n := (gI ((mergeR g u v).2.1) v)) rfl rfl) ?_
            refine q_val (v := Value.bool (!(decide ((gI ((mergeR g u v).2.1) u) = (gI ((mergeR g u v).2.1) v))))) rfl (fun w' hw' => e_pick_f rfl (congrArg Bool.not (decide_eq_true q104_213)) rfl) ?_
            refine q_val (v := Value.bool (!(decide ((gI ((mergeR g u v).2.1) u) = (gI ((mergeR g u v).2.1) v))))) rfl (fun w' hw' => e_move rfl) ?_
            have q115_214 : (gI ((mergeR g u v).2.1) u) = (gI ((mergeR g u v).2.1) v) := by first
  | rfl
  | exact merge_to_uv p12
  | exact bare_simple hm
  | (rw [bare_bare hm]; exact decide_eq_true rfl)
  | (rw [bareR_eq hm]; done)
  | (rw [bare_bare hm]; done)
  | (rw [hsd]; exact hst.2.2)
  | (rw [hsd]; exact hst.2.1)
  | (rw [hsd, hdr]; exact decide_eq_true hst.1)
  | (rw [hme]; exact mergeTo_len hm1)
  | (rw [hmd, hdr]; exact merge_deg_u p12)
  | (rw [hme]; simp [renR]; done)
  | (rw [hmd, hdr]; exact merge_deg_w p12 ⟨by omega, by omega⟩ q152 q157)
            refine q_val (v := v206) (want_y rfl rfl rfl (congrArg Bool.not (decide_eq_true q115_214))) (fun w' hw' => e_move rfl) ?_
            refine q_val (v := v191) (want_y rfl rfl rfl (congrArg Bool.not (decide_eq_true q115_214))) (fun w' hw' => e_move rfl) ?_
            refine q_val (v := Value.int .i64 u) (want_y rfl rfl rfl (congrArg Bool.not (decide_eq_true q115_214))) (fun w' hw' => e_move rfl) ?_
            refine q_val (v := Value.pointer (some (eAddr v191 1 (Int.toNat u)))) (want_y rfl rfl rfl (congrArg Bool.not (decide_eq_true q115_214))) (fun w' hw' => e_indexAddr (α := Int) (xs := (mergeR g u v).2.1) (v := v191) (i := u) Try.underlying25 rfl rfl (o192.flat.bel hw') rfl (by omega) (by omega)) ?_
            refine q_val (v := Value.int .i64 (gI ((mergeR g u v).2.1) u)) (want_y rfl rfl rfl (congrArg Bool.not (decide_eq_true q115_214))) (fun w' hw' => e_load_el1 (α := Int) (xs := (mergeR g u v).2.1) (v := v191) (i := u) tp3_g rfl (o192.flat.bel hw') (by omega) (by omega) (by decide) rfl) ?_
            refine q_val (v := Value.pointer (some (eAddr v206 1 (Int.toNat (gI ((mergeR g u v).2.1) u))))) (want_y rfl rfl rfl (congrArg Bool.not (decide_eq_true q115_214))) (fun w' hw' => e_indexAddr (α := Int) (xs := (degR ((mergeR g u v).1)).1) (v := v206) (i := (gI ((mergeR g u v).2.1) u)) Try.underlying25 rfl rfl (o207.flat.bel hw') rfl (by omega) (by omega)) ?_
            refine q_val (v := Value.int .i64 (gI ((degR ((mergeR g u v).1)).1) (gI ((mergeR g u v).2.1) u))) (want_y rfl rfl rfl (congrArg Bool.not (decide_eq_true q115_214))) (fun w' hw' => e_load_el1 (α := Int) (xs := (degR ((mergeR g u v).1)).1) (v := v206) (i := (gI ((mergeR g u v).2.1) u)) tp3_g rfl (o207.flat.bel hw') (by omega) (by omega) (by decide) rfl) ?_
            refine q_val (v := v14) (want_y rfl rfl rfl (congrArg Bool.not (decide_eq_true q115_214))) (fun w' hw' => e_move rfl) ?_
            refine q_val (v := Value.int .i64 u) (want_y rfl rfl rfl (congrArg Bool.not (decide_eq_true q115_214))) (fun w' hw' => e_move rfl) ?_
            refine q_val (v := Value.pointer (some (eAddr v14 1 (Int.toNat u)))) (want_y rfl rfl rfl (congrArg Bool.not (decide_eq_true q115_214))) (fun w' hw' => e_indexAddr (α := Int) (xs := (degR g).1) (v := v14) (i := u) Try.underlying25 rfl rfl (o15.flat.bel hw') rfl (by omega) (by omega)) ?_
            refine q_val (v := Value.int .i64 (gI ((degR g).1) u)) (want_y rfl rfl rfl (congrArg Bool.not (decide_eq_true q115_214))) (fun w' hw' => e_load_el1 (α := Int) (xs := (degR g).1) (v := v14) (i := u) tp3_g rfl (o15.flat.bel hw') (by omega) (by omega) (by decide) rfl) ?_
            refine q_val (v := v14) (want_y rfl rfl rfl (congrArg Bool.not (decide_eq_true q115_214))) (fun w' hw' => e_move rfl) ?_
            refine q_val (v := Value.int .i64 v) (want_y rfl rfl rfl (congrArg Bool.not (decide_eq_true q115_214))) (fun w' hw' => e_move rfl) ?_
            refine q_val (v := Value.pointer (some (eAddr v14 1 (Int.toNat v)))) (want_y rfl rfl rfl (congrArg Bool.not (decide_eq_true q115_214))) (fun w' hw' => e_indexAddr (α := Int) (xs := (degR g).1) (v := v14) (i := v) Try.underlying25 rfl rfl (o15.flat.bel hw') rfl (by omega) (by omega)) ?_
            refine q_val (v := Value.int .i64 (gI ((degR g).1) v)) (want_y rfl rfl rfl (congrArg Bool.not (decide_eq_true q115_214))) (fun w' hw' => e_load_el1 (α := Int) (xs := (degR g).1) (v := v14) (i := v) tp3_g rfl (o15.flat.bel hw') (by omega) (by omega) (by decide) rfl) ?_
            refine q_val (v := Value.int .i64 ((gI ((degR g).1) u) + (gI ((degR g).1) v))) (want_y rfl rfl rfl (congrArg Bool.not (decide_eq_true q115_214))) (fun w' hw' => e_add (m := (gI ((degR g).1) u)) (n := (gI ((degR g).1) v)) rfl rfl (by omega)) ?_
            refine q_val (v := Value.bool (!(decide ((gI ((degR ((mergeR g u v).1)).1) (gI ((mergeR g u v).2.1) u)) = ((gI ((degR g).1) u) + (gI ((degR g).1) v)))))) (want_y rfl rfl rfl (congrArg Bool.not (decide_eq_true q115_214))) (fun w' hw' => e_neq (m := (gI ((degR ((mergeR g u v).1)).1) (gI ((mergeR g u v).2.1) u))) (n := (gI ((degR g).1) u) + (gI ((degR g).1) v)) rfl rfl) ?_
            refine q_val (v := Value.bool (!(decide ((gI ((degR ((mergeR g u v).1)).1) (gI ((mergeR g u v).2.1) u)) = ((gI ((degR g).1) u) + (gI ((degR g).1) v)))))) rfl (fun w' hw' => e_pick_f rfl (congrArg Bool.not (decide_eq_true q115_214)) rfl) ?_
            refine q_val (v := Value.bool (!(decide ((gI ((degR ((mergeR g u v).1)).1) (gI ((mergeR g u v).2.1) u)) = ((gI ((degR g).1) u) + (gI ((degR g).1) v)))))) rfl (fun w' hw' => e_move rfl) ?_
            have q134_215 : (gI ((degR ((mergeR g u v).1)).1) (gI ((mergeR g u v).2.1) u)) = ((gI ((degR g).1) u) + (gI ((degR g).1) v)) := by first
  | rfl
  | exact merge_to_uv p12
  | exact bare_simple hm
  | (rw [bare_bare hm]; exact decide_eq_true rfl)
  | (rw [bareR_eq hm]; done)
  | (rw [bare_bare hm]; done)
  | (rw [hsd]; exact hst.2.2)
  | (rw [hsd]; exact hst.2.1)
  | (rw [hsd, hdr]; exact decide_eq_true hst.1)
  | (rw [hme]; exact mergeTo_len hm1)
  | (rw [hmd, hdr]; exact merge_deg_u p12)
  | (rw [hme]; simp [renR]; done)
  | (rw [hmd, hdr]; exact merge_deg_w p12 ⟨by omega, by omega⟩ q152 q157)
            refine q_val (v := Value.pointer (some ⟨b197, 1, none⟩)) (want_y rfl rfl rfl (congrArg Bool.not (decide_eq_true q134_215))) (fun w' hw' => e_fieldAddr Try.underlying24 rfl rfl rfl rfl) ?_
            refine q_val (v := v189) (want_y rfl rfl rfl (congrArg Bool.not (decide_eq_true q134_215))) (fun w' hw' => e_load_bx1 tp22_g rfl (bx202.bel hw') rfl) ?_
            have len216 := (o190.flat).small
            refine q_val (v := Value.int .i64 (List.length (((mergeR g u v).1).2) : Int)) (want_y rfl rfl rfl (congrArg Bool.not (decide_eq_true q134_215))) (fun w' hw' => e_len Try.underlying22 rfl (o190.flat.bel hw')) ?_
            refine q_val (v := Value.pointer (some ⟨b3, 1, none⟩)) (want_y rfl rfl rfl (congrArg Bool.not (decide_eq_true q134_215))) (fun w' hw' => e_fieldAddr Try.underlying24 rfl rfl rfl rfl) ?_
            refine q_val (v := g_v) (want_y rfl rfl rfl (congrArg Bool.not (decide_eq_true q134_215))) (fun w' hw' => e_load_bx1 tp22_g rfl (bx5.bel hw') rfl) ?_
            refine q_val (v := Value.int .i64 (List.length g.2 : Int)) (want_y rfl rfl rfl (congrArg Bool.not (decide_eq_true q134_215))) (fun w' hw' => e_len Try.underlying22 rfl (r_g_v.bel hw')) ?_
            refine q_val (v := Value.bool (!(decide ((List.length (((mergeR g u v).1).2) : Int) = (List.length g.2 : Int))))) (want_y rfl rfl rfl (congrArg Bool.not (decide_eq_true q134_215))) (fun w' hw' => e_neq (m := (List.length (((mergeR g u v).1).2) : Int)) (n := (List.length g.2 : Int)) rfl rfl) ?_
            refine q_val (v := Value.bool (!(decide ((List.length (((mergeR g u v).1).2) : Int) = (List.length g.2 : Int))))) rfl (fun w' hw' => e_pick_f rfl (congrArg Bool.not (decide_eq_true q134_215)) rfl) ?_
            refine q_nil ?_
            intro w217 hc218
            replace hc218 := chg_below hc218 g208
            replace hbase := hbase.chg hc218 (not_no _)
            replace r_g_v := r_g_v.chg hc218 (not_no _)
            replace bx5 := bx5.chg hc218 (not_no _)
            replace o15 := o15.chg hc218 (not_no _) (not_no _)
            replace o190 := o190.chg hc218 (not_no _) (not_no _)
            replace o192 := o192.chg hc218 (not_no _) (not_no _)
            replace bx202 := bx202.chg hc218 (not_no _)
            replace o207 := o207.chg hc218 (not_no _) (not_no _)
            have p14_219 : (List.length (((mergeR g u v).1).2) : Int) = (List.length g.2 : Int) := by first
  | rfl
  | exact merge_to_uv p12
  | exact bare_simple hm
  | (rw [bare_bare hm]; exact decide_eq_true rfl)
  | (rw [bareR_eq hm]; done)
  | (rw [bare_bare hm]; done)
  | (rw [hsd]; exact hst.2.2)
  | (rw [hsd]; exact hst.2.1)
  | (rw [hsd, hdr]; exact decide_eq_true hst.1)
  | (rw [hme]; exact mergeTo_len hm1)
  | (rw [hmd, hdr]; exact merge_deg_u p12)
  | (rw [hme]; simp [renR]; done)
  | (rw [hmd, hdr]; exact merge_deg_w p12 ⟨by omega, by omega⟩ q152 q157)
            refine run_cond_f rfl (congrArg Bool.not (decide_eq_true p14_219)) ?_
            refine run_skip ?_
            refine run_seq ?_
            clear o190
            clear bx202
            refine run_region rfl ?_
            refine l_val (v := Value.int .i64 0) rfl (e_assign rfl) ?_
            refine l_nil ?_
            refine run_block ?_
            refine run_loop (σ := Nat × Cmap) (fun ⟨j, gq⟩ f w => Base w0 gq w ∧ f 2 = Value.int .i64 u ∧ f 3 = Value.int .i64 v ∧ f 4 = Value.pointer (some ⟨b3, 0, none⟩) ∧ f 9 = v14 ∧ f 16 = v191 ∧ f 17 = v206 ∧ f 19 = Value.int .i64 (j : Int) ∧ Sl gq (is 0) w g_v g.2 ∧ Bx gq (is 1) w b3 [Value.int .i64 g.1, g_v] ∧ Ow gq (is 2) (is 2) w v14 ((degR g).1) ∧ Ow gq (is 7) (is 7) w v191 ((mergeR g u v).2.1) ∧ Ow gq (is 9) (is 9) w v206 ((degR ((mergeR g u v).1)).1) ∧ (j : Int) ≤ (g.1 : Int) ∧ ((j : Int) ≤ g.1)) (fun ⟨j, gq⟩ => Int.toNat ((g.1 : Int) - (j : Int))) (0, g208) ?_ ?_
            · exact ⟨hbase, rfl, rfl, rfl, rfl, rfl, rfl, rfl, r_g_v, bx5, o15, o192, o207, by omega, by omega⟩
            clear r_g_v
            clear bx5
            clear o15
            clear o192
            clear o207
            clear hbase
            rintro ⟨j, g222⟩ f220 w221 ⟨hbase, zs2, zs3, zs4, zs9, zs16, zs17, zs19, r_g_v, bx5, o15, o192, o207, hle_j, hinv⟩ back17
            refine run_seq ?_
            refine run_seq ?_
            refine run_region rfl ?_
            refine l_val (v := Value.int .i64 (j : Int)) rfl (e_move (by exact zs19)) ?_
            refine l_val (v := Value.pointer (some ⟨b3, 0, none⟩)) rfl (e_fieldAddr Try.underlying24 rfl rfl (by exact zs4) rfl) ?_
            refine l_val (v := Value.int .i64 g.1) rfl (e_load_bx1 tp3_g rfl bx5 rfl) ?_
            refine l_val (v := Value.bool (decide ((j : Int) < g.1))) rfl (e_lss (m := (j : Int)) (n := g.1) rfl rfl) ?_
            refine l_nil ?_
            by_cases p17 : (j : Int) < g.1
            · skip
              have hmtw := merge_to p12 (w := (j : Int)) (by omega) p17
              refine run_cond_t rfl (decide_eq_true p17) ?_
              refine run_skip ?_
              refine run_seq ?_
              refine run_block ?_
              refine run_seq ?_
              refine region_q g222 rfl mixed_g (by kernel_rfl) ?_
              intro w224 ch223
              replace hbase := hbase.chg ch223 (not_no _)
              replace r_g_v := r_g_v.chg ch223 (not_no _)
              replace bx5 := bx5.chg ch223 (not_no _)
              replace o15 := o15.chg ch223 (not_no _) (not_no _)
              replace o192 := o192.chg ch223 (not_no _) (not_no _)
              replace o207 := o207.chg ch223 (not_no _) (not_no _)
              refine q_val (v := Value.int .i64 (j : Int)) rfl (fun w' hw' => e_move (by exact zs19)) ?_
              refine q_val (v := Value.int .i64 u) rfl (fun w' hw' => e_move (by exact zs2)) ?_
              refine q_val (v := Value.bool (!(decide ((j : Int) = u)))) rfl (fun w' hw' => e_neq (m := (j : Int)) (n := u) rfl rfl) ?_
              refine q_val (v := Value.bool (!(decide ((j : Int) = u)))) rfl (fun w' hw' => e_move rfl) ?_
              by_cases q152 : (j : Int) = u
              · skip
                refine q_skip (want_n rfl rfl rfl (congrArg Bool.not (decide_eq_true q152))) ?_
                refine q_skip (want_n rfl rfl rfl (congrArg Bool.not (decide_eq_true q152))) ?_
                refine q_skip (want_n rfl rfl rfl (congrArg Bool.not (decide_eq_true q152))) ?_
                refine q_val (v := Value.bool false) rfl (fun w' hw' => e_pick_f rfl (congrArg Bool.not (decide_eq_true q152)) rfl) ?_
                refine q_val (v := Value.bool false) rfl (fun w' hw' => e_move rfl) ?_
                refine q_skip (want_n rfl rfl rfl rfl) ?_
                refine q_skip (want_n rfl rfl rfl rfl) ?_
                refine q_skip (want_n rfl rfl rfl rfl) ?_
                refine q_skip (want_n rfl rfl rfl rfl) ?_
                refine q_skip (want_n rfl rfl rfl rfl) ?_
                refine q_skip (want_n rfl rfl rfl rfl) ?_
                refine q_skip (want_n rfl rfl rfl rfl) ?_
                refine q_skip (want_n rfl rfl rfl rfl) ?_
                refine q_skip (want_n rfl rfl rfl rfl) ?_
                refine q_skip (want_n rfl rfl rfl rfl) ?_
                refine q_skip (want_n rfl rfl rfl rfl) ?_
                refine q_skip (want_n rfl rfl rfl rfl) ?_
                refine q_val (v := Value.bool false) rfl (fun w' hw' => e_pick_f rfl rfl rfl) ?_
                refine q_nil ?_
                intro w225 hc226
                replace hc226 := chg_below hc226 g222
                replace hbase := hbase.chg hc226 (not_no _)
                replace r_g_v := r_g_v.chg hc226 (not_no _)
                replace bx5 := bx5.chg hc226 (not_no _)
                replace o15 := o15.chg hc226 (not_no _) (not_no _)
                replace o192 := o192.chg hc226 (not_no _) (not_no _)
                replace o207 := o207.chg hc226 (not_no _) (not_no _)
                refine run_cond_f rfl rfl ?_
                refine run_skip ?_
                refine run_inBlock ?_
                refine run_region rfl ?_
                refine l_val (v := Value.int .i64 (j : Int)) rfl (e_move (by exact zs19)) ?_
                refine l_val (v := Value.int .i64 ((j : Int) + 1)) rfl (e_add (m := (j : Int)) (n := 1) rfl rfl (by omega)) ?_
                refine l_val (v := Value.int .i64 ((j : Int) + 1)) rfl (e_assign rfl) ?_
                refine l_nil ?_
                refine back17 (j + 1, g222) _ _ ⟨hbase, (by exact zs2), (by exact zs3), (by exact zs4), (by exact zs9), (by exact zs16), (by exact zs17), rfl, r_g_v, bx5, o15, o192, o207, by omega, ?_⟩ ?_
                · show ((j + 1) : Int) ≤ g.1
                  omega
                · show Int.toNat ((g.1 : Int) - ((j + 1) : Int)) < Int.toNat ((g.1 : Int) - (j : Int))
                  omega
              · skip
                refine q_val (v := Value.int .i64 (j : Int)) (want_y rfl rfl rfl (congrArg Bool.not (decide_eq_false q152))) (fun w' hw' => e_move (by exact zs19)) ?_
                refine q_val (v := Value.int .i64 v) (want_y rfl rfl rfl (congrArg Bool.not (decide_eq_false q152))) (fun w' hw' => e_move (by exact zs3)) ?_
                refine q_val (v := Value.bool (!(decide ((j : Int) = v)))) (want_y rfl rfl rfl (congrArg Bool.not (decide_eq_false q152))) (fun w' hw' => e_neq (m := (j : Int)) (n := v) rfl rfl) ?_
                refine q_val (v := Value.bool (!(decide ((j : Int) = v)))) rfl (fun w' hw' => e_pick_t rfl (congrArg Bool.not (decide_eq_false q152)) rfl) ?_
                refine q_val (v := Value.bool (!(decide ((j : Int) = v)))) rfl (fun w' hw' => e_move rfl) ?_
                by_cases q157 : (j : Int) = v
                · skip
                  refine q_skip (want_n rfl rfl rfl (congrArg Bool.not (decide_eq_true q157))) ?_
                  refine q_skip (want_n rfl rfl rfl (congrArg Bool.not (decide_eq_true q157))) ?_
                  refine q_skip (want_n rfl rfl rfl (congrArg Bool.not (decide_eq_true q157))) ?_
                  refine q_skip (want_n rfl rfl rfl (congrArg Bool.not (decide_eq_true q157))) ?_
                  refine q_skip (want_n rfl rfl rfl (congrArg Bool.not (decide_eq_true q157))) ?_
                  refine q_skip (want_n rfl rfl rfl (congrArg Bool.not (decide_eq_true q157))) ?_
                  refine q_skip (want_n rfl rfl rfl (congrArg Bool.not (decide_eq_true q157))) ?_
                  refine q_skip (want_n rfl rfl rfl (congrArg Bool.not (decide_eq_true q157))) ?_
                  refine q_skip (want_n rfl rfl rfl (congrArg Bool.not (decide_eq_true q157))) ?_
                  refine q_skip (want_n rfl rfl rfl (congrArg Bool.not (decide_eq_true q157))) ?_
                  refine q_skip (want_n rfl rfl rfl (congrArg Bool.not (decide_eq_true q157))) ?_
                  refine q_skip (want_n rfl rfl rfl (congrArg Bool.not (decide_eq_true q157))) ?_
                  refine q_val (v := Value.bool false) rfl (fun w' hw' => e_pick_f rfl (congrArg Bool.not (decide_eq_true q157)) rfl) ?_
                  refine q_nil ?_
                  intro w227 hc228
                  replace hc228 := chg_below hc228 g222
                  replace hbase := hbase.chg hc228 (not_no _)
                  replace r_g_v := r_g_v.chg hc228 (not_no _)
                  replace bx5 := bx5.chg hc228 (not_no _)
                  replace o15 := o15.chg hc228 (not_no _) (not_no _)
                  replace o192 := o192.chg hc228 (not_no _) (not_no _)
                  replace o207 := o207.chg hc228 (not_no _) (not_no _)
                  refine run_cond_f rfl rfl ?_
                  refine run_skip ?_
                  refine run_inBlock ?_
                  refine run_region rfl ?_
                  refine l_val (v := Value.int .i64 (j : Int)) rfl (e_move (by exact zs19)) ?_
                  refine l_val (v := Value.int .i64 ((j : Int) + 1)) rfl (e_add (m := (j : Int)) (n := 1) rfl rfl (by omega)) ?_
                  refine l_val (v := Value.int .i64 ((j : Int) + 1)) rfl (e_assign rfl) ?_
                  refine l_nil ?_
                  refine back17 (j + 1, g222) _ _ ⟨hbase, (by exact zs2), (by exact zs3), (by exact zs4), (by exact zs9), (by exact zs16), (by exact zs17), rfl, r_g_v, bx5, o15, o192, o207, by omega, ?_⟩ ?_
                  · show ((j + 1) : Int) ≤ g.1
                    omega
                  · show Int.toNat ((g.1 : Int) - ((j + 1) : Int)) < Int.toNat ((g.1 : Int) - (j : Int))
                    omega
                · skip
                  refine q_val (v := v206) (want_y rfl rfl rfl (congrArg Bool.not (decide_eq_false q157))) (fun w' hw' => e_move (by exact zs17)) ?_
                  refine q_val (v := v191) (want_y rfl rfl rfl (congrArg Bool.not (decide_eq_false q157))) (fun w' hw' => e_move (by exact zs16)) ?_
                  refine q_val (v := Value.int .i64 (j : Int)) (want_y rfl rfl rfl (congrArg Bool.not (decide_eq_false q157))) (fun w' hw' => e_move (by exact zs19)) ?_
                  refine q_val (v := Value.pointer (some (eAddr v191 1 (Int.toNat (j : Int))))) (want_y rfl rfl rfl (congrArg Bool.not (decide_eq_false q157))) (fun w' hw' => e_indexAddr (α := Int) (xs := (mergeR g u v).2.1) (v := v191) (i := (j : Int)) Try.underlying25 rfl rfl (o192.flat.bel hw') rfl (by omega) (by omega)) ?_
                  refine q_val (v := Value.int .i64 (gI ((mergeR g u v).2.1) (j : Int))) (want_y rfl rfl rfl (congrArg Bool.not (decide_eq_false q157))) (fun w' hw' => e_load_el1 (α := Int) (xs := (mergeR g u v).2.1) (v := v191) (i := (j : Int)) tp3_g rfl (o192.flat.bel hw') (by omega) (by omega) (by decide) rfl) ?_
                  refine q_val (v := Value.pointer (some (eAddr v206 1 (Int.toNat (gI ((mergeR g u v).2.1) (j : Int)))))) (want_y rfl rfl rfl (congrArg Bool.not (decide_eq_false q157))) (fun w' hw' => e_indexAddr (α := Int) (xs := (degR ((mergeR g u v).1)).1) (v := v206) (i := (gI ((mergeR g u v).2.1) (j : Int))) Try.underlying25 rfl rfl (o207.flat.bel hw') rfl (by omega) (by omega)) ?_
                  refine q_val (v := Value.int .i64 (gI ((degR ((mergeR g u v).1)).1) (gI ((mergeR g u v).2.1) (j : Int)))) (want_y rfl rfl rfl (congrArg Bool.not (decide_eq_false q157))) (fun w' hw' => e_load_el1 (α := Int) (xs := (degR ((mergeR g u v).1)).1) (v := v206) (i := (gI ((mergeR g u v).2.1) (j : Int))) tp3_g rfl (o207.flat.bel hw') (by omega) (by omega) (by decide) rfl) ?_
                  refine q_val (v := v14) (want_y rfl rfl rfl (congrArg Bool.not (decide_eq_false q157))) (fun w' hw' => e_move (by exact zs9)) ?_
                  refine q_val (v := Value.int .i64 (j : Int)) (want_y rfl rfl rfl (congrArg Bool.not (decide_eq_false q157))) (fun w' hw' => e_move (by exact zs19)) ?_
                  refine q_val (v := Value.pointer (some (eAddr v14 1 (Int.toNat (j : Int))))) (want_y rfl rfl rfl (congrArg Bool.not (decide_eq_false q157))) (fun w' hw' => e_indexAddr (α := Int) (xs := (degR g).1) (v := v14) (i := (j : Int)) Try.underlying25 rfl rfl (o15.flat.bel hw') rfl (by omega) (by omega)) ?_
                  refine q_val (v := Value.int .i64 (gI ((degR g).1) (j : Int))) (want_y rfl rfl rfl (congrArg Bool.not (decide_eq_false q157))) (fun w' hw' => e_load_el1 (α := Int) (xs := (degR g).1) (v := v14) (i := (j : Int)) tp3_g rfl (o15.flat.bel hw') (by omega) (by omega) (by decide) rfl) ?_
                  refine q_val (v := Value.bool (!(decide ((gI ((degR ((mergeR g u v).1)).1) (gI ((mergeR g u v).2.1) (j : Int))) = (gI ((degR g).1) (j : Int)))))) (want_y rfl rfl rfl (congrArg Bool.not (decide_eq_false q157))) (fun w' hw' => e_neq (m := (gI ((degR ((mergeR g u v).1)).1) (gI ((mergeR g u v).2.1) (j : Int)))) (n := (gI ((degR g).1) (j : Int))) rfl rfl) ?_
                  refine q_val (v := Value.bool (!(decide ((gI ((degR ((mergeR g u v).1)).1) (gI ((mergeR g u v).2.1) (j : Int))) = (gI ((degR g).1) (j : Int)))))) rfl (fun w' hw' => e_pick_t rfl (congrArg Bool.not (decide_eq_false q157)) rfl) ?_
                  refine q_nil ?_
                  intro w229 hc230
                  replace hc230 := chg_below hc230 g222
                  replace hbase := hbase.chg hc230 (not_no _)
                  replace r_g_v := r_g_v.chg hc230 (not_no _)
                  replace bx5 := bx5.chg hc230 (not_no _)
                  replace o15 := o15.chg hc230 (not_no _) (not_no _)
                  replace o192 := o192.chg hc230 (not_no _) (not_no _)
                  replace o207 := o207.chg hc230 (not_no _) (not_no _)
                  have p18_231 : (gI ((degR ((mergeR g u v).1)).1) (gI ((mergeR g u v).2.1) (j : Int))) = (gI ((degR g).1) (j : Int)) := by first
  | rfl
  | exact merge_to_uv p12
  | exact bare_simple hm
  | (rw [bare_bare hm]; exact decide_eq_true rfl)
  | (rw [bareR_eq hm]; done)
  | (rw [bare_bare hm]; done)
  | (rw [hsd]; exact hst.2.2)
  | (rw [hsd]; exact hst.2.1)
  | (rw [hsd, hdr]; exact decide_eq_true hst.1)
  | (rw [hme]; exact mergeTo_len hm1)
  | (rw [hmd, hdr]; exact merge_deg_u p12)
  | (rw [hme]; simp [renR]; done)
  | (rw [hmd, hdr]; exact merge_deg_w p12 ⟨by omega, by omega⟩ q152 q157)
                  refine run_cond_f rfl (congrArg Bool.not (decide_eq_true p18_231)) ?_
                  refine run_skip ?_
                  refine run_inBlock ?_
                  refine run_region rfl ?_
                  refine l_val (v := Value.int .i64 (j : Int)) rfl (e_move (by exact zs19)) ?_
                  refine l_val (v := Value.int .i64 ((j : Int) + 1)) rfl (e_add (m := (j : Int)) (n := 1) rfl rfl (by omega)) ?_
                  refine l_val (v := Value.int .i64 ((j : Int) + 1)) rfl (e_assign rfl) ?_
                  refine l_nil ?_
                  refine back17 (j + 1, g222) _ _ ⟨hbase, (by exact zs2), (by exact zs3), (by exact zs4), (by exact zs9), (by exact zs16), (by exact zs17), rfl, r_g_v, bx5, o15, o192, o207, by omega, ?_⟩ ?_
                  · show ((j + 1) : Int) ≤ g.1
                    omega
                  · show Int.toNat ((g.1 : Int) - ((j + 1) : Int)) < Int.toNat ((g.1 : Int) - (j : Int))
                    omega
            · skip
              refine run_cond_f rfl (decide_eq_false p17) ?_
              refine run_exit rfl ?_
              refine run_seq ?_
              clear o15
              clear o192
              clear o207
              refine run_region rfl ?_
              refine l_val (v := Value.agg (List.toArray [Value.int .i64 g.1, g_v])) rfl (e_load_bxN (ds := [Value.int .i64 g.1, g_v]) tp24_g (by exact zs4) bx5 rfl rfl) ?_
              refine l_op rfl ?_
              refine o_callx (e_call (vals := [Value.agg (List.toArray [Value.int .i64 g.1, g_v])]) Try.func28 bd28_g nm28_g rfl) (Bare_ok w221 g g_v (r_g_v).ro) ?_
              rintro ⟨d233, v235, v237⟩ w232 ⟨fr234, o236, o238⟩
              obtain ⟨g239, hg239⟩ : ∃ q, q = glue w221.heap.size g222 d233 (fun n => if n = 1 then 10 else if n = 2 then 11 else 0) := ⟨_, rfl⟩
              have ch240 := chg_glue fr234.below g222 d233 (fun n => if n = 1 then 10 else if n = 2 then 11 else 0)
              rw [← hg239] at ch240
              replace hbase := hbase.chg ch240 (not_no _)
              replace r_g_v := r_g_v.chg ch240 (not_no _)
              replace bx5 := bx5.chg ch240 (not_no _)
              replace o236 := o236.glue (γ := g222) (ren := (fun n => if n = 1 then 10 else if n = 2 then 11 else 0)) (k := 10) fr234.col rfl rfl
              rw [← hg239] at o236
              replace o238 := o238.glue (γ := g222) (ren := (fun n => if n = 1 then 10 else if n = 2 then 11 else 0)) (k := 11) fr234.col rfl rfl
              rw [← hg239] at o238
              clear hg239
              refine l_val (v := Value.tuple (List.toArray [Value.agg (List.toArray [Value.int .i64 (((bareR g).1).1), v235]), v237, Value.int .i64 ((bareR g).2.2)])) rfl (e_move rfl) ?_
              refine l_val (v := Value.agg (List.toArray [Value.int .i64 (((bareR g).1).1), v235])) rfl (e_extract rfl rfl) ?_
              refine l_val (v := v237) rfl (e_extract rfl rfl) ?_
              refine l_val (v := Value.int .i64 ((bareR g).2.2)) rfl (e_extract rfl rfl) ?_
              refine l_op rfl ?_
              refine o_alloc g239 (is 12) (12, 0) rfl tp24_g ?_
              intro g244 w241 b243 ch242 bx245
              replace hbase := hbase.chg ch242 (not_no _)
              replace r_g_v := r_g_v.chg ch242 (not_no _)
              replace bx5 := bx5.chg ch242 (not_no _)
              replace o236 := o236.chg ch242 (not_no _) (not_no _)
              replace o238 := o238.chg ch242 (not_no _) (not_no _)
              replace bx245 : Bx g244 (is 12) w241 b243 [Value.int .i64 0, Value.slice none 0 0] := bx245
              refine l_op rfl ?_
              refine o_store_bx (cs' := [Value.int .i64 (((bareR g).1).1), v235]) tp24_g rfl rfl bx245 rfl (Nat.le_of_ble_eq_true rfl) (AllOne.all (.cons rfl (.cons (sl_one o236.flat) .nil))) rfl ?_
              intro w246 ch247 bx248
              replace hbase := hbase.chg ch247 (is_ne rfl)
              replace r_g_v := r_g_v.chg ch247 (is_ne rfl)
              replace bx5 := bx5.chg ch247 (is_ne rfl)
              replace o236 := o236.chg ch247 (is_ne rfl) (is_ne rfl)
              replace o238 := o238.chg ch247 (is_ne rfl) (is_ne rfl)
              clear bx245
              refine l_val (v := v237) rfl (e_assign rfl) ?_
              refine l_val (v := Value.int .i64 ((bareR g).2.2)) rfl (e_assign rfl) ?_
              refine l_nil ?_
              refine run_seq ?_
              clear bx5
              refine run_region rfl ?_
              refine l_val (v := Value.agg (List.toArray [Value.int .i64 (((bareR g).1).1), v235])) rfl (e_load_bxN (ds := [Value.int .i64 (((bareR g).1).1), v235]) tp24_g rfl bx248 rfl rfl) ?_
              refine l_op rfl ?_
              refine o_callx (e_call (vals := [Value.agg (List.toArray [Value.int .i64 (((bareR g).1).1), v235])]) Try.func28 bd28_g nm28_g rfl) (Bare_ok w246 ((bareR g).1) v235 (o236.flat).ro) ?_
              rintro ⟨d250, v252, v254⟩ w249 ⟨fr251, o253, o255⟩
              obtain ⟨g256, hg256⟩ : ∃ q, q = glue w246.heap.size g244 d250 (fun n => if n = 1 then 13 else if n = 2 then 14 else 0) := ⟨_, rfl⟩
              have ch257 := chg_glue fr251.below g244 d250 (fun n => if n = 1 then 13 else if n = 2 then 14 else 0)
              rw [← hg256] at ch257
              replace hbase := hbase.chg ch257 (not_no _)
              replace r_g_v := r_g_v.chg ch257 (not_no _)
              replace o236 := o236.chg ch257 (not_no _) (not_no _)
              replace o238 := o238.chg ch257 (not_no _) (not_no _)
              replace bx248 := bx248.chg ch257 (not_no _)
              replace o253 := o253.glue (γ := g244) (ren := (fun n => if n = 1 then 13 else if n = 2 then 14 else 0)) (k := 13) fr251.col rfl rfl
              rw [← hg256] at o253
              replace o255 := o255.glue (γ := g244) (ren := (fun n => if n = 1 then 13 else if n = 2 then 14 else 0)) (k := 14) fr251.col rfl rfl
              rw [← hg256] at o255
              clear hg256
              refine l_val (v := Value.tuple (List.toArray [Value.agg (List.toArray [Value.int .i64 (((bareR ((bareR g).1)).1).1), v252]), v254, Value.int .i64 ((bareR ((bareR g).1)).2.2)])) rfl (e_move rfl) ?_
              refine l_val (v := Value.agg (List.toArray [Value.int .i64 (((bareR ((bareR g).1)).1).1), v252])) rfl (e_extract rfl rfl) ?_
              refine l_val (v := v254) rfl (e_extract rfl rfl) ?_
              refine l_val (v := Value.int .i64 ((bareR ((bareR g).1)).2.2)) rfl (e_extract rfl rfl) ?_
              refine l_op rfl ?_
              refine o_alloc g256 (is 15) (15, 0) rfl tp24_g ?_
              intro g261 w258 b260 ch259 bx262
              replace hbase := hbase.chg ch259 (not_no _)
              replace r_g_v := r_g_v.chg ch259 (not_no _)
              replace o236 := o236.chg ch259 (not_no _) (not_no _)
              replace o238 := o238.chg ch259 (not_no _) (not_no _)
              replace bx248 := bx248.chg ch259 (not_no _)
              replace o253 := o253.chg ch259 (not_no _) (not_no _)
              replace o255 := o255.chg ch259 (not_no _) (not_no _)
              replace bx262 : Bx g261 (is 15) w258 b260 [Value.int .i64 0, Value.slice none 0 0] := bx262
              refine l_op rfl ?_
              refine o_store_bx (cs' := [Value.int .i64 (((bareR ((bareR g).1)).1).1), v252]) tp24_g rfl rfl bx262 rfl (Nat.le_of_ble_eq_true rfl) (AllOne.all (.cons rfl (.cons (sl_one o253.flat) .nil))) rfl ?_
              intro w263 ch264 bx265
              replace hbase := hbase.chg ch264 (is_ne rfl)
              replace r_g_v := r_g_v.chg ch264 (is_ne rfl)
              replace o236 := o236.chg ch264 (is_ne rfl) (is_ne rfl)
              replace o238 := o238.chg ch264 (is_ne rfl) (is_ne rfl)
              replace bx248 := bx248.chg ch264 (is_ne rfl)
              replace o253 := o253.chg ch264 (is_ne rfl) (is_ne rfl)
              replace o255 := o255.chg ch264 (is_ne rfl) (is_ne rfl)
              clear bx262
              refine l_val (v := v254) rfl (e_assign rfl) ?_
              refine l_val (v := Value.int .i64 ((bareR ((bareR g).1)).2.2)) rfl (e_assign rfl) ?_
              refine l_nil ?_
              refine run_seq ?_
              refine run_region rfl ?_
              refine l_val (v := Value.agg (List.toArray [Value.int .i64 (((bareR g).1).1), v235])) rfl (e_load_bxN (ds := [Value.int .i64 (((bareR g).1).1), v235]) tp24_g rfl bx248 rfl rfl) ?_
              refine l_op rfl ?_
              refine o_call (v := Value.tuple (List.toArray [Value.agg (List.toArray [Value.int .i64 (((lookR ((bareR g).1)).1).1), Value.int .i64 ((((lookR ((bareR g).1)).1).2).1), Value.int .i64 (((((lookR ((bareR g).1)).1).2).2).1), Value.int .i64 ((((((lookR ((bareR g).1)).1).2).2).2).1), Value.bool ((((((lookR ((bareR g).1)).1).2).2).2).2)]), Value.int .i64 ((lookR ((bareR g).1)).2)])) (e_call (vals := [Value.agg (List.toArray [Value.int .i64 (((bareR g).1).1), v235])]) Try.func29 bd29_g nm29_g rfl) (Look_ok w263 ((bareR g).1) v235 (o236.flat).ro) ?_
              intro w266 hb267
              replace hb267 := chg_below hb267 g261
              replace hbase := hbase.chg hb267 (not_no _)
              replace r_g_v := r_g_v.chg hb267 (not_no _)
              replace o236 := o236.chg hb267 (not_no _) (not_no _)
              replace o238 := o238.chg hb267 (not_no _) (not_no _)
              replace bx248 := bx248.chg hb267 (not_no _)
              replace o253 := o253.chg hb267 (not_no _) (not_no _)
              replace o255 := o255.chg hb267 (not_no _) (not_no _)
              replace bx265 := bx265.chg hb267 (not_no _)
              refine l_val (v := Value.tuple (List.toArray [Value.agg (List.toArray [Value.int .i64 (((lookR ((bareR g).1)).1).1), Value.int .i64 ((((lookR ((bareR g).1)).1).2).1), Value.int .i64 (((((lookR ((bareR g).1)).1).2).2).1), Value.int .i64 ((((((lookR ((bareR g).1)).1).2).2).2).1), Value.bool ((((((lookR ((bareR g).1)).1).2).2).2).2)]), Value.int .i64 ((lookR ((bareR g).1)).2)])) rfl (e_move rfl) ?_
              refine l_val (v := Value.agg (List.toArray [Value.int .i64 (((lookR ((bareR g).1)).1).1), Value.int .i64 ((((lookR ((bareR g).1)).1).2).1), Value.int .i64 (((((lookR ((bareR g).1)).1).2).2).1), Value.int .i64 ((((((lookR ((bareR g).1)).1).2).2).2).1), Value.bool ((((((lookR ((bareR g).1)).1).2).2).2).2)])) rfl (e_extract rfl rfl) ?_
              refine l_val (v := Value.int .i64 ((lookR ((bareR g).1)).2)) rfl (e_extract rfl rfl) ?_
              refine l_op rfl ?_
              refine o_alloc g261 (is 16) (16, 0) rfl tp48_g ?_
              intro g271 w268 b270 ch269 bx272
              replace hbase := hbase.chg ch269 (not_no _)
              replace r_g_v := r_g_v.chg ch269 (not_no _)
              replace o236 := o236.chg ch269 (not_no _) (not_no _)
              replace o238 := o238.chg ch269 (not_no _) (not_no _)
              replace bx248 := bx248.chg ch269 (not_no _)
              replace o253 := o253.chg ch269 (not_no _) (not_no _)
              replace o255 := o255.chg ch269 (not_no _) (not_no _)
              replace bx265 := bx265.chg ch269 (not_no _)
              replace bx272 : Bx g271 (is 16) w268 b270 [Value.int .i64 0, Value.int .i64 0, Value.int .i64 0, Value.int .i64 0, Value.bool false] := bx272
              refine l_op rfl ?_
              refine o_store_bx (cs' := [Value.int .i64 (((lookR ((bareR g).1)).1).1), Value.int .i64 ((((lookR ((bareR g).1)).1).2).1), Value.int .i64 (((((lookR ((bareR g).1)).1).2).2).1), Value.int .i64 ((((((lookR ((bareR g).1)).1).2).2).2).1), Value.bool ((((((lookR ((bareR g).1)).1).2).2).2).2)]) tp48_g rfl rfl bx272 rfl (Nat.le_of_ble_eq_true rfl) (AllOne.all (.cons rfl (.cons rfl (.cons rfl (.cons rfl (.cons rfl .nil)))))) rfl ?_
              intro w273 ch274 bx275
              replace hbase := hbase.chg ch274 (is_ne rfl)
              replace r_g_v := r_g_v.chg ch274 (is_ne rfl)
              replace o236 := o236.chg ch274 (is_ne rfl) (is_ne rfl)
              replace o238 := o238.chg ch274 (is_ne rfl) (is_ne rfl)
              replace bx248 := bx248.chg ch274 (is_ne rfl)
              replace o253 := o253.chg ch274 (is_ne rfl) (is_ne rfl)
              replace o255 := o255.chg ch274 (is_ne rfl) (is_ne rfl)
              replace bx265 := bx265.chg ch274 (is_ne rfl)
              clear bx272
              refine l_val (v := Value.int .i64 ((lookR ((bareR g).1)).2)) rfl (e_assign rfl) ?_
              refine l_nil ?_
              refine run_seq ?_
              refine run_region rfl ?_
              refine l_val (v := Value.int .i64 ((bareR g).2.2)) rfl (e_move rfl) ?_
              refine l_val (v := Value.bool (decide (((bareR g).2.2) = 0))) rfl (e_eql (m := (bareR g).2.2) (n := 0) rfl rfl) ?_
              refine l_val (v := Value.bool (decide (((bareR g).2.2) = 0))) rfl (e_move rfl) ?_
              have q190_276 : ((bareR g).2.2) = 0 := by first
  | rfl
  | exact merge_to_uv p12
  | exact bare_simple hm
  | (rw [bare_bare hm]; exact decide_eq_true rfl)
  | (rw [bareR_eq hm]; done)
  | (rw [bare_bare hm]; done)
  | (rw [hsd]; exact hst.2.2)
  | (rw [hsd]; exact hst.2.1)
  | (rw [hsd, hdr]; exact decide_eq_true hst.1)
  | (rw [hme]; exact mergeTo_len hm1)
  | (rw [hmd, hdr]; exact merge_deg_u p12)
  | (rw [hme]; simp [renR]; done)
  | (rw [hmd, hdr]; exact merge_deg_w p12 ⟨by omega, by omega⟩ q152 q157)
              refine l_val (v := Value.int .i64 ((bareR ((bareR g).1)).2.2)) (want_y rfl rfl rfl (decide_eq_true q190_276)) (e_move rfl) ?_
              refine l_val (v := Value.bool (decide (((bareR ((bareR g).1)).2.2) = 0))) (want_y rfl rfl rfl (decide_eq_true q190_276)) (e_eql (m := (bareR ((bareR g).1)).2.2) (n := 0) rfl rfl) ?_
              refine l_val (v := Value.bool (decide (((bareR ((bareR g).1)).2.2) = 0))) rfl (e_pick_t rfl (decide_eq_true q190_276) rfl) ?_
              refine l_val (v := Value.bool (decide (((bareR ((bareR g).1)).2.2) = 0))) rfl (e_move rfl) ?_
              have q194_277 : ((bareR ((bareR g).1)).2.2) = 0 := by first
  | rfl
  | exact merge_to_uv p12
  | exact bare_simple hm
  | (rw [bare_bare hm]; exact decide_eq_true rfl)
  | (rw [bareR_eq hm]; done)
  | (rw [bare_bare hm]; done)
  | (rw [hsd]; exact hst.2.2)
  | (rw [hsd]; exact hst.2.1)
  | (rw [hsd, hdr]; exact decide_eq_true hst.1)
  | (rw [hme]; exact mergeTo_len hm1)
  | (rw [hmd, hdr]; exact merge_deg_u p12)
  | (rw [hme]; simp [renR]; done)
  | (rw [hmd, hdr]; exact merge_deg_w p12 ⟨by omega, by omega⟩ q152 q157)
              refine l_val (v := Value.pointer (some ⟨b270, 4, none⟩)) (want_y rfl rfl rfl (decide_eq_true q194_277)) (e_fieldAddr Try.underlying48 rfl rfl rfl rfl) ?_
              refine l_val (v := Value.bool ((((((lookR ((bareR g).1)).1).2).2).2).2)) (want_y rfl rfl rfl (decide_eq_true q194_277)) (e_load_bx1 tp4_g rfl bx275 rfl) ?_
              refine l_val (v := Value.bool ((((((lookR ((bareR g).1)).1).2).2).2).2)) rfl (e_pick_t rfl (decide_eq_true q194_277) rfl) ?_
              refine l_val (v := Value.bool ((((((lookR ((bareR g).1)).1).2).2).2).2)) rfl (e_move rfl) ?_
              have q198_278 : ((((((lookR ((bareR g).1)).1).2).2).2).2) = true := by first
  | rfl
  | exact merge_to_uv p12
  | exact bare_simple hm
  | (rw [bare_bare hm]; exact decide_eq_true rfl)
  | (rw [bareR_eq hm]; done)
  | (rw [bare_bare hm]; done)
  | (rw [hsd]; exact hst.2.2)
  | (rw [hsd]; exact hst.2.1)
  | (rw [hsd, hdr]; exact decide_eq_true hst.1)
  | (rw [hme]; exact mergeTo_len hm1)
  | (rw [hmd, hdr]; exact merge_deg_u p12)
  | (rw [hme]; simp [renR]; done)
  | (rw [hmd, hdr]; exact merge_deg_w p12 ⟨by omega, by omega⟩ q152 q157)
              refine l_val (v := Value.agg (List.toArray [Value.int .i64 (((bareR g).1).1), v235])) (want_y rfl rfl rfl q198_278) (e_load_bxN (ds := [Value.int .i64 (((bareR g).1).1), v235]) tp24_g rfl bx248 rfl rfl) ?_
              refine l_val (v := Value.agg (List.toArray [Value.int .i64 (((bareR ((bareR g).1)).1).1), v252])) (want_y rfl rfl rfl q198_278) (e_load_bxN (ds := [Value.int .i64 (((bareR ((bareR g).1)).1).1), v252]) tp24_g rfl bx265 rfl rfl) ?_
              refine l_op (want_y rfl rfl rfl q198_278) ?_
              refine o_call (v := Value.bool (decide (((bareR g).1) = ((bareR ((bareR g).1)).1)))) (e_call (vals := [Value.agg (List.toArray [Value.int .i64 (((bareR g).1).1), v235]), Value.agg (List.toArray [Value.int .i64 (((bareR ((bareR g).1)).1).1), v252])]) Try.func11 bd11_g nm11_g rfl) (Same_ok w273 ((bareR g).1) v235 (o236.flat).ro ((bareR ((bareR g).1)).1) v252 (o253.flat).ro) ?_
              intro w279 hb280
              replace hb280 := chg_below hb280 g271
              replace hbase := hbase.chg hb280 (not_no _)
              replace r_g_v := r_g_v.chg hb280 (not_no _)
              replace o236 := o236.chg hb280 (not_no _) (not_no _)
              replace o238 := o238.chg hb280 (not_no _) (not_no _)
              replace bx248 := bx248.chg hb280 (not_no _)
              replace o253 := o253.chg hb280 (not_no _) (not_no _)
              replace o255 := o255.chg hb280 (not_no _) (not_no _)
              replace bx265 := bx265.chg hb280 (not_no _)
              replace bx275 := bx275.chg hb280 (not_no _)
              refine l_val (v := Value.bool (decide (((bareR g).1) = ((bareR ((bareR g).1)).1)))) rfl (e_pick_t rfl q198_278 rfl) ?_
              refine l_val (v := Value.bool (decide (((bareR g).1) = ((bareR ((bareR g).1)).1)))) rfl (e_move rfl) ?_
              have q203_281 : (decide (((bareR g).1) = ((bareR ((bareR g).1)).1))) = true := by first
  | rfl
  | exact merge_to_uv p12
  | exact bare_simple hm
  | (rw [bare_bare hm]; exact decide_eq_true rfl)
  | (rw [bareR_eq hm]; done)
  | (rw [bare_bare hm]; done)
  | (rw [hsd]; exact hst.2.2)
  | (rw [hsd]; exact hst.2.1)
  | (rw [hsd, hdr]; exact decide_eq_true hst.1)
  | (rw [hme]; exact mergeTo_len hm1)
  | (rw [hmd, hdr]; exact merge_deg_u p12)
  | (rw [hme]; simp [renR]; done)
  | (rw [hmd, hdr]; exact merge_deg_w p12 ⟨by omega, by omega⟩ q152 q157)
              refine l_val (v := v254) (want_y rfl rfl rfl q203_281) (e_move rfl) ?_
              have len282 := (o255.flat).small
              refine l_val (v := Value.int .i64 (List.length ((bareR ((bareR g).1)).2.1) : Int)) (want_y rfl rfl rfl q203_281) (e_len Try.underlying25 rfl o255.flat) ?_
              refine l_val (v := v237) (want_y rfl rfl rfl q203_281) (e_move rfl) ?_
              have len283 := (o238.flat).small
              refine l_val (v := Value.int .i64 (List.length ((bareR g).2.1) : Int)) (want_y rfl rfl rfl q203_281) (e_len Try.underlying25 rfl o238.flat) ?_
              refine l_val (v := Value.bool (decide ((List.length ((bareR ((bareR g).1)).2.1) : Int) = (List.length ((bareR g).2.1) : Int)))) (want_y rfl rfl rfl q203_281) (e_eql (m := (List.length ((bareR ((bareR g).1)).2.1) : Int)) (n := (List.length ((bareR g).2.1) : Int)) rfl rfl) ?_
              refine l_val (v := Value.bool (decide ((List.length ((bareR ((bareR g).1)).2.1) : Int) = (List.length ((bareR g).2.1) : Int)))) rfl (e_pick_t rfl q203_281 rfl) ?_
              refine l_val (v := Value.bool (decide ((List.length ((bareR ((bareR g).1)).2.1) : Int) = (List.length ((bareR g).2.1) : Int)))) rfl (e_assign rfl) ?_
              refine l_nil ?_
              refine run_ret (vs := [Value.bool (decide ((List.length ((bareR ((bareR g).1)).2.1) : Int) = (List.length ((bareR g).2.1) : Int)))]) Try.func6 (.tmp rfl .nil) ?_
              -- return 4
              have e0 : (decide ((List.length ((bareR ((bareR g).1)).2.1) : Int) = (List.length ((bareR g).2.1) : Int)) : Bool) = (true) := by
                first
                  | rfl
                  | exact decide_eq_true (congrArg (fun n : Nat => (n : Int)) (bare_len hm))
                  | exact decide_eq_true (bare_len hm)
              exact ⟨(congrArg (a₁ := decide ((List.length ((bareR ((bareR g).1)).2.1) : Int) = (List.length ((bareR g).2.1) : Int))) (fun (z0 : Bool) => Ending.returned (Value.bool z0)) e0), hbase.below⟩
          · skip
            refine run_cond_f rfl (decide_eq_false p12) ?_
            refine run_skip ?_
            refine run_seq ?_
            clear o15
            clear o190
            clear o192
            clear bx202
            refine run_region rfl ?_
            refine l_val (v := Value.agg (List.toArray [Value.int .i64 g.1, g_v])) rfl (e_load_bxN (ds := [Value.int .i64 g.1, g_v]) tp24_g rfl bx5 rfl rfl) ?_
            refine l_op rfl ?_
            refine o_callx (e_call (vals := [Value.agg (List.toArray [Value.int .i64 g.1, g_v])]) Try.func28 bd28_g nm28_g rfl) (Bare_ok w200 g g_v (r_g_v).ro) ?_
            rintro ⟨d285, v287, v289⟩ w284 ⟨fr286, o288, o290⟩
            obtain ⟨g291, hg291⟩ : ∃ q, q = glue w200.heap.size g198 d285 (fun n => if n = 1 then 10 else if n = 2 then 11 else 0) := ⟨_, rfl⟩
            have ch292 := chg_glue fr286.below g198 d285 (fun n => if n = 1 then 10 else if n = 2 then 11 else 0)
            rw [← hg291] at ch292
            replace hbase := hbase.chg ch292 (not_no _)
            replace r_g_v := r_g_v.chg ch292 (not_no _)
            replace bx5 := bx5.chg ch292 (not_no _)
            replace o288 := o288.glue (γ := g198) (ren := (fun n => if n = 1 then 10 else if n = 2 then 11 else 0)) (k := 10) fr286.col rfl rfl
            rw [← hg291] at o288
            replace o290 := o290.glue (γ := g198) (ren := (fun n => if n = 1 then 10 else if n = 2 then 11 else 0)) (k := 11) fr286.col rfl rfl
            rw [← hg291] at o290
            clear hg291
            refine l_val (v := Value.tuple (List.toArray [Value.agg (List.toArray [Value.int .i64 (((bareR g).1).1), v287]), v289, Value.int .i64 ((bareR g).2.2)])) rfl (e_move rfl) ?_
            refine l_val (v := Value.agg (List.toArray [Value.int .i64 (((bareR g).1).1), v287])) rfl (e_extract rfl rfl) ?_
            refine l_val (v := v289) rfl (e_extract rfl rfl) ?_
            refine l_val (v := Value.int .i64 ((bareR g).2.2)) rfl (e_extract rfl rfl) ?_
            refine l_op rfl ?_
            refine o_alloc g291 (is 12) (12, 0) rfl tp24_g ?_
            intro g296 w293 b295 ch294 bx297
            replace hbase := hbase.chg ch294 (not_no _)
            replace r_g_v := r_g_v.chg ch294 (not_no _)
            replace bx5 := bx5.chg ch294 (not_no _)
            replace o288 := o288.chg ch294 (not_no _) (not_no _)
            replace o290 := o290.chg ch294 (not_no _) (not_no _)
            replace bx297 : Bx g296 (is 12) w293 b295 [Value.int .i64 0, Value.slice none 0 0] := bx297
            refine l_op rfl ?_
            refine o_store_bx (cs' := [Value.int .i64 (((bareR g).1).1), v287]) tp24_g rfl rfl bx297 rfl (Nat.le_of_ble_eq_true rfl) (AllOne.all (.cons rfl (.cons (sl_one o288.flat) .nil))) rfl ?_
            intro w298 ch299 bx300
            replace hbase := hbase.chg ch299 (is_ne rfl)
            replace r_g_v := r_g_v.chg ch299 (is_ne rfl)
            replace bx5 := bx5.chg ch299 (is_ne rfl)
            replace o288 := o288.chg ch299 (is_ne rfl) (is_ne rfl)
            replace o290 := o290.chg ch299 (is_ne rfl) (is_ne rfl)
            clear bx297
            refine l_val (v := v289) rfl (e_assign rfl) ?_
            refine l_val (v := Value.int .i64 ((bareR g).2.2)) rfl (e_assign rfl) ?_
            refine l_nil ?_
            refine run_seq ?_
            clear bx5
            refine run_region rfl ?_
            refine l_val (v := Value.agg (List.toArray [Value.int .i64 (((bareR g).1).1), v287])) rfl (e_load_bxN (ds := [Value.int .i64 (((bareR g).1).1), v287]) tp24_g rfl bx300 rfl rfl) ?_
            refine l_op rfl ?_
            refine o_callx (e_call (vals := [Value.agg (List.toArray [Value.int .i64 (((bareR g).1).1), v287])]) Try.func28 bd28_g nm28_g rfl) (Bare_ok w298 ((bareR g).1) v287 (o288.flat).ro) ?_
            rintro ⟨d302, v304, v306⟩ w301 ⟨fr303, o305, o307⟩
            obtain ⟨g308, hg308⟩ : ∃ q, q = glue w298.heap.size g296 d302 (fun n => if n = 1 then 13 else if n = 2 then 14 else 0) := ⟨_, rfl⟩
            have ch309 := chg_glue fr303.below g296 d302 (fun n => if n = 1 then 13 else if n = 2 then 14 else 0)
            rw [← hg308] at ch309
            replace hbase := hbase.chg ch309 (not_no _)
            replace r_g_v := r_g_v.chg ch309 (not_no _)
            replace o288 := o288.chg ch309 (not_no _) (not_no _)
            replace o290 := o290.chg ch309 (not_no _) (not_no _)
            replace bx300 := bx300.chg ch309 (not_no _)
            replace o305 := o305.glue (γ := g296) (ren := (fun n => if n = 1 then 13 else if n = 2 then 14 else 0)) (k := 13) fr303.col rfl rfl
            rw [← hg308] at o305
            replace o307 := o307.glue (γ := g296) (ren := (fun n => if n = 1 then 13 else if n = 2 then 14 else 0)) (k := 14) fr303.col rfl rfl
            rw [← hg308] at o307
            clear hg308
            refine l_val (v := Value.tuple (List.toArray [Value.agg (List.toArray [Value.int .i64 (((bareR ((bareR g).1)).1).1), v304]), v306, Value.int .i64 ((bareR ((bareR g).1)).2.2)])) rfl (e_move rfl) ?_
            refine l_val (v := Value.agg (List.toArray [Value.int .i64 (((bareR ((bareR g).1)).1).1), v304])) rfl (e_extract rfl rfl) ?_
            refine l_val (v := v306) rfl (e_extract rfl rfl) ?_
            refine l_val (v := Value.int .i64 ((bareR ((bareR g).1)).2.2)) rfl (e_extract rfl rfl) ?_
            refine l_op rfl ?_
            refine o_alloc g308 (is 15) (15, 0) rfl tp24_g ?_
            intro g313 w310 b312 ch311 bx314
            replace hbase := hbase.chg ch311 (not_no _)
            replace r_g_v := r_g_v.chg ch311 (not_no _)
            replace o288 := o288.chg ch311 (not_no _) (not_no _)
            replace o290 := o290.chg ch311 (not_no _) (not_no _)
            replace bx300 := bx300.chg ch311 (not_no _)
            replace o305 := o305.chg ch311 (not_no _) (not_no _)
            replace o307 := o307.chg ch311 (not_no _) (not_no _)
            replace bx314 : Bx g313 (is 15) w310 b312 [Value.int .i64 0, Value.slice none 0 0] := bx314
            refine l_op rfl ?_
            refine o_store_bx (cs' := [Value.int .i64 (((bareR ((bareR g).1)).1).1), v304]) tp24_g rfl rfl bx314 rfl (Nat.le_of_ble_eq_true rfl) (AllOne.all (.cons rfl (.cons (sl_one o305.flat) .nil))) rfl ?_
            intro w315 ch316 bx317
            replace hbase := hbase.chg ch316 (is_ne rfl)
            replace r_g_v := r_g_v.chg ch316 (is_ne rfl)
            replace o288 := o288.chg ch316 (is_ne rfl) (is_ne rfl)
            replace o290 := o290.chg ch316 (is_ne rfl) (is_ne rfl)
            replace bx300 := bx300.chg ch316 (is_ne rfl)
            replace o305 := o305.chg ch316 (is_ne rfl) (is_ne rfl)
            replace o307 := o307.chg ch316 (is_ne rfl) (is_ne rfl)
            clear bx314
            refine l_val (v := v306) rfl (e_assign rfl) ?_
            refine l_val (v := Value.int .i64 ((bareR ((bareR g).1)).2.2)) rfl (e_assign rfl) ?_
            refine l_nil ?_
            refine run_seq ?_
            refine run_region rfl ?_
            refine l_val (v := Value.agg (List.toArray [Value.int .i64 (((bareR g).1).1), v287])) rfl (e_load_bxN (ds := [Value.int .i64 (((bareR g).1).1), v287]) tp24_g rfl bx300 rfl rfl) ?_
            refine l_op rfl ?_
            refine o_call (v := Value.tuple (List.toArray [Value.agg (List.toArray [Value.int .i64 (((lookR ((bareR g).1)).1).1), Value.int .i64 ((((lookR ((bareR g).1)).1).2).1), Value.int .i64 (((((lookR ((bareR g).1)).1).2).2).1), Value.int .i64 ((((((lookR ((bareR g).1)).1).2).2).2).1), Value.bool ((((((lookR ((bareR g).1)).1).2).2).2).2)]), Value.int .i64 ((lookR ((bareR g).1)).2)])) (e_call (vals := [Value.agg (List.toArray [Value.int .i64 (((bareR g).1).1), v287])]) Try.func29 bd29_g nm29_g rfl) (Look_ok w315 ((bareR g).1) v287 (o288.flat).ro) ?_
            intro w318 hb319
            replace hb319 := chg_below hb319 g313
            replace hbase := hbase.chg hb319 (not_no _)
            replace r_g_v := r_g_v.chg hb319 (not_no _)
            replace o288 := o288.chg hb319 (not_no _) (not_no _)
            replace o290 := o290.chg hb319 (not_no _) (not_no _)
            replace bx300 := bx300.chg hb319 (not_no _)
            replace o305 := o305.chg hb319 (not_no _) (not_no _)
            replace o307 := o307.chg hb319 (not_no _) (not_no _)
            replace bx317 := bx317.chg hb319 (not_no _)
            refine l_val (v := Value.tuple (List.toArray [Value.agg (List.toArray [Value.int .i64 (((lookR ((bareR g).1)).1).1), Value.int .i64 ((((lookR ((bareR g).1)).1).2).1), Value.int .i64 (((((lookR ((bareR g).1)).1).2).2).1), Value.int .i64 ((((((lookR ((bareR g).1)).1).2).2).2).1), Value.bool ((((((lookR ((bareR g).1)).1).2).2).2).2)]), Value.int .i64 ((lookR ((bareR g).1)).2)])) rfl (e_move rfl) ?_
            refine l_val (v := Value.agg (List.toArray [Value.int .i64 (((lookR ((bareR g).1)).1).1), Value.int .i64 ((((lookR ((bareR g).1)).1).2).1), Value.int .i64 (((((lookR ((bareR g).1)).1).2).2).1), Value.int .i64 ((((((lookR ((bareR g).1)).1).2).2).2).1), Value.bool ((((((lookR ((bareR g).1)).1).2).2).2).2)])) rfl (e_extract rfl rfl) ?_
            refine l_val (v := Value.int .i64 ((lookR ((bareR g).1)).2)) rfl (e_extract rfl rfl) ?_
            refine l_op rfl ?_
            refine o_alloc g313 (is 16) (16, 0) rfl tp48_g ?_
            intro g323 w320 b322 ch321 bx324
            replace hbase := hbase.chg ch321 (not_no _)
            replace r_g_v := r_g_v.chg ch321 (not_no _)
            replace o288 := o288.chg ch321 (not_no _) (not_no _)
            replace o290 := o290.chg ch321 (not_no _) (not_no _)
            replace bx300 := bx300.chg ch321 (not_no _)
            replace o305 := o305.chg ch321 (not_no _) (not_no _)
            replace o307 := o307.chg ch321 (not_no _) (not_no _)
            replace bx317 := bx317.chg ch321 (not_no _)
            replace bx324 : Bx g323 (is 16) w320 b322 [Value.int .i64 0, Value.int .i64 0, Value.int .i64 0, Value.int .i64 0, Value.bool false] := bx324
            refine l_op rfl ?_
            refine o_store_bx (cs' := [Value.int .i64 (((lookR ((bareR g).1)).1).1), Value.int .i64 ((((lookR ((bareR g).1)).1).2).1), Value.int .i64 (((((lookR ((bareR g).1)).1).2).2).1), Value.int .i64 ((((((lookR ((bareR g).1)).1).2).2).2).1), Value.bool ((((((lookR ((bareR g).1)).1).2).2).2).2)]) tp48_g rfl rfl bx324 rfl (Nat.le_of_ble_eq_true rfl) (AllOne.all (.cons rfl (.cons rfl (.cons rfl (.cons rfl (.cons rfl .nil)))))) rfl ?_
            intro w325 ch326 bx327
            replace hbase := hbase.chg ch326 (is_ne rfl)
            replace r_g_v := r_g_v.chg ch326 (is_ne rfl)
            replace o288 := o288.chg ch326 (is_ne rfl) (is_ne rfl)
            replace o290 := o290.chg ch326 (is_ne rfl) (is_ne rfl)
            replace bx300 := bx300.chg ch326 (is_ne rfl)
            replace o305 := o305.chg ch326 (is_ne rfl) (is_ne rfl)
            replace o307 := o307.chg ch326 (is_ne rfl) (is_ne rfl)
            replace bx317 := bx317.chg ch326 (is_ne rfl)
            clear bx324
            refine l_val (v := Value.int .i64 ((lookR ((bareR g).1)).2)) rfl (e_assign rfl) ?_
            refine l_nil ?_
            refine run_seq ?_
            refine run_region rfl ?_
            refine l_val (v := Value.int .i64 ((bareR g).2.2)) rfl (e_move rfl) ?_
            refine l_val (v := Value.bool (decide (((bareR g).2.2) = 0))) rfl (e_eql (m := (bareR g).2.2) (n := 0) rfl rfl) ?_
            refine l_val (v := Value.bool (decide (((bareR g).2.2) = 0))) rfl (e_move rfl) ?_
            have q190_328 : ((bareR g).2.2) = 0 := by first
  | rfl
  | exact merge_to_uv p12
  | exact bare_simple hm
  | (rw [bare_bare hm]; exact decide_eq_true rfl)
  | (rw [bareR_eq hm]; done)
  | (rw [bare_bare hm]; done)
  | (rw [hsd]; exact hst.2.2)
  | (rw [hsd]; exact hst.2.1)
  | (rw [hsd, hdr]; exact decide_eq_true hst.1)
  | (rw [hme]; exact mergeTo_len hm1)
  | (rw [hmd, hdr]; exact merge_deg_u p12)
  | (rw [hme]; simp [renR]; done)
  | (rw [hmd, hdr]; exact merge_deg_w p12 ⟨by omega, by omega⟩ q152 q157)
            refine l_val (v := Value.int .i64 ((bareR ((bareR g).1)).2.2)) (want_y rfl rfl rfl (decide_eq_true q190_328)) (e_move rfl) ?_
            refine l_val (v := Value.bool (decide (((bareR ((bareR g).1)).2.2) = 0))) (want_y rfl rfl rfl (decide_eq_true q190_328)) (e_eql (m := (bareR ((bareR g).1)).2.2) (n := 0) rfl rfl) ?_
            refine l_val (v := Value.bool (decide (((bareR ((bareR g).1)).2.2) = 0))) rfl (e_pick_t rfl (decide_eq_true q190_328) rfl) ?_
            refine l_val (v := Value.bool (decide (((bareR ((bareR g).1)).2.2) = 0))) rfl (e_move rfl) ?_
            have q194_329 : ((bareR ((bareR g).1)).2.2) = 0 := by first
  | rfl
  | exact merge_to_uv p12
  | exact bare_simple hm
  | (rw [bare_bare hm]; exact decide_eq_true rfl)
  | (rw [bareR_eq hm]; done)
  | (rw [bare_bare hm]; done)
  | (rw [hsd]; exact hst.2.2)
  | (rw [hsd]; exact hst.2.1)
  | (rw [hsd, hdr]; exact decide_eq_true hst.1)
  | (rw [hme]; exact mergeTo_len hm1)
  | (rw [hmd, hdr]; exact merge_deg_u p12)
  | (rw [hme]; simp [renR]; done)
  | (rw [hmd, hdr]; exact merge_deg_w p12 ⟨by omega, by omega⟩ q152 q157)
            refine l_val (v := Value.pointer (some ⟨b322, 4, none⟩)) (want_y rfl rfl rfl (decide_eq_true q194_329)) (e_fieldAddr Try.underlying48 rfl rfl rfl rfl) ?_
            refine l_val (v := Value.bool ((((((lookR ((bareR g).1)).1).2).2).2).2)) (want_y rfl rfl rfl (decide_eq_true q194_329)) (e_load_bx1 tp4_g rfl bx327 rfl) ?_
            refine l_val (v := Value.bool ((((((lookR ((bareR g).1)).1).2).2).2).2)) rfl (e_pick_t rfl (decide_eq_true q194_329) rfl) ?_
            refine l_val (v := Value.bool ((((((lookR ((bareR g).1)).1).2).2).2).2)) rfl (e_move rfl) ?_
            have q198_330 : ((((((lookR ((bareR g).1)).1).2).2).2).2) = true := by first
  | rfl
  | exact merge_to_uv p12
  | exact bare_simple hm
  | (rw [bare_bare hm]; exact decide_eq_true rfl)
  | (rw [bareR_eq hm]; done)
  | (rw [bare_bare hm]; done)
  | (rw [hsd]; exact hst.2.2)
  | (rw [hsd]; exact hst.2.1)
  | (rw [hsd, hdr]; exact decide_eq_true hst.1)
  | (rw [hme]; exact mergeTo_len hm1)
  | (rw [hmd, hdr]; exact merge_deg_u p12)
  | (rw [hme]; simp [renR]; done)
  | (rw [hmd, hdr]; exact merge_deg_w p12 ⟨by omega, by omega⟩ q152 q157)
            refine l_val (v := Value.agg (List.toArray [Value.int .i64 (((bareR g).1).1), v287])) (want_y rfl rfl rfl q198_330) (e_load_bxN (ds := [Value.int .i64 (((bareR g).1).1), v287]) tp24_g rfl bx300 rfl rfl) ?_
            refine l_val (v := Value.agg (List.toArray [Value.int .i64 (((bareR ((bareR g).1)).1).1), v304])) (want_y rfl rfl rfl q198_330) (e_load_bxN (ds := [Value.int .i64 (((bareR ((bareR g).1)).1).1), v304]) tp24_g rfl bx317 rfl rfl) ?_
            refine l_op (want_y rfl rfl rfl q198_330) ?_
            refine o_call (v := Value.bool (decide (((bareR g).1) = ((bareR ((bareR g).1)).1)))) (e_call (vals := [Value.agg (List.toArray [Value.int .i64 (((bareR g).1).1), v287]), Value.agg (List.toArray [Value.int .i64 (((bareR ((bareR g).1)).1).1), v304])]) Try.func11 bd11_g nm11_g rfl) (Same_ok w325 ((bareR g).1) v287 (o288.flat).ro ((bareR ((bareR g).1)).1) v304 (o305.flat).ro) ?_
            intro w331 hb332
            replace hb332 := chg_below hb332 g323
            replace hbase := hbase.chg hb332 (not_no _)
            replace r_g_v := r_g_v.chg hb332 (not_no _)
            replace o288 := o288.chg hb332 (not_no _) (not_no _)
            replace o290 := o290.chg hb332 (not_no _) (not_no _)
            replace bx300 := bx300.chg hb332 (not_no _)
            replace o305 := o305.chg hb332 (not_no _) (not_no _)
            replace o307 := o307.chg hb332 (not_no _) (not_no _)
            replace bx317 := bx317.chg hb332 (not_no _)
            replace bx327 := bx327.chg hb332 (not_no _)
            refine l_val (v := Value.bool (decide (((bareR g).1) = ((bareR ((bareR g).1)).1)))) rfl (e_pick_t rfl q198_330 rfl) ?_
            refine l_val (v := Value.bool (decide (((bareR g).1) = ((bareR ((bareR g).1)).1)))) rfl (e_move rfl) ?_
            have q203_333 : (decide (((bareR g).1) = ((bareR ((bareR g).1)).1))) = true := by first
  | rfl
  | exact merge_to_uv p12
  | exact bare_simple hm
  | (rw [bare_bare hm]; exact decide_eq_true rfl)
  | (rw [bareR_eq hm]; done)
  | (rw [bare_bare hm]; done)
  | (rw [hsd]; exact hst.2.2)
  | (rw [hsd]; exact hst.2.1)
  | (rw [hsd, hdr]; exact decide_eq_true hst.1)
  | (rw [hme]; exact mergeTo_len hm1)
  | (rw [hmd, hdr]; exact merge_deg_u p12)
  | (rw [hme]; simp [renR]; done)
  | (rw [hmd, hdr]; exact merge_deg_w p12 ⟨by omega, by omega⟩ q152 q157)
            refine l_val (v := v306) (want_y rfl rfl rfl q203_333) (e_move rfl) ?_
            have len334 := (o307.flat).small
            refine l_val (v := Value.int .i64 (List.length ((bareR ((bareR g).1)).2.1) : Int)) (want_y rfl rfl rfl q203_333) (e_len Try.underlying25 rfl o307.flat) ?_
            refine l_val (v := v289) (want_y rfl rfl rfl q203_333) (e_move rfl) ?_
            have len335 := (o290.flat).small
            refine l_val (v := Value.int .i64 (List.length ((bareR g).2.1) : Int)) (want_y rfl rfl rfl q203_333) (e_len Try.underlying25 rfl o290.flat) ?_
            refine l_val (v := Value.bool (decide ((List.length ((bareR ((bareR g).1)).2.1) : Int) = (List.length ((bareR g).2.1) : Int)))) (want_y rfl rfl rfl q203_333) (e_eql (m := (List.length ((bareR ((bareR g).1)).2.1) : Int)) (n := (List.length ((bareR g).2.1) : Int)) rfl rfl) ?_
            refine l_val (v := Value.bool (decide ((List.length ((bareR ((bareR g).1)).2.1) : Int) = (List.length ((bareR g).2.1) : Int)))) rfl (e_pick_t rfl q203_333 rfl) ?_
            refine l_val (v := Value.bool (decide ((List.length ((bareR ((bareR g).1)).2.1) : Int) = (List.length ((bareR g).2.1) : Int)))) rfl (e_assign rfl) ?_
            refine l_nil ?_
            refine run_ret (vs := [Value.bool (decide ((List.length ((bareR ((bareR g).1)).2.1) : Int) = (List.length ((bareR g).2.1) : Int)))]) Try.func6 (.tmp rfl .nil) ?_
            -- return 5
            have e0 : (decide ((List.length ((bareR ((bareR g).1)).2.1) : Int) = (List.length ((bareR g).2.1) : Int)) : Bool) = (true) := by
              first
                | rfl
                | exact decide_eq_true (congrArg (fun n : Nat => (n : Int)) (bare_len hm))
                | exact decide_eq_true (bare_len hm)
            exact ⟨(congrArg (a₁ := decide ((List.length ((bareR ((bareR g).1)).2.1) : Int) = (List.length ((bareR g).2.1) : Int))) (fun (z0 : Bool) => Ending.returned (Value.bool z0)) e0), hbase.below⟩
  · skip
    refine l_skip (want_n rfl rfl rfl (congrArg Bool.not (Bool.eq_false_iff.2 q32))) ?_
    refine l_skip (want_n rfl rfl rfl (congrArg Bool.not (Bool.eq_false_iff.2 q32))) ?_
    refine l_skip (want_n rfl rfl rfl (congrArg Bool.not (Bool.eq_false_iff.2 q32))) ?_
    refine l_val (v := Value.bool true) rfl (e_pick_t rfl (congrArg Bool.not (Bool.eq_false_iff.2 q32)) rfl) ?_
    refine l_val (v := Value.bool true) rfl (e_move rfl) ?_
    refine l_skip (want_n rfl rfl rfl rfl) ?_
    refine l_skip (want_n rfl rfl rfl rfl) ?_
    refine l_skip (want_n rfl rfl rfl rfl) ?_
    refine l_skip (want_n rfl rfl rfl rfl) ?_
    refine l_val (v := Value.bool true) rfl (e_pick_t rfl rfl rfl) ?_
    refine l_nil ?_
    refine run_cond_t rfl rfl ?_
    refine run_seq ?_
    clear bx5
    refine run_region rfl ?_
    refine l_val (v := Value.bool true) rfl (e_assign rfl) ?_
    refine l_nil ?_
    refine run_ret (vs := [Value.bool true]) Try.func6 (.tmp rfl .nil) ?_
    -- return 6
    have e0 : (true : Bool) = (true) := by
      first
        | rfl
        | exact decide_eq_true (congrArg (fun n : Nat => (n : Int)) (bare_len hm))
        | exact decide_eq_true (bare_len hm)
    exact ⟨(congrArg (a₁ := true) (fun (z0 : Bool) => Ending.returned (Value.bool z0)) e0), hbase.below⟩
end TL
