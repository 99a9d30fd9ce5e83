import Derived.Test.YtklfjhklnlpdgaaTlGenA
import Derived.Test.YtklfjhklnlpdgaaTlGenB
import Derived.Test.YtklfjhklnlpdgaaTlGenC
import Derived.Test.YtklfjhklnlpdgaaTlNetSums
import Derived.Test.YtklfjhklnlpdgaaProg
import Derived.Test.YtklfjhklnlpdgaaTlNet2
import Derived.Test.YtklfjhklnlpdgaaTlDraw
import Derived.Test.YtklfjhklnlpdgaaTlMap
set_option linter.all false
set_option maxRecDepth 20000
namespace TL
open Go Go.Proofs
theorem mixed_s : Try.prog.follows .mixedOrders = true := by kernel_rfl
theorem tp3_s : Tp Try.prog 3 false 1 8 (.int .i64 0) := Tp.of (by kernel_rfl)
theorem tp22_s : Tp Try.prog 22 false 1 24 (.slice none 0 0) := Tp.of (by kernel_rfl)
theorem tp24_s : Tp Try.prog 24 true 2 32 (.agg #[.int .i64 0, .slice none 0 0]) := Tp.of (by kernel_rfl)
theorem bd8_s : Try.f8.body.isNone = false := rfl
theorem nm8_s : (Try.f8.name == "runtime.NumGoroutine") = false := by decide +kernel
theorem bd10_s : Try.f10.body.isNone = false := rfl
theorem nm10_s : (Try.f10.name == "runtime.NumGoroutine") = false := by decide +kernel
theorem bd11_s : Try.f11.body.isNone = false := rfl
theorem nm11_s : (Try.f11.name == "runtime.NumGoroutine") = false := by decide +kernel
theorem bd13_s : Try.f13.body.isNone = false := rfl
theorem nm13_s : (Try.f13.name == "runtime.NumGoroutine") = false := by decide +kernel
theorem bd18_s : Try.f18.body.isNone = false := rfl
theorem nm18_s : (Try.f18.name == "runtime.NumGoroutine") = false := by decide +kernel
theorem bd23_s : Try.f23.body.isNone = false := rfl
theorem nm23_s : (Try.f23.name == "runtime.NumGoroutine") = false := by decide +kernel
theorem bd24_s : Try.f24.body.isNone = false := rfl
theorem nm24_s : (Try.f24.name == "runtime.NumGoroutine") = false := by decide +kernel
theorem bd25_s : Try.f25.body.isNone = false := rfl
theorem nm25_s : (Try.f25.name == "runtime.NumGoroutine") = false := by decide +kernel

theorem NetSums_ok (w0 : World) (g : (Int) × (List ((Int) × (Int)))) (g_v : Value) (hg_v : Ro w0 g_v g.2) (to : List Int) (to_v : Value) (hto_v : Ro w0 to_v to) :
    Calls Try.prog 5 #[Value.agg (List.toArray [Value.int .i64 g.1, g_v]), to_v] w0 (fun ee w => ee = .returned (Value.bool true) ∧ RowKit.Below w0.heap.size w0 w) := by
  refine calls_of_run Try.func5 rfl (Nat.le_of_ble_eq_true rfl) ?_
  have hbase := Base.start w0
  have r_g_v := hg_v.sl
  have r_to_v := hto_v.sl
  refine run_seq ?_
  refine run_region rfl ?_
  refine l_op rfl ?_
  refine o_box c0 (is 1) (1, 0) rfl rfl ?_
  intro g4 w1 b3 ch2 bx5
  replace hbase := hbase.chg ch2 (not_no _)
  replace r_g_v := r_g_v.chg ch2 (not_no _)
  replace r_to_v := r_to_v.chg ch2 (not_no _)
  replace bx5 : Bx g4 (is 1) w1 b3 [Value.int .i64 g.1, g_v] := bx5
  refine l_val (v := Value.bool false) rfl (e_assign rfl) ?_
  refine l_nil ?_
  refine run_seq ?_
  refine run_seq ?_
  refine run_region rfl ?_
  refine l_op rfl ?_
  refine o_call (v := Value.bool true) (e_call (vals := []) Try.func8 bd8_s nm8_s rfl) (begun_ok w1 ) ?_
  intro w6 hb7
  replace hb7 := chg_below hb7 g4
  replace hbase := hbase.chg hb7 (not_no _)
  replace r_g_v := r_g_v.chg hb7 (not_no _)
  replace r_to_v := r_to_v.chg hb7 (not_no _)
  replace bx5 := bx5.chg hb7 (not_no _)
  refine l_val (v := Value.bool false) rfl (e_not (b := true) rfl) ?_
  refine l_nil ?_
  refine run_cond_f rfl rfl ?_
  refine run_skip ?_
  refine run_seq ?_
  refine run_seq ?_
  refine run_region rfl ?_
  refine l_val (v := Value.agg (List.toArray [Value.int .i64 g.1, g_v])) rfl (e_load_bxN (ds := [Value.int .i64 g.1, g_v]) tp24_s rfl bx5 rfl rfl) ?_
  refine l_op rfl ?_
  refine o_call (v := Value.bool (mayB g)) (e_call (vals := [Value.agg (List.toArray [Value.int .i64 g.1, g_v])]) Try.func23 bd23_s nm23_s rfl) (May_ok w6 g g_v (r_g_v).ro) ?_
  intro w8 hb9
  replace hb9 := chg_below hb9 g4
  replace hbase := hbase.chg hb9 (not_no _)
  replace r_g_v := r_g_v.chg hb9 (not_no _)
  replace r_to_v := r_to_v.chg hb9 (not_no _)
  replace bx5 := bx5.chg hb9 (not_no _)
  refine l_val (v := Value.bool (!(mayB g))) rfl (e_not (b := (mayB g)) rfl) ?_
  refine l_val (v := Value.bool (!(mayB g))) rfl (e_move rfl) ?_
  by_cases q29 : (mayB g) = true
  · skip
    have hm := of_decide_eq_true q29
    have hm0 := hm
    obtain ⟨hm1, hm2, hm3, hm4⟩ := hm0
    have hdr : (degR g).1 = degS g := by unfold degR; rw [if_pos hm]
    have hdl := deg_len (g := g) hm1
    have hdl2 : (((degR g).1).length : Int) = g.1 := by rw [hdr]; exact hdl
    have hds := deg_sum hm
    refine l_val (v := Value.pointer (some ⟨b3, 0, none⟩)) (want_y rfl rfl rfl (congrArg Bool.not q29)) (e_fieldAddr Try.underlying24 rfl rfl rfl rfl) ?_
    refine l_val (v := Value.int .i64 g.1) (want_y rfl rfl rfl (congrArg Bool.not q29)) (e_load_bx1 tp3_s rfl bx5 rfl) ?_
    refine l_val (v := Value.bool (decide (200 < g.1))) (want_y rfl rfl rfl (congrArg Bool.not q29)) (e_gtr (m := g.1) (n := 200) rfl rfl) ?_
    refine l_val (v := Value.bool (decide (200 < g.1))) rfl (e_pick_f rfl (congrArg Bool.not q29) rfl) ?_
    refine l_val (v := Value.bool (decide (200 < g.1))) rfl (e_move rfl) ?_
    by_cases q34 : 200 < g.1
    · skip
      refine l_skip (want_n rfl rfl rfl (decide_eq_true q34)) ?_
      refine l_skip (want_n rfl rfl rfl (decide_eq_true q34)) ?_
      refine l_skip (want_n rfl rfl rfl (decide_eq_true q34)) ?_
      refine l_skip (want_n rfl rfl rfl (decide_eq_true q34)) ?_
      refine l_val (v := Value.bool true) rfl (e_pick_t rfl (decide_eq_true q34) rfl) ?_
      refine l_nil ?_
      refine run_cond_t rfl rfl ?_
      refine run_seq ?_
      clear bx5
      refine run_region rfl ?_
      refine l_val (v := Value.bool true) rfl (e_assign rfl) ?_
      refine l_nil ?_
      refine run_ret (vs := [Value.bool true]) Try.func5 (.tmp rfl .nil) ?_
      -- return 0
      have e0 : (true : Bool) = (true) := by
        first
          | rfl
          | (rw [htb]; exact decide_eq_true rfl)
      exact ⟨(congrArg (fun (z0 : Bool) => Ending.returned (Value.bool z0)) e0), hbase.below⟩
    · skip
      refine l_val (v := Value.pointer (some ⟨b3, 1, none⟩)) (want_y rfl rfl rfl (decide_eq_false q34)) (e_fieldAddr Try.underlying24 rfl rfl rfl rfl) ?_
      refine l_val (v := g_v) (want_y rfl rfl rfl (decide_eq_false q34)) (e_load_bx1 tp22_s rfl bx5 rfl) ?_
      have len10 := (r_g_v).small
      refine l_val (v := Value.int .i64 (List.length g.2 : Int)) (want_y rfl rfl rfl (decide_eq_false q34)) (e_len Try.underlying22 rfl r_g_v) ?_
      refine l_val (v := Value.bool (decide (200 < (List.length g.2 : Int)))) (want_y rfl rfl rfl (decide_eq_false q34)) (e_gtr (m := (List.length g.2 : Int)) (n := 200) rfl rfl) ?_
      refine l_val (v := Value.bool (decide (200 < (List.length g.2 : Int)))) rfl (e_pick_f rfl (decide_eq_false q34) rfl) ?_
      refine l_nil ?_
      by_cases p4 : 200 < (List.length g.2 : Int)
      · skip
        refine run_cond_t rfl (decide_eq_true p4) ?_
        refine run_seq ?_
        clear bx5
        refine run_region rfl ?_
        refine l_val (v := Value.bool true) rfl (e_assign rfl) ?_
        refine l_nil ?_
        refine run_ret (vs := [Value.bool true]) Try.func5 (.tmp rfl .nil) ?_
        -- return 1
        have e0 : (true : Bool) = (true) := by
          first
            | rfl
            | (rw [htb]; exact decide_eq_true rfl)
        exact ⟨(congrArg (fun (z0 : Bool) => Ending.returned (Value.bool z0)) e0), hbase.below⟩
      · skip
        refine run_cond_f rfl (decide_eq_false p4) ?_
        refine run_skip ?_
        refine run_seq ?_
        refine run_region rfl ?_
        refine l_val (v := Value.agg (List.toArray [Value.int .i64 g.1, g_v])) rfl (e_load_bxN (ds := [Value.int .i64 g.1, g_v]) tp24_s rfl bx5 rfl rfl) ?_
        refine l_op rfl ?_
        refine o_callx (e_call (vals := [Value.agg (List.toArray [Value.int .i64 g.1, g_v])]) Try.func24 bd24_s nm24_s rfl) (Degrees_ok w8 g g_v (r_g_v).ro) ?_
        rintro ⟨d12, v14⟩ w11 ⟨fr13, o15⟩
        obtain ⟨g16, hg16⟩ : ∃ q, q = glue w8.heap.size g4 d12 (fun n => if n = 1 then 2 else 0) := ⟨_, rfl⟩
        have ch17 := chg_glue fr13.below g4 d12 (fun n => if n = 1 then 2 else 0)
        rw [← hg16] at ch17
        replace hbase := hbase.chg ch17 (not_no _)
        replace r_g_v := r_g_v.chg ch17 (not_no _)
        replace r_to_v := r_to_v.chg ch17 (not_no _)
        replace bx5 := bx5.chg ch17 (not_no _)
        replace o15 := o15.glue (γ := g4) (ren := (fun n => if n = 1 then 2 else 0)) (k := 2) fr13.col rfl rfl
        rw [← hg16] at o15
        clear hg16
        refine l_val (v := Value.tuple (List.toArray [v14, Value.int .i64 ((degR g).2)])) rfl (e_move rfl) ?_
        refine l_val (v := v14) rfl (e_extract rfl rfl) ?_
        refine l_val (v := Value.int .i64 ((degR g).2)) rfl (e_extract rfl rfl) ?_
        refine l_val (v := v14) rfl (e_assign rfl) ?_
        refine l_val (v := Value.int .i64 ((degR g).2)) rfl (e_assign rfl) ?_
        refine l_nil ?_
        refine run_seq ?_
        refine run_region rfl ?_
        refine l_val (v := Value.int .i64 0) rfl (e_assign rfl) ?_
        refine l_val (v := Value.int .i64 0) rfl (e_assign rfl) ?_
        refine l_nil ?_
        refine run_seq ?_
        refine run_region rfl ?_
        refine l_val (v := Value.slice none 0 0) rfl (e_assign rfl) ?_
        refine l_val (v := Value.slice none 0 0) rfl (e_assign rfl) ?_
        refine l_nil ?_
        refine run_seq ?_
        refine run_seq ?_
        refine run_region rfl ?_
        refine l_val (v := Value.int .i64 0) rfl (e_assign rfl) ?_
        refine l_nil ?_
        refine run_block ?_
        refine run_loop (σ := Int × Int × Value × (List Int) × Nat × Cmap) (fun ⟨sum, seen, nodes_v, nodes, v, gq⟩ f w => Base w0 gq w ∧ f 1 = to_v ∧ f 2 = Value.pointer (some ⟨b3, 0, none⟩) ∧ f 5 = v14 ∧ f 7 = Value.int .i64 sum ∧ f 8 = Value.int .i64 seen ∧ f 9 = Value.slice none 0 0 ∧ f 10 = nodes_v ∧ f 11 = Value.int .i64 (v : Int) ∧ Sl gq (is 0) w g_v g.2 ∧ Sl gq (is 0) w to_v to ∧ Bx gq (is 1) w b3 [Value.int .i64 g.1, g_v] ∧ Ow gq (is 2) (is 2) w v14 ((degR g).1) ∧ Ow gq (is 5) (is 5) w nodes_v nodes ∧ (v : Int) ≤ (g.1 : Int) ∧ (sum = ((degS g).take v).sum ∧ seen = sum ∧ nodes = iotaI v ∧ (v : Int) ≤ g.1)) (fun ⟨sum, seen, nodes_v, nodes, v, gq⟩ => Int.toNat ((g.1 : Int) - (v : Int))) (0, 0, Value.slice none 0 0, [], 0, g16) ?_ ?_
        · exact ⟨hbase, rfl, rfl, rfl, rfl, rfl, rfl, rfl, rfl, r_g_v, r_to_v, bx5, o15, Ow.nil, by omega, by exact ⟨rfl, rfl, rfl, by omega⟩⟩
        clear r_g_v
        clear r_to_v
        clear bx5
        clear o15
        clear hbase
        rintro ⟨sum, seen, nodes_v, nodes, v, g20⟩ f18 w19 ⟨hbase, zs1, zs2, zs5, zs7, zs8, zs9, zs10, zs11, r_g_v, r_to_v, bx5, o15, o_nodes, hle_v, hinv⟩ back9
        have hnl : nodes.length = v := by rw [hinv.2.2.1]; exact iota_len v
        have hts := take_sum_le (deg_nonneg (g := g)) v
        have hi1 := hinv.1
        have hi2 := hinv.2.1
        have hi4 := hinv.2.2.2
        refine run_seq ?_
        refine run_seq ?_
        refine run_region rfl ?_
        refine l_val (v := Value.int .i64 (v : Int)) rfl (e_move (by exact zs11)) ?_
        refine l_val (v := Value.pointer (some ⟨b3, 0, none⟩)) rfl (e_fieldAddr Try.underlying24 rfl rfl (by exact zs2) rfl) ?_
        refine l_val (v := Value.int .i64 g.1) rfl (e_load_bx1 tp3_s rfl bx5 rfl) ?_
        refine l_val (v := Value.bool (decide ((v : Int) < g.1))) rfl (e_lss (m := (v : Int)) (n := g.1) rfl rfl) ?_
        refine l_nil ?_
        by_cases p9 : (v : Int) < g.1
        · skip
          have hout := outR_in hm (v := (v : Int)) (by omega) p9
          have hdg : gI (degR g).1 (v : Int) = ((outS g (v : Int)).length : Int) := by rw [hdr]; exact deg_gI (by omega) p9
          have hdg2 : gI (degR g).1 (v : Int) = gI (degS g) (v : Int) := by rw [hdr]
          have htk : ((degS g).take (v + 1)).sum = ((degS g).take v).sum + gI (degS g) (v : Int) := by rw [take_succ_gI (by omega)]; simp
          have hts2 := take_sum_le (deg_nonneg (g := g)) (v + 1)
          have hol : (((outR g (v : Int)).1).length : Int) = gI (degR g).1 (v : Int) := by rw [hout, hdg]
          refine run_cond_t rfl (decide_eq_true p9) ?_
          refine run_skip ?_
          refine run_seq ?_
          refine run_block ?_
          refine run_seq ?_
          refine run_region rfl ?_
          refine l_val (v := Value.agg (List.toArray [Value.int .i64 g.1, g_v])) rfl (e_load_bxN (ds := [Value.int .i64 g.1, g_v]) tp24_s (by exact zs2) bx5 rfl rfl) ?_
          refine l_val (v := Value.int .i64 (v : Int)) rfl (e_move (by exact zs11)) ?_
          refine l_op rfl ?_
          refine o_callx (e_call (vals := [Value.agg (List.toArray [Value.int .i64 g.1, g_v]), Value.int .i64 (v : Int)]) Try.func25 bd25_s nm25_s rfl) (Out_ok w19 g g_v (r_g_v).ro (v : Int)) ?_
          rintro ⟨d22, v24⟩ w21 ⟨fr23, o25⟩
          obtain ⟨g26, hg26⟩ : ∃ q, q = glue w19.heap.size g20 d22 (fun n => if n = 1 then 3 else 0) := ⟨_, rfl⟩
          have ch27 := chg_glue fr23.below g20 d22 (fun n => if n = 1 then 3 else 0)
          rw [← hg26] at ch27
          replace hbase := hbase.chg ch27 (not_no _)
          replace r_g_v := r_g_v.chg ch27 (not_no _)
          replace r_to_v := r_to_v.chg ch27 (not_no _)
          replace bx5 := bx5.chg ch27 (not_no _)
          replace o15 := o15.chg ch27 (not_no _) (not_no _)
          replace o_nodes := o_nodes.chg ch27 (not_no _) (not_no _)
          replace o25 := o25.glue (γ := g20) (ren := (fun n => if n = 1 then 3 else 0)) (k := 3) fr23.col rfl rfl
          rw [← hg26] at o25
          clear hg26
          refine l_val (v := Value.tuple (List.toArray [v24, Value.int .i64 ((outR g (v : Int)).2)])) rfl (e_move rfl) ?_
          refine l_val (v := v24) rfl (e_extract rfl rfl) ?_
          refine l_val (v := Value.int .i64 ((outR g (v : Int)).2)) rfl (e_extract rfl rfl) ?_
          refine l_val (v := v24) rfl (e_assign rfl) ?_
          refine l_val (v := Value.int .i64 ((outR g (v : Int)).2)) rfl (e_assign rfl) ?_
          refine l_nil ?_
          refine run_seq ?_
          refine run_seq ?_
          refine run_region rfl ?_
          refine l_val (v := Value.int .i64 ((outR g (v : Int)).2)) rfl (e_move rfl) ?_
          refine l_val (v := Value.bool (!(decide (((outR g (v : Int)).2) = 0)))) rfl (e_neq (m := (outR g (v : Int)).2) (n := 0) rfl rfl) ?_
          refine l_val (v := Value.bool (!(decide (((outR g (v : Int)).2) = 0)))) rfl (e_move rfl) ?_
          have q59 : ((outR g (v : Int)).2) = 0 := by first
  | rfl
  | (rw [hout]; done)
  | (rw [hout, hdg]; done)
  | assumption
  | exact hinv.2.1
  | (rw [hsa]; done)
  | (rw [hpa]; done)
  | (rw [hsa]; exact decide_eq_true rfl)
  | (rw [hpa]; exact decide_eq_true rfl)
  | (rw [hpa, hall]; done)
  | (rw [htb]; done)
          refine l_val (v := v24) (want_y rfl rfl rfl (congrArg Bool.not (decide_eq_true q59))) (e_move rfl) ?_
          have len28 := (o25.flat).small
          refine l_val (v := Value.int .i64 (List.length ((outR g (v : Int)).1) : Int)) (want_y rfl rfl rfl (congrArg Bool.not (decide_eq_true q59))) (e_len Try.underlying25 rfl o25.flat) ?_
          refine l_val (v := v14) (want_y rfl rfl rfl (congrArg Bool.not (decide_eq_true q59))) (e_move (by exact zs5)) ?_
          refine l_val (v := Value.int .i64 (v : Int)) (want_y rfl rfl rfl (congrArg Bool.not (decide_eq_true q59))) (e_move (by exact zs11)) ?_
          refine l_val (v := Value.pointer (some (eAddr v14 1 (Int.toNat (v : Int))))) (want_y rfl rfl rfl (congrArg Bool.not (decide_eq_true q59))) (e_indexAddr (α := Int) (xs := (degR g).1) (v := v14) (i := (v : Int)) Try.underlying25 rfl rfl o15.flat rfl (by omega) (by omega)) ?_
          refine l_val (v := Value.int .i64 (gI ((degR g).1) (v : Int))) (want_y rfl rfl rfl (congrArg Bool.not (decide_eq_true q59))) (e_load_el1 (α := Int) (xs := (degR g).1) (v := v14) (i := (v : Int)) tp3_s rfl o15.flat (by omega) (by omega) (by decide) rfl) ?_
          refine l_val (v := Value.bool (!(decide ((List.length ((outR g (v : Int)).1) : Int) = (gI ((degR g).1) (v : Int)))))) (want_y rfl rfl rfl (congrArg Bool.not (decide_eq_true q59))) (e_neq (m := (List.length ((outR g (v : Int)).1) : Int)) (n := (gI ((degR g).1) (v : Int))) rfl rfl) ?_
          refine l_val (v := Value.bool (!(decide ((List.length ((outR g (v : Int)).1) : Int) = (gI ((degR g).1) (v : Int)))))) rfl (e_pick_f rfl (congrArg Bool.not (decide_eq_true q59)) rfl) ?_
          refine l_nil ?_
          have p12 : (List.length ((outR g (v : Int)).1) : Int) = (gI ((degR g).1) (v : Int)) := by first
  | rfl
  | (rw [hout]; done)
  | (rw [hout, hdg]; done)
  | assumption
  | exact hinv.2.1
  | (rw [hsa]; done)
  | (rw [hpa]; done)
  | (rw [hsa]; exact decide_eq_true rfl)
  | (rw [hpa]; exact decide_eq_true rfl)
  | (rw [hpa, hall]; done)
  | (rw [htb]; done)
          refine run_cond_f rfl (congrArg Bool.not (decide_eq_true p12)) ?_
          refine run_skip ?_
          refine run_seq ?_
          refine run_region rfl ?_
          refine l_val (v := Value.int .i64 sum) rfl (e_move (by exact zs7)) ?_
          refine l_val (v := v14) rfl (e_move (by exact zs5)) ?_
          refine l_val (v := Value.int .i64 (v : Int)) rfl (e_move (by exact zs11)) ?_
          refine l_val (v := Value.pointer (some (eAddr v14 1 (Int.toNat (v : Int))))) rfl (e_indexAddr (α := Int) (xs := (degR g).1) (v := v14) (i := (v : Int)) Try.underlying25 rfl rfl o15.flat rfl (by omega) (by omega)) ?_
          refine l_val (v := Value.int .i64 (gI ((degR g).1) (v : Int))) rfl (e_load_el1 (α := Int) (xs := (degR g).1) (v := v14) (i := (v : Int)) tp3_s rfl o15.flat (by omega) (by omega) (by decide) rfl) ?_
          refine l_val (v := Value.int .i64 (sum + (gI ((degR g).1) (v : Int)))) rfl (e_add (m := sum) (n := (gI ((degR g).1) (v : Int))) rfl rfl (by omega)) ?_
          refine l_val (v := Value.int .i64 (sum + (gI ((degR g).1) (v : Int)))) rfl (e_assign rfl) ?_
          refine l_nil ?_
          refine run_seq ?_
          refine run_region rfl ?_
          refine l_val (v := Value.int .i64 seen) rfl (e_move (by exact zs8)) ?_
          refine l_val (v := v24) rfl (e_move rfl) ?_
          refine l_val (v := Value.int .i64 (List.length ((outR g (v : Int)).1) : Int)) rfl (e_len Try.underlying25 rfl o25.flat) ?_
          refine l_val (v := Value.int .i64 (seen + (List.length ((outR g (v : Int)).1) : Int))) rfl (e_add (m := seen) (n := (List.length ((outR g (v : Int)).1) : Int)) rfl rfl (by omega)) ?_
          refine l_val (v := Value.int .i64 (seen + (List.length ((outR g (v : Int)).1) : Int))) rfl (e_assign rfl) ?_
          refine l_nil ?_
          clear o25
          refine run_region rfl ?_
          refine l_val (v := nodes_v) rfl (e_move (by exact zs10)) ?_
          refine l_val (v := Value.int .i64 (v : Int)) rfl (e_move (by exact zs11)) ?_
          refine l_op rfl ?_
          refine o_buildSlice (α := Int) g26 (is 4) (is 4) (4, 0) rfl [(v : Int)] Try.underlying25 tp3_s (by decide) (by decide) (vs := [(0, Value.int .i64 (v : Int))]) rfl rfl (.cons rfl .nil) ?_
          intro g29 w30 v31 ch32 o33
          replace hbase := hbase.chg ch32 (not_no _)
          replace r_g_v := r_g_v.chg ch32 (not_no _)
          replace r_to_v := r_to_v.chg ch32 (not_no _)
          replace bx5 := bx5.chg ch32 (not_no _)
          replace o15 := o15.chg ch32 (not_no _) (not_no _)
          replace o_nodes := o_nodes.chg ch32 (not_no _) (not_no _)
          refine l_op rfl ?_
          refine o_append (α := Int) (xs := nodes) (ys := ([(v : Int)])) g29 (J := is 5) (S := is 5) (5, 0) rfl Try.underlying25 tp3_s (by decide) rfl rfl rfl o_nodes o33.flat (by decide) (by first | omega | (simp; done) | (simp; omega)) ?_
          intro g34 w35 v36 ch37 o38
          replace hbase := hbase.chg ch37 (is_ne rfl)
          replace r_g_v := r_g_v.chg ch37 (is_ne rfl)
          replace r_to_v := r_to_v.chg ch37 (is_ne rfl)
          replace bx5 := bx5.chg ch37 (is_ne rfl)
          replace o15 := o15.chg ch37 (is_ne rfl) (is_ne rfl)
          replace o33 := o33.chg ch37 (is_ne rfl) (is_ne rfl)
          clear o_nodes
          refine l_val (v := v36) rfl (e_assign rfl) ?_
          refine l_nil ?_
          refine run_inBlock ?_
          clear o33
          refine run_region rfl ?_
          refine l_val (v := Value.int .i64 (v : Int)) rfl (e_move (by exact zs11)) ?_
          refine l_val (v := Value.int .i64 ((v : Int) + 1)) rfl (e_add (m := (v : Int)) (n := 1) rfl rfl (by omega)) ?_
          refine l_val (v := Value.int .i64 ((v : Int) + 1)) rfl (e_assign rfl) ?_
          refine l_nil ?_
          refine back9 (sum + (gI ((degR g).1) (v : Int)), seen + (List.length ((outR g (v : Int)).1) : Int), v36, (nodes ++ [(v : Int)]), v + 1, g34) _ _ ⟨hbase, (by exact zs1), (by exact zs2), (by exact zs5), rfl, rfl, (by exact zs9), rfl, rfl, r_g_v, r_to_v, bx5, o15, o38, by omega, ?_⟩ ?_
          · show (sum + (gI ((degR g).1) (v : Int))) = ((degS g).take (v + 1)).sum ∧ (seen + (List.length ((outR g (v : Int)).1) : Int)) = (sum + (gI ((degR g).1) (v : Int))) ∧ (nodes ++ [(v : Int)]) = iotaI (v + 1) ∧ ((v + 1) : Int) ≤ g.1
            refine ⟨by omega, by omega, ?_, by omega⟩
            rw [hinv.2.2.1, iota_succ]
          · show Int.toNat ((g.1 : Int) - ((v + 1) : Int)) < Int.toNat ((g.1 : Int) - (v : Int))
            omega
        · skip
          have hnodes : nodes = iotaI g.1.toNat := by rw [hinv.2.2.1, show v = g.1.toNat by omega]
          have hsum : sum = 2 * (g.2.length : Int) := by rw [hinv.1, List.take_of_length_le (by omega)]; exact hds
          have hseen : seen = sum := hinv.2.1
          refine run_cond_f rfl (decide_eq_false p9) ?_
          refine run_exit rfl ?_
          refine run_seq ?_
          refine run_seq ?_
          clear o15
          refine run_region rfl ?_
          refine l_val (v := Value.int .i64 0) rfl (e_assign rfl) ?_
          refine l_nil ?_
          refine run_block ?_
          refine run_loop (σ := Value × (List Int) × Nat × Cmap) (fun ⟨all_v, all, i, gq⟩ f w => Base w0 gq w ∧ f 1 = to_v ∧ f 2 = Value.pointer (some ⟨b3, 0, none⟩) ∧ f 7 = Value.int .i64 sum ∧ f 8 = Value.int .i64 seen ∧ f 9 = all_v ∧ f 10 = nodes_v ∧ f 14 = Value.int .i64 (i : Int) ∧ Sl gq (is 0) w g_v g.2 ∧ Sl gq (is 0) w to_v to ∧ Bx gq (is 1) w b3 [Value.int .i64 g.1, g_v] ∧ Ow gq (is 5) (is 5) w nodes_v nodes ∧ Ow gq (is 7) (is 7) w all_v all ∧ (i : Int) ≤ ((List.length g.2 : Int) : Int) ∧ (all = iotaI i)) (fun ⟨all_v, all, i, gq⟩ => Int.toNat (((List.length g.2 : Int) : Int) - (i : Int))) (Value.slice none 0 0, [], 0, g20) ?_ ?_
          · exact ⟨hbase, (by exact zs1), (by exact zs2), (by exact zs7), (by exact zs8), (by exact zs9), (by exact zs10), rfl, r_g_v, r_to_v, bx5, o_nodes, Ow.nil, by omega, by rfl⟩
          clear r_g_v
          clear r_to_v
          clear bx5
          clear o_nodes
          clear hbase
          rintro ⟨all_v, all, i, g41⟩ f39 w40 ⟨hbase, zs1, zs2, zs7, zs8, zs9, zs10, zs14, r_g_v, r_to_v, bx5, o_nodes, o_all, hle_i, hinv1⟩ back18
          have hal : all.length = i := by rw [hinv1]; exact iota_len i
          refine run_seq ?_
          refine run_seq ?_
          refine run_region rfl ?_
          refine l_val (v := Value.int .i64 (i : Int)) rfl (e_move (by exact zs14)) ?_
          refine l_val (v := Value.pointer (some ⟨b3, 1, none⟩)) rfl (e_fieldAddr Try.underlying24 rfl rfl (by exact zs2) rfl) ?_
          refine l_val (v := g_v) rfl (e_load_bx1 tp22_s rfl bx5 rfl) ?_
          refine l_val (v := Value.int .i64 (List.length g.2 : Int)) rfl (e_len Try.underlying22 rfl r_g_v) ?_
          refine l_val (v := Value.bool (decide ((i : Int) < (List.length g.2 : Int)))) rfl (e_lss (m := (i : Int)) (n := (List.length g.2 : Int)) rfl rfl) ?_
          refine l_nil ?_
          by_cases p18 : (i : Int) < (List.length g.2 : Int)
          · skip
            refine run_cond_t rfl (decide_eq_true p18) ?_
            refine run_skip ?_
            refine run_seq ?_
            refine run_block ?_
            refine run_region rfl ?_
            refine l_val (v := all_v) rfl (e_move (by exact zs9)) ?_
            refine l_val (v := Value.int .i64 (i : Int)) rfl (e_move (by exact zs14)) ?_
            refine l_op rfl ?_
            refine o_buildSlice (α := Int) g41 (is 6) (is 6) (6, 0) rfl [(i : Int)] Try.underlying25 tp3_s (by decide) (by decide) (vs := [(0, Value.int .i64 (i : Int))]) rfl rfl (.cons rfl .nil) ?_
            intro g42 w43 v44 ch45 o46
            replace hbase := hbase.chg ch45 (not_no _)
            replace r_g_v := r_g_v.chg ch45 (not_no _)
            replace r_to_v := r_to_v.chg ch45 (not_no _)
            replace bx5 := bx5.chg ch45 (not_no _)
            replace o_nodes := o_nodes.chg ch45 (not_no _) (not_no _)
            replace o_all := o_all.chg ch45 (not_no _) (not_no _)
            refine l_op rfl ?_
            refine o_append (α := Int) (xs := all) (ys := ([(i : Int)])) g42 (J := is 7) (S := is 7) (7, 0) rfl Try.underlying25 tp3_s (by decide) rfl rfl rfl o_all o46.flat (by decide) (by first | omega | (simp; done) | (simp; omega)) ?_
            intro g47 w48 v49 ch50 o51
            replace hbase := hbase.chg ch50 (is_ne rfl)
            replace r_g_v := r_g_v.chg ch50 (is_ne rfl)
            replace r_to_v := r_to_v.chg ch50 (is_ne rfl)
            replace bx5 := bx5.chg ch50 (is_ne rfl)
            replace o_nodes := o_nodes.chg ch50 (is_ne rfl) (is_ne rfl)
            replace o46 := o46.chg ch50 (is_ne rfl) (is_ne rfl)
            clear o_all
            refine l_val (v := v49) rfl (e_assign rfl) ?_
            refine l_nil ?_
            refine run_inBlock ?_
            clear o46
            refine run_region rfl ?_
            refine l_val (v := Value.int .i64 (i : Int)) rfl (e_move (by exact zs14)) ?_
            refine l_val (v := Value.int .i64 ((i : Int) + 1)) rfl (e_add (m := (i : Int)) (n := 1) rfl rfl (by omega)) ?_
            refine l_val (v := Value.int .i64 ((i : Int) + 1)) rfl (e_assign rfl) ?_
            refine l_nil ?_
            refine back18 (v49, (all ++ [(i : Int)]), i + 1, g47) _ _ ⟨hbase, (by exact zs1), (by exact zs2), (by exact zs7), (by exact zs8), rfl, (by exact zs10), rfl, r_g_v, r_to_v, bx5, o_nodes, o51, by omega, ?_⟩ ?_
            · show (all ++ [(i : Int)]) = iotaI (i + 1)
              rw [hinv1, iota_succ]
            · show Int.toNat (((List.length g.2 : Int) : Int) - ((i + 1) : Int)) < Int.toNat (((List.length g.2 : Int) : Int) - (i : Int))
              omega
          · skip
            have hall : all = iotaI g.2.length := by rw [hinv1, show i = g.2.length by omega]
            have hsa := subAll hm
            rw [← hall] at hsa
            have hpa := partAll hm
            rw [← hnodes] at hpa
            refine run_cond_f rfl (decide_eq_false p18) ?_
            refine run_exit rfl ?_
            refine run_seq ?_
            refine run_region rfl ?_
            refine l_val (v := Value.agg (List.toArray [Value.int .i64 g.1, g_v])) rfl (e_load_bxN (ds := [Value.int .i64 g.1, g_v]) tp24_s (by exact zs2) bx5 rfl rfl) ?_
            refine l_val (v := all_v) rfl (e_move (by exact zs9)) ?_
            refine l_op rfl ?_
            refine o_callx (e_call (vals := [Value.agg (List.toArray [Value.int .i64 g.1, g_v]), all_v]) Try.func13 bd13_s nm13_s rfl) (Sub_ok w40 g g_v (r_g_v).ro all all_v (o_all.flat).ro) ?_
            rintro ⟨d53, v55⟩ w52 ⟨fr54, o56⟩
            obtain ⟨g57, hg57⟩ : ∃ q, q = glue w40.heap.size g41 d53 (fun n => if n = 1 then 8 else 0) := ⟨_, rfl⟩
            have ch58 := chg_glue fr54.below g41 d53 (fun n => if n = 1 then 8 else 0)
            rw [← hg57] at ch58
            replace hbase := hbase.chg ch58 (not_no _)
            replace r_g_v := r_g_v.chg ch58 (not_no _)
            replace r_to_v := r_to_v.chg ch58 (not_no _)
            replace bx5 := bx5.chg ch58 (not_no _)
            replace o_nodes := o_nodes.chg ch58 (not_no _) (not_no _)
            replace o_all := o_all.chg ch58 (not_no _) (not_no _)
            replace o56 := o56.glue (γ := g41) (ren := (fun n => if n = 1 then 8 else 0)) (k := 8) fr54.col rfl rfl
            rw [← hg57] at o56
            clear hg57
            refine l_val (v := Value.tuple (List.toArray [Value.agg (List.toArray [Value.int .i64 (((subR g all).1).1), v55]), Value.int .i64 ((subR g all).2)])) rfl (e_move rfl) ?_
            refine l_val (v := Value.agg (List.toArray [Value.int .i64 (((subR g all).1).1), v55])) rfl (e_extract rfl rfl) ?_
            refine l_val (v := Value.int .i64 ((subR g all).2)) rfl (e_extract rfl rfl) ?_
            refine l_op rfl ?_
            refine o_alloc g57 (is 9) (9, 0) rfl tp24_s ?_
            intro g62 w59 b61 ch60 bx63
            replace hbase := hbase.chg ch60 (not_no _)
            replace r_g_v := r_g_v.chg ch60 (not_no _)
            replace r_to_v := r_to_v.chg ch60 (not_no _)
            replace bx5 := bx5.chg ch60 (not_no _)
            replace o_nodes := o_nodes.chg ch60 (not_no _) (not_no _)
            replace o_all := o_all.chg ch60 (not_no _) (not_no _)
            replace o56 := o56.chg ch60 (not_no _) (not_no _)
            replace bx63 : Bx g62 (is 9) w59 b61 [Value.int .i64 0, Value.slice none 0 0] := bx63
            refine l_op rfl ?_
            refine o_store_bx (cs' := [Value.int .i64 (((subR g all).1).1), v55]) tp24_s rfl rfl bx63 rfl (Nat.le_of_ble_eq_true rfl) (AllOne.all (.cons rfl (.cons (sl_one o56.flat) .nil))) rfl ?_
            intro w64 ch65 bx66
            replace hbase := hbase.chg ch65 (is_ne rfl)
            replace r_g_v := r_g_v.chg ch65 (is_ne rfl)
            replace r_to_v := r_to_v.chg ch65 (is_ne rfl)
            replace bx5 := bx5.chg ch65 (is_ne rfl)
            replace o_nodes := o_nodes.chg ch65 (is_ne rfl) (is_ne rfl)
            replace o_all := o_all.chg ch65 (is_ne rfl) (is_ne rfl)
            replace o56 := o56.chg ch65 (is_ne rfl) (is_ne rfl)
            clear bx63
            refine l_val (v := Value.int .i64 ((subR g all).2)) rfl (e_assign rfl) ?_
            refine l_nil ?_
            refine run_seq ?_
            refine run_region rfl ?_
            refine l_val (v := Value.agg (List.toArray [Value.int .i64 g.1, g_v])) rfl (e_load_bxN (ds := [Value.int .i64 g.1, g_v]) tp24_s (by exact zs2) bx5 rfl rfl) ?_
            refine l_val (v := nodes_v) rfl (e_move (by exact zs10)) ?_
            refine l_op rfl ?_
            refine o_callx (e_call (vals := [Value.agg (List.toArray [Value.int .i64 g.1, g_v]), nodes_v]) Try.func10 bd10_s nm10_s rfl) (Part_ok w64 g g_v (r_g_v).ro nodes nodes_v (o_nodes.flat).ro) ?_
            rintro ⟨d68, v70, v72⟩ w67 ⟨fr69, o71, o73⟩
            obtain ⟨g74, hg74⟩ : ∃ q, q = glue w64.heap.size g62 d68 (fun n => if n = 1 then 10 else if n = 2 then 11 else 0) := ⟨_, rfl⟩
            have ch75 := chg_glue fr69.below g62 d68 (fun n => if n = 1 then 10 else if n = 2 then 11 else 0)
            rw [← hg74] at ch75
            replace hbase := hbase.chg ch75 (not_no _)
            replace r_g_v := r_g_v.chg ch75 (not_no _)
            replace r_to_v := r_to_v.chg ch75 (not_no _)
            replace bx5 := bx5.chg ch75 (not_no _)
            replace o_nodes := o_nodes.chg ch75 (not_no _) (not_no _)
            replace o_all := o_all.chg ch75 (not_no _) (not_no _)
            replace o56 := o56.chg ch75 (not_no _) (not_no _)
            replace bx66 := bx66.chg ch75 (not_no _)
            replace o71 := o71.glue (γ := g62) (ren := (fun n => if n = 1 then 10 else if n = 2 then 11 else 0)) (k := 10) fr69.col rfl rfl
            rw [← hg74] at o71
            replace o73 := o73.glue (γ := g62) (ren := (fun n => if n = 1 then 10 else if n = 2 then 11 else 0)) (k := 11) fr69.col rfl rfl
            rw [← hg74] at o73
            clear hg74
            refine l_val (v := Value.tuple (List.toArray [Value.agg (List.toArray [Value.int .i64 (((partR g nodes).1).1), v70]), v72, Value.int .i64 ((partR g nodes).2.2)])) rfl (e_move rfl) ?_
            refine l_val (v := Value.agg (List.toArray [Value.int .i64 (((partR g nodes).1).1), v70])) rfl (e_extract rfl rfl) ?_
            refine l_val (v := v72) rfl (e_extract rfl rfl) ?_
            refine l_val (v := Value.int .i64 ((partR g nodes).2.2)) rfl (e_extract rfl rfl) ?_
            refine l_op rfl ?_
            refine o_alloc g74 (is 12) (12, 0) rfl tp24_s ?_
            intro g79 w76 b78 ch77 bx80
            replace hbase := hbase.chg ch77 (not_no _)
            replace r_g_v := r_g_v.chg ch77 (not_no _)
            replace r_to_v := r_to_v.chg ch77 (not_no _)
            replace bx5 := bx5.chg ch77 (not_no _)
            replace o_nodes := o_nodes.chg ch77 (not_no _) (not_no _)
            replace o_all := o_all.chg ch77 (not_no _) (not_no _)
            replace o56 := o56.chg ch77 (not_no _) (not_no _)
            replace bx66 := bx66.chg ch77 (not_no _)
            replace o71 := o71.chg ch77 (not_no _) (not_no _)
            replace o73 := o73.chg ch77 (not_no _) (not_no _)
            replace bx80 : Bx g79 (is 12) w76 b78 [Value.int .i64 0, Value.slice none 0 0] := bx80
            refine l_op rfl ?_
            refine o_store_bx (cs' := [Value.int .i64 (((partR g nodes).1).1), v70]) tp24_s rfl rfl bx80 rfl (Nat.le_of_ble_eq_true rfl) (AllOne.all (.cons rfl (.cons (sl_one o71.flat) .nil))) rfl ?_
            intro w81 ch82 bx83
            replace hbase := hbase.chg ch82 (is_ne rfl)
            replace r_g_v := r_g_v.chg ch82 (is_ne rfl)
            replace r_to_v := r_to_v.chg ch82 (is_ne rfl)
            replace bx5 := bx5.chg ch82 (is_ne rfl)
            replace o_nodes := o_nodes.chg ch82 (is_ne rfl) (is_ne rfl)
            replace o_all := o_all.chg ch82 (is_ne rfl) (is_ne rfl)
            replace o56 := o56.chg ch82 (is_ne rfl) (is_ne rfl)
            replace bx66 := bx66.chg ch82 (is_ne rfl)
            replace o71 := o71.chg ch82 (is_ne rfl) (is_ne rfl)
            replace o73 := o73.chg ch82 (is_ne rfl) (is_ne rfl)
            clear bx80
            refine l_val (v := v72) rfl (e_assign rfl) ?_
            refine l_val (v := Value.int .i64 ((partR g nodes).2.2)) rfl (e_assign rfl) ?_
            refine l_nil ?_
            refine run_seq ?_
            refine run_seq ?_
            clear o_nodes
            refine run_region rfl ?_
            refine l_val (v := Value.int .i64 sum) rfl (e_move (by exact zs7)) ?_
            refine l_val (v := Value.pointer (some ⟨b3, 1, none⟩)) rfl (e_fieldAddr Try.underlying24 rfl rfl (by exact zs2) rfl) ?_
            refine l_val (v := g_v) rfl (e_load_bx1 tp22_s rfl bx5 rfl) ?_
            refine l_val (v := Value.int .i64 (List.length g.2 : Int)) rfl (e_len Try.underlying22 rfl r_g_v) ?_
            refine l_val (v := Value.int .i64 (2 * (List.length g.2 : Int))) rfl (e_mul (m := 2) (n := (List.length g.2 : Int)) rfl rfl (by omega)) ?_
            refine l_val (v := Value.bool (!(decide (sum = (2 * (List.length g.2 : Int)))))) rfl (e_neq (m := sum) (n := 2 * (List.length g.2 : Int)) rfl rfl) ?_
            refine l_val (v := Value.bool (!(decide (sum = (2 * (List.length g.2 : Int)))))) rfl (e_move rfl) ?_
            have q112 : sum = (2 * (List.length g.2 : Int)) := by first
  | rfl
  | (rw [hout]; done)
  | (rw [hout, hdg]; done)
  | assumption
  | exact hinv.2.1
  | (rw [hsa]; done)
  | (rw [hpa]; done)
  | (rw [hsa]; exact decide_eq_true rfl)
  | (rw [hpa]; exact decide_eq_true rfl)
  | (rw [hpa, hall]; done)
  | (rw [htb]; done)
            refine l_val (v := Value.int .i64 seen) (want_y rfl rfl rfl (congrArg Bool.not (decide_eq_true q112))) (e_move (by exact zs8)) ?_
            refine l_val (v := Value.int .i64 sum) (want_y rfl rfl rfl (congrArg Bool.not (decide_eq_true q112))) (e_move (by exact zs7)) ?_
            refine l_val (v := Value.bool (!(decide (seen = sum)))) (want_y rfl rfl rfl (congrArg Bool.not (decide_eq_true q112))) (e_neq (m := seen) (n := sum) rfl rfl) ?_
            refine l_val (v := Value.bool (!(decide (seen = sum)))) rfl (e_pick_f rfl (congrArg Bool.not (decide_eq_true q112)) rfl) ?_
            refine l_val (v := Value.bool (!(decide (seen = sum)))) rfl (e_move rfl) ?_
            have q117 : seen = sum := by first
  | rfl
  | (rw [hout]; done)
  | (rw [hout, hdg]; done)
  | assumption
  | exact hinv.2.1
  | (rw [hsa]; done)
  | (rw [hpa]; done)
  | (rw [hsa]; exact decide_eq_true rfl)
  | (rw [hpa]; exact decide_eq_true rfl)
  | (rw [hpa, hall]; done)
  | (rw [htb]; done)
            refine l_val (v := Value.int .i64 ((subR g all).2)) (want_y rfl rfl rfl (congrArg Bool.not (decide_eq_true q117))) (e_move rfl) ?_
            refine l_val (v := Value.bool (!(decide (((subR g all).2) = 0)))) (want_y rfl rfl rfl (congrArg Bool.not (decide_eq_true q117))) (e_neq (m := (subR g all).2) (n := 0) rfl rfl) ?_
            refine l_val (v := Value.bool (!(decide (((subR g all).2) = 0)))) rfl (e_pick_f rfl (congrArg Bool.not (decide_eq_true q117)) rfl) ?_
            refine l_val (v := Value.bool (!(decide (((subR g all).2) = 0)))) rfl (e_move rfl) ?_
            have q121 : ((subR g all).2) = 0 := by first
  | rfl
  | (rw [hout]; done)
  | (rw [hout, hdg]; done)
  | assumption
  | exact hinv.2.1
  | (rw [hsa]; done)
  | (rw [hpa]; done)
  | (rw [hsa]; exact decide_eq_true rfl)
  | (rw [hpa]; exact decide_eq_true rfl)
  | (rw [hpa, hall]; done)
  | (rw [htb]; done)
            refine l_val (v := Value.int .i64 ((partR g nodes).2.2)) (want_y rfl rfl rfl (congrArg Bool.not (decide_eq_true q121))) (e_move rfl) ?_
            refine l_val (v := Value.bool (!(decide (((partR g nodes).2.2) = 0)))) (want_y rfl rfl rfl (congrArg Bool.not (decide_eq_true q121))) (e_neq (m := (partR g nodes).2.2) (n := 0) rfl rfl) ?_
            refine l_val (v := Value.bool (!(decide (((partR g nodes).2.2) = 0)))) rfl (e_pick_f rfl (congrArg Bool.not (decide_eq_true q121)) rfl) ?_
            refine l_val (v := Value.bool (!(decide (((partR g nodes).2.2) = 0)))) rfl (e_move rfl) ?_
            have q125 : ((partR g nodes).2.2) = 0 := by first
  | rfl
  | (rw [hout]; done)
  | (rw [hout, hdg]; done)
  | assumption
  | exact hinv.2.1
  | (rw [hsa]; done)
  | (rw [hpa]; done)
  | (rw [hsa]; exact decide_eq_true rfl)
  | (rw [hpa]; exact decide_eq_true rfl)
  | (rw [hpa, hall]; done)
  | (rw [htb]; done)
            refine l_val (v := Value.agg (List.toArray [Value.int .i64 (((subR g all).1).1), v55])) (want_y rfl rfl rfl (congrArg Bool.not (decide_eq_true q125))) (e_load_bxN (ds := [Value.int .i64 (((subR g all).1).1), v55]) tp24_s rfl bx66 rfl rfl) ?_
            refine l_val (v := Value.agg (List.toArray [Value.int .i64 g.1, g_v])) (want_y rfl rfl rfl (congrArg Bool.not (decide_eq_true q125))) (e_load_bxN (ds := [Value.int .i64 g.1, g_v]) tp24_s (by exact zs2) bx5 rfl rfl) ?_
            refine l_op (want_y rfl rfl rfl (congrArg Bool.not (decide_eq_true q125))) ?_
            refine o_call (v := Value.bool (decide (((subR g all).1) = g))) (e_call (vals := [Value.agg (List.toArray [Value.int .i64 (((subR g all).1).1), v55]), Value.agg (List.toArray [Value.int .i64 g.1, g_v])]) Try.func11 bd11_s nm11_s rfl) (Same_ok w81 ((subR g all).1) v55 (o56.flat).ro g g_v (r_g_v).ro) ?_
            intro w84 hb85
            replace hb85 := chg_below hb85 g79
            replace hbase := hbase.chg hb85 (not_no _)
            replace r_g_v := r_g_v.chg hb85 (not_no _)
            replace r_to_v := r_to_v.chg hb85 (not_no _)
            replace bx5 := bx5.chg hb85 (not_no _)
            replace o_all := o_all.chg hb85 (not_no _) (not_no _)
            replace o56 := o56.chg hb85 (not_no _) (not_no _)
            replace bx66 := bx66.chg hb85 (not_no _)
            replace o71 := o71.chg hb85 (not_no _) (not_no _)
            replace o73 := o73.chg hb85 (not_no _) (not_no _)
            replace bx83 := bx83.chg hb85 (not_no _)
            refine l_val (v := Value.bool (!(decide (((subR g all).1) = g)))) (want_y rfl rfl rfl (congrArg Bool.not (decide_eq_true q125))) (e_not (b := (decide (((subR g all).1) = g))) rfl) ?_
            refine l_val (v := Value.bool (!(decide (((subR g all).1) = g)))) rfl (e_pick_f rfl (congrArg Bool.not (decide_eq_true q125)) rfl) ?_
            refine l_val (v := Value.bool (!(decide (((subR g all).1) = g)))) rfl (e_move rfl) ?_
            have q131 : (decide (((subR g all).1) = g)) = true := by first
  | rfl
  | (rw [hout]; done)
  | (rw [hout, hdg]; done)
  | assumption
  | exact hinv.2.1
  | (rw [hsa]; done)
  | (rw [hpa]; done)
  | (rw [hsa]; exact decide_eq_true rfl)
  | (rw [hpa]; exact decide_eq_true rfl)
  | (rw [hpa, hall]; done)
  | (rw [htb]; done)
            refine l_val (v := Value.agg (List.toArray [Value.int .i64 (((partR g nodes).1).1), v70])) (want_y rfl rfl rfl (congrArg Bool.not q131)) (e_load_bxN (ds := [Value.int .i64 (((partR g nodes).1).1), v70]) tp24_s rfl bx83 rfl rfl) ?_
            refine l_val (v := Value.agg (List.toArray [Value.int .i64 g.1, g_v])) (want_y rfl rfl rfl (congrArg Bool.not q131)) (e_load_bxN (ds := [Value.int .i64 g.1, g_v]) tp24_s (by exact zs2) bx5 rfl rfl) ?_
            refine l_op (want_y rfl rfl rfl (congrArg Bool.not q131)) ?_
            refine o_call (v := Value.bool (decide (((partR g nodes).1) = g))) (e_call (vals := [Value.agg (List.toArray [Value.int .i64 (((partR g nodes).1).1), v70]), Value.agg (List.toArray [Value.int .i64 g.1, g_v])]) Try.func11 bd11_s nm11_s rfl) (Same_ok w84 ((partR g nodes).1) v70 (o71.flat).ro g g_v (r_g_v).ro) ?_
            intro w86 hb87
            replace hb87 := chg_below hb87 g79
            replace hbase := hbase.chg hb87 (not_no _)
            replace r_g_v := r_g_v.chg hb87 (not_no _)
            replace r_to_v := r_to_v.chg hb87 (not_no _)
            replace bx5 := bx5.chg hb87 (not_no _)
            replace o_all := o_all.chg hb87 (not_no _) (not_no _)
            replace o56 := o56.chg hb87 (not_no _) (not_no _)
            replace bx66 := bx66.chg hb87 (not_no _)
            replace o71 := o71.chg hb87 (not_no _) (not_no _)
            replace o73 := o73.chg hb87 (not_no _) (not_no _)
            replace bx83 := bx83.chg hb87 (not_no _)
            refine l_val (v := Value.bool (!(decide (((partR g nodes).1) = g)))) (want_y rfl rfl rfl (congrArg Bool.not q131)) (e_not (b := (decide (((partR g nodes).1) = g))) rfl) ?_
            refine l_val (v := Value.bool (!(decide (((partR g nodes).1) = g)))) rfl (e_pick_f rfl (congrArg Bool.not q131) rfl) ?_
            refine l_val (v := Value.bool (!(decide (((partR g nodes).1) = g)))) rfl (e_move rfl) ?_
            have q137 : (decide (((partR g nodes).1) = g)) = true := by first
  | rfl
  | (rw [hout]; done)
  | (rw [hout, hdg]; done)
  | assumption
  | exact hinv.2.1
  | (rw [hsa]; done)
  | (rw [hpa]; done)
  | (rw [hsa]; exact decide_eq_true rfl)
  | (rw [hpa]; exact decide_eq_true rfl)
  | (rw [hpa, hall]; done)
  | (rw [htb]; done)
            refine l_val (v := v72) (want_y rfl rfl rfl (congrArg Bool.not q137)) (e_move rfl) ?_
            have len88 := (o73.flat).small
            refine l_val (v := Value.int .i64 (List.length ((partR g nodes).2.1) : Int)) (want_y rfl rfl rfl (congrArg Bool.not q137)) (e_len Try.underlying25 rfl o73.flat) ?_
            refine l_val (v := all_v) (want_y rfl rfl rfl (congrArg Bool.not q137)) (e_move (by exact zs9)) ?_
            have len89 := (o_all.flat).small
            refine l_val (v := Value.int .i64 (List.length all : Int)) (want_y rfl rfl rfl (congrArg Bool.not q137)) (e_len Try.underlying25 rfl o_all.flat) ?_
            refine l_val (v := Value.bool (!(decide ((List.length ((partR g nodes).2.1) : Int) = (List.length all : Int))))) (want_y rfl rfl rfl (congrArg Bool.not q137)) (e_neq (m := (List.length ((partR g nodes).2.1) : Int)) (n := (List.length all : Int)) rfl rfl) ?_
            refine l_val (v := Value.bool (!(decide ((List.length ((partR g nodes).2.1) : Int) = (List.length all : Int))))) rfl (e_pick_f rfl (congrArg Bool.not q137) rfl) ?_
            refine l_nil ?_
            have p23 : (List.length ((partR g nodes).2.1) : Int) = (List.length all : Int) := by first
  | rfl
  | (rw [hout]; done)
  | (rw [hout, hdg]; done)
  | assumption
  | exact hinv.2.1
  | (rw [hsa]; done)
  | (rw [hpa]; done)
  | (rw [hsa]; exact decide_eq_true rfl)
  | (rw [hpa]; exact decide_eq_true rfl)
  | (rw [hpa, hall]; done)
  | (rw [htb]; done)
            refine run_cond_f rfl (congrArg Bool.not (decide_eq_true p23)) ?_
            refine run_skip ?_
            refine run_seq ?_
            clear o_all
            clear o56
            clear bx66
            clear o71
            clear o73
            clear bx83
            refine run_region rfl ?_
            refine l_val (v := Value.agg (List.toArray [Value.int .i64 g.1, g_v])) rfl (e_load_bxN (ds := [Value.int .i64 g.1, g_v]) tp24_s (by exact zs2) bx5 rfl rfl) ?_
            refine l_val (v := to_v) rfl (e_move (by exact zs1)) ?_
            refine l_op rfl ?_
            refine o_callx (e_call (vals := [Value.agg (List.toArray [Value.int .i64 g.1, g_v]), to_v]) Try.func18 bd18_s nm18_s rfl) (Moved_ok w86 g g_v (r_g_v).ro to to_v (r_to_v).ro) ?_
            rintro ⟨d91, v93⟩ w90 ⟨fr92, o94⟩
            obtain ⟨g95, hg95⟩ : ∃ q, q = glue w86.heap.size g79 d91 (fun n => if n = 1 then 13 else 0) := ⟨_, rfl⟩
            have ch96 := chg_glue fr92.below g79 d91 (fun n => if n = 1 then 13 else 0)
            rw [← hg95] at ch96
            replace hbase := hbase.chg ch96 (not_no _)
            replace r_g_v := r_g_v.chg ch96 (not_no _)
            replace r_to_v := r_to_v.chg ch96 (not_no _)
            replace bx5 := bx5.chg ch96 (not_no _)
            replace o94 := o94.glue (γ := g79) (ren := (fun n => if n = 1 then 13 else 0)) (k := 13) fr92.col rfl rfl
            rw [← hg95] at o94
            clear hg95
            refine l_val (v := Value.tuple (List.toArray [Value.agg (List.toArray [Value.int .i64 (((movedR g to).1).1), v93]), Value.int .i64 ((movedR g to).2)])) rfl (e_move rfl) ?_
            refine l_val (v := Value.agg (List.toArray [Value.int .i64 (((movedR g to).1).1), v93])) rfl (e_extract rfl rfl) ?_
            refine l_val (v := Value.int .i64 ((movedR g to).2)) rfl (e_extract rfl rfl) ?_
            refine l_op rfl ?_
            refine o_alloc g95 (is 14) (14, 0) rfl tp24_s ?_
            intro g100 w97 b99 ch98 bx101
            replace hbase := hbase.chg ch98 (not_no _)
            replace r_g_v := r_g_v.chg ch98 (not_no _)
            replace r_to_v := r_to_v.chg ch98 (not_no _)
            replace bx5 := bx5.chg ch98 (not_no _)
            replace o94 := o94.chg ch98 (not_no _) (not_no _)
            replace bx101 : Bx g100 (is 14) w97 b99 [Value.int .i64 0, Value.slice none 0 0] := bx101
            refine l_op rfl ?_
            refine o_store_bx (cs' := [Value.int .i64 (((movedR g to).1).1), v93]) tp24_s rfl rfl bx101 rfl (Nat.le_of_ble_eq_true rfl) (AllOne.all (.cons rfl (.cons (sl_one o94.flat) .nil))) rfl ?_
            intro w102 ch103 bx104
            replace hbase := hbase.chg ch103 (is_ne rfl)
            replace r_g_v := r_g_v.chg ch103 (is_ne rfl)
            replace r_to_v := r_to_v.chg ch103 (is_ne rfl)
            replace bx5 := bx5.chg ch103 (is_ne rfl)
            replace o94 := o94.chg ch103 (is_ne rfl) (is_ne rfl)
            clear bx101
            refine l_val (v := Value.int .i64 ((movedR g to).2)) rfl (e_assign rfl) ?_
            refine l_nil ?_
            refine run_seq ?_
            refine run_seq ?_
            refine run_region rfl ?_
            refine l_val (v := Value.int .i64 ((movedR g to).2)) rfl (e_move rfl) ?_
            refine l_val (v := Value.bool (!(decide (((movedR g to).2) = 0)))) rfl (e_neq (m := (movedR g to).2) (n := 0) rfl rfl) ?_
            refine l_nil ?_
            by_cases p26 : ((movedR g to).2) = 0
            · skip
              obtain ⟨_, hml, hmc, hme⟩ := movedR_ok p26
              obtain ⟨hmr, hmn⟩ := chosenS_ok hmc
              refine run_cond_f rfl (congrArg Bool.not (decide_eq_true p26)) ?_
              refine run_skip ?_
              refine run_seq ?_
              refine run_region rfl ?_
              refine l_val (v := Value.pointer (some ⟨b3, 0, none⟩)) rfl (e_fieldAddr Try.underlying24 rfl rfl (by exact zs2) rfl) ?_
              refine l_val (v := Value.int .i64 g.1) rfl (e_load_bx1 tp3_s rfl bx5 rfl) ?_
              refine l_op rfl ?_
              refine o_make (α := Int) (l := g.1) (cp := g.1) g100 (is 15) (is 15) (15, 0) rfl (0 : Int) Try.underlying25 tp3_s rfl rfl rfl (by omega) (by omega) (by omega) (by omega) ?_
              intro g105 w106 v107 ch108 o109 _
              replace hbase := hbase.chg ch108 (not_no _)
              replace r_g_v := r_g_v.chg ch108 (not_no _)
              replace r_to_v := r_to_v.chg ch108 (not_no _)
              replace bx5 := bx5.chg ch108 (not_no _)
              replace o94 := o94.chg ch108 (not_no _) (not_no _)
              replace bx104 := bx104.chg ch108 (not_no _)
              refine l_val (v := v107) rfl (e_assign rfl) ?_
              refine l_nil ?_
              refine run_seq ?_
              refine run_seq ?_
              refine run_region rfl ?_
              refine l_val (v := Value.int .i64 0) rfl (e_assign rfl) ?_
              refine l_nil ?_
              refine run_block ?_
              refine run_loop (σ := Nat × (List Int) × Cmap) (fun ⟨j, back, gq⟩ f w => Base w0 gq w ∧ f 1 = to_v ∧ f 2 = Value.pointer (some ⟨b3, 0, none⟩) ∧ f 20 = Value.pointer (some ⟨b99, 0, none⟩) ∧ f 21 = v107 ∧ f 22 = Value.int .i64 (j : Int) ∧ Sl gq (is 0) w g_v g.2 ∧ Sl gq (is 0) w to_v to ∧ Bx gq (is 1) w b3 [Value.int .i64 g.1, g_v] ∧ Ow gq (is 13) (is 13) w v93 (((movedR g to).1).2) ∧ Bx gq (is 14) w b99 [Value.int .i64 (((movedR g to).1).1), v93] ∧ Ow gq (is 15) (is 15) w v107 back ∧ (j : Int) ≤ (g.1 : Int) ∧ (BackInv back to g.1 j ∧ (j : Int) ≤ g.1)) (fun ⟨j, back, gq⟩ => Int.toNat ((g.1 : Int) - (j : Int))) (0, (List.replicate (Int.toNat g.1) (0 : Int)), g105) ?_ ?_
              · exact ⟨hbase, (by exact zs1), (by exact zs2), rfl, rfl, rfl, r_g_v, r_to_v, bx5, o94, bx104, o109, by omega, by exact ⟨BackInv.start hm1, by omega⟩⟩
              clear r_g_v
              clear r_to_v
              clear bx5
              clear o94
              clear bx104
              clear o109
              clear hbase
              rintro ⟨j, back, g112⟩ f110 w111 ⟨hbase, zs1, zs2, zs20, zs21, zs22, r_g_v, r_to_v, bx5, o94, bx104, o109, hle_j, hinv2⟩ back30
              have hbl := hinv2.1.len
              have hj4 := hinv2.2
              refine run_seq ?_
              refine run_seq ?_
              refine run_region rfl ?_
              refine l_val (v := Value.int .i64 (j : Int)) rfl (e_move (by exact zs22)) ?_
              refine l_val (v := Value.pointer (some ⟨b3, 0, none⟩)) rfl (e_fieldAddr Try.underlying24 rfl rfl (by exact zs2) rfl) ?_
              refine l_val (v := Value.int .i64 g.1) rfl (e_load_bx1 tp3_s rfl bx5 rfl) ?_
              refine l_val (v := Value.bool (decide ((j : Int) < g.1))) rfl (e_lss (m := (j : Int)) (n := g.1) rfl rfl) ?_
              refine l_nil ?_
              by_cases p30 : (j : Int) < g.1
              · skip
                refine run_cond_t rfl (decide_eq_true p30) ?_
                have hmi := hmr _ (gI_mem (xs := to) (i := (j : Int)) (by omega) (by omega))
                refine run_skip ?_
                refine run_seq ?_
                refine run_block ?_
                refine run_region rfl ?_
                refine l_val (v := v107) rfl (e_move (by exact zs21)) ?_
                refine l_val (v := to_v) rfl (e_move (by exact zs1)) ?_
                refine l_val (v := Value.int .i64 (j : Int)) rfl (e_move (by exact zs22)) ?_
                refine l_val (v := Value.pointer (some (eAddr to_v 1 (Int.toNat (j : Int))))) rfl (e_indexAddr (α := Int) (xs := to) (v := to_v) (i := (j : Int)) Try.underlying25 rfl rfl r_to_v rfl (by omega) (by omega)) ?_
                refine l_val (v := Value.int .i64 (gI to (j : Int))) rfl (e_load_el1 (α := Int) (xs := to) (v := to_v) (i := (j : Int)) tp3_s rfl r_to_v (by omega) (by omega) (by decide) rfl) ?_
                refine l_val (v := Value.int .i64 (j : Int)) rfl (e_move (by exact zs22)) ?_
                refine l_val (v := Value.pointer (some (eAddr v107 1 (Int.toNat (gI to (j : Int)))))) rfl (e_indexAddr (α := Int) (xs := back) (v := v107) (i := (gI to (j : Int))) Try.underlying25 rfl rfl o109.flat rfl (by omega) (by omega)) ?_
                refine l_op rfl ?_
                refine o_store_el (i := (gI to (j : Int))) (j : Int) tp3_s rfl rfl o109 (by omega) (by omega) rfl ?_
                intro w113 ch114 bx115
                replace hbase := hbase.chg ch114 (is_ne rfl)
                replace r_g_v := r_g_v.chg ch114 (is_ne rfl)
                replace r_to_v := r_to_v.chg ch114 (is_ne rfl)
                replace bx5 := bx5.chg ch114 (is_ne rfl)
                replace o94 := o94.chg ch114 (is_ne rfl) (is_ne rfl)
                replace bx104 := bx104.chg ch114 (is_ne rfl)
                clear o109
                refine l_nil ?_
                refine run_inBlock ?_
                refine run_region rfl ?_
                refine l_val (v := Value.int .i64 (j : Int)) rfl (e_move (by exact zs22)) ?_
                refine l_val (v := Value.int .i64 ((j : Int) + 1)) rfl (e_add (m := (j : Int)) (n := 1) rfl rfl (by omega)) ?_
                refine l_val (v := Value.int .i64 ((j : Int) + 1)) rfl (e_assign rfl) ?_
                refine l_nil ?_
                refine back30 (j + 1, (List.set back (Int.toNat (gI to (j : Int))) (j : Int)), g112) _ _ ⟨hbase, (by exact zs1), (by exact zs2), (by exact zs20), (by exact zs21), rfl, r_g_v, r_to_v, bx5, o94, bx104, bx115, by omega, ?_⟩ ?_
                · show BackInv (List.set back (Int.toNat (gI to (j : Int))) (j : Int)) to g.1 (j + 1) ∧ ((j + 1) : Int) ≤ g.1
                  exact ⟨hinv2.1.next hmn hmr (by omega), by omega⟩
                · show Int.toNat ((g.1 : Int) - ((j + 1) : Int)) < Int.toNat ((g.1 : Int) - (j : Int))
                  omega
              · skip
                have htb := there_and_back p26 (k := j) (by omega) hinv2.1
                refine run_cond_f rfl (decide_eq_false p30) ?_
                refine run_exit rfl ?_
                refine run_seq ?_
                refine run_region rfl ?_
                refine l_val (v := Value.agg (List.toArray [Value.int .i64 (((movedR g to).1).1), v93])) rfl (e_load_bxN (ds := [Value.int .i64 (((movedR g to).1).1), v93]) tp24_s (by exact zs20) bx104 rfl rfl) ?_
                refine l_val (v := v107) rfl (e_move (by exact zs21)) ?_
                refine l_op rfl ?_
                refine o_callx (e_call (vals := [Value.agg (List.toArray [Value.int .i64 (((movedR g to).1).1), v93]), v107]) Try.func18 bd18_s nm18_s rfl) (Moved_ok w111 ((movedR g to).1) v93 (o94.flat).ro back v107 (o109.flat).ro) ?_
                rintro ⟨d117, v119⟩ w116 ⟨fr118, o120⟩
                obtain ⟨g121, hg121⟩ : ∃ q, q = glue w111.heap.size g112 d117 (fun n => if n = 1 then 16 else 0) := ⟨_, rfl⟩
                have ch122 := chg_glue fr118.below g112 d117 (fun n => if n = 1 then 16 else 0)
                rw [← hg121] at ch122
                replace hbase := hbase.chg ch122 (not_no _)
                replace r_g_v := r_g_v.chg ch122 (not_no _)
                replace r_to_v := r_to_v.chg ch122 (not_no _)
                replace bx5 := bx5.chg ch122 (not_no _)
                replace o94 := o94.chg ch122 (not_no _) (not_no _)
                replace bx104 := bx104.chg ch122 (not_no _)
                replace o109 := o109.chg ch122 (not_no _) (not_no _)
                replace o120 := o120.glue (γ := g112) (ren := (fun n => if n = 1 then 16 else 0)) (k := 16) fr118.col rfl rfl
                rw [← hg121] at o120
                clear hg121
                refine l_val (v := Value.tuple (List.toArray [Value.agg (List.toArray [Value.int .i64 (((movedR ((movedR g to).1) back).1).1), v119]), Value.int .i64 ((movedR ((movedR g to).1) back).2)])) rfl (e_move rfl) ?_
                refine l_val (v := Value.agg (List.toArray [Value.int .i64 (((movedR ((movedR g to).1) back).1).1), v119])) rfl (e_extract rfl rfl) ?_
                refine l_val (v := Value.int .i64 ((movedR ((movedR g to).1) back).2)) rfl (e_extract rfl rfl) ?_
                refine l_op rfl ?_
                refine o_alloc g121 (is 17) (17, 0) rfl tp24_s ?_
                intro g126 w123 b125 ch124 bx127
                replace hbase := hbase.chg ch124 (not_no _)
                replace r_g_v := r_g_v.chg ch124 (not_no _)
                replace r_to_v := r_to_v.chg ch124 (not_no _)
                replace bx5 := bx5.chg ch124 (not_no _)
                replace o94 := o94.chg ch124 (not_no _) (not_no _)
                replace bx104 := bx104.chg ch124 (not_no _)
                replace o109 := o109.chg ch124 (not_no _) (not_no _)
                replace o120 := o120.chg ch124 (not_no _) (not_no _)
                replace bx127 : Bx g126 (is 17) w123 b125 [Value.int .i64 0, Value.slice none 0 0] := bx127
                refine l_op rfl ?_
                refine o_store_bx (cs' := [Value.int .i64 (((movedR ((movedR g to).1) back).1).1), v119]) tp24_s rfl rfl bx127 rfl (Nat.le_of_ble_eq_true rfl) (AllOne.all (.cons rfl (.cons (sl_one o120.flat) .nil))) rfl ?_
                intro w128 ch129 bx130
                replace hbase := hbase.chg ch129 (is_ne rfl)
                replace r_g_v := r_g_v.chg ch129 (is_ne rfl)
                replace r_to_v := r_to_v.chg ch129 (is_ne rfl)
                replace bx5 := bx5.chg ch129 (is_ne rfl)
                replace o94 := o94.chg ch129 (is_ne rfl) (is_ne rfl)
                replace bx104 := bx104.chg ch129 (is_ne rfl)
                replace o109 := o109.chg ch129 (is_ne rfl) (is_ne rfl)
                replace o120 := o120.chg ch129 (is_ne rfl) (is_ne rfl)
                clear bx127
                refine l_val (v := Value.int .i64 ((movedR ((movedR g to).1) back).2)) rfl (e_assign rfl) ?_
                refine l_nil ?_
                refine run_seq ?_
                clear o94
                clear bx104
                clear o109
                refine run_region rfl ?_
                refine l_val (v := Value.int .i64 ((movedR ((movedR g to).1) back).2)) rfl (e_move rfl) ?_
                refine l_val (v := Value.bool (decide (((movedR ((movedR g to).1) back).2) = 0))) rfl (e_eql (m := (movedR ((movedR g to).1) back).2) (n := 0) rfl rfl) ?_
                refine l_val (v := Value.bool (decide (((movedR ((movedR g to).1) back).2) = 0))) rfl (e_move rfl) ?_
                have q176 : ((movedR ((movedR g to).1) back).2) = 0 := by first
  | rfl
  | (rw [hout]; done)
  | (rw [hout, hdg]; done)
  | assumption
  | exact hinv.2.1
  | (rw [hsa]; done)
  | (rw [hpa]; done)
  | (rw [hsa]; exact decide_eq_true rfl)
  | (rw [hpa]; exact decide_eq_true rfl)
  | (rw [hpa, hall]; done)
  | (rw [htb]; done)
                refine l_val (v := Value.agg (List.toArray [Value.int .i64 (((movedR ((movedR g to).1) back).1).1), v119])) (want_y rfl rfl rfl (decide_eq_true q176)) (e_load_bxN (ds := [Value.int .i64 (((movedR ((movedR g to).1) back).1).1), v119]) tp24_s rfl bx130 rfl rfl) ?_
                refine l_val (v := Value.agg (List.toArray [Value.int .i64 g.1, g_v])) (want_y rfl rfl rfl (decide_eq_true q176)) (e_load_bxN (ds := [Value.int .i64 g.1, g_v]) tp24_s (by exact zs2) bx5 rfl rfl) ?_
                refine l_op (want_y rfl rfl rfl (decide_eq_true q176)) ?_
                refine o_call (v := Value.bool (decide (((movedR ((movedR g to).1) back).1) = g))) (e_call (vals := [Value.agg (List.toArray [Value.int .i64 (((movedR ((movedR g to).1) back).1).1), v119]), Value.agg (List.toArray [Value.int .i64 g.1, g_v])]) Try.func11 bd11_s nm11_s rfl) (Same_ok w128 ((movedR ((movedR g to).1) back).1) v119 (o120.flat).ro g g_v (r_g_v).ro) ?_
                intro w131 hb132
                replace hb132 := chg_below hb132 g126
                replace hbase := hbase.chg hb132 (not_no _)
                replace r_g_v := r_g_v.chg hb132 (not_no _)
                replace r_to_v := r_to_v.chg hb132 (not_no _)
                replace bx5 := bx5.chg hb132 (not_no _)
                replace o120 := o120.chg hb132 (not_no _) (not_no _)
                replace bx130 := bx130.chg hb132 (not_no _)
                refine l_val (v := Value.bool (decide (((movedR ((movedR g to).1) back).1) = g))) rfl (e_pick_t rfl (decide_eq_true q176) rfl) ?_
                refine l_val (v := Value.bool (decide (((movedR ((movedR g to).1) back).1) = g))) rfl (e_assign rfl) ?_
                refine l_nil ?_
                refine run_ret (vs := [Value.bool (decide (((movedR ((movedR g to).1) back).1) = g))]) Try.func5 (.tmp rfl .nil) ?_
                -- return 2
                have e0 : ((decide (((movedR ((movedR g to).1) back).1) = g)) : Bool) = (true) := by
                  first
                    | rfl
                    | (rw [htb]; exact decide_eq_true rfl)
                exact ⟨(congrArg (fun (z0 : Bool) => Ending.returned (Value.bool z0)) e0), hbase.below⟩
            · skip
              refine run_cond_t rfl (congrArg Bool.not (decide_eq_false p26)) ?_
              refine run_seq ?_
              clear bx5
              clear o94
              clear bx104
              refine run_region rfl ?_
              refine l_val (v := Value.bool true) rfl (e_assign rfl) ?_
              refine l_nil ?_
              refine run_ret (vs := [Value.bool true]) Try.func5 (.tmp rfl .nil) ?_
              -- return 3
              have e0 : (true : Bool) = (true) := by
                first
                  | rfl
                  | (rw [htb]; exact decide_eq_true rfl)
              exact ⟨(congrArg (fun (z0 : Bool) => Ending.returned (Value.bool z0)) e0), hbase.below⟩
  · skip
    refine l_skip (want_n rfl rfl rfl (congrArg Bool.not (Bool.eq_false_iff.2 q29))) ?_
    refine l_skip (want_n rfl rfl rfl (congrArg Bool.not (Bool.eq_false_iff.2 q29))) ?_
    refine l_skip (want_n rfl rfl rfl (congrArg Bool.not (Bool.eq_false_iff.2 q29))) ?_
    refine l_val (v := Value.bool true) rfl (e_pick_t rfl (congrArg Bool.not (Bool.eq_false_iff.2 q29)) rfl) ?_
    refine l_val (v := Value.bool true) rfl (e_move rfl) ?_
    refine l_skip (want_n rfl rfl rfl rfl) ?_
    refine l_skip (want_n rfl rfl rfl rfl) ?_
    refine l_skip (want_n rfl rfl rfl rfl) ?_
    refine l_skip (want_n rfl rfl rfl rfl) ?_
    refine l_val (v := Value.bool true) rfl (e_pick_t rfl rfl rfl) ?_
    refine l_nil ?_
    refine run_cond_t rfl rfl ?_
    refine run_seq ?_
    clear bx5
    refine run_region rfl ?_
    refine l_val (v := Value.bool true) rfl (e_assign rfl) ?_
    refine l_nil ?_
    refine run_ret (vs := [Value.bool true]) Try.func5 (.tmp rfl .nil) ?_
    -- return 4
    have e0 : (true : Bool) = (true) := by
      first
        | rfl
        | (rw [htb]; exact decide_eq_true rfl)
    exact ⟨(congrArg (fun (z0 : Bool) => Ending.returned (Value.bool z0)) e0), hbase.below⟩
end TL
