import Derived.Test.YtklfjhklnlpdgaaTlGenA
import Derived.Test.YtklfjhklnlpdgaaProg
import Derived.Test.YtklfjhklnlpdgaaTlNet2
import Derived.Test.YtklfjhklnlpdgaaTlMark
import Derived.Test.YtklfjhklnlpdgaaTlDraw
import Derived.Test.YtklfjhklnlpdgaaTlMap
set_option linter.all false
set_option maxRecDepth 20000
namespace TL
open Go Go.Proofs
theorem mixed_b : Try.prog.follows .mixedOrders = true := by kernel_rfl
theorem tp3_b : Tp Try.prog 3 false 1 8 (.int .i64 0) := Tp.of (by kernel_rfl)
theorem tp4_b : Tp Try.prog 4 false 1 1 (.bool false) := Tp.of (by kernel_rfl)
theorem tp22_b : Tp Try.prog 22 false 1 24 (.slice none 0 0) := Tp.of (by kernel_rfl)
theorem tp24_b : Tp Try.prog 24 true 2 32 (.agg #[.int .i64 0, .slice none 0 0]) := Tp.of (by kernel_rfl)
theorem tp48_b : Tp Try.prog 48 true 5 40 (.agg #[.int .i64 0, .int .i64 0, .int .i64 0, .int .i64 0, .bool false]) := Tp.of (by kernel_rfl)
theorem tp60_b : Tp Try.prog 60 true 2 16 (.agg #[.int .i64 0, .int .i64 0]) := Tp.of (by kernel_rfl)
theorem bd11_b : Try.f11.body.isNone = false := rfl
theorem nm11_b : (Try.f11.name == "runtime.NumGoroutine") = false := by decide +kernel
theorem bd13_b : Try.f13.body.isNone = false := rfl
theorem nm13_b : (Try.f13.name == "runtime.NumGoroutine") = false := by decide +kernel
theorem bd23_b : Try.f23.body.isNone = false := rfl
theorem nm23_b : (Try.f23.name == "runtime.NumGoroutine") = false := by decide +kernel
theorem bd25_b : Try.f25.body.isNone = false := rfl
theorem nm25_b : (Try.f25.name == "runtime.NumGoroutine") = false := by decide +kernel
theorem bd29_b : Try.f29.body.isNone = false := rfl
theorem nm29_b : (Try.f29.name == "runtime.NumGoroutine") = false := by decide +kernel
theorem bd34_b : Try.f34.body.isNone = false := rfl
theorem nm34_b : (Try.f34.name == "runtime.NumGoroutine") = false := by decide +kernel
theorem bd38_b : Try.f38.body.isNone = false := rfl
theorem nm38_b : (Try.f38.name == "runtime.NumGoroutine") = false := by decide +kernel
theorem bd42_b : Try.f42.body.isNone = false := rfl
theorem nm42_b : (Try.f42.name == "runtime.NumGoroutine") = false := by decide +kernel
theorem bd43_b : Try.f43.body.isNone = false := rfl
theorem nm43_b : (Try.f43.name == "runtime.NumGoroutine") = false := by decide +kernel
theorem bd44_b : Try.f44.body.isNone = false := rfl
theorem nm44_b : (Try.f44.name == "runtime.NumGoroutine") = false := by decide +kernel
theorem bd45_b : Try.f45.body.isNone = false := rfl
theorem nm45_b : (Try.f45.name == "runtime.NumGoroutine") = false := by decide +kernel

theorem Out_ok (w0 : World) (g : (Int) × (List ((Int) × (Int)))) (g_v : Value) (hg_v : Ro w0 g_v g.2) (v : Int) :
    Calls Try.prog 25 #[Value.agg (List.toArray [Value.int .i64 g.1, g_v]), Value.int .i64 v] w0 (fun ee w => ∃ xx : Cmap × Value, ee = .returned ((fun ⟨δ, rv0⟩ => Value.tuple (List.toArray [rv0, Value.int .i64 ((outR g v).2)])) xx) ∧ (fun (⟨δ, rv0⟩ : Cmap × Value) (w : World) => Fresh w0 δ w ∧ Ow δ (is 1) (is 1) w rv0 ((outR g v).1)) xx w) := by
  refine calls_of_run Try.func25 rfl (Nat.le_of_ble_eq_true rfl) ?_
  have hbase := Base.start w0
  have r_g_v := hg_v.sl
  refine run_seq ?_
  refine run_region rfl ?_
  refine l_op rfl ?_
  refine o_box c0 (is 1) (1, 0) rfl rfl ?_
  intro g4 w1 b3 ch2 bx5
  replace hbase := hbase.chg ch2 (not_no _)
  replace r_g_v := r_g_v.chg ch2 (not_no _)
  replace bx5 : Bx g4 (is 1) w1 b3 [Value.int .i64 g.1, g_v] := bx5
  refine l_val (v := Value.slice none 0 0) rfl (e_assign rfl) ?_
  refine l_val (v := Value.int .i64 0) rfl (e_assign rfl) ?_
  refine l_nil ?_
  refine run_seq ?_
  refine run_block ?_
  refine run_seq ?_
  refine run_region rfl ?_
  refine l_val (v := Value.agg (List.toArray [Value.int .i64 g.1, g_v])) rfl (e_load_bxN (ds := [Value.int .i64 g.1, g_v]) tp24_b rfl bx5 rfl rfl) ?_
  refine l_op rfl ?_
  refine o_call (v := Value.bool (mayB g)) (e_call (vals := [Value.agg (List.toArray [Value.int .i64 g.1, g_v])]) Try.func23 bd23_b nm23_b rfl) (May_ok w1 g g_v (r_g_v).ro) ?_
  intro w6 hb7
  replace hb7 := chg_below hb7 g4
  replace hbase := hbase.chg hb7 (not_no _)
  replace r_g_v := r_g_v.chg hb7 (not_no _)
  replace bx5 := bx5.chg hb7 (not_no _)
  refine l_val (v := Value.bool (!(mayB g))) rfl (e_not (b := (mayB g)) rfl) ?_
  refine l_val (v := Value.bool (!(mayB g))) rfl (e_assign rfl) ?_
  refine l_nil ?_
  by_cases p1 : (mayB g) = true
  · skip
    obtain ⟨hm1, hm2, hm3, hm4⟩ := of_decide_eq_true p1
    refine run_cond_f rfl (congrArg Bool.not p1) ?_
    refine run_seq ?_
    refine run_region rfl ?_
    refine l_val (v := Value.agg (List.toArray [Value.int .i64 g.1, g_v])) rfl (e_load_bxN (ds := [Value.int .i64 g.1, g_v]) tp24_b rfl bx5 rfl rfl) ?_
    refine l_val (v := Value.int .i64 v) rfl (e_move rfl) ?_
    refine l_op rfl ?_
    refine o_call (v := Value.bool (decide (0 ≤ v ∧ v < g.1))) (e_call (vals := [Value.agg (List.toArray [Value.int .i64 g.1, g_v]), Value.int .i64 v]) Try.func38 bd38_b nm38_b rfl) (there_ok w6 g g_v (r_g_v).ro v) ?_
    intro w8 hb9
    replace hb9 := chg_below hb9 g4
    replace hbase := hbase.chg hb9 (not_no _)
    replace r_g_v := r_g_v.chg hb9 (not_no _)
    replace bx5 := bx5.chg hb9 (not_no _)
    refine l_val (v := Value.bool (!(decide (0 ≤ v ∧ v < g.1)))) rfl (e_not (b := (decide (0 ≤ v ∧ v < g.1))) rfl) ?_
    refine l_val (v := Value.bool (!(decide (0 ≤ v ∧ v < g.1)))) rfl (e_assign rfl) ?_
    refine l_nil ?_
    by_cases p3 : (decide (0 ≤ v ∧ v < g.1)) = true
    · skip
      refine run_cond_f rfl (congrArg Bool.not p3) ?_
      refine run_skip ?_
      refine run_inBlock ?_
      refine run_seq ?_
      refine run_region rfl ?_
      refine l_val (v := Value.slice none 0 0) rfl (e_assign rfl) ?_
      refine l_nil ?_
      refine run_seq ?_
      refine run_seq ?_
      refine run_region rfl ?_
      refine l_val (v := Value.pointer (some ⟨b3, 1, none⟩)) rfl (e_fieldAddr Try.underlying24 rfl rfl rfl rfl) ?_
      refine l_val (v := g_v) rfl (e_load_bx1 tp22_b rfl bx5 rfl) ?_
      have len10 := (r_g_v).small
      refine l_val (v := Value.int .i64 (List.length g.2 : Int)) rfl (e_len Try.underlying22 rfl r_g_v) ?_
      refine l_val (v := Value.int .i64 0) rfl (e_move rfl) ?_
      refine l_nil ?_
      refine run_block ?_
      clear bx5
      refine run_loop (σ := Value × (List Int) × Nat × Cmap) (fun ⟨l_v, l, k, gq⟩ f w => Base w0 gq w ∧ f 1 = Value.int .i64 v ∧ f 6 = l_v ∧ f 21 = g_v ∧ f 22 = Value.int .i64 (List.length g.2 : Int) ∧ f 23 = Value.int .i64 (k : Int) ∧ Sl gq (is 0) w g_v g.2 ∧ Ow gq (is 4) (is 4) w l_v l ∧ (k : Int) ≤ ((List.length g.2 : Int) : Int) ∧ (l = outSk g v k)) (fun ⟨l_v, l, k, gq⟩ => Int.toNat (((List.length g.2 : Int) : Int) - (k : Int))) (Value.slice none 0 0, [], 0, g4) ?_ ?_
      · exact ⟨hbase, rfl, rfl, rfl, rfl, rfl, r_g_v, Ow.nil, by omega, by rfl⟩
      clear r_g_v
      clear hbase
      rintro ⟨l_v, l, k, g13⟩ f11 w12 ⟨hbase, zs1, zs6, zs21, zs22, zs23, r_g_v, o_l, hle_k, hinv⟩ back7
      have hlo : l.length ≤ 2 * k := by rw [hinv]; exact outSk_len g v k
      refine run_seq ?_
      refine run_region rfl ?_
      refine l_val (v := Value.bool (decide ((k : Int) < (List.length g.2 : Int)))) rfl (e_lss (m := (k : Int)) (n := (List.length g.2 : Int)) (by exact zs23) (by exact zs22)) ?_
      refine l_nil ?_
      refine run_seq ?_
      by_cases p7 : (k : Int) < (List.length g.2 : Int)
      · skip
        refine run_cond_t rfl (decide_eq_true p7) ?_
        refine run_skip ?_
        refine run_seq ?_
        refine run_block ?_
        refine run_seq ?_
        refine run_region rfl ?_
        refine l_val (v := Value.int .i64 (k : Int)) rfl (e_move (by exact zs23)) ?_
        refine l_val (v := Value.pointer (some (eAddr g_v 2 (Int.toNat (k : Int))))) rfl (e_indexAddr (α := (Int) × (Int)) (xs := g.2) (v := g_v) (i := (k : Int)) Try.underlying22 rfl (by exact zs21) r_g_v (by exact zs23) (by omega) (by omega)) ?_
        refine l_val (v := Value.agg (List.toArray [Value.int .i64 ((gI g.2 (k : Int)).1), Value.int .i64 ((gI g.2 (k : Int)).2)])) rfl (e_load_elN (α := (Int) × (Int)) (xs := g.2) (v := g_v) (i := (k : Int)) tp60_b rfl r_g_v (by omega) (by omega) rfl) ?_
        refine l_op rfl ?_
        refine o_alloc g13 (is 2) (2, 0) rfl tp60_b ?_
        intro g17 w14 b16 ch15 bx18
        replace hbase := hbase.chg ch15 (not_no _)
        replace r_g_v := r_g_v.chg ch15 (not_no _)
        replace o_l := o_l.chg ch15 (not_no _) (not_no _)
        replace bx18 : Bx g17 (is 2) w14 b16 [Value.int .i64 0, Value.int .i64 0] := bx18
        refine l_val (v := Value.int .i64 (k : Int)) rfl (e_assign rfl) ?_
        refine l_op rfl ?_
        refine o_store_bx (cs' := [Value.int .i64 ((gI g.2 (k : Int)).1), Value.int .i64 ((gI g.2 (k : Int)).2)]) tp60_b rfl rfl bx18 rfl (Nat.le_of_ble_eq_true rfl) (AllOne.all (.cons rfl (.cons rfl .nil))) rfl ?_
        intro w19 ch20 bx21
        replace hbase := hbase.chg ch20 (is_ne rfl)
        replace r_g_v := r_g_v.chg ch20 (is_ne rfl)
        replace o_l := o_l.chg ch20 (is_ne rfl) (is_ne rfl)
        clear bx18
        refine l_nil ?_
        refine run_seq ?_
        refine run_region rfl ?_
        refine l_val (v := Value.agg (List.toArray [Value.int .i64 ((gI g.2 (k : Int)).1), Value.int .i64 ((gI g.2 (k : Int)).2)])) rfl (e_load_bxN (ds := [Value.int .i64 ((gI g.2 (k : Int)).1), Value.int .i64 ((gI g.2 (k : Int)).2)]) tp60_b rfl bx21 rfl rfl) ?_
        refine l_val (v := Value.int .i64 0) rfl (e_move rfl) ?_
        refine l_nil ?_
        refine run_block ?_
        refine run_loop0 ?_
        refine run_seq ?_
        clear bx21
        refine run_region rfl ?_
        refine l_val (v := Value.bool true) rfl (e_lss (m := 0) (n := 2) rfl rfl) ?_
        refine l_nil ?_
        refine run_seq ?_
        refine run_cond_t rfl rfl ?_
        refine run_skip ?_
        refine run_seq ?_
        refine run_block ?_
        refine run_seq ?_
        refine run_region rfl ?_
        refine l_val (v := Value.int .i64 0) rfl (e_move rfl) ?_
        refine l_val (v := Value.int .i64 ((gI g.2 (k : Int)).1)) rfl (e_index_arr Try.underlying60 tp3_b rfl rfl (by decide) (by decide) rfl) ?_
        refine l_val (v := Value.int .i64 0) rfl (e_assign rfl) ?_
        refine l_val (v := Value.int .i64 ((gI g.2 (k : Int)).1)) rfl (e_assign rfl) ?_
        refine l_nil ?_
        refine run_seq ?_
        refine run_region rfl ?_
        refine l_val (v := Value.int .i64 ((gI g.2 (k : Int)).1)) rfl (e_move rfl) ?_
        refine l_val (v := Value.int .i64 v) rfl (e_move (by exact zs1)) ?_
        refine l_val (v := Value.bool (decide (((gI g.2 (k : Int)).1) = v))) rfl (e_eql (m := (gI g.2 (k : Int)).1) (n := v) rfl rfl) ?_
        refine l_nil ?_
        by_cases p12 : ((gI g.2 (k : Int)).1) = v
        · skip
          refine run_cond_t rfl (decide_eq_true p12) ?_
          refine run_region rfl ?_
          refine l_val (v := l_v) rfl (e_move (by exact zs6)) ?_
          refine l_val (v := Value.int .i64 (k : Int)) rfl (e_move rfl) ?_
          refine l_val (v := Value.int .i64 (2 * (k : Int))) rfl (e_mul (m := 2) (n := (k : Int)) rfl rfl (by omega)) ?_
          refine l_val (v := Value.int .i64 0) rfl (e_move rfl) ?_
          refine l_val (v := Value.int .i64 ((2 * (k : Int)) + 0)) rfl (e_add (m := 2 * (k : Int)) (n := 0) rfl rfl (by omega)) ?_
          refine l_op rfl ?_
          refine o_buildSlice (α := Int) g17 (is 3) (is 3) (3, 0) rfl [(2 * (k : Int)) + 0] Try.underlying25 tp3_b (by decide) (by decide) (vs := [(0, Value.int .i64 ((2 * (k : Int)) + 0))]) rfl rfl (.cons rfl .nil) ?_
          intro g22 w23 v24 ch25 o26
          replace hbase := hbase.chg ch25 (not_no _)
          replace r_g_v := r_g_v.chg ch25 (not_no _)
          replace o_l := o_l.chg ch25 (not_no _) (not_no _)
          refine l_op rfl ?_
          refine o_append (α := Int) (xs := l) (ys := ([(2 * (k : Int)) + 0])) g22 (J := is 4) (S := is 4) (4, 0) rfl Try.underlying25 tp3_b (by decide) rfl rfl rfl o_l o26.flat (by decide) (by first | omega | (simp; done) | (simp; omega)) ?_
          intro g27 w28 v29 ch30 o31
          replace hbase := hbase.chg ch30 (is_ne rfl)
          replace r_g_v := r_g_v.chg ch30 (is_ne rfl)
          replace o26 := o26.chg ch30 (is_ne rfl) (is_ne rfl)
          clear o_l
          refine l_val (v := v29) rfl (e_assign rfl) ?_
          refine l_nil ?_
          refine run_inBlock ?_
          clear o26
          refine run_region rfl ?_
          refine l_val (v := Value.int .i64 1) rfl (e_add (m := 0) (n := 1) rfl rfl (by omega)) ?_
          refine l_val (v := Value.int .i64 1) rfl (e_move rfl) ?_
          refine l_nil ?_
          refine run_inLoop ?_
          refine run_seq ?_
          refine run_region rfl ?_
          refine l_val (v := Value.bool true) rfl (e_lss (m := 1) (n := 2) rfl rfl) ?_
          refine l_nil ?_
          refine run_seq ?_
          refine run_cond_t rfl rfl ?_
          refine run_skip ?_
          refine run_seq ?_
          refine run_block ?_
          refine run_seq ?_
          refine run_region rfl ?_
          refine l_val (v := Value.int .i64 1) rfl (e_move rfl) ?_
          refine l_val (v := Value.int .i64 ((gI g.2 (k : Int)).2)) rfl (e_index_arr Try.underlying60 tp3_b rfl rfl (by decide) (by decide) rfl) ?_
          refine l_val (v := Value.int .i64 1) rfl (e_assign rfl) ?_
          refine l_val (v := Value.int .i64 ((gI g.2 (k : Int)).2)) rfl (e_assign rfl) ?_
          refine l_nil ?_
          refine run_seq ?_
          refine run_region rfl ?_
          refine l_val (v := Value.int .i64 ((gI g.2 (k : Int)).2)) rfl (e_move rfl) ?_
          refine l_val (v := Value.int .i64 v) rfl (e_move (by exact zs1)) ?_
          refine l_val (v := Value.bool (decide (((gI g.2 (k : Int)).2) = v))) rfl (e_eql (m := (gI g.2 (k : Int)).2) (n := v) rfl rfl) ?_
          refine l_nil ?_
          by_cases p12_32 : ((gI g.2 (k : Int)).2) = v
          · skip
            refine run_cond_t rfl (decide_eq_true p12_32) ?_
            refine run_region rfl ?_
            refine l_val (v := v29) rfl (e_move rfl) ?_
            refine l_val (v := Value.int .i64 (k : Int)) rfl (e_move rfl) ?_
            refine l_val (v := Value.int .i64 (2 * (k : Int))) rfl (e_mul (m := 2) (n := (k : Int)) rfl rfl (by omega)) ?_
            refine l_val (v := Value.int .i64 1) rfl (e_move rfl) ?_
            refine l_val (v := Value.int .i64 ((2 * (k : Int)) + 1)) rfl (e_add (m := 2 * (k : Int)) (n := 1) rfl rfl (by omega)) ?_
            refine l_op rfl ?_
            refine o_buildSlice (α := Int) g27 (is 3) (is 3) (3, 0) rfl [(2 * (k : Int)) + 1] Try.underlying25 tp3_b (by decide) (by decide) (vs := [(0, Value.int .i64 ((2 * (k : Int)) + 1))]) rfl rfl (.cons rfl .nil) ?_
            intro g33 w34 v35 ch36 o37
            replace hbase := hbase.chg ch36 (not_no _)
            replace r_g_v := r_g_v.chg ch36 (not_no _)
            replace o31 := o31.chg ch36 (not_no _) (not_no _)
            refine l_op rfl ?_
            refine o_append (α := Int) (xs := (l ++ [(2 * (k : Int)) + 0])) (ys := ([(2 * (k : Int)) + 1])) g33 (J := is 4) (S := is 4) (4, 0) rfl Try.underlying25 tp3_b (by decide) rfl rfl rfl o31 o37.flat (by decide) (by first | omega | (simp; done) | (simp; omega)) ?_
            intro g38 w39 v40 ch41 o42
            replace hbase := hbase.chg ch41 (is_ne rfl)
            replace r_g_v := r_g_v.chg ch41 (is_ne rfl)
            replace o37 := o37.chg ch41 (is_ne rfl) (is_ne rfl)
            clear o31
            refine l_val (v := v40) rfl (e_assign rfl) ?_
            refine l_nil ?_
            refine run_inBlock ?_
            clear o37
            refine run_region rfl ?_
            refine l_val (v := Value.int .i64 2) rfl (e_add (m := 1) (n := 1) rfl rfl (by omega)) ?_
            refine l_val (v := Value.int .i64 2) rfl (e_move rfl) ?_
            refine l_nil ?_
            refine run_inLoop ?_
            refine run_seq ?_
            refine run_region rfl ?_
            refine l_val (v := Value.bool false) rfl (e_lss (m := 2) (n := 2) rfl rfl) ?_
            refine l_nil ?_
            refine run_seq ?_
            refine run_cond_f rfl rfl ?_
            refine run_exit rfl ?_
            refine run_inBlock ?_
            refine run_region rfl ?_
            refine l_val (v := Value.int .i64 ((k : Int) + 1)) rfl (e_add (m := (k : Int)) (n := 1) (by exact zs23) rfl (by omega)) ?_
            refine l_val (v := Value.int .i64 ((k : Int) + 1)) rfl (e_move rfl) ?_
            refine l_nil ?_
            refine back7 (v40, ((l ++ [(2 * (k : Int)) + 0]) ++ [(2 * (k : Int)) + 1]), k + 1, g38) _ _ ⟨hbase, (by exact zs1), rfl, (by exact zs21), (by exact zs22), rfl, r_g_v, o42, by omega, ?_⟩ ?_
            · show ((l ++ [(2 * (k : Int)) + 0]) ++ [(2 * (k : Int)) + 1]) = outSk g v (k + 1)
              rw [outSk_succ, hinv]; simp_all
            · show Int.toNat (((List.length g.2 : Int) : Int) - ((k + 1) : Int)) < Int.toNat (((List.length g.2 : Int) : Int) - (k : Int))
              omega
          · skip
            refine run_cond_f rfl (decide_eq_false p12_32) ?_
            refine run_skip ?_
            refine run_inBlock ?_
            refine run_region rfl ?_
            refine l_val (v := Value.int .i64 2) rfl (e_add (m := 1) (n := 1) rfl rfl (by omega)) ?_
            refine l_val (v := Value.int .i64 2) rfl (e_move rfl) ?_
            refine l_nil ?_
            refine run_inLoop ?_
            refine run_seq ?_
            refine run_region rfl ?_
            refine l_val (v := Value.bool false) rfl (e_lss (m := 2) (n := 2) rfl rfl) ?_
            refine l_nil ?_
            refine run_seq ?_
            refine run_cond_f rfl rfl ?_
            refine run_exit rfl ?_
            refine run_inBlock ?_
            refine run_region rfl ?_
            refine l_val (v := Value.int .i64 ((k : Int) + 1)) rfl (e_add (m := (k : Int)) (n := 1) (by exact zs23) rfl (by omega)) ?_
            refine l_val (v := Value.int .i64 ((k : Int) + 1)) rfl (e_move rfl) ?_
            refine l_nil ?_
            refine back7 (v29, (l ++ [(2 * (k : Int)) + 0]), k + 1, g27) _ _ ⟨hbase, (by exact zs1), rfl, (by exact zs21), (by exact zs22), rfl, r_g_v, o31, by omega, ?_⟩ ?_
            · show (l ++ [(2 * (k : Int)) + 0]) = outSk g v (k + 1)
              rw [outSk_succ, hinv]; simp_all
            · show Int.toNat (((List.length g.2 : Int) : Int) - ((k + 1) : Int)) < Int.toNat (((List.length g.2 : Int) : Int) - (k : Int))
              omega
        · skip
          refine run_cond_f rfl (decide_eq_false p12) ?_
          refine run_skip ?_
          refine run_inBlock ?_
          refine run_region rfl ?_
          refine l_val (v := Value.int .i64 1) rfl (e_add (m := 0) (n := 1) rfl rfl (by omega)) ?_
          refine l_val (v := Value.int .i64 1) rfl (e_move rfl) ?_
          refine l_nil ?_
          refine run_inLoop ?_
          refine run_seq ?_
          refine run_region rfl ?_
          refine l_val (v := Value.bool true) rfl (e_lss (m := 1) (n := 2) rfl rfl) ?_
          refine l_nil ?_
          refine run_seq ?_
          refine run_cond_t rfl rfl ?_
          refine run_skip ?_
          refine run_seq ?_
          refine run_block ?_
          refine run_seq ?_
          refine run_region rfl ?_
          refine l_val (v := Value.int .i64 1) rfl (e_move rfl) ?_
          refine l_val (v := Value.int .i64 ((gI g.2 (k : Int)).2)) rfl (e_index_arr Try.underlying60 tp3_b rfl rfl (by decide) (by decide) rfl) ?_
          refine l_val (v := Value.int .i64 1) rfl (e_assign rfl) ?_
          refine l_val (v := Value.int .i64 ((gI g.2 (k : Int)).2)) rfl (e_assign rfl) ?_
          refine l_nil ?_
          refine run_seq ?_
          refine run_region rfl ?_
          refine l_val (v := Value.int .i64 ((gI g.2 (k : Int)).2)) rfl (e_move rfl) ?_
          refine l_val (v := Value.int .i64 v) rfl (e_move (by exact zs1)) ?_
          refine l_val (v := Value.bool (decide (((gI g.2 (k : Int)).2) = v))) rfl (e_eql (m := (gI g.2 (k : Int)).2) (n := v) rfl rfl) ?_
          refine l_nil ?_
          by_cases p12_43 : ((gI g.2 (k : Int)).2) = v
          · skip
            refine run_cond_t rfl (decide_eq_true p12_43) ?_
            refine run_region rfl ?_
            refine l_val (v := l_v) rfl (e_move (by exact zs6)) ?_
            refine l_val (v := Value.int .i64 (k : Int)) rfl (e_move rfl) ?_
            refine l_val (v := Value.int .i64 (2 * (k : Int))) rfl (e_mul (m := 2) (n := (k : Int)) rfl rfl (by omega)) ?_
            refine l_val (v := Value.int .i64 1) rfl (e_move rfl) ?_
            refine l_val (v := Value.int .i64 ((2 * (k : Int)) + 1)) rfl (e_add (m := 2 * (k : Int)) (n := 1) rfl rfl (by omega)) ?_
            refine l_op rfl ?_
            refine o_buildSlice (α := Int) g17 (is 3) (is 3) (3, 0) rfl [(2 * (k : Int)) + 1] Try.underlying25 tp3_b (by decide) (by decide) (vs := [(0, Value.int .i64 ((2 * (k : Int)) + 1))]) rfl rfl (.cons rfl .nil) ?_
            intro g44 w45 v46 ch47 o48
            replace hbase := hbase.chg ch47 (not_no _)
            replace r_g_v := r_g_v.chg ch47 (not_no _)
            replace o_l := o_l.chg ch47 (not_no _) (not_no _)
            refine l_op rfl ?_
            refine o_append (α := Int) (xs := l) (ys := ([(2 * (k : Int)) + 1])) g44 (J := is 4) (S := is 4) (4, 0) rfl Try.underlying25 tp3_b (by decide) rfl rfl rfl o_l o48.flat (by decide) (by first | omega | (simp; done) | (simp; omega)) ?_
            intro g49 w50 v51 ch52 o53
            replace hbase := hbase.chg ch52 (is_ne rfl)
            replace r_g_v := r_g_v.chg ch52 (is_ne rfl)
            replace o48 := o48.chg ch52 (is_ne rfl) (is_ne rfl)
            clear o_l
            refine l_val (v := v51) rfl (e_assign rfl) ?_
            refine l_nil ?_
            refine run_inBlock ?_
            clear o48
            refine run_region rfl ?_
            refine l_val (v := Value.int .i64 2) rfl (e_add (m := 1) (n := 1) rfl rfl (by omega)) ?_
            refine l_val (v := Value.int .i64 2) rfl (e_move rfl) ?_
            refine l_nil ?_
            refine run_inLoop ?_
            refine run_seq ?_
            refine run_region rfl ?_
            refine l_val (v := Value.bool false) rfl (e_lss (m := 2) (n := 2) rfl rfl) ?_
            refine l_nil ?_
            refine run_seq ?_
            refine run_cond_f rfl rfl ?_
            refine run_exit rfl ?_
            refine run_inBlock ?_
            refine run_region rfl ?_
            refine l_val (v := Value.int .i64 ((k : Int) + 1)) rfl (e_add (m := (k : Int)) (n := 1) (by exact zs23) rfl (by omega)) ?_
            refine l_val (v := Value.int .i64 ((k : Int) + 1)) rfl (e_move rfl) ?_
            refine l_nil ?_
            refine back7 (v51, (l ++ [(2 * (k : Int)) + 1]), k + 1, g49) _ _ ⟨hbase, (by exact zs1), rfl, (by exact zs21), (by exact zs22), rfl, r_g_v, o53, by omega, ?_⟩ ?_
            · show (l ++ [(2 * (k : Int)) + 1]) = outSk g v (k + 1)
              rw [outSk_succ, hinv]; simp_all
            · show Int.toNat (((List.length g.2 : Int) : Int) - ((k + 1) : Int)) < Int.toNat (((List.length g.2 : Int) : Int) - (k : Int))
              omega
          · skip
            refine run_cond_f rfl (decide_eq_false p12_43) ?_
            refine run_skip ?_
            refine run_inBlock ?_
            refine run_region rfl ?_
            refine l_val (v := Value.int .i64 2) rfl (e_add (m := 1) (n := 1) rfl rfl (by omega)) ?_
            refine l_val (v := Value.int .i64 2) rfl (e_move rfl) ?_
            refine l_nil ?_
            refine run_inLoop ?_
            refine run_seq ?_
            refine run_region rfl ?_
            refine l_val (v := Value.bool false) rfl (e_lss (m := 2) (n := 2) rfl rfl) ?_
            refine l_nil ?_
            refine run_seq ?_
            refine run_cond_f rfl rfl ?_
            refine run_exit rfl ?_
            refine run_inBlock ?_
            refine run_region rfl ?_
            refine l_val (v := Value.int .i64 ((k : Int) + 1)) rfl (e_add (m := (k : Int)) (n := 1) (by exact zs23) rfl (by omega)) ?_
            refine l_val (v := Value.int .i64 ((k : Int) + 1)) rfl (e_move rfl) ?_
            refine l_nil ?_
            refine back7 (l_v, l, k + 1, g17) _ _ ⟨hbase, (by exact zs1), (by exact zs6), (by exact zs21), (by exact zs22), rfl, r_g_v, o_l, by omega, ?_⟩ ?_
            · show l = outSk g v (k + 1)
              rw [outSk_succ, hinv]; simp_all
            · show Int.toNat (((List.length g.2 : Int) : Int) - ((k + 1) : Int)) < Int.toNat (((List.length g.2 : Int) : Int) - (k : Int))
              omega
      · skip
        refine run_cond_f rfl (decide_eq_false p7) ?_
        refine run_exit rfl ?_
        refine run_seq ?_
        refine run_region rfl ?_
        refine l_val (v := l_v) rfl (e_move (by exact zs6)) ?_
        refine l_val (v := l_v) rfl (e_assign rfl) ?_
        refine l_val (v := Value.int .i64 0) rfl (e_assign rfl) ?_
        refine l_nil ?_
        refine run_ret (vs := [l_v, Value.int .i64 0]) Try.func25 (.tmp rfl (.tmp rfl .nil)) ?_
        -- return 0
        have e0 : (l : List Int) = ((outR g v).1) := by
          have hk : k = g.2.length := by omega
          subst hk
          simp [outR, of_decide_eq_true p1, of_decide_eq_true p3, hinv, outS]
        have e1 : (0 : Int) = ((outR g v).2) := by
          have hk : k = g.2.length := by omega
          subst hk
          simp [outR, of_decide_eq_true p1, of_decide_eq_true p3, hinv, outS]
        exact ⟨(fin w0 g13 (fun n => if n = 4 then 1 else 0), l_v), (congr2 (a := l) (b := 0) (fun (z0 : List Int) (z1 : Int) => Ending.returned (Value.tuple (List.toArray [l_v, Value.int .i64 z1]))) e0 e1), hbase.fresh _, (e0 ▸ (o_l.glue (γ := c0) (ren := (fun n => if n = 4 then 1 else 0)) (k := 1) hbase.col rfl rfl))⟩
    · skip
      refine run_cond_t rfl (congrArg Bool.not (Bool.eq_false_iff.2 p3)) ?_
      refine run_seq ?_
      clear bx5
      refine run_region rfl ?_
      refine l_val (v := Value.slice none 0 0) rfl (e_assign rfl) ?_
      refine l_val (v := Value.int .i64 2) rfl (e_assign rfl) ?_
      refine l_nil ?_
      refine run_ret (vs := [Value.slice none 0 0, Value.int .i64 2]) Try.func25 (.tmp rfl (.tmp rfl .nil)) ?_
      -- return 1
      have e0 : ([] : List Int) = ((outR g v).1) := by
        have h3 : ¬ (0 ≤ v ∧ v < g.1) := fun h => p3 (decide_eq_true h)
        simp only [outR, if_pos (of_decide_eq_true p1), if_neg h3]
      have e1 : (2 : Int) = ((outR g v).2) := by
        have h3 : ¬ (0 ≤ v ∧ v < g.1) := fun h => p3 (decide_eq_true h)
        simp only [outR, if_pos (of_decide_eq_true p1), if_neg h3]
      exact ⟨(fin w0 g4 (fun n => 0), (Value.slice none 0 0)), (congr2 (a := []) (b := 2) (fun (z0 : List Int) (z1 : Int) => Ending.returned (Value.tuple (List.toArray [Value.slice none 0 0, Value.int .i64 z1]))) e0 e1), hbase.fresh _, (e0 ▸ Ow.nil)⟩
  · skip
    refine run_cond_t rfl (congrArg Bool.not (Bool.eq_false_iff.2 p1)) ?_
    refine run_seq ?_
    clear bx5
    refine run_region rfl ?_
    refine l_val (v := Value.slice none 0 0) rfl (e_assign rfl) ?_
    refine l_val (v := Value.int .i64 1) rfl (e_assign rfl) ?_
    refine l_nil ?_
    refine run_ret (vs := [Value.slice none 0 0, Value.int .i64 1]) Try.func25 (.tmp rfl (.tmp rfl .nil)) ?_
    -- return 2
    have e0 : ([] : List Int) = ((outR g v).1) := by
      have hn : ¬ MayP g := fun h => p1 (decide_eq_true h)
      simp [outR, hn]
    have e1 : (1 : Int) = ((outR g v).2) := by
      have hn : ¬ MayP g := fun h => p1 (decide_eq_true h)
      simp [outR, hn]
    exact ⟨(fin w0 g4 (fun n => 0), (Value.slice none 0 0)), (congr2 (a := []) (b := 1) (fun (z0 : List Int) (z1 : Int) => Ending.returned (Value.tuple (List.toArray [Value.slice none 0 0, Value.int .i64 z1]))) e0 e1), hbase.fresh _, (e0 ▸ Ow.nil)⟩

theorem degrees_ok (w0 : World) (g : (Int) × (List ((Int) × (Int)))) (g_v : Value) (hg_v : Ro w0 g_v g.2) (hmay : MayP g) :
    Calls Try.prog 42 #[Value.agg (List.toArray [Value.int .i64 g.1, g_v])] w0 (fun ee w => ∃ xx : Cmap × Value, ee = .returned ((fun ⟨δ, rv0⟩ => rv0) xx) ∧ (fun (⟨δ, rv0⟩ : Cmap × Value) (w : World) => Fresh w0 δ w ∧ Ow δ (is 1) (is 1) w rv0 (degS g)) xx w) := by
  refine calls_of_run Try.func42 rfl (Nat.le_of_ble_eq_true rfl) ?_
  have hbase := Base.start w0
  have r_g_v := hg_v.sl
  obtain ⟨hm1, hm2, hm3, hm4⟩ := hmay
  refine run_seq ?_
  refine run_region rfl ?_
  refine l_op rfl ?_
  refine o_box c0 (is 1) (1, 0) rfl rfl ?_
  intro g4 w1 b3 ch2 bx5
  replace hbase := hbase.chg ch2 (not_no _)
  replace r_g_v := r_g_v.chg ch2 (not_no _)
  replace bx5 : Bx g4 (is 1) w1 b3 [Value.int .i64 g.1, g_v] := bx5
  refine l_val (v := Value.slice none 0 0) rfl (e_assign rfl) ?_
  refine l_nil ?_
  refine run_seq ?_
  refine run_region rfl ?_
  refine l_val (v := Value.pointer (some ⟨b3, 0, none⟩)) rfl (e_fieldAddr Try.underlying24 rfl rfl rfl rfl) ?_
  refine l_val (v := Value.int .i64 g.1) rfl (e_load_bx1 tp3_b rfl bx5 rfl) ?_
  refine l_op rfl ?_
  refine o_make (α := Int) (l := g.1) (cp := g.1) g4 (is 2) (is 2) (2, 0) rfl (0 : Int) Try.underlying25 tp3_b rfl rfl rfl (by omega) (by omega) (by omega) (by omega) ?_
  intro g6 w7 v8 ch9 o10 _
  replace hbase := hbase.chg ch9 (not_no _)
  replace r_g_v := r_g_v.chg ch9 (not_no _)
  replace bx5 := bx5.chg ch9 (not_no _)
  refine l_val (v := v8) rfl (e_assign rfl) ?_
  refine l_nil ?_
  refine run_seq ?_
  refine run_seq ?_
  refine run_region rfl ?_
  refine l_val (v := Value.pointer (some ⟨b3, 1, none⟩)) rfl (e_fieldAddr Try.underlying24 rfl rfl rfl rfl) ?_
  refine l_val (v := g_v) rfl (e_load_bx1 tp22_b rfl bx5 rfl) ?_
  have len11 := (r_g_v).small
  refine l_val (v := Value.int .i64 (List.length g.2 : Int)) rfl (e_len Try.underlying22 rfl r_g_v) ?_
  refine l_val (v := Value.int .i64 0) rfl (e_move rfl) ?_
  refine l_nil ?_
  refine run_block ?_
  clear bx5
  refine run_loop (σ := Nat × (List Int) × Cmap) (fun ⟨k, l, gq⟩ f w => Base w0 gq w ∧ f 3 = v8 ∧ f 10 = g_v ∧ f 11 = Value.int .i64 (List.length g.2 : Int) ∧ f 12 = Value.int .i64 (k : Int) ∧ Sl gq (is 0) w g_v g.2 ∧ Ow gq (is 2) (is 2) w v8 l ∧ (k : Int) ≤ ((List.length g.2 : Int) : Int) ∧ (DegInv l g k)) (fun ⟨k, l, gq⟩ => Int.toNat (((List.length g.2 : Int) : Int) - (k : Int))) (0, (List.replicate (Int.toNat g.1) (0 : Int)), g6) ?_ ?_
  · exact ⟨hbase, rfl, rfl, rfl, rfl, r_g_v, o10, by omega, by exact DegInv.start g hm1⟩
  clear r_g_v
  clear o10
  clear hbase
  rintro ⟨k, l, g14⟩ f12 w13 ⟨hbase, zs3, zs10, zs11, zs12, r_g_v, o10, hle_k, hd⟩ back3
  have hdl := hd.len
  refine run_seq ?_
  refine run_region rfl ?_
  refine l_val (v := Value.bool (decide ((k : Int) < (List.length g.2 : Int)))) rfl (e_lss (m := (k : Int)) (n := (List.length g.2 : Int)) (by exact zs12) (by exact zs11)) ?_
  refine l_nil ?_
  refine run_seq ?_
  by_cases p3 : (k : Int) < (List.length g.2 : Int)
  · skip
    refine run_cond_t rfl (decide_eq_true p3) ?_
    obtain ⟨⟨he1, he2⟩, he3, he4⟩ := hm4 _ (gI_mem (xs := g.2) (i := (k : Int)) (by omega) (by omega))
    have hd1 := hd.deg _ he1 he2
    have hd2 := hd.deg _ he3 he4
    have hl1 := outSk_len g (gI g.2 (k : Int)).1 k
    have hl2 := outSk_len g (gI g.2 (k : Int)).2 k
    have hs2 := gI_set (xs := l) (y := gI l (gI g.2 (k : Int)).1 + 1) he1 (by omega) he3
    refine run_skip ?_
    refine run_seq ?_
    refine run_block ?_
    refine run_seq ?_
    refine run_region rfl ?_
    refine l_val (v := Value.pointer (some (eAddr g_v 2 (Int.toNat (k : Int))))) rfl (e_indexAddr (α := (Int) × (Int)) (xs := g.2) (v := g_v) (i := (k : Int)) Try.underlying22 rfl (by exact zs10) r_g_v (by exact zs12) (by omega) (by omega)) ?_
    refine l_val (v := Value.agg (List.toArray [Value.int .i64 ((gI g.2 (k : Int)).1), Value.int .i64 ((gI g.2 (k : Int)).2)])) rfl (e_load_elN (α := (Int) × (Int)) (xs := g.2) (v := g_v) (i := (k : Int)) tp60_b rfl r_g_v (by omega) (by omega) rfl) ?_
    refine l_op rfl ?_
    refine o_alloc g14 (is 3) (3, 0) rfl tp60_b ?_
    intro g18 w15 b17 ch16 bx19
    replace hbase := hbase.chg ch16 (not_no _)
    replace r_g_v := r_g_v.chg ch16 (not_no _)
    replace o10 := o10.chg ch16 (not_no _) (not_no _)
    replace bx19 : Bx g18 (is 3) w15 b17 [Value.int .i64 0, Value.int .i64 0] := bx19
    refine l_op rfl ?_
    refine o_store_bx (cs' := [Value.int .i64 ((gI g.2 (k : Int)).1), Value.int .i64 ((gI g.2 (k : Int)).2)]) tp60_b rfl rfl bx19 rfl (Nat.le_of_ble_eq_true rfl) (AllOne.all (.cons rfl (.cons rfl .nil))) rfl ?_
    intro w20 ch21 bx22
    replace hbase := hbase.chg ch21 (is_ne rfl)
    replace r_g_v := r_g_v.chg ch21 (is_ne rfl)
    replace o10 := o10.chg ch21 (is_ne rfl) (is_ne rfl)
    clear bx19
    refine l_nil ?_
    refine run_seq ?_
    refine run_region rfl ?_
    refine l_val (v := v8) rfl (e_move (by exact zs3)) ?_
    refine l_val (v := Value.pointer (some ⟨b17, 0, none⟩)) rfl (e_indexAddr_arr Try.underlying60 rfl rfl rfl (by decide) (by decide) rfl) ?_
    refine l_val (v := Value.int .i64 ((gI g.2 (k : Int)).1)) rfl (e_load_bx1 tp3_b rfl bx22 rfl) ?_
    refine l_val (v := Value.pointer (some (eAddr v8 1 (Int.toNat ((gI g.2 (k : Int)).1))))) rfl (e_indexAddr (α := Int) (xs := l) (v := v8) (i := (gI g.2 (k : Int)).1) Try.underlying25 rfl rfl o10.flat rfl (by omega) (by omega)) ?_
    refine l_val (v := Value.int .i64 (gI l ((gI g.2 (k : Int)).1))) rfl (e_load_el1 (α := Int) (xs := l) (v := v8) (i := (gI g.2 (k : Int)).1) tp3_b rfl o10.flat (by omega) (by omega) (by decide) rfl) ?_
    refine l_val (v := Value.int .i64 ((gI l ((gI g.2 (k : Int)).1)) + 1)) rfl (e_add (m := (gI l ((gI g.2 (k : Int)).1))) (n := 1) rfl rfl (by omega)) ?_
    refine l_val (v := Value.pointer (some (eAddr v8 1 (Int.toNat ((gI g.2 (k : Int)).1))))) rfl (e_indexAddr (α := Int) (xs := l) (v := v8) (i := (gI g.2 (k : Int)).1) Try.underlying25 rfl rfl o10.flat rfl (by omega) (by omega)) ?_
    refine l_op rfl ?_
    refine o_store_el (i := (gI g.2 (k : Int)).1) ((gI l ((gI g.2 (k : Int)).1)) + 1) tp3_b rfl rfl o10 (by omega) (by omega) rfl ?_
    intro w23 ch24 bx25
    replace hbase := hbase.chg ch24 (is_ne rfl)
    replace r_g_v := r_g_v.chg ch24 (is_ne rfl)
    replace bx22 := bx22.chg ch24 (is_ne rfl)
    clear o10
    refine l_nil ?_
    refine run_region rfl ?_
    refine l_val (v := v8) rfl (e_move (by exact zs3)) ?_
    refine l_val (v := Value.pointer (some ⟨b17, 1, none⟩)) rfl (e_indexAddr_arr Try.underlying60 rfl rfl rfl (by decide) (by decide) rfl) ?_
    refine l_val (v := Value.int .i64 ((gI g.2 (k : Int)).2)) rfl (e_load_bx1 tp3_b rfl bx22 rfl) ?_
    refine l_val (v := Value.pointer (some (eAddr v8 1 (Int.toNat ((gI g.2 (k : Int)).2))))) rfl (e_indexAddr (α := Int) (xs := (List.set l (Int.toNat ((gI g.2 (k : Int)).1)) ((gI l ((gI g.2 (k : Int)).1)) + 1))) (v := v8) (i := (gI g.2 (k : Int)).2) Try.underlying25 rfl rfl bx25.flat rfl (by omega) (by first | omega | (simp only [List.length_set, List.length_append, List.length_cons, List.length_nil, List.length_replicate, List.length_map, List.length_take, List.length_drop]; omega))) ?_
    refine l_val (v := Value.int .i64 (gI (List.set l (Int.toNat ((gI g.2 (k : Int)).1)) ((gI l ((gI g.2 (k : Int)).1)) + 1)) ((gI g.2 (k : Int)).2))) rfl (e_load_el1 (α := Int) (xs := (List.set l (Int.toNat ((gI g.2 (k : Int)).1)) ((gI l ((gI g.2 (k : Int)).1)) + 1))) (v := v8) (i := (gI g.2 (k : Int)).2) tp3_b rfl bx25.flat (by omega) (by first | omega | (simp only [List.length_set, List.length_append, List.length_cons, List.length_nil, List.length_replicate, List.length_map, List.length_take, List.length_drop]; omega)) (by decide) rfl) ?_
    refine l_val (v := Value.int .i64 ((gI (List.set l (Int.toNat ((gI g.2 (k : Int)).1)) ((gI l ((gI g.2 (k : Int)).1)) + 1)) ((gI g.2 (k : Int)).2)) + 1)) rfl (e_add (m := (gI (List.set l (Int.toNat ((gI g.2 (k : Int)).1)) ((gI l ((gI g.2 (k : Int)).1)) + 1)) ((gI g.2 (k : Int)).2))) (n := 1) rfl rfl (by omega)) ?_
    refine l_val (v := Value.pointer (some (eAddr v8 1 (Int.toNat ((gI g.2 (k : Int)).2))))) rfl (e_indexAddr (α := Int) (xs := (List.set l (Int.toNat ((gI g.2 (k : Int)).1)) ((gI l ((gI g.2 (k : Int)).1)) + 1))) (v := v8) (i := (gI g.2 (k : Int)).2) Try.underlying25 rfl rfl bx25.flat rfl (by omega) (by first | omega | (simp only [List.length_set, List.length_append, List.length_cons, List.length_nil, List.length_replicate, List.length_map, List.length_take, List.length_drop]; omega))) ?_
    refine l_op rfl ?_
    refine o_store_el (i := (gI g.2 (k : Int)).2) ((gI (List.set l (Int.toNat ((gI g.2 (k : Int)).1)) ((gI l ((gI g.2 (k : Int)).1)) + 1)) ((gI g.2 (k : Int)).2)) + 1) tp3_b rfl rfl bx25 (by omega) (by first | omega | (simp only [List.length_set, List.length_append, List.length_cons, List.length_nil, List.length_replicate, List.length_map, List.length_take, List.length_drop]; omega)) rfl ?_
    intro w26 ch27 bx28
    replace hbase := hbase.chg ch27 (is_ne rfl)
    replace r_g_v := r_g_v.chg ch27 (is_ne rfl)
    replace bx22 := bx22.chg ch27 (is_ne rfl)
    clear bx25
    refine l_nil ?_
    refine run_inBlock ?_
    clear bx22
    refine run_region rfl ?_
    refine l_val (v := Value.int .i64 ((k : Int) + 1)) rfl (e_add (m := (k : Int)) (n := 1) (by exact zs12) rfl (by omega)) ?_
    refine l_val (v := Value.int .i64 ((k : Int) + 1)) rfl (e_move rfl) ?_
    refine l_nil ?_
    refine back3 (k + 1, (List.set (List.set l (Int.toNat ((gI g.2 (k : Int)).1)) ((gI l ((gI g.2 (k : Int)).1)) + 1)) (Int.toNat ((gI g.2 (k : Int)).2)) ((gI (List.set l (Int.toNat ((gI g.2 (k : Int)).1)) ((gI l ((gI g.2 (k : Int)).1)) + 1)) ((gI g.2 (k : Int)).2)) + 1)), g18) _ _ ⟨hbase, (by exact zs3), (by exact zs10), (by exact zs11), rfl, r_g_v, bx28, by omega, ?_⟩ ?_
    · show DegInv (List.set (List.set l (Int.toNat ((gI g.2 (k : Int)).1)) ((gI l ((gI g.2 (k : Int)).1)) + 1)) (Int.toNat ((gI g.2 (k : Int)).2)) ((gI (List.set l (Int.toNat ((gI g.2 (k : Int)).1)) ((gI l ((gI g.2 (k : Int)).1)) + 1)) ((gI g.2 (k : Int)).2)) + 1)) g (k + 1)
      exact hd.next he1 he2 he3 he4
    · show Int.toNat (((List.length g.2 : Int) : Int) - ((k + 1) : Int)) < Int.toNat (((List.length g.2 : Int) : Int) - (k : Int))
      omega
  · skip
    refine run_cond_f rfl (decide_eq_false p3) ?_
    refine run_exit rfl ?_
    refine run_seq ?_
    refine run_region rfl ?_
    refine l_val (v := v8) rfl (e_move (by exact zs3)) ?_
    refine l_val (v := v8) rfl (e_assign rfl) ?_
    refine l_nil ?_
    refine run_ret (vs := [v8]) Try.func42 (.tmp rfl .nil) ?_
    -- return 0
    have e0 : (l : List Int) = (degS g) := by
      exact hd.done (by omega)
    exact ⟨(fin w0 g14 (fun n => if n = 2 then 1 else 0), v8), (congrArg (a₁ := l) (fun (z0 : List Int) => Ending.returned (v8)) e0), hbase.fresh _, (e0 ▸ (o10.glue (γ := c0) (ren := (fun n => if n = 2 then 1 else 0)) (k := 1) hbase.col rfl rfl))⟩

theorem Degrees_ok (w0 : World) (g : (Int) × (List ((Int) × (Int)))) (g_v : Value) (hg_v : Ro w0 g_v g.2) :
    Calls Try.prog 24 #[Value.agg (List.toArray [Value.int .i64 g.1, g_v])] w0 (fun ee w => ∃ xx : Cmap × Value, ee = .returned ((fun ⟨δ, rv0⟩ => Value.tuple (List.toArray [rv0, Value.int .i64 ((degR g).2)])) xx) ∧ (fun (⟨δ, rv0⟩ : Cmap × Value) (w : World) => Fresh w0 δ w ∧ Ow δ (is 1) (is 1) w rv0 ((degR g).1)) xx w) := by
  refine calls_of_run Try.func24 rfl (Nat.le_of_ble_eq_true rfl) ?_
  have hbase := Base.start w0
  have r_g_v := hg_v.sl
  refine run_seq ?_
  refine run_region rfl ?_
  refine l_op rfl ?_
  refine o_box c0 (is 1) (1, 0) rfl rfl ?_
  intro g4 w1 b3 ch2 bx5
  replace hbase := hbase.chg ch2 (not_no _)
  replace r_g_v := r_g_v.chg ch2 (not_no _)
  replace bx5 : Bx g4 (is 1) w1 b3 [Value.int .i64 g.1, g_v] := bx5
  refine l_val (v := Value.slice none 0 0) rfl (e_assign rfl) ?_
  refine l_val (v := Value.int .i64 0) rfl (e_assign rfl) ?_
  refine l_nil ?_
  refine run_seq ?_
  refine run_seq ?_
  refine run_region rfl ?_
  refine l_val (v := Value.agg (List.toArray [Value.int .i64 g.1, g_v])) rfl (e_load_bxN (ds := [Value.int .i64 g.1, g_v]) tp24_b rfl bx5 rfl rfl) ?_
  refine l_op rfl ?_
  refine o_call (v := Value.bool (mayB g)) (e_call (vals := [Value.agg (List.toArray [Value.int .i64 g.1, g_v])]) Try.func23 bd23_b nm23_b rfl) (May_ok w1 g g_v (r_g_v).ro) ?_
  intro w6 hb7
  replace hb7 := chg_below hb7 g4
  replace hbase := hbase.chg hb7 (not_no _)
  replace r_g_v := r_g_v.chg hb7 (not_no _)
  replace bx5 := bx5.chg hb7 (not_no _)
  refine l_val (v := Value.bool (!(mayB g))) rfl (e_not (b := (mayB g)) rfl) ?_
  refine l_nil ?_
  by_cases p1 : (mayB g) = true
  · skip
    refine run_cond_f rfl (congrArg Bool.not p1) ?_
    refine run_skip ?_
    refine run_seq ?_
    refine run_region rfl ?_
    refine l_val (v := Value.agg (List.toArray [Value.int .i64 g.1, g_v])) rfl (e_load_bxN (ds := [Value.int .i64 g.1, g_v]) tp24_b rfl bx5 rfl rfl) ?_
    refine l_op rfl ?_
    refine o_callx (e_call (vals := [Value.agg (List.toArray [Value.int .i64 g.1, g_v])]) Try.func42 bd42_b nm42_b rfl) (degrees_ok w6 g g_v (r_g_v).ro (by exact of_decide_eq_true p1)) ?_
    rintro ⟨d9, v11⟩ w8 ⟨fr10, o12⟩
    obtain ⟨g13, hg13⟩ : ∃ q, q = glue w6.heap.size g4 d9 (fun n => if n = 1 then 2 else 0) := ⟨_, rfl⟩
    have ch14 := chg_glue fr10.below g4 d9 (fun n => if n = 1 then 2 else 0)
    rw [← hg13] at ch14
    replace hbase := hbase.chg ch14 (not_no _)
    replace r_g_v := r_g_v.chg ch14 (not_no _)
    replace bx5 := bx5.chg ch14 (not_no _)
    replace o12 := o12.glue (γ := g4) (ren := (fun n => if n = 1 then 2 else 0)) (k := 2) fr10.col rfl rfl
    rw [← hg13] at o12
    clear hg13
    refine l_val (v := v11) rfl (e_assign rfl) ?_
    refine l_val (v := Value.int .i64 0) rfl (e_assign rfl) ?_
    refine l_nil ?_
    refine run_ret (vs := [v11, Value.int .i64 0]) Try.func24 (.tmp rfl (.tmp rfl .nil)) ?_
    -- return 0
    have e0 : (degS g : List Int) = ((degR g).1) := by
      simp [degR, of_decide_eq_true p1]
    have e1 : (0 : Int) = ((degR g).2) := by
      simp [degR, of_decide_eq_true p1]
    exact ⟨(fin w0 g13 (fun n => if n = 2 then 1 else 0), v11), (congr2 (a := degS g) (b := 0) (fun (z0 : List Int) (z1 : Int) => Ending.returned (Value.tuple (List.toArray [v11, Value.int .i64 z1]))) e0 e1), hbase.fresh _, (e0 ▸ (o12.glue (γ := c0) (ren := (fun n => if n = 2 then 1 else 0)) (k := 1) hbase.col rfl rfl))⟩
  · skip
    refine run_cond_t rfl (congrArg Bool.not (Bool.eq_false_iff.2 p1)) ?_
    refine run_seq ?_
    clear bx5
    refine run_region rfl ?_
    refine l_val (v := Value.slice none 0 0) rfl (e_assign rfl) ?_
    refine l_val (v := Value.int .i64 1) rfl (e_assign rfl) ?_
    refine l_nil ?_
    refine run_ret (vs := [Value.slice none 0 0, Value.int .i64 1]) Try.func24 (.tmp rfl (.tmp rfl .nil)) ?_
    -- return 1
    have e0 : ([] : List Int) = ((degR g).1) := by
      have hn : ¬ MayP g := fun h => p1 (decide_eq_true h)
      simp [degR, hn]
    have e1 : (1 : Int) = ((degR g).2) := by
      have hn : ¬ MayP g := fun h => p1 (decide_eq_true h)
      simp [degR, hn]
    exact ⟨(fin w0 g4 (fun n => 0), (Value.slice none 0 0)), (congr2 (a := []) (b := 1) (fun (z0 : List Int) (z1 : Int) => Ending.returned (Value.tuple (List.toArray [Value.slice none 0 0, Value.int .i64 z1]))) e0 e1), hbase.fresh _, (e0 ▸ Ow.nil)⟩

theorem Min_ok (w0 : World) (x : List Int) (x_v : Value) (hx_v : Ro w0 x_v x) (hx : 0 < x.length) :
    Calls Try.prog 44 #[x_v] w0 (fun ee w => ee = .returned (Value.int .i64 (minL x)) ∧ RowKit.Below w0.heap.size w0 w) := by
  refine calls_of_run Try.func44 rfl (Nat.le_of_ble_eq_true rfl) ?_
  have hbase := Base.start w0
  have r_x_v := hx_v.sl
  refine run_seq ?_
  refine run_region rfl ?_
  refine l_val (v := Value.int .i64 0) rfl (e_assign rfl) ?_
  refine l_nil ?_
  refine run_seq ?_
  refine run_seq ?_
  refine run_region rfl ?_
  refine l_val (v := x_v) rfl (e_move rfl) ?_
  have len1 := (r_x_v).small
  refine l_val (v := Value.int .i64 (List.length x : Int)) rfl (e_len Try.underlying25 rfl r_x_v) ?_
  refine l_val (v := Value.bool (decide ((List.length x : Int) < 1))) rfl (e_lss (m := (List.length x : Int)) (n := 1) rfl rfl) ?_
  refine l_nil ?_
  by_cases p1 : (List.length x : Int) < 1
  · skip
    omega
  · skip
    refine run_cond_f rfl (decide_eq_false p1) ?_
    refine run_skip ?_
    refine run_seq ?_
    refine run_region rfl ?_
    refine l_val (v := x_v) rfl (e_move rfl) ?_
    refine l_val (v := Value.pointer (some (eAddr x_v 1 (Int.toNat 0)))) rfl (e_indexAddr (α := Int) (xs := x) (v := x_v) (i := 0) Try.underlying25 rfl rfl r_x_v rfl (by omega) (by omega)) ?_
    refine l_val (v := Value.int .i64 (gI x 0)) rfl (e_load_el1 (α := Int) (xs := x) (v := x_v) (i := 0) tp3_b rfl r_x_v (by omega) (by omega) (by decide) rfl) ?_
    refine l_val (v := Value.int .i64 (gI x 0)) rfl (e_assign rfl) ?_
    refine l_nil ?_
    refine run_seq ?_
    refine run_seq ?_
    refine run_region rfl ?_
    refine l_val (v := Value.int .i64 1) rfl (e_assign rfl) ?_
    refine l_nil ?_
    refine run_block ?_
    refine run_loop (σ := Int × Nat × Cmap) (fun ⟨m, i, gq⟩ f w => Base w0 gq w ∧ f 0 = x_v ∧ f 3 = Value.int .i64 m ∧ f 4 = Value.int .i64 (i : Int) ∧ Sl gq (is 0) w x_v x ∧ (i : Int) ≤ ((List.length x : Int) : Int) ∧ (1 ≤ i ∧ m = minK x i)) (fun ⟨m, i, gq⟩ => Int.toNat (((List.length x : Int) : Int) - (i : Int))) ((gI x 0), 1, c0) ?_ ?_
    · exact ⟨hbase, rfl, rfl, rfl, r_x_v, by omega, by exact ⟨Nat.le_refl _, by simp [minK]⟩⟩
    clear r_x_v
    clear hbase
    rintro ⟨m, i, g4⟩ f2 w3 ⟨hbase, zs0, zs3, zs4, r_x_v, hle_i, hinv⟩ back5
    refine run_seq ?_
    refine run_seq ?_
    refine run_region rfl ?_
    refine l_val (v := Value.int .i64 (i : Int)) rfl (e_move (by exact zs4)) ?_
    refine l_val (v := x_v) rfl (e_move (by exact zs0)) ?_
    refine l_val (v := Value.int .i64 (List.length x : Int)) rfl (e_len Try.underlying25 rfl r_x_v) ?_
    refine l_val (v := Value.bool (decide ((i : Int) < (List.length x : Int)))) rfl (e_lss (m := (i : Int)) (n := (List.length x : Int)) rfl rfl) ?_
    refine l_nil ?_
    by_cases p5 : (i : Int) < (List.length x : Int)
    · skip
      refine run_cond_t rfl (decide_eq_true p5) ?_
      refine run_skip ?_
      refine run_seq ?_
      refine run_block ?_
      refine run_region rfl ?_
      refine l_val (v := Value.int .i64 m) rfl (e_move (by exact zs3)) ?_
      refine l_val (v := x_v) rfl (e_move (by exact zs0)) ?_
      refine l_val (v := Value.int .i64 (i : Int)) rfl (e_move (by exact zs4)) ?_
      refine l_val (v := Value.pointer (some (eAddr x_v 1 (Int.toNat (i : Int))))) rfl (e_indexAddr (α := Int) (xs := x) (v := x_v) (i := (i : Int)) Try.underlying25 rfl rfl r_x_v rfl (by omega) (by omega)) ?_
      refine l_val (v := Value.int .i64 (gI x (i : Int))) rfl (e_load_el1 (α := Int) (xs := x) (v := x_v) (i := (i : Int)) tp3_b rfl r_x_v (by omega) (by omega) (by decide) rfl) ?_
      refine l_val (v := Value.int .i64 (min m (gI x (i : Int)))) rfl (e_min rfl rfl) ?_
      refine l_val (v := Value.int .i64 (min m (gI x (i : Int)))) rfl (e_assign rfl) ?_
      refine l_nil ?_
      refine run_inBlock ?_
      refine run_region rfl ?_
      refine l_val (v := Value.int .i64 (i : Int)) rfl (e_move (by exact zs4)) ?_
      refine l_val (v := Value.int .i64 ((i : Int) + 1)) rfl (e_add (m := (i : Int)) (n := 1) rfl rfl (by omega)) ?_
      refine l_val (v := Value.int .i64 ((i : Int) + 1)) rfl (e_assign rfl) ?_
      refine l_nil ?_
      refine back5 (min m (gI x (i : Int)), i + 1, g4) _ _ ⟨hbase, (by exact zs0), rfl, rfl, r_x_v, by omega, ?_⟩ ?_
      · show 1 ≤ (i + 1) ∧ (min m (gI x (i : Int))) = minK x (i + 1)
        obtain ⟨h1, h2⟩ := hinv
        exact ⟨by omega, by rw [h2, minK_succ h1 (by assumption)]⟩
      · show Int.toNat (((List.length x : Int) : Int) - ((i + 1) : Int)) < Int.toNat (((List.length x : Int) : Int) - (i : Int))
        omega
    · skip
      refine run_cond_f rfl (decide_eq_false p5) ?_
      refine run_exit rfl ?_
      refine run_seq ?_
      refine run_region rfl ?_
      refine l_val (v := Value.int .i64 m) rfl (e_move (by exact zs3)) ?_
      refine l_val (v := Value.int .i64 m) rfl (e_assign rfl) ?_
      refine l_nil ?_
      refine run_ret (vs := [Value.int .i64 m]) Try.func44 (.tmp rfl .nil) ?_
      -- return 0
      have e0 : (m : Int) = (minL x) := by
        obtain ⟨h1, h2⟩ := hinv
        rw [h2]
        unfold minL
        rw [show i = x.length by omega]
      exact ⟨(congrArg (a₁ := m) (fun (z0 : Int) => Ending.returned (Value.int .i64 z0)) e0), hbase.below⟩

theorem Max_ok (w0 : World) (x : List Int) (x_v : Value) (hx_v : Ro w0 x_v x) (hx : 0 < x.length) :
    Calls Try.prog 45 #[x_v] w0 (fun ee w => ee = .returned (Value.int .i64 (maxL x)) ∧ RowKit.Below w0.heap.size w0 w) := by
  refine calls_of_run Try.func45 rfl (Nat.le_of_ble_eq_true rfl) ?_
  have hbase := Base.start w0
  have r_x_v := hx_v.sl
  refine run_seq ?_
  refine run_region rfl ?_
  refine l_val (v := Value.int .i64 0) rfl (e_assign rfl) ?_
  refine l_nil ?_
  refine run_seq ?_
  refine run_seq ?_
  refine run_region rfl ?_
  refine l_val (v := x_v) rfl (e_move rfl) ?_
  have len1 := (r_x_v).small
  refine l_val (v := Value.int .i64 (List.length x : Int)) rfl (e_len Try.underlying25 rfl r_x_v) ?_
  refine l_val (v := Value.bool (decide ((List.length x : Int) < 1))) rfl (e_lss (m := (List.length x : Int)) (n := 1) rfl rfl) ?_
  refine l_nil ?_
  by_cases p1 : (List.length x : Int) < 1
  · skip
    omega
  · skip
    refine run_cond_f rfl (decide_eq_false p1) ?_
    refine run_skip ?_
    refine run_seq ?_
    refine run_region rfl ?_
    refine l_val (v := x_v) rfl (e_move rfl) ?_
    refine l_val (v := Value.pointer (some (eAddr x_v 1 (Int.toNat 0)))) rfl (e_indexAddr (α := Int) (xs := x) (v := x_v) (i := 0) Try.underlying25 rfl rfl r_x_v rfl (by omega) (by omega)) ?_
    refine l_val (v := Value.int .i64 (gI x 0)) rfl (e_load_el1 (α := Int) (xs := x) (v := x_v) (i := 0) tp3_b rfl r_x_v (by omega) (by omega) (by decide) rfl) ?_
    refine l_val (v := Value.int .i64 (gI x 0)) rfl (e_assign rfl) ?_
    refine l_nil ?_
    refine run_seq ?_
    refine run_seq ?_
    refine run_region rfl ?_
    refine l_val (v := Value.int .i64 1) rfl (e_assign rfl) ?_
    refine l_nil ?_
    refine run_block ?_
    refine run_loop (σ := Int × Nat × Cmap) (fun ⟨m, i, gq⟩ f w => Base w0 gq w ∧ f 0 = x_v ∧ f 3 = Value.int .i64 m ∧ f 4 = Value.int .i64 (i : Int) ∧ Sl gq (is 0) w x_v x ∧ (i : Int) ≤ ((List.length x : Int) : Int) ∧ (1 ≤ i ∧ m = maxK x i)) (fun ⟨m, i, gq⟩ => Int.toNat (((List.length x : Int) : Int) - (i : Int))) ((gI x 0), 1, c0) ?_ ?_
    · exact ⟨hbase, rfl, rfl, rfl, r_x_v, by omega, by exact ⟨Nat.le_refl _, by simp [maxK]⟩⟩
    clear r_x_v
    clear hbase
    rintro ⟨m, i, g4⟩ f2 w3 ⟨hbase, zs0, zs3, zs4, r_x_v, hle_i, hinv⟩ back5
    refine run_seq ?_
    refine run_seq ?_
    refine run_region rfl ?_
    refine l_val (v := Value.int .i64 (i : Int)) rfl (e_move (by exact zs4)) ?_
    refine l_val (v := x_v) rfl (e_move (by exact zs0)) ?_
    refine l_val (v := Value.int .i64 (List.length x : Int)) rfl (e_len Try.underlying25 rfl r_x_v) ?_
    refine l_val (v := Value.bool (decide ((i : Int) < (List.length x : Int)))) rfl (e_lss (m := (i : Int)) (n := (List.length x : Int)) rfl rfl) ?_
    refine l_nil ?_
    by_cases p5 : (i : Int) < (List.length x : Int)
    · skip
      refine run_cond_t rfl (decide_eq_true p5) ?_
      refine run_skip ?_
      refine run_seq ?_
      refine run_block ?_
      refine run_region rfl ?_
      refine l_val (v := Value.int .i64 m) rfl (e_move (by exact zs3)) ?_
      refine l_val (v := x_v) rfl (e_move (by exact zs0)) ?_
      refine l_val (v := Value.int .i64 (i : Int)) rfl (e_move (by exact zs4)) ?_
      refine l_val (v := Value.pointer (some (eAddr x_v 1 (Int.toNat (i : Int))))) rfl (e_indexAddr (α := Int) (xs := x) (v := x_v) (i := (i : Int)) Try.underlying25 rfl rfl r_x_v rfl (by omega) (by omega)) ?_
      refine l_val (v := Value.int .i64 (gI x (i : Int))) rfl (e_load_el1 (α := Int) (xs := x) (v := x_v) (i := (i : Int)) tp3_b rfl r_x_v (by omega) (by omega) (by decide) rfl) ?_
      refine l_val (v := Value.int .i64 (max m (gI x (i : Int)))) rfl (e_max rfl rfl) ?_
      refine l_val (v := Value.int .i64 (max m (gI x (i : Int)))) rfl (e_assign rfl) ?_
      refine l_nil ?_
      refine run_inBlock ?_
      refine run_region rfl ?_
      refine l_val (v := Value.int .i64 (i : Int)) rfl (e_move (by exact zs4)) ?_
      refine l_val (v := Value.int .i64 ((i : Int) + 1)) rfl (e_add (m := (i : Int)) (n := 1) rfl rfl (by omega)) ?_
      refine l_val (v := Value.int .i64 ((i : Int) + 1)) rfl (e_assign rfl) ?_
      refine l_nil ?_
      refine back5 (max m (gI x (i : Int)), i + 1, g4) _ _ ⟨hbase, (by exact zs0), rfl, rfl, r_x_v, by omega, ?_⟩ ?_
      · show 1 ≤ (i + 1) ∧ (max m (gI x (i : Int))) = maxK x (i + 1)
        obtain ⟨h1, h2⟩ := hinv
        exact ⟨by omega, by rw [h2, maxK_succ h1 (by assumption)]⟩
      · show Int.toNat (((List.length x : Int) : Int) - ((i + 1) : Int)) < Int.toNat (((List.length x : Int) : Int) - (i : Int))
        omega
    · skip
      refine run_cond_f rfl (decide_eq_false p5) ?_
      refine run_exit rfl ?_
      refine run_seq ?_
      refine run_region rfl ?_
      refine l_val (v := Value.int .i64 m) rfl (e_move (by exact zs3)) ?_
      refine l_val (v := Value.int .i64 m) rfl (e_assign rfl) ?_
      refine l_nil ?_
      refine run_ret (vs := [Value.int .i64 m]) Try.func45 (.tmp rfl .nil) ?_
      -- return 0
      have e0 : (m : Int) = (maxL x) := by
        obtain ⟨h1, h2⟩ := hinv
        rw [h2]
        unfold maxL
        rw [show i = x.length by omega]
      exact ⟨(congrArg (a₁ := m) (fun (z0 : Int) => Ending.returned (Value.int .i64 z0)) e0), hbase.below⟩

theorem Look_ok (w0 : World) (g : (Int) × (List ((Int) × (Int)))) (g_v : Value) (hg_v : Ro w0 g_v g.2) :
    Calls Try.prog 29 #[Value.agg (List.toArray [Value.int .i64 g.1, g_v])] w0 (fun ee w => ee = .returned (Value.tuple (List.toArray [Value.agg (List.toArray [Value.int .i64 (((lookR g).1).1), Value.int .i64 ((((lookR g).1).2).1), Value.int .i64 (((((lookR g).1).2).2).1), Value.int .i64 ((((((lookR g).1).2).2).2).1), Value.bool ((((((lookR g).1).2).2).2).2)]), Value.int .i64 ((lookR g).2)])) ∧ RowKit.Below w0.heap.size w0 w) := by
  refine calls_of_run Try.func29 rfl (Nat.le_of_ble_eq_true rfl) ?_
  have hbase := Base.start w0
  have r_g_v := hg_v.sl
  refine run_seq ?_
  refine run_region rfl ?_
  refine l_op rfl ?_
  refine o_box c0 (is 1) (1, 0) rfl rfl ?_
  intro g4 w1 b3 ch2 bx5
  replace hbase := hbase.chg ch2 (not_no _)
  replace r_g_v := r_g_v.chg ch2 (not_no _)
  replace bx5 : Bx g4 (is 1) w1 b3 [Value.int .i64 g.1, g_v] := bx5
  refine l_op rfl ?_
  refine o_alloc g4 (is 2) (2, 0) rfl tp48_b ?_
  intro g9 w6 b8 ch7 bx10
  replace hbase := hbase.chg ch7 (not_no _)
  replace r_g_v := r_g_v.chg ch7 (not_no _)
  replace bx5 := bx5.chg ch7 (not_no _)
  replace bx10 : Bx g9 (is 2) w6 b8 [Value.int .i64 0, Value.int .i64 0, Value.int .i64 0, Value.int .i64 0, Value.bool false] := bx10
  refine l_val (v := Value.int .i64 0) rfl (e_assign rfl) ?_
  refine l_nil ?_
  refine run_seq ?_
  refine run_seq ?_
  refine run_region rfl ?_
  refine l_val (v := Value.agg (List.toArray [Value.int .i64 g.1, g_v])) rfl (e_load_bxN (ds := [Value.int .i64 g.1, g_v]) tp24_b rfl bx5 rfl rfl) ?_
  refine l_op rfl ?_
  refine o_call (v := Value.bool (mayB g)) (e_call (vals := [Value.agg (List.toArray [Value.int .i64 g.1, g_v])]) Try.func23 bd23_b nm23_b rfl) (May_ok w6 g g_v (r_g_v).ro) ?_
  intro w11 hb12
  replace hb12 := chg_below hb12 g9
  replace hbase := hbase.chg hb12 (not_no _)
  replace r_g_v := r_g_v.chg hb12 (not_no _)
  replace bx5 := bx5.chg hb12 (not_no _)
  replace bx10 := bx10.chg hb12 (not_no _)
  refine l_val (v := Value.bool (!(mayB g))) rfl (e_not (b := (mayB g)) rfl) ?_
  refine l_nil ?_
  by_cases p1 : (mayB g) = true
  · skip
    obtain ⟨hm1, hm2, hm3, hm4⟩ := of_decide_eq_true p1
    refine run_cond_f rfl (congrArg Bool.not p1) ?_
    refine run_skip ?_
    refine run_seq ?_
    refine run_region rfl ?_
    refine l_op rfl ?_
    refine o_alloc g9 (is 3) (3, 0) rfl tp48_b ?_
    intro g16 w13 b15 ch14 bx17
    replace hbase := hbase.chg ch14 (not_no _)
    replace r_g_v := r_g_v.chg ch14 (not_no _)
    replace bx5 := bx5.chg ch14 (not_no _)
    replace bx10 := bx10.chg ch14 (not_no _)
    replace bx17 : Bx g16 (is 3) w13 b15 [Value.int .i64 0, Value.int .i64 0, Value.int .i64 0, Value.int .i64 0, Value.bool false] := bx17
    refine l_nil ?_
    refine run_seq ?_
    refine run_region rfl ?_
    refine l_op rfl ?_
    refine o_makeMap (K := (Int) × (Int)) g16 (is 4) (4, 0) rfl ?_
    intro g18 w19 v20 ch21 m22
    replace hbase := hbase.chg ch21 (not_no _)
    replace r_g_v := r_g_v.chg ch21 (not_no _)
    replace bx5 := bx5.chg ch21 (not_no _)
    replace bx10 := bx10.chg ch21 (not_no _)
    replace bx17 := bx17.chg ch21 (not_no _)
    refine l_val (v := v20) rfl (e_assign rfl) ?_
    refine l_nil ?_
    refine run_seq ?_
    refine run_seq ?_
    refine run_region rfl ?_
    refine l_val (v := Value.pointer (some ⟨b3, 1, none⟩)) rfl (e_fieldAddr Try.underlying24 rfl rfl rfl rfl) ?_
    refine l_val (v := g_v) rfl (e_load_bx1 tp22_b rfl bx5 rfl) ?_
    have len23 := (r_g_v).small
    refine l_val (v := Value.int .i64 (List.length g.2 : Int)) rfl (e_len Try.underlying22 rfl r_g_v) ?_
    refine l_val (v := Value.int .i64 0) rfl (e_move rfl) ?_
    refine l_nil ?_
    refine run_block ?_
    refine run_loop (σ := Int × Int × Nat × (((Int) × (Int)) → Int) × Cmap) (fun ⟨l_0, l_1, k, seen, gq⟩ f w => Base w0 gq w ∧ f 1 = Value.pointer (some ⟨b3, 0, none⟩) ∧ f 2 = Value.pointer (some ⟨b8, 0, none⟩) ∧ f 4 = Value.pointer (some ⟨b15, 0, none⟩) ∧ f 5 = v20 ∧ f 16 = g_v ∧ f 17 = Value.int .i64 (List.length g.2 : Int) ∧ f 18 = Value.int .i64 (k : Int) ∧ Sl gq (is 0) w g_v g.2 ∧ Bx gq (is 1) w b3 [Value.int .i64 g.1, g_v] ∧ Bx gq (is 2) w b8 [Value.int .i64 0, Value.int .i64 0, Value.int .i64 0, Value.int .i64 0, Value.bool false] ∧ Bx gq (is 3) w b15 [Value.int .i64 l_0, Value.int .i64 l_1, Value.int .i64 0, Value.int .i64 0, Value.bool false] ∧ Mp gq (is 4) w v20 seen ∧ (k : Int) ≤ ((List.length g.2 : Int) : Int) ∧ (LookInv l_0 l_1 seen g k)) (fun ⟨l_0, l_1, k, seen, gq⟩ => Int.toNat (((List.length g.2 : Int) : Int) - (k : Int))) (0, 0, 0, (fun _ => 0), g18) ?_ ?_
    · exact ⟨hbase, rfl, rfl, rfl, rfl, rfl, rfl, rfl, r_g_v, bx5, bx10, bx17, m22, by omega, by exact LookInv.start g⟩
    clear r_g_v
    clear bx5
    clear bx10
    clear bx17
    clear m22
    clear hbase
    rintro ⟨l_0, l_1, k, seen, g26⟩ f24 w25 ⟨hbase, zs1, zs2, zs4, zs5, zs16, zs17, zs18, r_g_v, bx5, bx10, bx17, m22, hle_k, hinv⟩ back6
    obtain ⟨hl0, hl1, hse⟩ := hinv.bd
    refine run_seq ?_
    refine run_region rfl ?_
    refine l_val (v := Value.bool (decide ((k : Int) < (List.length g.2 : Int)))) rfl (e_lss (m := (k : Int)) (n := (List.length g.2 : Int)) (by exact zs18) (by exact zs17)) ?_
    refine l_nil ?_
    refine run_seq ?_
    by_cases p6 : (k : Int) < (List.length g.2 : Int)
    · skip
      refine run_cond_t rfl (decide_eq_true p6) ?_
      have hse1 := hse (min (gI g.2 (k : Int)).1 (gI g.2 (k : Int)).2, max (gI g.2 (k : Int)).1 (gI g.2 (k : Int)).2)
      refine run_skip ?_
      refine run_seq ?_
      refine run_block ?_
      refine run_seq ?_
      refine run_region rfl ?_
      refine l_val (v := Value.pointer (some (eAddr g_v 2 (Int.toNat (k : Int))))) rfl (e_indexAddr (α := (Int) × (Int)) (xs := g.2) (v := g_v) (i := (k : Int)) Try.underlying22 rfl (by exact zs16) r_g_v (by exact zs18) (by omega) (by omega)) ?_
      refine l_val (v := Value.agg (List.toArray [Value.int .i64 ((gI g.2 (k : Int)).1), Value.int .i64 ((gI g.2 (k : Int)).2)])) rfl (e_load_elN (α := (Int) × (Int)) (xs := g.2) (v := g_v) (i := (k : Int)) tp60_b rfl r_g_v (by omega) (by omega) rfl) ?_
      refine l_op rfl ?_
      refine o_alloc g26 (is 5) (5, 0) rfl tp60_b ?_
      intro g30 w27 b29 ch28 bx31
      replace hbase := hbase.chg ch28 (not_no _)
      replace r_g_v := r_g_v.chg ch28 (not_no _)
      replace bx5 := bx5.chg ch28 (not_no _)
      replace bx10 := bx10.chg ch28 (not_no _)
      replace bx17 := bx17.chg ch28 (not_no _)
      replace m22 := m22.chg ch28 (not_no _)
      replace bx31 : Bx g30 (is 5) w27 b29 [Value.int .i64 0, Value.int .i64 0] := bx31
      refine l_op rfl ?_
      refine o_store_bx (cs' := [Value.int .i64 ((gI g.2 (k : Int)).1), Value.int .i64 ((gI g.2 (k : Int)).2)]) tp60_b rfl rfl bx31 rfl (Nat.le_of_ble_eq_true rfl) (AllOne.all (.cons rfl (.cons rfl .nil))) rfl ?_
      intro w32 ch33 bx34
      replace hbase := hbase.chg ch33 (is_ne rfl)
      replace r_g_v := r_g_v.chg ch33 (is_ne rfl)
      replace bx5 := bx5.chg ch33 (is_ne rfl)
      replace bx10 := bx10.chg ch33 (is_ne rfl)
      replace bx17 := bx17.chg ch33 (is_ne rfl)
      replace m22 := m22.chg ch33 (is_ne rfl)
      clear bx31
      refine l_nil ?_
      refine run_seq ?_
      refine run_seq ?_
      refine run_region rfl ?_
      refine l_val (v := Value.pointer (some ⟨b29, 0, none⟩)) rfl (e_indexAddr_arr Try.underlying60 rfl rfl rfl (by decide) (by decide) rfl) ?_
      refine l_val (v := Value.int .i64 ((gI g.2 (k : Int)).1)) rfl (e_load_bx1 tp3_b rfl bx34 rfl) ?_
      refine l_val (v := Value.pointer (some ⟨b29, 1, none⟩)) rfl (e_indexAddr_arr Try.underlying60 rfl rfl rfl (by decide) (by decide) rfl) ?_
      refine l_val (v := Value.int .i64 ((gI g.2 (k : Int)).2)) rfl (e_load_bx1 tp3_b rfl bx34 rfl) ?_
      refine l_val (v := Value.bool (decide (((gI g.2 (k : Int)).1) = ((gI g.2 (k : Int)).2)))) rfl (e_eql (m := (gI g.2 (k : Int)).1) (n := (gI g.2 (k : Int)).2) rfl rfl) ?_
      refine l_nil ?_
      by_cases p8 : ((gI g.2 (k : Int)).1) = ((gI g.2 (k : Int)).2)
      · skip
        refine run_cond_t rfl (decide_eq_true p8) ?_
        refine run_region rfl ?_
        refine l_val (v := Value.pointer (some ⟨b15, 0, none⟩)) rfl (e_fieldAddr Try.underlying48 rfl rfl (by exact zs4) rfl) ?_
        refine l_val (v := Value.int .i64 l_0) rfl (e_load_bx1 tp3_b rfl bx17 rfl) ?_
        refine l_val (v := Value.int .i64 (l_0 + 1)) rfl (e_add (m := l_0) (n := 1) rfl rfl (by omega)) ?_
        refine l_val (v := Value.pointer (some ⟨b15, 0, none⟩)) rfl (e_fieldAddr Try.underlying48 rfl rfl (by exact zs4) rfl) ?_
        refine l_op rfl ?_
        refine o_store_bx (cs' := [Value.int .i64 (l_0 + 1), Value.int .i64 l_1, Value.int .i64 0, Value.int .i64 0, Value.bool false]) tp3_b rfl rfl bx17 rfl (Nat.le_of_ble_eq_true rfl) (AllOne.all (.cons rfl .nil)) rfl ?_
        intro w35 ch36 bx37
        replace hbase := hbase.chg ch36 (is_ne rfl)
        replace r_g_v := r_g_v.chg ch36 (is_ne rfl)
        replace bx5 := bx5.chg ch36 (is_ne rfl)
        replace bx10 := bx10.chg ch36 (is_ne rfl)
        replace m22 := m22.chg ch36 (is_ne rfl)
        replace bx34 := bx34.chg ch36 (is_ne rfl)
        clear bx17
        refine l_nil ?_
        refine run_seq ?_
        refine run_region rfl ?_
        refine l_val (v := Value.agg (List.toArray [Value.int .i64 ((gI g.2 (k : Int)).1), Value.int .i64 ((gI g.2 (k : Int)).2)])) rfl (e_load_bxN (ds := [Value.int .i64 ((gI g.2 (k : Int)).1), Value.int .i64 ((gI g.2 (k : Int)).2)]) tp60_b rfl bx34 rfl rfl) ?_
        refine l_op rfl ?_
        refine o_call (v := Value.agg (List.toArray [Value.int .i64 (min (gI g.2 (k : Int)).1 (gI g.2 (k : Int)).2), Value.int .i64 (max (gI g.2 (k : Int)).1 (gI g.2 (k : Int)).2)])) (e_call (vals := [Value.agg (List.toArray [Value.int .i64 ((gI g.2 (k : Int)).1), Value.int .i64 ((gI g.2 (k : Int)).2)])]) Try.func43 bd43_b nm43_b rfl) (level_ok w35 (gI g.2 (k : Int))) ?_
        intro w38 hb39
        replace hb39 := chg_below hb39 g30
        replace hbase := hbase.chg hb39 (not_no _)
        replace r_g_v := r_g_v.chg hb39 (not_no _)
        replace bx5 := bx5.chg hb39 (not_no _)
        replace bx10 := bx10.chg hb39 (not_no _)
        replace m22 := m22.chg hb39 (not_no _)
        replace bx34 := bx34.chg hb39 (not_no _)
        replace bx37 := bx37.chg hb39 (not_no _)
        refine l_op rfl ?_
        refine o_alloc g30 (is 6) (6, 0) rfl tp60_b ?_
        intro g43 w40 b42 ch41 bx44
        replace hbase := hbase.chg ch41 (not_no _)
        replace r_g_v := r_g_v.chg ch41 (not_no _)
        replace bx5 := bx5.chg ch41 (not_no _)
        replace bx10 := bx10.chg ch41 (not_no _)
        replace m22 := m22.chg ch41 (not_no _)
        replace bx34 := bx34.chg ch41 (not_no _)
        replace bx37 := bx37.chg ch41 (not_no _)
        replace bx44 : Bx g43 (is 6) w40 b42 [Value.int .i64 0, Value.int .i64 0] := bx44
        refine l_op rfl ?_
        refine o_store_bx (cs' := [Value.int .i64 (min (gI g.2 (k : Int)).1 (gI g.2 (k : Int)).2), Value.int .i64 (max (gI g.2 (k : Int)).1 (gI g.2 (k : Int)).2)]) tp60_b rfl rfl bx44 rfl (Nat.le_of_ble_eq_true rfl) (AllOne.all (.cons rfl (.cons rfl .nil))) rfl ?_
        intro w45 ch46 bx47
        replace hbase := hbase.chg ch46 (is_ne rfl)
        replace r_g_v := r_g_v.chg ch46 (is_ne rfl)
        replace bx5 := bx5.chg ch46 (is_ne rfl)
        replace bx10 := bx10.chg ch46 (is_ne rfl)
        replace m22 := m22.chg ch46 (is_ne rfl)
        replace bx34 := bx34.chg ch46 (is_ne rfl)
        replace bx37 := bx37.chg ch46 (is_ne rfl)
        clear bx44
        refine l_nil ?_
        refine run_seq ?_
        refine run_seq ?_
        clear bx34
        refine run_region rfl ?_
        refine l_val (v := v20) rfl (e_move (by exact zs5)) ?_
        refine l_val (v := Value.agg (List.toArray [Value.int .i64 (min (gI g.2 (k : Int)).1 (gI g.2 (k : Int)).2), Value.int .i64 (max (gI g.2 (k : Int)).1 (gI g.2 (k : Int)).2)])) rfl (e_load_bxN (ds := [Value.int .i64 (min (gI g.2 (k : Int)).1 (gI g.2 (k : Int)).2), Value.int .i64 (max (gI g.2 (k : Int)).1 (gI g.2 (k : Int)).2)]) tp60_b rfl bx47 rfl rfl) ?_
        refine l_val (v := Value.int .i64 (seen (min (gI g.2 (k : Int)).1 (gI g.2 (k : Int)).2, max (gI g.2 (k : Int)).1 (gI g.2 (k : Int)).2))) rfl (e_lookup (min (gI g.2 (k : Int)).1 (gI g.2 (k : Int)).2, max (gI g.2 (k : Int)).1 (gI g.2 (k : Int)).2) Try.underlying66 (keyOk_pair Try.underlying60 Try.underlying3 tp3_b) tp3_b rfl m22 rfl rfl) ?_
        refine l_val (v := Value.bool (decide (0 < (seen (min (gI g.2 (k : Int)).1 (gI g.2 (k : Int)).2, max (gI g.2 (k : Int)).1 (gI g.2 (k : Int)).2))))) rfl (e_gtr (m := seen (min (gI g.2 (k : Int)).1 (gI g.2 (k : Int)).2, max (gI g.2 (k : Int)).1 (gI g.2 (k : Int)).2)) (n := 0) rfl rfl) ?_
        refine l_nil ?_
        by_cases p11 : 0 < (seen (min (gI g.2 (k : Int)).1 (gI g.2 (k : Int)).2, max (gI g.2 (k : Int)).1 (gI g.2 (k : Int)).2))
        · skip
          refine run_cond_t rfl (decide_eq_true p11) ?_
          refine run_region rfl ?_
          refine l_val (v := Value.pointer (some ⟨b15, 1, none⟩)) rfl (e_fieldAddr Try.underlying48 rfl rfl (by exact zs4) rfl) ?_
          refine l_val (v := Value.int .i64 l_1) rfl (e_load_bx1 tp3_b rfl bx37 rfl) ?_
          refine l_val (v := Value.int .i64 (l_1 + 1)) rfl (e_add (m := l_1) (n := 1) rfl rfl (by omega)) ?_
          refine l_val (v := Value.pointer (some ⟨b15, 1, none⟩)) rfl (e_fieldAddr Try.underlying48 rfl rfl (by exact zs4) rfl) ?_
          refine l_op rfl ?_
          refine o_store_bx (cs' := [Value.int .i64 (l_0 + 1), Value.int .i64 (l_1 + 1), Value.int .i64 0, Value.int .i64 0, Value.bool false]) tp3_b rfl rfl bx37 rfl (Nat.le_of_ble_eq_true rfl) (AllOne.all (.cons rfl .nil)) rfl ?_
          intro w48 ch49 bx50
          replace hbase := hbase.chg ch49 (is_ne rfl)
          replace r_g_v := r_g_v.chg ch49 (is_ne rfl)
          replace bx5 := bx5.chg ch49 (is_ne rfl)
          replace bx10 := bx10.chg ch49 (is_ne rfl)
          replace m22 := m22.chg ch49 (is_ne rfl)
          replace bx47 := bx47.chg ch49 (is_ne rfl)
          clear bx37
          refine l_nil ?_
          refine region_mid (σ := Cmap) (fun gq f w => Base w0 gq w ∧ f 1 = Value.pointer (some ⟨b3, 0, none⟩) ∧ f 2 = Value.pointer (some ⟨b8, 0, none⟩) ∧ f 4 = Value.pointer (some ⟨b15, 0, none⟩) ∧ f 5 = v20 ∧ f 16 = g_v ∧ f 17 = Value.int .i64 (List.length g.2 : Int) ∧ f 18 = Value.int .i64 (k : Int) ∧ Sl gq (is 0) w g_v g.2 ∧ Bx gq (is 1) w b3 [Value.int .i64 g.1, g_v] ∧ Bx gq (is 2) w b8 [Value.int .i64 0, Value.int .i64 0, Value.int .i64 0, Value.int .i64 0, Value.bool false] ∧ Bx gq (is 3) w b15 [Value.int .i64 (l_0 + 1), Value.int .i64 (l_1 + 1), Value.int .i64 0, Value.int .i64 0, Value.bool false] ∧ Mp gq (is 4) w v20 (fun q => if q = (min (gI g.2 (k : Int)).1 (gI g.2 (k : Int)).2, max (gI g.2 (k : Int)).1 (gI g.2 (k : Int)).2) then ((seen (min (gI g.2 (k : Int)).1 (gI g.2 (k : Int)).2, max (gI g.2 (k : Int)).1 (gI g.2 (k : Int)).2)) + 1) else seen q)) g43 [0, 1, 3, 5] mixed_b ?_ ?_
          · intro mid
            intro w52 ch51
            replace hbase := hbase.chg ch51 (not_no _)
            replace r_g_v := r_g_v.chg ch51 (not_no _)
            replace bx5 := bx5.chg ch51 (not_no _)
            replace bx10 := bx10.chg ch51 (not_no _)
            replace m22 := m22.chg ch51 (not_no _)
            replace bx47 := bx47.chg ch51 (not_no _)
            replace bx50 := bx50.chg ch51 (not_no _)
            refine x_pure (v := v20) 0 rfl (by kernel_rfl) (by kernel_rfl) rfl (fun w => e_move (by exact zs5)) ?_
            refine x_val (v := Value.agg (List.toArray [Value.int .i64 (min (gI g.2 (k : Int)).1 (gI g.2 (k : Int)).2), Value.int .i64 (max (gI g.2 (k : Int)).1 (gI g.2 (k : Int)).2)])) 1 [0] rfl (by kernel_rfl) (by kernel_rfl) rfl (e_load_bxN (ds := [Value.int .i64 (min (gI g.2 (k : Int)).1 (gI g.2 (k : Int)).2), Value.int .i64 (max (gI g.2 (k : Int)).1 (gI g.2 (k : Int)).2)]) tp60_b rfl bx47 rfl rfl) ?_
            refine x_two 2 4 rfl rfl (by kernel_rfl) rfl rfl ?_ ?_
            · skip
              refine o_of_val (v := Value.int .i64 (seen (min (gI g.2 (k : Int)).1 (gI g.2 (k : Int)).2, max (gI g.2 (k : Int)).1 (gI g.2 (k : Int)).2))) (e_lookup (min (gI g.2 (k : Int)).1 (gI g.2 (k : Int)).2, max (gI g.2 (k : Int)).1 (gI g.2 (k : Int)).2) Try.underlying66 (keyOk_pair Try.underlying60 Try.underlying3 tp3_b) tp3_b rfl m22 rfl rfl) ?_
              refine x_pure (v := Value.int .i64 ((seen (min (gI g.2 (k : Int)).1 (gI g.2 (k : Int)).2, max (gI g.2 (k : Int)).1 (gI g.2 (k : Int)).2)) + 1)) 3 rfl (by kernel_rfl) (by kernel_rfl) rfl (fun w => e_add (m := seen (min (gI g.2 (k : Int)).1 (gI g.2 (k : Int)).2, max (gI g.2 (k : Int)).1 (gI g.2 (k : Int)).2)) (n := 1) rfl rfl (by omega)) ?_
              refine x_one 4 rfl (by kernel_rfl) rfl ?_
              refine o_mapEntry (min (gI g.2 (k : Int)).1 (gI g.2 (k : Int)).2, max (gI g.2 (k : Int)).1 (gI g.2 (k : Int)).2) Try.underlying66 (keyOk_pair Try.underlying60 Try.underlying3 tp3_b) tp3_b rfl m22 rfl rfl ?_
              intro w53 s56 ch54 m55
              replace hbase := hbase.chg ch54 (is_ne rfl)
              replace r_g_v := r_g_v.chg ch54 (is_ne rfl)
              replace bx5 := bx5.chg ch54 (is_ne rfl)
              replace bx10 := bx10.chg ch54 (is_ne rfl)
              replace bx47 := bx47.chg ch54 (is_ne rfl)
              replace bx50 := bx50.chg ch54 (is_ne rfl)
              clear m22
              refine x_pure (v := Value.int .i64 s56) 5 rfl (by kernel_rfl) (by kernel_rfl) rfl (fun w => e_extract rfl rfl) ?_
              refine x_one 6 rfl (by kernel_rfl) rfl ?_
              refine o_entryStore rfl m55 rfl rfl ?_
              intro w57 ch58 m59
              replace hbase := hbase.chg ch58 (is_ne rfl)
              replace r_g_v := r_g_v.chg ch58 (is_ne rfl)
              replace bx5 := bx5.chg ch58 (is_ne rfl)
              replace bx10 := bx10.chg ch58 (is_ne rfl)
              replace bx47 := bx47.chg ch58 (is_ne rfl)
              replace bx50 := bx50.chg ch58 (is_ne rfl)
              clear m55
              refine x_nil (by kernel_rfl) ?_
              exact mid (g43) _ _ ⟨hbase, (by exact zs1), (by exact zs2), (by exact zs4), (by exact zs5), (by exact zs16), (by exact zs17), (by exact zs18), r_g_v, bx5, bx10, bx50, m59⟩
            · skip
              refine o_mapEntry (min (gI g.2 (k : Int)).1 (gI g.2 (k : Int)).2, max (gI g.2 (k : Int)).1 (gI g.2 (k : Int)).2) Try.underlying66 (keyOk_pair Try.underlying60 Try.underlying3 tp3_b) tp3_b rfl m22 rfl rfl ?_
              intro w60 s63 ch61 m62
              replace hbase := hbase.chg ch61 (is_ne rfl)
              replace r_g_v := r_g_v.chg ch61 (is_ne rfl)
              replace bx5 := bx5.chg ch61 (is_ne rfl)
              replace bx10 := bx10.chg ch61 (is_ne rfl)
              replace bx47 := bx47.chg ch61 (is_ne rfl)
              replace bx50 := bx50.chg ch61 (is_ne rfl)
              clear m22
              refine x_pure (v := Value.int .i64 s63) 5 rfl (by kernel_rfl) (by kernel_rfl) rfl (fun w => e_extract rfl rfl) ?_
              refine x_one 2 rfl (by kernel_rfl) rfl ?_
              refine o_of_val (v := Value.int .i64 (seen (min (gI g.2 (k : Int)).1 (gI g.2 (k : Int)).2, max (gI g.2 (k : Int)).1 (gI g.2 (k : Int)).2))) (e_lookup (min (gI g.2 (k : Int)).1 (gI g.2 (k : Int)).2, max (gI g.2 (k : Int)).1 (gI g.2 (k : Int)).2) Try.underlying66 (keyOk_pair Try.underlying60 Try.underlying3 tp3_b) tp3_b rfl m62.mp rfl rfl) ?_
              refine x_pure (v := Value.int .i64 ((seen (min (gI g.2 (k : Int)).1 (gI g.2 (k : Int)).2, max (gI g.2 (k : Int)).1 (gI g.2 (k : Int)).2)) + 1)) 3 rfl (by kernel_rfl) (by kernel_rfl) rfl (fun w => e_add (m := seen (min (gI g.2 (k : Int)).1 (gI g.2 (k : Int)).2, max (gI g.2 (k : Int)).1 (gI g.2 (k : Int)).2)) (n := 1) rfl rfl (by omega)) ?_
              refine x_one 6 rfl (by kernel_rfl) rfl ?_
              refine o_entryStore rfl m62 rfl rfl ?_
              intro w64 ch65 m66
              replace hbase := hbase.chg ch65 (is_ne rfl)
              replace r_g_v := r_g_v.chg ch65 (is_ne rfl)
              replace bx5 := bx5.chg ch65 (is_ne rfl)
              replace bx10 := bx10.chg ch65 (is_ne rfl)
              replace bx47 := bx47.chg ch65 (is_ne rfl)
              replace bx50 := bx50.chg ch65 (is_ne rfl)
              clear m62
              refine x_nil (by kernel_rfl) ?_
              exact mid (g43) _ _ ⟨hbase, (by exact zs1), (by exact zs2), (by exact zs4), (by exact zs5), (by exact zs16), (by exact zs17), (by exact zs18), r_g_v, bx5, bx10, bx50, m66⟩
          clear r_g_v
          clear bx5
          clear bx10
          clear m22
          clear bx47
          clear bx50
          clear hbase
          rintro g69 f67 w68 ⟨hbase, zs1, zs2, zs4, zs5, zs16, zs17, zs18, r_g_v, bx5, bx10, bx50, m57⟩
          refine run_inBlock ?_
          refine run_region rfl ?_
          refine l_val (v := Value.int .i64 ((k : Int) + 1)) rfl (e_add (m := (k : Int)) (n := 1) (by exact zs18) rfl (by omega)) ?_
          refine l_val (v := Value.int .i64 ((k : Int) + 1)) rfl (e_move rfl) ?_
          refine l_nil ?_
          refine back6 (l_0 + 1, l_1 + 1, k + 1, (fun q => if q = (min (gI g.2 (k : Int)).1 (gI g.2 (k : Int)).2, max (gI g.2 (k : Int)).1 (gI g.2 (k : Int)).2) then ((seen (min (gI g.2 (k : Int)).1 (gI g.2 (k : Int)).2, max (gI g.2 (k : Int)).1 (gI g.2 (k : Int)).2)) + 1) else seen q), g69) _ _ ⟨hbase, (by exact zs1), (by exact zs2), (by exact zs4), (by exact zs5), (by exact zs16), (by exact zs17), rfl, r_g_v, bx5, bx10, bx50, m57, by omega, ?_⟩ ?_
          · show LookInv (l_0 + 1) (l_1 + 1) (fun q => if q = (min (gI g.2 (k : Int)).1 (gI g.2 (k : Int)).2, max (gI g.2 (k : Int)).1 (gI g.2 (k : Int)).2) then ((seen (min (gI g.2 (k : Int)).1 (gI g.2 (k : Int)).2, max (gI g.2 (k : Int)).1 (gI g.2 (k : Int)).2)) + 1) else seen q) g (k + 1)
            first
              | exact hinv.tt (by assumption) p8 p11
              | exact hinv.tf (by assumption) p8 p11
              | exact hinv.ft (by assumption) p8 p11
              | exact hinv.ff (by assumption) p8 p11
          · show Int.toNat (((List.length g.2 : Int) : Int) - ((k + 1) : Int)) < Int.toNat (((List.length g.2 : Int) : Int) - (k : Int))
            omega
        · skip
          refine run_cond_f rfl (decide_eq_false p11) ?_
          refine run_skip ?_
          refine region_mid (σ := Cmap) (fun gq f w => Base w0 gq w ∧ f 1 = Value.pointer (some ⟨b3, 0, none⟩) ∧ f 2 = Value.pointer (some ⟨b8, 0, none⟩) ∧ f 4 = Value.pointer (some ⟨b15, 0, none⟩) ∧ f 5 = v20 ∧ f 16 = g_v ∧ f 17 = Value.int .i64 (List.length g.2 : Int) ∧ f 18 = Value.int .i64 (k : Int) ∧ Sl gq (is 0) w g_v g.2 ∧ Bx gq (is 1) w b3 [Value.int .i64 g.1, g_v] ∧ Bx gq (is 2) w b8 [Value.int .i64 0, Value.int .i64 0, Value.int .i64 0, Value.int .i64 0, Value.bool false] ∧ Bx gq (is 3) w b15 [Value.int .i64 (l_0 + 1), Value.int .i64 l_1, Value.int .i64 0, Value.int .i64 0, Value.bool false] ∧ Mp gq (is 4) w v20 (fun q => if q = (min (gI g.2 (k : Int)).1 (gI g.2 (k : Int)).2, max (gI g.2 (k : Int)).1 (gI g.2 (k : Int)).2) then ((seen (min (gI g.2 (k : Int)).1 (gI g.2 (k : Int)).2, max (gI g.2 (k : Int)).1 (gI g.2 (k : Int)).2)) + 1) else seen q)) g43 [0, 1, 3, 5] mixed_b ?_ ?_
          · intro mid
            intro w71 ch70
            replace hbase := hbase.chg ch70 (not_no _)
            replace r_g_v := r_g_v.chg ch70 (not_no _)
            replace bx5 := bx5.chg ch70 (not_no _)
            replace bx10 := bx10.chg ch70 (not_no _)
            replace m22 := m22.chg ch70 (not_no _)
            replace bx37 := bx37.chg ch70 (not_no _)
            replace bx47 := bx47.chg ch70 (not_no _)
            refine x_pure (v := v20) 0 rfl (by kernel_rfl) (by kernel_rfl) rfl (fun w => e_move (by exact zs5)) ?_
            refine x_val (v := Value.agg (List.toArray [Value.int .i64 (min (gI g.2 (k : Int)).1 (gI g.2 (k : Int)).2), Value.int .i64 (max (gI g.2 (k : Int)).1 (gI g.2 (k : Int)).2)])) 1 [0] rfl (by kernel_rfl) (by kernel_rfl) rfl (e_load_bxN (ds := [Value.int .i64 (min (gI g.2 (k : Int)).1 (gI g.2 (k : Int)).2), Value.int .i64 (max (gI g.2 (k : Int)).1 (gI g.2 (k : Int)).2)]) tp60_b rfl bx47 rfl rfl) ?_
            refine x_two 2 4 rfl rfl (by kernel_rfl) rfl rfl ?_ ?_
            · skip
              refine o_of_val (v := Value.int .i64 (seen (min (gI g.2 (k : Int)).1 (gI g.2 (k : Int)).2, max (gI g.2 (k : Int)).1 (gI g.2 (k : Int)).2))) (e_lookup (min (gI g.2 (k : Int)).1 (gI g.2 (k : Int)).2, max (gI g.2 (k : Int)).1 (gI g.2 (k : Int)).2) Try.underlying66 (keyOk_pair Try.underlying60 Try.underlying3 tp3_b) tp3_b rfl m22 rfl rfl) ?_
              refine x_pure (v := Value.int .i64 ((seen (min (gI g.2 (k : Int)).1 (gI g.2 (k : Int)).2, max (gI g.2 (k : Int)).1 (gI g.2 (k : Int)).2)) + 1)) 3 rfl (by kernel_rfl) (by kernel_rfl) rfl (fun w => e_add (m := seen (min (gI g.2 (k : Int)).1 (gI g.2 (k : Int)).2, max (gI g.2 (k : Int)).1 (gI g.2 (k : Int)).2)) (n := 1) rfl rfl (by omega)) ?_
              refine x_one 4 rfl (by kernel_rfl) rfl ?_
              refine o_mapEntry (min (gI g.2 (k : Int)).1 (gI g.2 (k : Int)).2, max (gI g.2 (k : Int)).1 (gI g.2 (k : Int)).2) Try.underlying66 (keyOk_pair Try.underlying60 Try.underlying3 tp3_b) tp3_b rfl m22 rfl rfl ?_
              intro w72 s75 ch73 m74
              replace hbase := hbase.chg ch73 (is_ne rfl)
              replace r_g_v := r_g_v.chg ch73 (is_ne rfl)
              replace bx5 := bx5.chg ch73 (is_ne rfl)
              replace bx10 := bx10.chg ch73 (is_ne rfl)
              replace bx37 := bx37.chg ch73 (is_ne rfl)
              replace bx47 := bx47.chg ch73 (is_ne rfl)
              clear m22
              refine x_pure (v := Value.int .i64 s75) 5 rfl (by kernel_rfl) (by kernel_rfl) rfl (fun w => e_extract rfl rfl) ?_
              refine x_one 6 rfl (by kernel_rfl) rfl ?_
              refine o_entryStore rfl m74 rfl rfl ?_
              intro w76 ch77 m78
              replace hbase := hbase.chg ch77 (is_ne rfl)
              replace r_g_v := r_g_v.chg ch77 (is_ne rfl)
              replace bx5 := bx5.chg ch77 (is_ne rfl)
              replace bx10 := bx10.chg ch77 (is_ne rfl)
              replace bx37 := bx37.chg ch77 (is_ne rfl)
              replace bx47 := bx47.chg ch77 (is_ne rfl)
              clear m74
              refine x_nil (by kernel_rfl) ?_
              exact mid (g43) _ _ ⟨hbase, (by exact zs1), (by exact zs2), (by exact zs4), (by exact zs5), (by exact zs16), (by exact zs17), (by exact zs18), r_g_v, bx5, bx10, bx37, m78⟩
            · skip
              refine o_mapEntry (min (gI g.2 (k : Int)).1 (gI g.2 (k : Int)).2, max (gI g.2 (k : Int)).1 (gI g.2 (k : Int)).2) Try.underlying66 (keyOk_pair Try.underlying60 Try.underlying3 tp3_b) tp3_b rfl m22 rfl rfl ?_
              intro w79 s82 ch80 m81
              replace hbase := hbase.chg ch80 (is_ne rfl)
              replace r_g_v := r_g_v.chg ch80 (is_ne rfl)
              replace bx5 := bx5.chg ch80 (is_ne rfl)
              replace bx10 := bx10.chg ch80 (is_ne rfl)
              replace bx37 := bx37.chg ch80 (is_ne rfl)
              replace bx47 := bx47.chg ch80 (is_ne rfl)
              clear m22
              refine x_pure (v := Value.int .i64 s82) 5 rfl (by kernel_rfl) (by kernel_rfl) rfl (fun w => e_extract rfl rfl) ?_
              refine x_one 2 rfl (by kernel_rfl) rfl ?_
              refine o_of_val (v := Value.int .i64 (seen (min (gI g.2 (k : Int)).1 (gI g.2 (k : Int)).2, max (gI g.2 (k : Int)).1 (gI g.2 (k : Int)).2))) (e_lookup (min (gI g.2 (k : Int)).1 (gI g.2 (k : Int)).2, max (gI g.2 (k : Int)).1 (gI g.2 (k : Int)).2) Try.underlying66 (keyOk_pair Try.underlying60 Try.underlying3 tp3_b) tp3_b rfl m81.mp rfl rfl) ?_
              refine x_pure (v := Value.int .i64 ((seen (min (gI g.2 (k : Int)).1 (gI g.2 (k : Int)).2, max (gI g.2 (k : Int)).1 (gI g.2 (k : Int)).2)) + 1)) 3 rfl (by kernel_rfl) (by kernel_rfl) rfl (fun w => e_add (m := seen (min (gI g.2 (k : Int)).1 (gI g.2 (k : Int)).2, max (gI g.2 (k : Int)).1 (gI g.2 (k : Int)).2)) (n := 1) rfl rfl (by omega)) ?_
              refine x_one 6 rfl (by kernel_rfl) rfl ?_
              refine o_entryStore rfl m81 rfl rfl ?_
              intro w83 ch84 m85
              replace hbase := hbase.chg ch84 (is_ne rfl)
              replace r_g_v := r_g_v.chg ch84 (is_ne rfl)
              replace bx5 := bx5.chg ch84 (is_ne rfl)
              replace bx10 := bx10.chg ch84 (is_ne rfl)
              replace bx37 := bx37.chg ch84 (is_ne rfl)
              replace bx47 := bx47.chg ch84 (is_ne rfl)
              clear m81
              refine x_nil (by kernel_rfl) ?_
              exact mid (g43) _ _ ⟨hbase, (by exact zs1), (by exact zs2), (by exact zs4), (by exact zs5), (by exact zs16), (by exact zs17), (by exact zs18), r_g_v, bx5, bx10, bx37, m85⟩
          clear r_g_v
          clear bx5
          clear bx10
          clear m22
          clear bx37
          clear bx47
          clear hbase
          rintro g88 f86 w87 ⟨hbase, zs1, zs2, zs4, zs5, zs16, zs17, zs18, r_g_v, bx5, bx10, bx37, m76⟩
          refine run_inBlock ?_
          refine run_region rfl ?_
          refine l_val (v := Value.int .i64 ((k : Int) + 1)) rfl (e_add (m := (k : Int)) (n := 1) (by exact zs18) rfl (by omega)) ?_
          refine l_val (v := Value.int .i64 ((k : Int) + 1)) rfl (e_move rfl) ?_
          refine l_nil ?_
          refine back6 (l_0 + 1, l_1, k + 1, (fun q => if q = (min (gI g.2 (k : Int)).1 (gI g.2 (k : Int)).2, max (gI g.2 (k : Int)).1 (gI g.2 (k : Int)).2) then ((seen (min (gI g.2 (k : Int)).1 (gI g.2 (k : Int)).2, max (gI g.2 (k : Int)).1 (gI g.2 (k : Int)).2)) + 1) else seen q), g88) _ _ ⟨hbase, (by exact zs1), (by exact zs2), (by exact zs4), (by exact zs5), (by exact zs16), (by exact zs17), rfl, r_g_v, bx5, bx10, bx37, m76, by omega, ?_⟩ ?_
          · show LookInv (l_0 + 1) l_1 (fun q => if q = (min (gI g.2 (k : Int)).1 (gI g.2 (k : Int)).2, max (gI g.2 (k : Int)).1 (gI g.2 (k : Int)).2) then ((seen (min (gI g.2 (k : Int)).1 (gI g.2 (k : Int)).2, max (gI g.2 (k : Int)).1 (gI g.2 (k : Int)).2)) + 1) else seen q) g (k + 1)
            first
              | exact hinv.tt (by assumption) p8 p11
              | exact hinv.tf (by assumption) p8 p11
              | exact hinv.ft (by assumption) p8 p11
              | exact hinv.ff (by assumption) p8 p11
          · show Int.toNat (((List.length g.2 : Int) : Int) - ((k + 1) : Int)) < Int.toNat (((List.length g.2 : Int) : Int) - (k : Int))
            omega
      · skip
        refine run_cond_f rfl (decide_eq_false p8) ?_
        refine run_skip ?_
        refine run_seq ?_
        refine run_region rfl ?_
        refine l_val (v := Value.agg (List.toArray [Value.int .i64 ((gI g.2 (k : Int)).1), Value.int .i64 ((gI g.2 (k : Int)).2)])) rfl (e_load_bxN (ds := [Value.int .i64 ((gI g.2 (k : Int)).1), Value.int .i64 ((gI g.2 (k : Int)).2)]) tp60_b rfl bx34 rfl rfl) ?_
        refine l_op rfl ?_
        refine o_call (v := Value.agg (List.toArray [Value.int .i64 (min (gI g.2 (k : Int)).1 (gI g.2 (k : Int)).2), Value.int .i64 (max (gI g.2 (k : Int)).1 (gI g.2 (k : Int)).2)])) (e_call (vals := [Value.agg (List.toArray [Value.int .i64 ((gI g.2 (k : Int)).1), Value.int .i64 ((gI g.2 (k : Int)).2)])]) Try.func43 bd43_b nm43_b rfl) (level_ok w32 (gI g.2 (k : Int))) ?_
        intro w89 hb90
        replace hb90 := chg_below hb90 g30
        replace hbase := hbase.chg hb90 (not_no _)
        replace r_g_v := r_g_v.chg hb90 (not_no _)
        replace bx5 := bx5.chg hb90 (not_no _)
        replace bx10 := bx10.chg hb90 (not_no _)
        replace bx17 := bx17.chg hb90 (not_no _)
        replace m22 := m22.chg hb90 (not_no _)
        replace bx34 := bx34.chg hb90 (not_no _)
        refine l_op rfl ?_
        refine o_alloc g30 (is 6) (6, 0) rfl tp60_b ?_
        intro g94 w91 b93 ch92 bx95
        replace hbase := hbase.chg ch92 (not_no _)
        replace r_g_v := r_g_v.chg ch92 (not_no _)
        replace bx5 := bx5.chg ch92 (not_no _)
        replace bx10 := bx10.chg ch92 (not_no _)
        replace bx17 := bx17.chg ch92 (not_no _)
        replace m22 := m22.chg ch92 (not_no _)
        replace bx34 := bx34.chg ch92 (not_no _)
        replace bx95 : Bx g94 (is 6) w91 b93 [Value.int .i64 0, Value.int .i64 0] := bx95
        refine l_op rfl ?_
        refine o_store_bx (cs' := [Value.int .i64 (min (gI g.2 (k : Int)).1 (gI g.2 (k : Int)).2), Value.int .i64 (max (gI g.2 (k : Int)).1 (gI g.2 (k : Int)).2)]) tp60_b rfl rfl bx95 rfl (Nat.le_of_ble_eq_true rfl) (AllOne.all (.cons rfl (.cons rfl .nil))) rfl ?_
        intro w96 ch97 bx98
        replace hbase := hbase.chg ch97 (is_ne rfl)
        replace r_g_v := r_g_v.chg ch97 (is_ne rfl)
        replace bx5 := bx5.chg ch97 (is_ne rfl)
        replace bx10 := bx10.chg ch97 (is_ne rfl)
        replace bx17 := bx17.chg ch97 (is_ne rfl)
        replace m22 := m22.chg ch97 (is_ne rfl)
        replace bx34 := bx34.chg ch97 (is_ne rfl)
        clear bx95
        refine l_nil ?_
        refine run_seq ?_
        refine run_seq ?_
        clear bx34
        refine run_region rfl ?_
        refine l_val (v := v20) rfl (e_move (by exact zs5)) ?_
        refine l_val (v := Value.agg (List.toArray [Value.int .i64 (min (gI g.2 (k : Int)).1 (gI g.2 (k : Int)).2), Value.int .i64 (max (gI g.2 (k : Int)).1 (gI g.2 (k : Int)).2)])) rfl (e_load_bxN (ds := [Value.int .i64 (min (gI g.2 (k : Int)).1 (gI g.2 (k : Int)).2), Value.int .i64 (max (gI g.2 (k : Int)).1 (gI g.2 (k : Int)).2)]) tp60_b rfl bx98 rfl rfl) ?_
        refine l_val (v := Value.int .i64 (seen (min (gI g.2 (k : Int)).1 (gI g.2 (k : Int)).2, max (gI g.2 (k : Int)).1 (gI g.2 (k : Int)).2))) rfl (e_lookup (min (gI g.2 (k : Int)).1 (gI g.2 (k : Int)).2, max (gI g.2 (k : Int)).1 (gI g.2 (k : Int)).2) Try.underlying66 (keyOk_pair Try.underlying60 Try.underlying3 tp3_b) tp3_b rfl m22 rfl rfl) ?_
        refine l_val (v := Value.bool (decide (0 < (seen (min (gI g.2 (k : Int)).1 (gI g.2 (k : Int)).2, max (gI g.2 (k : Int)).1 (gI g.2 (k : Int)).2))))) rfl (e_gtr (m := seen (min (gI g.2 (k : Int)).1 (gI g.2 (k : Int)).2, max (gI g.2 (k : Int)).1 (gI g.2 (k : Int)).2)) (n := 0) rfl rfl) ?_
        refine l_nil ?_
        by_cases p11 : 0 < (seen (min (gI g.2 (k : Int)).1 (gI g.2 (k : Int)).2, max (gI g.2 (k : Int)).1 (gI g.2 (k : Int)).2))
        · skip
          refine run_cond_t rfl (decide_eq_true p11) ?_
          refine run_region rfl ?_
          refine l_val (v := Value.pointer (some ⟨b15, 1, none⟩)) rfl (e_fieldAddr Try.underlying48 rfl rfl (by exact zs4) rfl) ?_
          refine l_val (v := Value.int .i64 l_1) rfl (e_load_bx1 tp3_b rfl bx17 rfl) ?_
          refine l_val (v := Value.int .i64 (l_1 + 1)) rfl (e_add (m := l_1) (n := 1) rfl rfl (by omega)) ?_
          refine l_val (v := Value.pointer (some ⟨b15, 1, none⟩)) rfl (e_fieldAddr Try.underlying48 rfl rfl (by exact zs4) rfl) ?_
          refine l_op rfl ?_
          refine o_store_bx (cs' := [Value.int .i64 l_0, Value.int .i64 (l_1 + 1), Value.int .i64 0, Value.int .i64 0, Value.bool false]) tp3_b rfl rfl bx17 rfl (Nat.le_of_ble_eq_true rfl) (AllOne.all (.cons rfl .nil)) rfl ?_
          intro w99 ch100 bx101
          replace hbase := hbase.chg ch100 (is_ne rfl)
          replace r_g_v := r_g_v.chg ch100 (is_ne rfl)
          replace bx5 := bx5.chg ch100 (is_ne rfl)
          replace bx10 := bx10.chg ch100 (is_ne rfl)
          replace m22 := m22.chg ch100 (is_ne rfl)
          replace bx98 := bx98.chg ch100 (is_ne rfl)
          clear bx17
          refine l_nil ?_
          refine region_mid (σ := Cmap) (fun gq f w => Base w0 gq w ∧ f 1 = Value.pointer (some ⟨b3, 0, none⟩) ∧ f 2 = Value.pointer (some ⟨b8, 0, none⟩) ∧ f 4 = Value.pointer (some ⟨b15, 0, none⟩) ∧ f 5 = v20 ∧ f 16 = g_v ∧ f 17 = Value.int .i64 (List.length g.2 : Int) ∧ f 18 = Value.int .i64 (k : Int) ∧ Sl gq (is 0) w g_v g.2 ∧ Bx gq (is 1) w b3 [Value.int .i64 g.1, g_v] ∧ Bx gq (is 2) w b8 [Value.int .i64 0, Value.int .i64 0, Value.int .i64 0, Value.int .i64 0, Value.bool false] ∧ Bx gq (is 3) w b15 [Value.int .i64 l_0, Value.int .i64 (l_1 + 1), Value.int .i64 0, Value.int .i64 0, Value.bool false] ∧ Mp gq (is 4) w v20 (fun q => if q = (min (gI g.2 (k : Int)).1 (gI g.2 (k : Int)).2, max (gI g.2 (k : Int)).1 (gI g.2 (k : Int)).2) then ((seen (min (gI g.2 (k : Int)).1 (gI g.2 (k : Int)).2, max (gI g.2 (k : Int)).1 (gI g.2 (k : Int)).2)) + 1) else seen q)) g94 [0, 1, 3, 5] mixed_b ?_ ?_
          · intro mid
            intro w103 ch102
            replace hbase := hbase.chg ch102 (not_no _)
            replace r_g_v := r_g_v.chg ch102 (not_no _)
            replace bx5 := bx5.chg ch102 (not_no _)
            replace bx10 := bx10.chg ch102 (not_no _)
            replace m22 := m22.chg ch102 (not_no _)
            replace bx98 := bx98.chg ch102 (not_no _)
            replace bx101 := bx101.chg ch102 (not_no _)
            refine x_pure (v := v20) 0 rfl (by kernel_rfl) (by kernel_rfl) rfl (fun w => e_move (by exact zs5)) ?_
            refine x_val (v := Value.agg (List.toArray [Value.int .i64 (min (gI g.2 (k : Int)).1 (gI g.2 (k : Int)).2), Value.int .i64 (max (gI g.2 (k : Int)).1 (gI g.2 (k : Int)).2)])) 1 [0] rfl (by kernel_rfl) (by kernel_rfl) rfl (e_load_bxN (ds := [Value.int .i64 (min (gI g.2 (k : Int)).1 (gI g.2 (k : Int)).2), Value.int .i64 (max (gI g.2 (k : Int)).1 (gI g.2 (k : Int)).2)]) tp60_b rfl bx98 rfl rfl) ?_
            refine x_two 2 4 rfl rfl (by kernel_rfl) rfl rfl ?_ ?_
            · skip
              refine o_of_val (v := Value.int .i64 (seen (min (gI g.2 (k : Int)).1 (gI g.2 (k : Int)).2, max (gI g.2 (k : Int)).1 (gI g.2 (k : Int)).2))) (e_lookup (min (gI g.2 (k : Int)).1 (gI g.2 (k : Int)).2, max (gI g.2 (k : Int)).1 (gI g.2 (k : Int)).2) Try.underlying66 (keyOk_pair Try.underlying60 Try.underlying3 tp3_b) tp3_b rfl m22 rfl rfl) ?_
              refine x_pure (v := Value.int .i64 ((seen (min (gI g.2 (k : Int)).1 (gI g.2 (k : Int)).2, max (gI g.2 (k : Int)).1 (gI g.2 (k : Int)).2)) + 1)) 3 rfl (by kernel_rfl) (by kernel_rfl) rfl (fun w => e_add (m := seen (min (gI g.2 (k : Int)).1 (gI g.2 (k : Int)).2, max (gI g.2 (k : Int)).1 (gI g.2 (k : Int)).2)) (n := 1) rfl rfl (by omega)) ?_
              refine x_one 4 rfl (by kernel_rfl) rfl ?_
              refine o_mapEntry (min (gI g.2 (k : Int)).1 (gI g.2 (k : Int)).2, max (gI g.2 (k : Int)).1 (gI g.2 (k : Int)).2) Try.underlying66 (keyOk_pair Try.underlying60 Try.underlying3 tp3_b) tp3_b rfl m22 rfl rfl ?_
              intro w104 s107 ch105 m106
              replace hbase := hbase.chg ch105 (is_ne rfl)
              replace r_g_v := r_g_v.chg ch105 (is_ne rfl)
              replace bx5 := bx5.chg ch105 (is_ne rfl)
              replace bx10 := bx10.chg ch105 (is_ne rfl)
              replace bx98 := bx98.chg ch105 (is_ne rfl)
              replace bx101 := bx101.chg ch105 (is_ne rfl)
              clear m22
              refine x_pure (v := Value.int .i64 s107) 5 rfl (by kernel_rfl) (by kernel_rfl) rfl (fun w => e_extract rfl rfl) ?_
              refine x_one 6 rfl (by kernel_rfl) rfl ?_
              refine o_entryStore rfl m106 rfl rfl ?_
              intro w108 ch109 m110
              replace hbase := hbase.chg ch109 (is_ne rfl)
              replace r_g_v := r_g_v.chg ch109 (is_ne rfl)
              replace bx5 := bx5.chg ch109 (is_ne rfl)
              replace bx10 := bx10.chg ch109 (is_ne rfl)
              replace bx98 := bx98.chg ch109 (is_ne rfl)
              replace bx101 := bx101.chg ch109 (is_ne rfl)
              clear m106
              refine x_nil (by kernel_rfl) ?_
              exact mid (g94) _ _ ⟨hbase, (by exact zs1), (by exact zs2), (by exact zs4), (by exact zs5), (by exact zs16), (by exact zs17), (by exact zs18), r_g_v, bx5, bx10, bx101, m110⟩
            · skip
              refine o_mapEntry (min (gI g.2 (k : Int)).1 (gI g.2 (k : Int)).2, max (gI g.2 (k : Int)).1 (gI g.2 (k : Int)).2) Try.underlying66 (keyOk_pair Try.underlying60 Try.underlying3 tp3_b) tp3_b rfl m22 rfl rfl ?_
              intro w111 s114 ch112 m113
              replace hbase := hbase.chg ch112 (is_ne rfl)
              replace r_g_v := r_g_v.chg ch112 (is_ne rfl)
              replace bx5 := bx5.chg ch112 (is_ne rfl)
              replace bx10 := bx10.chg ch112 (is_ne rfl)
              replace bx98 := bx98.chg ch112 (is_ne rfl)
              replace bx101 := bx101.chg ch112 (is_ne rfl)
              clear m22
              refine x_pure (v := Value.int .i64 s114) 5 rfl (by kernel_rfl) (by kernel_rfl) rfl (fun w => e_extract rfl rfl) ?_
              refine x_one 2 rfl (by kernel_rfl) rfl ?_
              refine o_of_val (v := Value.int .i64 (seen (min (gI g.2 (k : Int)).1 (gI g.2 (k : Int)).2, max (gI g.2 (k : Int)).1 (gI g.2 (k : Int)).2))) (e_lookup (min (gI g.2 (k : Int)).1 (gI g.2 (k : Int)).2, max (gI g.2 (k : Int)).1 (gI g.2 (k : Int)).2) Try.underlying66 (keyOk_pair Try.underlying60 Try.underlying3 tp3_b) tp3_b rfl m113.mp rfl rfl) ?_
              refine x_pure (v := Value.int .i64 ((seen (min (gI g.2 (k : Int)).1 (gI g.2 (k : Int)).2, max (gI g.2 (k : Int)).1 (gI g.2 (k : Int)).2)) + 1)) 3 rfl (by kernel_rfl) (by kernel_rfl) rfl (fun w => e_add (m := seen (min (gI g.2 (k : Int)).1 (gI g.2 (k : Int)).2, max (gI g.2 (k : Int)).1 (gI g.2 (k : Int)).2)) (n := 1) rfl rfl (by omega)) ?_
              refine x_one 6 rfl (by kernel_rfl) rfl ?_
              refine o_entryStore rfl m113 rfl rfl ?_
              intro w115 ch116 m117
              replace hbase := hbase.chg ch116 (is_ne rfl)
              replace r_g_v := r_g_v.chg ch116 (is_ne rfl)
              replace bx5 := bx5.chg ch116 (is_ne rfl)
              replace bx10 := bx10.chg ch116 (is_ne rfl)
              replace bx98 := bx98.chg ch116 (is_ne rfl)
              replace bx101 := bx101.chg ch116 (is_ne rfl)
              clear m113
              refine x_nil (by kernel_rfl) ?_
              exact mid (g94) _ _ ⟨hbase, (by exact zs1), (by exact zs2), (by exact zs4), (by exact zs5), (by exact zs16), (by exact zs17), (by exact zs18), r_g_v, bx5, bx10, bx101, m117⟩
          clear r_g_v
          clear bx5
          clear bx10
          clear m22
          clear bx98
          clear bx101
          clear hbase
          rintro g120 f118 w119 ⟨hbase, zs1, zs2, zs4, zs5, zs16, zs17, zs18, r_g_v, bx5, bx10, bx101, m108⟩
          refine run_inBlock ?_
          refine run_region rfl ?_
          refine l_val (v := Value.int .i64 ((k : Int) + 1)) rfl (e_add (m := (k : Int)) (n := 1) (by exact zs18) rfl (by omega)) ?_
          refine l_val (v := Value.int .i64 ((k : Int) + 1)) rfl (e_move rfl) ?_
          refine l_nil ?_
          refine back6 (l_0, l_1 + 1, k + 1, (fun q => if q = (min (gI g.2 (k : Int)).1 (gI g.2 (k : Int)).2, max (gI g.2 (k : Int)).1 (gI g.2 (k : Int)).2) then ((seen (min (gI g.2 (k : Int)).1 (gI g.2 (k : Int)).2, max (gI g.2 (k : Int)).1 (gI g.2 (k : Int)).2)) + 1) else seen q), g120) _ _ ⟨hbase, (by exact zs1), (by exact zs2), (by exact zs4), (by exact zs5), (by exact zs16), (by exact zs17), rfl, r_g_v, bx5, bx10, bx101, m108, by omega, ?_⟩ ?_
          · show LookInv l_0 (l_1 + 1) (fun q => if q = (min (gI g.2 (k : Int)).1 (gI g.2 (k : Int)).2, max (gI g.2 (k : Int)).1 (gI g.2 (k : Int)).2) then ((seen (min (gI g.2 (k : Int)).1 (gI g.2 (k : Int)).2, max (gI g.2 (k : Int)).1 (gI g.2 (k : Int)).2)) + 1) else seen q) g (k + 1)
            first
              | exact hinv.tt (by assumption) p8 p11
              | exact hinv.tf (by assumption) p8 p11
              | exact hinv.ft (by assumption) p8 p11
              | exact hinv.ff (by assumption) p8 p11
          · show Int.toNat (((List.length g.2 : Int) : Int) - ((k + 1) : Int)) < Int.toNat (((List.length g.2 : Int) : Int) - (k : Int))
            omega
        · skip
          refine run_cond_f rfl (decide_eq_false p11) ?_
          refine run_skip ?_
          refine region_mid (σ := Cmap) (fun gq f w => Base w0 gq w ∧ f 1 = Value.pointer (some ⟨b3, 0, none⟩) ∧ f 2 = Value.pointer (some ⟨b8, 0, none⟩) ∧ f 4 = Value.pointer (some ⟨b15, 0, none⟩) ∧ f 5 = v20 ∧ f 16 = g_v ∧ f 17 = Value.int .i64 (List.length g.2 : Int) ∧ f 18 = Value.int .i64 (k : Int) ∧ Sl gq (is 0) w g_v g.2 ∧ Bx gq (is 1) w b3 [Value.int .i64 g.1, g_v] ∧ Bx gq (is 2) w b8 [Value.int .i64 0, Value.int .i64 0, Value.int .i64 0, Value.int .i64 0, Value.bool false] ∧ Bx gq (is 3) w b15 [Value.int .i64 l_0, Value.int .i64 l_1, Value.int .i64 0, Value.int .i64 0, Value.bool false] ∧ Mp gq (is 4) w v20 (fun q => if q = (min (gI g.2 (k : Int)).1 (gI g.2 (k : Int)).2, max (gI g.2 (k : Int)).1 (gI g.2 (k : Int)).2) then ((seen (min (gI g.2 (k : Int)).1 (gI g.2 (k : Int)).2, max (gI g.2 (k : Int)).1 (gI g.2 (k : Int)).2)) + 1) else seen q)) g94 [0, 1, 3, 5] mixed_b ?_ ?_
          · intro mid
            intro w122 ch121
            replace hbase := hbase.chg ch121 (not_no _)
            replace r_g_v := r_g_v.chg ch121 (not_no _)
            replace bx5 := bx5.chg ch121 (not_no _)
            replace bx10 := bx10.chg ch121 (not_no _)
            replace bx17 := bx17.chg ch121 (not_no _)
            replace m22 := m22.chg ch121 (not_no _)
            replace bx98 := bx98.chg ch121 (not_no _)
            refine x_pure (v := v20) 0 rfl (by kernel_rfl) (by kernel_rfl) rfl (fun w => e_move (by exact zs5)) ?_
            refine x_val (v := Value.agg (List.toArray [Value.int .i64 (min (gI g.2 (k : Int)).1 (gI g.2 (k : Int)).2), Value.int .i64 (max (gI g.2 (k : Int)).1 (gI g.2 (k : Int)).2)])) 1 [0] rfl (by kernel_rfl) (by kernel_rfl) rfl (e_load_bxN (ds := [Value.int .i64 (min (gI g.2 (k : Int)).1 (gI g.2 (k : Int)).2), Value.int .i64 (max (gI g.2 (k : Int)).1 (gI g.2 (k : Int)).2)]) tp60_b rfl bx98 rfl rfl) ?_
            refine x_two 2 4 rfl rfl (by kernel_rfl) rfl rfl ?_ ?_
            · skip
              refine o_of_val (v := Value.int .i64 (seen (min (gI g.2 (k : Int)).1 (gI g.2 (k : Int)).2, max (gI g.2 (k : Int)).1 (gI g.2 (k : Int)).2))) (e_lookup (min (gI g.2 (k : Int)).1 (gI g.2 (k : Int)).2, max (gI g.2 (k : Int)).1 (gI g.2 (k : Int)).2) Try.underlying66 (keyOk_pair Try.underlying60 Try.underlying3 tp3_b) tp3_b rfl m22 rfl rfl) ?_
              refine x_pure (v := Value.int .i64 ((seen (min (gI g.2 (k : Int)).1 (gI g.2 (k : Int)).2, max (gI g.2 (k : Int)).1 (gI g.2 (k : Int)).2)) + 1)) 3 rfl (by kernel_rfl) (by kernel_rfl) rfl (fun w => e_add (m := seen (min (gI g.2 (k : Int)).1 (gI g.2 (k : Int)).2, max (gI g.2 (k : Int)).1 (gI g.2 (k : Int)).2)) (n := 1) rfl rfl (by omega)) ?_
              refine x_one 4 rfl (by kernel_rfl) rfl ?_
              refine o_mapEntry (min (gI g.2 (k : Int)).1 (gI g.2 (k : Int)).2, max (gI g.2 (k : Int)).1 (gI g.2 (k : Int)).2) Try.underlying66 (keyOk_pair Try.underlying60 Try.underlying3 tp3_b) tp3_b rfl m22 rfl rfl ?_
              intro w123 s126 ch124 m125
              replace hbase := hbase.chg ch124 (is_ne rfl)
              replace r_g_v := r_g_v.chg ch124 (is_ne rfl)
              replace bx5 := bx5.chg ch124 (is_ne rfl)
              replace bx10 := bx10.chg ch124 (is_ne rfl)
              replace bx17 := bx17.chg ch124 (is_ne rfl)
              replace bx98 := bx98.chg ch124 (is_ne rfl)
              clear m22
              refine x_pure (v := Value.int .i64 s126) 5 rfl (by kernel_rfl) (by kernel_rfl) rfl (fun w => e_extract rfl rfl) ?_
              refine x_one 6 rfl (by kernel_rfl) rfl ?_
              refine o_entryStore rfl m125 rfl rfl ?_
              intro w127 ch128 m129
              replace hbase := hbase.chg ch128 (is_ne rfl)
              replace r_g_v := r_g_v.chg ch128 (is_ne rfl)
              replace bx5 := bx5.chg ch128 (is_ne rfl)
              replace bx10 := bx10.chg ch128 (is_ne rfl)
              replace bx17 := bx17.chg ch128 (is_ne rfl)
              replace bx98 := bx98.chg ch128 (is_ne rfl)
              clear m125
              refine x_nil (by kernel_rfl) ?_
              exact mid (g94) _ _ ⟨hbase, (by exact zs1), (by exact zs2), (by exact zs4), (by exact zs5), (by exact zs16), (by exact zs17), (by exact zs18), r_g_v, bx5, bx10, bx17, m129⟩
            · skip
              refine o_mapEntry (min (gI g.2 (k : Int)).1 (gI g.2 (k : Int)).2, max (gI g.2 (k : Int)).1 (gI g.2 (k : Int)).2) Try.underlying66 (keyOk_pair Try.underlying60 Try.underlying3 tp3_b) tp3_b rfl m22 rfl rfl ?_
              intro w130 s133 ch131 m132
              replace hbase := hbase.chg ch131 (is_ne rfl)
              replace r_g_v := r_g_v.chg ch131 (is_ne rfl)
              replace bx5 := bx5.chg ch131 (is_ne rfl)
              replace bx10 := bx10.chg ch131 (is_ne rfl)
              replace bx17 := bx17.chg ch131 (is_ne rfl)
              replace bx98 := bx98.chg ch131 (is_ne rfl)
              clear m22
              refine x_pure (v := Value.int .i64 s133) 5 rfl (by kernel_rfl) (by kernel_rfl) rfl (fun w => e_extract rfl rfl) ?_
              refine x_one 2 rfl (by kernel_rfl) rfl ?_
              refine o_of_val (v := Value.int .i64 (seen (min (gI g.2 (k : Int)).1 (gI g.2 (k : Int)).2, max (gI g.2 (k : Int)).1 (gI g.2 (k : Int)).2))) (e_lookup (min (gI g.2 (k : Int)).1 (gI g.2 (k : Int)).2, max (gI g.2 (k : Int)).1 (gI g.2 (k : Int)).2) Try.underlying66 (keyOk_pair Try.underlying60 Try.underlying3 tp3_b) tp3_b rfl m132.mp rfl rfl) ?_
              refine x_pure (v := Value.int .i64 ((seen (min (gI g.2 (k : Int)).1 (gI g.2 (k : Int)).2, max (gI g.2 (k : Int)).1 (gI g.2 (k : Int)).2)) + 1)) 3 rfl (by kernel_rfl) (by kernel_rfl) rfl (fun w => e_add (m := seen (min (gI g.2 (k : Int)).1 (gI g.2 (k : Int)).2, max (gI g.2 (k : Int)).1 (gI g.2 (k : Int)).2)) (n := 1) rfl rfl (by omega)) ?_
              refine x_one 6 rfl (by kernel_rfl) rfl ?_
              refine o_entryStore rfl m132 rfl rfl ?_
              intro w134 ch135 m136
              replace hbase := hbase.chg ch135 (is_ne rfl)
              replace r_g_v := r_g_v.chg ch135 (is_ne rfl)
              replace bx5 := bx5.chg ch135 (is_ne rfl)
              replace bx10 := bx10.chg ch135 (is_ne rfl)
              replace bx17 := bx17.chg ch135 (is_ne rfl)
              replace bx98 := bx98.chg ch135 (is_ne rfl)
              clear m132
              refine x_nil (by kernel_rfl) ?_
              exact mid (g94) _ _ ⟨hbase, (by exact zs1), (by exact zs2), (by exact zs4), (by exact zs5), (by exact zs16), (by exact zs17), (by exact zs18), r_g_v, bx5, bx10, bx17, m136⟩
          clear r_g_v
          clear bx5
          clear bx10
          clear bx17
          clear m22
          clear bx98
          clear hbase
          rintro g139 f137 w138 ⟨hbase, zs1, zs2, zs4, zs5, zs16, zs17, zs18, r_g_v, bx5, bx10, bx17, m127⟩
          refine run_inBlock ?_
          refine run_region rfl ?_
          refine l_val (v := Value.int .i64 ((k : Int) + 1)) rfl (e_add (m := (k : Int)) (n := 1) (by exact zs18) rfl (by omega)) ?_
          refine l_val (v := Value.int .i64 ((k : Int) + 1)) rfl (e_move rfl) ?_
          refine l_nil ?_
          refine back6 (l_0, l_1, k + 1, (fun q => if q = (min (gI g.2 (k : Int)).1 (gI g.2 (k : Int)).2, max (gI g.2 (k : Int)).1 (gI g.2 (k : Int)).2) then ((seen (min (gI g.2 (k : Int)).1 (gI g.2 (k : Int)).2, max (gI g.2 (k : Int)).1 (gI g.2 (k : Int)).2)) + 1) else seen q), g139) _ _ ⟨hbase, (by exact zs1), (by exact zs2), (by exact zs4), (by exact zs5), (by exact zs16), (by exact zs17), rfl, r_g_v, bx5, bx10, bx17, m127, by omega, ?_⟩ ?_
          · show LookInv l_0 l_1 (fun q => if q = (min (gI g.2 (k : Int)).1 (gI g.2 (k : Int)).2, max (gI g.2 (k : Int)).1 (gI g.2 (k : Int)).2) then ((seen (min (gI g.2 (k : Int)).1 (gI g.2 (k : Int)).2, max (gI g.2 (k : Int)).1 (gI g.2 (k : Int)).2)) + 1) else seen q) g (k + 1)
            first
              | exact hinv.tt (by assumption) p8 p11
              | exact hinv.tf (by assumption) p8 p11
              | exact hinv.ft (by assumption) p8 p11
              | exact hinv.ff (by assumption) p8 p11
          · show Int.toNat (((List.length g.2 : Int) : Int) - ((k + 1) : Int)) < Int.toNat (((List.length g.2 : Int) : Int) - (k : Int))
            omega
    · skip
      refine run_cond_f rfl (decide_eq_false p6) ?_
      refine run_exit rfl ?_
      refine run_seq ?_
      refine run_seq ?_
      clear m22
      refine run_region rfl ?_
      refine l_val (v := Value.pointer (some ⟨b3, 0, none⟩)) rfl (e_fieldAddr Try.underlying24 rfl rfl (by exact zs1) rfl) ?_
      refine l_val (v := Value.int .i64 g.1) rfl (e_load_bx1 tp3_b rfl bx5 rfl) ?_
      refine l_val (v := Value.bool (decide (0 < g.1))) rfl (e_gtr (m := g.1) (n := 0) rfl rfl) ?_
      refine l_nil ?_
      by_cases p15 : 0 < g.1
      · skip
        refine run_cond_t rfl (decide_eq_true p15) ?_
        refine run_seq ?_
        refine run_region rfl ?_
        refine l_val (v := Value.agg (List.toArray [Value.int .i64 g.1, g_v])) rfl (e_load_bxN (ds := [Value.int .i64 g.1, g_v]) tp24_b (by exact zs1) bx5 rfl rfl) ?_
        refine l_op rfl ?_
        refine o_callx (e_call (vals := [Value.agg (List.toArray [Value.int .i64 g.1, g_v])]) Try.func42 bd42_b nm42_b rfl) (degrees_ok w25 g g_v (r_g_v).ro (by exact of_decide_eq_true p1)) ?_
        rintro ⟨d141, v143⟩ w140 ⟨fr142, o144⟩
        obtain ⟨g145, hg145⟩ : ∃ q, q = glue w25.heap.size g26 d141 (fun n => if n = 1 then 7 else 0) := ⟨_, rfl⟩
        have ch146 := chg_glue fr142.below g26 d141 (fun n => if n = 1 then 7 else 0)
        rw [← hg145] at ch146
        replace hbase := hbase.chg ch146 (not_no _)
        replace r_g_v := r_g_v.chg ch146 (not_no _)
        replace bx5 := bx5.chg ch146 (not_no _)
        replace bx10 := bx10.chg ch146 (not_no _)
        replace bx17 := bx17.chg ch146 (not_no _)
        replace o144 := o144.glue (γ := g26) (ren := (fun n => if n = 1 then 7 else 0)) (k := 7) fr142.col rfl rfl
        rw [← hg145] at o144
        clear hg145
        refine l_val (v := v143) rfl (e_assign rfl) ?_
        refine l_nil ?_
        clear bx5
        refine run_region rfl ?_
        refine l_val (v := v143) rfl (e_move rfl) ?_
        refine l_op rfl ?_
        refine o_call (v := Value.int .i64 (minL (degS g))) (e_call (vals := [v143]) Try.func44 bd44_b nm44_b rfl) (Min_ok w140 (degS g) v143 (o144.flat).ro (by simp [degS]; omega)) ?_
        intro w147 hb148
        replace hb148 := chg_below hb148 g145
        replace hbase := hbase.chg hb148 (not_no _)
        replace r_g_v := r_g_v.chg hb148 (not_no _)
        replace bx10 := bx10.chg hb148 (not_no _)
        replace bx17 := bx17.chg hb148 (not_no _)
        replace o144 := o144.chg hb148 (not_no _) (not_no _)
        refine l_val (v := v143) rfl (e_move rfl) ?_
        refine l_op rfl ?_
        refine o_call (v := Value.int .i64 (maxL (degS g))) (e_call (vals := [v143]) Try.func45 bd45_b nm45_b rfl) (Max_ok w147 (degS g) v143 (o144.flat).ro (by simp [degS]; omega)) ?_
        intro w149 hb150
        replace hb150 := chg_below hb150 g145
        replace hbase := hbase.chg hb150 (not_no _)
        replace r_g_v := r_g_v.chg hb150 (not_no _)
        replace bx10 := bx10.chg hb150 (not_no _)
        replace bx17 := bx17.chg hb150 (not_no _)
        replace o144 := o144.chg hb150 (not_no _) (not_no _)
        refine l_val (v := Value.pointer (some ⟨b15, 2, none⟩)) rfl (e_fieldAddr Try.underlying48 rfl rfl (by exact zs4) rfl) ?_
        refine l_op rfl ?_
        refine o_store_bx (cs' := [Value.int .i64 l_0, Value.int .i64 l_1, Value.int .i64 (minL (degS g)), Value.int .i64 0, Value.bool false]) tp3_b rfl rfl bx17 rfl (Nat.le_of_ble_eq_true rfl) (AllOne.all (.cons rfl .nil)) rfl ?_
        intro w151 ch152 bx153
        replace hbase := hbase.chg ch152 (is_ne rfl)
        replace r_g_v := r_g_v.chg ch152 (is_ne rfl)
        replace bx10 := bx10.chg ch152 (is_ne rfl)
        replace o144 := o144.chg ch152 (is_ne rfl) (is_ne rfl)
        clear bx17
        refine l_val (v := Value.pointer (some ⟨b15, 3, none⟩)) rfl (e_fieldAddr Try.underlying48 rfl rfl (by exact zs4) rfl) ?_
        refine l_op rfl ?_
        refine o_store_bx (cs' := [Value.int .i64 l_0, Value.int .i64 l_1, Value.int .i64 (minL (degS g)), Value.int .i64 (maxL (degS g)), Value.bool false]) tp3_b rfl rfl bx153 rfl (Nat.le_of_ble_eq_true rfl) (AllOne.all (.cons rfl .nil)) rfl ?_
        intro w154 ch155 bx156
        replace hbase := hbase.chg ch155 (is_ne rfl)
        replace r_g_v := r_g_v.chg ch155 (is_ne rfl)
        replace bx10 := bx10.chg ch155 (is_ne rfl)
        replace o144 := o144.chg ch155 (is_ne rfl) (is_ne rfl)
        clear bx153
        refine l_nil ?_
        refine run_seq ?_
        clear o144
        refine run_region rfl ?_
        refine l_val (v := Value.pointer (some ⟨b15, 0, none⟩)) rfl (e_fieldAddr Try.underlying48 rfl rfl (by exact zs4) rfl) ?_
        refine l_val (v := Value.int .i64 l_0) rfl (e_load_bx1 tp3_b rfl bx156 rfl) ?_
        refine l_val (v := Value.bool (decide (l_0 = 0))) rfl (e_eql (m := l_0) (n := 0) rfl rfl) ?_
        refine l_val (v := Value.bool (decide (l_0 = 0))) rfl (e_move rfl) ?_
        by_cases q62 : l_0 = 0
        · skip
          refine l_val (v := Value.pointer (some ⟨b15, 1, none⟩)) (want_y rfl rfl rfl (decide_eq_true q62)) (e_fieldAddr Try.underlying48 rfl rfl (by exact zs4) rfl) ?_
          refine l_val (v := Value.int .i64 l_1) (want_y rfl rfl rfl (decide_eq_true q62)) (e_load_bx1 tp3_b rfl bx156 rfl) ?_
          refine l_val (v := Value.bool (decide (l_1 = 0))) (want_y rfl rfl rfl (decide_eq_true q62)) (e_eql (m := l_1) (n := 0) rfl rfl) ?_
          refine l_val (v := Value.bool (decide (l_1 = 0))) rfl (e_pick_t rfl (decide_eq_true q62) rfl) ?_
          refine l_val (v := Value.pointer (some ⟨b15, 4, none⟩)) rfl (e_fieldAddr Try.underlying48 rfl rfl (by exact zs4) rfl) ?_
          refine l_op rfl ?_
          refine o_store_bx (cs' := [Value.int .i64 l_0, Value.int .i64 l_1, Value.int .i64 (minL (degS g)), Value.int .i64 (maxL (degS g)), Value.bool (decide (l_1 = 0))]) tp4_b rfl rfl bx156 rfl (Nat.le_of_ble_eq_true rfl) (AllOne.all (.cons rfl .nil)) rfl ?_
          intro w157 ch158 bx159
          replace hbase := hbase.chg ch158 (is_ne rfl)
          replace r_g_v := r_g_v.chg ch158 (is_ne rfl)
          replace bx10 := bx10.chg ch158 (is_ne rfl)
          clear bx156
          refine l_nil ?_
          refine run_seq ?_
          refine run_region rfl ?_
          refine l_val (v := Value.agg (List.toArray [Value.int .i64 l_0, Value.int .i64 l_1, Value.int .i64 (minL (degS g)), Value.int .i64 (maxL (degS g)), Value.bool (decide (l_1 = 0))])) rfl (e_load_bxN (ds := [Value.int .i64 l_0, Value.int .i64 l_1, Value.int .i64 (minL (degS g)), Value.int .i64 (maxL (degS g)), Value.bool (decide (l_1 = 0))]) tp48_b (by exact zs4) bx159 rfl rfl) ?_
          refine l_op rfl ?_
          refine o_store_bx (cs' := [Value.int .i64 l_0, Value.int .i64 l_1, Value.int .i64 (minL (degS g)), Value.int .i64 (maxL (degS g)), Value.bool (decide (l_1 = 0))]) tp48_b (by exact zs2) rfl bx10 rfl (Nat.le_of_ble_eq_true rfl) (AllOne.all (.cons rfl (.cons rfl (.cons rfl (.cons rfl (.cons rfl .nil)))))) rfl ?_
          intro w160 ch161 bx162
          replace hbase := hbase.chg ch161 (is_ne rfl)
          replace r_g_v := r_g_v.chg ch161 (is_ne rfl)
          replace bx159 := bx159.chg ch161 (is_ne rfl)
          clear bx10
          refine l_val (v := Value.int .i64 0) rfl (e_assign rfl) ?_
          refine l_nil ?_
          refine run_ret (vs := [Value.agg (List.toArray [Value.int .i64 l_0, Value.int .i64 l_1, Value.int .i64 (minL (degS g)), Value.int .i64 (maxL (degS g)), Value.bool (decide (l_1 = 0))]), Value.int .i64 0]) Try.func29 (.cell (by exact zs2) (load_bxN (ds := [Value.int .i64 l_0, Value.int .i64 l_1, Value.int .i64 (minL (degS g)), Value.int .i64 (maxL (degS g)), Value.bool (decide (l_1 = 0))]) tp48_b bx162 rfl rfl) (.tmp rfl .nil)) ?_
          -- return 0
          have e0 : ((l_0, l_1, minL (degS g), maxL (degS g), decide (l_1 = 0)) : (Int) × (Int) × (Int) × (Int) × (Bool)) = ((lookR g).1) := by
            first
              | (have hm := of_decide_eq_true p1; have hk : k = g.2.length := by omega
                 subst hk
                 simp only [lookR, if_pos hm, if_pos p15, ← hinv.loops, ← hinv.par]; simp [q62]; done)
              | (have hm := of_decide_eq_true p1; have hk : k = g.2.length := by omega
                 subst hk
                 simp only [lookR, if_pos hm, if_neg p15, ← hinv.loops, ← hinv.par]; simp [q62]; done)
              | (have hm := of_decide_eq_true p1; simp only [lookR, if_pos hm]; done)
              | (have hn : ¬ MayP g := fun h => p1 (decide_eq_true h); simp [lookR, hn]; done)
          have e1 : (0 : Int) = ((lookR g).2) := by
            first
              | (have hm := of_decide_eq_true p1; have hk : k = g.2.length := by omega
                 subst hk
                 simp only [lookR, if_pos hm, if_pos p15, ← hinv.loops, ← hinv.par]; simp [q62]; done)
              | (have hm := of_decide_eq_true p1; have hk : k = g.2.length := by omega
                 subst hk
                 simp only [lookR, if_pos hm, if_neg p15, ← hinv.loops, ← hinv.par]; simp [q62]; done)
              | (have hm := of_decide_eq_true p1; simp only [lookR, if_pos hm]; done)
              | (have hn : ¬ MayP g := fun h => p1 (decide_eq_true h); simp [lookR, hn]; done)
          exact ⟨(congr2 (a := (l_0, l_1, minL (degS g), maxL (degS g), decide (l_1 = 0))) (b := 0) (fun (z0 : (Int) × (Int) × (Int) × (Int) × (Bool)) (z1 : Int) => Ending.returned (Value.tuple (List.toArray [Value.agg (List.toArray [Value.int .i64 z0.1, Value.int .i64 z0.2.1, Value.int .i64 z0.2.2.1, Value.int .i64 z0.2.2.2.1, Value.bool z0.2.2.2.2]), Value.int .i64 z1]))) e0 e1), hbase.below⟩
        · skip
          refine l_skip (want_n rfl rfl rfl (decide_eq_false q62)) ?_
          refine l_skip (want_n rfl rfl rfl (decide_eq_false q62)) ?_
          refine l_skip (want_n rfl rfl rfl (decide_eq_false q62)) ?_
          refine l_val (v := Value.bool false) rfl (e_pick_f rfl (decide_eq_false q62) rfl) ?_
          refine l_val (v := Value.pointer (some ⟨b15, 4, none⟩)) rfl (e_fieldAddr Try.underlying48 rfl rfl (by exact zs4) rfl) ?_
          refine l_op rfl ?_
          refine o_store_bx (cs' := [Value.int .i64 l_0, Value.int .i64 l_1, Value.int .i64 (minL (degS g)), Value.int .i64 (maxL (degS g)), Value.bool false]) tp4_b rfl rfl bx156 rfl (Nat.le_of_ble_eq_true rfl) (AllOne.all (.cons rfl .nil)) rfl ?_
          intro w163 ch164 bx165
          replace hbase := hbase.chg ch164 (is_ne rfl)
          replace r_g_v := r_g_v.chg ch164 (is_ne rfl)
          replace bx10 := bx10.chg ch164 (is_ne rfl)
          clear bx156
          refine l_nil ?_
          refine run_seq ?_
          refine run_region rfl ?_
          refine l_val (v := Value.agg (List.toArray [Value.int .i64 l_0, Value.int .i64 l_1, Value.int .i64 (minL (degS g)), Value.int .i64 (maxL (degS g)), Value.bool false])) rfl (e_load_bxN (ds := [Value.int .i64 l_0, Value.int .i64 l_1, Value.int .i64 (minL (degS g)), Value.int .i64 (maxL (degS g)), Value.bool false]) tp48_b (by exact zs4) bx165 rfl rfl) ?_
          refine l_op rfl ?_
          refine o_store_bx (cs' := [Value.int .i64 l_0, Value.int .i64 l_1, Value.int .i64 (minL (degS g)), Value.int .i64 (maxL (degS g)), Value.bool false]) tp48_b (by exact zs2) rfl bx10 rfl (Nat.le_of_ble_eq_true rfl) (AllOne.all (.cons rfl (.cons rfl (.cons rfl (.cons rfl (.cons rfl .nil)))))) rfl ?_
          intro w166 ch167 bx168
          replace hbase := hbase.chg ch167 (is_ne rfl)
          replace r_g_v := r_g_v.chg ch167 (is_ne rfl)
          replace bx165 := bx165.chg ch167 (is_ne rfl)
          clear bx10
          refine l_val (v := Value.int .i64 0) rfl (e_assign rfl) ?_
          refine l_nil ?_
          refine run_ret (vs := [Value.agg (List.toArray [Value.int .i64 l_0, Value.int .i64 l_1, Value.int .i64 (minL (degS g)), Value.int .i64 (maxL (degS g)), Value.bool false]), Value.int .i64 0]) Try.func29 (.cell (by exact zs2) (load_bxN (ds := [Value.int .i64 l_0, Value.int .i64 l_1, Value.int .i64 (minL (degS g)), Value.int .i64 (maxL (degS g)), Value.bool false]) tp48_b bx168 rfl rfl) (.tmp rfl .nil)) ?_
          -- return 1
          have e0 : ((l_0, l_1, minL (degS g), maxL (degS g), false) : (Int) × (Int) × (Int) × (Int) × (Bool)) = ((lookR g).1) := by
            first
              | (have hm := of_decide_eq_true p1; have hk : k = g.2.length := by omega
                 subst hk
                 simp only [lookR, if_pos hm, if_pos p15, ← hinv.loops, ← hinv.par]; simp [q62]; done)
              | (have hm := of_decide_eq_true p1; have hk : k = g.2.length := by omega
                 subst hk
                 simp only [lookR, if_pos hm, if_neg p15, ← hinv.loops, ← hinv.par]; simp [q62]; done)
              | (have hm := of_decide_eq_true p1; simp only [lookR, if_pos hm]; done)
              | (have hn : ¬ MayP g := fun h => p1 (decide_eq_true h); simp [lookR, hn]; done)
          have e1 : (0 : Int) = ((lookR g).2) := by
            first
              | (have hm := of_decide_eq_true p1; have hk : k = g.2.length := by omega
                 subst hk
                 simp only [lookR, if_pos hm, if_pos p15, ← hinv.loops, ← hinv.par]; simp [q62]; done)
              | (have hm := of_decide_eq_true p1; have hk : k = g.2.length := by omega
                 subst hk
                 simp only [lookR, if_pos hm, if_neg p15, ← hinv.loops, ← hinv.par]; simp [q62]; done)
              | (have hm := of_decide_eq_true p1; simp only [lookR, if_pos hm]; done)
              | (have hn : ¬ MayP g := fun h => p1 (decide_eq_true h); simp [lookR, hn]; done)
          exact ⟨(congr2 (a := (l_0, l_1, minL (degS g), maxL (degS g), false)) (b := 0) (fun (z0 : (Int) × (Int) × (Int) × (Int) × (Bool)) (z1 : Int) => Ending.returned (Value.tuple (List.toArray [Value.agg (List.toArray [Value.int .i64 z0.1, Value.int .i64 z0.2.1, Value.int .i64 z0.2.2.1, Value.int .i64 z0.2.2.2.1, Value.bool z0.2.2.2.2]), Value.int .i64 z1]))) e0 e1), hbase.below⟩
      · skip
        refine run_cond_f rfl (decide_eq_false p15) ?_
        refine run_skip ?_
        refine run_seq ?_
        clear bx5
        refine run_region rfl ?_
        refine l_val (v := Value.pointer (some ⟨b15, 0, none⟩)) rfl (e_fieldAddr Try.underlying48 rfl rfl (by exact zs4) rfl) ?_
        refine l_val (v := Value.int .i64 l_0) rfl (e_load_bx1 tp3_b rfl bx17 rfl) ?_
        refine l_val (v := Value.bool (decide (l_0 = 0))) rfl (e_eql (m := l_0) (n := 0) rfl rfl) ?_
        refine l_val (v := Value.bool (decide (l_0 = 0))) rfl (e_move rfl) ?_
        by_cases q62 : l_0 = 0
        · skip
          refine l_val (v := Value.pointer (some ⟨b15, 1, none⟩)) (want_y rfl rfl rfl (decide_eq_true q62)) (e_fieldAddr Try.underlying48 rfl rfl (by exact zs4) rfl) ?_
          refine l_val (v := Value.int .i64 l_1) (want_y rfl rfl rfl (decide_eq_true q62)) (e_load_bx1 tp3_b rfl bx17 rfl) ?_
          refine l_val (v := Value.bool (decide (l_1 = 0))) (want_y rfl rfl rfl (decide_eq_true q62)) (e_eql (m := l_1) (n := 0) rfl rfl) ?_
          refine l_val (v := Value.bool (decide (l_1 = 0))) rfl (e_pick_t rfl (decide_eq_true q62) rfl) ?_
          refine l_val (v := Value.pointer (some ⟨b15, 4, none⟩)) rfl (e_fieldAddr Try.underlying48 rfl rfl (by exact zs4) rfl) ?_
          refine l_op rfl ?_
          refine o_store_bx (cs' := [Value.int .i64 l_0, Value.int .i64 l_1, Value.int .i64 0, Value.int .i64 0, Value.bool (decide (l_1 = 0))]) tp4_b rfl rfl bx17 rfl (Nat.le_of_ble_eq_true rfl) (AllOne.all (.cons rfl .nil)) rfl ?_
          intro w169 ch170 bx171
          replace hbase := hbase.chg ch170 (is_ne rfl)
          replace r_g_v := r_g_v.chg ch170 (is_ne rfl)
          replace bx10 := bx10.chg ch170 (is_ne rfl)
          clear bx17
          refine l_nil ?_
          refine run_seq ?_
          refine run_region rfl ?_
          refine l_val (v := Value.agg (List.toArray [Value.int .i64 l_0, Value.int .i64 l_1, Value.int .i64 0, Value.int .i64 0, Value.bool (decide (l_1 = 0))])) rfl (e_load_bxN (ds := [Value.int .i64 l_0, Value.int .i64 l_1, Value.int .i64 0, Value.int .i64 0, Value.bool (decide (l_1 = 0))]) tp48_b (by exact zs4) bx171 rfl rfl) ?_
          refine l_op rfl ?_
          refine o_store_bx (cs' := [Value.int .i64 l_0, Value.int .i64 l_1, Value.int .i64 0, Value.int .i64 0, Value.bool (decide (l_1 = 0))]) tp48_b (by exact zs2) rfl bx10 rfl (Nat.le_of_ble_eq_true rfl) (AllOne.all (.cons rfl (.cons rfl (.cons rfl (.cons rfl (.cons rfl .nil)))))) rfl ?_
          intro w172 ch173 bx174
          replace hbase := hbase.chg ch173 (is_ne rfl)
          replace r_g_v := r_g_v.chg ch173 (is_ne rfl)
          replace bx171 := bx171.chg ch173 (is_ne rfl)
          clear bx10
          refine l_val (v := Value.int .i64 0) rfl (e_assign rfl) ?_
          refine l_nil ?_
          refine run_ret (vs := [Value.agg (List.toArray [Value.int .i64 l_0, Value.int .i64 l_1, Value.int .i64 0, Value.int .i64 0, Value.bool (decide (l_1 = 0))]), Value.int .i64 0]) Try.func29 (.cell (by exact zs2) (load_bxN (ds := [Value.int .i64 l_0, Value.int .i64 l_1, Value.int .i64 0, Value.int .i64 0, Value.bool (decide (l_1 = 0))]) tp48_b bx174 rfl rfl) (.tmp rfl .nil)) ?_
          -- return 2
          have e0 : ((l_0, l_1, 0, 0, decide (l_1 = 0)) : (Int) × (Int) × (Int) × (Int) × (Bool)) = ((lookR g).1) := by
            first
              | (have hm := of_decide_eq_true p1; have hk : k = g.2.length := by omega
                 subst hk
                 simp only [lookR, if_pos hm, if_pos p15, ← hinv.loops, ← hinv.par]; simp [q62]; done)
              | (have hm := of_decide_eq_true p1; have hk : k = g.2.length := by omega
                 subst hk
                 simp only [lookR, if_pos hm, if_neg p15, ← hinv.loops, ← hinv.par]; simp [q62]; done)
              | (have hm := of_decide_eq_true p1; simp only [lookR, if_pos hm]; done)
              | (have hn : ¬ MayP g := fun h => p1 (decide_eq_true h); simp [lookR, hn]; done)
          have e1 : (0 : Int) = ((lookR g).2) := by
            first
              | (have hm := of_decide_eq_true p1; have hk : k = g.2.length := by omega
                 subst hk
                 simp only [lookR, if_pos hm, if_pos p15, ← hinv.loops, ← hinv.par]; simp [q62]; done)
              | (have hm := of_decide_eq_true p1; have hk : k = g.2.length := by omega
                 subst hk
                 simp only [lookR, if_pos hm, if_neg p15, ← hinv.loops, ← hinv.par]; simp [q62]; done)
              | (have hm := of_decide_eq_true p1; simp only [lookR, if_pos hm]; done)
              | (have hn : ¬ MayP g := fun h => p1 (decide_eq_true h); simp [lookR, hn]; done)
          exact ⟨(congr2 (a := (l_0, l_1, 0, 0, decide (l_1 = 0))) (b := 0) (fun (z0 : (Int) × (Int) × (Int) × (Int) × (Bool)) (z1 : Int) => Ending.returned (Value.tuple (List.toArray [Value.agg (List.toArray [Value.int .i64 z0.1, Value.int .i64 z0.2.1, Value.int .i64 z0.2.2.1, Value.int .i64 z0.2.2.2.1, Value.bool z0.2.2.2.2]), Value.int .i64 z1]))) e0 e1), hbase.below⟩
        · skip
          refine l_skip (want_n rfl rfl rfl (decide_eq_false q62)) ?_
          refine l_skip (want_n rfl rfl rfl (decide_eq_false q62)) ?_
          refine l_skip (want_n rfl rfl rfl (decide_eq_false q62)) ?_
          refine l_val (v := Value.bool false) rfl (e_pick_f rfl (decide_eq_false q62) rfl) ?_
          refine l_val (v := Value.pointer (some ⟨b15, 4, none⟩)) rfl (e_fieldAddr Try.underlying48 rfl rfl (by exact zs4) rfl) ?_
          refine l_op rfl ?_
          refine o_store_bx (cs' := [Value.int .i64 l_0, Value.int .i64 l_1, Value.int .i64 0, Value.int .i64 0, Value.bool false]) tp4_b rfl rfl bx17 rfl (Nat.le_of_ble_eq_true rfl) (AllOne.all (.cons rfl .nil)) rfl ?_
          intro w175 ch176 bx177
          replace hbase := hbase.chg ch176 (is_ne rfl)
          replace r_g_v := r_g_v.chg ch176 (is_ne rfl)
          replace bx10 := bx10.chg ch176 (is_ne rfl)
          clear bx17
          refine l_nil ?_
          refine run_seq ?_
          refine run_region rfl ?_
          refine l_val (v := Value.agg (List.toArray [Value.int .i64 l_0, Value.int .i64 l_1, Value.int .i64 0, Value.int .i64 0, Value.bool false])) rfl (e_load_bxN (ds := [Value.int .i64 l_0, Value.int .i64 l_1, Value.int .i64 0, Value.int .i64 0, Value.bool false]) tp48_b (by exact zs4) bx177 rfl rfl) ?_
          refine l_op rfl ?_
          refine o_store_bx (cs' := [Value.int .i64 l_0, Value.int .i64 l_1, Value.int .i64 0, Value.int .i64 0, Value.bool false]) tp48_b (by exact zs2) rfl bx10 rfl (Nat.le_of_ble_eq_true rfl) (AllOne.all (.cons rfl (.cons rfl (.cons rfl (.cons rfl (.cons rfl .nil)))))) rfl ?_
          intro w178 ch179 bx180
          replace hbase := hbase.chg ch179 (is_ne rfl)
          replace r_g_v := r_g_v.chg ch179 (is_ne rfl)
          replace bx177 := bx177.chg ch179 (is_ne rfl)
          clear bx10
          refine l_val (v := Value.int .i64 0) rfl (e_assign rfl) ?_
          refine l_nil ?_
          refine run_ret (vs := [Value.agg (List.toArray [Value.int .i64 l_0, Value.int .i64 l_1, Value.int .i64 0, Value.int .i64 0, Value.bool false]), Value.int .i64 0]) Try.func29 (.cell (by exact zs2) (load_bxN (ds := [Value.int .i64 l_0, Value.int .i64 l_1, Value.int .i64 0, Value.int .i64 0, Value.bool false]) tp48_b bx180 rfl rfl) (.tmp rfl .nil)) ?_
          -- return 3
          have e0 : ((l_0, l_1, 0, 0, false) : (Int) × (Int) × (Int) × (Int) × (Bool)) = ((lookR g).1) := by
            first
              | (have hm := of_decide_eq_true p1; have hk : k = g.2.length := by omega
                 subst hk
                 simp only [lookR, if_pos hm, if_pos p15, ← hinv.loops, ← hinv.par]; simp [q62]; done)
              | (have hm := of_decide_eq_true p1; have hk : k = g.2.length := by omega
                 subst hk
                 simp only [lookR, if_pos hm, if_neg p15, ← hinv.loops, ← hinv.par]; simp [q62]; done)
              | (have hm := of_decide_eq_true p1; simp only [lookR, if_pos hm]; done)
              | (have hn : ¬ MayP g := fun h => p1 (decide_eq_true h); simp [lookR, hn]; done)
          have e1 : (0 : Int) = ((lookR g).2) := by
            first
              | (have hm := of_decide_eq_true p1; have hk : k = g.2.length := by omega
                 subst hk
                 simp only [lookR, if_pos hm, if_pos p15, ← hinv.loops, ← hinv.par]; simp [q62]; done)
              | (have hm := of_decide_eq_true p1; have hk : k = g.2.length := by omega
                 subst hk
                 simp only [lookR, if_pos hm, if_neg p15, ← hinv.loops, ← hinv.par]; simp [q62]; done)
              | (have hm := of_decide_eq_true p1; simp only [lookR, if_pos hm]; done)
              | (have hn : ¬ MayP g := fun h => p1 (decide_eq_true h); simp [lookR, hn]; done)
          exact ⟨(congr2 (a := (l_0, l_1, 0, 0, false)) (b := 0) (fun (z0 : (Int) × (Int) × (Int) × (Int) × (Bool)) (z1 : Int) => Ending.returned (Value.tuple (List.toArray [Value.agg (List.toArray [Value.int .i64 z0.1, Value.int .i64 z0.2.1, Value.int .i64 z0.2.2.1, Value.int .i64 z0.2.2.2.1, Value.bool z0.2.2.2.2]), Value.int .i64 z1]))) e0 e1), hbase.below⟩
  · skip
    refine run_cond_t rfl (congrArg Bool.not (Bool.eq_false_iff.2 p1)) ?_
    refine run_seq ?_
    clear bx5
    refine run_region rfl ?_
    refine l_val (v := Value.agg (List.toArray [Value.int .i64 0, Value.int .i64 0, Value.int .i64 0, Value.int .i64 0, Value.bool false])) rfl (e_build (vs := []) rfl (by kernel_rfl)) ?_
    refine l_op rfl ?_
    refine o_store_bx (cs' := [Value.int .i64 0, Value.int .i64 0, Value.int .i64 0, Value.int .i64 0, Value.bool false]) tp48_b rfl rfl bx10 rfl (Nat.le_of_ble_eq_true rfl) (AllOne.all (.cons rfl (.cons rfl (.cons rfl (.cons rfl (.cons rfl .nil)))))) rfl ?_
    intro w181 ch182 bx183
    replace hbase := hbase.chg ch182 (is_ne rfl)
    replace r_g_v := r_g_v.chg ch182 (is_ne rfl)
    clear bx10
    refine l_val (v := Value.int .i64 1) rfl (e_assign rfl) ?_
    refine l_nil ?_
    refine run_ret (vs := [Value.agg (List.toArray [Value.int .i64 0, Value.int .i64 0, Value.int .i64 0, Value.int .i64 0, Value.bool false]), Value.int .i64 1]) Try.func29 (.cell rfl (load_bxN (ds := [Value.int .i64 0, Value.int .i64 0, Value.int .i64 0, Value.int .i64 0, Value.bool false]) tp48_b bx183 rfl rfl) (.tmp rfl .nil)) ?_
    -- return 4
    have e0 : ((0, 0, 0, 0, false) : (Int) × (Int) × (Int) × (Int) × (Bool)) = ((lookR g).1) := by
      first
        | (have hm := of_decide_eq_true p1; have hk : k = g.2.length := by omega
           subst hk
           simp only [lookR, if_pos hm, if_pos p15, ← hinv.loops, ← hinv.par]; simp [q62]; done)
        | (have hm := of_decide_eq_true p1; have hk : k = g.2.length := by omega
           subst hk
           simp only [lookR, if_pos hm, if_neg p15, ← hinv.loops, ← hinv.par]; simp [q62]; done)
        | (have hm := of_decide_eq_true p1; simp only [lookR, if_pos hm]; done)
        | (have hn : ¬ MayP g := fun h => p1 (decide_eq_true h); simp [lookR, hn]; done)
    have e1 : (1 : Int) = ((lookR g).2) := by
      first
        | (have hm := of_decide_eq_true p1; have hk : k = g.2.length := by omega
           subst hk
           simp only [lookR, if_pos hm, if_pos p15, ← hinv.loops, ← hinv.par]; simp [q62]; done)
        | (have hm := of_decide_eq_true p1; have hk : k = g.2.length := by omega
           subst hk
           simp only [lookR, if_pos hm, if_neg p15, ← hinv.loops, ← hinv.par]; simp [q62]; done)
        | (have hm := of_decide_eq_true p1; simp only [lookR, if_pos hm]; done)
        | (have hn : ¬ MayP g := fun h => p1 (decide_eq_true h); simp [lookR, hn]; done)
    exact ⟨(congr2 (a := (0, 0, 0, 0, false)) (b := 1) (fun (z0 : (Int) × (Int) × (Int) × (Int) × (Bool)) (z1 : Int) => Ending.returned (Value.tuple (List.toArray [Value.agg (List.toArray [Value.int .i64 z0.1, Value.int .i64 z0.2.1, Value.int .i64 z0.2.2.1, Value.int .i64 z0.2.2.2.1, Value.bool z0.2.2.2.2]), Value.int .i64 z1]))) e0 e1), hbase.below⟩

theorem sample_ok (w0 : World)  :
    Calls Try.prog 34 #[] w0 (fun ee w => ∃ xx : Cmap × Value, ee = .returned ((fun ⟨δ, rv0⟩ => Value.agg (List.toArray [Value.int .i64 sampleS.1, rv0])) xx) ∧ (fun (⟨δ, rv0⟩ : Cmap × Value) (w : World) => Fresh w0 δ w ∧ Ow δ (is 1) (is 1) w rv0 sampleS.2) xx w) := by
  refine calls_of_run Try.func34 rfl (Nat.le_of_ble_eq_true rfl) ?_
  have hbase := Base.start w0
  refine run_seq ?_
  refine run_region rfl ?_
  refine l_op rfl ?_
  refine o_alloc c0 (is 1) (1, 0) rfl tp24_b ?_
  intro g4 w1 b3 ch2 bx5
  replace hbase := hbase.chg ch2 (not_no _)
  replace bx5 : Bx g4 (is 1) w1 b3 [Value.int .i64 0, Value.slice none 0 0] := bx5
  refine l_nil ?_
  refine run_seq ?_
  refine run_region rfl ?_
  refine l_val (v := Value.agg (List.toArray [Value.int .i64 0, Value.int .i64 1])) rfl (e_build (vs := [(0, Value.int .i64 0), (1, Value.int .i64 1)]) rfl (by kernel_rfl)) ?_
  refine l_val (v := Value.agg (List.toArray [Value.int .i64 1, Value.int .i64 0])) rfl (e_build (vs := [(0, Value.int .i64 1), (1, Value.int .i64 0)]) rfl (by kernel_rfl)) ?_
  refine l_val (v := Value.agg (List.toArray [Value.int .i64 2, Value.int .i64 2])) rfl (e_build (vs := [(0, Value.int .i64 2), (1, Value.int .i64 2)]) rfl (by kernel_rfl)) ?_
  refine l_val (v := Value.agg (List.toArray [Value.int .i64 1, Value.int .i64 2])) rfl (e_build (vs := [(0, Value.int .i64 1), (1, Value.int .i64 2)]) rfl (by kernel_rfl)) ?_
  refine l_op rfl ?_
  refine o_buildSlice (α := (Int) × (Int)) g4 (is 2) (is 2) (2, 0) rfl [(0, 1), (1, 0), (2, 2), (1, 2)] Try.underlying22 tp60_b (by decide) (by decide) (vs := [(0, Value.agg (List.toArray [Value.int .i64 0, Value.int .i64 1])), (1, Value.agg (List.toArray [Value.int .i64 1, Value.int .i64 0])), (2, Value.agg (List.toArray [Value.int .i64 2, Value.int .i64 2])), (3, Value.agg (List.toArray [Value.int .i64 1, Value.int .i64 2]))]) rfl rfl (.cons rfl (.cons rfl (.cons rfl (.cons rfl .nil)))) ?_
  intro g6 w7 v8 ch9 o10
  replace hbase := hbase.chg ch9 (not_no _)
  replace bx5 := bx5.chg ch9 (not_no _)
  refine l_val (v := Value.agg (List.toArray [Value.int .i64 3, v8])) rfl (e_build (vs := [(0, Value.int .i64 3), (1, v8)]) rfl (by rw [Sl.form o10.flat]; kernel_rfl)) ?_
  refine l_op rfl ?_
  refine o_store_bx (cs' := [Value.int .i64 3, v8]) tp24_b rfl rfl bx5 rfl (Nat.le_of_ble_eq_true rfl) (AllOne.all (.cons rfl (.cons (sl_one o10.flat) .nil))) rfl ?_
  intro w11 ch12 bx13
  replace hbase := hbase.chg ch12 (is_ne rfl)
  replace o10 := o10.chg ch12 (is_ne rfl) (is_ne rfl)
  clear bx5
  refine l_nil ?_
  refine run_ret (vs := [Value.agg (List.toArray [Value.int .i64 3, v8])]) Try.func34 (.cell rfl (load_bxN (ds := [Value.int .i64 3, v8]) tp24_b bx13 rfl rfl) .nil) ?_
  -- return 0
  have e0 : ((3, [(0, 1), (1, 0), (2, 2), (1, 2)]) : (Int) × (List ((Int) × (Int)))) = (sampleS) := by
    rfl
  exact ⟨(fin w0 g6 (fun n => if n = 2 then 1 else 0), v8), (congrArg (a₁ := (3, [(0, 1), (1, 0), (2, 2), (1, 2)])) (fun (z0 : (Int) × (List ((Int) × (Int)))) => Ending.returned (Value.agg (List.toArray [Value.int .i64 z0.1, v8]))) e0), hbase.fresh _, ((congrArg (fun (z : (Int) × (List ((Int) × (Int)))) => z.2) e0) ▸ (o10.glue (γ := c0) (ren := (fun n => if n = 2 then 1 else 0)) (k := 1) hbase.col rfl rfl))⟩

theorem begun_ok (w0 : World)  :
    Calls Try.prog 8 #[] w0 (fun ee w => ee = .returned (Value.bool true) ∧ RowKit.Below w0.heap.size w0 w) := by
  refine calls_of_run Try.func8 rfl (Nat.le_of_ble_eq_true rfl) ?_
  have hbase := Base.start w0
  refine run_seq ?_
  refine run_region rfl ?_
  refine l_val (v := Value.bool false) rfl (e_assign rfl) ?_
  refine l_nil ?_
  refine run_seq ?_
  refine run_region rfl ?_
  refine l_op rfl ?_
  refine o_callx (e_call (vals := []) Try.func34 bd34_b nm34_b rfl) (sample_ok w0 ) ?_
  rintro ⟨d2, v4⟩ w1 ⟨fr3, o5⟩
  obtain ⟨g6, hg6⟩ : ∃ q, q = glue w0.heap.size c0 d2 (fun n => if n = 1 then 1 else 0) := ⟨_, rfl⟩
  have ch7 := chg_glue fr3.below c0 d2 (fun n => if n = 1 then 1 else 0)
  rw [← hg6] at ch7
  replace hbase := hbase.chg ch7 (not_no _)
  replace o5 := o5.glue (γ := c0) (ren := (fun n => if n = 1 then 1 else 0)) (k := 1) fr3.col rfl rfl
  rw [← hg6] at o5
  clear hg6
  refine l_op rfl ?_
  refine o_alloc g6 (is 2) (2, 0) rfl tp24_b ?_
  intro g11 w8 b10 ch9 bx12
  replace hbase := hbase.chg ch9 (not_no _)
  replace o5 := o5.chg ch9 (not_no _) (not_no _)
  replace bx12 : Bx g11 (is 2) w8 b10 [Value.int .i64 0, Value.slice none 0 0] := bx12
  refine l_op rfl ?_
  refine o_store_bx (cs' := [Value.int .i64 sampleS.1, v4]) tp24_b rfl rfl bx12 rfl (Nat.le_of_ble_eq_true rfl) (AllOne.all (.cons rfl (.cons (sl_one o5.flat) .nil))) rfl ?_
  intro w13 ch14 bx15
  replace hbase := hbase.chg ch14 (is_ne rfl)
  replace o5 := o5.chg ch14 (is_ne rfl) (is_ne rfl)
  clear bx12
  refine l_nil ?_
  refine run_seq ?_
  refine run_region rfl ?_
  refine l_val (v := Value.agg (List.toArray [Value.int .i64 sampleS.1, v4])) rfl (e_load_bxN (ds := [Value.int .i64 sampleS.1, v4]) tp24_b rfl bx15 rfl rfl) ?_
  refine l_op rfl ?_
  refine o_callx (e_call (vals := [Value.agg (List.toArray [Value.int .i64 sampleS.1, v4]), Value.int .i64 2]) Try.func25 bd25_b nm25_b rfl) (Out_ok w13 sampleS v4 (o5.flat).ro 2) ?_
  rintro ⟨d17, v19⟩ w16 ⟨fr18, o20⟩
  obtain ⟨g21, hg21⟩ : ∃ q, q = glue w13.heap.size g11 d17 (fun n => if n = 1 then 3 else 0) := ⟨_, rfl⟩
  have ch22 := chg_glue fr18.below g11 d17 (fun n => if n = 1 then 3 else 0)
  rw [← hg21] at ch22
  replace hbase := hbase.chg ch22 (not_no _)
  replace o5 := o5.chg ch22 (not_no _) (not_no _)
  replace bx15 := bx15.chg ch22 (not_no _)
  replace o20 := o20.glue (γ := g11) (ren := (fun n => if n = 1 then 3 else 0)) (k := 3) fr18.col rfl rfl
  rw [← hg21] at o20
  clear hg21
  refine l_val (v := Value.tuple (List.toArray [v19, Value.int .i64 ((outR sampleS 2).2)])) rfl (e_move rfl) ?_
  refine l_val (v := v19) rfl (e_extract rfl rfl) ?_
  refine l_val (v := Value.int .i64 ((outR sampleS 2).2)) rfl (e_extract rfl rfl) ?_
  refine l_val (v := v19) rfl (e_assign rfl) ?_
  refine l_val (v := Value.int .i64 ((outR sampleS 2).2)) rfl (e_assign rfl) ?_
  refine l_nil ?_
  refine run_seq ?_
  refine run_region rfl ?_
  refine l_val (v := Value.agg (List.toArray [Value.int .i64 sampleS.1, v4])) rfl (e_load_bxN (ds := [Value.int .i64 sampleS.1, v4]) tp24_b rfl bx15 rfl rfl) ?_
  refine l_op rfl ?_
  refine o_call (v := Value.tuple (List.toArray [Value.agg (List.toArray [Value.int .i64 (((lookR sampleS).1).1), Value.int .i64 ((((lookR sampleS).1).2).1), Value.int .i64 (((((lookR sampleS).1).2).2).1), Value.int .i64 ((((((lookR sampleS).1).2).2).2).1), Value.bool ((((((lookR sampleS).1).2).2).2).2)]), Value.int .i64 ((lookR sampleS).2)])) (e_call (vals := [Value.agg (List.toArray [Value.int .i64 sampleS.1, v4])]) Try.func29 bd29_b nm29_b rfl) (Look_ok w16 sampleS v4 (o5.flat).ro) ?_
  intro w23 hb24
  replace hb24 := chg_below hb24 g21
  replace hbase := hbase.chg hb24 (not_no _)
  replace o5 := o5.chg hb24 (not_no _) (not_no _)
  replace bx15 := bx15.chg hb24 (not_no _)
  replace o20 := o20.chg hb24 (not_no _) (not_no _)
  refine l_val (v := Value.tuple (List.toArray [Value.agg (List.toArray [Value.int .i64 (((lookR sampleS).1).1), Value.int .i64 ((((lookR sampleS).1).2).1), Value.int .i64 (((((lookR sampleS).1).2).2).1), Value.int .i64 ((((((lookR sampleS).1).2).2).2).1), Value.bool ((((((lookR sampleS).1).2).2).2).2)]), Value.int .i64 ((lookR sampleS).2)])) rfl (e_move rfl) ?_
  refine l_val (v := Value.agg (List.toArray [Value.int .i64 (((lookR sampleS).1).1), Value.int .i64 ((((lookR sampleS).1).2).1), Value.int .i64 (((((lookR sampleS).1).2).2).1), Value.int .i64 ((((((lookR sampleS).1).2).2).2).1), Value.bool ((((((lookR sampleS).1).2).2).2).2)])) rfl (e_extract rfl rfl) ?_
  refine l_val (v := Value.int .i64 ((lookR sampleS).2)) rfl (e_extract rfl rfl) ?_
  refine l_op rfl ?_
  refine o_alloc g21 (is 4) (4, 0) rfl tp48_b ?_
  intro g28 w25 b27 ch26 bx29
  replace hbase := hbase.chg ch26 (not_no _)
  replace o5 := o5.chg ch26 (not_no _) (not_no _)
  replace bx15 := bx15.chg ch26 (not_no _)
  replace o20 := o20.chg ch26 (not_no _) (not_no _)
  replace bx29 : Bx g28 (is 4) w25 b27 [Value.int .i64 0, Value.int .i64 0, Value.int .i64 0, Value.int .i64 0, Value.bool false] := bx29
  refine l_op rfl ?_
  refine o_store_bx (cs' := [Value.int .i64 (((lookR sampleS).1).1), Value.int .i64 ((((lookR sampleS).1).2).1), Value.int .i64 (((((lookR sampleS).1).2).2).1), Value.int .i64 ((((((lookR sampleS).1).2).2).2).1), Value.bool ((((((lookR sampleS).1).2).2).2).2)]) tp48_b rfl rfl bx29 rfl (Nat.le_of_ble_eq_true rfl) (AllOne.all (.cons rfl (.cons rfl (.cons rfl (.cons rfl (.cons rfl .nil)))))) rfl ?_
  intro w30 ch31 bx32
  replace hbase := hbase.chg ch31 (is_ne rfl)
  replace o5 := o5.chg ch31 (is_ne rfl) (is_ne rfl)
  replace bx15 := bx15.chg ch31 (is_ne rfl)
  replace o20 := o20.chg ch31 (is_ne rfl) (is_ne rfl)
  clear bx29
  refine l_val (v := Value.int .i64 ((lookR sampleS).2)) rfl (e_assign rfl) ?_
  refine l_nil ?_
  refine run_seq ?_
  refine run_region rfl ?_
  refine l_val (v := Value.agg (List.toArray [Value.int .i64 sampleS.1, v4])) rfl (e_load_bxN (ds := [Value.int .i64 sampleS.1, v4]) tp24_b rfl bx15 rfl rfl) ?_
  refine l_op rfl ?_
  refine o_buildSlice (α := Int) g28 (is 5) (is 5) (5, 0) rfl [3, 0] Try.underlying25 tp3_b (by decide) (by decide) (vs := [(0, Value.int .i64 3), (1, Value.int .i64 0)]) rfl rfl (.cons rfl (.cons rfl .nil)) ?_
  intro g33 w34 v35 ch36 o37
  replace hbase := hbase.chg ch36 (not_no _)
  replace o5 := o5.chg ch36 (not_no _) (not_no _)
  replace bx15 := bx15.chg ch36 (not_no _)
  replace o20 := o20.chg ch36 (not_no _) (not_no _)
  replace bx32 := bx32.chg ch36 (not_no _)
  refine l_op rfl ?_
  refine o_callx (e_call (vals := [Value.agg (List.toArray [Value.int .i64 sampleS.1, v4]), v35]) Try.func13 bd13_b nm13_b rfl) (Sub_ok w34 sampleS v4 (o5.flat).ro ([3, 0]) v35 (o37.flat).ro) ?_
  rintro ⟨d39, v41⟩ w38 ⟨fr40, o42⟩
  obtain ⟨g43, hg43⟩ : ∃ q, q = glue w34.heap.size g33 d39 (fun n => if n = 1 then 6 else 0) := ⟨_, rfl⟩
  have ch44 := chg_glue fr40.below g33 d39 (fun n => if n = 1 then 6 else 0)
  rw [← hg43] at ch44
  replace hbase := hbase.chg ch44 (not_no _)
  replace o5 := o5.chg ch44 (not_no _) (not_no _)
  replace bx15 := bx15.chg ch44 (not_no _)
  replace o20 := o20.chg ch44 (not_no _) (not_no _)
  replace bx32 := bx32.chg ch44 (not_no _)
  replace o37 := o37.chg ch44 (not_no _) (not_no _)
  replace o42 := o42.glue (γ := g33) (ren := (fun n => if n = 1 then 6 else 0)) (k := 6) fr40.col rfl rfl
  rw [← hg43] at o42
  clear hg43
  refine l_val (v := Value.tuple (List.toArray [Value.agg (List.toArray [Value.int .i64 (((subR sampleS ([3, 0])).1).1), v41]), Value.int .i64 ((subR sampleS ([3, 0])).2)])) rfl (e_move rfl) ?_
  refine l_val (v := Value.agg (List.toArray [Value.int .i64 (((subR sampleS ([3, 0])).1).1), v41])) rfl (e_extract rfl rfl) ?_
  refine l_val (v := Value.int .i64 ((subR sampleS ([3, 0])).2)) rfl (e_extract rfl rfl) ?_
  refine l_op rfl ?_
  refine o_alloc g43 (is 7) (7, 0) rfl tp24_b ?_
  intro g48 w45 b47 ch46 bx49
  replace hbase := hbase.chg ch46 (not_no _)
  replace o5 := o5.chg ch46 (not_no _) (not_no _)
  replace bx15 := bx15.chg ch46 (not_no _)
  replace o20 := o20.chg ch46 (not_no _) (not_no _)
  replace bx32 := bx32.chg ch46 (not_no _)
  replace o37 := o37.chg ch46 (not_no _) (not_no _)
  replace o42 := o42.chg ch46 (not_no _) (not_no _)
  replace bx49 : Bx g48 (is 7) w45 b47 [Value.int .i64 0, Value.slice none 0 0] := bx49
  refine l_op rfl ?_
  refine o_store_bx (cs' := [Value.int .i64 (((subR sampleS ([3, 0])).1).1), v41]) tp24_b rfl rfl bx49 rfl (Nat.le_of_ble_eq_true rfl) (AllOne.all (.cons rfl (.cons (sl_one o42.flat) .nil))) rfl ?_
  intro w50 ch51 bx52
  replace hbase := hbase.chg ch51 (is_ne rfl)
  replace o5 := o5.chg ch51 (is_ne rfl) (is_ne rfl)
  replace bx15 := bx15.chg ch51 (is_ne rfl)
  replace o20 := o20.chg ch51 (is_ne rfl) (is_ne rfl)
  replace bx32 := bx32.chg ch51 (is_ne rfl)
  replace o37 := o37.chg ch51 (is_ne rfl) (is_ne rfl)
  replace o42 := o42.chg ch51 (is_ne rfl) (is_ne rfl)
  clear bx49
  refine l_val (v := Value.int .i64 ((subR sampleS ([3, 0])).2)) rfl (e_assign rfl) ?_
  refine l_nil ?_
  refine run_seq ?_
  clear o37
  refine run_region rfl ?_
  refine l_val (v := Value.agg (List.toArray [Value.int .i64 sampleS.1, v4])) rfl (e_load_bxN (ds := [Value.int .i64 sampleS.1, v4]) tp24_b rfl bx15 rfl rfl) ?_
  refine l_op rfl ?_
  refine o_call (v := Value.bool (mayB sampleS)) (e_call (vals := [Value.agg (List.toArray [Value.int .i64 sampleS.1, v4])]) Try.func23 bd23_b nm23_b rfl) (May_ok w50 sampleS v4 (o5.flat).ro) ?_
  intro w53 hb54
  replace hb54 := chg_below hb54 g48
  replace hbase := hbase.chg hb54 (not_no _)
  replace o5 := o5.chg hb54 (not_no _) (not_no _)
  replace bx15 := bx15.chg hb54 (not_no _)
  replace o20 := o20.chg hb54 (not_no _) (not_no _)
  replace bx32 := bx32.chg hb54 (not_no _)
  replace o42 := o42.chg hb54 (not_no _) (not_no _)
  replace bx52 := bx52.chg hb54 (not_no _)
  refine l_val (v := Value.bool (mayB sampleS)) rfl (e_move rfl) ?_
  have q27 : (mayB sampleS) = true := by decide
  refine l_val (v := v19) (want_y rfl rfl rfl q27) (e_move rfl) ?_
  have len55 := (o20.flat).small
  refine l_val (v := Value.int .i64 (List.length ((outR sampleS 2).1) : Int)) (want_y rfl rfl rfl q27) (e_len Try.underlying25 rfl o20.flat) ?_
  refine l_val (v := Value.bool (decide ((List.length ((outR sampleS 2).1) : Int) = 3))) (want_y rfl rfl rfl q27) (e_eql (m := (List.length ((outR sampleS 2).1) : Int)) (n := 3) rfl rfl) ?_
  refine l_val (v := Value.bool (decide ((List.length ((outR sampleS 2).1) : Int) = 3))) rfl (e_pick_t rfl q27 rfl) ?_
  refine l_val (v := Value.bool (decide ((List.length ((outR sampleS 2).1) : Int) = 3))) rfl (e_move rfl) ?_
  have q32 : (List.length ((outR sampleS 2).1) : Int) = 3 := by decide
  refine l_val (v := v19) (want_y rfl rfl rfl (decide_eq_true q32)) (e_move rfl) ?_
  refine l_val (v := Value.pointer (some (eAddr v19 1 (Int.toNat 0)))) (want_y rfl rfl rfl (decide_eq_true q32)) (e_indexAddr (α := Int) (xs := (outR sampleS 2).1) (v := v19) (i := 0) Try.underlying25 rfl rfl o20.flat rfl (by omega) (by omega)) ?_
  refine l_val (v := Value.int .i64 (gI ((outR sampleS 2).1) 0)) (want_y rfl rfl rfl (decide_eq_true q32)) (e_load_el1 (α := Int) (xs := (outR sampleS 2).1) (v := v19) (i := 0) tp3_b rfl o20.flat (by omega) (by omega) (by decide) rfl) ?_
  refine l_val (v := Value.bool (decide ((gI ((outR sampleS 2).1) 0) = 4))) (want_y rfl rfl rfl (decide_eq_true q32)) (e_eql (m := (gI ((outR sampleS 2).1) 0)) (n := 4) rfl rfl) ?_
  refine l_val (v := Value.bool (decide ((gI ((outR sampleS 2).1) 0) = 4))) rfl (e_pick_t rfl (decide_eq_true q32) rfl) ?_
  refine l_val (v := Value.bool (decide ((gI ((outR sampleS 2).1) 0) = 4))) rfl (e_move rfl) ?_
  have q38 : (gI ((outR sampleS 2).1) 0) = 4 := by decide
  refine l_val (v := Value.int .i64 ((outR sampleS 2).2)) (want_y rfl rfl rfl (decide_eq_true q38)) (e_move rfl) ?_
  refine l_val (v := Value.bool (decide (((outR sampleS 2).2) = 0))) (want_y rfl rfl rfl (decide_eq_true q38)) (e_eql (m := (outR sampleS 2).2) (n := 0) rfl rfl) ?_
  refine l_val (v := Value.bool (decide (((outR sampleS 2).2) = 0))) rfl (e_pick_t rfl (decide_eq_true q38) rfl) ?_
  refine l_val (v := Value.bool (decide (((outR sampleS 2).2) = 0))) rfl (e_move rfl) ?_
  have q42 : ((outR sampleS 2).2) = 0 := by decide
  refine l_val (v := Value.pointer (some ⟨b27, 0, none⟩)) (want_y rfl rfl rfl (decide_eq_true q42)) (e_fieldAddr Try.underlying48 rfl rfl rfl rfl) ?_
  refine l_val (v := Value.int .i64 (((lookR sampleS).1).1)) (want_y rfl rfl rfl (decide_eq_true q42)) (e_load_bx1 tp3_b rfl bx32 rfl) ?_
  refine l_val (v := Value.bool (decide ((((lookR sampleS).1).1) = 1))) (want_y rfl rfl rfl (decide_eq_true q42)) (e_eql (m := ((lookR sampleS).1).1) (n := 1) rfl rfl) ?_
  refine l_val (v := Value.bool (decide ((((lookR sampleS).1).1) = 1))) rfl (e_pick_t rfl (decide_eq_true q42) rfl) ?_
  refine l_val (v := Value.bool (decide ((((lookR sampleS).1).1) = 1))) rfl (e_move rfl) ?_
  have q47 : (((lookR sampleS).1).1) = 1 := by decide
  refine l_val (v := Value.pointer (some ⟨b27, 1, none⟩)) (want_y rfl rfl rfl (decide_eq_true q47)) (e_fieldAddr Try.underlying48 rfl rfl rfl rfl) ?_
  refine l_val (v := Value.int .i64 ((((lookR sampleS).1).2).1)) (want_y rfl rfl rfl (decide_eq_true q47)) (e_load_bx1 tp3_b rfl bx32 rfl) ?_
  refine l_val (v := Value.bool (decide (((((lookR sampleS).1).2).1) = 1))) (want_y rfl rfl rfl (decide_eq_true q47)) (e_eql (m := (((lookR sampleS).1).2).1) (n := 1) rfl rfl) ?_
  refine l_val (v := Value.bool (decide (((((lookR sampleS).1).2).1) = 1))) rfl (e_pick_t rfl (decide_eq_true q47) rfl) ?_
  refine l_val (v := Value.bool (decide (((((lookR sampleS).1).2).1) = 1))) rfl (e_move rfl) ?_
  have q52 : ((((lookR sampleS).1).2).1) = 1 := by decide
  refine l_val (v := Value.int .i64 ((lookR sampleS).2)) (want_y rfl rfl rfl (decide_eq_true q52)) (e_move rfl) ?_
  refine l_val (v := Value.bool (decide (((lookR sampleS).2) = 0))) (want_y rfl rfl rfl (decide_eq_true q52)) (e_eql (m := (lookR sampleS).2) (n := 0) rfl rfl) ?_
  refine l_val (v := Value.bool (decide (((lookR sampleS).2) = 0))) rfl (e_pick_t rfl (decide_eq_true q52) rfl) ?_
  refine l_val (v := Value.bool (decide (((lookR sampleS).2) = 0))) rfl (e_move rfl) ?_
  have q56 : ((lookR sampleS).2) = 0 := by decide
  refine l_val (v := Value.pointer (some ⟨b47, 1, none⟩)) (want_y rfl rfl rfl (decide_eq_true q56)) (e_fieldAddr Try.underlying24 rfl rfl rfl rfl) ?_
  refine l_val (v := v41) (want_y rfl rfl rfl (decide_eq_true q56)) (e_load_bx1 tp22_b rfl bx52 rfl) ?_
  have len56 := (o42.flat).small
  refine l_val (v := Value.int .i64 (List.length (((subR sampleS ([3, 0])).1).2) : Int)) (want_y rfl rfl rfl (decide_eq_true q56)) (e_len Try.underlying22 rfl o42.flat) ?_
  refine l_val (v := Value.bool (decide ((List.length (((subR sampleS ([3, 0])).1).2) : Int) = 2))) (want_y rfl rfl rfl (decide_eq_true q56)) (e_eql (m := (List.length (((subR sampleS ([3, 0])).1).2) : Int)) (n := 2) rfl rfl) ?_
  refine l_val (v := Value.bool (decide ((List.length (((subR sampleS ([3, 0])).1).2) : Int) = 2))) rfl (e_pick_t rfl (decide_eq_true q56) rfl) ?_
  refine l_val (v := Value.bool (decide ((List.length (((subR sampleS ([3, 0])).1).2) : Int) = 2))) rfl (e_move rfl) ?_
  have q62 : (List.length (((subR sampleS ([3, 0])).1).2) : Int) = 2 := by decide
  refine l_val (v := Value.int .i64 ((subR sampleS ([3, 0])).2)) (want_y rfl rfl rfl (decide_eq_true q62)) (e_move rfl) ?_
  refine l_val (v := Value.bool (decide (((subR sampleS ([3, 0])).2) = 0))) (want_y rfl rfl rfl (decide_eq_true q62)) (e_eql (m := (subR sampleS ([3, 0])).2) (n := 0) rfl rfl) ?_
  refine l_val (v := Value.bool (decide (((subR sampleS ([3, 0])).2) = 0))) rfl (e_pick_t rfl (decide_eq_true q62) rfl) ?_
  refine l_val (v := Value.bool (decide (((subR sampleS ([3, 0])).2) = 0))) rfl (e_move rfl) ?_
  have q66 : ((subR sampleS ([3, 0])).2) = 0 := by decide
  refine l_val (v := Value.agg (List.toArray [Value.int .i64 sampleS.1, v4])) (want_y rfl rfl rfl (decide_eq_true q66)) (e_load_bxN (ds := [Value.int .i64 sampleS.1, v4]) tp24_b rfl bx15 rfl rfl) ?_
  refine l_val (v := Value.agg (List.toArray [Value.int .i64 sampleS.1, v4])) (want_y rfl rfl rfl (decide_eq_true q66)) (e_load_bxN (ds := [Value.int .i64 sampleS.1, v4]) tp24_b rfl bx15 rfl rfl) ?_
  refine l_op (want_y rfl rfl rfl (decide_eq_true q66)) ?_
  refine o_call (v := Value.bool (decide (sampleS = sampleS))) (e_call (vals := [Value.agg (List.toArray [Value.int .i64 sampleS.1, v4]), Value.agg (List.toArray [Value.int .i64 sampleS.1, v4])]) Try.func11 bd11_b nm11_b rfl) (Same_ok w53 sampleS v4 (o5.flat).ro sampleS v4 (o5.flat).ro) ?_
  intro w57 hb58
  replace hb58 := chg_below hb58 g48
  replace hbase := hbase.chg hb58 (not_no _)
  replace o5 := o5.chg hb58 (not_no _) (not_no _)
  replace bx15 := bx15.chg hb58 (not_no _)
  replace o20 := o20.chg hb58 (not_no _) (not_no _)
  replace bx32 := bx32.chg hb58 (not_no _)
  replace o42 := o42.chg hb58 (not_no _) (not_no _)
  replace bx52 := bx52.chg hb58 (not_no _)
  refine l_val (v := Value.bool (decide (sampleS = sampleS))) rfl (e_pick_t rfl (decide_eq_true q66) rfl) ?_
  refine l_val (v := Value.bool (decide (sampleS = sampleS))) rfl (e_move rfl) ?_
  have q71 : (decide (sampleS = sampleS)) = true := by decide
  refine l_val (v := Value.agg (List.toArray [Value.int .i64 sampleS.1, v4])) (want_y rfl rfl rfl q71) (e_load_bxN (ds := [Value.int .i64 sampleS.1, v4]) tp24_b rfl bx15 rfl rfl) ?_
  refine l_val (v := Value.agg (List.toArray [Value.int .i64 (((subR sampleS ([3, 0])).1).1), v41])) (want_y rfl rfl rfl q71) (e_load_bxN (ds := [Value.int .i64 (((subR sampleS ([3, 0])).1).1), v41]) tp24_b rfl bx52 rfl rfl) ?_
  refine l_op (want_y rfl rfl rfl q71) ?_
  refine o_call (v := Value.bool (decide (sampleS = ((subR sampleS ([3, 0])).1)))) (e_call (vals := [Value.agg (List.toArray [Value.int .i64 sampleS.1, v4]), Value.agg (List.toArray [Value.int .i64 (((subR sampleS ([3, 0])).1).1), v41])]) Try.func11 bd11_b nm11_b rfl) (Same_ok w57 sampleS v4 (o5.flat).ro ((subR sampleS ([3, 0])).1) v41 (o42.flat).ro) ?_
  intro w59 hb60
  replace hb60 := chg_below hb60 g48
  replace hbase := hbase.chg hb60 (not_no _)
  replace o5 := o5.chg hb60 (not_no _) (not_no _)
  replace bx15 := bx15.chg hb60 (not_no _)
  replace o20 := o20.chg hb60 (not_no _) (not_no _)
  replace bx32 := bx32.chg hb60 (not_no _)
  replace o42 := o42.chg hb60 (not_no _) (not_no _)
  replace bx52 := bx52.chg hb60 (not_no _)
  refine l_val (v := Value.bool (!(decide (sampleS = ((subR sampleS ([3, 0])).1))))) (want_y rfl rfl rfl q71) (e_not (b := (decide (sampleS = ((subR sampleS ([3, 0])).1)))) rfl) ?_
  refine l_val (v := Value.bool (!(decide (sampleS = ((subR sampleS ([3, 0])).1))))) rfl (e_pick_t rfl q71 rfl) ?_
  refine l_val (v := Value.bool (!(decide (sampleS = ((subR sampleS ([3, 0])).1))))) rfl (e_assign rfl) ?_
  refine l_nil ?_
  refine run_ret (vs := [Value.bool (!(decide (sampleS = ((subR sampleS ([3, 0])).1))))]) Try.func8 (.tmp rfl .nil) ?_
  -- return 0
  have e0 : (!(decide (sampleS = ((subR sampleS ([3, 0])).1))) : Bool) = (true) := by
    rfl
  exact ⟨(congrArg (a₁ := !(decide (sampleS = ((subR sampleS ([3, 0])).1)))) (fun (z0 : Bool) => Ending.returned (Value.bool z0)) e0), hbase.below⟩
end TL
