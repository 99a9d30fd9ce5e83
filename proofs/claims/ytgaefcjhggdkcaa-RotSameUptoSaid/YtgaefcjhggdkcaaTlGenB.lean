import Derived.Test.YtgaefcjhggdkcaaTlGenA
import Derived.Test.YtgaefcjhggdkcaaProg
import Derived.Test.YtgaefcjhggdkcaaTlNet2
import Derived.Test.YtgaefcjhggdkcaaTlEq
import Derived.Test.YtgaefcjhggdkcaaTlHold
import Derived.Test.YtgaefcjhggdkcaaTlDraw
import Derived.Test.YtgaefcjhggdkcaaTlMap
set_option linter.all false
set_option maxRecDepth 20000
namespace TL
open Go Go.Proofs
theorem mixed_b : Try.prog.follows .mixedOrders = true := by kernel_rfl
theorem tp3_b : Tp Try.prog 3 false 1 8 (.int .i64 0) := Tp.of (by kernel_rfl)
theorem tp4_b : Tp Try.prog 4 false 1 1 (.bool false) := Tp.of (by kernel_rfl)
theorem tp22_b : Tp Try.prog 22 false 1 24 (.slice none 0 0) := Tp.of (by kernel_rfl)
theorem tp24_b : Tp Try.prog 24 true 2 32 (.agg #[.int .i64 0, .slice none 0 0]) := Tp.of (by kernel_rfl)
theorem tp71_b : Tp Try.prog 71 true 2 16 (.agg #[.int .i64 0, .int .i64 0]) := Tp.of (by kernel_rfl)
theorem tp78_b : Tp Try.prog 78 true 5 40 (.agg #[.int .i64 0, .int .i64 0, .int .i64 0, .int .i64 0, .bool false]) := Tp.of (by kernel_rfl)
theorem bd25_b : Try.f25.body.isNone = false := rfl
theorem nm25_b : (Try.f25.name == "runtime.NumGoroutine") = false := by decide +kernel
theorem bd50_b : Try.f50.body.isNone = false := rfl
theorem nm50_b : (Try.f50.name == "runtime.NumGoroutine") = false := by decide +kernel
theorem bd51_b : Try.f51.body.isNone = false := rfl
theorem nm51_b : (Try.f51.name == "runtime.NumGoroutine") = false := by decide +kernel
theorem bd52_b : Try.f52.body.isNone = false := rfl
theorem nm52_b : (Try.f52.name == "runtime.NumGoroutine") = false := by decide +kernel
theorem bd53_b : Try.f53.body.isNone = false := rfl
theorem nm53_b : (Try.f53.name == "runtime.NumGoroutine") = false := by decide +kernel
theorem bd54_b : Try.f54.body.isNone = false := rfl
theorem nm54_b : (Try.f54.name == "runtime.NumGoroutine") = false := by decide +kernel
theorem bd92_b : Try.f92.body.isNone = false := rfl
theorem nm92_b : (Try.f92.name == "runtime.NumGoroutine") = false := by decide +kernel
theorem bd93_b : Try.f93.body.isNone = false := rfl
theorem nm93_b : (Try.f93.name == "runtime.NumGoroutine") = false := by decide +kernel
theorem bd94_b : Try.f94.body.isNone = false := rfl
theorem nm94_b : (Try.f94.name == "runtime.NumGoroutine") = false := by decide +kernel
theorem bd95_b : Try.f95.body.isNone = false := rfl
theorem nm95_b : (Try.f95.name == "runtime.NumGoroutine") = false := by decide +kernel
theorem bd96_b : Try.f96.body.isNone = false := rfl
theorem nm96_b : (Try.f96.name == "runtime.NumGoroutine") = false := by decide +kernel

theorem Out_ok (w0 : World) (g : (Int) × (List ((Int) × (Int)))) (g_v : Value) (hg_v : Ro w0 g_v g.2) (v : Int) :
    Calls Try.prog 51 #[Value.agg (List.toArray [Value.int .i64 g.1, g_v]), Value.int .i64 v] w0 (fun ee w => ∃ xx : Cmap × Value, ee = .returned ((fun ⟨δ, rv0⟩ => Value.tuple (List.toArray [rv0, Value.int .i64 ((outR g v).2)])) xx) ∧ (fun (⟨δ, rv0⟩ : Cmap × Value) (w : World) => Fresh w0 δ w ∧ Ow δ (is 1) (is 1) w rv0 ((outR g v).1)) xx w) := by
 refine calls_of_run Try.func51 rfl (Nat.le_of_ble_eq_true rfl) ?_
 have hbase := Base.start w0
 have r_g_v := hg_v.sl
 refine run_seq ?_
 refine run_region rfl ?_
 refine l_op rfl ?_
 refine o_box c0 (is 1) (1, 0) rfl rfl ?_
 intro g4 w1 b3 ch2 bx5
 replace bx5 : Bx g4 (is 1) w1 b3 [Value.int .i64 g.1, g_v] := bx5
 refine l_val (v := Value.slice none 0 0) rfl (e_assign rfl) ?_
 refine l_val (v := Value.int .i64 0) rfl (e_assign rfl) ?_
 refine l_nil ?_
 refine run_seq ?_
 refine run_block ?_
 refine run_seq ?_
 refine run_region rfl ?_
 refine l_val (v := Value.agg (List.toArray [Value.int .i64 g.1, g_v])) rfl (e_load_bxN (ds := [Value.int .i64 g.1, g_v]) tp24_b rfl bx5 rfl rfl) ?_
 replace r_g_v := r_g_v.chg ch2 (not_no _)
 refine l_op rfl ?_
 refine o_call (v := Value.bool (mayB g)) (e_call (vals := [Value.agg (List.toArray [Value.int .i64 g.1, g_v])]) Try.func25 bd25_b nm25_b rfl) (May_ok w1 g g_v (r_g_v).ro) ?_
 intro w6 hb7
 replace hb7 := chg_below hb7 g4
 refine l_val (v := Value.bool (!(mayB g))) rfl (e_not (b := (mayB g)) rfl) ?_
 refine l_val (v := Value.bool (!(mayB g))) rfl (e_assign rfl) ?_
 refine l_nil ?_
 by_cases p1 : (mayB g) = true
 ·
  obtain ⟨hm1, hm2, hm3, hm4⟩ := of_decide_eq_true p1
  refine run_cond_f rfl (congrArg Bool.not p1) ?_
  refine run_seq ?_
  refine run_region rfl ?_
  replace bx5 := bx5.chg hb7 (not_no _)
  refine l_val (v := Value.agg (List.toArray [Value.int .i64 g.1, g_v])) rfl (e_load_bxN (ds := [Value.int .i64 g.1, g_v]) tp24_b rfl bx5 rfl rfl) ?_
  refine l_val (v := Value.int .i64 v) rfl (e_move rfl) ?_
  replace r_g_v := r_g_v.chg hb7 (not_no _)
  refine l_op rfl ?_
  refine o_call (v := Value.bool (decide (0 ≤ v ∧ v < g.1))) (e_call (vals := [Value.agg (List.toArray [Value.int .i64 g.1, g_v]), Value.int .i64 v]) Try.func93 bd93_b nm93_b rfl) (there_ok w6 g g_v (r_g_v).ro v) ?_
  intro w8 hb9
  replace hb9 := chg_below hb9 g4
  refine l_val (v := Value.bool (!(decide (0 ≤ v ∧ v < g.1)))) rfl (e_not (b := (decide (0 ≤ v ∧ v < g.1))) rfl) ?_
  refine l_val (v := Value.bool (!(decide (0 ≤ v ∧ v < g.1)))) rfl (e_assign rfl) ?_
  refine l_nil ?_
  by_cases p3 : (decide (0 ≤ v ∧ v < g.1)) = true
  ·
   refine run_cond_f rfl (congrArg Bool.not p3) ?_
   refine run_skip ?_
   refine run_inBlock ?_
   refine run_seq ?_
   refine run_region rfl ?_
   refine l_val (v := Value.slice none 0 0) rfl (e_assign rfl) ?_
   refine l_nil ?_
   refine run_seq ?_
   refine run_seq ?_
   refine run_region rfl ?_
   refine l_val (v := Value.pointer (some ⟨b3, 1, none⟩)) rfl (e_fieldAddr Try.underlying24 rfl rfl rfl rfl) ?_
   replace bx5 := bx5.chg hb9 (not_no _)
   refine l_val (v := g_v) rfl (e_load_bx1 tp22_b rfl bx5 rfl) ?_
   replace r_g_v := r_g_v.chg hb9 (not_no _)
   have len10 := (r_g_v).small
   refine l_val (v := Value.int .i64 (List.length g.2 : Int)) rfl (e_len Try.underlying22 rfl r_g_v) ?_
   refine l_val (v := Value.int .i64 0) rfl (e_move rfl) ?_
   refine l_nil ?_
   refine run_block ?_
   clear bx5
   refine run_loop (σ := Value × (List Int) × Nat × Cmap) (fun ⟨l_v, l, k, gq⟩ f w => Base w0 gq w ∧ f 1 = Value.int .i64 v ∧ f 6 = l_v ∧ f 21 = g_v ∧ f 22 = Value.int .i64 (List.length g.2 : Int) ∧ f 23 = Value.int .i64 (k : Int) ∧ Sl gq (is 0) w g_v g.2 ∧ Ow gq (is 4) (is 4) w l_v l ∧ (k : Int) ≤ ((List.length g.2 : Int) : Int) ∧ (l = outSk g v k)) (fun ⟨l_v, l, k, gq⟩ => Int.toNat (((List.length g.2 : Int) : Int) - (k : Int))) (Value.slice none 0 0, [], 0, g4) ?_ ?_
   have C11 : Chg (inl []) _ _ _ _ := (ch2.n).seq ((hb7.n).seq (hb9.n))
   replace hbase := hbase.chg C11 (is_nl rfl)
   · exact ⟨hbase, rfl, rfl, rfl, rfl, rfl, r_g_v, Ow.nil, by omega, by rfl⟩
   clear r_g_v
   clear hbase
   rintro ⟨l_v, l, k, g14⟩ f12 w13 ⟨hbase, zs1, zs6, zs21, zs22, zs23, r_g_v, o_l, hle_k, hinv⟩ back7
   have hlo : l.length ≤ 2 * k := by rw [hinv]; exact outSk_len g v k
   refine run_seq ?_
   refine run_region rfl ?_
   refine l_val (v := Value.bool (decide ((k : Int) < (List.length g.2 : Int)))) rfl (e_lss (m := (k : Int)) (n := (List.length g.2 : Int)) (by exact zs23) (by exact zs22)) ?_
   refine l_nil ?_
   refine run_seq ?_
   by_cases p7 : (k : Int) < (List.length g.2 : Int)
   ·
    refine run_cond_t rfl (decide_eq_true p7) ?_
    refine run_skip ?_
    refine run_seq ?_
    refine run_block ?_
    refine run_seq ?_
    refine run_region rfl ?_
    refine l_val (v := Value.int .i64 (k : Int)) rfl (e_move (by exact zs23)) ?_
    refine l_val (v := Value.pointer (some (eAddr g_v 2 (Int.toNat (k : Int))))) rfl (e_indexAddr (α := (Int) × (Int)) (xs := g.2) (v := g_v) (i := (k : Int)) Try.underlying22 rfl (by exact zs21) r_g_v (by exact zs23) (by omega) (by omega)) ?_
    refine l_val (v := Value.agg (List.toArray [Value.int .i64 ((gI g.2 (k : Int)).1), Value.int .i64 ((gI g.2 (k : Int)).2)])) rfl (e_load_elN (α := (Int) × (Int)) (xs := g.2) (v := g_v) (i := (k : Int)) tp71_b rfl r_g_v (by omega) (by omega) rfl) ?_
    refine l_op rfl ?_
    refine o_alloc g14 (is 2) (2, 0) rfl tp71_b ?_
    intro g18 w15 b17 ch16 bx19
    replace bx19 : Bx g18 (is 2) w15 b17 [Value.int .i64 0, Value.int .i64 0] := bx19
    refine l_val (v := Value.int .i64 (k : Int)) rfl (e_assign rfl) ?_
    refine l_op rfl ?_
    refine o_store_bx (cs' := [Value.int .i64 ((gI g.2 (k : Int)).1), Value.int .i64 ((gI g.2 (k : Int)).2)]) tp71_b rfl rfl bx19 rfl (Nat.le_of_ble_eq_true rfl) (AllOne.all (.cons rfl (.cons rfl .nil))) rfl ?_
    intro w20 ch21 bx22
    clear bx19
    refine l_nil ?_
    refine run_seq ?_
    refine run_region rfl ?_
    refine l_val (v := Value.agg (List.toArray [Value.int .i64 ((gI g.2 (k : Int)).1), Value.int .i64 ((gI g.2 (k : Int)).2)])) rfl (e_load_bxN (ds := [Value.int .i64 ((gI g.2 (k : Int)).1), Value.int .i64 ((gI g.2 (k : Int)).2)]) tp71_b rfl bx22 rfl rfl) ?_
    refine l_val (v := Value.int .i64 0) rfl (e_move rfl) ?_
    refine l_nil ?_
    refine run_block ?_
    refine run_loop0 ?_
    refine run_seq ?_
    clear bx22
    refine run_region rfl ?_
    refine l_val (v := Value.bool true) rfl (e_lss (m := 0) (n := 2) rfl rfl) ?_
    refine l_nil ?_
    refine run_seq ?_
    refine run_cond_t rfl rfl ?_
    refine run_skip ?_
    refine run_seq ?_
    refine run_block ?_
    refine run_seq ?_
    refine run_region rfl ?_
    refine l_val (v := Value.int .i64 0) rfl (e_move rfl) ?_
    refine l_val (v := Value.int .i64 ((gI g.2 (k : Int)).1)) rfl (e_index_arr Try.underlying71 tp3_b rfl rfl (by decide) (by decide) rfl) ?_
    refine l_val (v := Value.int .i64 0) rfl (e_assign rfl) ?_
    refine l_val (v := Value.int .i64 ((gI g.2 (k : Int)).1)) rfl (e_assign rfl) ?_
    refine l_nil ?_
    refine run_seq ?_
    refine run_region rfl ?_
    refine l_val (v := Value.int .i64 ((gI g.2 (k : Int)).1)) rfl (e_move rfl) ?_
    refine l_val (v := Value.int .i64 v) rfl (e_move (by exact zs1)) ?_
    refine l_val (v := Value.bool (decide (((gI g.2 (k : Int)).1) = v))) rfl (e_eql (m := (gI g.2 (k : Int)).1) (n := v) rfl rfl) ?_
    refine l_nil ?_
    by_cases p12 : ((gI g.2 (k : Int)).1) = v
    ·
     refine run_cond_t rfl (decide_eq_true p12) ?_
     refine run_region rfl ?_
     refine l_val (v := l_v) rfl (e_move (by exact zs6)) ?_
     refine l_val (v := Value.int .i64 (k : Int)) rfl (e_move rfl) ?_
     refine l_val (v := Value.int .i64 (2 * (k : Int))) rfl (e_mul (m := 2) (n := (k : Int)) rfl rfl (by omega)) ?_
     refine l_val (v := Value.int .i64 0) rfl (e_move rfl) ?_
     refine l_val (v := Value.int .i64 ((2 * (k : Int)) + 0)) rfl (e_add (m := 2 * (k : Int)) (n := 0) rfl rfl (by omega)) ?_
     refine l_op rfl ?_
     refine o_buildSlice (α := Int) g18 (is 3) (is 3) (3, 0) rfl [(2 * (k : Int)) + 0] Try.underlying35 tp3_b (by decide) (by decide) (vs := [(0, Value.int .i64 ((2 * (k : Int)) + 0))]) rfl rfl (.cons rfl .nil) ?_
     intro g23 w24 v25 ch26 o27
     refine l_op rfl ?_
     have C28 : Chg (inl [2]) _ _ _ _ := (ch16.n).seq ((ch21.l rfl).seq (ch26.n))
     replace o_l := o_l.chg C28 (is_nl rfl) (is_nl rfl)
     refine o_append (α := Int) (xs := l) (ys := ([(2 * (k : Int)) + 0])) g23 (J := is 4) (S := is 4) (4, 0) rfl Try.underlying35 tp3_b (by decide) rfl rfl rfl o_l o27.flat (by decide) (by first | omega | (simp; done) | (simp; omega)) ?_
     intro g29 w30 v31 ch32 o33
     clear o_l
     refine l_val (v := v31) rfl (e_assign rfl) ?_
     refine l_nil ?_
     refine run_inBlock ?_
     clear o27
     refine run_region rfl ?_
     refine l_val (v := Value.int .i64 1) rfl (e_add (m := 0) (n := 1) rfl rfl (by omega)) ?_
     refine l_val (v := Value.int .i64 1) rfl (e_move rfl) ?_
     refine l_nil ?_
     refine run_inLoop ?_
     refine run_seq ?_
     refine run_region rfl ?_
     refine l_val (v := Value.bool true) rfl (e_lss (m := 1) (n := 2) rfl rfl) ?_
     refine l_nil ?_
     refine run_seq ?_
     refine run_cond_t rfl rfl ?_
     refine run_skip ?_
     refine run_seq ?_
     refine run_block ?_
     refine run_seq ?_
     refine run_region rfl ?_
     refine l_val (v := Value.int .i64 1) rfl (e_move rfl) ?_
     refine l_val (v := Value.int .i64 ((gI g.2 (k : Int)).2)) rfl (e_index_arr Try.underlying71 tp3_b rfl rfl (by decide) (by decide) rfl) ?_
     refine l_val (v := Value.int .i64 1) rfl (e_assign rfl) ?_
     refine l_val (v := Value.int .i64 ((gI g.2 (k : Int)).2)) rfl (e_assign rfl) ?_
     refine l_nil ?_
     refine run_seq ?_
     refine run_region rfl ?_
     refine l_val (v := Value.int .i64 ((gI g.2 (k : Int)).2)) rfl (e_move rfl) ?_
     refine l_val (v := Value.int .i64 v) rfl (e_move (by exact zs1)) ?_
     refine l_val (v := Value.bool (decide (((gI g.2 (k : Int)).2) = v))) rfl (e_eql (m := (gI g.2 (k : Int)).2) (n := v) rfl rfl) ?_
     refine l_nil ?_
     by_cases p12_34 : ((gI g.2 (k : Int)).2) = v
     ·
      refine run_cond_t rfl (decide_eq_true p12_34) ?_
      refine run_region rfl ?_
      refine l_val (v := v31) rfl (e_move rfl) ?_
      refine l_val (v := Value.int .i64 (k : Int)) rfl (e_move rfl) ?_
      refine l_val (v := Value.int .i64 (2 * (k : Int))) rfl (e_mul (m := 2) (n := (k : Int)) rfl rfl (by omega)) ?_
      refine l_val (v := Value.int .i64 1) rfl (e_move rfl) ?_
      refine l_val (v := Value.int .i64 ((2 * (k : Int)) + 1)) rfl (e_add (m := 2 * (k : Int)) (n := 1) rfl rfl (by omega)) ?_
      refine l_op rfl ?_
      refine o_buildSlice (α := Int) g29 (is 3) (is 3) (3, 0) rfl [(2 * (k : Int)) + 1] Try.underlying35 tp3_b (by decide) (by decide) (vs := [(0, Value.int .i64 ((2 * (k : Int)) + 1))]) rfl rfl (.cons rfl .nil) ?_
      intro g35 w36 v37 ch38 o39
      refine l_op rfl ?_
      replace o33 := o33.chg ch38 (not_no _) (not_no _)
      refine o_append (α := Int) (xs := (l ++ [(2 * (k : Int)) + 0])) (ys := ([(2 * (k : Int)) + 1])) g35 (J := is 4) (S := is 4) (4, 0) rfl Try.underlying35 tp3_b (by decide) rfl rfl rfl o33 o39.flat (by decide) (by first | omega | (simp; done) | (simp; omega)) ?_
      intro g40 w41 v42 ch43 o44
      clear o33
      refine l_val (v := v42) rfl (e_assign rfl) ?_
      refine l_nil ?_
      refine run_inBlock ?_
      clear o39
      refine run_region rfl ?_
      refine l_val (v := Value.int .i64 2) rfl (e_add (m := 1) (n := 1) rfl rfl (by omega)) ?_
      refine l_val (v := Value.int .i64 2) rfl (e_move rfl) ?_
      refine l_nil ?_
      refine run_inLoop ?_
      refine run_seq ?_
      refine run_region rfl ?_
      refine l_val (v := Value.bool false) rfl (e_lss (m := 2) (n := 2) rfl rfl) ?_
      refine l_nil ?_
      refine run_seq ?_
      refine run_cond_f rfl rfl ?_
      refine run_exit rfl ?_
      refine run_inBlock ?_
      refine run_region rfl ?_
      refine l_val (v := Value.int .i64 ((k : Int) + 1)) rfl (e_add (m := (k : Int)) (n := 1) (by exact zs23) rfl (by omega)) ?_
      refine l_val (v := Value.int .i64 ((k : Int) + 1)) rfl (e_move rfl) ?_
      refine l_nil ?_
      have C45 : Chg (inl [2, 4]) _ _ _ _ := (ch16.n).seq ((ch21.l rfl).seq ((ch26.n).seq ((ch32.l rfl).seq ((ch38.n).seq (ch43.l rfl)))))
      replace hbase := hbase.chg C45 (is_nl rfl)
      replace r_g_v := r_g_v.chg C45 (is_nl rfl)
      refine back7 (v42, ((l ++ [(2 * (k : Int)) + 0]) ++ [(2 * (k : Int)) + 1]), k + 1, g40) _ _ ⟨hbase, (by exact zs1), rfl, (by exact zs21), (by exact zs22), rfl, r_g_v, o44, by omega, ?_⟩ ?_
      · show ((l ++ [(2 * (k : Int)) + 0]) ++ [(2 * (k : Int)) + 1]) = outSk g v (k + 1)
        rw [outSk_succ, hinv]; simp_all
      · show Int.toNat (((List.length g.2 : Int) : Int) - ((k + 1) : Int)) < Int.toNat (((List.length g.2 : Int) : Int) - (k : Int))
        omega
     refine run_cond_f rfl (decide_eq_false p12_34) ?_
     refine run_skip ?_
     refine run_inBlock ?_
     refine run_region rfl ?_
     refine l_val (v := Value.int .i64 2) rfl (e_add (m := 1) (n := 1) rfl rfl (by omega)) ?_
     refine l_val (v := Value.int .i64 2) rfl (e_move rfl) ?_
     refine l_nil ?_
     refine run_inLoop ?_
     refine run_seq ?_
     refine run_region rfl ?_
     refine l_val (v := Value.bool false) rfl (e_lss (m := 2) (n := 2) rfl rfl) ?_
     refine l_nil ?_
     refine run_seq ?_
     refine run_cond_f rfl rfl ?_
     refine run_exit rfl ?_
     refine run_inBlock ?_
     refine run_region rfl ?_
     refine l_val (v := Value.int .i64 ((k : Int) + 1)) rfl (e_add (m := (k : Int)) (n := 1) (by exact zs23) rfl (by omega)) ?_
     refine l_val (v := Value.int .i64 ((k : Int) + 1)) rfl (e_move rfl) ?_
     refine l_nil ?_
     have C46 : Chg (inl [2, 4]) _ _ _ _ := (ch16.n).seq ((ch21.l rfl).seq ((ch26.n).seq (ch32.l rfl)))
     replace hbase := hbase.chg C46 (is_nl rfl)
     replace r_g_v := r_g_v.chg C46 (is_nl rfl)
     refine back7 (v31, (l ++ [(2 * (k : Int)) + 0]), k + 1, g29) _ _ ⟨hbase, (by exact zs1), rfl, (by exact zs21), (by exact zs22), rfl, r_g_v, o33, by omega, ?_⟩ ?_
     · show (l ++ [(2 * (k : Int)) + 0]) = outSk g v (k + 1)
       rw [outSk_succ, hinv]; simp_all
     · show Int.toNat (((List.length g.2 : Int) : Int) - ((k + 1) : Int)) < Int.toNat (((List.length g.2 : Int) : Int) - (k : Int))
       omega
    refine run_cond_f rfl (decide_eq_false p12) ?_
    refine run_skip ?_
    refine run_inBlock ?_
    refine run_region rfl ?_
    refine l_val (v := Value.int .i64 1) rfl (e_add (m := 0) (n := 1) rfl rfl (by omega)) ?_
    refine l_val (v := Value.int .i64 1) rfl (e_move rfl) ?_
    refine l_nil ?_
    refine run_inLoop ?_
    refine run_seq ?_
    refine run_region rfl ?_
    refine l_val (v := Value.bool true) rfl (e_lss (m := 1) (n := 2) rfl rfl) ?_
    refine l_nil ?_
    refine run_seq ?_
    refine run_cond_t rfl rfl ?_
    refine run_skip ?_
    refine run_seq ?_
    refine run_block ?_
    refine run_seq ?_
    refine run_region rfl ?_
    refine l_val (v := Value.int .i64 1) rfl (e_move rfl) ?_
    refine l_val (v := Value.int .i64 ((gI g.2 (k : Int)).2)) rfl (e_index_arr Try.underlying71 tp3_b rfl rfl (by decide) (by decide) rfl) ?_
    refine l_val (v := Value.int .i64 1) rfl (e_assign rfl) ?_
    refine l_val (v := Value.int .i64 ((gI g.2 (k : Int)).2)) rfl (e_assign rfl) ?_
    refine l_nil ?_
    refine run_seq ?_
    refine run_region rfl ?_
    refine l_val (v := Value.int .i64 ((gI g.2 (k : Int)).2)) rfl (e_move rfl) ?_
    refine l_val (v := Value.int .i64 v) rfl (e_move (by exact zs1)) ?_
    refine l_val (v := Value.bool (decide (((gI g.2 (k : Int)).2) = v))) rfl (e_eql (m := (gI g.2 (k : Int)).2) (n := v) rfl rfl) ?_
    refine l_nil ?_
    by_cases p12_47 : ((gI g.2 (k : Int)).2) = v
    ·
     refine run_cond_t rfl (decide_eq_true p12_47) ?_
     refine run_region rfl ?_
     refine l_val (v := l_v) rfl (e_move (by exact zs6)) ?_
     refine l_val (v := Value.int .i64 (k : Int)) rfl (e_move rfl) ?_
     refine l_val (v := Value.int .i64 (2 * (k : Int))) rfl (e_mul (m := 2) (n := (k : Int)) rfl rfl (by omega)) ?_
     refine l_val (v := Value.int .i64 1) rfl (e_move rfl) ?_
     refine l_val (v := Value.int .i64 ((2 * (k : Int)) + 1)) rfl (e_add (m := 2 * (k : Int)) (n := 1) rfl rfl (by omega)) ?_
     refine l_op rfl ?_
     refine o_buildSlice (α := Int) g18 (is 3) (is 3) (3, 0) rfl [(2 * (k : Int)) + 1] Try.underlying35 tp3_b (by decide) (by decide) (vs := [(0, Value.int .i64 ((2 * (k : Int)) + 1))]) rfl rfl (.cons rfl .nil) ?_
     intro g48 w49 v50 ch51 o52
     refine l_op rfl ?_
     have C53 : Chg (inl [2]) _ _ _ _ := (ch16.n).seq ((ch21.l rfl).seq (ch51.n))
     replace o_l := o_l.chg C53 (is_nl rfl) (is_nl rfl)
     refine o_append (α := Int) (xs := l) (ys := ([(2 * (k : Int)) + 1])) g48 (J := is 4) (S := is 4) (4, 0) rfl Try.underlying35 tp3_b (by decide) rfl rfl rfl o_l o52.flat (by decide) (by first | omega | (simp; done) | (simp; omega)) ?_
     intro g54 w55 v56 ch57 o58
     clear o_l
     refine l_val (v := v56) rfl (e_assign rfl) ?_
     refine l_nil ?_
     refine run_inBlock ?_
     clear o52
     refine run_region rfl ?_
     refine l_val (v := Value.int .i64 2) rfl (e_add (m := 1) (n := 1) rfl rfl (by omega)) ?_
     refine l_val (v := Value.int .i64 2) rfl (e_move rfl) ?_
     refine l_nil ?_
     refine run_inLoop ?_
     refine run_seq ?_
     refine run_region rfl ?_
     refine l_val (v := Value.bool false) rfl (e_lss (m := 2) (n := 2) rfl rfl) ?_
     refine l_nil ?_
     refine run_seq ?_
     refine run_cond_f rfl rfl ?_
     refine run_exit rfl ?_
     refine run_inBlock ?_
     refine run_region rfl ?_
     refine l_val (v := Value.int .i64 ((k : Int) + 1)) rfl (e_add (m := (k : Int)) (n := 1) (by exact zs23) rfl (by omega)) ?_
     refine l_val (v := Value.int .i64 ((k : Int) + 1)) rfl (e_move rfl) ?_
     refine l_nil ?_
     have C59 : Chg (inl [2, 4]) _ _ _ _ := (ch16.n).seq ((ch21.l rfl).seq ((ch51.n).seq (ch57.l rfl)))
     replace hbase := hbase.chg C59 (is_nl rfl)
     replace r_g_v := r_g_v.chg C59 (is_nl rfl)
     refine back7 (v56, (l ++ [(2 * (k : Int)) + 1]), k + 1, g54) _ _ ⟨hbase, (by exact zs1), rfl, (by exact zs21), (by exact zs22), rfl, r_g_v, o58, by omega, ?_⟩ ?_
     · show (l ++ [(2 * (k : Int)) + 1]) = outSk g v (k + 1)
       rw [outSk_succ, hinv]; simp_all
     · show Int.toNat (((List.length g.2 : Int) : Int) - ((k + 1) : Int)) < Int.toNat (((List.length g.2 : Int) : Int) - (k : Int))
       omega
    refine run_cond_f rfl (decide_eq_false p12_47) ?_
    refine run_skip ?_
    refine run_inBlock ?_
    refine run_region rfl ?_
    refine l_val (v := Value.int .i64 2) rfl (e_add (m := 1) (n := 1) rfl rfl (by omega)) ?_
    refine l_val (v := Value.int .i64 2) rfl (e_move rfl) ?_
    refine l_nil ?_
    refine run_inLoop ?_
    refine run_seq ?_
    refine run_region rfl ?_
    refine l_val (v := Value.bool false) rfl (e_lss (m := 2) (n := 2) rfl rfl) ?_
    refine l_nil ?_
    refine run_seq ?_
    refine run_cond_f rfl rfl ?_
    refine run_exit rfl ?_
    refine run_inBlock ?_
    refine run_region rfl ?_
    refine l_val (v := Value.int .i64 ((k : Int) + 1)) rfl (e_add (m := (k : Int)) (n := 1) (by exact zs23) rfl (by omega)) ?_
    refine l_val (v := Value.int .i64 ((k : Int) + 1)) rfl (e_move rfl) ?_
    refine l_nil ?_
    replace hbase := hbase.chg ch16 (not_no _)
    replace hbase := hbase.chg ch21 (is_ne rfl)
    replace r_g_v := (r_g_v.chg ch16 (not_no _)).chg ch21 (is_ne rfl)
    replace o_l := (o_l.chg ch16 (not_no _) (not_no _)).chg ch21 (is_ne rfl) (is_ne rfl)
    refine back7 (l_v, l, k + 1, g18) _ _ ⟨hbase, (by exact zs1), (by exact zs6), (by exact zs21), (by exact zs22), rfl, r_g_v, o_l, by omega, ?_⟩ ?_
    · show l = outSk g v (k + 1)
      rw [outSk_succ, hinv]; simp_all
    · show Int.toNat (((List.length g.2 : Int) : Int) - ((k + 1) : Int)) < Int.toNat (((List.length g.2 : Int) : Int) - (k : Int))
      omega
   refine run_cond_f rfl (decide_eq_false p7) ?_
   refine run_exit rfl ?_
   refine run_seq ?_
   refine run_region rfl ?_
   refine l_val (v := l_v) rfl (e_move (by exact zs6)) ?_
   refine l_val (v := l_v) rfl (e_assign rfl) ?_
   refine l_val (v := Value.int .i64 0) rfl (e_assign rfl) ?_
   refine l_nil ?_
   refine run_ret (vs := [l_v, Value.int .i64 0]) Try.func51 (.tmp rfl (.tmp rfl .nil)) ?_
   -- return 0
   have e0 : (l : List Int) = ((outR g v).1) := by
     have hk : k = g.2.length := by omega
     subst hk
     simp [outR, of_decide_eq_true p1, of_decide_eq_true p3, hinv, outS]
   have e1 : (0 : Int) = ((outR g v).2) := by
     have hk : k = g.2.length := by omega
     subst hk
     simp [outR, of_decide_eq_true p1, of_decide_eq_true p3, hinv, outS]
   exact ⟨(fin w0 g14 (fun n => if n = 4 then 1 else 0), l_v), (congr2 (a := l) (b := 0) (fun (z0 : List Int) (z1 : Int) => Ending.returned (Value.tuple (List.toArray [l_v, Value.int .i64 z1]))) e0 e1), hbase.fresh _, (e0 ▸ (o_l.glue (γ := c0) (ren := (fun n => if n = 4 then 1 else 0)) (k := 1) hbase.col rfl rfl))⟩
  refine run_cond_t rfl (congrArg Bool.not (Bool.eq_false_iff.2 p3)) ?_
  refine run_seq ?_
  clear bx5
  refine run_region rfl ?_
  refine l_val (v := Value.slice none 0 0) rfl (e_assign rfl) ?_
  refine l_val (v := Value.int .i64 2) rfl (e_assign rfl) ?_
  refine l_nil ?_
  refine run_ret (vs := [Value.slice none 0 0, Value.int .i64 2]) Try.func51 (.tmp rfl (.tmp rfl .nil)) ?_
  -- return 1
  have C60 : Chg (inl []) _ _ _ _ := (ch2.n).seq ((hb7.n).seq (hb9.n))
  replace hbase := hbase.chg C60 (is_nl rfl)
  have e0 : ([] : List Int) = ((outR g v).1) := by
    have h3 : ¬ (0 ≤ v ∧ v < g.1) := fun h => p3 (decide_eq_true h)
    simp only [outR, if_pos (of_decide_eq_true p1), if_neg h3]
  have e1 : (2 : Int) = ((outR g v).2) := by
    have h3 : ¬ (0 ≤ v ∧ v < g.1) := fun h => p3 (decide_eq_true h)
    simp only [outR, if_pos (of_decide_eq_true p1), if_neg h3]
  exact ⟨(fin w0 g4 (fun n => 0), (Value.slice none 0 0)), (congr2 (a := []) (b := 2) (fun (z0 : List Int) (z1 : Int) => Ending.returned (Value.tuple (List.toArray [Value.slice none 0 0, Value.int .i64 z1]))) e0 e1), hbase.fresh _, (e0 ▸ Ow.nil)⟩
 refine run_cond_t rfl (congrArg Bool.not (Bool.eq_false_iff.2 p1)) ?_
 refine run_seq ?_
 clear bx5
 refine run_region rfl ?_
 refine l_val (v := Value.slice none 0 0) rfl (e_assign rfl) ?_
 refine l_val (v := Value.int .i64 1) rfl (e_assign rfl) ?_
 refine l_nil ?_
 refine run_ret (vs := [Value.slice none 0 0, Value.int .i64 1]) Try.func51 (.tmp rfl (.tmp rfl .nil)) ?_
 -- return 2
 replace hbase := hbase.chg ch2 (not_no _)
 replace hbase := hbase.chg hb7 (not_no _)
 have e0 : ([] : List Int) = ((outR g v).1) := by
   have hn : ¬ MayP g := fun h => p1 (decide_eq_true h)
   simp [outR, hn]
 have e1 : (1 : Int) = ((outR g v).2) := by
   have hn : ¬ MayP g := fun h => p1 (decide_eq_true h)
   simp [outR, hn]
 exact ⟨(fin w0 g4 (fun n => 0), (Value.slice none 0 0)), (congr2 (a := []) (b := 1) (fun (z0 : List Int) (z1 : Int) => Ending.returned (Value.tuple (List.toArray [Value.slice none 0 0, Value.int .i64 z1]))) e0 e1), hbase.fresh _, (e0 ▸ Ow.nil)⟩

theorem degrees_ok (w0 : World) (g : (Int) × (List ((Int) × (Int)))) (g_v : Value) (hg_v : Ro w0 g_v g.2) (hmay : MayP g) :
    Calls Try.prog 95 #[Value.agg (List.toArray [Value.int .i64 g.1, g_v])] w0 (fun ee w => ∃ xx : Cmap × Value, ee = .returned ((fun ⟨δ, rv0⟩ => rv0) xx) ∧ (fun (⟨δ, rv0⟩ : Cmap × Value) (w : World) => Fresh w0 δ w ∧ Ow δ (is 1) (is 1) w rv0 (degS g)) xx w) := by
 refine calls_of_run Try.func95 rfl (Nat.le_of_ble_eq_true rfl) ?_
 have hbase := Base.start w0
 have r_g_v := hg_v.sl
 obtain ⟨hm1, hm2, hm3, hm4⟩ := hmay
 refine run_seq ?_
 refine run_region rfl ?_
 refine l_op rfl ?_
 refine o_box c0 (is 1) (1, 0) rfl rfl ?_
 intro g4 w1 b3 ch2 bx5
 replace bx5 : Bx g4 (is 1) w1 b3 [Value.int .i64 g.1, g_v] := bx5
 refine l_val (v := Value.slice none 0 0) rfl (e_assign rfl) ?_
 refine l_nil ?_
 refine run_seq ?_
 refine run_region rfl ?_
 refine l_val (v := Value.pointer (some ⟨b3, 0, none⟩)) rfl (e_fieldAddr Try.underlying24 rfl rfl rfl rfl) ?_
 refine l_val (v := Value.int .i64 g.1) rfl (e_load_bx1 tp3_b rfl bx5 rfl) ?_
 refine l_op rfl ?_
 refine o_make (α := Int) (l := g.1) (cp := g.1) g4 (is 2) (is 2) (2, 0) rfl (0 : Int) Try.underlying35 tp3_b rfl rfl rfl (by omega) (by omega) (by omega) (by omega) ?_
 intro g6 w7 v8 ch9 o10 _
 refine l_val (v := v8) rfl (e_assign rfl) ?_
 refine l_nil ?_
 refine run_seq ?_
 refine run_seq ?_
 refine run_region rfl ?_
 refine l_val (v := Value.pointer (some ⟨b3, 1, none⟩)) rfl (e_fieldAddr Try.underlying24 rfl rfl rfl rfl) ?_
 replace bx5 := bx5.chg ch9 (not_no _)
 refine l_val (v := g_v) rfl (e_load_bx1 tp22_b rfl bx5 rfl) ?_
 replace r_g_v := (r_g_v.chg ch2 (not_no _)).chg ch9 (not_no _)
 have len11 := (r_g_v).small
 refine l_val (v := Value.int .i64 (List.length g.2 : Int)) rfl (e_len Try.underlying22 rfl r_g_v) ?_
 refine l_val (v := Value.int .i64 0) rfl (e_move rfl) ?_
 refine l_nil ?_
 refine run_block ?_
 clear bx5
 refine run_loop (σ := Nat × (List Int) × Cmap) (fun ⟨k, l, gq⟩ f w => Base w0 gq w ∧ f 3 = v8 ∧ f 10 = g_v ∧ f 11 = Value.int .i64 (List.length g.2 : Int) ∧ f 12 = Value.int .i64 (k : Int) ∧ Sl gq (is 0) w g_v g.2 ∧ Ow gq (is 2) (is 2) w v8 l ∧ (k : Int) ≤ ((List.length g.2 : Int) : Int) ∧ (DegInv l g k)) (fun ⟨k, l, gq⟩ => Int.toNat (((List.length g.2 : Int) : Int) - (k : Int))) (0, (List.replicate (Int.toNat g.1) (0 : Int)), g6) ?_ ?_
 replace hbase := hbase.chg ch2 (not_no _)
 replace hbase := hbase.chg ch9 (not_no _)
 · exact ⟨hbase, rfl, rfl, rfl, rfl, r_g_v, o10, by omega, by exact DegInv.start g hm1⟩
 clear r_g_v
 clear o10
 clear hbase
 rintro ⟨k, l, g14⟩ f12 w13 ⟨hbase, zs3, zs10, zs11, zs12, r_g_v, o10, hle_k, hd⟩ back3
 have hdl := hd.len
 refine run_seq ?_
 refine run_region rfl ?_
 refine l_val (v := Value.bool (decide ((k : Int) < (List.length g.2 : Int)))) rfl (e_lss (m := (k : Int)) (n := (List.length g.2 : Int)) (by exact zs12) (by exact zs11)) ?_
 refine l_nil ?_
 refine run_seq ?_
 by_cases p3 : (k : Int) < (List.length g.2 : Int)
 ·
  refine run_cond_t rfl (decide_eq_true p3) ?_
  obtain ⟨⟨he1, he2⟩, he3, he4⟩ := hm4 _ (gI_mem (xs := g.2) (i := (k : Int)) (by omega) (by omega))
  have hd1 := hd.deg _ he1 he2
  have hd2 := hd.deg _ he3 he4
  have hl1 := outSk_len g (gI g.2 (k : Int)).1 k
  have hl2 := outSk_len g (gI g.2 (k : Int)).2 k
  have hs2 := gI_set (xs := l) (y := gI l (gI g.2 (k : Int)).1 + 1) he1 (by omega) he3
  refine run_skip ?_
  refine run_seq ?_
  refine run_block ?_
  refine run_seq ?_
  refine run_region rfl ?_
  refine l_val (v := Value.pointer (some (eAddr g_v 2 (Int.toNat (k : Int))))) rfl (e_indexAddr (α := (Int) × (Int)) (xs := g.2) (v := g_v) (i := (k : Int)) Try.underlying22 rfl (by exact zs10) r_g_v (by exact zs12) (by omega) (by omega)) ?_
  refine l_val (v := Value.agg (List.toArray [Value.int .i64 ((gI g.2 (k : Int)).1), Value.int .i64 ((gI g.2 (k : Int)).2)])) rfl (e_load_elN (α := (Int) × (Int)) (xs := g.2) (v := g_v) (i := (k : Int)) tp71_b rfl r_g_v (by omega) (by omega) rfl) ?_
  refine l_op rfl ?_
  refine o_alloc g14 (is 3) (3, 0) rfl tp71_b ?_
  intro g18 w15 b17 ch16 bx19
  replace bx19 : Bx g18 (is 3) w15 b17 [Value.int .i64 0, Value.int .i64 0] := bx19
  refine l_op rfl ?_
  refine o_store_bx (cs' := [Value.int .i64 ((gI g.2 (k : Int)).1), Value.int .i64 ((gI g.2 (k : Int)).2)]) tp71_b rfl rfl bx19 rfl (Nat.le_of_ble_eq_true rfl) (AllOne.all (.cons rfl (.cons rfl .nil))) rfl ?_
  intro w20 ch21 bx22
  clear bx19
  refine l_nil ?_
  refine run_seq ?_
  refine run_region rfl ?_
  refine l_val (v := v8) rfl (e_move (by exact zs3)) ?_
  refine l_val (v := Value.pointer (some ⟨b17, 0, none⟩)) rfl (e_indexAddr_arr Try.underlying71 rfl rfl rfl (by decide) (by decide) rfl) ?_
  refine l_val (v := Value.int .i64 ((gI g.2 (k : Int)).1)) rfl (e_load_bx1 tp3_b rfl bx22 rfl) ?_
  replace o10 := (o10.chg ch16 (not_no _) (not_no _)).chg ch21 (is_ne rfl) (is_ne rfl)
  refine l_val (v := Value.pointer (some (eAddr v8 1 (Int.toNat ((gI g.2 (k : Int)).1))))) rfl (e_indexAddr (α := Int) (xs := l) (v := v8) (i := (gI g.2 (k : Int)).1) Try.underlying35 rfl rfl o10.flat rfl (by omega) (by omega)) ?_
  refine l_val (v := Value.int .i64 (gI l ((gI g.2 (k : Int)).1))) rfl (e_load_el1 (α := Int) (xs := l) (v := v8) (i := (gI g.2 (k : Int)).1) tp3_b rfl o10.flat (by omega) (by omega) (by decide) rfl) ?_
  refine l_val (v := Value.int .i64 ((gI l ((gI g.2 (k : Int)).1)) + 1)) rfl (e_add (m := (gI l ((gI g.2 (k : Int)).1))) (n := 1) rfl rfl (by omega)) ?_
  refine l_val (v := Value.pointer (some (eAddr v8 1 (Int.toNat ((gI g.2 (k : Int)).1))))) rfl (e_indexAddr (α := Int) (xs := l) (v := v8) (i := (gI g.2 (k : Int)).1) Try.underlying35 rfl rfl o10.flat rfl (by omega) (by omega)) ?_
  refine l_op rfl ?_
  refine o_store_el (i := (gI g.2 (k : Int)).1) ((gI l ((gI g.2 (k : Int)).1)) + 1) tp3_b rfl rfl o10 (by omega) (by omega) rfl ?_
  intro w23 ch24 bx25
  clear o10
  refine l_nil ?_
  refine run_region rfl ?_
  refine l_val (v := v8) rfl (e_move (by exact zs3)) ?_
  refine l_val (v := Value.pointer (some ⟨b17, 1, none⟩)) rfl (e_indexAddr_arr Try.underlying71 rfl rfl rfl (by decide) (by decide) rfl) ?_
  replace bx22 := bx22.chg ch24 (is_ne rfl)
  refine l_val (v := Value.int .i64 ((gI g.2 (k : Int)).2)) rfl (e_load_bx1 tp3_b rfl bx22 rfl) ?_
  refine l_val (v := Value.pointer (some (eAddr v8 1 (Int.toNat ((gI g.2 (k : Int)).2))))) rfl (e_indexAddr (α := Int) (xs := (List.set l (Int.toNat ((gI g.2 (k : Int)).1)) ((gI l ((gI g.2 (k : Int)).1)) + 1))) (v := v8) (i := (gI g.2 (k : Int)).2) Try.underlying35 rfl rfl bx25.flat rfl (by omega) (by first | omega | (simp only [List.length_set, List.length_append, List.length_cons, List.length_nil, List.length_replicate, List.length_map, List.length_take, List.length_drop]; omega) | (simp; done) | (simp; omega))) ?_
  refine l_val (v := Value.int .i64 (gI (List.set l (Int.toNat ((gI g.2 (k : Int)).1)) ((gI l ((gI g.2 (k : Int)).1)) + 1)) ((gI g.2 (k : Int)).2))) rfl (e_load_el1 (α := Int) (xs := (List.set l (Int.toNat ((gI g.2 (k : Int)).1)) ((gI l ((gI g.2 (k : Int)).1)) + 1))) (v := v8) (i := (gI g.2 (k : Int)).2) tp3_b rfl bx25.flat (by omega) (by first | omega | (simp only [List.length_set, List.length_append, List.length_cons, List.length_nil, List.length_replicate, List.length_map, List.length_take, List.length_drop]; omega) | (simp; done) | (simp; omega)) (by decide) rfl) ?_
  refine l_val (v := Value.int .i64 ((gI (List.set l (Int.toNat ((gI g.2 (k : Int)).1)) ((gI l ((gI g.2 (k : Int)).1)) + 1)) ((gI g.2 (k : Int)).2)) + 1)) rfl (e_add (m := (gI (List.set l (Int.toNat ((gI g.2 (k : Int)).1)) ((gI l ((gI g.2 (k : Int)).1)) + 1)) ((gI g.2 (k : Int)).2))) (n := 1) rfl rfl (by omega)) ?_
  refine l_val (v := Value.pointer (some (eAddr v8 1 (Int.toNat ((gI g.2 (k : Int)).2))))) rfl (e_indexAddr (α := Int) (xs := (List.set l (Int.toNat ((gI g.2 (k : Int)).1)) ((gI l ((gI g.2 (k : Int)).1)) + 1))) (v := v8) (i := (gI g.2 (k : Int)).2) Try.underlying35 rfl rfl bx25.flat rfl (by omega) (by first | omega | (simp only [List.length_set, List.length_append, List.length_cons, List.length_nil, List.length_replicate, List.length_map, List.length_take, List.length_drop]; omega) | (simp; done) | (simp; omega))) ?_
  refine l_op rfl ?_
  refine o_store_el (i := (gI g.2 (k : Int)).2) ((gI (List.set l (Int.toNat ((gI g.2 (k : Int)).1)) ((gI l ((gI g.2 (k : Int)).1)) + 1)) ((gI g.2 (k : Int)).2)) + 1) tp3_b rfl rfl bx25 (by omega) (by first | omega | (simp only [List.length_set, List.length_append, List.length_cons, List.length_nil, List.length_replicate, List.length_map, List.length_take, List.length_drop]; omega) | (simp; done) | (simp; omega)) rfl ?_
  intro w26 ch27 bx28
  clear bx25
  refine l_nil ?_
  refine run_inBlock ?_
  clear bx22
  refine run_region rfl ?_
  refine l_val (v := Value.int .i64 ((k : Int) + 1)) rfl (e_add (m := (k : Int)) (n := 1) (by exact zs12) rfl (by omega)) ?_
  refine l_val (v := Value.int .i64 ((k : Int) + 1)) rfl (e_move rfl) ?_
  refine l_nil ?_
  have C29 : Chg (inl [2, 3]) _ _ _ _ := (ch16.n).seq ((ch21.l rfl).seq ((ch24.l rfl).seq (ch27.l rfl)))
  replace hbase := hbase.chg C29 (is_nl rfl)
  replace r_g_v := r_g_v.chg C29 (is_nl rfl)
  refine back3 (k + 1, (List.set (List.set l (Int.toNat ((gI g.2 (k : Int)).1)) ((gI l ((gI g.2 (k : Int)).1)) + 1)) (Int.toNat ((gI g.2 (k : Int)).2)) ((gI (List.set l (Int.toNat ((gI g.2 (k : Int)).1)) ((gI l ((gI g.2 (k : Int)).1)) + 1)) ((gI g.2 (k : Int)).2)) + 1)), g18) _ _ ⟨hbase, (by exact zs3), (by exact zs10), (by exact zs11), rfl, r_g_v, bx28, by omega, ?_⟩ ?_
  · show DegInv (List.set (List.set l (Int.toNat ((gI g.2 (k : Int)).1)) ((gI l ((gI g.2 (k : Int)).1)) + 1)) (Int.toNat ((gI g.2 (k : Int)).2)) ((gI (List.set l (Int.toNat ((gI g.2 (k : Int)).1)) ((gI l ((gI g.2 (k : Int)).1)) + 1)) ((gI g.2 (k : Int)).2)) + 1)) g (k + 1)
    exact hd.next he1 he2 he3 he4
  · show Int.toNat (((List.length g.2 : Int) : Int) - ((k + 1) : Int)) < Int.toNat (((List.length g.2 : Int) : Int) - (k : Int))
    omega
 refine run_cond_f rfl (decide_eq_false p3) ?_
 refine run_exit rfl ?_
 refine run_seq ?_
 refine run_region rfl ?_
 refine l_val (v := v8) rfl (e_move (by exact zs3)) ?_
 refine l_val (v := v8) rfl (e_assign rfl) ?_
 refine l_nil ?_
 refine run_ret (vs := [v8]) Try.func95 (.tmp rfl .nil) ?_
 -- return 0
 have e0 : (l : List Int) = (degS g) := by
   exact hd.done (by omega)
 exact ⟨(fin w0 g14 (fun n => if n = 2 then 1 else 0), v8), (congrArg (a₁ := l) (fun (z0 : List Int) => Ending.returned (v8)) e0), hbase.fresh _, (e0 ▸ (o10.glue (γ := c0) (ren := (fun n => if n = 2 then 1 else 0)) (k := 1) hbase.col rfl rfl))⟩

theorem Degrees_ok (w0 : World) (g : (Int) × (List ((Int) × (Int)))) (g_v : Value) (hg_v : Ro w0 g_v g.2) :
    Calls Try.prog 55 #[Value.agg (List.toArray [Value.int .i64 g.1, g_v])] w0 (fun ee w => ∃ xx : Cmap × Value, ee = .returned ((fun ⟨δ, rv0⟩ => Value.tuple (List.toArray [rv0, Value.int .i64 ((degR g).2)])) xx) ∧ (fun (⟨δ, rv0⟩ : Cmap × Value) (w : World) => Fresh w0 δ w ∧ Ow δ (is 1) (is 1) w rv0 ((degR g).1)) xx w) := by
 refine calls_of_run Try.func55 rfl (Nat.le_of_ble_eq_true rfl) ?_
 have hbase := Base.start w0
 have r_g_v := hg_v.sl
 refine run_seq ?_
 refine run_region rfl ?_
 refine l_op rfl ?_
 refine o_box c0 (is 1) (1, 0) rfl rfl ?_
 intro g4 w1 b3 ch2 bx5
 replace bx5 : Bx g4 (is 1) w1 b3 [Value.int .i64 g.1, g_v] := bx5
 refine l_val (v := Value.slice none 0 0) rfl (e_assign rfl) ?_
 refine l_val (v := Value.int .i64 0) rfl (e_assign rfl) ?_
 refine l_nil ?_
 refine run_seq ?_
 refine run_seq ?_
 refine run_region rfl ?_
 refine l_val (v := Value.agg (List.toArray [Value.int .i64 g.1, g_v])) rfl (e_load_bxN (ds := [Value.int .i64 g.1, g_v]) tp24_b rfl bx5 rfl rfl) ?_
 replace r_g_v := r_g_v.chg ch2 (not_no _)
 refine l_op rfl ?_
 refine o_call (v := Value.bool (mayB g)) (e_call (vals := [Value.agg (List.toArray [Value.int .i64 g.1, g_v])]) Try.func25 bd25_b nm25_b rfl) (May_ok w1 g g_v (r_g_v).ro) ?_
 intro w6 hb7
 replace hb7 := chg_below hb7 g4
 refine l_val (v := Value.bool (!(mayB g))) rfl (e_not (b := (mayB g)) rfl) ?_
 refine l_nil ?_
 by_cases p1 : (mayB g) = true
 ·
  refine run_cond_f rfl (congrArg Bool.not p1) ?_
  refine run_skip ?_
  refine run_seq ?_
  refine run_region rfl ?_
  replace bx5 := bx5.chg hb7 (not_no _)
  refine l_val (v := Value.agg (List.toArray [Value.int .i64 g.1, g_v])) rfl (e_load_bxN (ds := [Value.int .i64 g.1, g_v]) tp24_b rfl bx5 rfl rfl) ?_
  replace r_g_v := r_g_v.chg hb7 (not_no _)
  refine l_op rfl ?_
  refine o_callx (e_call (vals := [Value.agg (List.toArray [Value.int .i64 g.1, g_v])]) Try.func95 bd95_b nm95_b rfl) (degrees_ok w6 g g_v (r_g_v).ro (by exact of_decide_eq_true p1)) ?_
  rintro ⟨d9, v11⟩ w8 ⟨fr10, o12⟩
  obtain ⟨g13, hg13⟩ : ∃ q, q = glue w6.heap.size g4 d9 (fun n => if n = 1 then 2 else 0) := ⟨_, rfl⟩
  have ch14 := chg_glue fr10.below g4 d9 (fun n => if n = 1 then 2 else 0)
  rw [← hg13] at ch14
  replace o12 := o12.glue (γ := g4) (ren := (fun n => if n = 1 then 2 else 0)) (k := 2) fr10.col rfl rfl
  rw [← hg13] at o12
  clear hg13
  refine l_val (v := v11) rfl (e_assign rfl) ?_
  refine l_val (v := Value.int .i64 0) rfl (e_assign rfl) ?_
  refine l_nil ?_
  refine run_ret (vs := [v11, Value.int .i64 0]) Try.func55 (.tmp rfl (.tmp rfl .nil)) ?_
  -- return 0
  have C15 : Chg (inl []) _ _ _ _ := (ch2.n).seq ((hb7.n).seq (ch14.n))
  replace hbase := hbase.chg C15 (is_nl rfl)
  have e0 : (degS g : List Int) = ((degR g).1) := by
    simp [degR, of_decide_eq_true p1]
  have e1 : (0 : Int) = ((degR g).2) := by
    simp [degR, of_decide_eq_true p1]
  exact ⟨(fin w0 g13 (fun n => if n = 2 then 1 else 0), v11), (congr2 (a := degS g) (b := 0) (fun (z0 : List Int) (z1 : Int) => Ending.returned (Value.tuple (List.toArray [v11, Value.int .i64 z1]))) e0 e1), hbase.fresh _, (e0 ▸ (o12.glue (γ := c0) (ren := (fun n => if n = 2 then 1 else 0)) (k := 1) hbase.col rfl rfl))⟩
 refine run_cond_t rfl (congrArg Bool.not (Bool.eq_false_iff.2 p1)) ?_
 refine run_seq ?_
 clear bx5
 refine run_region rfl ?_
 refine l_val (v := Value.slice none 0 0) rfl (e_assign rfl) ?_
 refine l_val (v := Value.int .i64 1) rfl (e_assign rfl) ?_
 refine l_nil ?_
 refine run_ret (vs := [Value.slice none 0 0, Value.int .i64 1]) Try.func55 (.tmp rfl (.tmp rfl .nil)) ?_
 -- return 1
 replace hbase := hbase.chg ch2 (not_no _)
 replace hbase := hbase.chg hb7 (not_no _)
 have e0 : ([] : List Int) = ((degR g).1) := by
   have hn : ¬ MayP g := fun h => p1 (decide_eq_true h)
   simp [degR, hn]
 have e1 : (1 : Int) = ((degR g).2) := by
   have hn : ¬ MayP g := fun h => p1 (decide_eq_true h)
   simp [degR, hn]
 exact ⟨(fin w0 g4 (fun n => 0), (Value.slice none 0 0)), (congr2 (a := []) (b := 1) (fun (z0 : List Int) (z1 : Int) => Ending.returned (Value.tuple (List.toArray [Value.slice none 0 0, Value.int .i64 z1]))) e0 e1), hbase.fresh _, (e0 ▸ Ow.nil)⟩

theorem Min_ok (w0 : World) (x : List Int) (x_v : Value) (hx_v : Ro w0 x_v x) (hx : 0 < x.length) :
    Calls Try.prog 92 #[x_v] w0 (fun ee w => ee = .returned (Value.int .i64 (minL x)) ∧ RowKit.Below w0.heap.size w0 w) := by
 refine calls_of_run Try.func92 rfl (Nat.le_of_ble_eq_true rfl) ?_
 have hbase := Base.start w0
 have r_x_v := hx_v.sl
 refine run_seq ?_
 refine run_region rfl ?_
 refine l_val (v := Value.int .i64 0) rfl (e_assign rfl) ?_
 refine l_nil ?_
 refine run_seq ?_
 refine run_seq ?_
 refine run_region rfl ?_
 refine l_val (v := x_v) rfl (e_move rfl) ?_
 have len1 := (r_x_v).small
 refine l_val (v := Value.int .i64 (List.length x : Int)) rfl (e_len Try.underlying35 rfl r_x_v) ?_
 refine l_val (v := Value.bool (decide ((List.length x : Int) < 1))) rfl (e_lss (m := (List.length x : Int)) (n := 1) rfl rfl) ?_
 refine l_nil ?_
 by_cases p1 : (List.length x : Int) < 1
 ·
  omega
 refine run_cond_f rfl (decide_eq_false p1) ?_
 refine run_skip ?_
 refine run_seq ?_
 refine run_region rfl ?_
 refine l_val (v := x_v) rfl (e_move rfl) ?_
 refine l_val (v := Value.pointer (some (eAddr x_v 1 (Int.toNat 0)))) rfl (e_indexAddr (α := Int) (xs := x) (v := x_v) (i := 0) Try.underlying35 rfl rfl r_x_v rfl (by omega) (by omega)) ?_
 refine l_val (v := Value.int .i64 (gI x 0)) rfl (e_load_el1 (α := Int) (xs := x) (v := x_v) (i := 0) tp3_b rfl r_x_v (by omega) (by omega) (by decide) rfl) ?_
 refine l_val (v := Value.int .i64 (gI x 0)) rfl (e_assign rfl) ?_
 refine l_nil ?_
 refine run_seq ?_
 refine run_seq ?_
 refine run_region rfl ?_
 refine l_val (v := Value.int .i64 1) rfl (e_assign rfl) ?_
 refine l_nil ?_
 refine run_block ?_
 refine run_loop (σ := Int × Nat × Cmap) (fun ⟨m, i, gq⟩ f w => Base w0 gq w ∧ f 0 = x_v ∧ f 3 = Value.int .i64 m ∧ f 4 = Value.int .i64 (i : Int) ∧ Sl gq (is 0) w x_v x ∧ (i : Int) ≤ ((List.length x : Int) : Int) ∧ (1 ≤ i ∧ m = minK x i)) (fun ⟨m, i, gq⟩ => Int.toNat (((List.length x : Int) : Int) - (i : Int))) ((gI x 0), 1, c0) ?_ ?_
 · exact ⟨hbase, rfl, rfl, rfl, r_x_v, by omega, by exact ⟨Nat.le_refl _, by simp [minK]⟩⟩
 clear r_x_v
 clear hbase
 rintro ⟨m, i, g4⟩ f2 w3 ⟨hbase, zs0, zs3, zs4, r_x_v, hle_i, hinv⟩ back5
 refine run_seq ?_
 refine run_seq ?_
 refine run_region rfl ?_
 refine l_val (v := Value.int .i64 (i : Int)) rfl (e_move (by exact zs4)) ?_
 refine l_val (v := x_v) rfl (e_move (by exact zs0)) ?_
 refine l_val (v := Value.int .i64 (List.length x : Int)) rfl (e_len Try.underlying35 rfl r_x_v) ?_
 refine l_val (v := Value.bool (decide ((i : Int) < (List.length x : Int)))) rfl (e_lss (m := (i : Int)) (n := (List.length x : Int)) rfl rfl) ?_
 refine l_nil ?_
 by_cases p5 : (i : Int) < (List.length x : Int)
 ·
  refine run_cond_t rfl (decide_eq_true p5) ?_
  refine run_skip ?_
  refine run_seq ?_
  refine run_block ?_
  refine run_region rfl ?_
  refine l_val (v := Value.int .i64 m) rfl (e_move (by exact zs3)) ?_
  refine l_val (v := x_v) rfl (e_move (by exact zs0)) ?_
  refine l_val (v := Value.int .i64 (i : Int)) rfl (e_move (by exact zs4)) ?_
  refine l_val (v := Value.pointer (some (eAddr x_v 1 (Int.toNat (i : Int))))) rfl (e_indexAddr (α := Int) (xs := x) (v := x_v) (i := (i : Int)) Try.underlying35 rfl rfl r_x_v rfl (by omega) (by omega)) ?_
  refine l_val (v := Value.int .i64 (gI x (i : Int))) rfl (e_load_el1 (α := Int) (xs := x) (v := x_v) (i := (i : Int)) tp3_b rfl r_x_v (by omega) (by omega) (by decide) rfl) ?_
  refine l_val (v := Value.int .i64 (min m (gI x (i : Int)))) rfl (e_min rfl rfl) ?_
  refine l_val (v := Value.int .i64 (min m (gI x (i : Int)))) rfl (e_assign rfl) ?_
  refine l_nil ?_
  refine run_inBlock ?_
  refine run_region rfl ?_
  refine l_val (v := Value.int .i64 (i : Int)) rfl (e_move (by exact zs4)) ?_
  refine l_val (v := Value.int .i64 ((i : Int) + 1)) rfl (e_add (m := (i : Int)) (n := 1) rfl rfl (by omega)) ?_
  refine l_val (v := Value.int .i64 ((i : Int) + 1)) rfl (e_assign rfl) ?_
  refine l_nil ?_
  refine back5 (min m (gI x (i : Int)), i + 1, g4) _ _ ⟨hbase, (by exact zs0), rfl, rfl, r_x_v, by omega, ?_⟩ ?_
  · show 1 ≤ (i + 1) ∧ (min m (gI x (i : Int))) = minK x (i + 1)
    obtain ⟨h1, h2⟩ := hinv
    exact ⟨by omega, by rw [h2, minK_succ h1 (by assumption)]⟩
  · show Int.toNat (((List.length x : Int) : Int) - ((i + 1) : Int)) < Int.toNat (((List.length x : Int) : Int) - (i : Int))
    omega
 refine run_cond_f rfl (decide_eq_false p5) ?_
 refine run_exit rfl ?_
 refine run_seq ?_
 refine run_region rfl ?_
 refine l_val (v := Value.int .i64 m) rfl (e_move (by exact zs3)) ?_
 refine l_val (v := Value.int .i64 m) rfl (e_assign rfl) ?_
 refine l_nil ?_
 refine run_ret (vs := [Value.int .i64 m]) Try.func92 (.tmp rfl .nil) ?_
 -- return 0
 have e0 : (m : Int) = (minL x) := by
   obtain ⟨h1, h2⟩ := hinv
   rw [h2]
   unfold minL
   rw [show i = x.length by omega]
 exact ⟨(congrArg (a₁ := m) (fun (z0 : Int) => Ending.returned (Value.int .i64 z0)) e0), hbase.below⟩

theorem Max_ok (w0 : World) (x : List Int) (x_v : Value) (hx_v : Ro w0 x_v x) (hx : 0 < x.length) :
    Calls Try.prog 96 #[x_v] w0 (fun ee w => ee = .returned (Value.int .i64 (maxL x)) ∧ RowKit.Below w0.heap.size w0 w) := by
 refine calls_of_run Try.func96 rfl (Nat.le_of_ble_eq_true rfl) ?_
 have hbase := Base.start w0
 have r_x_v := hx_v.sl
 refine run_seq ?_
 refine run_region rfl ?_
 refine l_val (v := Value.int .i64 0) rfl (e_assign rfl) ?_
 refine l_nil ?_
 refine run_seq ?_
 refine run_seq ?_
 refine run_region rfl ?_
 refine l_val (v := x_v) rfl (e_move rfl) ?_
 have len1 := (r_x_v).small
 refine l_val (v := Value.int .i64 (List.length x : Int)) rfl (e_len Try.underlying35 rfl r_x_v) ?_
 refine l_val (v := Value.bool (decide ((List.length x : Int) < 1))) rfl (e_lss (m := (List.length x : Int)) (n := 1) rfl rfl) ?_
 refine l_nil ?_
 by_cases p1 : (List.length x : Int) < 1
 ·
  omega
 refine run_cond_f rfl (decide_eq_false p1) ?_
 refine run_skip ?_
 refine run_seq ?_
 refine run_region rfl ?_
 refine l_val (v := x_v) rfl (e_move rfl) ?_
 refine l_val (v := Value.pointer (some (eAddr x_v 1 (Int.toNat 0)))) rfl (e_indexAddr (α := Int) (xs := x) (v := x_v) (i := 0) Try.underlying35 rfl rfl r_x_v rfl (by omega) (by omega)) ?_
 refine l_val (v := Value.int .i64 (gI x 0)) rfl (e_load_el1 (α := Int) (xs := x) (v := x_v) (i := 0) tp3_b rfl r_x_v (by omega) (by omega) (by decide) rfl) ?_
 refine l_val (v := Value.int .i64 (gI x 0)) rfl (e_assign rfl) ?_
 refine l_nil ?_
 refine run_seq ?_
 refine run_seq ?_
 refine run_region rfl ?_
 refine l_val (v := Value.int .i64 1) rfl (e_assign rfl) ?_
 refine l_nil ?_
 refine run_block ?_
 refine run_loop (σ := Int × Nat × Cmap) (fun ⟨m, i, gq⟩ f w => Base w0 gq w ∧ f 0 = x_v ∧ f 3 = Value.int .i64 m ∧ f 4 = Value.int .i64 (i : Int) ∧ Sl gq (is 0) w x_v x ∧ (i : Int) ≤ ((List.length x : Int) : Int) ∧ (1 ≤ i ∧ m = maxK x i)) (fun ⟨m, i, gq⟩ => Int.toNat (((List.length x : Int) : Int) - (i : Int))) ((gI x 0), 1, c0) ?_ ?_
 · exact ⟨hbase, rfl, rfl, rfl, r_x_v, by omega, by exact ⟨Nat.le_refl _, by simp [maxK]⟩⟩
 clear r_x_v
 clear hbase
 rintro ⟨m, i, g4⟩ f2 w3 ⟨hbase, zs0, zs3, zs4, r_x_v, hle_i, hinv⟩ back5
 refine run_seq ?_
 refine run_seq ?_
 refine run_region rfl ?_
 refine l_val (v := Value.int .i64 (i : Int)) rfl (e_move (by exact zs4)) ?_
 refine l_val (v := x_v) rfl (e_move (by exact zs0)) ?_
 refine l_val (v := Value.int .i64 (List.length x : Int)) rfl (e_len Try.underlying35 rfl r_x_v) ?_
 refine l_val (v := Value.bool (decide ((i : Int) < (List.length x : Int)))) rfl (e_lss (m := (i : Int)) (n := (List.length x : Int)) rfl rfl) ?_
 refine l_nil ?_
 by_cases p5 : (i : Int) < (List.length x : Int)
 ·
  refine run_cond_t rfl (decide_eq_true p5) ?_
  refine run_skip ?_
  refine run_seq ?_
  refine run_block ?_
  refine run_region rfl ?_
  refine l_val (v := Value.int .i64 m) rfl (e_move (by exact zs3)) ?_
  refine l_val (v := x_v) rfl (e_move (by exact zs0)) ?_
  refine l_val (v := Value.int .i64 (i : Int)) rfl (e_move (by exact zs4)) ?_
  refine l_val (v := Value.pointer (some (eAddr x_v 1 (Int.toNat (i : Int))))) rfl (e_indexAddr (α := Int) (xs := x) (v := x_v) (i := (i : Int)) Try.underlying35 rfl rfl r_x_v rfl (by omega) (by omega)) ?_
  refine l_val (v := Value.int .i64 (gI x (i : Int))) rfl (e_load_el1 (α := Int) (xs := x) (v := x_v) (i := (i : Int)) tp3_b rfl r_x_v (by omega) (by omega) (by decide) rfl) ?_
  refine l_val (v := Value.int .i64 (max m (gI x (i : Int)))) rfl (e_max rfl rfl) ?_
  refine l_val (v := Value.int .i64 (max m (gI x (i : Int)))) rfl (e_assign rfl) ?_
  refine l_nil ?_
  refine run_inBlock ?_
  refine run_region rfl ?_
  refine l_val (v := Value.int .i64 (i : Int)) rfl (e_move (by exact zs4)) ?_
  refine l_val (v := Value.int .i64 ((i : Int) + 1)) rfl (e_add (m := (i : Int)) (n := 1) rfl rfl (by omega)) ?_
  refine l_val (v := Value.int .i64 ((i : Int) + 1)) rfl (e_assign rfl) ?_
  refine l_nil ?_
  refine back5 (max m (gI x (i : Int)), i + 1, g4) _ _ ⟨hbase, (by exact zs0), rfl, rfl, r_x_v, by omega, ?_⟩ ?_
  · show 1 ≤ (i + 1) ∧ (max m (gI x (i : Int))) = maxK x (i + 1)
    obtain ⟨h1, h2⟩ := hinv
    exact ⟨by omega, by rw [h2, maxK_succ h1 (by assumption)]⟩
  · show Int.toNat (((List.length x : Int) : Int) - ((i + 1) : Int)) < Int.toNat (((List.length x : Int) : Int) - (i : Int))
    omega
 refine run_cond_f rfl (decide_eq_false p5) ?_
 refine run_exit rfl ?_
 refine run_seq ?_
 refine run_region rfl ?_
 refine l_val (v := Value.int .i64 m) rfl (e_move (by exact zs3)) ?_
 refine l_val (v := Value.int .i64 m) rfl (e_assign rfl) ?_
 refine l_nil ?_
 refine run_ret (vs := [Value.int .i64 m]) Try.func96 (.tmp rfl .nil) ?_
 -- return 0
 have e0 : (m : Int) = (maxL x) := by
   obtain ⟨h1, h2⟩ := hinv
   rw [h2]
   unfold maxL
   rw [show i = x.length by omega]
 exact ⟨(congrArg (a₁ := m) (fun (z0 : Int) => Ending.returned (Value.int .i64 z0)) e0), hbase.below⟩

theorem Look_ok (w0 : World) (g : (Int) × (List ((Int) × (Int)))) (g_v : Value) (hg_v : Ro w0 g_v g.2) :
    Calls Try.prog 52 #[Value.agg (List.toArray [Value.int .i64 g.1, g_v])] w0 (fun ee w => ee = .returned (Value.tuple (List.toArray [Value.agg (List.toArray [Value.int .i64 (((lookR g).1).1), Value.int .i64 ((((lookR g).1).2).1), Value.int .i64 (((((lookR g).1).2).2).1), Value.int .i64 ((((((lookR g).1).2).2).2).1), Value.bool ((((((lookR g).1).2).2).2).2)]), Value.int .i64 ((lookR g).2)])) ∧ RowKit.Below w0.heap.size w0 w) := by
 refine calls_of_run Try.func52 rfl (Nat.le_of_ble_eq_true rfl) ?_
 have hbase := Base.start w0
 have r_g_v := hg_v.sl
 refine run_seq ?_
 refine run_region rfl ?_
 refine l_op rfl ?_
 refine o_box c0 (is 1) (1, 0) rfl rfl ?_
 intro g4 w1 b3 ch2 bx5
 replace bx5 : Bx g4 (is 1) w1 b3 [Value.int .i64 g.1, g_v] := bx5
 refine l_op rfl ?_
 refine o_alloc g4 (is 2) (2, 0) rfl tp78_b ?_
 intro g9 w6 b8 ch7 bx10
 replace bx10 : Bx g9 (is 2) w6 b8 [Value.int .i64 0, Value.int .i64 0, Value.int .i64 0, Value.int .i64 0, Value.bool false] := bx10
 refine l_val (v := Value.int .i64 0) rfl (e_assign rfl) ?_
 refine l_nil ?_
 refine run_seq ?_
 refine run_seq ?_
 refine run_region rfl ?_
 replace bx5 := bx5.chg ch7 (not_no _)
 refine l_val (v := Value.agg (List.toArray [Value.int .i64 g.1, g_v])) rfl (e_load_bxN (ds := [Value.int .i64 g.1, g_v]) tp24_b rfl bx5 rfl rfl) ?_
 replace r_g_v := (r_g_v.chg ch2 (not_no _)).chg ch7 (not_no _)
 refine l_op rfl ?_
 refine o_call (v := Value.bool (mayB g)) (e_call (vals := [Value.agg (List.toArray [Value.int .i64 g.1, g_v])]) Try.func25 bd25_b nm25_b rfl) (May_ok w6 g g_v (r_g_v).ro) ?_
 intro w11 hb12
 replace hb12 := chg_below hb12 g9
 refine l_val (v := Value.bool (!(mayB g))) rfl (e_not (b := (mayB g)) rfl) ?_
 refine l_nil ?_
 by_cases p1 : (mayB g) = true
 ·
  obtain ⟨hm1, hm2, hm3, hm4⟩ := of_decide_eq_true p1
  refine run_cond_f rfl (congrArg Bool.not p1) ?_
  refine run_skip ?_
  refine run_seq ?_
  refine run_region rfl ?_
  refine l_op rfl ?_
  refine o_alloc g9 (is 3) (3, 0) rfl tp78_b ?_
  intro g16 w13 b15 ch14 bx17
  replace bx17 : Bx g16 (is 3) w13 b15 [Value.int .i64 0, Value.int .i64 0, Value.int .i64 0, Value.int .i64 0, Value.bool false] := bx17
  refine l_nil ?_
  refine run_seq ?_
  refine run_region rfl ?_
  refine l_op rfl ?_
  refine o_makeMap (K := (Int) × (Int)) g16 (is 4) (4, 0) rfl ?_
  intro g18 w19 v20 ch21 m22
  refine l_val (v := v20) rfl (e_assign rfl) ?_
  refine l_nil ?_
  refine run_seq ?_
  refine run_seq ?_
  refine run_region rfl ?_
  refine l_val (v := Value.pointer (some ⟨b3, 1, none⟩)) rfl (e_fieldAddr Try.underlying24 rfl rfl rfl rfl) ?_
  have C23 : Chg (inl []) _ _ _ _ := (hb12.n).seq ((ch14.n).seq (ch21.n))
  replace bx5 := bx5.chg C23 (is_nl rfl)
  refine l_val (v := g_v) rfl (e_load_bx1 tp22_b rfl bx5 rfl) ?_
  replace r_g_v := r_g_v.chg C23 (is_nl rfl)
  have len24 := (r_g_v).small
  refine l_val (v := Value.int .i64 (List.length g.2 : Int)) rfl (e_len Try.underlying22 rfl r_g_v) ?_
  refine l_val (v := Value.int .i64 0) rfl (e_move rfl) ?_
  refine l_nil ?_
  refine run_block ?_
  refine run_loop (σ := Int × Int × Nat × (((Int) × (Int)) → Int) × Cmap) (fun ⟨l_0, l_1, k, seen, gq⟩ f w => Base w0 gq w ∧ f 1 = Value.pointer (some ⟨b3, 0, none⟩) ∧ f 2 = Value.pointer (some ⟨b8, 0, none⟩) ∧ f 4 = Value.pointer (some ⟨b15, 0, none⟩) ∧ f 5 = v20 ∧ f 16 = g_v ∧ f 17 = Value.int .i64 (List.length g.2 : Int) ∧ f 18 = Value.int .i64 (k : Int) ∧ Sl gq (is 0) w g_v g.2 ∧ Bx gq (is 1) w b3 [Value.int .i64 g.1, g_v] ∧ Bx gq (is 2) w b8 [Value.int .i64 0, Value.int .i64 0, Value.int .i64 0, Value.int .i64 0, Value.bool false] ∧ Bx gq (is 3) w b15 [Value.int .i64 l_0, Value.int .i64 l_1, Value.int .i64 0, Value.int .i64 0, Value.bool false] ∧ Mp gq (is 4) w v20 seen ∧ (k : Int) ≤ ((List.length g.2 : Int) : Int) ∧ (LookInv l_0 l_1 seen g k)) (fun ⟨l_0, l_1, k, seen, gq⟩ => Int.toNat (((List.length g.2 : Int) : Int) - (k : Int))) (0, 0, 0, (fun _ => 0), g18) ?_ ?_
  have C25 : Chg (inl []) _ _ _ _ := (ch2.n).seq ((ch7.n).seq ((hb12.n).seq ((ch14.n).seq (ch21.n))))
  replace hbase := hbase.chg C25 (is_nl rfl)
  replace bx10 := bx10.chg C23 (is_nl rfl)
  replace bx17 := bx17.chg ch21 (not_no _)
  · exact ⟨hbase, rfl, rfl, rfl, rfl, rfl, rfl, rfl, r_g_v, bx5, bx10, bx17, m22, by omega, by exact LookInv.start g⟩
  clear r_g_v
  clear bx5
  clear bx10
  clear bx17
  clear m22
  clear hbase
  rintro ⟨l_0, l_1, k, seen, g28⟩ f26 w27 ⟨hbase, zs1, zs2, zs4, zs5, zs16, zs17, zs18, r_g_v, bx5, bx10, bx17, m22, hle_k, hinv⟩ back6
  obtain ⟨hl0, hl1, hse⟩ := hinv.bd
  refine run_seq ?_
  refine run_region rfl ?_
  refine l_val (v := Value.bool (decide ((k : Int) < (List.length g.2 : Int)))) rfl (e_lss (m := (k : Int)) (n := (List.length g.2 : Int)) (by exact zs18) (by exact zs17)) ?_
  refine l_nil ?_
  refine run_seq ?_
  by_cases p6 : (k : Int) < (List.length g.2 : Int)
  ·
   refine run_cond_t rfl (decide_eq_true p6) ?_
   have hse1 := hse (min (gI g.2 (k : Int)).1 (gI g.2 (k : Int)).2, max (gI g.2 (k : Int)).1 (gI g.2 (k : Int)).2)
   refine run_skip ?_
   refine run_seq ?_
   refine run_block ?_
   refine run_seq ?_
   refine run_region rfl ?_
   refine l_val (v := Value.pointer (some (eAddr g_v 2 (Int.toNat (k : Int))))) rfl (e_indexAddr (α := (Int) × (Int)) (xs := g.2) (v := g_v) (i := (k : Int)) Try.underlying22 rfl (by exact zs16) r_g_v (by exact zs18) (by omega) (by omega)) ?_
   refine l_val (v := Value.agg (List.toArray [Value.int .i64 ((gI g.2 (k : Int)).1), Value.int .i64 ((gI g.2 (k : Int)).2)])) rfl (e_load_elN (α := (Int) × (Int)) (xs := g.2) (v := g_v) (i := (k : Int)) tp71_b rfl r_g_v (by omega) (by omega) rfl) ?_
   refine l_op rfl ?_
   refine o_alloc g28 (is 5) (5, 0) rfl tp71_b ?_
   intro g32 w29 b31 ch30 bx33
   replace bx33 : Bx g32 (is 5) w29 b31 [Value.int .i64 0, Value.int .i64 0] := bx33
   refine l_op rfl ?_
   refine o_store_bx (cs' := [Value.int .i64 ((gI g.2 (k : Int)).1), Value.int .i64 ((gI g.2 (k : Int)).2)]) tp71_b rfl rfl bx33 rfl (Nat.le_of_ble_eq_true rfl) (AllOne.all (.cons rfl (.cons rfl .nil))) rfl ?_
   intro w34 ch35 bx36
   clear bx33
   refine l_nil ?_
   refine run_seq ?_
   refine run_seq ?_
   refine run_region rfl ?_
   refine l_val (v := Value.pointer (some ⟨b31, 0, none⟩)) rfl (e_indexAddr_arr Try.underlying71 rfl rfl rfl (by decide) (by decide) rfl) ?_
   refine l_val (v := Value.int .i64 ((gI g.2 (k : Int)).1)) rfl (e_load_bx1 tp3_b rfl bx36 rfl) ?_
   refine l_val (v := Value.pointer (some ⟨b31, 1, none⟩)) rfl (e_indexAddr_arr Try.underlying71 rfl rfl rfl (by decide) (by decide) rfl) ?_
   refine l_val (v := Value.int .i64 ((gI g.2 (k : Int)).2)) rfl (e_load_bx1 tp3_b rfl bx36 rfl) ?_
   refine l_val (v := Value.bool (decide (((gI g.2 (k : Int)).1) = ((gI g.2 (k : Int)).2)))) rfl (e_eql (m := (gI g.2 (k : Int)).1) (n := (gI g.2 (k : Int)).2) rfl rfl) ?_
   refine l_nil ?_
   by_cases p8 : ((gI g.2 (k : Int)).1) = ((gI g.2 (k : Int)).2)
   ·
    refine run_cond_t rfl (decide_eq_true p8) ?_
    refine run_region rfl ?_
    refine l_val (v := Value.pointer (some ⟨b15, 0, none⟩)) rfl (e_fieldAddr Try.underlying78 rfl rfl (by exact zs4) rfl) ?_
    replace bx17 := (bx17.chg ch30 (not_no _)).chg ch35 (is_ne rfl)
    refine l_val (v := Value.int .i64 l_0) rfl (e_load_bx1 tp3_b rfl bx17 rfl) ?_
    refine l_val (v := Value.int .i64 (l_0 + 1)) rfl (e_add (m := l_0) (n := 1) rfl rfl (by omega)) ?_
    refine l_val (v := Value.pointer (some ⟨b15, 0, none⟩)) rfl (e_fieldAddr Try.underlying78 rfl rfl (by exact zs4) rfl) ?_
    refine l_op rfl ?_
    refine o_store_bx (cs' := [Value.int .i64 (l_0 + 1), Value.int .i64 l_1, Value.int .i64 0, Value.int .i64 0, Value.bool false]) tp3_b rfl rfl bx17 rfl (Nat.le_of_ble_eq_true rfl) (AllOne.all (.cons rfl .nil)) rfl ?_
    intro w37 ch38 bx39
    clear bx17
    refine l_nil ?_
    refine run_seq ?_
    refine run_region rfl ?_
    replace bx36 := bx36.chg ch38 (is_ne rfl)
    refine l_val (v := Value.agg (List.toArray [Value.int .i64 ((gI g.2 (k : Int)).1), Value.int .i64 ((gI g.2 (k : Int)).2)])) rfl (e_load_bxN (ds := [Value.int .i64 ((gI g.2 (k : Int)).1), Value.int .i64 ((gI g.2 (k : Int)).2)]) tp71_b rfl bx36 rfl rfl) ?_
    refine l_op rfl ?_
    refine o_call (v := Value.agg (List.toArray [Value.int .i64 (min (gI g.2 (k : Int)).1 (gI g.2 (k : Int)).2), Value.int .i64 (max (gI g.2 (k : Int)).1 (gI g.2 (k : Int)).2)])) (e_call (vals := [Value.agg (List.toArray [Value.int .i64 ((gI g.2 (k : Int)).1), Value.int .i64 ((gI g.2 (k : Int)).2)])]) Try.func94 bd94_b nm94_b rfl) (level_ok w37 (gI g.2 (k : Int))) ?_
    intro w40 hb41
    replace hb41 := chg_below hb41 g32
    refine l_op rfl ?_
    refine o_alloc g32 (is 6) (6, 0) rfl tp71_b ?_
    intro g45 w42 b44 ch43 bx46
    replace bx46 : Bx g45 (is 6) w42 b44 [Value.int .i64 0, Value.int .i64 0] := bx46
    refine l_op rfl ?_
    refine o_store_bx (cs' := [Value.int .i64 (min (gI g.2 (k : Int)).1 (gI g.2 (k : Int)).2), Value.int .i64 (max (gI g.2 (k : Int)).1 (gI g.2 (k : Int)).2)]) tp71_b rfl rfl bx46 rfl (Nat.le_of_ble_eq_true rfl) (AllOne.all (.cons rfl (.cons rfl .nil))) rfl ?_
    intro w47 ch48 bx49
    clear bx46
    refine l_nil ?_
    refine run_seq ?_
    refine run_seq ?_
    clear bx36
    refine run_region rfl ?_
    refine l_val (v := v20) rfl (e_move (by exact zs5)) ?_
    refine l_val (v := Value.agg (List.toArray [Value.int .i64 (min (gI g.2 (k : Int)).1 (gI g.2 (k : Int)).2), Value.int .i64 (max (gI g.2 (k : Int)).1 (gI g.2 (k : Int)).2)])) rfl (e_load_bxN (ds := [Value.int .i64 (min (gI g.2 (k : Int)).1 (gI g.2 (k : Int)).2), Value.int .i64 (max (gI g.2 (k : Int)).1 (gI g.2 (k : Int)).2)]) tp71_b rfl bx49 rfl rfl) ?_
    have C50 : Chg (inl [3, 5, 6]) _ _ _ _ := (ch30.n).seq ((ch35.l rfl).seq ((ch38.l rfl).seq ((hb41.n).seq ((ch43.n).seq (ch48.l rfl)))))
    replace m22 := m22.chg C50 (is_nl rfl)
    refine l_val (v := Value.int .i64 (seen (min (gI g.2 (k : Int)).1 (gI g.2 (k : Int)).2, max (gI g.2 (k : Int)).1 (gI g.2 (k : Int)).2))) rfl (e_lookup (min (gI g.2 (k : Int)).1 (gI g.2 (k : Int)).2, max (gI g.2 (k : Int)).1 (gI g.2 (k : Int)).2) Try.underlying111 (keyOk_pair Try.underlying71 Try.underlying3 tp3_b) tp3_b rfl m22 rfl rfl) ?_
    refine l_val (v := Value.bool (decide (0 < (seen (min (gI g.2 (k : Int)).1 (gI g.2 (k : Int)).2, max (gI g.2 (k : Int)).1 (gI g.2 (k : Int)).2))))) rfl (e_gtr (m := seen (min (gI g.2 (k : Int)).1 (gI g.2 (k : Int)).2, max (gI g.2 (k : Int)).1 (gI g.2 (k : Int)).2)) (n := 0) rfl rfl) ?_
    refine l_nil ?_
    by_cases p11 : 0 < (seen (min (gI g.2 (k : Int)).1 (gI g.2 (k : Int)).2, max (gI g.2 (k : Int)).1 (gI g.2 (k : Int)).2))
    ·
     refine run_cond_t rfl (decide_eq_true p11) ?_
     refine run_region rfl ?_
     refine l_val (v := Value.pointer (some ⟨b15, 1, none⟩)) rfl (e_fieldAddr Try.underlying78 rfl rfl (by exact zs4) rfl) ?_
     have C51 : Chg (inl [6]) _ _ _ _ := (hb41.n).seq ((ch43.n).seq (ch48.l rfl))
     replace bx39 := bx39.chg C51 (is_nl rfl)
     refine l_val (v := Value.int .i64 l_1) rfl (e_load_bx1 tp3_b rfl bx39 rfl) ?_
     refine l_val (v := Value.int .i64 (l_1 + 1)) rfl (e_add (m := l_1) (n := 1) rfl rfl (by omega)) ?_
     refine l_val (v := Value.pointer (some ⟨b15, 1, none⟩)) rfl (e_fieldAddr Try.underlying78 rfl rfl (by exact zs4) rfl) ?_
     refine l_op rfl ?_
     refine o_store_bx (cs' := [Value.int .i64 (l_0 + 1), Value.int .i64 (l_1 + 1), Value.int .i64 0, Value.int .i64 0, Value.bool false]) tp3_b rfl rfl bx39 rfl (Nat.le_of_ble_eq_true rfl) (AllOne.all (.cons rfl .nil)) rfl ?_
     intro w52 ch53 bx54
     clear bx39
     refine l_nil ?_
     refine region_mid (σ := Cmap) (fun gq f w => Base w0 gq w ∧ f 1 = Value.pointer (some ⟨b3, 0, none⟩) ∧ f 2 = Value.pointer (some ⟨b8, 0, none⟩) ∧ f 4 = Value.pointer (some ⟨b15, 0, none⟩) ∧ f 5 = v20 ∧ f 16 = g_v ∧ f 17 = Value.int .i64 (List.length g.2 : Int) ∧ f 18 = Value.int .i64 (k : Int) ∧ Sl gq (is 0) w g_v g.2 ∧ Bx gq (is 1) w b3 [Value.int .i64 g.1, g_v] ∧ Bx gq (is 2) w b8 [Value.int .i64 0, Value.int .i64 0, Value.int .i64 0, Value.int .i64 0, Value.bool false] ∧ Bx gq (is 3) w b15 [Value.int .i64 (l_0 + 1), Value.int .i64 (l_1 + 1), Value.int .i64 0, Value.int .i64 0, Value.bool false] ∧ Mp gq (is 4) w v20 (fun q => if q = (min (gI g.2 (k : Int)).1 (gI g.2 (k : Int)).2, max (gI g.2 (k : Int)).1 (gI g.2 (k : Int)).2) then ((seen (min (gI g.2 (k : Int)).1 (gI g.2 (k : Int)).2, max (gI g.2 (k : Int)).1 (gI g.2 (k : Int)).2)) + 1) else seen q)) g45 [0, 1, 3, 5] mixed_b ?_ ?_
     ·
      intro mid
      intro w56 ch55
      refine x_pure (v := v20) 0 rfl (by kernel_rfl) (by kernel_rfl) rfl (fun w => e_move (by exact zs5)) ?_
      replace bx49 := (bx49.chg ch53 (is_ne rfl)).chg ch55 (not_no _)
      refine x_val (v := Value.agg (List.toArray [Value.int .i64 (min (gI g.2 (k : Int)).1 (gI g.2 (k : Int)).2), Value.int .i64 (max (gI g.2 (k : Int)).1 (gI g.2 (k : Int)).2)])) 1 [0] rfl (by kernel_rfl) (by kernel_rfl) rfl (e_load_bxN (ds := [Value.int .i64 (min (gI g.2 (k : Int)).1 (gI g.2 (k : Int)).2), Value.int .i64 (max (gI g.2 (k : Int)).1 (gI g.2 (k : Int)).2)]) tp71_b rfl bx49 rfl rfl) ?_
      refine x_two 2 4 rfl rfl (by kernel_rfl) rfl rfl ?_ ?_
      ·
       replace m22 := (m22.chg ch53 (is_ne rfl)).chg ch55 (not_no _)
       refine o_of_val (v := Value.int .i64 (seen (min (gI g.2 (k : Int)).1 (gI g.2 (k : Int)).2, max (gI g.2 (k : Int)).1 (gI g.2 (k : Int)).2))) (e_lookup (min (gI g.2 (k : Int)).1 (gI g.2 (k : Int)).2, max (gI g.2 (k : Int)).1 (gI g.2 (k : Int)).2) Try.underlying111 (keyOk_pair Try.underlying71 Try.underlying3 tp3_b) tp3_b rfl m22 rfl rfl) ?_
       refine x_pure (v := Value.int .i64 ((seen (min (gI g.2 (k : Int)).1 (gI g.2 (k : Int)).2, max (gI g.2 (k : Int)).1 (gI g.2 (k : Int)).2)) + 1)) 3 rfl (by kernel_rfl) (by kernel_rfl) rfl (fun w => e_add (m := seen (min (gI g.2 (k : Int)).1 (gI g.2 (k : Int)).2, max (gI g.2 (k : Int)).1 (gI g.2 (k : Int)).2)) (n := 1) rfl rfl (by omega)) ?_
       refine x_one 4 rfl (by kernel_rfl) rfl ?_
       refine o_mapEntry (min (gI g.2 (k : Int)).1 (gI g.2 (k : Int)).2, max (gI g.2 (k : Int)).1 (gI g.2 (k : Int)).2) Try.underlying111 (keyOk_pair Try.underlying71 Try.underlying3 tp3_b) tp3_b rfl m22 rfl rfl ?_
       intro w57 s60 ch58 m59
       clear m22
       refine x_pure (v := Value.int .i64 s60) 5 rfl (by kernel_rfl) (by kernel_rfl) rfl (fun w => e_extract rfl rfl) ?_
       refine x_one 6 rfl (by kernel_rfl) rfl ?_
       refine o_entryStore rfl m59 rfl rfl ?_
       intro w61 ch62 m63
       clear m59
       refine x_nil (by kernel_rfl) ?_
       have C64 : Chg (inl [3, 4, 5, 6]) _ _ _ _ := (ch30.n).seq ((ch35.l rfl).seq ((ch38.l rfl).seq ((hb41.n).seq ((ch43.n).seq ((ch48.l rfl).seq ((ch53.l rfl).seq ((ch55.n).seq ((ch58.l rfl).seq (ch62.l rfl)))))))))
       replace hbase := hbase.chg C64 (is_nl rfl)
       replace r_g_v := r_g_v.chg C64 (is_nl rfl)
       replace bx5 := bx5.chg C64 (is_nl rfl)
       replace bx10 := bx10.chg C64 (is_nl rfl)
       have C65 : Chg (inl [4]) _ _ _ _ := (ch55.n).seq ((ch58.l rfl).seq (ch62.l rfl))
       replace bx54 := bx54.chg C65 (is_nl rfl)
       exact mid (g45) _ _ ⟨hbase, (by exact zs1), (by exact zs2), (by exact zs4), (by exact zs5), (by exact zs16), (by exact zs17), (by exact zs18), r_g_v, bx5, bx10, bx54, m63⟩
      ·
       replace m22 := (m22.chg ch53 (is_ne rfl)).chg ch55 (not_no _)
       refine o_mapEntry (min (gI g.2 (k : Int)).1 (gI g.2 (k : Int)).2, max (gI g.2 (k : Int)).1 (gI g.2 (k : Int)).2) Try.underlying111 (keyOk_pair Try.underlying71 Try.underlying3 tp3_b) tp3_b rfl m22 rfl rfl ?_
       intro w66 s69 ch67 m68
       clear m22
       refine x_pure (v := Value.int .i64 s69) 5 rfl (by kernel_rfl) (by kernel_rfl) rfl (fun w => e_extract rfl rfl) ?_
       refine x_one 2 rfl (by kernel_rfl) rfl ?_
       refine o_of_val (v := Value.int .i64 (seen (min (gI g.2 (k : Int)).1 (gI g.2 (k : Int)).2, max (gI g.2 (k : Int)).1 (gI g.2 (k : Int)).2))) (e_lookup (min (gI g.2 (k : Int)).1 (gI g.2 (k : Int)).2, max (gI g.2 (k : Int)).1 (gI g.2 (k : Int)).2) Try.underlying111 (keyOk_pair Try.underlying71 Try.underlying3 tp3_b) tp3_b rfl m68.mp rfl rfl) ?_
       refine x_pure (v := Value.int .i64 ((seen (min (gI g.2 (k : Int)).1 (gI g.2 (k : Int)).2, max (gI g.2 (k : Int)).1 (gI g.2 (k : Int)).2)) + 1)) 3 rfl (by kernel_rfl) (by kernel_rfl) rfl (fun w => e_add (m := seen (min (gI g.2 (k : Int)).1 (gI g.2 (k : Int)).2, max (gI g.2 (k : Int)).1 (gI g.2 (k : Int)).2)) (n := 1) rfl rfl (by omega)) ?_
       refine x_one 6 rfl (by kernel_rfl) rfl ?_
       refine o_entryStore rfl m68 rfl rfl ?_
       intro w70 ch71 m72
       clear m68
       refine x_nil (by kernel_rfl) ?_
       have C73 : Chg (inl [3, 4, 5, 6]) _ _ _ _ := (ch30.n).seq ((ch35.l rfl).seq ((ch38.l rfl).seq ((hb41.n).seq ((ch43.n).seq ((ch48.l rfl).seq ((ch53.l rfl).seq ((ch55.n).seq ((ch67.l rfl).seq (ch71.l rfl)))))))))
       replace hbase := hbase.chg C73 (is_nl rfl)
       replace r_g_v := r_g_v.chg C73 (is_nl rfl)
       replace bx5 := bx5.chg C73 (is_nl rfl)
       replace bx10 := bx10.chg C73 (is_nl rfl)
       have C74 : Chg (inl [4]) _ _ _ _ := (ch55.n).seq ((ch67.l rfl).seq (ch71.l rfl))
       replace bx54 := bx54.chg C74 (is_nl rfl)
       exact mid (g45) _ _ ⟨hbase, (by exact zs1), (by exact zs2), (by exact zs4), (by exact zs5), (by exact zs16), (by exact zs17), (by exact zs18), r_g_v, bx5, bx10, bx54, m72⟩
     clear r_g_v
     clear bx5
     clear bx10
     clear m22
     clear bx49
     clear bx54
     clear hbase
     rintro g77 f75 w76 ⟨hbase, zs1, zs2, zs4, zs5, zs16, zs17, zs18, r_g_v, bx5, bx10, bx54, m61⟩
     refine run_inBlock ?_
     refine run_region rfl ?_
     refine l_val (v := Value.int .i64 ((k : Int) + 1)) rfl (e_add (m := (k : Int)) (n := 1) (by exact zs18) rfl (by omega)) ?_
     refine l_val (v := Value.int .i64 ((k : Int) + 1)) rfl (e_move rfl) ?_
     refine l_nil ?_
     refine back6 (l_0 + 1, l_1 + 1, k + 1, (fun q => if q = (min (gI g.2 (k : Int)).1 (gI g.2 (k : Int)).2, max (gI g.2 (k : Int)).1 (gI g.2 (k : Int)).2) then ((seen (min (gI g.2 (k : Int)).1 (gI g.2 (k : Int)).2, max (gI g.2 (k : Int)).1 (gI g.2 (k : Int)).2)) + 1) else seen q), g77) _ _ ⟨hbase, (by exact zs1), (by exact zs2), (by exact zs4), (by exact zs5), (by exact zs16), (by exact zs17), rfl, r_g_v, bx5, bx10, bx54, m61, by omega, ?_⟩ ?_
     · show LookInv (l_0 + 1) (l_1 + 1) (fun q => if q = (min (gI g.2 (k : Int)).1 (gI g.2 (k : Int)).2, max (gI g.2 (k : Int)).1 (gI g.2 (k : Int)).2) then ((seen (min (gI g.2 (k : Int)).1 (gI g.2 (k : Int)).2, max (gI g.2 (k : Int)).1 (gI g.2 (k : Int)).2)) + 1) else seen q) g (k + 1)
       first
         | exact hinv.tt (by assumption) p8 p11
         | exact hinv.tf (by assumption) p8 p11
         | exact hinv.ft (by assumption) p8 p11
         | exact hinv.ff (by assumption) p8 p11
     · show Int.toNat (((List.length g.2 : Int) : Int) - ((k + 1) : Int)) < Int.toNat (((List.length g.2 : Int) : Int) - (k : Int))
       omega
    refine run_cond_f rfl (decide_eq_false p11) ?_
    refine run_skip ?_
    refine region_mid (σ := Cmap) (fun gq f w => Base w0 gq w ∧ f 1 = Value.pointer (some ⟨b3, 0, none⟩) ∧ f 2 = Value.pointer (some ⟨b8, 0, none⟩) ∧ f 4 = Value.pointer (some ⟨b15, 0, none⟩) ∧ f 5 = v20 ∧ f 16 = g_v ∧ f 17 = Value.int .i64 (List.length g.2 : Int) ∧ f 18 = Value.int .i64 (k : Int) ∧ Sl gq (is 0) w g_v g.2 ∧ Bx gq (is 1) w b3 [Value.int .i64 g.1, g_v] ∧ Bx gq (is 2) w b8 [Value.int .i64 0, Value.int .i64 0, Value.int .i64 0, Value.int .i64 0, Value.bool false] ∧ Bx gq (is 3) w b15 [Value.int .i64 (l_0 + 1), Value.int .i64 l_1, Value.int .i64 0, Value.int .i64 0, Value.bool false] ∧ Mp gq (is 4) w v20 (fun q => if q = (min (gI g.2 (k : Int)).1 (gI g.2 (k : Int)).2, max (gI g.2 (k : Int)).1 (gI g.2 (k : Int)).2) then ((seen (min (gI g.2 (k : Int)).1 (gI g.2 (k : Int)).2, max (gI g.2 (k : Int)).1 (gI g.2 (k : Int)).2)) + 1) else seen q)) g45 [0, 1, 3, 5] mixed_b ?_ ?_
    ·
     intro mid
     intro w79 ch78
     refine x_pure (v := v20) 0 rfl (by kernel_rfl) (by kernel_rfl) rfl (fun w => e_move (by exact zs5)) ?_
     replace bx49 := bx49.chg ch78 (not_no _)
     refine x_val (v := Value.agg (List.toArray [Value.int .i64 (min (gI g.2 (k : Int)).1 (gI g.2 (k : Int)).2), Value.int .i64 (max (gI g.2 (k : Int)).1 (gI g.2 (k : Int)).2)])) 1 [0] rfl (by kernel_rfl) (by kernel_rfl) rfl (e_load_bxN (ds := [Value.int .i64 (min (gI g.2 (k : Int)).1 (gI g.2 (k : Int)).2), Value.int .i64 (max (gI g.2 (k : Int)).1 (gI g.2 (k : Int)).2)]) tp71_b rfl bx49 rfl rfl) ?_
     refine x_two 2 4 rfl rfl (by kernel_rfl) rfl rfl ?_ ?_
     ·
      replace m22 := m22.chg ch78 (not_no _)
      refine o_of_val (v := Value.int .i64 (seen (min (gI g.2 (k : Int)).1 (gI g.2 (k : Int)).2, max (gI g.2 (k : Int)).1 (gI g.2 (k : Int)).2))) (e_lookup (min (gI g.2 (k : Int)).1 (gI g.2 (k : Int)).2, max (gI g.2 (k : Int)).1 (gI g.2 (k : Int)).2) Try.underlying111 (keyOk_pair Try.underlying71 Try.underlying3 tp3_b) tp3_b rfl m22 rfl rfl) ?_
      refine x_pure (v := Value.int .i64 ((seen (min (gI g.2 (k : Int)).1 (gI g.2 (k : Int)).2, max (gI g.2 (k : Int)).1 (gI g.2 (k : Int)).2)) + 1)) 3 rfl (by kernel_rfl) (by kernel_rfl) rfl (fun w => e_add (m := seen (min (gI g.2 (k : Int)).1 (gI g.2 (k : Int)).2, max (gI g.2 (k : Int)).1 (gI g.2 (k : Int)).2)) (n := 1) rfl rfl (by omega)) ?_
      refine x_one 4 rfl (by kernel_rfl) rfl ?_
      refine o_mapEntry (min (gI g.2 (k : Int)).1 (gI g.2 (k : Int)).2, max (gI g.2 (k : Int)).1 (gI g.2 (k : Int)).2) Try.underlying111 (keyOk_pair Try.underlying71 Try.underlying3 tp3_b) tp3_b rfl m22 rfl rfl ?_
      intro w80 s83 ch81 m82
      clear m22
      refine x_pure (v := Value.int .i64 s83) 5 rfl (by kernel_rfl) (by kernel_rfl) rfl (fun w => e_extract rfl rfl) ?_
      refine x_one 6 rfl (by kernel_rfl) rfl ?_
      refine o_entryStore rfl m82 rfl rfl ?_
      intro w84 ch85 m86
      clear m82
      refine x_nil (by kernel_rfl) ?_
      have C87 : Chg (inl [3, 4, 5, 6]) _ _ _ _ := (ch30.n).seq ((ch35.l rfl).seq ((ch38.l rfl).seq ((hb41.n).seq ((ch43.n).seq ((ch48.l rfl).seq ((ch78.n).seq ((ch81.l rfl).seq (ch85.l rfl))))))))
      replace hbase := hbase.chg C87 (is_nl rfl)
      replace r_g_v := r_g_v.chg C87 (is_nl rfl)
      replace bx5 := bx5.chg C87 (is_nl rfl)
      replace bx10 := bx10.chg C87 (is_nl rfl)
      have C88 : Chg (inl [4, 6]) _ _ _ _ := (hb41.n).seq ((ch43.n).seq ((ch48.l rfl).seq ((ch78.n).seq ((ch81.l rfl).seq (ch85.l rfl)))))
      replace bx39 := bx39.chg C88 (is_nl rfl)
      exact mid (g45) _ _ ⟨hbase, (by exact zs1), (by exact zs2), (by exact zs4), (by exact zs5), (by exact zs16), (by exact zs17), (by exact zs18), r_g_v, bx5, bx10, bx39, m86⟩
     ·
      replace m22 := m22.chg ch78 (not_no _)
      refine o_mapEntry (min (gI g.2 (k : Int)).1 (gI g.2 (k : Int)).2, max (gI g.2 (k : Int)).1 (gI g.2 (k : Int)).2) Try.underlying111 (keyOk_pair Try.underlying71 Try.underlying3 tp3_b) tp3_b rfl m22 rfl rfl ?_
      intro w89 s92 ch90 m91
      clear m22
      refine x_pure (v := Value.int .i64 s92) 5 rfl (by kernel_rfl) (by kernel_rfl) rfl (fun w => e_extract rfl rfl) ?_
      refine x_one 2 rfl (by kernel_rfl) rfl ?_
      refine o_of_val (v := Value.int .i64 (seen (min (gI g.2 (k : Int)).1 (gI g.2 (k : Int)).2, max (gI g.2 (k : Int)).1 (gI g.2 (k : Int)).2))) (e_lookup (min (gI g.2 (k : Int)).1 (gI g.2 (k : Int)).2, max (gI g.2 (k : Int)).1 (gI g.2 (k : Int)).2) Try.underlying111 (keyOk_pair Try.underlying71 Try.underlying3 tp3_b) tp3_b rfl m91.mp rfl rfl) ?_
      refine x_pure (v := Value.int .i64 ((seen (min (gI g.2 (k : Int)).1 (gI g.2 (k : Int)).2, max (gI g.2 (k : Int)).1 (gI g.2 (k : Int)).2)) + 1)) 3 rfl (by kernel_rfl) (by kernel_rfl) rfl (fun w => e_add (m := seen (min (gI g.2 (k : Int)).1 (gI g.2 (k : Int)).2, max (gI g.2 (k : Int)).1 (gI g.2 (k : Int)).2)) (n := 1) rfl rfl (by omega)) ?_
      refine x_one 6 rfl (by kernel_rfl) rfl ?_
      refine o_entryStore rfl m91 rfl rfl ?_
      intro w93 ch94 m95
      clear m91
      refine x_nil (by kernel_rfl) ?_
      have C96 : Chg (inl [3, 4, 5, 6]) _ _ _ _ := (ch30.n).seq ((ch35.l rfl).seq ((ch38.l rfl).seq ((hb41.n).seq ((ch43.n).seq ((ch48.l rfl).seq ((ch78.n).seq ((ch90.l rfl).seq (ch94.l rfl))))))))
      replace hbase := hbase.chg C96 (is_nl rfl)
      replace r_g_v := r_g_v.chg C96 (is_nl rfl)
      replace bx5 := bx5.chg C96 (is_nl rfl)
      replace bx10 := bx10.chg C96 (is_nl rfl)
      have C97 : Chg (inl [4, 6]) _ _ _ _ := (hb41.n).seq ((ch43.n).seq ((ch48.l rfl).seq ((ch78.n).seq ((ch90.l rfl).seq (ch94.l rfl)))))
      replace bx39 := bx39.chg C97 (is_nl rfl)
      exact mid (g45) _ _ ⟨hbase, (by exact zs1), (by exact zs2), (by exact zs4), (by exact zs5), (by exact zs16), (by exact zs17), (by exact zs18), r_g_v, bx5, bx10, bx39, m95⟩
    clear r_g_v
    clear bx5
    clear bx10
    clear m22
    clear bx39
    clear bx49
    clear hbase
    rintro g100 f98 w99 ⟨hbase, zs1, zs2, zs4, zs5, zs16, zs17, zs18, r_g_v, bx5, bx10, bx39, m84⟩
    refine run_inBlock ?_
    refine run_region rfl ?_
    refine l_val (v := Value.int .i64 ((k : Int) + 1)) rfl (e_add (m := (k : Int)) (n := 1) (by exact zs18) rfl (by omega)) ?_
    refine l_val (v := Value.int .i64 ((k : Int) + 1)) rfl (e_move rfl) ?_
    refine l_nil ?_
    refine back6 (l_0 + 1, l_1, k + 1, (fun q => if q = (min (gI g.2 (k : Int)).1 (gI g.2 (k : Int)).2, max (gI g.2 (k : Int)).1 (gI g.2 (k : Int)).2) then ((seen (min (gI g.2 (k : Int)).1 (gI g.2 (k : Int)).2, max (gI g.2 (k : Int)).1 (gI g.2 (k : Int)).2)) + 1) else seen q), g100) _ _ ⟨hbase, (by exact zs1), (by exact zs2), (by exact zs4), (by exact zs5), (by exact zs16), (by exact zs17), rfl, r_g_v, bx5, bx10, bx39, m84, by omega, ?_⟩ ?_
    · show LookInv (l_0 + 1) l_1 (fun q => if q = (min (gI g.2 (k : Int)).1 (gI g.2 (k : Int)).2, max (gI g.2 (k : Int)).1 (gI g.2 (k : Int)).2) then ((seen (min (gI g.2 (k : Int)).1 (gI g.2 (k : Int)).2, max (gI g.2 (k : Int)).1 (gI g.2 (k : Int)).2)) + 1) else seen q) g (k + 1)
      first
        | exact hinv.tt (by assumption) p8 p11
        | exact hinv.tf (by assumption) p8 p11
        | exact hinv.ft (by assumption) p8 p11
        | exact hinv.ff (by assumption) p8 p11
    · show Int.toNat (((List.length g.2 : Int) : Int) - ((k + 1) : Int)) < Int.toNat (((List.length g.2 : Int) : Int) - (k : Int))
      omega
   refine run_cond_f rfl (decide_eq_false p8) ?_
   refine run_skip ?_
   refine run_seq ?_
   refine run_region rfl ?_
   refine l_val (v := Value.agg (List.toArray [Value.int .i64 ((gI g.2 (k : Int)).1), Value.int .i64 ((gI g.2 (k : Int)).2)])) rfl (e_load_bxN (ds := [Value.int .i64 ((gI g.2 (k : Int)).1), Value.int .i64 ((gI g.2 (k : Int)).2)]) tp71_b rfl bx36 rfl rfl) ?_
   refine l_op rfl ?_
   refine o_call (v := Value.agg (List.toArray [Value.int .i64 (min (gI g.2 (k : Int)).1 (gI g.2 (k : Int)).2), Value.int .i64 (max (gI g.2 (k : Int)).1 (gI g.2 (k : Int)).2)])) (e_call (vals := [Value.agg (List.toArray [Value.int .i64 ((gI g.2 (k : Int)).1), Value.int .i64 ((gI g.2 (k : Int)).2)])]) Try.func94 bd94_b nm94_b rfl) (level_ok w34 (gI g.2 (k : Int))) ?_
   intro w101 hb102
   replace hb102 := chg_below hb102 g32
   refine l_op rfl ?_
   refine o_alloc g32 (is 6) (6, 0) rfl tp71_b ?_
   intro g106 w103 b105 ch104 bx107
   replace bx107 : Bx g106 (is 6) w103 b105 [Value.int .i64 0, Value.int .i64 0] := bx107
   refine l_op rfl ?_
   refine o_store_bx (cs' := [Value.int .i64 (min (gI g.2 (k : Int)).1 (gI g.2 (k : Int)).2), Value.int .i64 (max (gI g.2 (k : Int)).1 (gI g.2 (k : Int)).2)]) tp71_b rfl rfl bx107 rfl (Nat.le_of_ble_eq_true rfl) (AllOne.all (.cons rfl (.cons rfl .nil))) rfl ?_
   intro w108 ch109 bx110
   clear bx107
   refine l_nil ?_
   refine run_seq ?_
   refine run_seq ?_
   clear bx36
   refine run_region rfl ?_
   refine l_val (v := v20) rfl (e_move (by exact zs5)) ?_
   refine l_val (v := Value.agg (List.toArray [Value.int .i64 (min (gI g.2 (k : Int)).1 (gI g.2 (k : Int)).2), Value.int .i64 (max (gI g.2 (k : Int)).1 (gI g.2 (k : Int)).2)])) rfl (e_load_bxN (ds := [Value.int .i64 (min (gI g.2 (k : Int)).1 (gI g.2 (k : Int)).2), Value.int .i64 (max (gI g.2 (k : Int)).1 (gI g.2 (k : Int)).2)]) tp71_b rfl bx110 rfl rfl) ?_
   have C111 : Chg (inl [5, 6]) _ _ _ _ := (ch30.n).seq ((ch35.l rfl).seq ((hb102.n).seq ((ch104.n).seq (ch109.l rfl))))
   replace m22 := m22.chg C111 (is_nl rfl)
   refine l_val (v := Value.int .i64 (seen (min (gI g.2 (k : Int)).1 (gI g.2 (k : Int)).2, max (gI g.2 (k : Int)).1 (gI g.2 (k : Int)).2))) rfl (e_lookup (min (gI g.2 (k : Int)).1 (gI g.2 (k : Int)).2, max (gI g.2 (k : Int)).1 (gI g.2 (k : Int)).2) Try.underlying111 (keyOk_pair Try.underlying71 Try.underlying3 tp3_b) tp3_b rfl m22 rfl rfl) ?_
   refine l_val (v := Value.bool (decide (0 < (seen (min (gI g.2 (k : Int)).1 (gI g.2 (k : Int)).2, max (gI g.2 (k : Int)).1 (gI g.2 (k : Int)).2))))) rfl (e_gtr (m := seen (min (gI g.2 (k : Int)).1 (gI g.2 (k : Int)).2, max (gI g.2 (k : Int)).1 (gI g.2 (k : Int)).2)) (n := 0) rfl rfl) ?_
   refine l_nil ?_
   by_cases p11 : 0 < (seen (min (gI g.2 (k : Int)).1 (gI g.2 (k : Int)).2, max (gI g.2 (k : Int)).1 (gI g.2 (k : Int)).2))
   ·
    refine run_cond_t rfl (decide_eq_true p11) ?_
    refine run_region rfl ?_
    refine l_val (v := Value.pointer (some ⟨b15, 1, none⟩)) rfl (e_fieldAddr Try.underlying78 rfl rfl (by exact zs4) rfl) ?_
    replace bx17 := bx17.chg C111 (is_nl rfl)
    refine l_val (v := Value.int .i64 l_1) rfl (e_load_bx1 tp3_b rfl bx17 rfl) ?_
    refine l_val (v := Value.int .i64 (l_1 + 1)) rfl (e_add (m := l_1) (n := 1) rfl rfl (by omega)) ?_
    refine l_val (v := Value.pointer (some ⟨b15, 1, none⟩)) rfl (e_fieldAddr Try.underlying78 rfl rfl (by exact zs4) rfl) ?_
    refine l_op rfl ?_
    refine o_store_bx (cs' := [Value.int .i64 l_0, Value.int .i64 (l_1 + 1), Value.int .i64 0, Value.int .i64 0, Value.bool false]) tp3_b rfl rfl bx17 rfl (Nat.le_of_ble_eq_true rfl) (AllOne.all (.cons rfl .nil)) rfl ?_
    intro w112 ch113 bx114
    clear bx17
    refine l_nil ?_
    refine region_mid (σ := Cmap) (fun gq f w => Base w0 gq w ∧ f 1 = Value.pointer (some ⟨b3, 0, none⟩) ∧ f 2 = Value.pointer (some ⟨b8, 0, none⟩) ∧ f 4 = Value.pointer (some ⟨b15, 0, none⟩) ∧ f 5 = v20 ∧ f 16 = g_v ∧ f 17 = Value.int .i64 (List.length g.2 : Int) ∧ f 18 = Value.int .i64 (k : Int) ∧ Sl gq (is 0) w g_v g.2 ∧ Bx gq (is 1) w b3 [Value.int .i64 g.1, g_v] ∧ Bx gq (is 2) w b8 [Value.int .i64 0, Value.int .i64 0, Value.int .i64 0, Value.int .i64 0, Value.bool false] ∧ Bx gq (is 3) w b15 [Value.int .i64 l_0, Value.int .i64 (l_1 + 1), Value.int .i64 0, Value.int .i64 0, Value.bool false] ∧ Mp gq (is 4) w v20 (fun q => if q = (min (gI g.2 (k : Int)).1 (gI g.2 (k : Int)).2, max (gI g.2 (k : Int)).1 (gI g.2 (k : Int)).2) then ((seen (min (gI g.2 (k : Int)).1 (gI g.2 (k : Int)).2, max (gI g.2 (k : Int)).1 (gI g.2 (k : Int)).2)) + 1) else seen q)) g106 [0, 1, 3, 5] mixed_b ?_ ?_
    ·
     intro mid
     intro w116 ch115
     refine x_pure (v := v20) 0 rfl (by kernel_rfl) (by kernel_rfl) rfl (fun w => e_move (by exact zs5)) ?_
     replace bx110 := (bx110.chg ch113 (is_ne rfl)).chg ch115 (not_no _)
     refine x_val (v := Value.agg (List.toArray [Value.int .i64 (min (gI g.2 (k : Int)).1 (gI g.2 (k : Int)).2), Value.int .i64 (max (gI g.2 (k : Int)).1 (gI g.2 (k : Int)).2)])) 1 [0] rfl (by kernel_rfl) (by kernel_rfl) rfl (e_load_bxN (ds := [Value.int .i64 (min (gI g.2 (k : Int)).1 (gI g.2 (k : Int)).2), Value.int .i64 (max (gI g.2 (k : Int)).1 (gI g.2 (k : Int)).2)]) tp71_b rfl bx110 rfl rfl) ?_
     refine x_two 2 4 rfl rfl (by kernel_rfl) rfl rfl ?_ ?_
     ·
      replace m22 := (m22.chg ch113 (is_ne rfl)).chg ch115 (not_no _)
      refine o_of_val (v := Value.int .i64 (seen (min (gI g.2 (k : Int)).1 (gI g.2 (k : Int)).2, max (gI g.2 (k : Int)).1 (gI g.2 (k : Int)).2))) (e_lookup (min (gI g.2 (k : Int)).1 (gI g.2 (k : Int)).2, max (gI g.2 (k : Int)).1 (gI g.2 (k : Int)).2) Try.underlying111 (keyOk_pair Try.underlying71 Try.underlying3 tp3_b) tp3_b rfl m22 rfl rfl) ?_
      refine x_pure (v := Value.int .i64 ((seen (min (gI g.2 (k : Int)).1 (gI g.2 (k : Int)).2, max (gI g.2 (k : Int)).1 (gI g.2 (k : Int)).2)) + 1)) 3 rfl (by kernel_rfl) (by kernel_rfl) rfl (fun w => e_add (m := seen (min (gI g.2 (k : Int)).1 (gI g.2 (k : Int)).2, max (gI g.2 (k : Int)).1 (gI g.2 (k : Int)).2)) (n := 1) rfl rfl (by omega)) ?_
      refine x_one 4 rfl (by kernel_rfl) rfl ?_
      refine o_mapEntry (min (gI g.2 (k : Int)).1 (gI g.2 (k : Int)).2, max (gI g.2 (k : Int)).1 (gI g.2 (k : Int)).2) Try.underlying111 (keyOk_pair Try.underlying71 Try.underlying3 tp3_b) tp3_b rfl m22 rfl rfl ?_
      intro w117 s120 ch118 m119
      clear m22
      refine x_pure (v := Value.int .i64 s120) 5 rfl (by kernel_rfl) (by kernel_rfl) rfl (fun w => e_extract rfl rfl) ?_
      refine x_one 6 rfl (by kernel_rfl) rfl ?_
      refine o_entryStore rfl m119 rfl rfl ?_
      intro w121 ch122 m123
      clear m119
      refine x_nil (by kernel_rfl) ?_
      have C124 : Chg (inl [3, 4, 5, 6]) _ _ _ _ := (ch30.n).seq ((ch35.l rfl).seq ((hb102.n).seq ((ch104.n).seq ((ch109.l rfl).seq ((ch113.l rfl).seq ((ch115.n).seq ((ch118.l rfl).seq (ch122.l rfl))))))))
      replace hbase := hbase.chg C124 (is_nl rfl)
      replace r_g_v := r_g_v.chg C124 (is_nl rfl)
      replace bx5 := bx5.chg C124 (is_nl rfl)
      replace bx10 := bx10.chg C124 (is_nl rfl)
      have C125 : Chg (inl [4]) _ _ _ _ := (ch115.n).seq ((ch118.l rfl).seq (ch122.l rfl))
      replace bx114 := bx114.chg C125 (is_nl rfl)
      exact mid (g106) _ _ ⟨hbase, (by exact zs1), (by exact zs2), (by exact zs4), (by exact zs5), (by exact zs16), (by exact zs17), (by exact zs18), r_g_v, bx5, bx10, bx114, m123⟩
     ·
      replace m22 := (m22.chg ch113 (is_ne rfl)).chg ch115 (not_no _)
      refine o_mapEntry (min (gI g.2 (k : Int)).1 (gI g.2 (k : Int)).2, max (gI g.2 (k : Int)).1 (gI g.2 (k : Int)).2) Try.underlying111 (keyOk_pair Try.underlying71 Try.underlying3 tp3_b) tp3_b rfl m22 rfl rfl ?_
      intro w126 s129 ch127 m128
      clear m22
      refine x_pure (v := Value.int .i64 s129) 5 rfl (by kernel_rfl) (by kernel_rfl) rfl (fun w => e_extract rfl rfl) ?_
      refine x_one 2 rfl (by kernel_rfl) rfl ?_
      refine o_of_val (v := Value.int .i64 (seen (min (gI g.2 (k : Int)).1 (gI g.2 (k : Int)).2, max (gI g.2 (k : Int)).1 (gI g.2 (k : Int)).2))) (e_lookup (min (gI g.2 (k : Int)).1 (gI g.2 (k : Int)).2, max (gI g.2 (k : Int)).1 (gI g.2 (k : Int)).2) Try.underlying111 (keyOk_pair Try.underlying71 Try.underlying3 tp3_b) tp3_b rfl m128.mp rfl rfl) ?_
      refine x_pure (v := Value.int .i64 ((seen (min (gI g.2 (k : Int)).1 (gI g.2 (k : Int)).2, max (gI g.2 (k : Int)).1 (gI g.2 (k : Int)).2)) + 1)) 3 rfl (by kernel_rfl) (by kernel_rfl) rfl (fun w => e_add (m := seen (min (gI g.2 (k : Int)).1 (gI g.2 (k : Int)).2, max (gI g.2 (k : Int)).1 (gI g.2 (k : Int)).2)) (n := 1) rfl rfl (by omega)) ?_
      refine x_one 6 rfl (by kernel_rfl) rfl ?_
      refine o_entryStore rfl m128 rfl rfl ?_
      intro w130 ch131 m132
      clear m128
      refine x_nil (by kernel_rfl) ?_
      have C133 : Chg (inl [3, 4, 5, 6]) _ _ _ _ := (ch30.n).seq ((ch35.l rfl).seq ((hb102.n).seq ((ch104.n).seq ((ch109.l rfl).seq ((ch113.l rfl).seq ((ch115.n).seq ((ch127.l rfl).seq (ch131.l rfl))))))))
      replace hbase := hbase.chg C133 (is_nl rfl)
      replace r_g_v := r_g_v.chg C133 (is_nl rfl)
      replace bx5 := bx5.chg C133 (is_nl rfl)
      replace bx10 := bx10.chg C133 (is_nl rfl)
      have C134 : Chg (inl [4]) _ _ _ _ := (ch115.n).seq ((ch127.l rfl).seq (ch131.l rfl))
      replace bx114 := bx114.chg C134 (is_nl rfl)
      exact mid (g106) _ _ ⟨hbase, (by exact zs1), (by exact zs2), (by exact zs4), (by exact zs5), (by exact zs16), (by exact zs17), (by exact zs18), r_g_v, bx5, bx10, bx114, m132⟩
    clear r_g_v
    clear bx5
    clear bx10
    clear m22
    clear bx110
    clear bx114
    clear hbase
    rintro g137 f135 w136 ⟨hbase, zs1, zs2, zs4, zs5, zs16, zs17, zs18, r_g_v, bx5, bx10, bx114, m121⟩
    refine run_inBlock ?_
    refine run_region rfl ?_
    refine l_val (v := Value.int .i64 ((k : Int) + 1)) rfl (e_add (m := (k : Int)) (n := 1) (by exact zs18) rfl (by omega)) ?_
    refine l_val (v := Value.int .i64 ((k : Int) + 1)) rfl (e_move rfl) ?_
    refine l_nil ?_
    refine back6 (l_0, l_1 + 1, k + 1, (fun q => if q = (min (gI g.2 (k : Int)).1 (gI g.2 (k : Int)).2, max (gI g.2 (k : Int)).1 (gI g.2 (k : Int)).2) then ((seen (min (gI g.2 (k : Int)).1 (gI g.2 (k : Int)).2, max (gI g.2 (k : Int)).1 (gI g.2 (k : Int)).2)) + 1) else seen q), g137) _ _ ⟨hbase, (by exact zs1), (by exact zs2), (by exact zs4), (by exact zs5), (by exact zs16), (by exact zs17), rfl, r_g_v, bx5, bx10, bx114, m121, by omega, ?_⟩ ?_
    · show LookInv l_0 (l_1 + 1) (fun q => if q = (min (gI g.2 (k : Int)).1 (gI g.2 (k : Int)).2, max (gI g.2 (k : Int)).1 (gI g.2 (k : Int)).2) then ((seen (min (gI g.2 (k : Int)).1 (gI g.2 (k : Int)).2, max (gI g.2 (k : Int)).1 (gI g.2 (k : Int)).2)) + 1) else seen q) g (k + 1)
      first
        | exact hinv.tt (by assumption) p8 p11
        | exact hinv.tf (by assumption) p8 p11
        | exact hinv.ft (by assumption) p8 p11
        | exact hinv.ff (by assumption) p8 p11
    · show Int.toNat (((List.length g.2 : Int) : Int) - ((k + 1) : Int)) < Int.toNat (((List.length g.2 : Int) : Int) - (k : Int))
      omega
   refine run_cond_f rfl (decide_eq_false p11) ?_
   refine run_skip ?_
   refine region_mid (σ := Cmap) (fun gq f w => Base w0 gq w ∧ f 1 = Value.pointer (some ⟨b3, 0, none⟩) ∧ f 2 = Value.pointer (some ⟨b8, 0, none⟩) ∧ f 4 = Value.pointer (some ⟨b15, 0, none⟩) ∧ f 5 = v20 ∧ f 16 = g_v ∧ f 17 = Value.int .i64 (List.length g.2 : Int) ∧ f 18 = Value.int .i64 (k : Int) ∧ Sl gq (is 0) w g_v g.2 ∧ Bx gq (is 1) w b3 [Value.int .i64 g.1, g_v] ∧ Bx gq (is 2) w b8 [Value.int .i64 0, Value.int .i64 0, Value.int .i64 0, Value.int .i64 0, Value.bool false] ∧ Bx gq (is 3) w b15 [Value.int .i64 l_0, Value.int .i64 l_1, Value.int .i64 0, Value.int .i64 0, Value.bool false] ∧ Mp gq (is 4) w v20 (fun q => if q = (min (gI g.2 (k : Int)).1 (gI g.2 (k : Int)).2, max (gI g.2 (k : Int)).1 (gI g.2 (k : Int)).2) then ((seen (min (gI g.2 (k : Int)).1 (gI g.2 (k : Int)).2, max (gI g.2 (k : Int)).1 (gI g.2 (k : Int)).2)) + 1) else seen q)) g106 [0, 1, 3, 5] mixed_b ?_ ?_
   ·
    intro mid
    intro w139 ch138
    refine x_pure (v := v20) 0 rfl (by kernel_rfl) (by kernel_rfl) rfl (fun w => e_move (by exact zs5)) ?_
    replace bx110 := bx110.chg ch138 (not_no _)
    refine x_val (v := Value.agg (List.toArray [Value.int .i64 (min (gI g.2 (k : Int)).1 (gI g.2 (k : Int)).2), Value.int .i64 (max (gI g.2 (k : Int)).1 (gI g.2 (k : Int)).2)])) 1 [0] rfl (by kernel_rfl) (by kernel_rfl) rfl (e_load_bxN (ds := [Value.int .i64 (min (gI g.2 (k : Int)).1 (gI g.2 (k : Int)).2), Value.int .i64 (max (gI g.2 (k : Int)).1 (gI g.2 (k : Int)).2)]) tp71_b rfl bx110 rfl rfl) ?_
    refine x_two 2 4 rfl rfl (by kernel_rfl) rfl rfl ?_ ?_
    ·
     replace m22 := m22.chg ch138 (not_no _)
     refine o_of_val (v := Value.int .i64 (seen (min (gI g.2 (k : Int)).1 (gI g.2 (k : Int)).2, max (gI g.2 (k : Int)).1 (gI g.2 (k : Int)).2))) (e_lookup (min (gI g.2 (k : Int)).1 (gI g.2 (k : Int)).2, max (gI g.2 (k : Int)).1 (gI g.2 (k : Int)).2) Try.underlying111 (keyOk_pair Try.underlying71 Try.underlying3 tp3_b) tp3_b rfl m22 rfl rfl) ?_
     refine x_pure (v := Value.int .i64 ((seen (min (gI g.2 (k : Int)).1 (gI g.2 (k : Int)).2, max (gI g.2 (k : Int)).1 (gI g.2 (k : Int)).2)) + 1)) 3 rfl (by kernel_rfl) (by kernel_rfl) rfl (fun w => e_add (m := seen (min (gI g.2 (k : Int)).1 (gI g.2 (k : Int)).2, max (gI g.2 (k : Int)).1 (gI g.2 (k : Int)).2)) (n := 1) rfl rfl (by omega)) ?_
     refine x_one 4 rfl (by kernel_rfl) rfl ?_
     refine o_mapEntry (min (gI g.2 (k : Int)).1 (gI g.2 (k : Int)).2, max (gI g.2 (k : Int)).1 (gI g.2 (k : Int)).2) Try.underlying111 (keyOk_pair Try.underlying71 Try.underlying3 tp3_b) tp3_b rfl m22 rfl rfl ?_
     intro w140 s143 ch141 m142
     clear m22
     refine x_pure (v := Value.int .i64 s143) 5 rfl (by kernel_rfl) (by kernel_rfl) rfl (fun w => e_extract rfl rfl) ?_
     refine x_one 6 rfl (by kernel_rfl) rfl ?_
     refine o_entryStore rfl m142 rfl rfl ?_
     intro w144 ch145 m146
     clear m142
     refine x_nil (by kernel_rfl) ?_
     have C147 : Chg (inl [4, 5, 6]) _ _ _ _ := (ch30.n).seq ((ch35.l rfl).seq ((hb102.n).seq ((ch104.n).seq ((ch109.l rfl).seq ((ch138.n).seq ((ch141.l rfl).seq (ch145.l rfl)))))))
     replace hbase := hbase.chg C147 (is_nl rfl)
     replace r_g_v := r_g_v.chg C147 (is_nl rfl)
     replace bx5 := bx5.chg C147 (is_nl rfl)
     replace bx10 := bx10.chg C147 (is_nl rfl)
     replace bx17 := bx17.chg C147 (is_nl rfl)
     exact mid (g106) _ _ ⟨hbase, (by exact zs1), (by exact zs2), (by exact zs4), (by exact zs5), (by exact zs16), (by exact zs17), (by exact zs18), r_g_v, bx5, bx10, bx17, m146⟩
    ·
     replace m22 := m22.chg ch138 (not_no _)
     refine o_mapEntry (min (gI g.2 (k : Int)).1 (gI g.2 (k : Int)).2, max (gI g.2 (k : Int)).1 (gI g.2 (k : Int)).2) Try.underlying111 (keyOk_pair Try.underlying71 Try.underlying3 tp3_b) tp3_b rfl m22 rfl rfl ?_
     intro w148 s151 ch149 m150
     clear m22
     refine x_pure (v := Value.int .i64 s151) 5 rfl (by kernel_rfl) (by kernel_rfl) rfl (fun w => e_extract rfl rfl) ?_
     refine x_one 2 rfl (by kernel_rfl) rfl ?_
     refine o_of_val (v := Value.int .i64 (seen (min (gI g.2 (k : Int)).1 (gI g.2 (k : Int)).2, max (gI g.2 (k : Int)).1 (gI g.2 (k : Int)).2))) (e_lookup (min (gI g.2 (k : Int)).1 (gI g.2 (k : Int)).2, max (gI g.2 (k : Int)).1 (gI g.2 (k : Int)).2) Try.underlying111 (keyOk_pair Try.underlying71 Try.underlying3 tp3_b) tp3_b rfl m150.mp rfl rfl) ?_
     refine x_pure (v := Value.int .i64 ((seen (min (gI g.2 (k : Int)).1 (gI g.2 (k : Int)).2, max (gI g.2 (k : Int)).1 (gI g.2 (k : Int)).2)) + 1)) 3 rfl (by kernel_rfl) (by kernel_rfl) rfl (fun w => e_add (m := seen (min (gI g.2 (k : Int)).1 (gI g.2 (k : Int)).2, max (gI g.2 (k : Int)).1 (gI g.2 (k : Int)).2)) (n := 1) rfl rfl (by omega)) ?_
     refine x_one 6 rfl (by kernel_rfl) rfl ?_
     refine o_entryStore rfl m150 rfl rfl ?_
     intro w152 ch153 m154
     clear m150
     refine x_nil (by kernel_rfl) ?_
     have C155 : Chg (inl [4, 5, 6]) _ _ _ _ := (ch30.n).seq ((ch35.l rfl).seq ((hb102.n).seq ((ch104.n).seq ((ch109.l rfl).seq ((ch138.n).seq ((ch149.l rfl).seq (ch153.l rfl)))))))
     replace hbase := hbase.chg C155 (is_nl rfl)
     replace r_g_v := r_g_v.chg C155 (is_nl rfl)
     replace bx5 := bx5.chg C155 (is_nl rfl)
     replace bx10 := bx10.chg C155 (is_nl rfl)
     replace bx17 := bx17.chg C155 (is_nl rfl)
     exact mid (g106) _ _ ⟨hbase, (by exact zs1), (by exact zs2), (by exact zs4), (by exact zs5), (by exact zs16), (by exact zs17), (by exact zs18), r_g_v, bx5, bx10, bx17, m154⟩
   clear r_g_v
   clear bx5
   clear bx10
   clear bx17
   clear m22
   clear bx110
   clear hbase
   rintro g158 f156 w157 ⟨hbase, zs1, zs2, zs4, zs5, zs16, zs17, zs18, r_g_v, bx5, bx10, bx17, m144⟩
   refine run_inBlock ?_
   refine run_region rfl ?_
   refine l_val (v := Value.int .i64 ((k : Int) + 1)) rfl (e_add (m := (k : Int)) (n := 1) (by exact zs18) rfl (by omega)) ?_
   refine l_val (v := Value.int .i64 ((k : Int) + 1)) rfl (e_move rfl) ?_
   refine l_nil ?_
   refine back6 (l_0, l_1, k + 1, (fun q => if q = (min (gI g.2 (k : Int)).1 (gI g.2 (k : Int)).2, max (gI g.2 (k : Int)).1 (gI g.2 (k : Int)).2) then ((seen (min (gI g.2 (k : Int)).1 (gI g.2 (k : Int)).2, max (gI g.2 (k : Int)).1 (gI g.2 (k : Int)).2)) + 1) else seen q), g158) _ _ ⟨hbase, (by exact zs1), (by exact zs2), (by exact zs4), (by exact zs5), (by exact zs16), (by exact zs17), rfl, r_g_v, bx5, bx10, bx17, m144, by omega, ?_⟩ ?_
   · show LookInv l_0 l_1 (fun q => if q = (min (gI g.2 (k : Int)).1 (gI g.2 (k : Int)).2, max (gI g.2 (k : Int)).1 (gI g.2 (k : Int)).2) then ((seen (min (gI g.2 (k : Int)).1 (gI g.2 (k : Int)).2, max (gI g.2 (k : Int)).1 (gI g.2 (k : Int)).2)) + 1) else seen q) g (k + 1)
     first
       | exact hinv.tt (by assumption) p8 p11
       | exact hinv.tf (by assumption) p8 p11
       | exact hinv.ft (by assumption) p8 p11
       | exact hinv.ff (by assumption) p8 p11
   · show Int.toNat (((List.length g.2 : Int) : Int) - ((k + 1) : Int)) < Int.toNat (((List.length g.2 : Int) : Int) - (k : Int))
     omega
  refine run_cond_f rfl (decide_eq_false p6) ?_
  refine run_exit rfl ?_
  refine run_seq ?_
  refine run_seq ?_
  clear m22
  refine run_region rfl ?_
  refine l_val (v := Value.pointer (some ⟨b3, 0, none⟩)) rfl (e_fieldAddr Try.underlying24 rfl rfl (by exact zs1) rfl) ?_
  refine l_val (v := Value.int .i64 g.1) rfl (e_load_bx1 tp3_b rfl bx5 rfl) ?_
  refine l_val (v := Value.bool (decide (0 < g.1))) rfl (e_gtr (m := g.1) (n := 0) rfl rfl) ?_
  refine l_nil ?_
  by_cases p15 : 0 < g.1
  ·
   refine run_cond_t rfl (decide_eq_true p15) ?_
   refine run_seq ?_
   refine run_region rfl ?_
   refine l_val (v := Value.agg (List.toArray [Value.int .i64 g.1, g_v])) rfl (e_load_bxN (ds := [Value.int .i64 g.1, g_v]) tp24_b (by exact zs1) bx5 rfl rfl) ?_
   refine l_op rfl ?_
   refine o_callx (e_call (vals := [Value.agg (List.toArray [Value.int .i64 g.1, g_v])]) Try.func95 bd95_b nm95_b rfl) (degrees_ok w27 g g_v (r_g_v).ro (by exact of_decide_eq_true p1)) ?_
   rintro ⟨d160, v162⟩ w159 ⟨fr161, o163⟩
   obtain ⟨g164, hg164⟩ : ∃ q, q = glue w27.heap.size g28 d160 (fun n => if n = 1 then 7 else 0) := ⟨_, rfl⟩
   have ch165 := chg_glue fr161.below g28 d160 (fun n => if n = 1 then 7 else 0)
   rw [← hg164] at ch165
   replace o163 := o163.glue (γ := g28) (ren := (fun n => if n = 1 then 7 else 0)) (k := 7) fr161.col rfl rfl
   rw [← hg164] at o163
   clear hg164
   refine l_val (v := v162) rfl (e_assign rfl) ?_
   refine l_nil ?_
   clear bx5
   refine run_region rfl ?_
   refine l_val (v := v162) rfl (e_move rfl) ?_
   refine l_op rfl ?_
   refine o_call (v := Value.int .i64 (minL (degS g))) (e_call (vals := [v162]) Try.func92 bd92_b nm92_b rfl) (Min_ok w159 (degS g) v162 (o163.flat).ro (by simp [degS]; omega)) ?_
   intro w166 hb167
   replace hb167 := chg_below hb167 g164
   refine l_val (v := v162) rfl (e_move rfl) ?_
   replace o163 := o163.chg hb167 (not_no _) (not_no _)
   refine l_op rfl ?_
   refine o_call (v := Value.int .i64 (maxL (degS g))) (e_call (vals := [v162]) Try.func96 bd96_b nm96_b rfl) (Max_ok w166 (degS g) v162 (o163.flat).ro (by simp [degS]; omega)) ?_
   intro w168 hb169
   replace hb169 := chg_below hb169 g164
   refine l_val (v := Value.pointer (some ⟨b15, 2, none⟩)) rfl (e_fieldAddr Try.underlying78 rfl rfl (by exact zs4) rfl) ?_
   refine l_op rfl ?_
   have C173 : Chg (inl []) _ _ _ _ := (ch165.n).seq ((hb167.n).seq (hb169.n))
   replace bx17 := bx17.chg C173 (is_nl rfl)
   refine o_store_bx (cs' := [Value.int .i64 l_0, Value.int .i64 l_1, Value.int .i64 (minL (degS g)), Value.int .i64 0, Value.bool false]) tp3_b rfl rfl bx17 rfl (Nat.le_of_ble_eq_true rfl) (AllOne.all (.cons rfl .nil)) rfl ?_
   intro w170 ch171 bx172
   clear bx17
   refine l_val (v := Value.pointer (some ⟨b15, 3, none⟩)) rfl (e_fieldAddr Try.underlying78 rfl rfl (by exact zs4) rfl) ?_
   refine l_op rfl ?_
   refine o_store_bx (cs' := [Value.int .i64 l_0, Value.int .i64 l_1, Value.int .i64 (minL (degS g)), Value.int .i64 (maxL (degS g)), Value.bool false]) tp3_b rfl rfl bx172 rfl (Nat.le_of_ble_eq_true rfl) (AllOne.all (.cons rfl .nil)) rfl ?_
   intro w174 ch175 bx176
   clear bx172
   refine l_nil ?_
   refine run_seq ?_
   clear o163
   refine run_region rfl ?_
   refine l_val (v := Value.pointer (some ⟨b15, 0, none⟩)) rfl (e_fieldAddr Try.underlying78 rfl rfl (by exact zs4) rfl) ?_
   refine l_val (v := Value.int .i64 l_0) rfl (e_load_bx1 tp3_b rfl bx176 rfl) ?_
   refine l_val (v := Value.bool (decide (l_0 = 0))) rfl (e_eql (m := l_0) (n := 0) rfl rfl) ?_
   refine l_val (v := Value.bool (decide (l_0 = 0))) rfl (e_move rfl) ?_
   by_cases q62 : l_0 = 0
   ·
    refine l_val (v := Value.pointer (some ⟨b15, 1, none⟩)) (want_y rfl rfl rfl (decide_eq_true q62)) (e_fieldAddr Try.underlying78 rfl rfl (by exact zs4) rfl) ?_
    refine l_val (v := Value.int .i64 l_1) (want_y rfl rfl rfl (decide_eq_true q62)) (e_load_bx1 tp3_b rfl bx176 rfl) ?_
    refine l_val (v := Value.bool (decide (l_1 = 0))) (want_y rfl rfl rfl (decide_eq_true q62)) (e_eql (m := l_1) (n := 0) rfl rfl) ?_
    refine l_val (v := Value.bool (decide (l_1 = 0))) rfl (e_pick_t rfl (decide_eq_true q62) rfl) ?_
    refine l_val (v := Value.pointer (some ⟨b15, 4, none⟩)) rfl (e_fieldAddr Try.underlying78 rfl rfl (by exact zs4) rfl) ?_
    refine l_op rfl ?_
    refine o_store_bx (cs' := [Value.int .i64 l_0, Value.int .i64 l_1, Value.int .i64 (minL (degS g)), Value.int .i64 (maxL (degS g)), Value.bool (decide (l_1 = 0))]) tp4_b rfl rfl bx176 rfl (Nat.le_of_ble_eq_true rfl) (AllOne.all (.cons rfl .nil)) rfl ?_
    intro w177 ch178 bx179
    clear bx176
    refine l_nil ?_
    refine run_seq ?_
    refine run_region rfl ?_
    refine l_val (v := Value.agg (List.toArray [Value.int .i64 l_0, Value.int .i64 l_1, Value.int .i64 (minL (degS g)), Value.int .i64 (maxL (degS g)), Value.bool (decide (l_1 = 0))])) rfl (e_load_bxN (ds := [Value.int .i64 l_0, Value.int .i64 l_1, Value.int .i64 (minL (degS g)), Value.int .i64 (maxL (degS g)), Value.bool (decide (l_1 = 0))]) tp78_b (by exact zs4) bx179 rfl rfl) ?_
    refine l_op rfl ?_
    have C183 : Chg (inl [3]) _ _ _ _ := (ch165.n).seq ((hb167.n).seq ((hb169.n).seq ((ch171.l rfl).seq ((ch175.l rfl).seq (ch178.l rfl)))))
    replace bx10 := bx10.chg C183 (is_nl rfl)
    refine o_store_bx (cs' := [Value.int .i64 l_0, Value.int .i64 l_1, Value.int .i64 (minL (degS g)), Value.int .i64 (maxL (degS g)), Value.bool (decide (l_1 = 0))]) tp78_b (by exact zs2) rfl bx10 rfl (Nat.le_of_ble_eq_true rfl) (AllOne.all (.cons rfl (.cons rfl (.cons rfl (.cons rfl (.cons rfl .nil)))))) rfl ?_
    intro w180 ch181 bx182
    clear bx10
    refine l_val (v := Value.int .i64 0) rfl (e_assign rfl) ?_
    refine l_nil ?_
    refine run_ret (vs := [Value.agg (List.toArray [Value.int .i64 l_0, Value.int .i64 l_1, Value.int .i64 (minL (degS g)), Value.int .i64 (maxL (degS g)), Value.bool (decide (l_1 = 0))]), Value.int .i64 0]) Try.func52 (.cell (by exact zs2) (load_bxN (ds := [Value.int .i64 l_0, Value.int .i64 l_1, Value.int .i64 (minL (degS g)), Value.int .i64 (maxL (degS g)), Value.bool (decide (l_1 = 0))]) tp78_b bx182 rfl rfl) (.tmp rfl .nil)) ?_
    -- return 0
    have e0 : ((l_0, l_1, minL (degS g), maxL (degS g), decide (l_1 = 0)) : (Int) × (Int) × (Int) × (Int) × (Bool)) = ((lookR g).1) := by
      first
        | (have hm := of_decide_eq_true p1; have hk : k = g.2.length := by omega
           subst hk
           simp only [lookR, if_pos hm, if_pos p15, ← hinv.loops, ← hinv.par]; simp [q62]; done)
        | (have hm := of_decide_eq_true p1; have hk : k = g.2.length := by omega
           subst hk
           simp only [lookR, if_pos hm, if_neg p15, ← hinv.loops, ← hinv.par]; simp [q62]; done)
        | (have hm := of_decide_eq_true p1; simp only [lookR, if_pos hm]; done)
        | (have hn : ¬ MayP g := fun h => p1 (decide_eq_true h); simp [lookR, hn]; done)
    have e1 : (0 : Int) = ((lookR g).2) := by
      first
        | (have hm := of_decide_eq_true p1; have hk : k = g.2.length := by omega
           subst hk
           simp only [lookR, if_pos hm, if_pos p15, ← hinv.loops, ← hinv.par]; simp [q62]; done)
        | (have hm := of_decide_eq_true p1; have hk : k = g.2.length := by omega
           subst hk
           simp only [lookR, if_pos hm, if_neg p15, ← hinv.loops, ← hinv.par]; simp [q62]; done)
        | (have hm := of_decide_eq_true p1; simp only [lookR, if_pos hm]; done)
        | (have hn : ¬ MayP g := fun h => p1 (decide_eq_true h); simp [lookR, hn]; done)
    have C184 : Chg (inl [2, 3]) _ _ _ _ := (ch165.n).seq ((hb167.n).seq ((hb169.n).seq ((ch171.l rfl).seq ((ch175.l rfl).seq ((ch178.l rfl).seq (ch181.l rfl))))))
    replace hbase := hbase.chg C184 (is_nl rfl)
    exact ⟨(congr2 (a := (l_0, l_1, minL (degS g), maxL (degS g), decide (l_1 = 0))) (b := 0) (fun (z0 : (Int) × (Int) × (Int) × (Int) × (Bool)) (z1 : Int) => Ending.returned (Value.tuple (List.toArray [Value.agg (List.toArray [Value.int .i64 z0.1, Value.int .i64 z0.2.1, Value.int .i64 z0.2.2.1, Value.int .i64 z0.2.2.2.1, Value.bool z0.2.2.2.2]), Value.int .i64 z1]))) e0 e1), hbase.below⟩
   refine l_skip (want_n rfl rfl rfl (decide_eq_false q62)) ?_
   refine l_skip (want_n rfl rfl rfl (decide_eq_false q62)) ?_
   refine l_skip (want_n rfl rfl rfl (decide_eq_false q62)) ?_
   refine l_val (v := Value.bool false) rfl (e_pick_f rfl (decide_eq_false q62) rfl) ?_
   refine l_val (v := Value.pointer (some ⟨b15, 4, none⟩)) rfl (e_fieldAddr Try.underlying78 rfl rfl (by exact zs4) rfl) ?_
   refine l_op rfl ?_
   refine o_store_bx (cs' := [Value.int .i64 l_0, Value.int .i64 l_1, Value.int .i64 (minL (degS g)), Value.int .i64 (maxL (degS g)), Value.bool false]) tp4_b rfl rfl bx176 rfl (Nat.le_of_ble_eq_true rfl) (AllOne.all (.cons rfl .nil)) rfl ?_
   intro w185 ch186 bx187
   clear bx176
   refine l_nil ?_
   refine run_seq ?_
   refine run_region rfl ?_
   refine l_val (v := Value.agg (List.toArray [Value.int .i64 l_0, Value.int .i64 l_1, Value.int .i64 (minL (degS g)), Value.int .i64 (maxL (degS g)), Value.bool false])) rfl (e_load_bxN (ds := [Value.int .i64 l_0, Value.int .i64 l_1, Value.int .i64 (minL (degS g)), Value.int .i64 (maxL (degS g)), Value.bool false]) tp78_b (by exact zs4) bx187 rfl rfl) ?_
   refine l_op rfl ?_
   have C191 : Chg (inl [3]) _ _ _ _ := (ch165.n).seq ((hb167.n).seq ((hb169.n).seq ((ch171.l rfl).seq ((ch175.l rfl).seq (ch186.l rfl)))))
   replace bx10 := bx10.chg C191 (is_nl rfl)
   refine o_store_bx (cs' := [Value.int .i64 l_0, Value.int .i64 l_1, Value.int .i64 (minL (degS g)), Value.int .i64 (maxL (degS g)), Value.bool false]) tp78_b (by exact zs2) rfl bx10 rfl (Nat.le_of_ble_eq_true rfl) (AllOne.all (.cons rfl (.cons rfl (.cons rfl (.cons rfl (.cons rfl .nil)))))) rfl ?_
   intro w188 ch189 bx190
   clear bx10
   refine l_val (v := Value.int .i64 0) rfl (e_assign rfl) ?_
   refine l_nil ?_
   refine run_ret (vs := [Value.agg (List.toArray [Value.int .i64 l_0, Value.int .i64 l_1, Value.int .i64 (minL (degS g)), Value.int .i64 (maxL (degS g)), Value.bool false]), Value.int .i64 0]) Try.func52 (.cell (by exact zs2) (load_bxN (ds := [Value.int .i64 l_0, Value.int .i64 l_1, Value.int .i64 (minL (degS g)), Value.int .i64 (maxL (degS g)), Value.bool false]) tp78_b bx190 rfl rfl) (.tmp rfl .nil)) ?_
   -- return 1
   have e0 : ((l_0, l_1, minL (degS g), maxL (degS g), false) : (Int) × (Int) × (Int) × (Int) × (Bool)) = ((lookR g).1) := by
     first
       | (have hm := of_decide_eq_true p1; have hk : k = g.2.length := by omega
          subst hk
          simp only [lookR, if_pos hm, if_pos p15, ← hinv.loops, ← hinv.par]; simp [q62]; done)
       | (have hm := of_decide_eq_true p1; have hk : k = g.2.length := by omega
          subst hk
          simp only [lookR, if_pos hm, if_neg p15, ← hinv.loops, ← hinv.par]; simp [q62]; done)
       | (have hm := of_decide_eq_true p1; simp only [lookR, if_pos hm]; done)
       | (have hn : ¬ MayP g := fun h => p1 (decide_eq_true h); simp [lookR, hn]; done)
   have e1 : (0 : Int) = ((lookR g).2) := by
     first
       | (have hm := of_decide_eq_true p1; have hk : k = g.2.length := by omega
          subst hk
          simp only [lookR, if_pos hm, if_pos p15, ← hinv.loops, ← hinv.par]; simp [q62]; done)
       | (have hm := of_decide_eq_true p1; have hk : k = g.2.length := by omega
          subst hk
          simp only [lookR, if_pos hm, if_neg p15, ← hinv.loops, ← hinv.par]; simp [q62]; done)
       | (have hm := of_decide_eq_true p1; simp only [lookR, if_pos hm]; done)
       | (have hn : ¬ MayP g := fun h => p1 (decide_eq_true h); simp [lookR, hn]; done)
   have C192 : Chg (inl [2, 3]) _ _ _ _ := (ch165.n).seq ((hb167.n).seq ((hb169.n).seq ((ch171.l rfl).seq ((ch175.l rfl).seq ((ch186.l rfl).seq (ch189.l rfl))))))
   replace hbase := hbase.chg C192 (is_nl rfl)
   exact ⟨(congr2 (a := (l_0, l_1, minL (degS g), maxL (degS g), false)) (b := 0) (fun (z0 : (Int) × (Int) × (Int) × (Int) × (Bool)) (z1 : Int) => Ending.returned (Value.tuple (List.toArray [Value.agg (List.toArray [Value.int .i64 z0.1, Value.int .i64 z0.2.1, Value.int .i64 z0.2.2.1, Value.int .i64 z0.2.2.2.1, Value.bool z0.2.2.2.2]), Value.int .i64 z1]))) e0 e1), hbase.below⟩
  refine run_cond_f rfl (decide_eq_false p15) ?_
  refine run_skip ?_
  refine run_seq ?_
  clear bx5
  refine run_region rfl ?_
  refine l_val (v := Value.pointer (some ⟨b15, 0, none⟩)) rfl (e_fieldAddr Try.underlying78 rfl rfl (by exact zs4) rfl) ?_
  refine l_val (v := Value.int .i64 l_0) rfl (e_load_bx1 tp3_b rfl bx17 rfl) ?_
  refine l_val (v := Value.bool (decide (l_0 = 0))) rfl (e_eql (m := l_0) (n := 0) rfl rfl) ?_
  refine l_val (v := Value.bool (decide (l_0 = 0))) rfl (e_move rfl) ?_
  by_cases q62 : l_0 = 0
  ·
   refine l_val (v := Value.pointer (some ⟨b15, 1, none⟩)) (want_y rfl rfl rfl (decide_eq_true q62)) (e_fieldAddr Try.underlying78 rfl rfl (by exact zs4) rfl) ?_
   refine l_val (v := Value.int .i64 l_1) (want_y rfl rfl rfl (decide_eq_true q62)) (e_load_bx1 tp3_b rfl bx17 rfl) ?_
   refine l_val (v := Value.bool (decide (l_1 = 0))) (want_y rfl rfl rfl (decide_eq_true q62)) (e_eql (m := l_1) (n := 0) rfl rfl) ?_
   refine l_val (v := Value.bool (decide (l_1 = 0))) rfl (e_pick_t rfl (decide_eq_true q62) rfl) ?_
   refine l_val (v := Value.pointer (some ⟨b15, 4, none⟩)) rfl (e_fieldAddr Try.underlying78 rfl rfl (by exact zs4) rfl) ?_
   refine l_op rfl ?_
   refine o_store_bx (cs' := [Value.int .i64 l_0, Value.int .i64 l_1, Value.int .i64 0, Value.int .i64 0, Value.bool (decide (l_1 = 0))]) tp4_b rfl rfl bx17 rfl (Nat.le_of_ble_eq_true rfl) (AllOne.all (.cons rfl .nil)) rfl ?_
   intro w193 ch194 bx195
   clear bx17
   refine l_nil ?_
   refine run_seq ?_
   refine run_region rfl ?_
   refine l_val (v := Value.agg (List.toArray [Value.int .i64 l_0, Value.int .i64 l_1, Value.int .i64 0, Value.int .i64 0, Value.bool (decide (l_1 = 0))])) rfl (e_load_bxN (ds := [Value.int .i64 l_0, Value.int .i64 l_1, Value.int .i64 0, Value.int .i64 0, Value.bool (decide (l_1 = 0))]) tp78_b (by exact zs4) bx195 rfl rfl) ?_
   refine l_op rfl ?_
   replace bx10 := bx10.chg ch194 (is_ne rfl)
   refine o_store_bx (cs' := [Value.int .i64 l_0, Value.int .i64 l_1, Value.int .i64 0, Value.int .i64 0, Value.bool (decide (l_1 = 0))]) tp78_b (by exact zs2) rfl bx10 rfl (Nat.le_of_ble_eq_true rfl) (AllOne.all (.cons rfl (.cons rfl (.cons rfl (.cons rfl (.cons rfl .nil)))))) rfl ?_
   intro w196 ch197 bx198
   clear bx10
   refine l_val (v := Value.int .i64 0) rfl (e_assign rfl) ?_
   refine l_nil ?_
   refine run_ret (vs := [Value.agg (List.toArray [Value.int .i64 l_0, Value.int .i64 l_1, Value.int .i64 0, Value.int .i64 0, Value.bool (decide (l_1 = 0))]), Value.int .i64 0]) Try.func52 (.cell (by exact zs2) (load_bxN (ds := [Value.int .i64 l_0, Value.int .i64 l_1, Value.int .i64 0, Value.int .i64 0, Value.bool (decide (l_1 = 0))]) tp78_b bx198 rfl rfl) (.tmp rfl .nil)) ?_
   -- return 2
   have e0 : ((l_0, l_1, 0, 0, decide (l_1 = 0)) : (Int) × (Int) × (Int) × (Int) × (Bool)) = ((lookR g).1) := by
     first
       | (have hm := of_decide_eq_true p1; have hk : k = g.2.length := by omega
          subst hk
          simp only [lookR, if_pos hm, if_pos p15, ← hinv.loops, ← hinv.par]; simp [q62]; done)
       | (have hm := of_decide_eq_true p1; have hk : k = g.2.length := by omega
          subst hk
          simp only [lookR, if_pos hm, if_neg p15, ← hinv.loops, ← hinv.par]; simp [q62]; done)
       | (have hm := of_decide_eq_true p1; simp only [lookR, if_pos hm]; done)
       | (have hn : ¬ MayP g := fun h => p1 (decide_eq_true h); simp [lookR, hn]; done)
   have e1 : (0 : Int) = ((lookR g).2) := by
     first
       | (have hm := of_decide_eq_true p1; have hk : k = g.2.length := by omega
          subst hk
          simp only [lookR, if_pos hm, if_pos p15, ← hinv.loops, ← hinv.par]; simp [q62]; done)
       | (have hm := of_decide_eq_true p1; have hk : k = g.2.length := by omega
          subst hk
          simp only [lookR, if_pos hm, if_neg p15, ← hinv.loops, ← hinv.par]; simp [q62]; done)
       | (have hm := of_decide_eq_true p1; simp only [lookR, if_pos hm]; done)
       | (have hn : ¬ MayP g := fun h => p1 (decide_eq_true h); simp [lookR, hn]; done)
   replace hbase := hbase.chg ch194 (is_ne rfl)
   replace hbase := hbase.chg ch197 (is_ne rfl)
   exact ⟨(congr2 (a := (l_0, l_1, 0, 0, decide (l_1 = 0))) (b := 0) (fun (z0 : (Int) × (Int) × (Int) × (Int) × (Bool)) (z1 : Int) => Ending.returned (Value.tuple (List.toArray [Value.agg (List.toArray [Value.int .i64 z0.1, Value.int .i64 z0.2.1, Value.int .i64 z0.2.2.1, Value.int .i64 z0.2.2.2.1, Value.bool z0.2.2.2.2]), Value.int .i64 z1]))) e0 e1), hbase.below⟩
  refine l_skip (want_n rfl rfl rfl (decide_eq_false q62)) ?_
  refine l_skip (want_n rfl rfl rfl (decide_eq_false q62)) ?_
  refine l_skip (want_n rfl rfl rfl (decide_eq_false q62)) ?_
  refine l_val (v := Value.bool false) rfl (e_pick_f rfl (decide_eq_false q62) rfl) ?_
  refine l_val (v := Value.pointer (some ⟨b15, 4, none⟩)) rfl (e_fieldAddr Try.underlying78 rfl rfl (by exact zs4) rfl) ?_
  refine l_op rfl ?_
  refine o_store_bx (cs' := [Value.int .i64 l_0, Value.int .i64 l_1, Value.int .i64 0, Value.int .i64 0, Value.bool false]) tp4_b rfl rfl bx17 rfl (Nat.le_of_ble_eq_true rfl) (AllOne.all (.cons rfl .nil)) rfl ?_
  intro w199 ch200 bx201
  clear bx17
  refine l_nil ?_
  refine run_seq ?_
  refine run_region rfl ?_
  refine l_val (v := Value.agg (List.toArray [Value.int .i64 l_0, Value.int .i64 l_1, Value.int .i64 0, Value.int .i64 0, Value.bool false])) rfl (e_load_bxN (ds := [Value.int .i64 l_0, Value.int .i64 l_1, Value.int .i64 0, Value.int .i64 0, Value.bool false]) tp78_b (by exact zs4) bx201 rfl rfl) ?_
  refine l_op rfl ?_
  replace bx10 := bx10.chg ch200 (is_ne rfl)
  refine o_store_bx (cs' := [Value.int .i64 l_0, Value.int .i64 l_1, Value.int .i64 0, Value.int .i64 0, Value.bool false]) tp78_b (by exact zs2) rfl bx10 rfl (Nat.le_of_ble_eq_true rfl) (AllOne.all (.cons rfl (.cons rfl (.cons rfl (.cons rfl (.cons rfl .nil)))))) rfl ?_
  intro w202 ch203 bx204
  clear bx10
  refine l_val (v := Value.int .i64 0) rfl (e_assign rfl) ?_
  refine l_nil ?_
  refine run_ret (vs := [Value.agg (List.toArray [Value.int .i64 l_0, Value.int .i64 l_1, Value.int .i64 0, Value.int .i64 0, Value.bool false]), Value.int .i64 0]) Try.func52 (.cell (by exact zs2) (load_bxN (ds := [Value.int .i64 l_0, Value.int .i64 l_1, Value.int .i64 0, Value.int .i64 0, Value.bool false]) tp78_b bx204 rfl rfl) (.tmp rfl .nil)) ?_
  -- return 3
  have e0 : ((l_0, l_1, 0, 0, false) : (Int) × (Int) × (Int) × (Int) × (Bool)) = ((lookR g).1) := by
    first
      | (have hm := of_decide_eq_true p1; have hk : k = g.2.length := by omega
         subst hk
         simp only [lookR, if_pos hm, if_pos p15, ← hinv.loops, ← hinv.par]; simp [q62]; done)
      | (have hm := of_decide_eq_true p1; have hk : k = g.2.length := by omega
         subst hk
         simp only [lookR, if_pos hm, if_neg p15, ← hinv.loops, ← hinv.par]; simp [q62]; done)
      | (have hm := of_decide_eq_true p1; simp only [lookR, if_pos hm]; done)
      | (have hn : ¬ MayP g := fun h => p1 (decide_eq_true h); simp [lookR, hn]; done)
  have e1 : (0 : Int) = ((lookR g).2) := by
    first
      | (have hm := of_decide_eq_true p1; have hk : k = g.2.length := by omega
         subst hk
         simp only [lookR, if_pos hm, if_pos p15, ← hinv.loops, ← hinv.par]; simp [q62]; done)
      | (have hm := of_decide_eq_true p1; have hk : k = g.2.length := by omega
         subst hk
         simp only [lookR, if_pos hm, if_neg p15, ← hinv.loops, ← hinv.par]; simp [q62]; done)
      | (have hm := of_decide_eq_true p1; simp only [lookR, if_pos hm]; done)
      | (have hn : ¬ MayP g := fun h => p1 (decide_eq_true h); simp [lookR, hn]; done)
  replace hbase := hbase.chg ch200 (is_ne rfl)
  replace hbase := hbase.chg ch203 (is_ne rfl)
  exact ⟨(congr2 (a := (l_0, l_1, 0, 0, false)) (b := 0) (fun (z0 : (Int) × (Int) × (Int) × (Int) × (Bool)) (z1 : Int) => Ending.returned (Value.tuple (List.toArray [Value.agg (List.toArray [Value.int .i64 z0.1, Value.int .i64 z0.2.1, Value.int .i64 z0.2.2.1, Value.int .i64 z0.2.2.2.1, Value.bool z0.2.2.2.2]), Value.int .i64 z1]))) e0 e1), hbase.below⟩
 refine run_cond_t rfl (congrArg Bool.not (Bool.eq_false_iff.2 p1)) ?_
 refine run_seq ?_
 clear bx5
 refine run_region rfl ?_
 refine l_val (v := Value.agg (List.toArray [Value.int .i64 0, Value.int .i64 0, Value.int .i64 0, Value.int .i64 0, Value.bool false])) rfl (e_build (vs := []) rfl (by kernel_rfl)) ?_
 refine l_op rfl ?_
 replace bx10 := bx10.chg hb12 (not_no _)
 refine o_store_bx (cs' := [Value.int .i64 0, Value.int .i64 0, Value.int .i64 0, Value.int .i64 0, Value.bool false]) tp78_b rfl rfl bx10 rfl (Nat.le_of_ble_eq_true rfl) (AllOne.all (.cons rfl (.cons rfl (.cons rfl (.cons rfl (.cons rfl .nil)))))) rfl ?_
 intro w205 ch206 bx207
 clear bx10
 refine l_val (v := Value.int .i64 1) rfl (e_assign rfl) ?_
 refine l_nil ?_
 refine run_ret (vs := [Value.agg (List.toArray [Value.int .i64 0, Value.int .i64 0, Value.int .i64 0, Value.int .i64 0, Value.bool false]), Value.int .i64 1]) Try.func52 (.cell rfl (load_bxN (ds := [Value.int .i64 0, Value.int .i64 0, Value.int .i64 0, Value.int .i64 0, Value.bool false]) tp78_b bx207 rfl rfl) (.tmp rfl .nil)) ?_
 -- return 4
 have e0 : ((0, 0, 0, 0, false) : (Int) × (Int) × (Int) × (Int) × (Bool)) = ((lookR g).1) := by
   first
     | (have hm := of_decide_eq_true p1; have hk : k = g.2.length := by omega
        subst hk
        simp only [lookR, if_pos hm, if_pos p15, ← hinv.loops, ← hinv.par]; simp [q62]; done)
     | (have hm := of_decide_eq_true p1; have hk : k = g.2.length := by omega
        subst hk
        simp only [lookR, if_pos hm, if_neg p15, ← hinv.loops, ← hinv.par]; simp [q62]; done)
     | (have hm := of_decide_eq_true p1; simp only [lookR, if_pos hm]; done)
     | (have hn : ¬ MayP g := fun h => p1 (decide_eq_true h); simp [lookR, hn]; done)
 have e1 : (1 : Int) = ((lookR g).2) := by
   first
     | (have hm := of_decide_eq_true p1; have hk : k = g.2.length := by omega
        subst hk
        simp only [lookR, if_pos hm, if_pos p15, ← hinv.loops, ← hinv.par]; simp [q62]; done)
     | (have hm := of_decide_eq_true p1; have hk : k = g.2.length := by omega
        subst hk
        simp only [lookR, if_pos hm, if_neg p15, ← hinv.loops, ← hinv.par]; simp [q62]; done)
     | (have hm := of_decide_eq_true p1; simp only [lookR, if_pos hm]; done)
     | (have hn : ¬ MayP g := fun h => p1 (decide_eq_true h); simp [lookR, hn]; done)
 have C208 : Chg (inl [2]) _ _ _ _ := (ch2.n).seq ((ch7.n).seq ((hb12.n).seq (ch206.l rfl)))
 replace hbase := hbase.chg C208 (is_nl rfl)
 exact ⟨(congr2 (a := (0, 0, 0, 0, false)) (b := 1) (fun (z0 : (Int) × (Int) × (Int) × (Int) × (Bool)) (z1 : Int) => Ending.returned (Value.tuple (List.toArray [Value.agg (List.toArray [Value.int .i64 z0.1, Value.int .i64 z0.2.1, Value.int .i64 z0.2.2.1, Value.int .i64 z0.2.2.2.1, Value.bool z0.2.2.2.2]), Value.int .i64 z1]))) e0 e1), hbase.below⟩

theorem sample_ok (w0 : World)  :
    Calls Try.prog 50 #[] w0 (fun ee w => ∃ xx : Cmap × Value, ee = .returned ((fun ⟨δ, rv0⟩ => Value.agg (List.toArray [Value.int .i64 sampleS.1, rv0])) xx) ∧ (fun (⟨δ, rv0⟩ : Cmap × Value) (w : World) => Fresh w0 δ w ∧ Ow δ (is 1) (is 1) w rv0 sampleS.2) xx w) := by
 refine calls_of_run Try.func50 rfl (Nat.le_of_ble_eq_true rfl) ?_
 have hbase := Base.start w0
 refine run_seq ?_
 refine run_region rfl ?_
 refine l_op rfl ?_
 refine o_alloc c0 (is 1) (1, 0) rfl tp24_b ?_
 intro g4 w1 b3 ch2 bx5
 replace bx5 : Bx g4 (is 1) w1 b3 [Value.int .i64 0, Value.slice none 0 0] := bx5
 refine l_nil ?_
 refine run_seq ?_
 refine run_region rfl ?_
 refine l_val (v := Value.agg (List.toArray [Value.int .i64 0, Value.int .i64 1])) rfl (e_build (vs := [(0, Value.int .i64 0), (1, Value.int .i64 1)]) rfl (by kernel_rfl)) ?_
 refine l_val (v := Value.agg (List.toArray [Value.int .i64 1, Value.int .i64 0])) rfl (e_build (vs := [(0, Value.int .i64 1), (1, Value.int .i64 0)]) rfl (by kernel_rfl)) ?_
 refine l_val (v := Value.agg (List.toArray [Value.int .i64 2, Value.int .i64 2])) rfl (e_build (vs := [(0, Value.int .i64 2), (1, Value.int .i64 2)]) rfl (by kernel_rfl)) ?_
 refine l_val (v := Value.agg (List.toArray [Value.int .i64 1, Value.int .i64 2])) rfl (e_build (vs := [(0, Value.int .i64 1), (1, Value.int .i64 2)]) rfl (by kernel_rfl)) ?_
 refine l_op rfl ?_
 refine o_buildSlice (α := (Int) × (Int)) g4 (is 2) (is 2) (2, 0) rfl [(0, 1), (1, 0), (2, 2), (1, 2)] Try.underlying22 tp71_b (by decide) (by decide) (vs := [(0, Value.agg (List.toArray [Value.int .i64 0, Value.int .i64 1])), (1, Value.agg (List.toArray [Value.int .i64 1, Value.int .i64 0])), (2, Value.agg (List.toArray [Value.int .i64 2, Value.int .i64 2])), (3, Value.agg (List.toArray [Value.int .i64 1, Value.int .i64 2]))]) rfl rfl (.cons rfl (.cons rfl (.cons rfl (.cons rfl .nil)))) ?_
 intro g6 w7 v8 ch9 o10
 refine l_val (v := Value.agg (List.toArray [Value.int .i64 3, v8])) rfl (e_build (vs := [(0, Value.int .i64 3), (1, v8)]) rfl (by rw [Sl.form o10.flat]; kernel_rfl)) ?_
 refine l_op rfl ?_
 replace bx5 := bx5.chg ch9 (not_no _)
 refine o_store_bx (cs' := [Value.int .i64 3, v8]) tp24_b rfl rfl bx5 rfl (Nat.le_of_ble_eq_true rfl) (AllOne.all (.cons rfl (.cons (sl_one o10.flat) .nil))) rfl ?_
 intro w11 ch12 bx13
 clear bx5
 refine l_nil ?_
 refine run_ret (vs := [Value.agg (List.toArray [Value.int .i64 3, v8])]) Try.func50 (.cell rfl (load_bxN (ds := [Value.int .i64 3, v8]) tp24_b bx13 rfl rfl) .nil) ?_
 -- return 0
 have C14 : Chg (inl [1]) _ _ _ _ := (ch2.n).seq ((ch9.n).seq (ch12.l rfl))
 replace hbase := hbase.chg C14 (is_nl rfl)
 replace o10 := o10.chg ch12 (is_ne rfl) (is_ne rfl)
 have e0 : ((3, [(0, 1), (1, 0), (2, 2), (1, 2)]) : (Int) × (List ((Int) × (Int)))) = (sampleS) := by
   rfl
 exact ⟨(fin w0 g6 (fun n => if n = 2 then 1 else 0), v8), (congrArg (a₁ := (3, [(0, 1), (1, 0), (2, 2), (1, 2)])) (fun (z0 : (Int) × (List ((Int) × (Int)))) => Ending.returned (Value.agg (List.toArray [Value.int .i64 z0.1, v8]))) e0), hbase.fresh _, ((congrArg (fun (z : (Int) × (List ((Int) × (Int)))) => z.2) e0) ▸ (o10.glue (γ := c0) (ren := (fun n => if n = 2 then 1 else 0)) (k := 1) hbase.col rfl rfl))⟩

theorem begun_ok (w0 : World)  :
    Calls Try.prog 20 #[] w0 (fun ee w => ee = .returned (Value.bool true) ∧ RowKit.Below w0.heap.size w0 w) := by
 refine calls_of_run Try.func20 rfl (Nat.le_of_ble_eq_true rfl) ?_
 have hbase := Base.start w0
 refine run_seq ?_
 refine run_region rfl ?_
 refine l_val (v := Value.bool false) rfl (e_assign rfl) ?_
 refine l_nil ?_
 refine run_seq ?_
 refine run_region rfl ?_
 refine l_op rfl ?_
 refine o_callx (e_call (vals := []) Try.func50 bd50_b nm50_b rfl) (sample_ok w0 ) ?_
 rintro ⟨d2, v4⟩ w1 ⟨fr3, o5⟩
 obtain ⟨g6, hg6⟩ : ∃ q, q = glue w0.heap.size c0 d2 (fun n => if n = 1 then 1 else 0) := ⟨_, rfl⟩
 have ch7 := chg_glue fr3.below c0 d2 (fun n => if n = 1 then 1 else 0)
 rw [← hg6] at ch7
 replace o5 := o5.glue (γ := c0) (ren := (fun n => if n = 1 then 1 else 0)) (k := 1) fr3.col rfl rfl
 rw [← hg6] at o5
 clear hg6
 refine l_op rfl ?_
 refine o_alloc g6 (is 2) (2, 0) rfl tp24_b ?_
 intro g11 w8 b10 ch9 bx12
 replace bx12 : Bx g11 (is 2) w8 b10 [Value.int .i64 0, Value.slice none 0 0] := bx12
 refine l_op rfl ?_
 replace o5 := o5.chg ch9 (not_no _) (not_no _)
 refine o_store_bx (cs' := [Value.int .i64 sampleS.1, v4]) tp24_b rfl rfl bx12 rfl (Nat.le_of_ble_eq_true rfl) (AllOne.all (.cons rfl (.cons (sl_one o5.flat) .nil))) rfl ?_
 intro w13 ch14 bx15
 clear bx12
 refine l_nil ?_
 refine run_seq ?_
 refine run_region rfl ?_
 refine l_val (v := Value.agg (List.toArray [Value.int .i64 sampleS.1, v4])) rfl (e_load_bxN (ds := [Value.int .i64 sampleS.1, v4]) tp24_b rfl bx15 rfl rfl) ?_
 replace o5 := o5.chg ch14 (is_ne rfl) (is_ne rfl)
 refine l_op rfl ?_
 refine o_callx (e_call (vals := [Value.agg (List.toArray [Value.int .i64 sampleS.1, v4]), Value.int .i64 2]) Try.func51 bd51_b nm51_b rfl) (Out_ok w13 sampleS v4 (o5.flat).ro 2) ?_
 rintro ⟨d17, v19⟩ w16 ⟨fr18, o20⟩
 obtain ⟨g21, hg21⟩ : ∃ q, q = glue w13.heap.size g11 d17 (fun n => if n = 1 then 3 else 0) := ⟨_, rfl⟩
 have ch22 := chg_glue fr18.below g11 d17 (fun n => if n = 1 then 3 else 0)
 rw [← hg21] at ch22
 replace o20 := o20.glue (γ := g11) (ren := (fun n => if n = 1 then 3 else 0)) (k := 3) fr18.col rfl rfl
 rw [← hg21] at o20
 clear hg21
 refine l_val (v := Value.tuple (List.toArray [v19, Value.int .i64 ((outR sampleS 2).2)])) rfl (e_move rfl) ?_
 refine l_val (v := v19) rfl (e_extract rfl rfl) ?_
 refine l_val (v := Value.int .i64 ((outR sampleS 2).2)) rfl (e_extract rfl rfl) ?_
 refine l_val (v := v19) rfl (e_assign rfl) ?_
 refine l_val (v := Value.int .i64 ((outR sampleS 2).2)) rfl (e_assign rfl) ?_
 refine l_nil ?_
 refine run_seq ?_
 refine run_region rfl ?_
 replace bx15 := bx15.chg ch22 (not_no _)
 refine l_val (v := Value.agg (List.toArray [Value.int .i64 sampleS.1, v4])) rfl (e_load_bxN (ds := [Value.int .i64 sampleS.1, v4]) tp24_b rfl bx15 rfl rfl) ?_
 replace o5 := o5.chg ch22 (not_no _) (not_no _)
 refine l_op rfl ?_
 refine o_call (v := Value.tuple (List.toArray [Value.agg (List.toArray [Value.int .i64 (((lookR sampleS).1).1), Value.int .i64 ((((lookR sampleS).1).2).1), Value.int .i64 (((((lookR sampleS).1).2).2).1), Value.int .i64 ((((((lookR sampleS).1).2).2).2).1), Value.bool ((((((lookR sampleS).1).2).2).2).2)]), Value.int .i64 ((lookR sampleS).2)])) (e_call (vals := [Value.agg (List.toArray [Value.int .i64 sampleS.1, v4])]) Try.func52 bd52_b nm52_b rfl) (Look_ok w16 sampleS v4 (o5.flat).ro) ?_
 intro w23 hb24
 replace hb24 := chg_below hb24 g21
 refine l_val (v := Value.tuple (List.toArray [Value.agg (List.toArray [Value.int .i64 (((lookR sampleS).1).1), Value.int .i64 ((((lookR sampleS).1).2).1), Value.int .i64 (((((lookR sampleS).1).2).2).1), Value.int .i64 ((((((lookR sampleS).1).2).2).2).1), Value.bool ((((((lookR sampleS).1).2).2).2).2)]), Value.int .i64 ((lookR sampleS).2)])) rfl (e_move rfl) ?_
 refine l_val (v := Value.agg (List.toArray [Value.int .i64 (((lookR sampleS).1).1), Value.int .i64 ((((lookR sampleS).1).2).1), Value.int .i64 (((((lookR sampleS).1).2).2).1), Value.int .i64 ((((((lookR sampleS).1).2).2).2).1), Value.bool ((((((lookR sampleS).1).2).2).2).2)])) rfl (e_extract rfl rfl) ?_
 refine l_val (v := Value.int .i64 ((lookR sampleS).2)) rfl (e_extract rfl rfl) ?_
 refine l_op rfl ?_
 refine o_alloc g21 (is 4) (4, 0) rfl tp78_b ?_
 intro g28 w25 b27 ch26 bx29
 replace bx29 : Bx g28 (is 4) w25 b27 [Value.int .i64 0, Value.int .i64 0, Value.int .i64 0, Value.int .i64 0, Value.bool false] := bx29
 refine l_op rfl ?_
 refine o_store_bx (cs' := [Value.int .i64 (((lookR sampleS).1).1), Value.int .i64 ((((lookR sampleS).1).2).1), Value.int .i64 (((((lookR sampleS).1).2).2).1), Value.int .i64 ((((((lookR sampleS).1).2).2).2).1), Value.bool ((((((lookR sampleS).1).2).2).2).2)]) tp78_b rfl rfl bx29 rfl (Nat.le_of_ble_eq_true rfl) (AllOne.all (.cons rfl (.cons rfl (.cons rfl (.cons rfl (.cons rfl .nil)))))) rfl ?_
 intro w30 ch31 bx32
 clear bx29
 refine l_val (v := Value.int .i64 ((lookR sampleS).2)) rfl (e_assign rfl) ?_
 refine l_nil ?_
 refine run_seq ?_
 refine run_region rfl ?_
 have C33 : Chg (inl [4]) _ _ _ _ := (hb24.n).seq ((ch26.n).seq (ch31.l rfl))
 replace bx15 := bx15.chg C33 (is_nl rfl)
 refine l_val (v := Value.agg (List.toArray [Value.int .i64 sampleS.1, v4])) rfl (e_load_bxN (ds := [Value.int .i64 sampleS.1, v4]) tp24_b rfl bx15 rfl rfl) ?_
 refine l_op rfl ?_
 refine o_buildSlice (α := Int) g28 (is 5) (is 5) (5, 0) rfl [3, 0] Try.underlying35 tp3_b (by decide) (by decide) (vs := [(0, Value.int .i64 3), (1, Value.int .i64 0)]) rfl rfl (.cons rfl (.cons rfl .nil)) ?_
 intro g34 w35 v36 ch37 o38
 have C39 : Chg (inl [4]) _ _ _ _ := (hb24.n).seq ((ch26.n).seq ((ch31.l rfl).seq (ch37.n)))
 replace o5 := o5.chg C39 (is_nl rfl) (is_nl rfl)
 refine l_op rfl ?_
 refine o_callx (e_call (vals := [Value.agg (List.toArray [Value.int .i64 sampleS.1, v4]), v36]) Try.func53 bd53_b nm53_b rfl) (Sub_ok w35 sampleS v4 (o5.flat).ro ([3, 0]) v36 (o38.flat).ro) ?_
 rintro ⟨d41, v43⟩ w40 ⟨fr42, o44⟩
 obtain ⟨g45, hg45⟩ : ∃ q, q = glue w35.heap.size g34 d41 (fun n => if n = 1 then 6 else 0) := ⟨_, rfl⟩
 have ch46 := chg_glue fr42.below g34 d41 (fun n => if n = 1 then 6 else 0)
 rw [← hg45] at ch46
 replace o44 := o44.glue (γ := g34) (ren := (fun n => if n = 1 then 6 else 0)) (k := 6) fr42.col rfl rfl
 rw [← hg45] at o44
 clear hg45
 refine l_val (v := Value.tuple (List.toArray [Value.agg (List.toArray [Value.int .i64 (((subR sampleS ([3, 0])).1).1), v43]), Value.int .i64 ((subR sampleS ([3, 0])).2)])) rfl (e_move rfl) ?_
 refine l_val (v := Value.agg (List.toArray [Value.int .i64 (((subR sampleS ([3, 0])).1).1), v43])) rfl (e_extract rfl rfl) ?_
 refine l_val (v := Value.int .i64 ((subR sampleS ([3, 0])).2)) rfl (e_extract rfl rfl) ?_
 refine l_op rfl ?_
 refine o_alloc g45 (is 7) (7, 0) rfl tp24_b ?_
 intro g50 w47 b49 ch48 bx51
 replace bx51 : Bx g50 (is 7) w47 b49 [Value.int .i64 0, Value.slice none 0 0] := bx51
 refine l_op rfl ?_
 replace o44 := o44.chg ch48 (not_no _) (not_no _)
 refine o_store_bx (cs' := [Value.int .i64 (((subR sampleS ([3, 0])).1).1), v43]) tp24_b rfl rfl bx51 rfl (Nat.le_of_ble_eq_true rfl) (AllOne.all (.cons rfl (.cons (sl_one o44.flat) .nil))) rfl ?_
 intro w52 ch53 bx54
 clear bx51
 refine l_val (v := Value.int .i64 ((subR sampleS ([3, 0])).2)) rfl (e_assign rfl) ?_
 refine l_nil ?_
 refine run_seq ?_
 clear o38
 refine run_region rfl ?_
 have C55 : Chg (inl [7]) _ _ _ _ := (ch37.n).seq ((ch46.n).seq ((ch48.n).seq (ch53.l rfl)))
 replace bx15 := bx15.chg C55 (is_nl rfl)
 refine l_val (v := Value.agg (List.toArray [Value.int .i64 sampleS.1, v4])) rfl (e_load_bxN (ds := [Value.int .i64 sampleS.1, v4]) tp24_b rfl bx15 rfl rfl) ?_
 have C56 : Chg (inl [7]) _ _ _ _ := (ch46.n).seq ((ch48.n).seq (ch53.l rfl))
 replace o5 := o5.chg C56 (is_nl rfl) (is_nl rfl)
 refine l_op rfl ?_
 refine o_call (v := Value.bool (mayB sampleS)) (e_call (vals := [Value.agg (List.toArray [Value.int .i64 sampleS.1, v4])]) Try.func25 bd25_b nm25_b rfl) (May_ok w52 sampleS v4 (o5.flat).ro) ?_
 intro w57 hb58
 replace hb58 := chg_below hb58 g50
 refine l_val (v := Value.bool (mayB sampleS)) rfl (e_move rfl) ?_
 have q27 : (mayB sampleS) = true := by decide
 refine l_val (v := v19) (want_y rfl rfl rfl q27) (e_move rfl) ?_
 have C59 : Chg (inl [4, 7]) _ _ _ _ := (hb24.n).seq ((ch26.n).seq ((ch31.l rfl).seq ((ch37.n).seq ((ch46.n).seq ((ch48.n).seq ((ch53.l rfl).seq (hb58.n)))))))
 replace o20 := o20.chg C59 (is_nl rfl) (is_nl rfl)
 have len60 := (o20.flat).small
 refine l_val (v := Value.int .i64 (List.length ((outR sampleS 2).1) : Int)) (want_y rfl rfl rfl q27) (e_len Try.underlying35 rfl o20.flat) ?_
 refine l_val (v := Value.bool (decide ((List.length ((outR sampleS 2).1) : Int) = 3))) (want_y rfl rfl rfl q27) (e_eql (m := (List.length ((outR sampleS 2).1) : Int)) (n := 3) rfl rfl) ?_
 refine l_val (v := Value.bool (decide ((List.length ((outR sampleS 2).1) : Int) = 3))) rfl (e_pick_t rfl q27 rfl) ?_
 refine l_val (v := Value.bool (decide ((List.length ((outR sampleS 2).1) : Int) = 3))) rfl (e_move rfl) ?_
 have q32 : (List.length ((outR sampleS 2).1) : Int) = 3 := by decide
 refine l_val (v := v19) (want_y rfl rfl rfl (decide_eq_true q32)) (e_move rfl) ?_
 refine l_val (v := Value.pointer (some (eAddr v19 1 (Int.toNat 0)))) (want_y rfl rfl rfl (decide_eq_true q32)) (e_indexAddr (α := Int) (xs := (outR sampleS 2).1) (v := v19) (i := 0) Try.underlying35 rfl rfl o20.flat rfl (by omega) (by omega)) ?_
 refine l_val (v := Value.int .i64 (gI ((outR sampleS 2).1) 0)) (want_y rfl rfl rfl (decide_eq_true q32)) (e_load_el1 (α := Int) (xs := (outR sampleS 2).1) (v := v19) (i := 0) tp3_b rfl o20.flat (by omega) (by omega) (by decide) rfl) ?_
 refine l_val (v := Value.bool (decide ((gI ((outR sampleS 2).1) 0) = 4))) (want_y rfl rfl rfl (decide_eq_true q32)) (e_eql (m := (gI ((outR sampleS 2).1) 0)) (n := 4) rfl rfl) ?_
 refine l_val (v := Value.bool (decide ((gI ((outR sampleS 2).1) 0) = 4))) rfl (e_pick_t rfl (decide_eq_true q32) rfl) ?_
 refine l_val (v := Value.bool (decide ((gI ((outR sampleS 2).1) 0) = 4))) rfl (e_move rfl) ?_
 have q38 : (gI ((outR sampleS 2).1) 0) = 4 := by decide
 refine l_val (v := Value.int .i64 ((outR sampleS 2).2)) (want_y rfl rfl rfl (decide_eq_true q38)) (e_move rfl) ?_
 refine l_val (v := Value.bool (decide (((outR sampleS 2).2) = 0))) (want_y rfl rfl rfl (decide_eq_true q38)) (e_eql (m := (outR sampleS 2).2) (n := 0) rfl rfl) ?_
 refine l_val (v := Value.bool (decide (((outR sampleS 2).2) = 0))) rfl (e_pick_t rfl (decide_eq_true q38) rfl) ?_
 refine l_val (v := Value.bool (decide (((outR sampleS 2).2) = 0))) rfl (e_move rfl) ?_
 have q42 : ((outR sampleS 2).2) = 0 := by decide
 refine l_val (v := Value.pointer (some ⟨b27, 0, none⟩)) (want_y rfl rfl rfl (decide_eq_true q42)) (e_fieldAddr Try.underlying78 rfl rfl rfl rfl) ?_
 have C61 : Chg (inl [7]) _ _ _ _ := (ch37.n).seq ((ch46.n).seq ((ch48.n).seq ((ch53.l rfl).seq (hb58.n))))
 replace bx32 := bx32.chg C61 (is_nl rfl)
 refine l_val (v := Value.int .i64 (((lookR sampleS).1).1)) (want_y rfl rfl rfl (decide_eq_true q42)) (e_load_bx1 tp3_b rfl bx32 rfl) ?_
 refine l_val (v := Value.bool (decide ((((lookR sampleS).1).1) = 1))) (want_y rfl rfl rfl (decide_eq_true q42)) (e_eql (m := ((lookR sampleS).1).1) (n := 1) rfl rfl) ?_
 refine l_val (v := Value.bool (decide ((((lookR sampleS).1).1) = 1))) rfl (e_pick_t rfl (decide_eq_true q42) rfl) ?_
 refine l_val (v := Value.bool (decide ((((lookR sampleS).1).1) = 1))) rfl (e_move rfl) ?_
 have q47 : (((lookR sampleS).1).1) = 1 := by decide
 refine l_val (v := Value.pointer (some ⟨b27, 1, none⟩)) (want_y rfl rfl rfl (decide_eq_true q47)) (e_fieldAddr Try.underlying78 rfl rfl rfl rfl) ?_
 refine l_val (v := Value.int .i64 ((((lookR sampleS).1).2).1)) (want_y rfl rfl rfl (decide_eq_true q47)) (e_load_bx1 tp3_b rfl bx32 rfl) ?_
 refine l_val (v := Value.bool (decide (((((lookR sampleS).1).2).1) = 1))) (want_y rfl rfl rfl (decide_eq_true q47)) (e_eql (m := (((lookR sampleS).1).2).1) (n := 1) rfl rfl) ?_
 refine l_val (v := Value.bool (decide (((((lookR sampleS).1).2).1) = 1))) rfl (e_pick_t rfl (decide_eq_true q47) rfl) ?_
 refine l_val (v := Value.bool (decide (((((lookR sampleS).1).2).1) = 1))) rfl (e_move rfl) ?_
 have q52 : ((((lookR sampleS).1).2).1) = 1 := by decide
 refine l_val (v := Value.int .i64 ((lookR sampleS).2)) (want_y rfl rfl rfl (decide_eq_true q52)) (e_move rfl) ?_
 refine l_val (v := Value.bool (decide (((lookR sampleS).2) = 0))) (want_y rfl rfl rfl (decide_eq_true q52)) (e_eql (m := (lookR sampleS).2) (n := 0) rfl rfl) ?_
 refine l_val (v := Value.bool (decide (((lookR sampleS).2) = 0))) rfl (e_pick_t rfl (decide_eq_true q52) rfl) ?_
 refine l_val (v := Value.bool (decide (((lookR sampleS).2) = 0))) rfl (e_move rfl) ?_
 have q56 : ((lookR sampleS).2) = 0 := by decide
 refine l_val (v := Value.pointer (some ⟨b49, 1, none⟩)) (want_y rfl rfl rfl (decide_eq_true q56)) (e_fieldAddr Try.underlying24 rfl rfl rfl rfl) ?_
 replace bx54 := bx54.chg hb58 (not_no _)
 refine l_val (v := v43) (want_y rfl rfl rfl (decide_eq_true q56)) (e_load_bx1 tp22_b rfl bx54 rfl) ?_
 replace o44 := (o44.chg ch53 (is_ne rfl) (is_ne rfl)).chg hb58 (not_no _) (not_no _)
 have len62 := (o44.flat).small
 refine l_val (v := Value.int .i64 (List.length (((subR sampleS ([3, 0])).1).2) : Int)) (want_y rfl rfl rfl (decide_eq_true q56)) (e_len Try.underlying22 rfl o44.flat) ?_
 refine l_val (v := Value.bool (decide ((List.length (((subR sampleS ([3, 0])).1).2) : Int) = 2))) (want_y rfl rfl rfl (decide_eq_true q56)) (e_eql (m := (List.length (((subR sampleS ([3, 0])).1).2) : Int)) (n := 2) rfl rfl) ?_
 refine l_val (v := Value.bool (decide ((List.length (((subR sampleS ([3, 0])).1).2) : Int) = 2))) rfl (e_pick_t rfl (decide_eq_true q56) rfl) ?_
 refine l_val (v := Value.bool (decide ((List.length (((subR sampleS ([3, 0])).1).2) : Int) = 2))) rfl (e_move rfl) ?_
 have q62 : (List.length (((subR sampleS ([3, 0])).1).2) : Int) = 2 := by decide
 refine l_val (v := Value.int .i64 ((subR sampleS ([3, 0])).2)) (want_y rfl rfl rfl (decide_eq_true q62)) (e_move rfl) ?_
 refine l_val (v := Value.bool (decide (((subR sampleS ([3, 0])).2) = 0))) (want_y rfl rfl rfl (decide_eq_true q62)) (e_eql (m := (subR sampleS ([3, 0])).2) (n := 0) rfl rfl) ?_
 refine l_val (v := Value.bool (decide (((subR sampleS ([3, 0])).2) = 0))) rfl (e_pick_t rfl (decide_eq_true q62) rfl) ?_
 refine l_val (v := Value.bool (decide (((subR sampleS ([3, 0])).2) = 0))) rfl (e_move rfl) ?_
 have q66 : ((subR sampleS ([3, 0])).2) = 0 := by decide
 replace bx15 := bx15.chg hb58 (not_no _)
 refine l_val (v := Value.agg (List.toArray [Value.int .i64 sampleS.1, v4])) (want_y rfl rfl rfl (decide_eq_true q66)) (e_load_bxN (ds := [Value.int .i64 sampleS.1, v4]) tp24_b rfl bx15 rfl rfl) ?_
 refine l_val (v := Value.agg (List.toArray [Value.int .i64 sampleS.1, v4])) (want_y rfl rfl rfl (decide_eq_true q66)) (e_load_bxN (ds := [Value.int .i64 sampleS.1, v4]) tp24_b rfl bx15 rfl rfl) ?_
 replace o5 := o5.chg hb58 (not_no _) (not_no _)
 refine l_op (want_y rfl rfl rfl (decide_eq_true q66)) ?_
 refine o_call (v := Value.bool (decide (sampleS = sampleS))) (e_call (vals := [Value.agg (List.toArray [Value.int .i64 sampleS.1, v4]), Value.agg (List.toArray [Value.int .i64 sampleS.1, v4])]) Try.func54 bd54_b nm54_b rfl) (Same_ok w57 sampleS v4 (o5.flat).ro sampleS v4 (o5.flat).ro) ?_
 intro w63 hb64
 replace hb64 := chg_below hb64 g50
 refine l_val (v := Value.bool (decide (sampleS = sampleS))) rfl (e_pick_t rfl (decide_eq_true q66) rfl) ?_
 refine l_val (v := Value.bool (decide (sampleS = sampleS))) rfl (e_move rfl) ?_
 have q71 : (decide (sampleS = sampleS)) = true := by decide
 replace bx15 := bx15.chg hb64 (not_no _)
 refine l_val (v := Value.agg (List.toArray [Value.int .i64 sampleS.1, v4])) (want_y rfl rfl rfl q71) (e_load_bxN (ds := [Value.int .i64 sampleS.1, v4]) tp24_b rfl bx15 rfl rfl) ?_
 replace bx54 := bx54.chg hb64 (not_no _)
 refine l_val (v := Value.agg (List.toArray [Value.int .i64 (((subR sampleS ([3, 0])).1).1), v43])) (want_y rfl rfl rfl q71) (e_load_bxN (ds := [Value.int .i64 (((subR sampleS ([3, 0])).1).1), v43]) tp24_b rfl bx54 rfl rfl) ?_
 replace o5 := o5.chg hb64 (not_no _) (not_no _)
 replace o44 := o44.chg hb64 (not_no _) (not_no _)
 refine l_op (want_y rfl rfl rfl q71) ?_
 refine o_call (v := Value.bool (decide (sampleS = ((subR sampleS ([3, 0])).1)))) (e_call (vals := [Value.agg (List.toArray [Value.int .i64 sampleS.1, v4]), Value.agg (List.toArray [Value.int .i64 (((subR sampleS ([3, 0])).1).1), v43])]) Try.func54 bd54_b nm54_b rfl) (Same_ok w63 sampleS v4 (o5.flat).ro ((subR sampleS ([3, 0])).1) v43 (o44.flat).ro) ?_
 intro w65 hb66
 replace hb66 := chg_below hb66 g50
 refine l_val (v := Value.bool (!(decide (sampleS = ((subR sampleS ([3, 0])).1))))) (want_y rfl rfl rfl q71) (e_not (b := (decide (sampleS = ((subR sampleS ([3, 0])).1)))) rfl) ?_
 refine l_val (v := Value.bool (!(decide (sampleS = ((subR sampleS ([3, 0])).1))))) rfl (e_pick_t rfl q71 rfl) ?_
 refine l_val (v := Value.bool (!(decide (sampleS = ((subR sampleS ([3, 0])).1))))) rfl (e_assign rfl) ?_
 refine l_nil ?_
 refine run_ret (vs := [Value.bool (!(decide (sampleS = ((subR sampleS ([3, 0])).1))))]) Try.func20 (.tmp rfl .nil) ?_
 -- return 0
 have e0 : (!(decide (sampleS = ((subR sampleS ([3, 0])).1))) : Bool) = (true) := by
   rfl
 have C67 : Chg (inl [2, 4, 7]) _ _ _ _ := (ch7.n).seq ((ch9.n).seq ((ch14.l rfl).seq ((ch22.n).seq ((hb24.n).seq ((ch26.n).seq ((ch31.l rfl).seq ((ch37.n).seq ((ch46.n).seq ((ch48.n).seq ((ch53.l rfl).seq ((hb58.n).seq ((hb64.n).seq (hb66.n)))))))))))))
 replace hbase := hbase.chg C67 (is_nl rfl)
 exact ⟨(congrArg (a₁ := !(decide (sampleS = ((subR sampleS ([3, 0])).1)))) (fun (z0 : Bool) => Ending.returned (Value.bool z0)) e0), hbase.below⟩
end TL
