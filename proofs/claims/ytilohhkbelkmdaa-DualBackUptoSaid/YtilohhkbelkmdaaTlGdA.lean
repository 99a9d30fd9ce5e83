import Derived.Test.YtilohhkbelkmdaaTlGenX
import Derived.Test.YtilohhkbelkmdaaTlGenY
import Derived.Test.YtilohhkbelkmdaaTlGenO
import Derived.Test.YtilohhkbelkmdaaTlP3
import Derived.Test.YtilohhkbelkmdaaProg
set_option linter.all false
set_option maxRecDepth 20000
namespace TL
open Go Go.Proofs
theorem mixed_da : Try.prog.follows .mixedOrders = true := by kernel_rfl
theorem tp3_da : Tp Try.prog 3 false 1 8 (.int .i64 0) := Tp.of (by kernel_rfl)
theorem tp22_da : Tp Try.prog 22 false 1 24 (.slice none 0 0) := Tp.of (by kernel_rfl)
theorem tp24_da : Tp Try.prog 24 true 2 32 (.agg #[.int .i64 0, .slice none 0 0]) := Tp.of (by kernel_rfl)
theorem tp27_da : Tp Try.prog 27 false 1 24 (.slice none 0 0) := Tp.of (by kernel_rfl)
theorem tp60_da : Tp Try.prog 60 true 2 16 (.agg #[.int .i64 0, .int .i64 0]) := Tp.of (by kernel_rfl)
theorem bd47_da : Try.f47.body.isNone = false := rfl
theorem nm47_da : (Try.f47.name == "runtime.NumGoroutine") = false := by decide +kernel
theorem bd53_da : Try.f53.body.isNone = false := rfl
theorem nm53_da : (Try.f53.name == "runtime.NumGoroutine") = false := by decide +kernel
theorem bd54_da : Try.f54.body.isNone = false := rfl
theorem nm54_da : (Try.f54.name == "runtime.NumGoroutine") = false := by decide +kernel
theorem bd55_da : Try.f55.body.isNone = false := rfl
theorem nm55_da : (Try.f55.name == "runtime.NumGoroutine") = false := by decide +kernel
theorem bd67_da : Try.f67.body.isNone = false := rfl
theorem nm67_da : (Try.f67.name == "runtime.NumGoroutine") = false := by decide +kernel
theorem bd71_da : Try.f71.body.isNone = false := rfl
theorem nm71_da : (Try.f71.name == "runtime.NumGoroutine") = false := by decide +kernel
theorem bd96_da : Try.f96.body.isNone = false := rfl
theorem nm96_da : (Try.f96.name == "runtime.NumGoroutine") = false := by decide +kernel
theorem ends_ok (w0 : World) (of : List Int) (of_v : Value) (hof_v : Ro w0 of_v of) (e : Int) (he : 0 ≤ e ∧ 2 * e + 1 < (of.length : Int)) (hl : of.length ≤ 1000000) :
    Calls Try.prog 67 #[of_v, Value.int .i64 e] w0 (fun ee w => ee = .returned (Value.agg (List.toArray [Value.int .i64 ((endsS of e).1), Value.int .i64 ((endsS of e).2)])) ∧ Bel w0.heap.size w0 w) := by
 refine calls_of_run Try.func67 rfl (Nat.le_of_ble_eq_true rfl) ?_
 have hbase := Base.start w0
 have r_of_v := hof_v.sl
 obtain ⟨he1, he2⟩ := he
 refine run_seq (run_region rfl (l_op rfl ?_))
 refine o_alloc c0 (is 1) (1, 0) rfl tp60_da ?_
 intro g4 w1 b3 ch2 bx5
 replace bx5 : Bx g4 (is 1) w1 b3 [Value.int .i64 0, Value.int .i64 0] := bx5
 refine l_nil (run_seq ?_)
 refine run_region_x g4 [0, 1, 2, 3, 4, 5, 6, 7, 8, 9, 10, 11] mixed_da ?_
 intro w7 ch6
 refine x_pure (v := of_v) 0 rfl (by kernel_rfl) (by kernel_rfl) rfl (fun w => e_move rfl) ?_
 refine x_pure (v := Value.int .i64 e) 1 rfl (by kernel_rfl) (by kernel_rfl) rfl (fun w => e_move rfl) ?_
 refine x_pure (v := Value.int .i64 (2 * e)) 2 rfl (by kernel_rfl) (by kernel_rfl) rfl (fun w => e_mul (m := 2) (n := e) rfl rfl (by omega)) ?_
 replace r_of_v := (r_of_v.chg ch2 (not_no _)).chg ch6 (not_no _)
 refine x_val (v := Value.pointer (some (eAddr of_v 1 (Int.toNat (2 * e))))) 3 [2, 1, 0, 5, 6, 7, 8, 9, 10] rfl (by kernel_rfl) (by kernel_rfl) rfl (e_indexAddr (α := Int) (xs := of) (v := of_v) (i := 2 * e) Try.underlying27 rfl rfl r_of_v rfl (by omega) (by omega)) ?_
 refine x_val (v := Value.int .i64 (gI of (2 * e))) 4 [3, 2, 1, 0, 5, 6, 7, 8, 9, 10] rfl (by kernel_rfl) (by kernel_rfl) rfl (e_load_el1 (α := Int) (xs := of) (v := of_v) (i := 2 * e) tp3_da rfl r_of_v (by omega) (by omega) (by decide) rfl) ?_
 refine x_pure (v := of_v) 5 rfl (by kernel_rfl) (by kernel_rfl) rfl (fun w => e_move rfl) ?_
 refine x_pure (v := Value.int .i64 e) 6 rfl (by kernel_rfl) (by kernel_rfl) rfl (fun w => e_move rfl) ?_
 refine x_pure (v := Value.int .i64 (2 * e)) 7 rfl (by kernel_rfl) (by kernel_rfl) rfl (fun w => e_mul (m := 2) (n := e) rfl rfl (by omega)) ?_
 refine x_pure (v := Value.int .i64 ((2 * e) + 1)) 8 rfl (by kernel_rfl) (by kernel_rfl) rfl (fun w => e_add (m := 2 * e) (n := 1) rfl rfl (by omega)) ?_
 refine x_val (v := Value.pointer (some (eAddr of_v 1 (Int.toNat ((2 * e) + 1))))) 9 [8, 7, 6, 5, 4, 3, 2, 1, 0] rfl (by kernel_rfl) (by kernel_rfl) rfl (e_indexAddr (α := Int) (xs := of) (v := of_v) (i := (2 * e) + 1) Try.underlying27 rfl rfl r_of_v rfl (by omega) (by omega)) ?_
 refine x_val (v := Value.int .i64 (gI of ((2 * e) + 1))) 10 [9, 8, 7, 6, 5, 4, 3, 2, 1, 0] rfl (by kernel_rfl) (by kernel_rfl) rfl (e_load_el1 (α := Int) (xs := of) (v := of_v) (i := (2 * e) + 1) tp3_da rfl r_of_v (by omega) (by omega) (by decide) rfl) ?_
 refine x_pure (v := Value.agg (List.toArray [Value.int .i64 (gI of (2 * e)), Value.int .i64 (gI of ((2 * e) + 1))])) 11 rfl (by kernel_rfl) (by kernel_rfl) rfl (fun w => e_build (vs := [(0, Value.int .i64 (gI of (2 * e))), (1, Value.int .i64 (gI of ((2 * e) + 1)))]) rfl (by kernel_rfl)) ?_
 refine x_one 12 rfl (by kernel_rfl) rfl ?_
 replace bx5 := bx5.chg ch6 (not_no _)
 refine o_store_bx (cs' := [Value.int .i64 (gI of (2 * e)), Value.int .i64 (gI of ((2 * e) + 1))]) tp60_da rfl rfl bx5 rfl (Nat.le_of_ble_eq_true rfl) (AllOne.all (.cons rfl (.cons rfl .nil))) rfl ?_
 intro w8 ch9 bx10
 clear bx5
 refine x_nil (by kernel_rfl) ?_
 refine run_ret (vs := [Value.agg (List.toArray [Value.int .i64 (gI of (2 * e)), Value.int .i64 (gI of ((2 * e) + 1))])]) Try.func67 (.cell rfl (load_bxN (ds := [Value.int .i64 (gI of (2 * e)), Value.int .i64 (gI of ((2 * e) + 1))]) tp60_da bx10 rfl rfl) .nil) ?_
 -- return 0
 have e0 : (((gI of (2 * e)), (gI of ((2 * e) + 1))) : (Int) × (Int)) = (endsS of e) := by
   rfl
 have C11 : Chg (inl [1]) _ _ _ _ := (ch2.n).seq ((ch6.n).seq (ch9.l rfl))
 replace hbase := hbase.chg C11 (is_nl rfl)
 exact ⟨(congrArg (a₁ := ((gI of (2 * e)), (gI of ((2 * e) + 1)))) (fun (z0 : (Int) × (Int)) => Ending.returned (Value.agg (List.toArray [Value.int .i64 z0.1, Value.int .i64 z0.2]))) e0), hbase.below⟩
theorem dOf_ok (w0 : World) (g : (Int) × (List ((Int) × (Int)))) (g_v : Value) (hg_v : Ro w0 g_v g.2) (r : List (List Int)) (r_v : Value) (hr_v : Ro w0 r_v r) :
    Calls Try.prog 22 #[Value.agg (List.toArray [Value.int .i64 g.1, g_v]), r_v] w0 (fun ee w => ∃ xx : Cmap × Value × Value, ee = .returned ((fun ⟨δ, rv0, rv1⟩ => Value.tuple (List.toArray [Value.agg (List.toArray [Value.int .i64 (((dualR g r).1).1), rv0]), rv1, Value.int .i64 ((dualR g r).2.2)])) xx) ∧ (fun (⟨δ, rv0, rv1⟩ : Cmap × Value × Value) (w : World) => Fresh w0 δ w ∧ Ow δ (is 1) (is 1) w rv0 (((dualR g r).1).2) ∧ Nst δ 2 w rv1 ((dualR g r).2.1)) xx w) := by
 refine calls_of_run Try.func22 rfl (Nat.le_of_ble_eq_true rfl) ?_
 have hbase := Base.start w0
 have r_g_v := hg_v.sl
 have r_r_v := hr_v.sl
 refine run_seq (run_region rfl (l_op rfl ?_))
 refine o_box c0 (is 1) (1, 0) rfl rfl ?_
 intro g4 w1 b3 ch2 bx5
 replace bx5 : Bx g4 (is 1) w1 b3 [Value.int .i64 g.1, g_v] := bx5
 refine l_op rfl ?_
 refine o_alloc g4 (is 2) (2, 0) rfl tp24_da ?_
 intro g9 w6 b8 ch7 bx10
 replace bx10 : Bx g9 (is 2) w6 b8 [Value.int .i64 0, Value.slice none 0 0] := bx10
 refine l_val (v := Value.slice none 0 0) rfl (e_assign rfl) ?_
 refine l_val (v := Value.int .i64 0) rfl (e_assign rfl) ?_
 refine l_nil (run_seq (run_region rfl ?_))
 replace bx5 := bx5.chg ch7 (not_no _)
 refine l_val (v := Value.agg (List.toArray [Value.int .i64 g.1, g_v])) rfl (e_load_bxN (ds := [Value.int .i64 g.1, g_v]) tp24_da rfl bx5 rfl rfl) ?_
 refine l_val (v := r_v) rfl (e_move rfl) ?_
 replace r_g_v := (r_g_v.chg ch2 (not_no _)).chg ch7 (not_no _)
 replace r_r_v := (r_r_v.chg ch2 (not_no _)).chg ch7 (not_no _)
 refine l_op rfl ?_
 refine o_callx (e_call (vals := [Value.agg (List.toArray [Value.int .i64 g.1, g_v]), r_v]) Try.func47 bd47_da nm47_da rfl) (Faces_ok w6 g g_v (r_g_v).ro r r_v (r_r_v).ro) ?_
 rintro ⟨d12, v14⟩ w11 ⟨fr13, o15⟩
 obtain ⟨g16, hg16⟩ : ∃ q, q = glue w6.heap.size g9 d12 (fun n => if n = 1 then 3 else 0) := ⟨_, rfl⟩
 have ch17 := chg_glue fr13.below g9 d12 (fun n => if n = 1 then 3 else 0)
 rw [← hg16] at ch17
 replace o15 := o15.glue (γ := g9) (ren := (fun n => if n = 1 then 3 else 0)) (k := 3) fr13.col rfl rfl
 rw [← hg16] at o15
 clear hg16
 refine l_val (v := Value.tuple (List.toArray [v14, Value.int .i64 ((facesR g r).2)])) rfl (e_move rfl) ?_
 refine l_val (v := v14) rfl (e_extract rfl rfl) ?_
 refine l_val (v := Value.int .i64 ((facesR g r).2)) rfl (e_extract rfl rfl) ?_
 refine l_val (v := v14) rfl (e_assign rfl) ?_
 refine l_val (v := Value.int .i64 ((facesR g r).2)) rfl (e_assign rfl) ?_
 refine l_nil (run_seq (run_seq (run_region rfl ?_)))
 refine l_val (v := Value.int .i64 ((facesR g r).2)) rfl (e_move rfl) ?_
 refine l_val (v := Value.bool (!(decide (((facesR g r).2) = 0)))) rfl (e_neq (m := (facesR g r).2) (n := 0) rfl rfl) ?_
 refine l_nil ?_
 by_cases p2 : ((facesR g r).2) = 0
 ·
  obtain ⟨hm, hrp⟩ := rmay_ok (facesR_may p2)
  have hm0 := hm
  obtain ⟨hm1, hm2, hm3, hm4⟩ := hm0
  have hrl := hrp.1
  have hFe := facesR_yes (rmay_yes hm hrp)
  have hOe := ofR_yes (rmay_yes hm hrp)
  have hFl := facesR_len g r hm hrp
  have hol0 : ((ofR g r).1.length : Int) = 2 * (g.2.length : Int) := by rw [hOe]; exact ofS_len g r
  refine run_cond_f rfl (congrArg Bool.not (decide_eq_true p2)) ?_
  refine run_skip ?_
  refine run_seq (run_region rfl ?_)
  replace bx5 := bx5.chg ch17 (not_no _)
  refine l_val (v := Value.agg (List.toArray [Value.int .i64 g.1, g_v])) rfl (e_load_bxN (ds := [Value.int .i64 g.1, g_v]) tp24_da rfl bx5 rfl rfl) ?_
  refine l_val (v := r_v) rfl (e_move rfl) ?_
  replace r_g_v := r_g_v.chg ch17 (not_no _)
  replace r_r_v := r_r_v.chg ch17 (not_no _)
  refine l_op rfl ?_
  refine o_callx (e_call (vals := [Value.agg (List.toArray [Value.int .i64 g.1, g_v]), r_v]) Try.func54 bd54_da nm54_da rfl) (ROf_ok w11 g g_v (r_g_v).ro r r_v (r_r_v).ro) ?_
  rintro ⟨d19, v21⟩ w18 ⟨fr20, o22⟩
  obtain ⟨g23, hg23⟩ : ∃ q, q = glue w11.heap.size g16 d19 (fun n => if n = 1 then 4 else 0) := ⟨_, rfl⟩
  have ch24 := chg_glue fr20.below g16 d19 (fun n => if n = 1 then 4 else 0)
  rw [← hg23] at ch24
  replace o22 := o22.glue (γ := g16) (ren := (fun n => if n = 1 then 4 else 0)) (k := 4) fr20.col rfl rfl
  rw [← hg23] at o22
  clear hg23
  refine l_val (v := Value.tuple (List.toArray [v21, Value.int .i64 ((ofR g r).2)])) rfl (e_move rfl) ?_
  refine l_val (v := v21) rfl (e_extract rfl rfl) ?_
  refine l_val (v := Value.int .i64 ((ofR g r).2)) rfl (e_extract rfl rfl) ?_
  refine l_val (v := v21) rfl (e_assign rfl) ?_
  refine l_val (v := Value.int .i64 ((ofR g r).2)) rfl (e_assign rfl) ?_
  refine l_nil (run_seq (run_region rfl ?_))
  refine l_val (v := v14) rfl (e_move rfl) ?_
  replace o15 := o15.chg ch24 (not_no _)
  have len25 := (o15.sl).small
  refine l_val (v := Value.int .i64 (List.length ((facesR g r).1) : Int)) rfl (e_len Try.underlying25 rfl o15.sl) ?_
  refine l_val (v := Value.agg (List.toArray [Value.int .i64 (List.length ((facesR g r).1) : Int), Value.slice none 0 0])) rfl (e_build (vs := [(0, Value.int .i64 (List.length ((facesR g r).1) : Int))]) rfl (by kernel_rfl)) ?_
  refine l_op rfl ?_
  refine o_alloc g23 (is 5) (5, 0) rfl tp24_da ?_
  intro g29 w26 b28 ch27 bx30
  replace bx30 : Bx g29 (is 5) w26 b28 [Value.int .i64 0, Value.slice none 0 0] := bx30
  refine l_op rfl ?_
  refine o_store_bx (cs' := [Value.int .i64 (List.length ((facesR g r).1) : Int), Value.slice none 0 0]) tp24_da rfl rfl bx30 rfl (Nat.le_of_ble_eq_true rfl) (AllOne.all (.cons rfl (.cons rfl .nil))) rfl ?_
  intro w31 ch32 bx33
  clear bx30
  refine l_nil (run_seq (run_seq (run_region rfl ?_)))
  refine l_val (v := Value.pointer (some ⟨b3, 1, none⟩)) rfl (e_fieldAddr Try.underlying24 rfl rfl rfl rfl) ?_
  have C34 : Chg (inl [5]) _ _ _ _ := (ch24.n).seq ((ch27.n).seq (ch32.l rfl))
  replace bx5 := bx5.chg C34 (is_nl rfl)
  refine l_val (v := g_v) rfl (e_load_bx1 tp22_da rfl bx5 rfl) ?_
  replace r_g_v := r_g_v.chg C34 (is_nl rfl)
  have len35 := (r_g_v).small
  refine l_val (v := Value.int .i64 (List.length g.2 : Int)) rfl (e_len Try.underlying22 rfl r_g_v) ?_
  refine l_val (v := Value.int .i64 0) rfl (e_move rfl) ?_
  refine l_nil ?_
  refine run_block ?_
  clear bx5
  refine run_loop (σ := Value × (List ((Int) × (Int))) × Nat × Cmap) (fun ⟨d_1_v, d_1, k, gq⟩ f w => Base w0 gq w ∧ f 4 = Value.pointer (some ⟨b8, 0, none⟩) ∧ f 7 = v14 ∧ f 9 = v21 ∧ f 11 = Value.pointer (some ⟨b28, 0, none⟩) ∧ f 36 = Value.int .i64 (List.length g.2 : Int) ∧ f 37 = Value.int .i64 (k : Int) ∧ Sl gq (is 0) w g_v g.2 ∧ Sl gq (is 0) w r_v r ∧ Bx gq (is 2) w b8 [Value.int .i64 0, Value.slice none 0 0] ∧ Nst gq 3 w v14 ((facesR g r).1) ∧ Ow gq (is 4) (is 4) w v21 ((ofR g r).1) ∧ Bx gq (is 5) w b28 [Value.int .i64 (List.length ((facesR g r).1) : Int), d_1_v] ∧ Ow gq (is 7) (is 7) w d_1_v d_1 ∧ (k : Int) ≤ ((List.length g.2 : Int) : Int) ∧ (d_1 = (iotaI k).map (endsS (ofR g r).1))) (fun ⟨d_1_v, d_1, k, gq⟩ => Int.toNat (((List.length g.2 : Int) : Int) - (k : Int))) (Value.slice none 0 0, [], 0, g29) ?_ ?_
  have C36 : Chg (inl [5]) _ _ _ _ := (ch2.n).seq ((ch7.n).seq ((ch17.n).seq ((ch24.n).seq ((ch27.n).seq (ch32.l rfl)))))
  replace hbase := hbase.chg C36 (is_nl rfl)
  replace r_r_v := r_r_v.chg C34 (is_nl rfl)
  have C37 : Chg (inl [5]) _ _ _ _ := (ch17.n).seq ((ch24.n).seq ((ch27.n).seq (ch32.l rfl)))
  replace bx10 := bx10.chg C37 (is_nl rfl)
  replace o15 := (o15.chg ch27 (not_no _)).chg ch32 (is_ne rfl)
  replace o22 := (o22.chg ch27 (not_no _) (not_no _)).chg ch32 (is_ne rfl) (is_ne rfl)
  · exact ⟨hbase, rfl, rfl, rfl, rfl, rfl, rfl, r_g_v, r_r_v, bx10, o15, o22, bx33, Ow.nil, by omega, by rfl⟩
  clear r_g_v
  clear r_r_v
  clear bx10
  clear o15
  clear o22
  clear bx33
  clear hbase
  rintro ⟨d_1_v, d_1, k, g40⟩ f38 w39 ⟨hbase, zs4, zs7, zs9, zs11, zs36, zs37, r_g_v, r_r_v, bx10, o15, o22, bx33, o_d_1, hle_k, hinv⟩ back7
  have hdl : d_1.length = k := by rw [hinv, List.length_map, iota_len]
  refine run_seq (run_region rfl ?_)
  refine l_val (v := Value.bool (decide ((k : Int) < (List.length g.2 : Int)))) rfl (e_lss (m := (k : Int)) (n := (List.length g.2 : Int)) (by exact zs37) (by exact zs36)) ?_
  refine l_nil (run_seq ?_)
  by_cases p7 : (k : Int) < (List.length g.2 : Int)
  ·
   refine run_cond_t rfl (decide_eq_true p7) ?_
   refine run_skip ?_
   refine run_seq ?_
   refine run_block ?_
   refine run_seq (run_region rfl ?_)
   refine l_val (v := Value.int .i64 (k : Int)) rfl (e_move (by exact zs37)) ?_
   refine l_val (v := Value.int .i64 (k : Int)) rfl (e_assign rfl) ?_
   refine l_nil ?_
   refine region_mid (σ := Value × Cmap) (fun ⟨v50, gq⟩ f w => Base w0 gq w ∧ f 4 = Value.pointer (some ⟨b8, 0, none⟩) ∧ f 7 = v14 ∧ f 9 = v21 ∧ f 11 = Value.pointer (some ⟨b28, 0, none⟩) ∧ f 36 = Value.int .i64 (List.length g.2 : Int) ∧ f 37 = Value.int .i64 (k : Int) ∧ Sl gq (is 0) w g_v g.2 ∧ Sl gq (is 0) w r_v r ∧ Bx gq (is 2) w b8 [Value.int .i64 0, Value.slice none 0 0] ∧ Nst gq 3 w v14 ((facesR g r).1) ∧ Ow gq (is 4) (is 4) w v21 ((ofR g r).1) ∧ Ow gq (is 7) (is 7) w v50 (d_1 ++ [(endsS ((ofR g r).1) (k : Int))]) ∧ Bx gq (is 5) w b28 [Value.int .i64 (List.length ((facesR g r).1) : Int), v50]) g40 [0, 2, 3, 7] mixed_da ?_ ?_
   ·
    intro mid
    intro w42 ch41
    refine x_pure (v := Value.pointer (some ⟨b28, 1, none⟩)) 0 rfl (by kernel_rfl) (by kernel_rfl) rfl (fun w => e_fieldAddr Try.underlying24 rfl rfl (by exact zs11) rfl) ?_
    refine x_pure (v := v21) 2 rfl (by kernel_rfl) (by kernel_rfl) rfl (fun w => e_move (by exact zs9)) ?_
    refine x_pure (v := Value.int .i64 (k : Int)) 3 rfl (by kernel_rfl) (by kernel_rfl) rfl (fun w => e_move rfl) ?_
    refine x_two 1 4 rfl rfl (by kernel_rfl) rfl rfl ?_ ?_
    ·
     replace bx33 := bx33.chg ch41 (not_no _)
     refine o_of_val (v := d_1_v) (e_load_bx1 tp22_da rfl bx33 rfl) ?_
     replace o22 := o22.chg ch41 (not_no _) (not_no _)
     refine x_one 4 rfl (by kernel_rfl) rfl ?_
     refine o_call (v := Value.agg (List.toArray [Value.int .i64 ((endsS ((ofR g r).1) (k : Int)).1), Value.int .i64 ((endsS ((ofR g r).1) (k : Int)).2)])) (e_call (vals := [v21, Value.int .i64 (k : Int)]) Try.func67 bd67_da nm67_da rfl) (ends_ok w42 ((ofR g r).1) v21 (o22.flat).ro (k : Int) (by omega) (by omega)) ?_
     intro w43 hb44
     replace hb44 := chg_below hb44 g40
     refine x_one 5 rfl (by kernel_rfl) rfl ?_
     refine o_buildSlice (α := (Int) × (Int)) g40 (is 6) (is 6) (6, 0) rfl [(endsS ((ofR g r).1) (k : Int))] Try.underlying22 tp60_da (by decide) (by decide) (vs := [(0, Value.agg (List.toArray [Value.int .i64 ((endsS ((ofR g r).1) (k : Int)).1), Value.int .i64 ((endsS ((ofR g r).1) (k : Int)).2)]))]) rfl rfl (.cons rfl .nil) ?_
     intro g45 w46 v47 ch48 o49
     refine x_one 6 rfl (by kernel_rfl) rfl ?_
     have C50 : Chg (inl []) _ _ _ _ := (ch41.n).seq ((hb44.n).seq (ch48.n))
     replace o_d_1 := o_d_1.chg C50 (is_nl rfl) (is_nl rfl)
     refine o_append (α := (Int) × (Int)) (xs := d_1) (ys := ([(endsS ((ofR g r).1) (k : Int))])) g45 (J := is 7) (S := is 7) (7, 0) rfl Try.underlying22 tp60_da (by decide) rfl rfl rfl o_d_1 o49.flat (by decide) (by first | omega | (simp; done) | (simp; omega)) ?_
     intro g51 w52 v53 ch54 o55
     clear o_d_1
     refine x_pure (v := Value.pointer (some ⟨b28, 1, none⟩)) 7 rfl (by kernel_rfl) (by kernel_rfl) rfl (fun w => e_fieldAddr Try.underlying24 rfl rfl (by exact zs11) rfl) ?_
     refine x_one 8 rfl (by kernel_rfl) rfl ?_
     have C59 : Chg (inl [7]) _ _ _ _ := (hb44.n).seq ((ch48.n).seq (ch54.l rfl))
     replace bx33 := bx33.chg C59 (is_nl rfl)
     refine o_store_bx1 (cs' := [Value.int .i64 (List.length ((facesR g r).1) : Int), v53]) tp22_da rfl rfl bx33 (sl_cells1 o55.flat) (Nat.le_of_ble_eq_true rfl) (sl_one o55.flat) rfl ?_
     intro w56 ch57 bx58
     clear bx33
     refine x_nil (by kernel_rfl) ?_
     have C60 : Chg (inl [5, 7]) _ _ _ _ := (ch41.n).seq ((hb44.n).seq ((ch48.n).seq ((ch54.l rfl).seq (ch57.l rfl))))
     replace hbase := hbase.chg C60 (is_nl rfl)
     replace r_g_v := r_g_v.chg C60 (is_nl rfl)
     replace r_r_v := r_r_v.chg C60 (is_nl rfl)
     replace bx10 := bx10.chg C60 (is_nl rfl)
     replace o15 := o15.chg C60 (is_nl rfl)
     have C61 : Chg (inl [5, 7]) _ _ _ _ := (hb44.n).seq ((ch48.n).seq ((ch54.l rfl).seq (ch57.l rfl)))
     replace o22 := o22.chg C61 (is_nl rfl) (is_nl rfl)
     replace o55 := o55.chg ch57 (is_ne rfl) (is_ne rfl)
     exact mid (v53, g51) _ _ ⟨hbase, (by exact zs4), (by exact zs7), (by exact zs9), (by exact zs11), (by exact zs36), (by exact zs37), r_g_v, r_r_v, bx10, o15, o22, o55, bx58⟩
    ·
     replace o22 := o22.chg ch41 (not_no _) (not_no _)
     refine o_call (v := Value.agg (List.toArray [Value.int .i64 ((endsS ((ofR g r).1) (k : Int)).1), Value.int .i64 ((endsS ((ofR g r).1) (k : Int)).2)])) (e_call (vals := [v21, Value.int .i64 (k : Int)]) Try.func67 bd67_da nm67_da rfl) (ends_ok w42 ((ofR g r).1) v21 (o22.flat).ro (k : Int) (by omega) (by omega)) ?_
     intro w62 hb63
     replace hb63 := chg_below hb63 g40
     refine x_two 1 5 rfl rfl (by kernel_rfl) rfl rfl ?_ ?_
     ·
      replace bx33 := (bx33.chg ch41 (not_no _)).chg hb63 (not_no _)
      refine o_of_val (v := d_1_v) (e_load_bx1 tp22_da rfl bx33 rfl) ?_
      refine x_one 5 rfl (by kernel_rfl) rfl ?_
      refine o_buildSlice (α := (Int) × (Int)) g40 (is 6) (is 6) (6, 0) rfl [(endsS ((ofR g r).1) (k : Int))] Try.underlying22 tp60_da (by decide) (by decide) (vs := [(0, Value.agg (List.toArray [Value.int .i64 ((endsS ((ofR g r).1) (k : Int)).1), Value.int .i64 ((endsS ((ofR g r).1) (k : Int)).2)]))]) rfl rfl (.cons rfl .nil) ?_
      intro g64 w65 v66 ch67 o68
      refine x_one 6 rfl (by kernel_rfl) rfl ?_
      have C69 : Chg (inl []) _ _ _ _ := (ch41.n).seq ((hb63.n).seq (ch67.n))
      replace o_d_1 := o_d_1.chg C69 (is_nl rfl) (is_nl rfl)
      refine o_append (α := (Int) × (Int)) (xs := d_1) (ys := ([(endsS ((ofR g r).1) (k : Int))])) g64 (J := is 7) (S := is 7) (7, 0) rfl Try.underlying22 tp60_da (by decide) rfl rfl rfl o_d_1 o68.flat (by decide) (by first | omega | (simp; done) | (simp; omega)) ?_
      intro g70 w71 v72 ch73 o74
      clear o_d_1
      refine x_pure (v := Value.pointer (some ⟨b28, 1, none⟩)) 7 rfl (by kernel_rfl) (by kernel_rfl) rfl (fun w => e_fieldAddr Try.underlying24 rfl rfl (by exact zs11) rfl) ?_
      refine x_one 8 rfl (by kernel_rfl) rfl ?_
      replace bx33 := (bx33.chg ch67 (not_no _)).chg ch73 (is_ne rfl)
      refine o_store_bx1 (cs' := [Value.int .i64 (List.length ((facesR g r).1) : Int), v72]) tp22_da rfl rfl bx33 (sl_cells1 o74.flat) (Nat.le_of_ble_eq_true rfl) (sl_one o74.flat) rfl ?_
      intro w75 ch76 bx77
      clear bx33
      refine x_nil (by kernel_rfl) ?_
      have C78 : Chg (inl [5, 7]) _ _ _ _ := (ch41.n).seq ((hb63.n).seq ((ch67.n).seq ((ch73.l rfl).seq (ch76.l rfl))))
      replace hbase := hbase.chg C78 (is_nl rfl)
      replace r_g_v := r_g_v.chg C78 (is_nl rfl)
      replace r_r_v := r_r_v.chg C78 (is_nl rfl)
      replace bx10 := bx10.chg C78 (is_nl rfl)
      replace o15 := o15.chg C78 (is_nl rfl)
      have C79 : Chg (inl [5, 7]) _ _ _ _ := (hb63.n).seq ((ch67.n).seq ((ch73.l rfl).seq (ch76.l rfl)))
      replace o22 := o22.chg C79 (is_nl rfl) (is_nl rfl)
      replace o74 := o74.chg ch76 (is_ne rfl) (is_ne rfl)
      exact mid (v72, g70) _ _ ⟨hbase, (by exact zs4), (by exact zs7), (by exact zs9), (by exact zs11), (by exact zs36), (by exact zs37), r_g_v, r_r_v, bx10, o15, o22, o74, bx77⟩
     ·
      refine o_buildSlice (α := (Int) × (Int)) g40 (is 6) (is 6) (6, 0) rfl [(endsS ((ofR g r).1) (k : Int))] Try.underlying22 tp60_da (by decide) (by decide) (vs := [(0, Value.agg (List.toArray [Value.int .i64 ((endsS ((ofR g r).1) (k : Int)).1), Value.int .i64 ((endsS ((ofR g r).1) (k : Int)).2)]))]) rfl rfl (.cons rfl .nil) ?_
      intro g80 w81 v82 ch83 o84
      have C85 : Chg (inl []) _ _ _ _ := (ch41.n).seq ((hb63.n).seq (ch83.n))
      replace bx33 := bx33.chg C85 (is_nl rfl)
      refine x_one 1 rfl (by kernel_rfl) rfl ?_
      refine o_of_val (v := d_1_v) (e_load_bx1 tp22_da rfl bx33 rfl) ?_
      refine x_one 6 rfl (by kernel_rfl) rfl ?_
      replace o_d_1 := o_d_1.chg C85 (is_nl rfl) (is_nl rfl)
      refine o_append (α := (Int) × (Int)) (xs := d_1) (ys := ([(endsS ((ofR g r).1) (k : Int))])) g80 (J := is 7) (S := is 7) (7, 0) rfl Try.underlying22 tp60_da (by decide) rfl rfl rfl o_d_1 o84.flat (by decide) (by first | omega | (simp; done) | (simp; omega)) ?_
      intro g86 w87 v88 ch89 o90
      clear o_d_1
      refine x_pure (v := Value.pointer (some ⟨b28, 1, none⟩)) 7 rfl (by kernel_rfl) (by kernel_rfl) rfl (fun w => e_fieldAddr Try.underlying24 rfl rfl (by exact zs11) rfl) ?_
      refine x_one 8 rfl (by kernel_rfl) rfl ?_
      replace bx33 := bx33.chg ch89 (is_ne rfl)
      refine o_store_bx1 (cs' := [Value.int .i64 (List.length ((facesR g r).1) : Int), v88]) tp22_da rfl rfl bx33 (sl_cells1 o90.flat) (Nat.le_of_ble_eq_true rfl) (sl_one o90.flat) rfl ?_
      intro w91 ch92 bx93
      clear bx33
      refine x_nil (by kernel_rfl) ?_
      have C94 : Chg (inl [5, 7]) _ _ _ _ := (ch41.n).seq ((hb63.n).seq ((ch83.n).seq ((ch89.l rfl).seq (ch92.l rfl))))
      replace hbase := hbase.chg C94 (is_nl rfl)
      replace r_g_v := r_g_v.chg C94 (is_nl rfl)
      replace r_r_v := r_r_v.chg C94 (is_nl rfl)
      replace bx10 := bx10.chg C94 (is_nl rfl)
      replace o15 := o15.chg C94 (is_nl rfl)
      have C95 : Chg (inl [5, 7]) _ _ _ _ := (hb63.n).seq ((ch83.n).seq ((ch89.l rfl).seq (ch92.l rfl)))
      replace o22 := o22.chg C95 (is_nl rfl) (is_nl rfl)
      replace o90 := o90.chg ch92 (is_ne rfl) (is_ne rfl)
      exact mid (v88, g86) _ _ ⟨hbase, (by exact zs4), (by exact zs7), (by exact zs9), (by exact zs11), (by exact zs36), (by exact zs37), r_g_v, r_r_v, bx10, o15, o22, o90, bx93⟩
   clear r_g_v
   clear r_r_v
   clear bx10
   clear o15
   clear o22
   clear bx33
   clear o_d_1
   clear hbase
   rintro ⟨v50, g98⟩ f96 w97 ⟨hbase, zs4, zs7, zs9, zs11, zs36, zs37, r_g_v, r_r_v, bx10, o15, o22, o52, bx55⟩
   refine run_inBlock ?_
   refine run_region rfl ?_
   refine l_val (v := Value.int .i64 ((k : Int) + 1)) rfl (e_add (m := (k : Int)) (n := 1) (by exact zs37) rfl (by omega)) ?_
   refine l_val (v := Value.int .i64 ((k : Int) + 1)) rfl (e_move rfl) ?_
   refine l_nil ?_
   refine back7 (v50, (d_1 ++ [(endsS ((ofR g r).1) (k : Int))]), k + 1, g98) _ _ ⟨hbase, (by exact zs4), (by exact zs7), (by exact zs9), (by exact zs11), (by exact zs36), rfl, r_g_v, r_r_v, bx10, o15, o22, bx55, o52, by omega, ?_⟩ ?_
   · show (d_1 ++ [(endsS ((ofR g r).1) (k : Int))]) = (iotaI (k + 1)).map (endsS (ofR g r).1)
     rw [iota_succ, List.map_append, ← hinv]; rfl
   · show Int.toNat (((List.length g.2 : Int) : Int) - ((k + 1) : Int)) < Int.toNat (((List.length g.2 : Int) : Int) - (k : Int))
     omega
  refine run_cond_f rfl (decide_eq_false p7) ?_
  refine run_exit rfl ?_
  refine run_seq (run_seq ?_)
  clear o22
  have hdn : ((List.length (facesR g r).1 : Int), d_1) = dualN g r := by rw [hinv, show k = g.2.length by omega]; rfl
  refine run_region rfl ?_
  refine l_val (v := Value.agg (List.toArray [Value.int .i64 (List.length ((facesR g r).1) : Int), d_1_v])) rfl (e_load_bxN (ds := [Value.int .i64 (List.length ((facesR g r).1) : Int), d_1_v]) tp24_da (by exact zs11) bx33 rfl rfl) ?_
  refine l_op rfl ?_
  refine o_call (v := Value.bool (mayB ((List.length ((facesR g r).1) : Int), d_1))) (e_call (vals := [Value.agg (List.toArray [Value.int .i64 (List.length ((facesR g r).1) : Int), d_1_v])]) Try.func53 bd53_da nm53_da rfl) (May_ok w39 ((List.length ((facesR g r).1) : Int), d_1) d_1_v (o_d_1.flat).ro) ?_
  intro w99 hb100
  replace hb100 := chg_below hb100 g40
  refine l_val (v := Value.bool (!(mayB ((List.length ((facesR g r).1) : Int), d_1)))) rfl (e_not (b := (mayB ((List.length ((facesR g r).1) : Int), d_1))) rfl) ?_
  refine l_nil ?_
  by_cases p11 : (mayB ((List.length ((facesR g r).1) : Int), d_1)) = true
  ·
   have p11d := p11
   rw [hdn] at p11d
   have hdm := of_decide_eq_true p11d
   refine run_cond_f rfl (congrArg Bool.not p11) ?_
   refine run_skip ?_
   refine run_seq (run_region rfl ?_)
   replace bx33 := bx33.chg hb100 (not_no _)
   refine l_val (v := Value.agg (List.toArray [Value.int .i64 (List.length ((facesR g r).1) : Int), d_1_v])) rfl (e_load_bxN (ds := [Value.int .i64 (List.length ((facesR g r).1) : Int), d_1_v]) tp24_da (by exact zs11) bx33 rfl rfl) ?_
   refine l_val (v := v14) rfl (e_move (by exact zs7)) ?_
   replace o_d_1 := o_d_1.chg hb100 (not_no _) (not_no _)
   replace o15 := o15.chg hb100 (not_no _)
   refine l_op rfl ?_
   refine o_callx (e_call (vals := [Value.agg (List.toArray [Value.int .i64 (List.length ((facesR g r).1) : Int), d_1_v]), v14]) Try.func55 bd55_da nm55_da rfl) (RCanon_ok w99 ((List.length ((facesR g r).1) : Int), d_1) d_1_v (o_d_1.flat).ro ((facesR g r).1) v14 (o15.sl).ro) ?_
   rintro ⟨d102, v104⟩ w101 ⟨fr103, o105⟩
   obtain ⟨g106, hg106⟩ : ∃ q, q = glue w99.heap.size g40 d102 (fun n => if n = 1 then 8 else 0) := ⟨_, rfl⟩
   have ch107 := chg_glue fr103.below g40 d102 (fun n => if n = 1 then 8 else 0)
   rw [← hg106] at ch107
   replace o105 := o105.glue (γ := g40) (ren := (fun n => if n = 1 then 8 else 0)) (k := 8) fr103.col rfl rfl
   rw [← hg106] at o105
   clear hg106
   refine l_val (v := Value.tuple (List.toArray [v104, Value.int .i64 ((canonR ((List.length ((facesR g r).1) : Int), d_1) ((facesR g r).1)).2)])) rfl (e_move rfl) ?_
   refine l_val (v := v104) rfl (e_extract rfl rfl) ?_
   refine l_val (v := Value.int .i64 ((canonR ((List.length ((facesR g r).1) : Int), d_1) ((facesR g r).1)).2)) rfl (e_extract rfl rfl) ?_
   refine l_val (v := v104) rfl (e_assign rfl) ?_
   refine l_val (v := Value.int .i64 ((canonR ((List.length ((facesR g r).1) : Int), d_1) ((facesR g r).1)).2)) rfl (e_assign rfl) ?_
   refine l_nil (run_seq ?_)
   clear o15
   refine run_region rfl ?_
   replace bx33 := bx33.chg ch107 (not_no _)
   refine l_val (v := Value.agg (List.toArray [Value.int .i64 (List.length ((facesR g r).1) : Int), d_1_v])) rfl (e_load_bxN (ds := [Value.int .i64 (List.length ((facesR g r).1) : Int), d_1_v]) tp24_da (by exact zs11) bx33 rfl rfl) ?_
   refine l_val (v := v104) rfl (e_move rfl) ?_
   refine l_op rfl ?_
   replace bx10 := (bx10.chg hb100 (not_no _)).chg ch107 (not_no _)
   replace o_d_1 := o_d_1.chg ch107 (not_no _) (not_no _)
   refine o_store_bx (cs' := [Value.int .i64 (List.length ((facesR g r).1) : Int), d_1_v]) tp24_da (by exact zs4) rfl bx10 rfl (Nat.le_of_ble_eq_true rfl) (AllOne.all (.cons rfl (.cons (sl_one o_d_1.flat) .nil))) rfl ?_
   intro w108 ch109 bx110
   clear bx10
   refine l_val (v := v104) rfl (e_assign rfl) ?_
   refine l_val (v := Value.int .i64 0) rfl (e_assign rfl) ?_
   refine l_nil ?_
   refine run_ret (vs := [Value.agg (List.toArray [Value.int .i64 (List.length ((facesR g r).1) : Int), d_1_v]), v104, Value.int .i64 0]) Try.func22 (.cell (by exact zs4) (load_bxN (ds := [Value.int .i64 (List.length ((facesR g r).1) : Int), d_1_v]) tp24_da bx110 rfl rfl) (.tmp rfl (.tmp rfl .nil))) ?_
   -- return 0
   have C111 : Chg (inl [2]) _ _ _ _ := (hb100.n).seq ((ch107.n).seq (ch109.l rfl))
   replace hbase := hbase.chg C111 (is_nl rfl)
   replace o_d_1 := o_d_1.chg ch109 (is_ne rfl) (is_ne rfl)
   replace o105 := o105.chg ch109 (is_ne rfl)
   have e0 : (((List.length ((facesR g r).1) : Int), d_1) : (Int) × (List ((Int) × (Int)))) = ((dualR g r).1) := by
     first
       | (simp only [dualR, if_neg (show ¬ (facesR g r).2 = 0 by assumption)]; done)
       | (simp only [dualR, if_pos (show (facesR g r).2 = 0 by assumption), if_neg hdm]; done)
       | (simp only [dualR, if_pos (show (facesR g r).2 = 0 by assumption), if_pos hdm, hdn]; done)
       | (rw [hdn]; simp only [dualR, if_pos (show (facesR g r).2 = 0 by assumption), if_pos hdm]; done)
   have e1 : ((canonR ((List.length ((facesR g r).1) : Int), d_1) ((facesR g r).1)).1 : List (List Int)) = ((dualR g r).2.1) := by
     first
       | (simp only [dualR, if_neg (show ¬ (facesR g r).2 = 0 by assumption)]; done)
       | (simp only [dualR, if_pos (show (facesR g r).2 = 0 by assumption), if_neg hdm]; done)
       | (simp only [dualR, if_pos (show (facesR g r).2 = 0 by assumption), if_pos hdm, hdn]; done)
       | (rw [hdn]; simp only [dualR, if_pos (show (facesR g r).2 = 0 by assumption), if_pos hdm]; done)
   have e2 : (0 : Int) = ((dualR g r).2.2) := by
     first
       | (simp only [dualR, if_neg (show ¬ (facesR g r).2 = 0 by assumption)]; done)
       | (simp only [dualR, if_pos (show (facesR g r).2 = 0 by assumption), if_neg hdm]; done)
       | (simp only [dualR, if_pos (show (facesR g r).2 = 0 by assumption), if_pos hdm, hdn]; done)
       | (rw [hdn]; simp only [dualR, if_pos (show (facesR g r).2 = 0 by assumption), if_pos hdm]; done)
   exact ⟨(fin w0 g106 (fun n => if n = 7 then 1 else if n = 8 then 2 else 0), d_1_v, v104), (congr3 (a := ((List.length ((facesR g r).1) : Int), d_1)) (b := (canonR ((List.length ((facesR g r).1) : Int), d_1) ((facesR g r).1)).1) (c := 0) (fun (z0 : (Int) × (List ((Int) × (Int)))) (z1 : List (List Int)) (z2 : Int) => Ending.returned (Value.tuple (List.toArray [Value.agg (List.toArray [Value.int .i64 z0.1, d_1_v]), v104, Value.int .i64 z2]))) e0 e1 e2), hbase.fresh _, ((congrArg (fun (z : (Int) × (List ((Int) × (Int)))) => z.2) e0) ▸ (o_d_1.glue (γ := c0) (ren := (fun n => if n = 7 then 1 else if n = 8 then 2 else 0)) (k := 1) hbase.col rfl rfl)), (e1 ▸ (o105.glue (γ := c0) (ren := (fun n => if n = 7 then 1 else if n = 8 then 2 else 0)) (k := 2) hbase.col rfl rfl))⟩
  have p11d := p11
  rw [hdn] at p11d
  have hdm : ¬ MayP (dualN g r) := fun h => p11d (decide_eq_true h)
  refine run_cond_t rfl (congrArg Bool.not (Bool.eq_false_iff.2 p11)) ?_
  refine run_seq ?_
  clear o15
  clear bx33
  clear o_d_1
  refine run_region rfl ?_
  refine l_val (v := Value.agg (List.toArray [Value.int .i64 0, Value.slice none 0 0])) rfl (e_build (vs := []) rfl (by kernel_rfl)) ?_
  refine l_op rfl ?_
  replace bx10 := bx10.chg hb100 (not_no _)
  refine o_store_bx (cs' := [Value.int .i64 0, Value.slice none 0 0]) tp24_da (by exact zs4) rfl bx10 rfl (Nat.le_of_ble_eq_true rfl) (AllOne.all (.cons rfl (.cons rfl .nil))) rfl ?_
  intro w112 ch113 bx114
  clear bx10
  refine l_val (v := Value.slice none 0 0) rfl (e_assign rfl) ?_
  refine l_val (v := Value.int .i64 3) rfl (e_assign rfl) ?_
  refine l_nil ?_
  refine run_ret (vs := [Value.agg (List.toArray [Value.int .i64 0, Value.slice none 0 0]), Value.slice none 0 0, Value.int .i64 3]) Try.func22 (.cell (by exact zs4) (load_bxN (ds := [Value.int .i64 0, Value.slice none 0 0]) tp24_da bx114 rfl rfl) (.tmp rfl (.tmp rfl .nil))) ?_
  -- return 1
  replace hbase := hbase.chg hb100 (not_no _)
  replace hbase := hbase.chg ch113 (is_ne rfl)
  have e0 : ((0, []) : (Int) × (List ((Int) × (Int)))) = ((dualR g r).1) := by
    first
      | (simp only [dualR, if_neg (show ¬ (facesR g r).2 = 0 by assumption)]; done)
      | (simp only [dualR, if_pos (show (facesR g r).2 = 0 by assumption), if_neg hdm]; done)
      | (simp only [dualR, if_pos (show (facesR g r).2 = 0 by assumption), if_pos hdm, hdn]; done)
      | (rw [hdn]; simp only [dualR, if_pos (show (facesR g r).2 = 0 by assumption), if_pos hdm]; done)
  have e1 : ([] : List (List Int)) = ((dualR g r).2.1) := by
    first
      | (simp only [dualR, if_neg (show ¬ (facesR g r).2 = 0 by assumption)]; done)
      | (simp only [dualR, if_pos (show (facesR g r).2 = 0 by assumption), if_neg hdm]; done)
      | (simp only [dualR, if_pos (show (facesR g r).2 = 0 by assumption), if_pos hdm, hdn]; done)
      | (rw [hdn]; simp only [dualR, if_pos (show (facesR g r).2 = 0 by assumption), if_pos hdm]; done)
  have e2 : (3 : Int) = ((dualR g r).2.2) := by
    first
      | (simp only [dualR, if_neg (show ¬ (facesR g r).2 = 0 by assumption)]; done)
      | (simp only [dualR, if_pos (show (facesR g r).2 = 0 by assumption), if_neg hdm]; done)
      | (simp only [dualR, if_pos (show (facesR g r).2 = 0 by assumption), if_pos hdm, hdn]; done)
      | (rw [hdn]; simp only [dualR, if_pos (show (facesR g r).2 = 0 by assumption), if_pos hdm]; done)
  exact ⟨(fin w0 g40 (fun n => 0), (Value.slice none 0 0), (Value.slice none 0 0)), (congr3 (a := (0, [])) (b := []) (c := 3) (fun (z0 : (Int) × (List ((Int) × (Int)))) (z1 : List (List Int)) (z2 : Int) => Ending.returned (Value.tuple (List.toArray [Value.agg (List.toArray [Value.int .i64 z0.1, Value.slice none 0 0]), Value.slice none 0 0, Value.int .i64 z2]))) e0 e1 e2), hbase.fresh _, ((congrArg (fun (z : (Int) × (List ((Int) × (Int)))) => z.2) e0) ▸ Ow.nil), (e1 ▸ Nst.nil)⟩
 refine run_cond_t rfl (congrArg Bool.not (decide_eq_false p2)) ?_
 refine run_seq ?_
 clear bx5
 clear o15
 refine run_region rfl ?_
 refine l_val (v := Value.agg (List.toArray [Value.int .i64 0, Value.slice none 0 0])) rfl (e_build (vs := []) rfl (by kernel_rfl)) ?_
 refine l_val (v := Value.int .i64 ((facesR g r).2)) rfl (e_move rfl) ?_
 refine l_op rfl ?_
 replace bx10 := bx10.chg ch17 (not_no _)
 refine o_store_bx (cs' := [Value.int .i64 0, Value.slice none 0 0]) tp24_da rfl rfl bx10 rfl (Nat.le_of_ble_eq_true rfl) (AllOne.all (.cons rfl (.cons rfl .nil))) rfl ?_
 intro w115 ch116 bx117
 clear bx10
 refine l_val (v := Value.slice none 0 0) rfl (e_assign rfl) ?_
 refine l_val (v := Value.int .i64 ((facesR g r).2)) rfl (e_assign rfl) ?_
 refine l_nil ?_
 refine run_ret (vs := [Value.agg (List.toArray [Value.int .i64 0, Value.slice none 0 0]), Value.slice none 0 0, Value.int .i64 ((facesR g r).2)]) Try.func22 (.cell rfl (load_bxN (ds := [Value.int .i64 0, Value.slice none 0 0]) tp24_da bx117 rfl rfl) (.tmp rfl (.tmp rfl .nil))) ?_
 -- return 2
 have C118 : Chg (inl [2]) _ _ _ _ := (ch2.n).seq ((ch7.n).seq ((ch17.n).seq (ch116.l rfl)))
 replace hbase := hbase.chg C118 (is_nl rfl)
 have e0 : ((0, []) : (Int) × (List ((Int) × (Int)))) = ((dualR g r).1) := by
   first
     | (simp only [dualR, if_neg (show ¬ (facesR g r).2 = 0 by assumption)]; done)
     | (simp only [dualR, if_pos (show (facesR g r).2 = 0 by assumption), if_neg hdm]; done)
     | (simp only [dualR, if_pos (show (facesR g r).2 = 0 by assumption), if_pos hdm, hdn]; done)
     | (rw [hdn]; simp only [dualR, if_pos (show (facesR g r).2 = 0 by assumption), if_pos hdm]; done)
 have e1 : ([] : List (List Int)) = ((dualR g r).2.1) := by
   first
     | (simp only [dualR, if_neg (show ¬ (facesR g r).2 = 0 by assumption)]; done)
     | (simp only [dualR, if_pos (show (facesR g r).2 = 0 by assumption), if_neg hdm]; done)
     | (simp only [dualR, if_pos (show (facesR g r).2 = 0 by assumption), if_pos hdm, hdn]; done)
     | (rw [hdn]; simp only [dualR, if_pos (show (facesR g r).2 = 0 by assumption), if_pos hdm]; done)
 have e2 : ((facesR g r).2 : Int) = ((dualR g r).2.2) := by
   first
     | (simp only [dualR, if_neg (show ¬ (facesR g r).2 = 0 by assumption)]; done)
     | (simp only [dualR, if_pos (show (facesR g r).2 = 0 by assumption), if_neg hdm]; done)
     | (simp only [dualR, if_pos (show (facesR g r).2 = 0 by assumption), if_pos hdm, hdn]; done)
     | (rw [hdn]; simp only [dualR, if_pos (show (facesR g r).2 = 0 by assumption), if_pos hdm]; done)
 exact ⟨(fin w0 g16 (fun n => 0), (Value.slice none 0 0), (Value.slice none 0 0)), (congr3 (a := (0, [])) (b := []) (c := (facesR g r).2) (fun (z0 : (Int) × (List ((Int) × (Int)))) (z1 : List (List Int)) (z2 : Int) => Ending.returned (Value.tuple (List.toArray [Value.agg (List.toArray [Value.int .i64 z0.1, Value.slice none 0 0]), Value.slice none 0 0, Value.int .i64 z2]))) e0 e1 e2), hbase.fresh _, ((congrArg (fun (z : (Int) × (List ((Int) × (Int)))) => z.2) e0) ▸ Ow.nil), (e1 ▸ Nst.nil)⟩
theorem Contains_ok (w0 : World) (s : List Int) (s_v : Value) (hs_v : Ro w0 s_v s) (v : Int) :
    Calls Try.prog 96 #[s_v, Value.int .i64 v] w0 (fun ee w => ee = .returned (Value.bool (decide (v ∈ s))) ∧ Bel w0.heap.size w0 w) := by
 refine calls_of_run Try.func96 rfl (Nat.le_of_ble_eq_true rfl) ?_
 have hbase := Base.start w0
 have r_s_v := hs_v.sl
 refine run_seq (run_region rfl ?_)
 refine l_val (v := Value.bool false) rfl (e_assign rfl) ?_
 refine l_nil (run_seq (run_region rfl ?_))
 refine l_val (v := s_v) rfl (e_move rfl) ?_
 refine l_val (v := Value.int .i64 v) rfl (e_move rfl) ?_
 refine l_op rfl ?_
 refine o_call (v := Value.int .i64 (idxS s v)) (e_call (vals := [s_v, Value.int .i64 v]) Try.func71 bd71_da nm71_da rfl) (Index_ok w0 s s_v (r_s_v).ro v) ?_
 intro w1 hb2
 replace hb2 := chg_below hb2 c0
 refine l_val (v := Value.bool (decide (0 ≤ (idxS s v)))) rfl (e_geq (m := idxS s v) (n := 0) rfl rfl) ?_
 refine l_val (v := Value.bool (decide (0 ≤ (idxS s v)))) rfl (e_assign rfl) ?_
 refine l_nil ?_
 refine run_ret (vs := [Value.bool (decide (0 ≤ (idxS s v)))]) Try.func96 (.tmp rfl .nil) ?_
 -- return 0
 have e0 : (decide (0 ≤ (idxS s v)) : Bool) = (decide (v ∈ s)) := by
   exact cont_idx
 replace hbase := hbase.chg hb2 (not_no _)
 exact ⟨(congrArg (a₁ := decide (0 ≤ (idxS s v))) (fun (z0 : Bool) => Ending.returned (Value.bool z0)) e0), hbase.below⟩
theorem corner_ok (w0 : World) (g : (Int) × (List ((Int) × (Int)))) (g_v : Value) (hg_v : Ro w0 g_v g.2) (r : List (List Int)) (r_v : Value) (hr_v : Ro w0 r_v r) (c : (Int) × (Int)) (hmay : MayP g) (hr : RotP g r) :
    Calls Try.prog 73 #[Value.agg (List.toArray [Value.int .i64 g.1, g_v]), r_v, Value.agg (List.toArray [Value.int .i64 c.1, Value.int .i64 c.2])] w0 (fun ee w => ee = .returned (Value.bool (decide (cornP g r c))) ∧ Bel w0.heap.size w0 w) := by
 refine calls_of_run Try.func73 rfl (Nat.le_of_ble_eq_true rfl) ?_
 have hbase := Base.start w0
 have r_g_v := hg_v.sl
 have r_r_v := hr_v.sl
 have hm0 := hmay
 obtain ⟨hm1, hm2, hm3, hm4⟩ := hm0
 have hrl := hr.1
 refine run_seq (run_region rfl (l_op rfl ?_))
 refine o_box c0 (is 1) (1, 0) rfl rfl ?_
 intro g4 w1 b3 ch2 bx5
 replace bx5 : Bx g4 (is 1) w1 b3 [Value.int .i64 g.1, g_v] := bx5
 refine l_op rfl ?_
 refine o_box g4 (is 2) (2, 0) rfl rfl ?_
 intro g9 w6 b8 ch7 bx10
 replace bx10 : Bx g9 (is 2) w6 b8 [Value.int .i64 c.1, Value.int .i64 c.2] := bx10
 refine l_val (v := Value.bool false) rfl (e_assign rfl) ?_
 refine l_nil (run_seq (run_seq (run_region rfl ?_)))
 refine l_val (v := Value.pointer (some ⟨b8, 0, none⟩)) rfl (e_fieldAddr Try.underlying55 rfl rfl rfl rfl) ?_
 refine l_val (v := Value.int .i64 c.1) rfl (e_load_bx1 tp3_da rfl bx10 rfl) ?_
 refine l_val (v := Value.bool (decide (c.1 < 0))) rfl (e_lss (m := c.1) (n := 0) rfl rfl) ?_
 refine l_val (v := Value.bool (decide (c.1 < 0))) rfl (e_move rfl) ?_
 by_cases q10 : c.1 < 0
 ·
  refine l_skip (want_n rfl rfl rfl (decide_eq_true q10)) ?_
  refine l_skip (want_n rfl rfl rfl (decide_eq_true q10)) ?_
  refine l_skip (want_n rfl rfl rfl (decide_eq_true q10)) ?_
  refine l_skip (want_n rfl rfl rfl (decide_eq_true q10)) ?_
  refine l_skip (want_n rfl rfl rfl (decide_eq_true q10)) ?_
  refine l_val (v := Value.bool true) rfl (e_pick_t rfl (decide_eq_true q10) rfl) ?_
  refine l_nil ?_
  refine run_cond_t rfl rfl ?_
  refine run_seq ?_
  clear bx5
  clear bx10
  refine run_region rfl ?_
  refine l_val (v := Value.bool false) rfl (e_assign rfl) ?_
  refine l_nil ?_
  refine run_ret (vs := [Value.bool false]) Try.func73 (.tmp rfl .nil) ?_
  -- return 0
  have e0 : (false : Bool) = (decide (cornP g r c)) := by
    first
      | exact corn_no (by omega)
      | exact corn_empty (by omega) (by assumption)
      | exact corn_in (by omega) (by assumption)
  replace hbase := hbase.chg ch2 (not_no _)
  replace hbase := hbase.chg ch7 (not_no _)
  exact ⟨(congrArg (a₁ := false) (fun (z0 : Bool) => Ending.returned (Value.bool z0)) e0), hbase.below⟩
 refine l_val (v := Value.pointer (some ⟨b8, 0, none⟩)) (want_y rfl rfl rfl (decide_eq_false q10)) (e_fieldAddr Try.underlying55 rfl rfl rfl rfl) ?_
 refine l_val (v := Value.int .i64 c.1) (want_y rfl rfl rfl (decide_eq_false q10)) (e_load_bx1 tp3_da rfl bx10 rfl) ?_
 refine l_val (v := Value.pointer (some ⟨b3, 0, none⟩)) (want_y rfl rfl rfl (decide_eq_false q10)) (e_fieldAddr Try.underlying24 rfl rfl rfl rfl) ?_
 replace bx5 := bx5.chg ch7 (not_no _)
 refine l_val (v := Value.int .i64 g.1) (want_y rfl rfl rfl (decide_eq_false q10)) (e_load_bx1 tp3_da rfl bx5 rfl) ?_
 refine l_val (v := Value.bool (decide (g.1 ≤ c.1))) (want_y rfl rfl rfl (decide_eq_false q10)) (e_geq (m := c.1) (n := g.1) rfl rfl) ?_
 refine l_val (v := Value.bool (decide (g.1 ≤ c.1))) rfl (e_pick_f rfl (decide_eq_false q10) rfl) ?_
 refine l_nil ?_
 by_cases p1 : g.1 ≤ c.1
 ·
  refine run_cond_t rfl (decide_eq_true p1) ?_
  refine run_seq ?_
  clear bx5
  clear bx10
  refine run_region rfl ?_
  refine l_val (v := Value.bool false) rfl (e_assign rfl) ?_
  refine l_nil ?_
  refine run_ret (vs := [Value.bool false]) Try.func73 (.tmp rfl .nil) ?_
  -- return 1
  have e0 : (false : Bool) = (decide (cornP g r c)) := by
    first
      | exact corn_no (by omega)
      | exact corn_empty (by omega) (by assumption)
      | exact corn_in (by omega) (by assumption)
  replace hbase := hbase.chg ch2 (not_no _)
  replace hbase := hbase.chg ch7 (not_no _)
  exact ⟨(congrArg (a₁ := false) (fun (z0 : Bool) => Ending.returned (Value.bool z0)) e0), hbase.below⟩
 refine run_cond_f rfl (decide_eq_false p1) ?_
 refine run_skip ?_
 refine run_seq (run_seq ?_)
 clear bx5
 refine run_region rfl ?_
 refine l_val (v := r_v) rfl (e_move rfl) ?_
 refine l_val (v := Value.pointer (some ⟨b8, 0, none⟩)) rfl (e_fieldAddr Try.underlying55 rfl rfl rfl rfl) ?_
 refine l_val (v := Value.int .i64 c.1) rfl (e_load_bx1 tp3_da rfl bx10 rfl) ?_
 replace r_r_v := (r_r_v.chg ch2 (not_no _)).chg ch7 (not_no _)
 refine l_val (v := Value.pointer (some (eAddr r_v 1 (Int.toNat c.1)))) rfl (e_indexAddr (α := List Int) (xs := r) (v := r_v) (i := c.1) Try.underlying26 rfl rfl r_r_v rfl (by omega) (by omega)) ?_
 obtain ⟨v11, cel12, r13⟩ := sl_row (r := c.1) r_r_v (by omega) (by omega)
 refine l_val (v := v11) rfl (e_load1 tp27_da rfl cel12) ?_
 have len14 := (r13).small
 refine l_val (v := Value.int .i64 (List.length (gI r c.1) : Int)) rfl (e_len Try.underlying27 rfl r13) ?_
 refine l_val (v := Value.bool (decide ((List.length (gI r c.1) : Int) = 0))) rfl (e_eql (m := (List.length (gI r c.1) : Int)) (n := 0) rfl rfl) ?_
 refine l_nil ?_
 by_cases p3 : (List.length (gI r c.1) : Int) = 0
 ·
  refine run_cond_t rfl (decide_eq_true p3) ?_
  refine run_seq ?_
  clear r13
  refine run_region rfl ?_
  refine l_val (v := Value.pointer (some ⟨b8, 1, none⟩)) rfl (e_fieldAddr Try.underlying55 rfl rfl rfl rfl) ?_
  refine l_val (v := Value.int .i64 c.2) rfl (e_load_bx1 tp3_da rfl bx10 rfl) ?_
  refine l_val (v := Value.bool (decide (c.2 = (-1)))) rfl (e_eql (m := c.2) (n := -1) rfl rfl) ?_
  refine l_val (v := Value.bool (decide (c.2 = (-1)))) rfl (e_assign rfl) ?_
  refine l_nil ?_
  refine run_ret (vs := [Value.bool (decide (c.2 = (-1)))]) Try.func73 (.tmp rfl .nil) ?_
  -- return 2
  have e0 : (decide (c.2 = (-1)) : Bool) = (decide (cornP g r c)) := by
    first
      | exact corn_no (by omega)
      | exact corn_empty (by omega) (by assumption)
      | exact corn_in (by omega) (by assumption)
  replace hbase := hbase.chg ch2 (not_no _)
  replace hbase := hbase.chg ch7 (not_no _)
  exact ⟨(congrArg (a₁ := decide (c.2 = (-1))) (fun (z0 : Bool) => Ending.returned (Value.bool z0)) e0), hbase.below⟩
 refine run_cond_f rfl (decide_eq_false p3) ?_
 refine run_skip ?_
 refine run_seq ?_
 clear r13
 refine region_q g9 rfl mixed_da (by kernel_rfl) ?_
 intro w16 ch15
 refine q_val (v := r_v) rfl (fun w' hw' => e_move rfl) ?_
 refine q_val (v := Value.pointer (some ⟨b8, 0, none⟩)) rfl (fun w' hw' => e_fieldAddr Try.underlying55 rfl rfl rfl rfl) ?_
 replace bx10 := bx10.chg ch15 (not_no _)
 refine q_val (v := Value.int .i64 c.1) rfl (fun w' hw' => e_load_bx1 tp3_da rfl (bx10.bel hw') rfl) ?_
 replace r_r_v := r_r_v.chg ch15 (not_no _)
 refine q_val (v := Value.pointer (some (eAddr r_v 1 (Int.toNat c.1)))) rfl (fun w' hw' => e_indexAddr (α := List Int) (xs := r) (v := r_v) (i := c.1) Try.underlying26 rfl rfl (r_r_v.bel hw') rfl (by omega) (by omega)) ?_
 obtain ⟨v17, cel18, r19⟩ := sl_row (r := c.1) r_r_v (by omega) (by omega)
 refine q_val (v := v17) rfl (fun w' hw' => e_load1 tp27_da rfl (cel_bel cel18 hw')) ?_
 refine q_val (v := Value.pointer (some ⟨b8, 1, none⟩)) rfl (fun w' hw' => e_fieldAddr Try.underlying55 rfl rfl rfl rfl) ?_
 refine q_val (v := Value.int .i64 c.2) rfl (fun w' hw' => e_load_bx1 tp3_da rfl (bx10.bel hw') rfl) ?_
 refine q_call (v := Value.bool (decide (c.2 ∈ (gI r c.1)))) rfl (fun w' hw' => e_call (vals := [v17, Value.int .i64 c.2]) Try.func96 bd96_da nm96_da rfl) (fun w' hw' => (Contains_ok w' (gI r c.1) v17 ((r19.bel hw')).ro c.2).mono fun e w2 h2 => ⟨h2.1, hw'.trans (h2.2.mono hw'.size)⟩) ?_
 refine q_val (v := Value.bool (decide (c.2 ∈ (gI r c.1)))) rfl (fun w' hw' => e_assign rfl) ?_
 refine q_nil ?_
 intro w20 hc21
 replace hc21 := chg_below hc21 g9
 refine run_ret (vs := [Value.bool (decide (c.2 ∈ (gI r c.1)))]) Try.func73 (.tmp rfl .nil) ?_
 -- return 3
 have e0 : ((decide (c.2 ∈ (gI r c.1))) : Bool) = (decide (cornP g r c)) := by
   first
     | exact corn_no (by omega)
     | exact corn_empty (by omega) (by assumption)
     | exact corn_in (by omega) (by assumption)
 have C22 : Chg (inl []) _ _ _ _ := (ch2.n).seq ((ch7.n).seq ((ch15.n).seq (hc21.n)))
 replace hbase := hbase.chg C22 (is_nl rfl)
 exact ⟨(congrArg (a₁ := (decide (c.2 ∈ (gI r c.1)))) (fun (z0 : Bool) => Ending.returned (Value.bool z0)) e0), hbase.below⟩
theorem face_ok (w0 : World) (r : List (List Int)) (r_v : Value) (hr_v : Ro w0 r_v r) (of : List Int) (of_v : Value) (hof_v : Ro w0 of_v of) (sm : Int) (c : (Int) × (Int)) (hc : 0 ≤ c.1 ∧ c.1 < (r.length : Int)) (hin : 0 < ((gI r c.1).length : Int) → c.2 ∈ gI r c.1) (hrow : ∀ h ∈ gI r c.1, 0 ≤ h ∧ h < (of.length : Int)) (hsome : 0 ≤ sm ∧ sm ≤ 1000000) (hrl : (r.length : Int) ≤ 1000000) :
    Calls Try.prog 76 #[r_v, of_v, Value.int .i64 sm, Value.agg (List.toArray [Value.int .i64 c.1, Value.int .i64 c.2])] w0 (fun ee w => ee = .returned (Value.int .i64 (cfaceS r of sm c)) ∧ Bel w0.heap.size w0 w) := by
 refine calls_of_run Try.func76 rfl (Nat.le_of_ble_eq_true rfl) ?_
 have hbase := Base.start w0
 have r_r_v := hr_v.sl
 have r_of_v := hof_v.sl
 obtain ⟨hc1, hc2⟩ := hc
 obtain ⟨hs1, hs2⟩ := hsome
 refine run_seq (run_region rfl (l_op rfl ?_))
 refine o_box c0 (is 1) (1, 0) rfl rfl ?_
 intro g4 w1 b3 ch2 bx5
 replace bx5 : Bx g4 (is 1) w1 b3 [Value.int .i64 c.1, Value.int .i64 c.2] := bx5
 refine l_val (v := Value.int .i64 0) rfl (e_assign rfl) ?_
 refine l_nil (run_seq (run_region rfl ?_))
 refine l_val (v := r_v) rfl (e_move rfl) ?_
 refine l_val (v := Value.pointer (some ⟨b3, 0, none⟩)) rfl (e_fieldAddr Try.underlying55 rfl rfl rfl rfl) ?_
 refine l_val (v := Value.int .i64 c.1) rfl (e_load_bx1 tp3_da rfl bx5 rfl) ?_
 replace r_r_v := r_r_v.chg ch2 (not_no _)
 refine l_val (v := Value.pointer (some (eAddr r_v 1 (Int.toNat c.1)))) rfl (e_indexAddr (α := List Int) (xs := r) (v := r_v) (i := c.1) Try.underlying26 rfl rfl r_r_v rfl (by omega) (by omega)) ?_
 obtain ⟨v6, cel7, r8⟩ := sl_row (r := c.1) r_r_v (by omega) (by omega)
 refine l_val (v := v6) rfl (e_load1 tp27_da rfl cel7) ?_
 refine l_val (v := v6) rfl (e_assign rfl) ?_
 refine l_nil (run_seq (run_seq (run_region rfl ?_)))
 refine l_val (v := v6) rfl (e_move rfl) ?_
 have len9 := (r8).small
 refine l_val (v := Value.int .i64 (List.length (gI r c.1) : Int)) rfl (e_len Try.underlying27 rfl r8) ?_
 refine l_val (v := Value.bool (decide (0 < (List.length (gI r c.1) : Int)))) rfl (e_gtr (m := (List.length (gI r c.1) : Int)) (n := 0) rfl rfl) ?_
 refine l_nil ?_
 by_cases p2 : 0 < (List.length (gI r c.1) : Int)
 ·
  have hix := idx_in (hin p2)
  have hmod : 0 ≤ (idxS (gI r c.1) c.2 + 1) % ((gI r c.1).length : Int) ∧ (idxS (gI r c.1) c.2 + 1) % ((gI r c.1).length : Int) < ((gI r c.1).length : Int) := ⟨Int.emod_nonneg _ (by omega), Int.emod_lt_of_pos _ p2⟩
  have hat := hrow _ (gI_mem hmod.1 hmod.2)
  refine run_cond_t rfl (decide_eq_true p2) ?_
  refine run_seq (run_region rfl ?_)
  refine l_val (v := of_v) rfl (e_move rfl) ?_
  refine l_val (v := v6) rfl (e_move rfl) ?_
  refine l_val (v := v6) rfl (e_move rfl) ?_
  refine l_val (v := Value.pointer (some ⟨b3, 1, none⟩)) rfl (e_fieldAddr Try.underlying55 rfl rfl rfl rfl) ?_
  refine l_val (v := Value.int .i64 c.2) rfl (e_load_bx1 tp3_da rfl bx5 rfl) ?_
  refine l_op rfl ?_
  refine o_call (v := Value.int .i64 (idxS (gI r c.1) c.2)) (e_call (vals := [v6, Value.int .i64 c.2]) Try.func71 bd71_da nm71_da rfl) (Index_ok w1 (gI r c.1) v6 (r8).ro c.2) ?_
  intro w10 hb11
  replace hb11 := chg_below hb11 g4
  refine l_val (v := Value.int .i64 ((idxS (gI r c.1) c.2) + 1)) rfl (e_add (m := idxS (gI r c.1) c.2) (n := 1) rfl rfl (by omega)) ?_
  refine l_val (v := v6) rfl (e_move rfl) ?_
  replace r8 := r8.chg hb11 (not_no _)
  refine l_val (v := Value.int .i64 (List.length (gI r c.1) : Int)) rfl (e_len Try.underlying27 rfl r8) ?_
  refine l_val (v := Value.int .i64 (((idxS (gI r c.1) c.2) + 1) % (List.length (gI r c.1) : Int))) rfl (e_rem (m := (idxS (gI r c.1) c.2) + 1) (n := (List.length (gI r c.1) : Int)) rfl rfl (by omega) (by omega)) ?_
  refine l_val (v := Value.pointer (some (eAddr v6 1 (Int.toNat (((idxS (gI r c.1) c.2) + 1) % (List.length (gI r c.1) : Int)))))) rfl (e_indexAddr (α := Int) (xs := gI r c.1) (v := v6) (i := ((idxS (gI r c.1) c.2) + 1) % (List.length (gI r c.1) : Int)) Try.underlying27 rfl rfl r8 rfl (by omega) (by omega)) ?_
  refine l_val (v := Value.int .i64 (gI (gI r c.1) (((idxS (gI r c.1) c.2) + 1) % (List.length (gI r c.1) : Int)))) rfl (e_load_el1 (α := Int) (xs := gI r c.1) (v := v6) (i := ((idxS (gI r c.1) c.2) + 1) % (List.length (gI r c.1) : Int)) tp3_da rfl r8 (by omega) (by omega) (by decide) rfl) ?_
  replace r_of_v := (r_of_v.chg ch2 (not_no _)).chg hb11 (not_no _)
  refine l_val (v := Value.pointer (some (eAddr of_v 1 (Int.toNat (gI (gI r c.1) (((idxS (gI r c.1) c.2) + 1) % (List.length (gI r c.1) : Int))))))) rfl (e_indexAddr (α := Int) (xs := of) (v := of_v) (i := (gI (gI r c.1) (((idxS (gI r c.1) c.2) + 1) % (List.length (gI r c.1) : Int)))) Try.underlying27 rfl rfl r_of_v rfl (by omega) (by omega)) ?_
  refine l_val (v := Value.int .i64 (gI of (gI (gI r c.1) (((idxS (gI r c.1) c.2) + 1) % (List.length (gI r c.1) : Int))))) rfl (e_load_el1 (α := Int) (xs := of) (v := of_v) (i := (gI (gI r c.1) (((idxS (gI r c.1) c.2) + 1) % (List.length (gI r c.1) : Int)))) tp3_da rfl r_of_v (by omega) (by omega) (by decide) rfl) ?_
  refine l_val (v := Value.int .i64 (gI of (gI (gI r c.1) (((idxS (gI r c.1) c.2) + 1) % (List.length (gI r c.1) : Int))))) rfl (e_assign rfl) ?_
  refine l_nil ?_
  refine run_ret (vs := [Value.int .i64 (gI of (gI (gI r c.1) (((idxS (gI r c.1) c.2) + 1) % (List.length (gI r c.1) : Int))))]) Try.func76 (.tmp rfl .nil) ?_
  -- return 0
  have e0 : ((gI of (gI (gI r c.1) (((idxS (gI r c.1) c.2) + 1) % (List.length (gI r c.1) : Int)))) : Int) = (cfaceS r of sm c) := by
    first
      | (unfold cfaceS; rw [if_pos p2]; done)
      | (unfold cfaceS; rw [if_neg p2, hinv.1, show k = c.1.toNat by omega]; done)
  replace hbase := hbase.chg ch2 (not_no _)
  replace hbase := hbase.chg hb11 (not_no _)
  exact ⟨(congrArg (a₁ := (gI of (gI (gI r c.1) (((idxS (gI r c.1) c.2) + 1) % (List.length (gI r c.1) : Int))))) (fun (z0 : Int) => Ending.returned (Value.int .i64 z0)) e0), hbase.below⟩
 refine run_cond_f rfl (decide_eq_false p2) ?_
 refine run_skip ?_
 refine run_seq (run_seq ?_)
 clear r8
 refine run_region rfl ?_
 refine l_val (v := r_v) rfl (e_move rfl) ?_
 refine l_val (v := Value.pointer (some ⟨b3, 0, none⟩)) rfl (e_fieldAddr Try.underlying55 rfl rfl rfl rfl) ?_
 refine l_val (v := Value.int .i64 c.1) rfl (e_load_bx1 tp3_da rfl bx5 rfl) ?_
 refine l_val (v := (subV r_v 1 (Int.toNat 0) (Int.toNat c.1))) rfl (e_slice (α := List Int) (xs := r) (v := r_v) (l := 0) (h := c.1) Try.underlying26 rfl rfl r_r_v (.inr ⟨rfl, rfl⟩) (.inl (congrArg some rfl)) (by omega) (by omega) (by omega)) ?_
 have r13 := sl_sub r_r_v (show Int.toNat 0 ≤ Int.toNat c.1 by omega) (show Int.toNat c.1 ≤ List.length _ by omega)
 rw [show (List.drop (Int.toNat 0) (List.take (Int.toNat c.1) r)) = (List.take (Int.toNat c.1) r) by simp] at r13
 have len14 := (r13).small
 refine l_val (v := Value.int .i64 (List.length (List.take (Int.toNat c.1) r) : Int)) rfl (e_len Try.underlying26 rfl r13) ?_
 refine l_val (v := Value.int .i64 0) rfl (e_move rfl) ?_
 refine l_nil ?_
 refine run_block ?_
 clear bx5
 refine run_loop (σ := Int × Nat × Cmap) (fun ⟨n, k, gq⟩ f w => Base w0 gq w ∧ f 2 = Value.int .i64 n ∧ f 37 = (subV r_v 1 (Int.toNat 0) (Int.toNat c.1)) ∧ f 38 = Value.int .i64 (List.length (List.take (Int.toNat c.1) r) : Int) ∧ f 39 = Value.int .i64 (k : Int) ∧ Sl gq (is 0) w r_v r ∧ Sl gq (is 0) w of_v of ∧ Sl gq (is 0) w (subV r_v 1 (Int.toNat 0) (Int.toNat c.1)) (List.take (Int.toNat c.1) r) ∧ (k : Int) ≤ ((List.length (List.take (Int.toNat c.1) r) : Int) : Int) ∧ (n = sm + empK r k ∧ (k : Int) ≤ c.1)) (fun ⟨n, k, gq⟩ => Int.toNat (((List.length (List.take (Int.toNat c.1) r) : Int) : Int) - (k : Int))) (sm, 0, g4) ?_ ?_
 replace hbase := hbase.chg ch2 (not_no _)
 replace r_of_v := r_of_v.chg ch2 (not_no _)
 · exact ⟨hbase, rfl, rfl, rfl, rfl, r_r_v, r_of_v, r13, by omega, by exact ⟨by simp [empK], by omega⟩⟩
 clear r_r_v
 clear r_of_v
 clear r13
 clear hbase
 rintro ⟨n, k, g17⟩ f15 w16 ⟨hbase, zs2, zs37, zs38, zs39, r_r_v, r_of_v, r13, hle_k, hinv⟩ back5
 have htk : ((List.take (Int.toNat c.1) r).length : Int) = c.1 := by rw [List.length_take]; omega
 have hek := empK_le r k
 have hi1 := hinv.1
 refine run_seq (run_region rfl ?_)
 refine l_val (v := Value.bool (decide ((k : Int) < (List.length (List.take (Int.toNat c.1) r) : Int)))) rfl (e_lss (m := (k : Int)) (n := (List.length (List.take (Int.toNat c.1) r) : Int)) (by exact zs39) (by exact zs38)) ?_
 refine l_nil (run_seq ?_)
 by_cases p5 : (k : Int) < (List.length (List.take (Int.toNat c.1) r) : Int)
 ·
  refine run_cond_t rfl (decide_eq_true p5) ?_
  refine run_skip ?_
  refine run_seq ?_
  refine run_block ?_
  refine run_seq (run_region rfl ?_)
  refine l_val (v := Value.pointer (some (eAddr (subV r_v 1 (Int.toNat 0) (Int.toNat c.1)) 1 (Int.toNat (k : Int))))) rfl (e_indexAddr (α := List Int) (xs := (List.take (Int.toNat c.1) r)) (v := (subV r_v 1 (Int.toNat 0) (Int.toNat c.1))) (i := (k : Int)) Try.underlying26 rfl (by exact zs37) r13 (by exact zs39) (by omega) (by first | omega | (simp only [List.length_set, List.length_append, List.length_cons, List.length_nil, List.length_replicate, List.length_map, List.length_take, List.length_drop]; omega) | (simp; done) | (simp; omega))) ?_
  obtain ⟨v18, cel19, r20⟩ := sl_row (r := (k : Int)) r13 (by omega) (by first | omega | (simp only [List.length_set, List.length_append, List.length_cons, List.length_nil, List.length_replicate, List.length_map, List.length_take, List.length_drop]; omega) | (simp; done) | (simp; omega))
  refine l_val (v := v18) rfl (e_load1 tp27_da rfl cel19) ?_
  refine l_val (v := v18) rfl (e_assign rfl) ?_
  refine l_nil (run_seq (run_region rfl ?_))
  refine l_val (v := v18) rfl (e_move rfl) ?_
  have len21 := (r20).small
  refine l_val (v := Value.int .i64 (List.length (gI (List.take (Int.toNat c.1) r) (k : Int)) : Int)) rfl (e_len Try.underlying27 rfl r20) ?_
  refine l_val (v := Value.bool (decide ((List.length (gI (List.take (Int.toNat c.1) r) (k : Int)) : Int) = 0))) rfl (e_eql (m := (List.length (gI (List.take (Int.toNat c.1) r) (k : Int)) : Int)) (n := 0) rfl rfl) ?_
  refine l_nil ?_
  by_cases p7 : (List.length (gI (List.take (Int.toNat c.1) r) (k : Int)) : Int) = 0
  ·
   refine run_cond_t rfl (decide_eq_true p7) ?_
   clear r20
   refine run_region rfl ?_
   refine l_val (v := Value.int .i64 n) rfl (e_move (by exact zs2)) ?_
   refine l_val (v := Value.int .i64 (n + 1)) rfl (e_add (m := n) (n := 1) rfl rfl (by omega)) ?_
   refine l_val (v := Value.int .i64 (n + 1)) rfl (e_assign rfl) ?_
   refine l_nil ?_
   refine run_inBlock ?_
   refine run_region rfl ?_
   refine l_val (v := Value.int .i64 ((k : Int) + 1)) rfl (e_add (m := (k : Int)) (n := 1) (by exact zs39) rfl (by omega)) ?_
   refine l_val (v := Value.int .i64 ((k : Int) + 1)) rfl (e_move rfl) ?_
   refine l_nil ?_
   refine back5 (n + 1, k + 1, g17) _ _ ⟨hbase, rfl, (by exact zs37), (by exact zs38), rfl, r_r_v, r_of_v, r13, by omega, ?_⟩ ?_
   · show (n + 1) = sm + empK r (k + 1) ∧ ((k + 1) : Int) ≤ c.1
     first
       | exact ⟨by rw [empK_yes (by omega) (by rw [← gI_take (xs := r) (n := Int.toNat c.1) (by omega)]; assumption), hinv.1]; omega, by omega⟩
       | exact ⟨by rw [empK_no (by omega) (by rw [← gI_take (xs := r) (n := Int.toNat c.1) (by omega)]; assumption)]; exact hinv.1, by omega⟩
   · show Int.toNat (((List.length (List.take (Int.toNat c.1) r) : Int) : Int) - ((k + 1) : Int)) < Int.toNat (((List.length (List.take (Int.toNat c.1) r) : Int) : Int) - (k : Int))
     omega
  refine run_cond_f rfl (decide_eq_false p7) ?_
  refine run_skip ?_
  refine run_inBlock ?_
  clear r20
  refine run_region rfl ?_
  refine l_val (v := Value.int .i64 ((k : Int) + 1)) rfl (e_add (m := (k : Int)) (n := 1) (by exact zs39) rfl (by omega)) ?_
  refine l_val (v := Value.int .i64 ((k : Int) + 1)) rfl (e_move rfl) ?_
  refine l_nil ?_
  refine back5 (n, k + 1, g17) _ _ ⟨hbase, (by exact zs2), (by exact zs37), (by exact zs38), rfl, r_r_v, r_of_v, r13, by omega, ?_⟩ ?_
  · show n = sm + empK r (k + 1) ∧ ((k + 1) : Int) ≤ c.1
    first
      | exact ⟨by rw [empK_yes (by omega) (by rw [← gI_take (xs := r) (n := Int.toNat c.1) (by omega)]; assumption), hinv.1]; omega, by omega⟩
      | exact ⟨by rw [empK_no (by omega) (by rw [← gI_take (xs := r) (n := Int.toNat c.1) (by omega)]; assumption)]; exact hinv.1, by omega⟩
  · show Int.toNat (((List.length (List.take (Int.toNat c.1) r) : Int) : Int) - ((k + 1) : Int)) < Int.toNat (((List.length (List.take (Int.toNat c.1) r) : Int) : Int) - (k : Int))
    omega
 refine run_cond_f rfl (decide_eq_false p5) ?_
 refine run_exit rfl ?_
 refine run_seq ?_
 clear r13
 refine run_region rfl ?_
 refine l_val (v := Value.int .i64 n) rfl (e_move (by exact zs2)) ?_
 refine l_val (v := Value.int .i64 n) rfl (e_assign rfl) ?_
 refine l_nil ?_
 refine run_ret (vs := [Value.int .i64 n]) Try.func76 (.tmp rfl .nil) ?_
 -- return 1
 have e0 : (n : Int) = (cfaceS r of sm c) := by
   first
     | (unfold cfaceS; rw [if_pos p2]; done)
     | (unfold cfaceS; rw [if_neg p2, hinv.1, show k = c.1.toNat by omega]; done)
 exact ⟨(congrArg (a₁ := n) (fun (z0 : Int) => Ending.returned (Value.int .i64 z0)) e0), hbase.below⟩
theorem dfilled_ok (w0 : World) (faces : List (List Int)) (faces_v : Value) (hfaces_v : Ro w0 faces_v faces) (hl : faces.length ≤ 1000000) :
    Calls Try.prog 75 #[faces_v] w0 (fun ee w => ee = .returned (Value.int .i64 (filledS faces)) ∧ Bel w0.heap.size w0 w) := by
 refine calls_of_run Try.func75 rfl (Nat.le_of_ble_eq_true rfl) ?_
 have hbase := Base.start w0
 have r_faces_v := hfaces_v.sl
 refine run_seq (run_region rfl ?_)
 refine l_val (v := Value.int .i64 0) rfl (e_assign rfl) ?_
 refine l_nil (run_seq (run_region rfl ?_))
 refine l_val (v := Value.int .i64 0) rfl (e_assign rfl) ?_
 refine l_nil (run_seq (run_seq (run_region rfl ?_)))
 refine l_val (v := faces_v) rfl (e_move rfl) ?_
 have len1 := (r_faces_v).small
 refine l_val (v := Value.int .i64 (List.length faces : Int)) rfl (e_len Try.underlying25 rfl r_faces_v) ?_
 refine l_val (v := Value.int .i64 0) rfl (e_move rfl) ?_
 refine l_nil ?_
 refine run_block ?_
 refine run_loop (σ := Int × Nat × Cmap) (fun ⟨n, k, gq⟩ f w => Base w0 gq w ∧ f 3 = Value.int .i64 n ∧ f 6 = faces_v ∧ f 7 = Value.int .i64 (List.length faces : Int) ∧ f 8 = Value.int .i64 (k : Int) ∧ Sl gq (is 0) w faces_v faces ∧ (k : Int) ≤ ((List.length faces : Int) : Int) ∧ (n = filledS (faces.take k))) (fun ⟨n, k, gq⟩ => Int.toNat (((List.length faces : Int) : Int) - (k : Int))) (0, 0, c0) ?_ ?_
 · exact ⟨hbase, rfl, rfl, rfl, rfl, r_faces_v, by omega, by rfl⟩
 clear r_faces_v
 clear hbase
 rintro ⟨n, k, g4⟩ f2 w3 ⟨hbase, zs3, zs6, zs7, zs8, r_faces_v, hle_k, hinv⟩ back3
 have hfl := filled_le (faces.take k)
 have htl := List.length_take_le k faces
 refine run_seq (run_region rfl ?_)
 refine l_val (v := Value.bool (decide ((k : Int) < (List.length faces : Int)))) rfl (e_lss (m := (k : Int)) (n := (List.length faces : Int)) (by exact zs8) (by exact zs7)) ?_
 refine l_nil (run_seq ?_)
 by_cases p3 : (k : Int) < (List.length faces : Int)
 ·
  refine run_cond_t rfl (decide_eq_true p3) ?_
  refine run_skip ?_
  refine run_seq ?_
  refine run_block ?_
  refine run_seq (run_region rfl ?_)
  refine l_val (v := Value.pointer (some (eAddr faces_v 1 (Int.toNat (k : Int))))) rfl (e_indexAddr (α := List Int) (xs := faces) (v := faces_v) (i := (k : Int)) Try.underlying25 rfl (by exact zs6) r_faces_v (by exact zs8) (by omega) (by omega)) ?_
  obtain ⟨v5, cel6, r7⟩ := sl_row (r := (k : Int)) r_faces_v (by omega) (by omega)
  refine l_val (v := v5) rfl (e_load1 tp27_da rfl cel6) ?_
  refine l_val (v := v5) rfl (e_assign rfl) ?_
  refine l_nil (run_seq (run_region rfl ?_))
  refine l_val (v := v5) rfl (e_move rfl) ?_
  have len8 := (r7).small
  refine l_val (v := Value.int .i64 (List.length (gI faces (k : Int)) : Int)) rfl (e_len Try.underlying27 rfl r7) ?_
  refine l_val (v := Value.bool (decide (0 < (List.length (gI faces (k : Int)) : Int)))) rfl (e_gtr (m := (List.length (gI faces (k : Int)) : Int)) (n := 0) rfl rfl) ?_
  refine l_nil ?_
  by_cases p5 : 0 < (List.length (gI faces (k : Int)) : Int)
  ·
   refine run_cond_t rfl (decide_eq_true p5) ?_
   clear r7
   refine run_region rfl ?_
   refine l_val (v := Value.int .i64 n) rfl (e_move (by exact zs3)) ?_
   refine l_val (v := Value.int .i64 (n + 1)) rfl (e_add (m := n) (n := 1) rfl rfl (by omega)) ?_
   refine l_val (v := Value.int .i64 (n + 1)) rfl (e_assign rfl) ?_
   refine l_nil ?_
   refine run_inBlock ?_
   refine run_region rfl ?_
   refine l_val (v := Value.int .i64 ((k : Int) + 1)) rfl (e_add (m := (k : Int)) (n := 1) (by exact zs8) rfl (by omega)) ?_
   refine l_val (v := Value.int .i64 ((k : Int) + 1)) rfl (e_move rfl) ?_
   refine l_nil ?_
   refine back3 (n + 1, k + 1, g4) _ _ ⟨hbase, rfl, (by exact zs6), (by exact zs7), rfl, r_faces_v, by omega, ?_⟩ ?_
   · show (n + 1) = filledS (faces.take (k + 1))
     first
       | (rw [filled_yes (by assumption) (by assumption), hinv]; done)
       | (rw [filled_no (by assumption) (by assumption), hinv]; done)
   · show Int.toNat (((List.length faces : Int) : Int) - ((k + 1) : Int)) < Int.toNat (((List.length faces : Int) : Int) - (k : Int))
     omega
  refine run_cond_f rfl (decide_eq_false p5) ?_
  refine run_skip ?_
  refine run_inBlock ?_
  clear r7
  refine run_region rfl ?_
  refine l_val (v := Value.int .i64 ((k : Int) + 1)) rfl (e_add (m := (k : Int)) (n := 1) (by exact zs8) rfl (by omega)) ?_
  refine l_val (v := Value.int .i64 ((k : Int) + 1)) rfl (e_move rfl) ?_
  refine l_nil ?_
  refine back3 (n, k + 1, g4) _ _ ⟨hbase, (by exact zs3), (by exact zs6), (by exact zs7), rfl, r_faces_v, by omega, ?_⟩ ?_
  · show n = filledS (faces.take (k + 1))
    first
      | (rw [filled_yes (by assumption) (by assumption), hinv]; done)
      | (rw [filled_no (by assumption) (by assumption), hinv]; done)
  · show Int.toNat (((List.length faces : Int) : Int) - ((k + 1) : Int)) < Int.toNat (((List.length faces : Int) : Int) - (k : Int))
    omega
 refine run_cond_f rfl (decide_eq_false p3) ?_
 refine run_exit rfl ?_
 refine run_seq (run_region rfl ?_)
 refine l_val (v := Value.int .i64 n) rfl (e_move (by exact zs3)) ?_
 refine l_val (v := Value.int .i64 n) rfl (e_assign rfl) ?_
 refine l_nil ?_
 refine run_ret (vs := [Value.int .i64 n]) Try.func75 (.tmp rfl .nil) ?_
 -- return 0
 have e0 : (n : Int) = (filledS faces) := by
   rw [hinv, List.take_of_length_le (by omega)]
 exact ⟨(congrArg (a₁ := n) (fun (z0 : Int) => Ending.returned (Value.int .i64 z0)) e0), hbase.below⟩
theorem dcopied_ok (w0 : World) (r : List (List Int)) (r_v : Value) (hr_v : Ro w0 r_v r) (hl : r.length ≤ 1000000) (hb : ∀ l_ ∈ r, l_.length ≤ 1000000) :
    Calls Try.prog 70 #[r_v] w0 (fun ee w => ∃ xx : Cmap × Value, ee = .returned ((fun ⟨δ, rv0⟩ => rv0) xx) ∧ (fun (⟨δ, rv0⟩ : Cmap × Value) (w : World) => Fresh w0 δ w ∧ Nst δ 1 w rv0 r) xx w) := by
 refine calls_of_run Try.func70 rfl (Nat.le_of_ble_eq_true rfl) ?_
 have hbase := Base.start w0
 have r_r_v := hr_v.sl
 refine run_seq (run_region rfl ?_)
 refine l_val (v := Value.slice none 0 0) rfl (e_assign rfl) ?_
 refine l_nil (run_seq (run_region rfl ?_))
 refine l_val (v := r_v) rfl (e_move rfl) ?_
 have len1 := (r_r_v).small
 refine l_val (v := Value.int .i64 (List.length r : Int)) rfl (e_len Try.underlying26 rfl r_r_v) ?_
 refine l_op rfl ?_
 refine o_make_nst (α := Int) (n := (List.length r : Int)) (cp := (List.length r : Int)) c0 1 Try.underlying26 tp27_da rfl rfl rfl (by omega) (by omega) (by omega) (by omega) ?_
 intro g2 w3 v4 ch5 o6
 refine l_val (v := v4) rfl (e_assign rfl) ?_
 refine l_nil (run_seq (run_seq (run_region rfl ?_)))
 refine l_val (v := r_v) rfl (e_move rfl) ?_
 replace r_r_v := r_r_v.chg ch5 (not_no _)
 refine l_val (v := Value.int .i64 (List.length r : Int)) rfl (e_len Try.underlying26 rfl r_r_v) ?_
 refine l_val (v := Value.int .i64 0) rfl (e_move rfl) ?_
 refine l_nil ?_
 refine run_block ?_
 refine run_loop (σ := Nat × (List (List Int)) × Cmap) (fun ⟨k, out, gq⟩ f w => Base w0 gq w ∧ f 3 = v4 ∧ f 9 = r_v ∧ f 10 = Value.int .i64 (List.length r : Int) ∧ f 11 = Value.int .i64 (k : Int) ∧ Sl gq (is 0) w r_v r ∧ Nst gq 1 w v4 out ∧ (k : Int) ≤ ((List.length r : Int) : Int) ∧ (out = List.map (fun l_ => l_) (List.take k r) ++ List.replicate (r.length - k) [])) (fun ⟨k, out, gq⟩ => Int.toNat (((List.length r : Int) : Int) - (k : Int))) (0, (List.replicate (Int.toNat (List.length r : Int)) []), g2) ?_ ?_
 replace hbase := hbase.chg ch5 (not_no _)
 · exact ⟨hbase, rfl, rfl, rfl, rfl, r_r_v, o6, by omega, by simp⟩
 clear r_r_v
 clear o6
 clear hbase
 rintro ⟨k, out, g9⟩ f7 w8 ⟨hbase, zs3, zs9, zs10, zs11, r_r_v, o6, hle_k, hinv⟩ back3
 have hol : out.length = r.length := by rw [hinv]; simp; omega
 refine run_seq (run_region rfl ?_)
 refine l_val (v := Value.bool (decide ((k : Int) < (List.length r : Int)))) rfl (e_lss (m := (k : Int)) (n := (List.length r : Int)) (by exact zs11) (by exact zs10)) ?_
 refine l_nil (run_seq ?_)
 by_cases p3 : (k : Int) < (List.length r : Int)
 ·
  refine run_cond_t rfl (decide_eq_true p3) ?_
  have hbk := hb _ (gI_mem (xs := r) (i := (k : Int)) (by omega) (by assumption))
  refine run_skip ?_
  refine run_seq ?_
  refine run_block ?_
  refine run_seq (run_region rfl ?_)
  refine l_val (v := Value.int .i64 (k : Int)) rfl (e_move (by exact zs11)) ?_
  refine l_val (v := Value.pointer (some (eAddr r_v 1 (Int.toNat (k : Int))))) rfl (e_indexAddr (α := List Int) (xs := r) (v := r_v) (i := (k : Int)) Try.underlying26 rfl (by exact zs9) r_r_v (by exact zs11) (by omega) (by omega)) ?_
  obtain ⟨v10, cel11, r12⟩ := sl_row (r := (k : Int)) r_r_v (by omega) (by omega)
  refine l_val (v := v10) rfl (e_load1 tp27_da rfl cel11) ?_
  refine l_val (v := Value.int .i64 (k : Int)) rfl (e_assign rfl) ?_
  refine l_val (v := v10) rfl (e_assign rfl) ?_
  refine l_nil (run_region rfl ?_)
  refine l_val (v := v4) rfl (e_move (by exact zs3)) ?_
  refine l_val (v := Value.int .i64 (k : Int)) rfl (e_move rfl) ?_
  refine l_val (v := v10) rfl (e_move rfl) ?_
  refine l_op rfl ?_
  refine o_append (α := Int) (xs := ([])) (ys := (gI r (k : Int))) g9 (J := is 2) (S := is 2) (2, 0) rfl Try.underlying27 tp3_da (by decide) rfl rfl rfl Ow.nil r12 (by decide) (by first | omega | (simp; done) | (simp; omega)) ?_
  intro g13 w14 v15 ch16 o17
  replace o17 : Ow g13 (is 2) (is 2) w14 v15 (gI r (k : Int)) := o17
  replace o6 := o6.chg ch16 (is_ne rfl)
  refine l_val (v := Value.pointer (some (eAddr v4 1 (Int.toNat (k : Int))))) rfl (e_indexAddr (α := List Int) (xs := out) (v := v4) (i := (k : Int)) Try.underlying26 rfl rfl o6.sl rfl (by omega) (by omega)) ?_
  refine l_op rfl ?_
  refine o_store_fresh (r := (k : Int)) tp27_da rfl rfl o6 o17 rfl (by omega) (by omega) ?_
  intro g24 w21 ch22 o23
  clear o6
  clear o17
  refine l_nil ?_
  refine run_inBlock ?_
  clear r12
  refine run_region rfl ?_
  refine l_val (v := Value.int .i64 ((k : Int) + 1)) rfl (e_add (m := (k : Int)) (n := 1) (by exact zs11) rfl (by omega)) ?_
  refine l_val (v := Value.int .i64 ((k : Int) + 1)) rfl (e_move rfl) ?_
  refine l_nil ?_
  replace hbase := hbase.chg ch16 (is_ne rfl)
  replace hbase := hbase.chg ch22 (is_ne2 rfl rfl)
  replace r_r_v := (r_r_v.chg ch16 (is_ne rfl)).chg ch22 (is_ne2 rfl rfl)
  refine back3 (k + 1, (List.set out (Int.toNat (k : Int)) (gI r (k : Int))), g24) _ _ ⟨hbase, (by exact zs3), (by exact zs9), (by exact zs10), rfl, r_r_v, o23, by omega, ?_⟩ ?_
  · show (List.set out (Int.toNat (k : Int)) (gI r (k : Int))) = List.map (fun l_ => l_) (List.take (k + 1) r) ++ List.replicate (r.length - (k + 1)) []
    rw [hinv]; exact map_next (by assumption) rfl
  · show Int.toNat (((List.length r : Int) : Int) - ((k + 1) : Int)) < Int.toNat (((List.length r : Int) : Int) - (k : Int))
    omega
 refine run_cond_f rfl (decide_eq_false p3) ?_
 refine run_exit rfl ?_
 refine run_seq (run_region rfl ?_)
 refine l_val (v := v4) rfl (e_move (by exact zs3)) ?_
 refine l_val (v := v4) rfl (e_assign rfl) ?_
 refine l_nil ?_
 refine run_ret (vs := [v4]) Try.func70 (.tmp rfl .nil) ?_
 -- return 0
 have e0 : (out : List (List Int)) = (r) := by
   rw [hinv, show k = r.length by omega]; simp
 exact ⟨(fin w0 g9 (fun n => if n = 1 then 1 else 0), v4), (congrArg (a₁ := out) (fun (z0 : List (List Int)) => Ending.returned (v4)) e0), hbase.fresh _, (e0 ▸ (o6.glue (γ := c0) (ren := (fun n => if n = 1 then 1 else 0)) (k := 1) hbase.col rfl rfl))⟩
end TL
