import Derived.Test.YtgaefcjhggdkcaaTlGenA
import Derived.Test.YtgaefcjhggdkcaaTlGenC
import Derived.Test.YtgaefcjhggdkcaaTlGenD
import Derived.Test.YtgaefcjhggdkcaaTlGenX
import Derived.Test.YtgaefcjhggdkcaaTlGenY
import Derived.Test.YtgaefcjhggdkcaaTlGenZ
import Derived.Test.YtgaefcjhggdkcaaTlGenV
import Derived.Test.YtgaefcjhggdkcaaTlGenO
import Derived.Test.YtgaefcjhggdkcaaTlCyc
import Derived.Test.YtgaefcjhggdkcaaProg
import Derived.Test.YtgaefcjhggdkcaaTlNet2
import Derived.Test.YtgaefcjhggdkcaaTlEq
import Derived.Test.YtgaefcjhggdkcaaTlHold
import Derived.Test.YtgaefcjhggdkcaaTlDraw
import Derived.Test.YtgaefcjhggdkcaaTlMap
set_option linter.all false
set_option maxRecDepth 20000
namespace TL
open Go Go.Proofs
theorem mixed_p : Try.prog.follows .mixedOrders = true := by kernel_rfl
theorem tp3_p : Tp Try.prog 3 false 1 8 (.int .i64 0) := Tp.of (by kernel_rfl)
theorem tp22_p : Tp Try.prog 22 false 1 24 (.slice none 0 0) := Tp.of (by kernel_rfl)
theorem tp24_p : Tp Try.prog 24 true 2 32 (.agg #[.int .i64 0, .slice none 0 0]) := Tp.of (by kernel_rfl)
theorem tp35_p : Tp Try.prog 35 false 1 24 (.slice none 0 0) := Tp.of (by kernel_rfl)
theorem bd9_p : Try.f9.body.isNone = false := rfl
theorem nm9_p : (Try.f9.name == "runtime.NumGoroutine") = false := by decide +kernel
theorem bd10_p : Try.f10.body.isNone = false := rfl
theorem nm10_p : (Try.f10.name == "runtime.NumGoroutine") = false := by decide +kernel
theorem bd11_p : Try.f11.body.isNone = false := rfl
theorem nm11_p : (Try.f11.name == "runtime.NumGoroutine") = false := by decide +kernel
theorem bd12_p : Try.f12.body.isNone = false := rfl
theorem nm12_p : (Try.f12.name == "runtime.NumGoroutine") = false := by decide +kernel
theorem bd18_p : Try.f18.body.isNone = false := rfl
theorem nm18_p : (Try.f18.name == "runtime.NumGoroutine") = false := by decide +kernel
theorem bd19_p : Try.f19.body.isNone = false := rfl
theorem nm19_p : (Try.f19.name == "runtime.NumGoroutine") = false := by decide +kernel
theorem bd34_p : Try.f34.body.isNone = false := rfl
theorem nm34_p : (Try.f34.name == "runtime.NumGoroutine") = false := by decide +kernel
theorem bd35_p : Try.f35.body.isNone = false := rfl
theorem nm35_p : (Try.f35.name == "runtime.NumGoroutine") = false := by decide +kernel
theorem bd36_p : Try.f36.body.isNone = false := rfl
theorem nm36_p : (Try.f36.name == "runtime.NumGoroutine") = false := by decide +kernel
theorem bd37_p : Try.f37.body.isNone = false := rfl
theorem nm37_p : (Try.f37.name == "runtime.NumGoroutine") = false := by decide +kernel
theorem bd38_p : Try.f38.body.isNone = false := rfl
theorem nm38_p : (Try.f38.name == "runtime.NumGoroutine") = false := by decide +kernel

set_option maxHeartbeats 4000000 in
theorem RotMoved_ok (w0 : World) (g : (Int) × (List ((Int) × (Int)))) (g_v : Value) (hg_v : Ro w0 g_v g.2) (r : List (List Int)) (r_v : Value) (hr_v : Ro w0 r_v r) (to : List Int) (to_v : Value) (hto_v : Ro w0 to_v to) (hb : (r.length : Int) ≤ 1048576 ∧ ∀ l_ ∈ r, l_.length ≤ 1048576) :
    Calls Try.prog 7 #[Value.agg (List.toArray [Value.int .i64 g.1, g_v]), r_v, to_v] w0 (fun ee w => ee = .returned (Value.bool true) ∧ RowKit.Below w0.heap.size w0 w) := by
 refine calls_of_run Try.func7 rfl (Nat.le_of_ble_eq_true rfl) ?_
 have hbase := Base.start w0
 have r_g_v := hg_v.sl
 have r_r_v := hr_v.sl
 have r_to_v := hto_v.sl
 refine run_seq ?_
 refine run_region rfl ?_
 refine l_op rfl ?_
 refine o_box c0 (is 1) (1, 0) rfl rfl ?_
 intro g4 w1 b3 ch2 bx5
 replace bx5 : Bx g4 (is 1) w1 b3 [Value.int .i64 g.1, g_v] := bx5
 refine l_val (v := Value.bool false) rfl (e_assign rfl) ?_
 refine l_nil ?_
 refine run_seq ?_
 refine run_seq ?_
 refine run_region rfl ?_
 refine l_op rfl ?_
 refine o_call (v := Value.bool true) (e_call (vals := []) Try.func9 bd9_p nm9_p rfl) (begun9_ok w1 ) ?_
 intro w6 hb7
 replace hb7 := chg_below hb7 g4
 refine l_val (v := Value.bool false) rfl (e_not (b := true) rfl) ?_
 refine l_nil ?_
 refine run_cond_f rfl rfl ?_
 refine run_skip ?_
 refine run_seq ?_
 refine run_seq ?_
 refine run_region rfl ?_
 replace bx5 := bx5.chg hb7 (not_no _)
 refine l_val (v := Value.agg (List.toArray [Value.int .i64 g.1, g_v])) rfl (e_load_bxN (ds := [Value.int .i64 g.1, g_v]) tp24_p rfl bx5 rfl rfl) ?_
 refine l_val (v := r_v) rfl (e_move rfl) ?_
 replace r_g_v := (r_g_v.chg ch2 (not_no _)).chg hb7 (not_no _)
 replace r_r_v := (r_r_v.chg ch2 (not_no _)).chg hb7 (not_no _)
 refine l_op rfl ?_
 refine o_call (v := Value.bool (decide ((g.2.length ≤ 300 ∧ (g.1 ≤ 300 ∨ ¬ MayP g)) ∧ g.1 ≤ 200 ∧ r.length + r.flatten.length ≤ 1000))) (e_call (vals := [Value.agg (List.toArray [Value.int .i64 g.1, g_v]), r_v]) Try.func12 bd12_p nm12_p rfl) (Light9_ok w6 g g_v (r_g_v).ro r r_v (r_r_v).ro (by assumption)) ?_
 intro w8 hb9
 replace hb9 := chg_below hb9 g4
 refine l_val (v := Value.bool (!(decide ((g.2.length ≤ 300 ∧ (g.1 ≤ 300 ∨ ¬ MayP g)) ∧ g.1 ≤ 200 ∧ r.length + r.flatten.length ≤ 1000)))) rfl (e_not (b := (decide ((g.2.length ≤ 300 ∧ (g.1 ≤ 300 ∨ ¬ MayP g)) ∧ g.1 ≤ 200 ∧ r.length + r.flatten.length ≤ 1000))) rfl) ?_
 refine l_val (v := Value.bool (!(decide ((g.2.length ≤ 300 ∧ (g.1 ≤ 300 ∨ ¬ MayP g)) ∧ g.1 ≤ 200 ∧ r.length + r.flatten.length ≤ 1000)))) rfl (e_move rfl) ?_
 by_cases q35 : (decide ((g.2.length ≤ 300 ∧ (g.1 ≤ 300 ∨ ¬ MayP g)) ∧ g.1 ≤ 200 ∧ r.length + r.flatten.length ≤ 1000)) = true
 ·
  replace bx5 := bx5.chg hb9 (not_no _)
  refine l_val (v := Value.agg (List.toArray [Value.int .i64 g.1, g_v])) (want_y rfl rfl rfl (congrArg Bool.not q35)) (e_load_bxN (ds := [Value.int .i64 g.1, g_v]) tp24_p rfl bx5 rfl rfl) ?_
  refine l_val (v := r_v) (want_y rfl rfl rfl (congrArg Bool.not q35)) (e_move rfl) ?_
  replace r_g_v := r_g_v.chg hb9 (not_no _)
  replace r_r_v := r_r_v.chg hb9 (not_no _)
  refine l_op (want_y rfl rfl rfl (congrArg Bool.not q35)) ?_
  refine o_call (v := Value.int .i64 (rmayR g r)) (e_call (vals := [Value.agg (List.toArray [Value.int .i64 g.1, g_v]), r_v]) Try.func35 bd35_p nm35_p rfl) (RMay_ok w8 g g_v (r_g_v).ro r r_v (r_r_v).ro) ?_
  intro w10 hb11
  replace hb11 := chg_below hb11 g4
  refine l_val (v := Value.bool (!(decide ((rmayR g r) = 0)))) (want_y rfl rfl rfl (congrArg Bool.not q35)) (e_neq (m := rmayR g r) (n := 0) rfl rfl) ?_
  refine l_val (v := Value.bool (!(decide ((rmayR g r) = 0)))) rfl (e_pick_f rfl (congrArg Bool.not q35) rfl) ?_
  refine l_nil ?_
  by_cases p3 : (rmayR g r) = 0
  ·
   obtain ⟨hm, hrp⟩ := rmay_ok (by assumption)
   have hm0 := hm
   obtain ⟨hm1, hm2, hm3, hm4⟩ := hm0
   have hsub := rsub_all hm hrp
   have hmvd := rmoved_all hm hrp
   have hcan := canonR_yes hm hrp
   have hrl := hrp.1
   refine run_cond_f rfl (congrArg Bool.not (decide_eq_true p3)) ?_
   refine run_skip ?_
   refine run_seq ?_
   refine run_region rfl ?_
   refine l_val (v := Value.slice none 0 0) rfl (e_assign rfl) ?_
   refine l_val (v := Value.slice none 0 0) rfl (e_assign rfl) ?_
   refine l_nil ?_
   refine run_seq ?_
   refine run_seq ?_
   refine run_region rfl ?_
   refine l_val (v := Value.int .i64 0) rfl (e_assign rfl) ?_
   refine l_nil ?_
   refine run_block ?_
   refine run_loop (σ := Value × (List Int) × Nat × Cmap) (fun ⟨all_v, all, e, gq⟩ f w => Base w0 gq w ∧ f 1 = r_v ∧ f 2 = to_v ∧ f 3 = Value.pointer (some ⟨b3, 0, none⟩) ∧ f 7 = all_v ∧ f 8 = Value.slice none 0 0 ∧ f 9 = Value.int .i64 (e : Int) ∧ Sl gq (is 0) w g_v g.2 ∧ Sl gq (is 0) w r_v r ∧ Sl gq (is 0) w to_v to ∧ Bx gq (is 1) w b3 [Value.int .i64 g.1, g_v] ∧ Ow gq (is 3) (is 3) w all_v all ∧ (e : Int) ≤ ((List.length g.2 : Int) : Int) ∧ (all = iotaI e)) (fun ⟨all_v, all, e, gq⟩ => Int.toNat (((List.length g.2 : Int) : Int) - (e : Int))) (Value.slice none 0 0, [], 0, g4) ?_ ?_
   have C12 : Chg (inl []) _ _ _ _ := (ch2.n).seq ((hb7.n).seq ((hb9.n).seq (hb11.n)))
   replace hbase := hbase.chg C12 (is_nl rfl)
   replace r_g_v := r_g_v.chg hb11 (not_no _)
   replace r_r_v := r_r_v.chg hb11 (not_no _)
   replace r_to_v := r_to_v.chg C12 (is_nl rfl)
   replace bx5 := bx5.chg hb11 (not_no _)
   · exact ⟨hbase, rfl, rfl, rfl, rfl, rfl, rfl, r_g_v, r_r_v, r_to_v, bx5, Ow.nil, by omega, by rfl⟩
   clear r_g_v
   clear r_r_v
   clear r_to_v
   clear bx5
   clear hbase
   rintro ⟨all_v, all, e, g15⟩ f13 w14 ⟨hbase, zs1, zs2, zs3, zs7, zs8, zs9, r_g_v, r_r_v, r_to_v, bx5, o_all, hle_e, hinv1⟩ back7
   have hal : all.length = e := by rw [hinv1]; exact iota_len e
   refine run_seq ?_
   refine run_seq ?_
   refine run_region rfl ?_
   refine l_val (v := Value.int .i64 (e : Int)) rfl (e_move (by exact zs9)) ?_
   refine l_val (v := Value.pointer (some ⟨b3, 1, none⟩)) rfl (e_fieldAddr Try.underlying24 rfl rfl (by exact zs3) rfl) ?_
   refine l_val (v := g_v) rfl (e_load_bx1 tp22_p rfl bx5 rfl) ?_
   have len16 := (r_g_v).small
   refine l_val (v := Value.int .i64 (List.length g.2 : Int)) rfl (e_len Try.underlying22 rfl r_g_v) ?_
   refine l_val (v := Value.bool (decide ((e : Int) < (List.length g.2 : Int)))) rfl (e_lss (m := (e : Int)) (n := (List.length g.2 : Int)) rfl rfl) ?_
   refine l_nil ?_
   by_cases p7 : (e : Int) < (List.length g.2 : Int)
   ·
    refine run_cond_t rfl (decide_eq_true p7) ?_
    refine run_skip ?_
    refine run_seq ?_
    refine run_block ?_
    refine run_region rfl ?_
    refine l_val (v := all_v) rfl (e_move (by exact zs7)) ?_
    refine l_val (v := Value.int .i64 (e : Int)) rfl (e_move (by exact zs9)) ?_
    refine l_op rfl ?_
    refine o_buildSlice (α := Int) g15 (is 2) (is 2) (2, 0) rfl [(e : Int)] Try.underlying35 tp3_p (by decide) (by decide) (vs := [(0, Value.int .i64 (e : Int))]) rfl rfl (.cons rfl .nil) ?_
    intro g17 w18 v19 ch20 o21
    refine l_op rfl ?_
    replace o_all := o_all.chg ch20 (not_no _) (not_no _)
    refine o_append (α := Int) (xs := all) (ys := ([(e : Int)])) g17 (J := is 3) (S := is 3) (3, 0) rfl Try.underlying35 tp3_p (by decide) rfl rfl rfl o_all o21.flat (by decide) (by first | omega | (simp; done) | (simp; omega)) ?_
    intro g22 w23 v24 ch25 o26
    clear o_all
    refine l_val (v := v24) rfl (e_assign rfl) ?_
    refine l_nil ?_
    refine run_inBlock ?_
    clear o21
    refine run_region rfl ?_
    refine l_val (v := Value.int .i64 (e : Int)) rfl (e_move (by exact zs9)) ?_
    refine l_val (v := Value.int .i64 ((e : Int) + 1)) rfl (e_add (m := (e : Int)) (n := 1) rfl rfl (by omega)) ?_
    refine l_val (v := Value.int .i64 ((e : Int) + 1)) rfl (e_assign rfl) ?_
    refine l_nil ?_
    replace hbase := hbase.chg ch20 (not_no _)
    replace hbase := hbase.chg ch25 (is_ne rfl)
    replace r_g_v := (r_g_v.chg ch20 (not_no _)).chg ch25 (is_ne rfl)
    replace r_r_v := (r_r_v.chg ch20 (not_no _)).chg ch25 (is_ne rfl)
    replace r_to_v := (r_to_v.chg ch20 (not_no _)).chg ch25 (is_ne rfl)
    replace bx5 := (bx5.chg ch20 (not_no _)).chg ch25 (is_ne rfl)
    refine back7 (v24, (all ++ [(e : Int)]), e + 1, g22) _ _ ⟨hbase, (by exact zs1), (by exact zs2), (by exact zs3), rfl, (by exact zs8), rfl, r_g_v, r_r_v, r_to_v, bx5, o26, by omega, ?_⟩ ?_
    · show (all ++ [(e : Int)]) = iotaI (e + 1)
      rw [hinv1, iota_succ]
    · show Int.toNat (((List.length g.2 : Int) : Int) - ((e + 1) : Int)) < Int.toNat (((List.length g.2 : Int) : Int) - (e : Int))
      omega
   refine run_cond_f rfl (decide_eq_false p7) ?_
   refine run_exit rfl ?_
   refine run_seq ?_
   refine run_seq ?_
   refine run_region rfl ?_
   refine l_val (v := Value.int .i64 0) rfl (e_assign rfl) ?_
   refine l_nil ?_
   refine run_block ?_
   refine run_loop (σ := Value × (List Int) × Nat × Cmap) (fun ⟨stay_v, stay, v, gq⟩ f w => Base w0 gq w ∧ f 1 = r_v ∧ f 2 = to_v ∧ f 3 = Value.pointer (some ⟨b3, 0, none⟩) ∧ f 7 = all_v ∧ f 8 = stay_v ∧ f 10 = Value.int .i64 (v : Int) ∧ Sl gq (is 0) w g_v g.2 ∧ Sl gq (is 0) w r_v r ∧ Sl gq (is 0) w to_v to ∧ Bx gq (is 1) w b3 [Value.int .i64 g.1, g_v] ∧ Ow gq (is 3) (is 3) w all_v all ∧ Ow gq (is 5) (is 5) w stay_v stay ∧ (v : Int) ≤ (g.1 : Int) ∧ (stay = iotaI v ∧ (v : Int) ≤ g.1)) (fun ⟨stay_v, stay, v, gq⟩ => Int.toNat ((g.1 : Int) - (v : Int))) (Value.slice none 0 0, [], 0, g15) ?_ ?_
   · exact ⟨hbase, (by exact zs1), (by exact zs2), (by exact zs3), (by exact zs7), (by exact zs8), rfl, r_g_v, r_r_v, r_to_v, bx5, o_all, Ow.nil, by omega, by exact ⟨rfl, by omega⟩⟩
   clear r_g_v
   clear r_r_v
   clear r_to_v
   clear bx5
   clear o_all
   clear hbase
   rintro ⟨stay_v, stay, v, g29⟩ f27 w28 ⟨hbase, zs1, zs2, zs3, zs7, zs8, zs10, r_g_v, r_r_v, r_to_v, bx5, o_all, o_stay, hle_v, hinv2⟩ back11
   have hsl : stay.length = v := by rw [hinv2.1]; exact iota_len v
   refine run_seq ?_
   refine run_seq ?_
   refine run_region rfl ?_
   refine l_val (v := Value.int .i64 (v : Int)) rfl (e_move (by exact zs10)) ?_
   refine l_val (v := Value.pointer (some ⟨b3, 0, none⟩)) rfl (e_fieldAddr Try.underlying24 rfl rfl (by exact zs3) rfl) ?_
   refine l_val (v := Value.int .i64 g.1) rfl (e_load_bx1 tp3_p rfl bx5 rfl) ?_
   refine l_val (v := Value.bool (decide ((v : Int) < g.1))) rfl (e_lss (m := (v : Int)) (n := g.1) rfl rfl) ?_
   refine l_nil ?_
   by_cases p11 : (v : Int) < g.1
   ·
    refine run_cond_t rfl (decide_eq_true p11) ?_
    refine run_skip ?_
    refine run_seq ?_
    refine run_block ?_
    refine run_region rfl ?_
    refine l_val (v := stay_v) rfl (e_move (by exact zs8)) ?_
    refine l_val (v := Value.int .i64 (v : Int)) rfl (e_move (by exact zs10)) ?_
    refine l_op rfl ?_
    refine o_buildSlice (α := Int) g29 (is 4) (is 4) (4, 0) rfl [(v : Int)] Try.underlying35 tp3_p (by decide) (by decide) (vs := [(0, Value.int .i64 (v : Int))]) rfl rfl (.cons rfl .nil) ?_
    intro g30 w31 v32 ch33 o34
    refine l_op rfl ?_
    replace o_stay := o_stay.chg ch33 (not_no _) (not_no _)
    refine o_append (α := Int) (xs := stay) (ys := ([(v : Int)])) g30 (J := is 5) (S := is 5) (5, 0) rfl Try.underlying35 tp3_p (by decide) rfl rfl rfl o_stay o34.flat (by decide) (by first | omega | (simp; done) | (simp; omega)) ?_
    intro g35 w36 v37 ch38 o39
    clear o_stay
    refine l_val (v := v37) rfl (e_assign rfl) ?_
    refine l_nil ?_
    refine run_inBlock ?_
    clear o34
    refine run_region rfl ?_
    refine l_val (v := Value.int .i64 (v : Int)) rfl (e_move (by exact zs10)) ?_
    refine l_val (v := Value.int .i64 ((v : Int) + 1)) rfl (e_add (m := (v : Int)) (n := 1) rfl rfl (by omega)) ?_
    refine l_val (v := Value.int .i64 ((v : Int) + 1)) rfl (e_assign rfl) ?_
    refine l_nil ?_
    replace hbase := hbase.chg ch33 (not_no _)
    replace hbase := hbase.chg ch38 (is_ne rfl)
    replace r_g_v := (r_g_v.chg ch33 (not_no _)).chg ch38 (is_ne rfl)
    replace r_r_v := (r_r_v.chg ch33 (not_no _)).chg ch38 (is_ne rfl)
    replace r_to_v := (r_to_v.chg ch33 (not_no _)).chg ch38 (is_ne rfl)
    replace bx5 := (bx5.chg ch33 (not_no _)).chg ch38 (is_ne rfl)
    replace o_all := (o_all.chg ch33 (not_no _) (not_no _)).chg ch38 (is_ne rfl) (is_ne rfl)
    refine back11 (v37, (stay ++ [(v : Int)]), v + 1, g35) _ _ ⟨hbase, (by exact zs1), (by exact zs2), (by exact zs3), (by exact zs7), rfl, rfl, r_g_v, r_r_v, r_to_v, bx5, o_all, o39, by omega, ?_⟩ ?_
    · show (stay ++ [(v : Int)]) = iotaI (v + 1) ∧ ((v + 1) : Int) ≤ g.1
      exact ⟨by rw [hinv2.1, iota_succ], by omega⟩
    · show Int.toNat ((g.1 : Int) - ((v + 1) : Int)) < Int.toNat ((g.1 : Int) - (v : Int))
      omega
   have hae : all = iotaI g.2.length := by rw [hinv1, show e = g.2.length by omega]
   have hse : stay = iotaI g.1.toNat := by rw [hinv2.1, show v = g.1.toNat by omega]
   rw [← hae] at hsub
   rw [← hse] at hmvd
   refine run_cond_f rfl (decide_eq_false p11) ?_
   refine run_exit rfl ?_
   refine run_seq ?_
   refine run_region rfl ?_
   refine l_val (v := Value.agg (List.toArray [Value.int .i64 g.1, g_v])) rfl (e_load_bxN (ds := [Value.int .i64 g.1, g_v]) tp24_p (by exact zs3) bx5 rfl rfl) ?_
   refine l_val (v := r_v) rfl (e_move (by exact zs1)) ?_
   refine l_val (v := all_v) rfl (e_move (by exact zs7)) ?_
   refine l_op rfl ?_
   refine o_callx (e_call (vals := [Value.agg (List.toArray [Value.int .i64 g.1, g_v]), r_v, all_v]) Try.func34 bd34_p nm34_p rfl) (RSub_ok w28 g g_v (r_g_v).ro r r_v (r_r_v).ro all all_v (o_all.flat).ro) ?_
   rintro ⟨d41, v43, v45⟩ w40 ⟨fr42, o44, o46⟩
   obtain ⟨g47, hg47⟩ : ∃ q, q = glue w28.heap.size g29 d41 (fun n => if n = 1 then 6 else if n = 2 then 7 else 0) := ⟨_, rfl⟩
   have ch48 := chg_glue fr42.below g29 d41 (fun n => if n = 1 then 6 else if n = 2 then 7 else 0)
   rw [← hg47] at ch48
   replace o44 := o44.glue (γ := g29) (ren := (fun n => if n = 1 then 6 else if n = 2 then 7 else 0)) (k := 6) fr42.col rfl rfl
   rw [← hg47] at o44
   replace o46 := o46.glue (γ := g29) (ren := (fun n => if n = 1 then 6 else if n = 2 then 7 else 0)) (k := 7) fr42.col rfl rfl
   rw [← hg47] at o46
   clear hg47
   refine l_val (v := Value.tuple (List.toArray [Value.agg (List.toArray [Value.int .i64 (((rsubR g r all).1).1), v43]), v45, Value.int .i64 ((rsubR g r all).2.2)])) rfl (e_move rfl) ?_
   refine l_val (v := Value.agg (List.toArray [Value.int .i64 (((rsubR g r all).1).1), v43])) rfl (e_extract rfl rfl) ?_
   refine l_val (v := v45) rfl (e_extract rfl rfl) ?_
   refine l_val (v := Value.int .i64 ((rsubR g r all).2.2)) rfl (e_extract rfl rfl) ?_
   refine l_op rfl ?_
   refine o_alloc g47 (is 8) (8, 0) rfl tp24_p ?_
   intro g52 w49 b51 ch50 bx53
   replace bx53 : Bx g52 (is 8) w49 b51 [Value.int .i64 0, Value.slice none 0 0] := bx53
   refine l_op rfl ?_
   replace o44 := o44.chg ch50 (not_no _) (not_no _)
   refine o_store_bx (cs' := [Value.int .i64 (((rsubR g r all).1).1), v43]) tp24_p rfl rfl bx53 rfl (Nat.le_of_ble_eq_true rfl) (AllOne.all (.cons rfl (.cons (sl_one o44.flat) .nil))) rfl ?_
   intro w54 ch55 bx56
   clear bx53
   refine l_val (v := v45) rfl (e_assign rfl) ?_
   refine l_val (v := Value.int .i64 ((rsubR g r all).2.2)) rfl (e_assign rfl) ?_
   refine l_nil ?_
   refine run_seq ?_
   clear o_all
   refine run_region rfl ?_
   have C57 : Chg (inl [8]) _ _ _ _ := (ch48.n).seq ((ch50.n).seq (ch55.l rfl))
   replace bx5 := bx5.chg C57 (is_nl rfl)
   refine l_val (v := Value.agg (List.toArray [Value.int .i64 g.1, g_v])) rfl (e_load_bxN (ds := [Value.int .i64 g.1, g_v]) tp24_p (by exact zs3) bx5 rfl rfl) ?_
   refine l_val (v := r_v) rfl (e_move (by exact zs1)) ?_
   refine l_val (v := stay_v) rfl (e_move (by exact zs8)) ?_
   replace r_g_v := r_g_v.chg C57 (is_nl rfl)
   replace r_r_v := r_r_v.chg C57 (is_nl rfl)
   replace o_stay := o_stay.chg C57 (is_nl rfl) (is_nl rfl)
   refine l_op rfl ?_
   refine o_callx (e_call (vals := [Value.agg (List.toArray [Value.int .i64 g.1, g_v]), r_v, stay_v]) Try.func36 bd36_p nm36_p rfl) (RMoved_ok w54 g g_v (r_g_v).ro r r_v (r_r_v).ro stay stay_v (o_stay.flat).ro) ?_
   rintro ⟨d59, v61, v63⟩ w58 ⟨fr60, o62, o64⟩
   obtain ⟨g65, hg65⟩ : ∃ q, q = glue w54.heap.size g52 d59 (fun n => if n = 1 then 9 else if n = 2 then 10 else 0) := ⟨_, rfl⟩
   have ch66 := chg_glue fr60.below g52 d59 (fun n => if n = 1 then 9 else if n = 2 then 10 else 0)
   rw [← hg65] at ch66
   replace o62 := o62.glue (γ := g52) (ren := (fun n => if n = 1 then 9 else if n = 2 then 10 else 0)) (k := 9) fr60.col rfl rfl
   rw [← hg65] at o62
   replace o64 := o64.glue (γ := g52) (ren := (fun n => if n = 1 then 9 else if n = 2 then 10 else 0)) (k := 10) fr60.col rfl rfl
   rw [← hg65] at o64
   clear hg65
   refine l_val (v := Value.tuple (List.toArray [Value.agg (List.toArray [Value.int .i64 (((rmovedR g r stay).1).1), v61]), v63, Value.int .i64 ((rmovedR g r stay).2.2)])) rfl (e_move rfl) ?_
   refine l_val (v := Value.agg (List.toArray [Value.int .i64 (((rmovedR g r stay).1).1), v61])) rfl (e_extract rfl rfl) ?_
   refine l_val (v := v63) rfl (e_extract rfl rfl) ?_
   refine l_val (v := Value.int .i64 ((rmovedR g r stay).2.2)) rfl (e_extract rfl rfl) ?_
   refine l_op rfl ?_
   refine o_alloc g65 (is 11) (11, 0) rfl tp24_p ?_
   intro g70 w67 b69 ch68 bx71
   replace bx71 : Bx g70 (is 11) w67 b69 [Value.int .i64 0, Value.slice none 0 0] := bx71
   refine l_op rfl ?_
   replace o62 := o62.chg ch68 (not_no _) (not_no _)
   refine o_store_bx (cs' := [Value.int .i64 (((rmovedR g r stay).1).1), v61]) tp24_p rfl rfl bx71 rfl (Nat.le_of_ble_eq_true rfl) (AllOne.all (.cons rfl (.cons (sl_one o62.flat) .nil))) rfl ?_
   intro w72 ch73 bx74
   clear bx71
   refine l_val (v := v63) rfl (e_assign rfl) ?_
   refine l_val (v := Value.int .i64 ((rmovedR g r stay).2.2)) rfl (e_assign rfl) ?_
   refine l_nil ?_
   refine run_seq ?_
   clear o_stay
   refine run_region rfl ?_
   have C75 : Chg (inl [11]) _ _ _ _ := (ch66.n).seq ((ch68.n).seq (ch73.l rfl))
   replace bx5 := bx5.chg C75 (is_nl rfl)
   refine l_val (v := Value.agg (List.toArray [Value.int .i64 g.1, g_v])) rfl (e_load_bxN (ds := [Value.int .i64 g.1, g_v]) tp24_p (by exact zs3) bx5 rfl rfl) ?_
   refine l_val (v := r_v) rfl (e_move (by exact zs1)) ?_
   replace r_g_v := r_g_v.chg C75 (is_nl rfl)
   replace r_r_v := r_r_v.chg C75 (is_nl rfl)
   refine l_op rfl ?_
   refine o_callx (e_call (vals := [Value.agg (List.toArray [Value.int .i64 g.1, g_v]), r_v]) Try.func18 bd18_p nm18_p rfl) (RCanon_ok w72 g g_v (r_g_v).ro r r_v (r_r_v).ro) ?_
   rintro ⟨d77, v79⟩ w76 ⟨fr78, o80⟩
   obtain ⟨g81, hg81⟩ : ∃ q, q = glue w72.heap.size g70 d77 (fun n => if n = 1 then 12 else 0) := ⟨_, rfl⟩
   have ch82 := chg_glue fr78.below g70 d77 (fun n => if n = 1 then 12 else 0)
   rw [← hg81] at ch82
   replace o80 := o80.glue (γ := g70) (ren := (fun n => if n = 1 then 12 else 0)) (k := 12) fr78.col rfl rfl
   rw [← hg81] at o80
   clear hg81
   refine l_val (v := Value.tuple (List.toArray [v79, Value.int .i64 ((canonR g r).2)])) rfl (e_move rfl) ?_
   refine l_val (v := v79) rfl (e_extract rfl rfl) ?_
   refine l_val (v := Value.int .i64 ((canonR g r).2)) rfl (e_extract rfl rfl) ?_
   refine l_val (v := v79) rfl (e_assign rfl) ?_
   refine l_val (v := Value.int .i64 ((canonR g r).2)) rfl (e_assign rfl) ?_
   refine l_nil ?_
   refine run_seq ?_
   refine run_seq ?_
   refine run_region rfl ?_
   refine l_val (v := Value.int .i64 ((rsubR g r all).2.2)) rfl (e_move rfl) ?_
   refine l_val (v := Value.bool (!(decide (((rsubR g r all).2.2) = 0)))) rfl (e_neq (m := (rsubR g r all).2.2) (n := 0) rfl rfl) ?_
   refine l_val (v := Value.bool (!(decide (((rsubR g r all).2.2) = 0)))) rfl (e_move rfl) ?_
   have q86 : ((rsubR g r all).2.2) = 0 := by first | rfl | (rw [hsub]; done) | (rw [hmvd]; done) | (rw [hsub]; exact decide_eq_true rfl) | (rw [hmvd]; exact decide_eq_true rfl) | (rw [hsub, hcan]; exact decide_eq_true rfl) | (rw [hmvd, hcan]; exact decide_eq_true rfl) | (rw [hgen]; exact hg0) | (rw [hgen]; done) | (rw [hfac]; done) | (rw [hfac]; exact decide_eq_true rfl)
   refine l_val (v := Value.int .i64 ((rmovedR g r stay).2.2)) (want_y rfl rfl rfl (congrArg Bool.not (decide_eq_true q86))) (e_move rfl) ?_
   refine l_val (v := Value.bool (!(decide (((rmovedR g r stay).2.2) = 0)))) (want_y rfl rfl rfl (congrArg Bool.not (decide_eq_true q86))) (e_neq (m := (rmovedR g r stay).2.2) (n := 0) rfl rfl) ?_
   refine l_val (v := Value.bool (!(decide (((rmovedR g r stay).2.2) = 0)))) rfl (e_pick_f rfl (congrArg Bool.not (decide_eq_true q86)) rfl) ?_
   refine l_val (v := Value.bool (!(decide (((rmovedR g r stay).2.2) = 0)))) rfl (e_move rfl) ?_
   have q90 : ((rmovedR g r stay).2.2) = 0 := by first | rfl | (rw [hsub]; done) | (rw [hmvd]; done) | (rw [hsub]; exact decide_eq_true rfl) | (rw [hmvd]; exact decide_eq_true rfl) | (rw [hsub, hcan]; exact decide_eq_true rfl) | (rw [hmvd, hcan]; exact decide_eq_true rfl) | (rw [hgen]; exact hg0) | (rw [hgen]; done) | (rw [hfac]; done) | (rw [hfac]; exact decide_eq_true rfl)
   have C83 : Chg (inl [11]) _ _ _ _ := (ch66.n).seq ((ch68.n).seq ((ch73.l rfl).seq (ch82.n)))
   replace bx56 := bx56.chg C83 (is_nl rfl)
   refine l_val (v := Value.agg (List.toArray [Value.int .i64 (((rsubR g r all).1).1), v43])) (want_y rfl rfl rfl (congrArg Bool.not (decide_eq_true q90))) (e_load_bxN (ds := [Value.int .i64 (((rsubR g r all).1).1), v43]) tp24_p rfl bx56 rfl rfl) ?_
   replace bx5 := bx5.chg ch82 (not_no _)
   refine l_val (v := Value.agg (List.toArray [Value.int .i64 g.1, g_v])) (want_y rfl rfl rfl (congrArg Bool.not (decide_eq_true q90))) (e_load_bxN (ds := [Value.int .i64 g.1, g_v]) tp24_p (by exact zs3) bx5 rfl rfl) ?_
   have C84 : Chg (inl [8, 11]) _ _ _ _ := (ch55.l rfl).seq ((ch66.n).seq ((ch68.n).seq ((ch73.l rfl).seq (ch82.n))))
   replace o44 := o44.chg C84 (is_nl rfl) (is_nl rfl)
   replace r_g_v := r_g_v.chg ch82 (not_no _)
   refine l_op (want_y rfl rfl rfl (congrArg Bool.not (decide_eq_true q90))) ?_
   refine o_call (v := Value.bool (decide (((rsubR g r all).1) = g))) (e_call (vals := [Value.agg (List.toArray [Value.int .i64 (((rsubR g r all).1).1), v43]), Value.agg (List.toArray [Value.int .i64 g.1, g_v])]) Try.func37 bd37_p nm37_p rfl) (rSame_ok w76 ((rsubR g r all).1) v43 (o44.flat).ro g g_v (r_g_v).ro) ?_
   intro w85 hb86
   replace hb86 := chg_below hb86 g81
   refine l_val (v := Value.bool (!(decide (((rsubR g r all).1) = g)))) (want_y rfl rfl rfl (congrArg Bool.not (decide_eq_true q90))) (e_not (b := (decide (((rsubR g r all).1) = g))) rfl) ?_
   refine l_val (v := Value.bool (!(decide (((rsubR g r all).1) = g)))) rfl (e_pick_f rfl (congrArg Bool.not (decide_eq_true q90)) rfl) ?_
   refine l_val (v := Value.bool (!(decide (((rsubR g r all).1) = g)))) rfl (e_move rfl) ?_
   have q96 : (decide (((rsubR g r all).1) = g)) = true := by first | rfl | (rw [hsub]; done) | (rw [hmvd]; done) | (rw [hsub]; exact decide_eq_true rfl) | (rw [hmvd]; exact decide_eq_true rfl) | (rw [hsub, hcan]; exact decide_eq_true rfl) | (rw [hmvd, hcan]; exact decide_eq_true rfl) | (rw [hgen]; exact hg0) | (rw [hgen]; done) | (rw [hfac]; done) | (rw [hfac]; exact decide_eq_true rfl)
   replace bx74 := (bx74.chg ch82 (not_no _)).chg hb86 (not_no _)
   refine l_val (v := Value.agg (List.toArray [Value.int .i64 (((rmovedR g r stay).1).1), v61])) (want_y rfl rfl rfl (congrArg Bool.not q96)) (e_load_bxN (ds := [Value.int .i64 (((rmovedR g r stay).1).1), v61]) tp24_p rfl bx74 rfl rfl) ?_
   replace bx5 := bx5.chg hb86 (not_no _)
   refine l_val (v := Value.agg (List.toArray [Value.int .i64 g.1, g_v])) (want_y rfl rfl rfl (congrArg Bool.not q96)) (e_load_bxN (ds := [Value.int .i64 g.1, g_v]) tp24_p (by exact zs3) bx5 rfl rfl) ?_
   have C87 : Chg (inl [11]) _ _ _ _ := (ch73.l rfl).seq ((ch82.n).seq (hb86.n))
   replace o62 := o62.chg C87 (is_nl rfl) (is_nl rfl)
   replace r_g_v := r_g_v.chg hb86 (not_no _)
   refine l_op (want_y rfl rfl rfl (congrArg Bool.not q96)) ?_
   refine o_call (v := Value.bool (decide (((rmovedR g r stay).1) = g))) (e_call (vals := [Value.agg (List.toArray [Value.int .i64 (((rmovedR g r stay).1).1), v61]), Value.agg (List.toArray [Value.int .i64 g.1, g_v])]) Try.func37 bd37_p nm37_p rfl) (rSame_ok w85 ((rmovedR g r stay).1) v61 (o62.flat).ro g g_v (r_g_v).ro) ?_
   intro w88 hb89
   replace hb89 := chg_below hb89 g81
   refine l_val (v := Value.bool (!(decide (((rmovedR g r stay).1) = g)))) (want_y rfl rfl rfl (congrArg Bool.not q96)) (e_not (b := (decide (((rmovedR g r stay).1) = g))) rfl) ?_
   refine l_val (v := Value.bool (!(decide (((rmovedR g r stay).1) = g)))) rfl (e_pick_f rfl (congrArg Bool.not q96) rfl) ?_
   refine l_val (v := Value.bool (!(decide (((rmovedR g r stay).1) = g)))) rfl (e_move rfl) ?_
   have q102 : (decide (((rmovedR g r stay).1) = g)) = true := by first | rfl | (rw [hsub]; done) | (rw [hmvd]; done) | (rw [hsub]; exact decide_eq_true rfl) | (rw [hmvd]; exact decide_eq_true rfl) | (rw [hsub, hcan]; exact decide_eq_true rfl) | (rw [hmvd, hcan]; exact decide_eq_true rfl) | (rw [hgen]; exact hg0) | (rw [hgen]; done) | (rw [hfac]; done) | (rw [hfac]; exact decide_eq_true rfl)
   refine l_val (v := v45) (want_y rfl rfl rfl (congrArg Bool.not q102)) (e_move rfl) ?_
   refine l_val (v := v79) (want_y rfl rfl rfl (congrArg Bool.not q102)) (e_move rfl) ?_
   have C90 : Chg (inl [8, 11]) _ _ _ _ := (ch50.n).seq ((ch55.l rfl).seq ((ch66.n).seq ((ch68.n).seq ((ch73.l rfl).seq ((ch82.n).seq ((hb86.n).seq (hb89.n)))))))
   replace o46 := o46.chg C90 (is_nl rfl)
   replace o80 := (o80.chg hb86 (not_no _)).chg hb89 (not_no _)
   refine l_op (want_y rfl rfl rfl (congrArg Bool.not q102)) ?_
   refine o_call (v := Value.bool (decide (((rsubR g r all).2.1) = ((canonR g r).1)))) (e_call (vals := [v45, v79]) Try.func19 bd19_p nm19_p rfl) (Lists_ok w88 ((rsubR g r all).2.1) v45 (o46.sl).ro ((canonR g r).1) v79 (o80.sl).ro) ?_
   intro w91 hb92
   replace hb92 := chg_below hb92 g81
   refine l_val (v := Value.bool (!(decide (((rsubR g r all).2.1) = ((canonR g r).1))))) (want_y rfl rfl rfl (congrArg Bool.not q102)) (e_not (b := (decide (((rsubR g r all).2.1) = ((canonR g r).1)))) rfl) ?_
   refine l_val (v := Value.bool (!(decide (((rsubR g r all).2.1) = ((canonR g r).1))))) rfl (e_pick_f rfl (congrArg Bool.not q102) rfl) ?_
   refine l_val (v := Value.bool (!(decide (((rsubR g r all).2.1) = ((canonR g r).1))))) rfl (e_move rfl) ?_
   have q108 : (decide (((rsubR g r all).2.1) = ((canonR g r).1))) = true := by first | rfl | (rw [hsub]; done) | (rw [hmvd]; done) | (rw [hsub]; exact decide_eq_true rfl) | (rw [hmvd]; exact decide_eq_true rfl) | (rw [hsub, hcan]; exact decide_eq_true rfl) | (rw [hmvd, hcan]; exact decide_eq_true rfl) | (rw [hgen]; exact hg0) | (rw [hgen]; done) | (rw [hfac]; done) | (rw [hfac]; exact decide_eq_true rfl)
   refine l_val (v := v63) (want_y rfl rfl rfl (congrArg Bool.not q108)) (e_move rfl) ?_
   refine l_val (v := v79) (want_y rfl rfl rfl (congrArg Bool.not q108)) (e_move rfl) ?_
   have C93 : Chg (inl [11]) _ _ _ _ := (ch68.n).seq ((ch73.l rfl).seq ((ch82.n).seq ((hb86.n).seq ((hb89.n).seq (hb92.n)))))
   replace o64 := o64.chg C93 (is_nl rfl)
   replace o80 := o80.chg hb92 (not_no _)
   refine l_op (want_y rfl rfl rfl (congrArg Bool.not q108)) ?_
   refine o_call (v := Value.bool (decide (((rmovedR g r stay).2.1) = ((canonR g r).1)))) (e_call (vals := [v63, v79]) Try.func19 bd19_p nm19_p rfl) (Lists_ok w91 ((rmovedR g r stay).2.1) v63 (o64.sl).ro ((canonR g r).1) v79 (o80.sl).ro) ?_
   intro w94 hb95
   replace hb95 := chg_below hb95 g81
   refine l_val (v := Value.bool (!(decide (((rmovedR g r stay).2.1) = ((canonR g r).1))))) (want_y rfl rfl rfl (congrArg Bool.not q108)) (e_not (b := (decide (((rmovedR g r stay).2.1) = ((canonR g r).1)))) rfl) ?_
   refine l_val (v := Value.bool (!(decide (((rmovedR g r stay).2.1) = ((canonR g r).1))))) rfl (e_pick_f rfl (congrArg Bool.not q108) rfl) ?_
   refine l_nil ?_
   have p17 : (decide (((rmovedR g r stay).2.1) = ((canonR g r).1))) = true := by first | rfl | (rw [hsub]; done) | (rw [hmvd]; done) | (rw [hsub]; exact decide_eq_true rfl) | (rw [hmvd]; exact decide_eq_true rfl) | (rw [hsub, hcan]; exact decide_eq_true rfl) | (rw [hmvd, hcan]; exact decide_eq_true rfl) | (rw [hgen]; exact hg0) | (rw [hgen]; done) | (rw [hfac]; done) | (rw [hfac]; exact decide_eq_true rfl)
   refine run_cond_f rfl (congrArg Bool.not p17) ?_
   refine run_skip ?_
   refine run_seq ?_
   clear o44
   clear o46
   clear bx56
   clear o62
   clear o64
   clear bx74
   clear o80
   refine run_region rfl ?_
   have C96 : Chg (inl []) _ _ _ _ := (hb89.n).seq ((hb92.n).seq (hb95.n))
   replace bx5 := bx5.chg C96 (is_nl rfl)
   refine l_val (v := Value.agg (List.toArray [Value.int .i64 g.1, g_v])) rfl (e_load_bxN (ds := [Value.int .i64 g.1, g_v]) tp24_p (by exact zs3) bx5 rfl rfl) ?_
   refine l_val (v := r_v) rfl (e_move (by exact zs1)) ?_
   refine l_val (v := to_v) rfl (e_move (by exact zs2)) ?_
   replace r_g_v := r_g_v.chg C96 (is_nl rfl)
   have C97 : Chg (inl []) _ _ _ _ := (ch82.n).seq ((hb86.n).seq ((hb89.n).seq ((hb92.n).seq (hb95.n))))
   replace r_r_v := r_r_v.chg C97 (is_nl rfl)
   have C98 : Chg (inl [8, 11]) _ _ _ _ := (ch48.n).seq ((ch50.n).seq ((ch55.l rfl).seq ((ch66.n).seq ((ch68.n).seq ((ch73.l rfl).seq ((ch82.n).seq ((hb86.n).seq ((hb89.n).seq ((hb92.n).seq (hb95.n))))))))))
   replace r_to_v := r_to_v.chg C98 (is_nl rfl)
   refine l_op rfl ?_
   refine o_callx (e_call (vals := [Value.agg (List.toArray [Value.int .i64 g.1, g_v]), r_v, to_v]) Try.func36 bd36_p nm36_p rfl) (RMoved_ok w94 g g_v (r_g_v).ro r r_v (r_r_v).ro to to_v (r_to_v).ro) ?_
   rintro ⟨d100, v102, v104⟩ w99 ⟨fr101, o103, o105⟩
   obtain ⟨g106, hg106⟩ : ∃ q, q = glue w94.heap.size g81 d100 (fun n => if n = 1 then 13 else if n = 2 then 14 else 0) := ⟨_, rfl⟩
   have ch107 := chg_glue fr101.below g81 d100 (fun n => if n = 1 then 13 else if n = 2 then 14 else 0)
   rw [← hg106] at ch107
   replace o103 := o103.glue (γ := g81) (ren := (fun n => if n = 1 then 13 else if n = 2 then 14 else 0)) (k := 13) fr101.col rfl rfl
   rw [← hg106] at o103
   replace o105 := o105.glue (γ := g81) (ren := (fun n => if n = 1 then 13 else if n = 2 then 14 else 0)) (k := 14) fr101.col rfl rfl
   rw [← hg106] at o105
   clear hg106
   refine l_val (v := Value.tuple (List.toArray [Value.agg (List.toArray [Value.int .i64 (((rmovedR g r to).1).1), v102]), v104, Value.int .i64 ((rmovedR g r to).2.2)])) rfl (e_move rfl) ?_
   refine l_val (v := Value.agg (List.toArray [Value.int .i64 (((rmovedR g r to).1).1), v102])) rfl (e_extract rfl rfl) ?_
   refine l_val (v := v104) rfl (e_extract rfl rfl) ?_
   refine l_val (v := Value.int .i64 ((rmovedR g r to).2.2)) rfl (e_extract rfl rfl) ?_
   refine l_op rfl ?_
   refine o_alloc g106 (is 15) (15, 0) rfl tp24_p ?_
   intro g111 w108 b110 ch109 bx112
   replace bx112 : Bx g111 (is 15) w108 b110 [Value.int .i64 0, Value.slice none 0 0] := bx112
   refine l_op rfl ?_
   replace o103 := o103.chg ch109 (not_no _) (not_no _)
   refine o_store_bx (cs' := [Value.int .i64 (((rmovedR g r to).1).1), v102]) tp24_p rfl rfl bx112 rfl (Nat.le_of_ble_eq_true rfl) (AllOne.all (.cons rfl (.cons (sl_one o103.flat) .nil))) rfl ?_
   intro w113 ch114 bx115
   clear bx112
   refine l_val (v := v104) rfl (e_assign rfl) ?_
   refine l_val (v := Value.int .i64 ((rmovedR g r to).2.2)) rfl (e_assign rfl) ?_
   refine l_nil ?_
   refine run_seq ?_
   refine run_seq ?_
   refine run_region rfl ?_
   refine l_val (v := Value.int .i64 ((rmovedR g r to).2.2)) rfl (e_move rfl) ?_
   refine l_val (v := Value.bool (!(decide (((rmovedR g r to).2.2) = 0)))) rfl (e_neq (m := (rmovedR g r to).2.2) (n := 0) rfl rfl) ?_
   refine l_nil ?_
   by_cases p20 : ((rmovedR g r to).2.2) = 0
   ·
    obtain ⟨hgen, hfac, hg0⟩ := moved_keeps hm hrp p20
    refine run_cond_f rfl (congrArg Bool.not (decide_eq_true p20)) ?_
    refine run_skip ?_
    refine run_seq ?_
    refine run_region rfl ?_
    have C116 : Chg (inl [15]) _ _ _ _ := (ch107.n).seq ((ch109.n).seq (ch114.l rfl))
    replace bx5 := bx5.chg C116 (is_nl rfl)
    refine l_val (v := Value.agg (List.toArray [Value.int .i64 g.1, g_v])) rfl (e_load_bxN (ds := [Value.int .i64 g.1, g_v]) tp24_p (by exact zs3) bx5 rfl rfl) ?_
    refine l_val (v := r_v) rfl (e_move (by exact zs1)) ?_
    replace r_g_v := r_g_v.chg C116 (is_nl rfl)
    replace r_r_v := r_r_v.chg C116 (is_nl rfl)
    refine l_op rfl ?_
    refine o_call (v := Value.tuple (List.toArray [Value.int .i64 ((genusR g r).1), Value.int .i64 ((genusR g r).2)])) (e_call (vals := [Value.agg (List.toArray [Value.int .i64 g.1, g_v]), r_v]) Try.func11 bd11_p nm11_p rfl) (Genus_ok w113 g g_v (r_g_v).ro r r_v (r_r_v).ro) ?_
    intro w117 hb118
    replace hb118 := chg_below hb118 g111
    refine l_val (v := Value.tuple (List.toArray [Value.int .i64 ((genusR g r).1), Value.int .i64 ((genusR g r).2)])) rfl (e_move rfl) ?_
    refine l_val (v := Value.int .i64 ((genusR g r).1)) rfl (e_extract rfl rfl) ?_
    refine l_val (v := Value.int .i64 ((genusR g r).2)) rfl (e_extract rfl rfl) ?_
    refine l_val (v := Value.int .i64 ((genusR g r).1)) rfl (e_assign rfl) ?_
    refine l_val (v := Value.int .i64 ((genusR g r).2)) rfl (e_assign rfl) ?_
    refine l_nil ?_
    refine run_seq ?_
    refine run_region rfl ?_
    replace bx115 := bx115.chg hb118 (not_no _)
    refine l_val (v := Value.agg (List.toArray [Value.int .i64 (((rmovedR g r to).1).1), v102])) rfl (e_load_bxN (ds := [Value.int .i64 (((rmovedR g r to).1).1), v102]) tp24_p rfl bx115 rfl rfl) ?_
    refine l_val (v := v104) rfl (e_move rfl) ?_
    replace o103 := (o103.chg ch114 (is_ne rfl) (is_ne rfl)).chg hb118 (not_no _) (not_no _)
    have C119 : Chg (inl [15]) _ _ _ _ := (ch109.n).seq ((ch114.l rfl).seq (hb118.n))
    replace o105 := o105.chg C119 (is_nl rfl)
    refine l_op rfl ?_
    refine o_call (v := Value.tuple (List.toArray [Value.int .i64 ((genusR ((rmovedR g r to).1) ((rmovedR g r to).2.1)).1), Value.int .i64 ((genusR ((rmovedR g r to).1) ((rmovedR g r to).2.1)).2)])) (e_call (vals := [Value.agg (List.toArray [Value.int .i64 (((rmovedR g r to).1).1), v102]), v104]) Try.func11 bd11_p nm11_p rfl) (Genus_ok w117 ((rmovedR g r to).1) v102 (o103.flat).ro ((rmovedR g r to).2.1) v104 (o105.sl).ro) ?_
    intro w120 hb121
    replace hb121 := chg_below hb121 g111
    refine l_val (v := Value.tuple (List.toArray [Value.int .i64 ((genusR ((rmovedR g r to).1) ((rmovedR g r to).2.1)).1), Value.int .i64 ((genusR ((rmovedR g r to).1) ((rmovedR g r to).2.1)).2)])) rfl (e_move rfl) ?_
    refine l_val (v := Value.int .i64 ((genusR ((rmovedR g r to).1) ((rmovedR g r to).2.1)).1)) rfl (e_extract rfl rfl) ?_
    refine l_val (v := Value.int .i64 ((genusR ((rmovedR g r to).1) ((rmovedR g r to).2.1)).2)) rfl (e_extract rfl rfl) ?_
    refine l_val (v := Value.int .i64 ((genusR ((rmovedR g r to).1) ((rmovedR g r to).2.1)).1)) rfl (e_assign rfl) ?_
    refine l_val (v := Value.int .i64 ((genusR ((rmovedR g r to).1) ((rmovedR g r to).2.1)).2)) rfl (e_assign rfl) ?_
    refine l_nil ?_
    refine run_seq ?_
    refine run_region rfl ?_
    replace bx5 := (bx5.chg hb118 (not_no _)).chg hb121 (not_no _)
    refine l_val (v := Value.agg (List.toArray [Value.int .i64 g.1, g_v])) rfl (e_load_bxN (ds := [Value.int .i64 g.1, g_v]) tp24_p (by exact zs3) bx5 rfl rfl) ?_
    refine l_val (v := r_v) rfl (e_move (by exact zs1)) ?_
    replace r_g_v := (r_g_v.chg hb118 (not_no _)).chg hb121 (not_no _)
    replace r_r_v := (r_r_v.chg hb118 (not_no _)).chg hb121 (not_no _)
    refine l_op rfl ?_
    refine o_callx (e_call (vals := [Value.agg (List.toArray [Value.int .i64 g.1, g_v]), r_v]) Try.func10 bd10_p nm10_p rfl) (Faces_ok w120 g g_v (r_g_v).ro r r_v (r_r_v).ro) ?_
    rintro ⟨d123, v125⟩ w122 ⟨fr124, o126⟩
    obtain ⟨g127, hg127⟩ : ∃ q, q = glue w120.heap.size g111 d123 (fun n => if n = 1 then 16 else 0) := ⟨_, rfl⟩
    have ch128 := chg_glue fr124.below g111 d123 (fun n => if n = 1 then 16 else 0)
    rw [← hg127] at ch128
    replace o126 := o126.glue (γ := g111) (ren := (fun n => if n = 1 then 16 else 0)) (k := 16) fr124.col rfl rfl
    rw [← hg127] at o126
    clear hg127
    refine l_val (v := Value.tuple (List.toArray [v125, Value.int .i64 ((facesR g r).2)])) rfl (e_move rfl) ?_
    refine l_val (v := v125) rfl (e_extract rfl rfl) ?_
    refine l_val (v := Value.int .i64 ((facesR g r).2)) rfl (e_extract rfl rfl) ?_
    refine l_val (v := v125) rfl (e_assign rfl) ?_
    refine l_val (v := Value.int .i64 ((facesR g r).2)) rfl (e_assign rfl) ?_
    refine l_nil ?_
    refine run_seq ?_
    clear bx5
    refine run_region rfl ?_
    replace bx115 := (bx115.chg hb121 (not_no _)).chg ch128 (not_no _)
    refine l_val (v := Value.agg (List.toArray [Value.int .i64 (((rmovedR g r to).1).1), v102])) rfl (e_load_bxN (ds := [Value.int .i64 (((rmovedR g r to).1).1), v102]) tp24_p rfl bx115 rfl rfl) ?_
    refine l_val (v := v104) rfl (e_move rfl) ?_
    replace o103 := (o103.chg hb121 (not_no _) (not_no _)).chg ch128 (not_no _) (not_no _)
    replace o105 := (o105.chg hb121 (not_no _)).chg ch128 (not_no _)
    refine l_op rfl ?_
    refine o_callx (e_call (vals := [Value.agg (List.toArray [Value.int .i64 (((rmovedR g r to).1).1), v102]), v104]) Try.func10 bd10_p nm10_p rfl) (Faces_ok w122 ((rmovedR g r to).1) v102 (o103.flat).ro ((rmovedR g r to).2.1) v104 (o105.sl).ro) ?_
    rintro ⟨d130, v132⟩ w129 ⟨fr131, o133⟩
    obtain ⟨g134, hg134⟩ : ∃ q, q = glue w122.heap.size g127 d130 (fun n => if n = 1 then 17 else 0) := ⟨_, rfl⟩
    have ch135 := chg_glue fr131.below g127 d130 (fun n => if n = 1 then 17 else 0)
    rw [← hg134] at ch135
    replace o133 := o133.glue (γ := g127) (ren := (fun n => if n = 1 then 17 else 0)) (k := 17) fr131.col rfl rfl
    rw [← hg134] at o133
    clear hg134
    refine l_val (v := Value.tuple (List.toArray [v132, Value.int .i64 ((facesR ((rmovedR g r to).1) ((rmovedR g r to).2.1)).2)])) rfl (e_move rfl) ?_
    refine l_val (v := v132) rfl (e_extract rfl rfl) ?_
    refine l_val (v := Value.int .i64 ((facesR ((rmovedR g r to).1) ((rmovedR g r to).2.1)).2)) rfl (e_extract rfl rfl) ?_
    refine l_val (v := v132) rfl (e_assign rfl) ?_
    refine l_val (v := Value.int .i64 ((facesR ((rmovedR g r to).1) ((rmovedR g r to).2.1)).2)) rfl (e_assign rfl) ?_
    refine l_nil ?_
    refine run_seq ?_
    refine run_seq ?_
    clear o103
    clear o105
    clear bx115
    refine run_region rfl ?_
    refine l_val (v := Value.int .i64 ((genusR ((rmovedR g r to).1) ((rmovedR g r to).2.1)).2)) rfl (e_move rfl) ?_
    refine l_val (v := Value.bool (!(decide (((genusR ((rmovedR g r to).1) ((rmovedR g r to).2.1)).2) = 0)))) rfl (e_neq (m := (genusR ((rmovedR g r to).1) ((rmovedR g r to).2.1)).2) (n := 0) rfl rfl) ?_
    refine l_val (v := Value.bool (!(decide (((genusR ((rmovedR g r to).1) ((rmovedR g r to).2.1)).2) = 0)))) rfl (e_move rfl) ?_
    have q153 : ((genusR ((rmovedR g r to).1) ((rmovedR g r to).2.1)).2) = 0 := by first | rfl | (rw [hsub]; done) | (rw [hmvd]; done) | (rw [hsub]; exact decide_eq_true rfl) | (rw [hmvd]; exact decide_eq_true rfl) | (rw [hsub, hcan]; exact decide_eq_true rfl) | (rw [hmvd, hcan]; exact decide_eq_true rfl) | (rw [hgen]; exact hg0) | (rw [hgen]; done) | (rw [hfac]; done) | (rw [hfac]; exact decide_eq_true rfl)
    refine l_val (v := Value.int .i64 ((genusR g r).1)) (want_y rfl rfl rfl (congrArg Bool.not (decide_eq_true q153))) (e_move rfl) ?_
    refine l_val (v := Value.int .i64 ((genusR ((rmovedR g r to).1) ((rmovedR g r to).2.1)).1)) (want_y rfl rfl rfl (congrArg Bool.not (decide_eq_true q153))) (e_move rfl) ?_
    refine l_val (v := Value.bool (!(decide (((genusR g r).1) = ((genusR ((rmovedR g r to).1) ((rmovedR g r to).2.1)).1))))) (want_y rfl rfl rfl (congrArg Bool.not (decide_eq_true q153))) (e_neq (m := (genusR g r).1) (n := (genusR ((rmovedR g r to).1) ((rmovedR g r to).2.1)).1) rfl rfl) ?_
    refine l_val (v := Value.bool (!(decide (((genusR g r).1) = ((genusR ((rmovedR g r to).1) ((rmovedR g r to).2.1)).1))))) rfl (e_pick_f rfl (congrArg Bool.not (decide_eq_true q153)) rfl) ?_
    refine l_val (v := Value.bool (!(decide (((genusR g r).1) = ((genusR ((rmovedR g r to).1) ((rmovedR g r to).2.1)).1))))) rfl (e_move rfl) ?_
    have q158 : ((genusR g r).1) = ((genusR ((rmovedR g r to).1) ((rmovedR g r to).2.1)).1) := by first | rfl | (rw [hsub]; done) | (rw [hmvd]; done) | (rw [hsub]; exact decide_eq_true rfl) | (rw [hmvd]; exact decide_eq_true rfl) | (rw [hsub, hcan]; exact decide_eq_true rfl) | (rw [hmvd, hcan]; exact decide_eq_true rfl) | (rw [hgen]; exact hg0) | (rw [hgen]; done) | (rw [hfac]; done) | (rw [hfac]; exact decide_eq_true rfl)
    refine l_val (v := v125) (want_y rfl rfl rfl (congrArg Bool.not (decide_eq_true q158))) (e_move rfl) ?_
    replace o126 := o126.chg ch135 (not_no _)
    have len136 := (o126.sl).small
    refine l_val (v := Value.int .i64 (List.length ((facesR g r).1) : Int)) (want_y rfl rfl rfl (congrArg Bool.not (decide_eq_true q158))) (e_len Try.underlying25 rfl o126.sl) ?_
    refine l_val (v := v132) (want_y rfl rfl rfl (congrArg Bool.not (decide_eq_true q158))) (e_move rfl) ?_
    have len137 := (o133.sl).small
    refine l_val (v := Value.int .i64 (List.length ((facesR ((rmovedR g r to).1) ((rmovedR g r to).2.1)).1) : Int)) (want_y rfl rfl rfl (congrArg Bool.not (decide_eq_true q158))) (e_len Try.underlying25 rfl o133.sl) ?_
    refine l_val (v := Value.bool (!(decide ((List.length ((facesR g r).1) : Int) = (List.length ((facesR ((rmovedR g r to).1) ((rmovedR g r to).2.1)).1) : Int))))) (want_y rfl rfl rfl (congrArg Bool.not (decide_eq_true q158))) (e_neq (m := (List.length ((facesR g r).1) : Int)) (n := (List.length ((facesR ((rmovedR g r to).1) ((rmovedR g r to).2.1)).1) : Int)) rfl rfl) ?_
    refine l_val (v := Value.bool (!(decide ((List.length ((facesR g r).1) : Int) = (List.length ((facesR ((rmovedR g r to).1) ((rmovedR g r to).2.1)).1) : Int))))) rfl (e_pick_f rfl (congrArg Bool.not (decide_eq_true q158)) rfl) ?_
    refine l_nil ?_
    have p26 : (List.length ((facesR g r).1) : Int) = (List.length ((facesR ((rmovedR g r to).1) ((rmovedR g r to).2.1)).1) : Int) := by first | rfl | (rw [hsub]; done) | (rw [hmvd]; done) | (rw [hsub]; exact decide_eq_true rfl) | (rw [hmvd]; exact decide_eq_true rfl) | (rw [hsub, hcan]; exact decide_eq_true rfl) | (rw [hmvd, hcan]; exact decide_eq_true rfl) | (rw [hgen]; exact hg0) | (rw [hgen]; done) | (rw [hfac]; done) | (rw [hfac]; exact decide_eq_true rfl)
    refine run_cond_f rfl (congrArg Bool.not (decide_eq_true p26)) ?_
    refine run_skip ?_
    refine run_seq ?_
    refine run_seq ?_
    refine run_region rfl ?_
    refine l_val (v := Value.int .i64 0) rfl (e_assign rfl) ?_
    refine l_nil ?_
    refine run_block ?_
    refine run_loop (σ := Nat × Cmap) (fun ⟨i, gq⟩ f w => Base w0 gq w ∧ f 24 = v125 ∧ f 26 = v132 ∧ f 28 = Value.int .i64 (i : Int) ∧ Sl gq (is 0) w g_v g.2 ∧ Sl gq (is 0) w r_v r ∧ Sl gq (is 0) w to_v to ∧ Nst gq 16 w v125 ((facesR g r).1) ∧ Nst gq 17 w v132 ((facesR ((rmovedR g r to).1) ((rmovedR g r to).2.1)).1) ∧ (i : Int) ≤ ((List.length ((facesR g r).1) : Int) : Int) ∧ (True)) (fun ⟨i, gq⟩ => Int.toNat (((List.length ((facesR g r).1) : Int) : Int) - (i : Int))) (0, g134) ?_ ?_
    have C138 : Chg (inl [8, 11, 15]) _ _ _ _ := (ch48.n).seq ((ch50.n).seq ((ch55.l rfl).seq ((ch66.n).seq ((ch68.n).seq ((ch73.l rfl).seq ((ch82.n).seq ((hb86.n).seq ((hb89.n).seq ((hb92.n).seq ((hb95.n).seq ((ch107.n).seq ((ch109.n).seq ((ch114.l rfl).seq ((hb118.n).seq ((hb121.n).seq ((ch128.n).seq (ch135.n)))))))))))))))))
    replace hbase := hbase.chg C138 (is_nl rfl)
    replace r_g_v := (r_g_v.chg ch128 (not_no _)).chg ch135 (not_no _)
    replace r_r_v := (r_r_v.chg ch128 (not_no _)).chg ch135 (not_no _)
    have C139 : Chg (inl [15]) _ _ _ _ := (ch107.n).seq ((ch109.n).seq ((ch114.l rfl).seq ((hb118.n).seq ((hb121.n).seq ((ch128.n).seq (ch135.n))))))
    replace r_to_v := r_to_v.chg C139 (is_nl rfl)
    · exact ⟨hbase, rfl, rfl, rfl, r_g_v, r_r_v, r_to_v, o126, o133, by omega, by trivial⟩
    clear r_g_v
    clear r_r_v
    clear r_to_v
    clear o126
    clear o133
    clear hbase
    rintro ⟨i, g142⟩ f140 w141 ⟨hbase, zs24, zs26, zs28, r_g_v, r_r_v, r_to_v, o126, o133, hle_i, hinv29⟩ back29
    refine run_seq ?_
    refine run_seq ?_
    refine run_region rfl ?_
    refine l_val (v := Value.int .i64 (i : Int)) rfl (e_move (by exact zs28)) ?_
    refine l_val (v := v125) rfl (e_move (by exact zs24)) ?_
    refine l_val (v := Value.int .i64 (List.length ((facesR g r).1) : Int)) rfl (e_len Try.underlying25 rfl o126.sl) ?_
    refine l_val (v := Value.bool (decide ((i : Int) < (List.length ((facesR g r).1) : Int)))) rfl (e_lss (m := (i : Int)) (n := (List.length ((facesR g r).1) : Int)) rfl rfl) ?_
    refine l_nil ?_
    by_cases p29 : (i : Int) < (List.length ((facesR g r).1) : Int)
    ·
     refine run_cond_t rfl (decide_eq_true p29) ?_
     refine run_skip ?_
     refine run_seq ?_
     refine run_block ?_
     refine run_seq ?_
     refine region_q g142 rfl mixed_p (by kernel_rfl) ?_
     intro w144 ch143
     refine q_val (v := v125) rfl (fun w' hw' => e_move (by exact zs24)) ?_
     refine q_val (v := Value.int .i64 (i : Int)) rfl (fun w' hw' => e_move (by exact zs28)) ?_
     replace o126 := o126.chg ch143 (not_no _)
     refine q_val (v := Value.pointer (some (eAddr v125 1 (Int.toNat (i : Int))))) rfl (fun w' hw' => e_indexAddr (α := List Int) (xs := (facesR g r).1) (v := v125) (i := (i : Int)) Try.underlying25 rfl rfl (o126.sl.bel hw') rfl (by omega) (by omega)) ?_
     obtain ⟨v145, cel146, r147⟩ := nst_row (r := (i : Int)) o126 (by omega) (by omega)
     refine q_val (v := v145) rfl (fun w' hw' => e_load1 tp35_p rfl (cel_bel cel146 hw')) ?_
     refine q_val (v := v132) rfl (fun w' hw' => e_move (by exact zs26)) ?_
     refine q_val (v := Value.int .i64 (i : Int)) rfl (fun w' hw' => e_move (by exact zs28)) ?_
     replace o133 := o133.chg ch143 (not_no _)
     refine q_val (v := Value.pointer (some (eAddr v132 1 (Int.toNat (i : Int))))) rfl (fun w' hw' => e_indexAddr (α := List Int) (xs := (facesR ((rmovedR g r to).1) ((rmovedR g r to).2.1)).1) (v := v132) (i := (i : Int)) Try.underlying25 rfl rfl (o133.sl.bel hw') rfl (by omega) (by omega)) ?_
     obtain ⟨v148, cel149, r150⟩ := nst_row (r := (i : Int)) o133 (by omega) (by omega)
     refine q_val (v := v148) rfl (fun w' hw' => e_load1 tp35_p rfl (cel_bel cel149 hw')) ?_
     refine q_call (v := Value.bool (decide ((gI ((facesR g r).1) (i : Int)) = (gI ((facesR ((rmovedR g r to).1) ((rmovedR g r to).2.1)).1) (i : Int))))) rfl (fun w' hw' => e_call (vals := [v145, v148]) Try.func38 bd38_p nm38_p rfl) (fun w' hw' => (rInts_ok w' (gI ((facesR g r).1) (i : Int)) v145 ((r147.row_sl.bel hw')).ro (gI ((facesR ((rmovedR g r to).1) ((rmovedR g r to).2.1)).1) (i : Int)) v148 ((r150.row_sl.bel hw')).ro).mono fun e w2 h2 => ⟨h2.1, hw'.trans (h2.2.mono hw'.size)⟩) ?_
     refine q_val (v := Value.bool (!(decide ((gI ((facesR g r).1) (i : Int)) = (gI ((facesR ((rmovedR g r to).1) ((rmovedR g r to).2.1)).1) (i : Int)))))) rfl (fun w' hw' => e_not (b := (decide ((gI ((facesR g r).1) (i : Int)) = (gI ((facesR ((rmovedR g r to).1) ((rmovedR g r to).2.1)).1) (i : Int))))) rfl) ?_
     refine q_nil ?_
     intro w151 hc152
     replace hc152 := chg_below hc152 g142
     have p31 : (decide ((gI ((facesR g r).1) (i : Int)) = (gI ((facesR ((rmovedR g r to).1) ((rmovedR g r to).2.1)).1) (i : Int)))) = true := by first | rfl | (rw [hsub]; done) | (rw [hmvd]; done) | (rw [hsub]; exact decide_eq_true rfl) | (rw [hmvd]; exact decide_eq_true rfl) | (rw [hsub, hcan]; exact decide_eq_true rfl) | (rw [hmvd, hcan]; exact decide_eq_true rfl) | (rw [hgen]; exact hg0) | (rw [hgen]; done) | (rw [hfac]; done) | (rw [hfac]; exact decide_eq_true rfl)
     refine run_cond_f rfl (congrArg Bool.not p31) ?_
     refine run_skip ?_
     refine run_inBlock ?_
     clear cel146
     clear r147
     clear cel149
     clear r150
     refine run_region rfl ?_
     refine l_val (v := Value.int .i64 (i : Int)) rfl (e_move (by exact zs28)) ?_
     refine l_val (v := Value.int .i64 ((i : Int) + 1)) rfl (e_add (m := (i : Int)) (n := 1) rfl rfl (by omega)) ?_
     refine l_val (v := Value.int .i64 ((i : Int) + 1)) rfl (e_assign rfl) ?_
     refine l_nil ?_
     replace hbase := hbase.chg ch143 (not_no _)
     replace hbase := hbase.chg hc152 (not_no _)
     replace r_g_v := (r_g_v.chg ch143 (not_no _)).chg hc152 (not_no _)
     replace r_r_v := (r_r_v.chg ch143 (not_no _)).chg hc152 (not_no _)
     replace r_to_v := (r_to_v.chg ch143 (not_no _)).chg hc152 (not_no _)
     replace o126 := o126.chg hc152 (not_no _)
     replace o133 := o133.chg hc152 (not_no _)
     refine back29 (i + 1, g142) _ _ ⟨hbase, (by exact zs24), (by exact zs26), rfl, r_g_v, r_r_v, r_to_v, o126, o133, by omega, ?_⟩ ?_
     · show True
       trivial
     · show Int.toNat (((List.length ((facesR g r).1) : Int) : Int) - ((i + 1) : Int)) < Int.toNat (((List.length ((facesR g r).1) : Int) : Int) - (i : Int))
       omega
    refine run_cond_f rfl (decide_eq_false p29) ?_
    refine run_exit rfl ?_
    refine run_seq ?_
    clear o126
    clear o133
    refine run_region rfl ?_
    refine l_val (v := Value.bool true) rfl (e_assign rfl) ?_
    refine l_nil ?_
    refine run_ret (vs := [Value.bool true]) Try.func7 (.tmp rfl .nil) ?_
    -- return 0
    have e0 : (true : Bool) = (true) := by
      first
        | rfl
        | exact decide_eq_true (rmovedR_bad hm hrp (by assumption))
        | exact (decide_eq_true (rmovedR_bad hm hrp (by assumption))).symm
    exact ⟨(congrArg (a₁ := true) (fun (z0 : Bool) => Ending.returned (Value.bool z0)) e0), hbase.below⟩
   refine run_cond_t rfl (congrArg Bool.not (decide_eq_false p20)) ?_
   refine run_seq ?_
   clear bx5
   clear o105
   refine run_region rfl ?_
   refine l_val (v := Value.pointer (some ⟨b110, 0, none⟩)) rfl (e_fieldAddr Try.underlying24 rfl rfl rfl rfl) ?_
   refine l_val (v := Value.int .i64 (((rmovedR g r to).1).1)) rfl (e_load_bx1 tp3_p rfl bx115 rfl) ?_
   refine l_val (v := Value.bool (decide ((((rmovedR g r to).1).1) = 0))) rfl (e_eql (m := ((rmovedR g r to).1).1) (n := 0) rfl rfl) ?_
   refine l_val (v := Value.bool (decide ((((rmovedR g r to).1).1) = 0))) rfl (e_assign rfl) ?_
   refine l_nil ?_
   refine run_ret (vs := [Value.bool (decide ((((rmovedR g r to).1).1) = 0))]) Try.func7 (.tmp rfl .nil) ?_
   -- return 1
   have e0 : (decide ((((rmovedR g r to).1).1) = 0) : Bool) = (true) := by
     first
       | rfl
       | exact decide_eq_true (rmovedR_bad hm hrp (by assumption))
       | exact (decide_eq_true (rmovedR_bad hm hrp (by assumption))).symm
   have C153 : Chg (inl [8, 11, 15]) _ _ _ _ := (ch48.n).seq ((ch50.n).seq ((ch55.l rfl).seq ((ch66.n).seq ((ch68.n).seq ((ch73.l rfl).seq ((ch82.n).seq ((hb86.n).seq ((hb89.n).seq ((hb92.n).seq ((hb95.n).seq ((ch107.n).seq ((ch109.n).seq (ch114.l rfl)))))))))))))
   replace hbase := hbase.chg C153 (is_nl rfl)
   exact ⟨(congrArg (a₁ := decide ((((rmovedR g r to).1).1) = 0)) (fun (z0 : Bool) => Ending.returned (Value.bool z0)) e0), hbase.below⟩
  refine run_cond_t rfl (congrArg Bool.not (decide_eq_false p3)) ?_
  refine run_seq ?_
  clear bx5
  refine run_region rfl ?_
  refine l_val (v := Value.bool true) rfl (e_assign rfl) ?_
  refine l_nil ?_
  refine run_ret (vs := [Value.bool true]) Try.func7 (.tmp rfl .nil) ?_
  -- return 2
  have e0 : (true : Bool) = (true) := by
    first
      | rfl
      | exact decide_eq_true (rmovedR_bad hm hrp (by assumption))
      | exact (decide_eq_true (rmovedR_bad hm hrp (by assumption))).symm
  have C154 : Chg (inl []) _ _ _ _ := (ch2.n).seq ((hb7.n).seq ((hb9.n).seq (hb11.n)))
  replace hbase := hbase.chg C154 (is_nl rfl)
  exact ⟨(congrArg (a₁ := true) (fun (z0 : Bool) => Ending.returned (Value.bool z0)) e0), hbase.below⟩
 refine l_skip (want_n rfl rfl rfl (congrArg Bool.not (Bool.eq_false_iff.2 q35))) ?_
 refine l_skip (want_n rfl rfl rfl (congrArg Bool.not (Bool.eq_false_iff.2 q35))) ?_
 refine l_skip (want_n rfl rfl rfl (congrArg Bool.not (Bool.eq_false_iff.2 q35))) ?_
 refine l_skip (want_n rfl rfl rfl (congrArg Bool.not (Bool.eq_false_iff.2 q35))) ?_
 refine l_val (v := Value.bool true) rfl (e_pick_t rfl (congrArg Bool.not (Bool.eq_false_iff.2 q35)) rfl) ?_
 refine l_nil ?_
 refine run_cond_t rfl rfl ?_
 refine run_seq ?_
 clear bx5
 refine run_region rfl ?_
 refine l_val (v := Value.bool true) rfl (e_assign rfl) ?_
 refine l_nil ?_
 refine run_ret (vs := [Value.bool true]) Try.func7 (.tmp rfl .nil) ?_
 -- return 3
 have e0 : (true : Bool) = (true) := by
   first
     | rfl
     | exact decide_eq_true (rmovedR_bad hm hrp (by assumption))
     | exact (decide_eq_true (rmovedR_bad hm hrp (by assumption))).symm
 have C155 : Chg (inl []) _ _ _ _ := (ch2.n).seq ((hb7.n).seq (hb9.n))
 replace hbase := hbase.chg C155 (is_nl rfl)
 exact ⟨(congrArg (a₁ := true) (fun (z0 : Bool) => Ending.returned (Value.bool z0)) e0), hbase.below⟩
end TL
