import Derived.Test.YtilohhkbelkmdaaTlGdA
import Derived.Test.YtilohhkbelkmdaaTlGdE
import Derived.Test.YtilohhkbelkmdaaTlGdF
import Derived.Test.YtilohhkbelkmdaaTlGenJ
import Derived.Test.YtilohhkbelkmdaaTlGenI
import Derived.Test.YtilohhkbelkmdaaTlGenV
import Derived.Test.YtilohhkbelkmdaaTlGenX
import Derived.Test.YtilohhkbelkmdaaTlP3
import Derived.Test.YtilohhkbelkmdaaProg
set_option linter.all false
set_option maxRecDepth 20000
namespace TL
open Go Go.Proofs
theorem mixed_dh : Try.prog.follows .mixedOrders = true := by kernel_rfl
theorem tp3_dh : Tp Try.prog 3 false 1 8 (.int .i64 0) := Tp.of (by kernel_rfl)
theorem tp24_dh : Tp Try.prog 24 true 2 32 (.agg #[.int .i64 0, .slice none 0 0]) := Tp.of (by kernel_rfl)
theorem bd11_dh : Try.f11.body.isNone = false := rfl
theorem nm11_dh : (Try.f11.name == "runtime.NumGoroutine") = false := by decide +kernel
theorem bd21_dh : Try.f21.body.isNone = false := rfl
theorem nm21_dh : (Try.f21.name == "runtime.NumGoroutine") = false := by decide +kernel
theorem bd25_dh : Try.f25.body.isNone = false := rfl
theorem nm25_dh : (Try.f25.name == "runtime.NumGoroutine") = false := by decide +kernel
theorem bd26_dh : Try.f26.body.isNone = false := rfl
theorem nm26_dh : (Try.f26.name == "runtime.NumGoroutine") = false := by decide +kernel
theorem bd27_dh : Try.f27.body.isNone = false := rfl
theorem nm27_dh : (Try.f27.name == "runtime.NumGoroutine") = false := by decide +kernel
set_option maxHeartbeats 4000000 in
theorem DualHops_ok (w0 : World) (g : (Int) × (List ((Int) × (Int)))) (g_v : Value) (hg_v : Ro w0 g_v g.2) (r : List (List Int)) (r_v : Value) (hr_v : Ro w0 r_v r) (from_ : Int) (to : Int) (hb : (r.length : Int) ≤ 1048576 ∧ ∀ l_ ∈ r, l_.length ≤ 1048576) :
    Calls Try.prog 5 #[Value.agg (List.toArray [Value.int .i64 g.1, g_v]), r_v, Value.int .i64 from_, Value.int .i64 to] w0 (fun ee w => ee = .returned (Value.bool true) ∧ Bel w0.heap.size w0 w) := by
 refine calls_of_run Try.func5 rfl (Nat.le_of_ble_eq_true rfl) ?_
 have hbase := Base.start w0
 have r_g_v := hg_v.sl
 have r_r_v := hr_v.sl
 refine run_seq (run_region rfl (l_op rfl ?_))
 refine o_box c0 (is 1) (1, 0) rfl rfl ?_
 intro g4 w1 b3 ch2 bx5
 replace bx5 : Bx g4 (is 1) w1 b3 [Value.int .i64 g.1, g_v] := bx5
 refine l_val (v := Value.bool false) rfl (e_assign rfl) ?_
 refine l_nil (run_seq (run_seq (run_region rfl (l_op rfl ?_))))
 refine o_call (v := Value.bool true) (e_call (vals := []) Try.func21 bd21_dh nm21_dh rfl) (begunD_ok w1 ) ?_
 intro w6 hb7
 replace hb7 := chg_below hb7 g4
 refine l_val (v := Value.bool false) rfl (e_not (b := true) rfl) ?_
 refine l_nil ?_
 refine run_cond_f rfl rfl ?_
 refine run_skip ?_
 refine run_seq (run_seq (run_region rfl ?_))
 replace bx5 := bx5.chg hb7 (not_no _)
 refine l_val (v := Value.agg (List.toArray [Value.int .i64 g.1, g_v])) rfl (e_load_bxN (ds := [Value.int .i64 g.1, g_v]) tp24_dh rfl bx5 rfl rfl) ?_
 refine l_val (v := r_v) rfl (e_move rfl) ?_
 replace r_g_v := (r_g_v.chg ch2 (not_no _)).chg hb7 (not_no _)
 replace r_r_v := (r_r_v.chg ch2 (not_no _)).chg hb7 (not_no _)
 refine l_op rfl ?_
 refine o_call (v := Value.bool (decide ((g.2.length ≤ 300 ∧ (g.1 ≤ 300 ∨ ¬ MayP g)) ∧ g.1 ≤ 200 ∧ r.length + r.flatten.length ≤ 1000))) (e_call (vals := [Value.agg (List.toArray [Value.int .i64 g.1, g_v]), r_v]) Try.func11 bd11_dh nm11_dh rfl) (Light9_ok w6 g g_v (r_g_v).ro r r_v (r_r_v).ro (by assumption)) ?_
 intro w8 hb9
 replace hb9 := chg_below hb9 g4
 refine l_val (v := Value.bool (!(decide ((g.2.length ≤ 300 ∧ (g.1 ≤ 300 ∨ ¬ MayP g)) ∧ g.1 ≤ 200 ∧ r.length + r.flatten.length ≤ 1000)))) rfl (e_not (b := (decide ((g.2.length ≤ 300 ∧ (g.1 ≤ 300 ∨ ¬ MayP g)) ∧ g.1 ≤ 200 ∧ r.length + r.flatten.length ≤ 1000))) rfl) ?_
 refine l_nil ?_
 by_cases p3 : (decide ((g.2.length ≤ 300 ∧ (g.1 ≤ 300 ∨ ¬ MayP g)) ∧ g.1 ≤ 200 ∧ r.length + r.flatten.length ≤ 1000)) = true
 ·
  refine run_cond_f rfl (congrArg Bool.not p3) ?_
  refine run_skip ?_
  refine run_seq (run_region rfl ?_)
  replace bx5 := bx5.chg hb9 (not_no _)
  refine l_val (v := Value.agg (List.toArray [Value.int .i64 g.1, g_v])) rfl (e_load_bxN (ds := [Value.int .i64 g.1, g_v]) tp24_dh rfl bx5 rfl rfl) ?_
  refine l_val (v := r_v) rfl (e_move rfl) ?_
  refine l_val (v := Value.int .i64 from_) rfl (e_move rfl) ?_
  refine l_val (v := Value.int .i64 to) rfl (e_move rfl) ?_
  replace r_g_v := r_g_v.chg hb9 (not_no _)
  replace r_r_v := r_r_v.chg hb9 (not_no _)
  refine l_op rfl ?_
  refine o_callx (e_call (vals := [Value.agg (List.toArray [Value.int .i64 g.1, g_v]), r_v, Value.int .i64 from_, Value.int .i64 to]) Try.func25 bd25_dh nm25_dh rfl) (Hop_ok w8 g g_v (r_g_v).ro r r_v (r_r_v).ro from_ to) ?_
  rintro ⟨d11, v13⟩ w10 ⟨fr12, o14⟩
  obtain ⟨g15, hg15⟩ : ∃ q, q = glue w8.heap.size g4 d11 (fun n => if n = 1 then 2 else 0) := ⟨_, rfl⟩
  have ch16 := chg_glue fr12.below g4 d11 (fun n => if n = 1 then 2 else 0)
  rw [← hg15] at ch16
  replace o14 := o14.glue (γ := g4) (ren := (fun n => if n = 1 then 2 else 0)) (k := 2) fr12.col rfl rfl
  rw [← hg15] at o14
  clear hg15
  refine l_val (v := Value.tuple (List.toArray [v13, Value.int .i64 ((hopR g r from_ to).2)])) rfl (e_move rfl) ?_
  refine l_val (v := v13) rfl (e_extract rfl rfl) ?_
  refine l_val (v := Value.int .i64 ((hopR g r from_ to).2)) rfl (e_extract rfl rfl) ?_
  refine l_val (v := v13) rfl (e_assign rfl) ?_
  refine l_val (v := Value.int .i64 ((hopR g r from_ to).2)) rfl (e_assign rfl) ?_
  refine l_nil (run_seq (run_seq (run_region rfl ?_)))
  refine l_val (v := Value.int .i64 ((hopR g r from_ to).2)) rfl (e_move rfl) ?_
  refine l_val (v := Value.bool (!(decide (((hopR g r from_ to).2) = 0)))) rfl (e_neq (m := (hopR g r from_ to).2) (n := 0) rfl rfl) ?_
  refine l_nil ?_
  by_cases p6 : ((hopR g r from_ to).2) = 0
  ·
   have hL := hop_law p6
   have hol := hL.ofl
   have hm0 := hL.may
   obtain ⟨hm1, hm2, hm3, hm4⟩ := hm0
   refine run_cond_f rfl (congrArg Bool.not (decide_eq_true p6)) ?_
   refine run_skip ?_
   refine run_seq (run_region rfl ?_)
   replace bx5 := bx5.chg ch16 (not_no _)
   refine l_val (v := Value.agg (List.toArray [Value.int .i64 g.1, g_v])) rfl (e_load_bxN (ds := [Value.int .i64 g.1, g_v]) tp24_dh rfl bx5 rfl rfl) ?_
   refine l_val (v := r_v) rfl (e_move rfl) ?_
   replace r_g_v := r_g_v.chg ch16 (not_no _)
   replace r_r_v := r_r_v.chg ch16 (not_no _)
   refine l_op rfl ?_
   refine o_callx (e_call (vals := [Value.agg (List.toArray [Value.int .i64 g.1, g_v]), r_v]) Try.func26 bd26_dh nm26_dh rfl) (rOf_ok w10 g g_v (r_g_v).ro r r_v (r_r_v).ro (by exact hL.may) (by exact hL.rot)) ?_
   rintro ⟨d18, v20⟩ w17 ⟨fr19, o21⟩
   obtain ⟨g22, hg22⟩ : ∃ q, q = glue w10.heap.size g15 d18 (fun n => if n = 1 then 3 else 0) := ⟨_, rfl⟩
   have ch23 := chg_glue fr19.below g15 d18 (fun n => if n = 1 then 3 else 0)
   rw [← hg22] at ch23
   replace o21 := o21.glue (γ := g15) (ren := (fun n => if n = 1 then 3 else 0)) (k := 3) fr19.col rfl rfl
   rw [← hg22] at o21
   clear hg22
   refine l_val (v := v20) rfl (e_assign rfl) ?_
   refine l_nil (run_seq (run_region rfl ?_))
   refine l_val (v := Value.int .i64 from_) rfl (e_move rfl) ?_
   refine l_val (v := Value.int .i64 from_) rfl (e_assign rfl) ?_
   refine l_nil (run_seq (run_seq (run_region rfl ?_)))
   refine l_val (v := Value.int .i64 0) rfl (e_assign rfl) ?_
   refine l_nil ?_
   refine run_block ?_
   refine run_loop (σ := Int × Nat × Cmap) (fun ⟨at1, i, gq⟩ f w => Base w0 gq w ∧ f 1 = r_v ∧ f 2 = Value.int .i64 from_ ∧ f 3 = Value.int .i64 to ∧ f 4 = Value.pointer (some ⟨b3, 0, none⟩) ∧ f 9 = v13 ∧ f 11 = v20 ∧ f 12 = Value.int .i64 at1 ∧ f 13 = Value.int .i64 (i : Int) ∧ Sl gq (is 0) w g_v g.2 ∧ Sl gq (is 0) w r_v r ∧ Bx gq (is 1) w b3 [Value.int .i64 g.1, g_v] ∧ Ow gq (is 2) (is 2) w v13 ((hopR g r from_ to).1) ∧ Ow gq (is 3) (is 3) w v20 (ofS g r) ∧ (i : Int) ≤ ((List.length ((hopR g r from_ to).1) : Int) : Int) ∧ (at1 = goF (ofS g r) ((hopR g r from_ to).1.take i) from_)) (fun ⟨at1, i, gq⟩ => Int.toNat (((List.length ((hopR g r from_ to).1) : Int) : Int) - (i : Int))) (from_, 0, g22) ?_ ?_
   have C24 : Chg (inl []) _ _ _ _ := (ch2.n).seq ((hb7.n).seq ((hb9.n).seq ((ch16.n).seq (ch23.n))))
   replace hbase := hbase.chg C24 (is_nl rfl)
   replace r_g_v := r_g_v.chg ch23 (not_no _)
   replace r_r_v := r_r_v.chg ch23 (not_no _)
   replace bx5 := bx5.chg ch23 (not_no _)
   replace o14 := o14.chg ch23 (not_no _) (not_no _)
   · exact ⟨hbase, rfl, rfl, rfl, rfl, rfl, rfl, rfl, rfl, r_g_v, r_r_v, bx5, o14, o21, by omega, by rfl⟩
   clear r_g_v
   clear r_r_v
   clear bx5
   clear o14
   clear o21
   clear hbase
   rintro ⟨at1, i, g27⟩ f25 w26 ⟨hbase, zs1, zs2, zs3, zs4, zs9, zs11, zs12, zs13, r_g_v, r_r_v, bx5, o14, o21, hle_i, hat⟩ back11
   refine run_seq (run_seq (run_region rfl ?_))
   refine l_val (v := Value.int .i64 (i : Int)) rfl (e_move (by exact zs13)) ?_
   refine l_val (v := v13) rfl (e_move (by exact zs9)) ?_
   have len28 := (o14.flat).small
   refine l_val (v := Value.int .i64 (List.length ((hopR g r from_ to).1) : Int)) rfl (e_len Try.underlying27 rfl o14.flat) ?_
   refine l_val (v := Value.bool (decide ((i : Int) < (List.length ((hopR g r from_ to).1) : Int)))) rfl (e_lss (m := (i : Int)) (n := (List.length ((hopR g r from_ to).1) : Int)) rfl rfl) ?_
   refine l_nil ?_
   by_cases p11 : (i : Int) < (List.length ((hopR g r from_ to).1) : Int)
   ·
    refine run_cond_t rfl (decide_eq_true p11) ?_
    obtain ⟨⟨hs1, hs2⟩, hs3⟩ := hL.step i (by assumption)
    rw [← hat] at hs3
    refine run_skip ?_
    refine run_seq ?_
    refine run_block ?_
    refine run_seq (run_region rfl ?_)
    refine l_val (v := Value.int .i64 at1) rfl (e_move (by exact zs12)) ?_
    refine l_nil ?_
    refine run_block ?_
    refine run_seq (run_region rfl ?_)
    refine l_val (v := v20) rfl (e_move (by exact zs11)) ?_
    refine l_val (v := v13) rfl (e_move (by exact zs9)) ?_
    refine l_val (v := Value.int .i64 (i : Int)) rfl (e_move (by exact zs13)) ?_
    refine l_val (v := Value.pointer (some (eAddr v13 1 (Int.toNat (i : Int))))) rfl (e_indexAddr (α := Int) (xs := (hopR g r from_ to).1) (v := v13) (i := (i : Int)) Try.underlying27 rfl rfl o14.flat rfl (by omega) (by omega)) ?_
    refine l_val (v := Value.int .i64 (gI ((hopR g r from_ to).1) (i : Int))) rfl (e_load_el1 (α := Int) (xs := (hopR g r from_ to).1) (v := v13) (i := (i : Int)) tp3_dh rfl o14.flat (by omega) (by omega) (by decide) rfl) ?_
    refine l_val (v := Value.int .i64 (2 * (gI ((hopR g r from_ to).1) (i : Int)))) rfl (e_mul (m := 2) (n := (gI ((hopR g r from_ to).1) (i : Int))) rfl rfl (by omega)) ?_
    refine l_val (v := Value.pointer (some (eAddr v20 1 (Int.toNat (2 * (gI ((hopR g r from_ to).1) (i : Int))))))) rfl (e_indexAddr (α := Int) (xs := ofS g r) (v := v20) (i := 2 * (gI ((hopR g r from_ to).1) (i : Int))) Try.underlying27 rfl rfl o21.flat rfl (by omega) (by omega)) ?_
    refine l_val (v := Value.int .i64 (gI (ofS g r) (2 * (gI ((hopR g r from_ to).1) (i : Int))))) rfl (e_load_el1 (α := Int) (xs := ofS g r) (v := v20) (i := 2 * (gI ((hopR g r from_ to).1) (i : Int))) tp3_dh rfl o21.flat (by omega) (by omega) (by decide) rfl) ?_
    refine l_val (v := Value.bool (decide (at1 = (gI (ofS g r) (2 * (gI ((hopR g r from_ to).1) (i : Int))))))) rfl (e_eql (m := at1) (n := (gI (ofS g r) (2 * (gI ((hopR g r from_ to).1) (i : Int))))) rfl rfl) ?_
    refine l_val (v := Value.bool (decide (at1 = (gI (ofS g r) (2 * (gI ((hopR g r from_ to).1) (i : Int))))))) rfl (e_assign rfl) ?_
    refine l_nil ?_
    by_cases p15 : at1 = (gI (ofS g r) (2 * (gI ((hopR g r from_ to).1) (i : Int))))
    ·
     refine run_cond_t rfl (decide_eq_true p15) ?_
     refine run_region rfl ?_
     refine l_val (v := v20) rfl (e_move (by exact zs11)) ?_
     refine l_val (v := v13) rfl (e_move (by exact zs9)) ?_
     refine l_val (v := Value.int .i64 (i : Int)) rfl (e_move (by exact zs13)) ?_
     refine l_val (v := Value.pointer (some (eAddr v13 1 (Int.toNat (i : Int))))) rfl (e_indexAddr (α := Int) (xs := (hopR g r from_ to).1) (v := v13) (i := (i : Int)) Try.underlying27 rfl rfl o14.flat rfl (by omega) (by omega)) ?_
     refine l_val (v := Value.int .i64 (gI ((hopR g r from_ to).1) (i : Int))) rfl (e_load_el1 (α := Int) (xs := (hopR g r from_ to).1) (v := v13) (i := (i : Int)) tp3_dh rfl o14.flat (by omega) (by omega) (by decide) rfl) ?_
     refine l_val (v := Value.int .i64 (2 * (gI ((hopR g r from_ to).1) (i : Int)))) rfl (e_mul (m := 2) (n := (gI ((hopR g r from_ to).1) (i : Int))) rfl rfl (by omega)) ?_
     refine l_val (v := Value.int .i64 ((2 * (gI ((hopR g r from_ to).1) (i : Int))) + 1)) rfl (e_add (m := 2 * (gI ((hopR g r from_ to).1) (i : Int))) (n := 1) rfl rfl (by omega)) ?_
     refine l_val (v := Value.pointer (some (eAddr v20 1 (Int.toNat ((2 * (gI ((hopR g r from_ to).1) (i : Int))) + 1))))) rfl (e_indexAddr (α := Int) (xs := ofS g r) (v := v20) (i := (2 * (gI ((hopR g r from_ to).1) (i : Int))) + 1) Try.underlying27 rfl rfl o21.flat rfl (by omega) (by omega)) ?_
     refine l_val (v := Value.int .i64 (gI (ofS g r) ((2 * (gI ((hopR g r from_ to).1) (i : Int))) + 1))) rfl (e_load_el1 (α := Int) (xs := ofS g r) (v := v20) (i := (2 * (gI ((hopR g r from_ to).1) (i : Int))) + 1) tp3_dh rfl o21.flat (by omega) (by omega) (by decide) rfl) ?_
     refine l_val (v := Value.int .i64 (gI (ofS g r) ((2 * (gI ((hopR g r from_ to).1) (i : Int))) + 1))) rfl (e_assign rfl) ?_
     refine l_nil ?_
     refine run_inBlock ?_
     refine run_inBlock ?_
     refine run_region rfl ?_
     refine l_val (v := Value.int .i64 (i : Int)) rfl (e_move (by exact zs13)) ?_
     refine l_val (v := Value.int .i64 ((i : Int) + 1)) rfl (e_add (m := (i : Int)) (n := 1) rfl rfl (by omega)) ?_
     refine l_val (v := Value.int .i64 ((i : Int) + 1)) rfl (e_assign rfl) ?_
     refine l_nil ?_
     refine back11 ((gI (ofS g r) ((2 * (gI ((hopR g r from_ to).1) (i : Int))) + 1)), i + 1, g27) _ _ ⟨hbase, (by exact zs1), (by exact zs2), (by exact zs3), (by exact zs4), (by exact zs9), (by exact zs11), rfl, rfl, r_g_v, r_r_v, bx5, o14, o21, by omega, ?_⟩ ?_
     · show (gI (ofS g r) ((2 * (gI ((hopR g r from_ to).1) (i : Int))) + 1)) = goF (ofS g r) ((hopR g r from_ to).1.take (i + 1)) from_
       first
         | (rw [goF_next (by assumption), ← hat]; exact way1 (by assumption))
         | (rw [goF_next (by assumption), ← hat]; exact way2 (by assumption))
     · show Int.toNat (((List.length ((hopR g r from_ to).1) : Int) : Int) - ((i + 1) : Int)) < Int.toNat (((List.length ((hopR g r from_ to).1) : Int) : Int) - (i : Int))
       omega
    refine run_cond_f rfl (decide_eq_false p15) ?_
    refine run_seq (run_region rfl ?_)
    refine l_val (v := v20) rfl (e_move (by exact zs11)) ?_
    refine l_val (v := v13) rfl (e_move (by exact zs9)) ?_
    refine l_val (v := Value.int .i64 (i : Int)) rfl (e_move (by exact zs13)) ?_
    refine l_val (v := Value.pointer (some (eAddr v13 1 (Int.toNat (i : Int))))) rfl (e_indexAddr (α := Int) (xs := (hopR g r from_ to).1) (v := v13) (i := (i : Int)) Try.underlying27 rfl rfl o14.flat rfl (by omega) (by omega)) ?_
    refine l_val (v := Value.int .i64 (gI ((hopR g r from_ to).1) (i : Int))) rfl (e_load_el1 (α := Int) (xs := (hopR g r from_ to).1) (v := v13) (i := (i : Int)) tp3_dh rfl o14.flat (by omega) (by omega) (by decide) rfl) ?_
    refine l_val (v := Value.int .i64 (2 * (gI ((hopR g r from_ to).1) (i : Int)))) rfl (e_mul (m := 2) (n := (gI ((hopR g r from_ to).1) (i : Int))) rfl rfl (by omega)) ?_
    refine l_val (v := Value.int .i64 ((2 * (gI ((hopR g r from_ to).1) (i : Int))) + 1)) rfl (e_add (m := 2 * (gI ((hopR g r from_ to).1) (i : Int))) (n := 1) rfl rfl (by omega)) ?_
    refine l_val (v := Value.pointer (some (eAddr v20 1 (Int.toNat ((2 * (gI ((hopR g r from_ to).1) (i : Int))) + 1))))) rfl (e_indexAddr (α := Int) (xs := ofS g r) (v := v20) (i := (2 * (gI ((hopR g r from_ to).1) (i : Int))) + 1) Try.underlying27 rfl rfl o21.flat rfl (by omega) (by omega)) ?_
    refine l_val (v := Value.int .i64 (gI (ofS g r) ((2 * (gI ((hopR g r from_ to).1) (i : Int))) + 1))) rfl (e_load_el1 (α := Int) (xs := ofS g r) (v := v20) (i := (2 * (gI ((hopR g r from_ to).1) (i : Int))) + 1) tp3_dh rfl o21.flat (by omega) (by omega) (by decide) rfl) ?_
    refine l_val (v := Value.bool (decide (at1 = (gI (ofS g r) ((2 * (gI ((hopR g r from_ to).1) (i : Int))) + 1))))) rfl (e_eql (m := at1) (n := (gI (ofS g r) ((2 * (gI ((hopR g r from_ to).1) (i : Int))) + 1))) rfl rfl) ?_
    refine l_val (v := Value.bool (decide (at1 = (gI (ofS g r) ((2 * (gI ((hopR g r from_ to).1) (i : Int))) + 1))))) rfl (e_assign rfl) ?_
    refine l_nil ?_
    have p17 : at1 = (gI (ofS g r) ((2 * (gI ((hopR g r from_ to).1) (i : Int))) + 1)) := by first | exact way3 hs3 p15 | (rw [hat, List.take_of_length_le (by omega)]; exact hL.fin) | exact hn1 | exact hn2 | exact hn3
    refine run_cond_t rfl (decide_eq_true p17) ?_
    refine run_region rfl ?_
    refine l_val (v := v20) rfl (e_move (by exact zs11)) ?_
    refine l_val (v := v13) rfl (e_move (by exact zs9)) ?_
    refine l_val (v := Value.int .i64 (i : Int)) rfl (e_move (by exact zs13)) ?_
    refine l_val (v := Value.pointer (some (eAddr v13 1 (Int.toNat (i : Int))))) rfl (e_indexAddr (α := Int) (xs := (hopR g r from_ to).1) (v := v13) (i := (i : Int)) Try.underlying27 rfl rfl o14.flat rfl (by omega) (by omega)) ?_
    refine l_val (v := Value.int .i64 (gI ((hopR g r from_ to).1) (i : Int))) rfl (e_load_el1 (α := Int) (xs := (hopR g r from_ to).1) (v := v13) (i := (i : Int)) tp3_dh rfl o14.flat (by omega) (by omega) (by decide) rfl) ?_
    refine l_val (v := Value.int .i64 (2 * (gI ((hopR g r from_ to).1) (i : Int)))) rfl (e_mul (m := 2) (n := (gI ((hopR g r from_ to).1) (i : Int))) rfl rfl (by omega)) ?_
    refine l_val (v := Value.pointer (some (eAddr v20 1 (Int.toNat (2 * (gI ((hopR g r from_ to).1) (i : Int))))))) rfl (e_indexAddr (α := Int) (xs := ofS g r) (v := v20) (i := 2 * (gI ((hopR g r from_ to).1) (i : Int))) Try.underlying27 rfl rfl o21.flat rfl (by omega) (by omega)) ?_
    refine l_val (v := Value.int .i64 (gI (ofS g r) (2 * (gI ((hopR g r from_ to).1) (i : Int))))) rfl (e_load_el1 (α := Int) (xs := ofS g r) (v := v20) (i := 2 * (gI ((hopR g r from_ to).1) (i : Int))) tp3_dh rfl o21.flat (by omega) (by omega) (by decide) rfl) ?_
    refine l_val (v := Value.int .i64 (gI (ofS g r) (2 * (gI ((hopR g r from_ to).1) (i : Int))))) rfl (e_assign rfl) ?_
    refine l_nil ?_
    refine run_inBlock ?_
    refine run_inBlock ?_
    refine run_region rfl ?_
    refine l_val (v := Value.int .i64 (i : Int)) rfl (e_move (by exact zs13)) ?_
    refine l_val (v := Value.int .i64 ((i : Int) + 1)) rfl (e_add (m := (i : Int)) (n := 1) rfl rfl (by omega)) ?_
    refine l_val (v := Value.int .i64 ((i : Int) + 1)) rfl (e_assign rfl) ?_
    refine l_nil ?_
    refine back11 ((gI (ofS g r) (2 * (gI ((hopR g r from_ to).1) (i : Int)))), i + 1, g27) _ _ ⟨hbase, (by exact zs1), (by exact zs2), (by exact zs3), (by exact zs4), (by exact zs9), (by exact zs11), rfl, rfl, r_g_v, r_r_v, bx5, o14, o21, by omega, ?_⟩ ?_
    · show (gI (ofS g r) (2 * (gI ((hopR g r from_ to).1) (i : Int)))) = goF (ofS g r) ((hopR g r from_ to).1.take (i + 1)) from_
      first
        | (rw [goF_next (by assumption), ← hat]; exact way1 (by assumption))
        | (rw [goF_next (by assumption), ← hat]; exact way2 (by assumption))
    · show Int.toNat (((List.length ((hopR g r from_ to).1) : Int) : Int) - ((i + 1) : Int)) < Int.toNat (((List.length ((hopR g r from_ to).1) : Int) : Int) - (i : Int))
      omega
   refine run_cond_f rfl (decide_eq_false p11) ?_
   refine run_exit rfl ?_
   refine run_seq (run_seq (run_region rfl ?_))
   refine l_val (v := Value.int .i64 at1) rfl (e_move (by exact zs12)) ?_
   refine l_val (v := Value.int .i64 to) rfl (e_move (by exact zs3)) ?_
   refine l_val (v := Value.bool (!(decide (at1 = to)))) rfl (e_neq (m := at1) (n := to) rfl rfl) ?_
   refine l_nil ?_
   have p19 : at1 = to := by first | exact way3 hs3 p15 | (rw [hat, List.take_of_length_le (by omega)]; exact hL.fin) | exact hn1 | exact hn2 | exact hn3
   refine run_cond_f rfl (congrArg Bool.not (decide_eq_true p19)) ?_
   refine run_skip ?_
   refine run_seq (run_seq (run_region rfl ?_))
   refine l_val (v := Value.int .i64 0) rfl (e_assign rfl) ?_
   refine l_nil ?_
   refine run_block ?_
   refine run_loop (σ := Nat × Cmap) (fun ⟨hh, gq⟩ f w => Base w0 gq w ∧ f 1 = r_v ∧ f 2 = Value.int .i64 from_ ∧ f 3 = Value.int .i64 to ∧ f 4 = Value.pointer (some ⟨b3, 0, none⟩) ∧ f 9 = v13 ∧ f 11 = v20 ∧ f 14 = Value.int .i64 (hh : Int) ∧ Sl gq (is 0) w g_v g.2 ∧ Sl gq (is 0) w r_v r ∧ Bx gq (is 1) w b3 [Value.int .i64 g.1, g_v] ∧ Ow gq (is 2) (is 2) w v13 ((hopR g r from_ to).1) ∧ Ow gq (is 3) (is 3) w v20 (ofS g r) ∧ (hh : Int) ≤ (40 : Int) ∧ True) (fun ⟨hh, gq⟩ => Int.toNat ((40 : Int) - (hh : Int))) (0, g27) ?_ ?_
   · exact ⟨hbase, (by exact zs1), (by exact zs2), (by exact zs3), (by exact zs4), (by exact zs9), (by exact zs11), rfl, r_g_v, r_r_v, bx5, o14, o21, by omega, trivial⟩
   clear r_g_v
   clear r_r_v
   clear bx5
   clear o14
   clear o21
   clear hbase
   rintro ⟨hh, g31⟩ f29 w30 ⟨hbase, zs1, zs2, zs3, zs4, zs9, zs11, zs14, r_g_v, r_r_v, bx5, o14, o21, hle_hh, hinv22⟩ back22
   refine run_seq (run_seq (run_region rfl ?_))
   refine l_val (v := Value.int .i64 (hh : Int)) rfl (e_move (by exact zs14)) ?_
   refine l_val (v := v20) rfl (e_move (by exact zs11)) ?_
   have len32 := (o21.flat).small
   refine l_val (v := Value.int .i64 (List.length (ofS g r) : Int)) rfl (e_len Try.underlying27 rfl o21.flat) ?_
   refine l_val (v := Value.bool (decide ((hh : Int) < (List.length (ofS g r) : Int)))) rfl (e_lss (m := (hh : Int)) (n := (List.length (ofS g r) : Int)) rfl rfl) ?_
   refine l_val (v := Value.bool (decide ((hh : Int) < (List.length (ofS g r) : Int)))) rfl (e_move rfl) ?_
   by_cases q92 : (hh : Int) < (List.length (ofS g r) : Int)
   ·
    refine l_val (v := Value.int .i64 (hh : Int)) (want_y rfl rfl rfl (decide_eq_true q92)) (e_move (by exact zs14)) ?_
    refine l_val (v := Value.bool (decide ((hh : Int) < 40))) (want_y rfl rfl rfl (decide_eq_true q92)) (e_lss (m := (hh : Int)) (n := 40) rfl rfl) ?_
    refine l_val (v := Value.bool (decide ((hh : Int) < 40))) rfl (e_pick_t rfl (decide_eq_true q92) rfl) ?_
    refine l_nil ?_
    by_cases p22 : (hh : Int) < 40
    ·
     refine run_cond_t rfl (decide_eq_true p22) ?_
     refine run_skip ?_
     refine run_seq ?_
     refine run_block ?_
     refine run_seq (run_region rfl ?_)
     refine l_val (v := v20) rfl (e_move (by exact zs11)) ?_
     refine l_val (v := Value.int .i64 (hh : Int)) rfl (e_move (by exact zs14)) ?_
     refine l_val (v := Value.pointer (some (eAddr v20 1 (Int.toNat (hh : Int))))) rfl (e_indexAddr (α := Int) (xs := ofS g r) (v := v20) (i := (hh : Int)) Try.underlying27 rfl rfl o21.flat rfl (by omega) (by omega)) ?_
     refine l_val (v := Value.int .i64 (gI (ofS g r) (hh : Int))) rfl (e_load_el1 (α := Int) (xs := ofS g r) (v := v20) (i := (hh : Int)) tp3_dh rfl o21.flat (by omega) (by omega) (by decide) rfl) ?_
     refine l_val (v := Value.int .i64 to) rfl (e_move (by exact zs3)) ?_
     refine l_val (v := Value.bool (decide ((gI (ofS g r) (hh : Int)) = to))) rfl (e_eql (m := (gI (ofS g r) (hh : Int))) (n := to) rfl rfl) ?_
     refine l_nil ?_
     by_cases p24 : (gI (ofS g r) (hh : Int)) = to
     ·
      obtain ⟨hn1, hn2, hn3⟩ := hL.near hh (by omega) (by omega) p24
      have htw := twin_in (n := (g.2.length : Int)) (h := (hh : Int)) (by omega) (by omega)
      refine run_cond_t rfl (decide_eq_true p24) ?_
      refine run_seq ?_
      refine run_region_h g31 (inl []) mixed_dh ?_
      intro w34 ch33
      replace bx5 := bx5.chg ch33 (not_no _)
      refine h_take (v := Value.agg (List.toArray [Value.int .i64 g.1, g_v])) 0 rfl (by kernel_rfl) (by kernel_rfl) rfl (Chg.refl _ _ _) (fun w' hw' => e_load_bxN (ds := [Value.int .i64 g.1, g_v]) tp24_dh (by exact zs4) (bx5.chg hw' (is_nl rfl)) rfl rfl) ?_
      refine h_take (v := r_v) 1 rfl (by kernel_rfl) (by kernel_rfl) rfl (Chg.refl _ _ _) (fun w' hw' => e_move (by exact zs1)) ?_
      refine h_take (v := Value.int .i64 from_) 2 rfl (by kernel_rfl) (by kernel_rfl) rfl (Chg.refl _ _ _) (fun w' hw' => e_move (by exact zs2)) ?_
      refine h_take (v := v20) 3 rfl (by kernel_rfl) (by kernel_rfl) rfl (Chg.refl _ _ _) (fun w' hw' => e_move (by exact zs11)) ?_
      refine h_take (v := Value.int .i64 (hh : Int)) 4 rfl (by kernel_rfl) (by kernel_rfl) rfl (Chg.refl _ _ _) (fun w' hw' => e_move (by exact zs14)) ?_
      refine h_one 5 rfl (by kernel_rfl) rfl ?_
      refine o_call (v := Value.int .i64 (twin (hh : Int))) (e_call (vals := [Value.int .i64 (hh : Int)]) Try.func27 bd27_dh nm27_dh rfl) (rTwin_ok w34 (hh : Int) (by omega)) ?_
      intro w35 hb36
      replace hb36 := chg_below hb36 g31
      have hs37 : Chg (inl []) _ _ _ _ := hb36.n
      refine ⟨hs37.same, ?_⟩
      refine h_one 6 rfl (by kernel_rfl) rfl ?_
      replace o21 := o21.chg ch33 (not_no _) (not_no _)
      refine o_of_val (v := Value.pointer (some (eAddr v20 1 (Int.toNat (twin (hh : Int)))))) (e_indexAddr (α := Int) (xs := ofS g r) (v := v20) (i := twin (hh : Int)) Try.underlying27 rfl rfl (o21.chg hs37 (is_nl rfl) (is_nl rfl)).flat rfl (by omega) (by omega)) ?_
      refine ⟨hs37.same, ?_⟩
      refine h_take (v := Value.int .i64 (gI (ofS g r) (twin (hh : Int)))) 7 rfl (by kernel_rfl) (by kernel_rfl) rfl hs37.same (fun w' hw' => e_load_el1 (α := Int) (xs := ofS g r) (v := v20) (i := twin (hh : Int)) tp3_dh rfl (o21.flat.chg hw' (is_nl rfl)) (by omega) (by omega) (by decide) rfl) ?_
      refine h_one 8 rfl (by kernel_rfl) rfl ?_
      replace r_g_v := r_g_v.chg ch33 (not_no _)
      replace r_r_v := r_r_v.chg ch33 (not_no _)
      refine o_callx (e_call (vals := [Value.agg (List.toArray [Value.int .i64 g.1, g_v]), r_v, Value.int .i64 from_, Value.int .i64 (gI (ofS g r) (twin (hh : Int)))]) Try.func25 bd25_dh nm25_dh rfl) (Hop_ok w35 g g_v ((r_g_v.chg hs37 (is_nl rfl))).ro r r_v ((r_r_v.chg hs37 (is_nl rfl))).ro from_ (gI (ofS g r) (twin (hh : Int)))) ?_
      rintro ⟨d39, v41⟩ w38 ⟨fr40, o42⟩
      obtain ⟨g43, hg43⟩ : ∃ q, q = glue w35.heap.size g31 d39 (fun n => if n = 1 then 4 else 0) := ⟨_, rfl⟩
      have ch44 := chg_glue fr40.below g31 d39 (fun n => if n = 1 then 4 else 0)
      rw [← hg43] at ch44
      replace o42 := o42.glue (γ := g31) (ren := (fun n => if n = 1 then 4 else 0)) (k := 4) fr40.col rfl rfl
      rw [← hg43] at o42
      clear hg43
      have hs45 := hs37.seq (ch44.n)
      refine ⟨hs45.same, ?_⟩
      refine h_take (v := Value.tuple (List.toArray [v41, Value.int .i64 ((hopR g r from_ (gI (ofS g r) (twin (hh : Int)))).2)])) 9 rfl (by kernel_rfl) (by kernel_rfl) rfl hs45.same (fun w' hw' => e_move rfl) ?_
      refine h_take (v := v41) 10 rfl (by kernel_rfl) (by kernel_rfl) rfl hs45.same (fun w' hw' => e_extract rfl rfl) ?_
      refine h_take (v := Value.int .i64 ((hopR g r from_ (gI (ofS g r) (twin (hh : Int)))).2)) 11 rfl (by kernel_rfl) (by kernel_rfl) rfl hs45.same (fun w' hw' => e_extract rfl rfl) ?_
      refine h_take (v := v41) 12 rfl (by kernel_rfl) (by kernel_rfl) rfl hs45.same (fun w' hw' => e_assign rfl) ?_
      refine h_take (v := Value.int .i64 ((hopR g r from_ (gI (ofS g r) (twin (hh : Int)))).2)) 13 rfl (by kernel_rfl) (by kernel_rfl) rfl hs45.same (fun w' hw' => e_assign rfl) ?_
      refine h_nil (by kernel_rfl) ?_
      refine run_seq (run_region rfl ?_)
      refine l_val (v := Value.int .i64 ((hopR g r from_ (gI (ofS g r) (twin (hh : Int)))).2)) rfl (e_move rfl) ?_
      refine l_val (v := Value.bool (!(decide (((hopR g r from_ (gI (ofS g r) (twin (hh : Int)))).2) = 0)))) rfl (e_neq (m := (hopR g r from_ (gI (ofS g r) (twin (hh : Int)))).2) (n := 0) rfl rfl) ?_
      refine l_val (v := Value.bool (!(decide (((hopR g r from_ (gI (ofS g r) (twin (hh : Int)))).2) = 0)))) rfl (e_move rfl) ?_
      have q118 : ((hopR g r from_ (gI (ofS g r) (twin (hh : Int)))).2) = 0 := by first | exact way3 hs3 p15 | (rw [hat, List.take_of_length_le (by omega)]; exact hL.fin) | exact hn1 | exact hn2 | exact hn3
      refine l_val (v := v41) (want_y rfl rfl rfl (congrArg Bool.not (decide_eq_true q118))) (e_move rfl) ?_
      have len46 := (o42.flat).small
      refine l_val (v := Value.int .i64 (List.length ((hopR g r from_ (gI (ofS g r) (twin (hh : Int)))).1) : Int)) (want_y rfl rfl rfl (congrArg Bool.not (decide_eq_true q118))) (e_len Try.underlying27 rfl o42.flat) ?_
      refine l_val (v := v13) (want_y rfl rfl rfl (congrArg Bool.not (decide_eq_true q118))) (e_move (by exact zs9)) ?_
      have C47 : Chg (inl []) _ _ _ _ := (ch33.n).seq ((hb36.n).seq (ch44.n))
      replace o14 := o14.chg C47 (is_nl rfl) (is_nl rfl)
      refine l_val (v := Value.int .i64 (List.length ((hopR g r from_ to).1) : Int)) (want_y rfl rfl rfl (congrArg Bool.not (decide_eq_true q118))) (e_len Try.underlying27 rfl o14.flat) ?_
      refine l_val (v := Value.int .i64 ((List.length ((hopR g r from_ to).1) : Int) + 1)) (want_y rfl rfl rfl (congrArg Bool.not (decide_eq_true q118))) (e_add (m := (List.length ((hopR g r from_ to).1) : Int)) (n := 1) rfl rfl (by omega)) ?_
      refine l_val (v := Value.bool (decide (((List.length ((hopR g r from_ to).1) : Int) + 1) < (List.length ((hopR g r from_ (gI (ofS g r) (twin (hh : Int)))).1) : Int)))) (want_y rfl rfl rfl (congrArg Bool.not (decide_eq_true q118))) (e_gtr (m := (List.length ((hopR g r from_ (gI (ofS g r) (twin (hh : Int)))).1) : Int)) (n := (List.length ((hopR g r from_ to).1) : Int) + 1) rfl rfl) ?_
      refine l_val (v := Value.bool (decide (((List.length ((hopR g r from_ to).1) : Int) + 1) < (List.length ((hopR g r from_ (gI (ofS g r) (twin (hh : Int)))).1) : Int)))) rfl (e_pick_f rfl (congrArg Bool.not (decide_eq_true q118)) rfl) ?_
      refine l_val (v := Value.bool (decide (((List.length ((hopR g r from_ to).1) : Int) + 1) < (List.length ((hopR g r from_ (gI (ofS g r) (twin (hh : Int)))).1) : Int)))) rfl (e_move rfl) ?_
      have q126 : ¬ (((List.length ((hopR g r from_ to).1) : Int) + 1) < (List.length ((hopR g r from_ (gI (ofS g r) (twin (hh : Int)))).1) : Int)) := by first | exact way3 hs3 p15 | (rw [hat, List.take_of_length_le (by omega)]; exact hL.fin) | exact hn1 | exact hn2 | exact hn3
      refine l_val (v := v13) (want_y rfl rfl rfl (decide_eq_false q126)) (e_move (by exact zs9)) ?_
      refine l_val (v := Value.int .i64 (List.length ((hopR g r from_ to).1) : Int)) (want_y rfl rfl rfl (decide_eq_false q126)) (e_len Try.underlying27 rfl o14.flat) ?_
      refine l_val (v := v41) (want_y rfl rfl rfl (decide_eq_false q126)) (e_move rfl) ?_
      refine l_val (v := Value.int .i64 (List.length ((hopR g r from_ (gI (ofS g r) (twin (hh : Int)))).1) : Int)) (want_y rfl rfl rfl (decide_eq_false q126)) (e_len Try.underlying27 rfl o42.flat) ?_
      refine l_val (v := Value.int .i64 ((List.length ((hopR g r from_ (gI (ofS g r) (twin (hh : Int)))).1) : Int) + 1)) (want_y rfl rfl rfl (decide_eq_false q126)) (e_add (m := (List.length ((hopR g r from_ (gI (ofS g r) (twin (hh : Int)))).1) : Int)) (n := 1) rfl rfl (by omega)) ?_
      refine l_val (v := Value.bool (decide (((List.length ((hopR g r from_ (gI (ofS g r) (twin (hh : Int)))).1) : Int) + 1) < (List.length ((hopR g r from_ to).1) : Int)))) (want_y rfl rfl rfl (decide_eq_false q126)) (e_gtr (m := (List.length ((hopR g r from_ to).1) : Int)) (n := (List.length ((hopR g r from_ (gI (ofS g r) (twin (hh : Int)))).1) : Int) + 1) rfl rfl) ?_
      refine l_val (v := Value.bool (decide (((List.length ((hopR g r from_ (gI (ofS g r) (twin (hh : Int)))).1) : Int) + 1) < (List.length ((hopR g r from_ to).1) : Int)))) rfl (e_pick_f rfl (decide_eq_false q126) rfl) ?_
      refine l_nil ?_
      have p26 : ¬ (((List.length ((hopR g r from_ (gI (ofS g r) (twin (hh : Int)))).1) : Int) + 1) < (List.length ((hopR g r from_ to).1) : Int)) := by first | exact way3 hs3 p15 | (rw [hat, List.take_of_length_le (by omega)]; exact hL.fin) | exact hn1 | exact hn2 | exact hn3
      refine run_cond_f rfl (decide_eq_false p26) ?_
      refine run_skip ?_
      refine run_inBlock ?_
      clear o42
      refine run_region rfl ?_
      refine l_val (v := Value.int .i64 (hh : Int)) rfl (e_move (by exact zs14)) ?_
      refine l_val (v := Value.int .i64 ((hh : Int) + 1)) rfl (e_add (m := (hh : Int)) (n := 1) rfl rfl (by omega)) ?_
      refine l_val (v := Value.int .i64 ((hh : Int) + 1)) rfl (e_assign rfl) ?_
      refine l_nil ?_
      replace hbase := hbase.chg C47 (is_nl rfl)
      replace r_g_v := (r_g_v.chg hb36 (not_no _)).chg ch44 (not_no _)
      replace r_r_v := (r_r_v.chg hb36 (not_no _)).chg ch44 (not_no _)
      replace bx5 := (bx5.chg hb36 (not_no _)).chg ch44 (not_no _)
      replace o21 := (o21.chg hb36 (not_no _) (not_no _)).chg ch44 (not_no _) (not_no _)
      refine back22 (hh + 1, g43) _ _ ⟨hbase, (by exact zs1), (by exact zs2), (by exact zs3), (by exact zs4), (by exact zs9), (by exact zs11), rfl, r_g_v, r_r_v, bx5, o14, o21, by omega, ?_⟩ ?_
      · trivial
      · show Int.toNat ((40 : Int) - ((hh + 1) : Int)) < Int.toNat ((40 : Int) - (hh : Int))
        omega
     refine run_cond_f rfl (decide_eq_false p24) ?_
     refine run_skip ?_
     refine run_inBlock ?_
     refine run_region rfl ?_
     refine l_val (v := Value.int .i64 (hh : Int)) rfl (e_move (by exact zs14)) ?_
     refine l_val (v := Value.int .i64 ((hh : Int) + 1)) rfl (e_add (m := (hh : Int)) (n := 1) rfl rfl (by omega)) ?_
     refine l_val (v := Value.int .i64 ((hh : Int) + 1)) rfl (e_assign rfl) ?_
     refine l_nil ?_
     refine back22 (hh + 1, g31) _ _ ⟨hbase, (by exact zs1), (by exact zs2), (by exact zs3), (by exact zs4), (by exact zs9), (by exact zs11), rfl, r_g_v, r_r_v, bx5, o14, o21, by omega, ?_⟩ ?_
     · trivial
     · show Int.toNat ((40 : Int) - ((hh + 1) : Int)) < Int.toNat ((40 : Int) - (hh : Int))
       omega
    refine run_cond_f rfl (decide_eq_false p22) ?_
    refine run_exit rfl ?_
    refine run_seq ?_
    clear bx5
    clear o14
    clear o21
    refine run_region rfl ?_
    refine l_val (v := Value.bool true) rfl (e_assign rfl) ?_
    refine l_nil ?_
    refine run_ret (vs := [Value.bool true]) Try.func5 (.tmp rfl .nil) ?_
    -- return 0
    have e0 : (true : Bool) = (true) := by
      first
        | rfl
        | (rw [hbd]; rfl)
    exact ⟨(congrArg (a₁ := true) (fun (z0 : Bool) => Ending.returned (Value.bool z0)) e0), hbase.below⟩
   refine l_skip (want_n rfl rfl rfl (decide_eq_false q92)) ?_
   refine l_skip (want_n rfl rfl rfl (decide_eq_false q92)) ?_
   refine l_val (v := Value.bool false) rfl (e_pick_f rfl (decide_eq_false q92) rfl) ?_
   refine l_nil ?_
   refine run_cond_f rfl rfl ?_
   refine run_exit rfl ?_
   refine run_seq ?_
   clear bx5
   clear o14
   clear o21
   refine run_region rfl ?_
   refine l_val (v := Value.bool true) rfl (e_assign rfl) ?_
   refine l_nil ?_
   refine run_ret (vs := [Value.bool true]) Try.func5 (.tmp rfl .nil) ?_
   -- return 1
   have e0 : (true : Bool) = (true) := by
     first
       | rfl
       | (rw [hbd]; rfl)
   exact ⟨(congrArg (a₁ := true) (fun (z0 : Bool) => Ending.returned (Value.bool z0)) e0), hbase.below⟩
  have hbd := hopR_bad p6
  refine run_cond_t rfl (congrArg Bool.not (decide_eq_false p6)) ?_
  refine run_seq ?_
  clear bx5
  refine run_region rfl ?_
  refine l_val (v := v13) rfl (e_move rfl) ?_
  have len48 := (o14.flat).small
  refine l_val (v := Value.int .i64 (List.length ((hopR g r from_ to).1) : Int)) rfl (e_len Try.underlying27 rfl o14.flat) ?_
  refine l_val (v := Value.bool (decide ((List.length ((hopR g r from_ to).1) : Int) = 0))) rfl (e_eql (m := (List.length ((hopR g r from_ to).1) : Int)) (n := 0) rfl rfl) ?_
  refine l_val (v := Value.bool (decide ((List.length ((hopR g r from_ to).1) : Int) = 0))) rfl (e_assign rfl) ?_
  refine l_nil ?_
  refine run_ret (vs := [Value.bool (decide ((List.length ((hopR g r from_ to).1) : Int) = 0))]) Try.func5 (.tmp rfl .nil) ?_
  -- return 2
  have e0 : (decide ((List.length ((hopR g r from_ to).1) : Int) = 0) : Bool) = (true) := by
    first
      | rfl
      | (rw [hbd]; rfl)
  have C49 : Chg (inl []) _ _ _ _ := (ch2.n).seq ((hb7.n).seq ((hb9.n).seq (ch16.n)))
  replace hbase := hbase.chg C49 (is_nl rfl)
  exact ⟨(congrArg (a₁ := decide ((List.length ((hopR g r from_ to).1) : Int) = 0)) (fun (z0 : Bool) => Ending.returned (Value.bool z0)) e0), hbase.below⟩
 refine run_cond_t rfl (congrArg Bool.not (Bool.eq_false_iff.2 p3)) ?_
 refine run_seq ?_
 clear bx5
 refine run_region rfl ?_
 refine l_val (v := Value.bool true) rfl (e_assign rfl) ?_
 refine l_nil ?_
 refine run_ret (vs := [Value.bool true]) Try.func5 (.tmp rfl .nil) ?_
 -- return 3
 have e0 : (true : Bool) = (true) := by
   first
     | rfl
     | (rw [hbd]; rfl)
 have C50 : Chg (inl []) _ _ _ _ := (ch2.n).seq ((hb7.n).seq (hb9.n))
 replace hbase := hbase.chg C50 (is_nl rfl)
 exact ⟨(congrArg (a₁ := true) (fun (z0 : Bool) => Ending.returned (Value.bool z0)) e0), hbase.below⟩
end TL
