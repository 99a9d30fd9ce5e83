import Derived.Test.YtilohhkbelkmdaaTlGenX
import Derived.Test.YtilohhkbelkmdaaTlP2
import Derived.Test.YtilohhkbelkmdaaProg
set_option linter.all false
set_option maxRecDepth 20000
namespace TL
open Go Go.Proofs
theorem mixed_y : Try.prog.follows .mixedOrders = true := by kernel_rfl
theorem tp3_y : Tp Try.prog 3 false 1 8 (.int .i64 0) := Tp.of (by kernel_rfl)
theorem tp4_y : Tp Try.prog 4 false 1 1 (.bool false) := Tp.of (by kernel_rfl)
theorem tp22_y : Tp Try.prog 22 false 1 24 (.slice none 0 0) := Tp.of (by kernel_rfl)
theorem tp24_y : Tp Try.prog 24 true 2 32 (.agg #[.int .i64 0, .slice none 0 0]) := Tp.of (by kernel_rfl)
theorem tp27_y : Tp Try.prog 27 false 1 24 (.slice none 0 0) := Tp.of (by kernel_rfl)
theorem bd15_y : Try.f15.body.isNone = false := rfl
theorem nm15_y : (Try.f15.name == "runtime.NumGoroutine") = false := by decide +kernel
theorem bd87_y : Try.f87.body.isNone = false := rfl
theorem nm87_y : (Try.f87.name == "runtime.NumGoroutine") = false := by decide +kernel
theorem bd88_y : Try.f88.body.isNone = false := rfl
theorem nm88_y : (Try.f88.name == "runtime.NumGoroutine") = false := by decide +kernel
theorem bd89_y : Try.f89.body.isNone = false := rfl
theorem nm89_y : (Try.f89.name == "runtime.NumGoroutine") = false := by decide +kernel
theorem bd101_y : Try.f101.body.isNone = false := rfl
theorem nm101_y : (Try.f101.name == "runtime.NumGoroutine") = false := by decide +kernel
theorem nexts_ok (w0 : World) (g : (Int) × (List ((Int) × (Int)))) (g_v : Value) (hg_v : Ro w0 g_v g.2) (r : List (List Int)) (r_v : Value) (hr_v : Ro w0 r_v r) (hmay : MayP g) (hr : RotP g r) :
    Calls Try.prog 101 #[Value.agg (List.toArray [Value.int .i64 g.1, g_v]), r_v] w0 (fun ee w => ∃ xx : Cmap × Value, ee = .returned ((fun ⟨δ, rv0⟩ => rv0) xx) ∧ (fun (⟨δ, rv0⟩ : Cmap × Value) (w : World) => Fresh w0 δ w ∧ Ow δ (is 1) (is 1) w rv0 (nextS g r)) xx w) := by
 refine calls_of_run Try.func101 rfl (Nat.le_of_ble_eq_true rfl) ?_
 have hbase := Base.start w0
 have r_g_v := hg_v.sl
 have r_r_v := hr_v.sl
 have hm0 := hmay
 obtain ⟨hm1, hm2, hm3, hm4⟩ := hm0
 refine run_seq (run_region rfl (l_op rfl ?_))
 refine o_box c0 (is 1) (1, 0) rfl rfl ?_
 intro g4 w1 b3 ch2 bx5
 replace bx5 : Bx g4 (is 1) w1 b3 [Value.int .i64 g.1, g_v] := bx5
 refine lv (Value.slice none 0 0) rfl (e_assign rfl) ?_
 refine l_nil (run_seq (run_region rfl ?_))
 refine lv (Value.pointer (some ⟨b3, 1, none⟩)) rfl (e_fieldAddr Try.underlying24 rfl rfl rfl rfl) ?_
 refine lv (g_v) rfl (e_load_bx1 tp22_y rfl bx5 rfl) ?_
 replace r_g_v := r_g_v.chg ch2 (not_no _)
 have len6 := (r_g_v).small
 refine lv (Value.int .i64 (List.length g.2 : Int)) rfl (e_len Try.underlying22 rfl r_g_v) ?_
 refine lv (Value.int .i64 (2 * (List.length g.2 : Int))) rfl (e_mul (m := 2) (n := (List.length g.2 : Int)) rfl rfl (by omega)) ?_
 refine l_op rfl ?_
 refine o_make (α := Int) (l := 2 * (List.length g.2 : Int)) (cp := 2 * (List.length g.2 : Int)) g4 (is 2) (is 2) (2, 0) rfl (0 : Int) Try.underlying27 tp3_y rfl rfl rfl (by omega) (by omega) (by omega) (by omega) ?_
 intro g7 w8 v9 ch10 o11 _
 refine lv (v9) rfl (e_assign rfl) ?_
 refine l_nil (run_seq (run_seq ?_))
 clear bx5
 refine run_region rfl ?_
 refine lv (r_v) rfl (e_move rfl) ?_
 replace r_r_v := (r_r_v.chg ch2 (not_no _)).chg ch10 (not_no _)
 have len12 := (r_r_v).small
 refine lv (Value.int .i64 (List.length r : Int)) rfl (e_len Try.underlying26 rfl r_r_v) ?_
 refine lv (Value.int .i64 0) rfl (e_move rfl) ?_
 refine l_nil ?_
 refine run_block ?_
 refine run_loop (σ := Nat × (List Int) × Cmap) (fun ⟨k, l, gq⟩ f w => Base w0 gq w ∧ f 5 = v9 ∧ f 15 = r_v ∧ f 16 = Value.int .i64 (List.length r : Int) ∧ f 17 = Value.int .i64 (k : Int) ∧ Sl gq (is 0) w g_v g.2 ∧ Sl gq (is 0) w r_v r ∧ Ow gq (is 2) (is 2) w v9 l ∧ (k : Int) ≤ ((List.length r : Int) : Int) ∧ (NxInv l g r k 0)) (fun ⟨k, l, gq⟩ => Int.toNat (((List.length r : Int) : Int) - (k : Int))) (0, (List.replicate (Int.toNat (2 * (List.length g.2 : Int))) (0 : Int)), g7) ?_ ?_
 replace hbase := hbase.chg ch2 (not_no _)
 replace hbase := hbase.chg ch10 (not_no _)
 replace r_g_v := r_g_v.chg ch10 (not_no _)
 · exact ⟨hbase, rfl, rfl, rfl, rfl, r_g_v, r_r_v, o11, by omega, by exact NxInv.start g r⟩
 clear r_g_v r_r_v o11 hbase
 rintro ⟨k, l, g15⟩ f13 w14 ⟨hbase, zs5, zs15, zs16, zs17, r_g_v, r_r_v, o11, hle_k, hinv⟩ back3
 have hnl := hinv.len
 refine run_seq (run_region rfl ?_)
 refine lv (Value.bool (decide ((k : Int) < (List.length r : Int)))) rfl (e_lss (m := (k : Int)) (n := (List.length r : Int)) (by exact zs17) (by exact zs16)) ?_
 refine l_nil (run_seq ?_)
 by_cases p3 : (k : Int) < (List.length r : Int)
 ·
  refine run_cond_t rfl (decide_eq_true p3) ?_
  refine run_skip ?_
  refine run_seq ?_
  refine run_block ?_
  refine run_seq (run_region rfl ?_)
  refine lv (Value.pointer (some (eAddr r_v 1 (Int.toNat (k : Int))))) rfl (e_indexAddr (α := List Int) (xs := r) (v := r_v) (i := (k : Int)) Try.underlying26 rfl (by exact zs15) r_r_v (by exact zs17) (by omega) (by omega)) ?_
  obtain ⟨v16, cel17, r18⟩ := sl_row (r := (k : Int)) r_r_v (by omega) (by omega)
  refine lv (v16) rfl (e_load1 tp27_y rfl cel17) ?_
  refine lv (v16) rfl (e_assign rfl) ?_
  refine l_nil (run_seq (run_region rfl ?_))
  refine lv (v16) rfl (e_move rfl) ?_
  have len19 := (r18).small
  refine lv (Value.int .i64 (List.length (gI r (k : Int)) : Int)) rfl (e_len Try.underlying27 rfl r18) ?_
  refine lv (Value.int .i64 0) rfl (e_move rfl) ?_
  refine l_nil ?_
  refine run_block ?_
  refine run_loop (σ := Nat × (List Int) × Cmap) (fun ⟨i, l, gq⟩ f w => Base w0 gq w ∧ f 5 = v9 ∧ f 7 = v16 ∧ f 15 = r_v ∧ f 16 = Value.int .i64 (List.length r : Int) ∧ f 17 = Value.int .i64 (k : Int) ∧ f 21 = v16 ∧ f 22 = Value.int .i64 (List.length (gI r (k : Int)) : Int) ∧ f 23 = Value.int .i64 (i : Int) ∧ Sl gq (is 0) w g_v g.2 ∧ Sl gq (is 0) w r_v r ∧ Ow gq (is 2) (is 2) w v9 l ∧ Sl gq (is 0) w v16 (gI r (k : Int)) ∧ (i : Int) ≤ ((List.length (gI r (k : Int)) : Int) : Int) ∧ (NxInv l g r k i)) (fun ⟨i, l, gq⟩ => Int.toNat (((List.length (gI r (k : Int)) : Int) : Int) - (i : Int))) (0, l, g15) ?_ ?_
  · exact ⟨hbase, (by exact zs5), rfl, (by exact zs15), (by exact zs16), (by exact zs17), rfl, rfl, rfl, r_g_v, r_r_v, o11, r18, by omega, by exact hinv⟩
  clear r_g_v r_r_v o11 r18 hbase
  rintro ⟨i, l, g22⟩ f20 w21 ⟨hbase, zs5, zs7, zs15, zs16, zs17, zs21, zs22, zs23, r_g_v, r_r_v, o11, r18, hle_i, hin⟩ back6
  have hnl := hin.len
  refine run_seq (run_region rfl ?_)
  refine lv (Value.bool (decide ((i : Int) < (List.length (gI r (k : Int)) : Int)))) rfl (e_lss (m := (i : Int)) (n := (List.length (gI r (k : Int)) : Int)) (by exact zs23) (by exact zs22)) ?_
  refine l_nil (run_seq ?_)
  by_cases p6 : (i : Int) < (List.length (gI r (k : Int)) : Int)
  ·
   refine run_cond_t rfl (decide_eq_true p6) ?_
   have hh := (hr.2.1 k (by omega) _ (gI_mem (xs := gI r (k : Int)) (i := (i : Int)) (by omega) (by assumption))).1
   have htw := twin_in hh.1 hh.2
   have he1 := Int.emod_nonneg ((i : Int) + 1) (show ((gI r (k : Int)).length : Int) ≠ 0 by omega)
   have he2 := Int.emod_lt_of_pos ((i : Int) + 1) (show (0 : Int) < ((gI r (k : Int)).length : Int) by omega)
   refine run_skip ?_
   refine run_seq ?_
   refine run_block ?_
   refine run_seq (run_region rfl ?_)
   refine lv (Value.int .i64 (i : Int)) rfl (e_move (by exact zs23)) ?_
   refine lv (Value.pointer (some (eAddr v16 1 (Int.toNat (i : Int))))) rfl (e_indexAddr (α := Int) (xs := gI r (k : Int)) (v := v16) (i := (i : Int)) Try.underlying27 rfl (by exact zs21) r18 (by exact zs23) (by omega) (by omega)) ?_
   refine lv (Value.int .i64 (gI (gI r (k : Int)) (i : Int))) rfl (e_load_el1 (α := Int) (xs := gI r (k : Int)) (v := v16) (i := (i : Int)) tp3_y rfl r18 (by omega) (by omega) (by decide) rfl) ?_
   refine lv (Value.int .i64 (i : Int)) rfl (e_assign rfl) ?_
   refine lv (Value.int .i64 (gI (gI r (k : Int)) (i : Int))) rfl (e_assign rfl) ?_
   refine l_nil (run_region rfl ?_)
   refine lv (v9) rfl (e_move (by exact zs5)) ?_
   refine lv (Value.int .i64 (gI (gI r (k : Int)) (i : Int))) rfl (e_move rfl) ?_
   refine lv (Value.int .i64 (twin (gI (gI r (k : Int)) (i : Int)))) rfl (e_xor1 (m := (gI (gI r (k : Int)) (i : Int))) rfl rfl (by omega) (by omega)) ?_
   refine lv (v16) rfl (e_move (by exact zs7)) ?_
   refine lv (Value.int .i64 (i : Int)) rfl (e_move rfl) ?_
   refine lv (Value.int .i64 ((i : Int) + 1)) rfl (e_add (m := (i : Int)) (n := 1) rfl rfl (by omega)) ?_
   refine lv (v16) rfl (e_move (by exact zs7)) ?_
   refine lv (Value.int .i64 (List.length (gI r (k : Int)) : Int)) rfl (e_len Try.underlying27 rfl r18) ?_
   refine lv (Value.int .i64 (((i : Int) + 1) % (List.length (gI r (k : Int)) : Int))) rfl (e_rem (m := (i : Int) + 1) (n := (List.length (gI r (k : Int)) : Int)) rfl rfl (by omega) (by omega)) ?_
   refine lv (Value.pointer (some (eAddr v16 1 (Int.toNat (((i : Int) + 1) % (List.length (gI r (k : Int)) : Int)))))) rfl (e_indexAddr (α := Int) (xs := gI r (k : Int)) (v := v16) (i := ((i : Int) + 1) % (List.length (gI r (k : Int)) : Int)) Try.underlying27 rfl rfl r18 rfl (by omega) (by omega)) ?_
   refine lv (Value.int .i64 (gI (gI r (k : Int)) (((i : Int) + 1) % (List.length (gI r (k : Int)) : Int)))) rfl (e_load_el1 (α := Int) (xs := gI r (k : Int)) (v := v16) (i := ((i : Int) + 1) % (List.length (gI r (k : Int)) : Int)) tp3_y rfl r18 (by omega) (by omega) (by decide) rfl) ?_
   refine lv (Value.pointer (some (eAddr v9 1 (Int.toNat (twin (gI (gI r (k : Int)) (i : Int))))))) rfl (e_indexAddr (α := Int) (xs := l) (v := v9) (i := twin (gI (gI r (k : Int)) (i : Int))) Try.underlying27 rfl rfl o11.flat rfl (by omega) (by omega)) ?_
   refine l_op rfl ?_
   refine o_store_el (i := twin (gI (gI r (k : Int)) (i : Int))) (gI (gI r (k : Int)) (((i : Int) + 1) % (List.length (gI r (k : Int)) : Int))) tp3_y rfl rfl o11 (by omega) (by omega) rfl ?_
   intro w23 ch24 bx25
   clear o11
   refine l_nil ?_
   refine run_inBlock ?_
   refine run_region rfl ?_
   refine lv (Value.int .i64 ((i : Int) + 1)) rfl (e_add (m := (i : Int)) (n := 1) (by exact zs23) rfl (by omega)) ?_
   refine lv (Value.int .i64 ((i : Int) + 1)) rfl (e_move rfl) ?_
   refine l_nil ?_
   replace hbase := hbase.chg ch24 (is_ne rfl)
   replace r_g_v := r_g_v.chg ch24 (is_ne rfl)
   replace r_r_v := r_r_v.chg ch24 (is_ne rfl)
   replace r18 := r18.chg ch24 (is_ne rfl)
   refine back6 (i + 1, (List.set l (Int.toNat (twin (gI (gI r (k : Int)) (i : Int)))) (gI (gI r (k : Int)) (((i : Int) + 1) % (List.length (gI r (k : Int)) : Int)))), g22) _ _ ⟨hbase, (by exact zs5), (by exact zs7), (by exact zs15), (by exact zs16), (by exact zs17), (by exact zs21), (by exact zs22), rfl, r_g_v, r_r_v, bx25, r18, by omega, ?_⟩ ?_
   · show NxInv (List.set l (Int.toNat (twin (gI (gI r (k : Int)) (i : Int)))) (gI (gI r (k : Int)) (((i : Int) + 1) % (List.length (gI r (k : Int)) : Int)))) g r k (i + 1)
     exact hin.next hr (by assumption) (by assumption)
   · show Int.toNat (((List.length (gI r (k : Int)) : Int) : Int) - ((i + 1) : Int)) < Int.toNat (((List.length (gI r (k : Int)) : Int) : Int) - (i : Int))
     omega
  refine run_cond_f rfl (decide_eq_false p6) ?_
  refine run_exit rfl ?_
  refine run_inBlock ?_
  clear r18
  refine run_region rfl ?_
  refine lv (Value.int .i64 ((k : Int) + 1)) rfl (e_add (m := (k : Int)) (n := 1) (by exact zs17) rfl (by omega)) ?_
  refine lv (Value.int .i64 ((k : Int) + 1)) rfl (e_move rfl) ?_
  refine l_nil ?_
  refine back3 (k + 1, l, g22) _ _ ⟨hbase, (by exact zs5), (by exact zs15), (by exact zs16), rfl, r_g_v, r_r_v, o11, by omega, ?_⟩ ?_
  · show NxInv l g r (k + 1) 0
    exact hin.row_done (by assumption)
  · show Int.toNat (((List.length r : Int) : Int) - ((k + 1) : Int)) < Int.toNat (((List.length r : Int) : Int) - (k : Int))
    omega
 refine run_cond_f rfl (decide_eq_false p3) ?_
 refine run_exit rfl ?_
 refine run_seq (run_region rfl ?_)
 refine lv (v9) rfl (e_move (by exact zs5)) ?_
 refine lv (v9) rfl (e_assign rfl) ?_
 refine l_nil ?_
 refine run_ret (vs := [v9]) Try.func101 (.tmp rfl .nil) ?_
 have e0 : (l : List Int) = (nextS g r) := by
   exact hinv.done hr (by assumption)
 exact ⟨(fin w0 g15 (fun n => if n = 2 then 1 else 0), v9), (congrArg (a₁ := l) (fun (z0 : List Int) => Ending.returned (v9)) e0), hbase.fresh _, (e0 ▸ (o11.glue (γ := c0) (ren := (fun n => if n = 2 then 1 else 0)) (k := 1) hbase.col rfl rfl))⟩
theorem faces_ok (w0 : World) (g : (Int) × (List ((Int) × (Int)))) (g_v : Value) (hg_v : Ro w0 g_v g.2) (r : List (List Int)) (r_v : Value) (hr_v : Ro w0 r_v r) (hmay : MayP g) (hr : RotP g r) :
    Calls Try.prog 87 #[Value.agg (List.toArray [Value.int .i64 g.1, g_v]), r_v] w0 (fun ee w => ∃ xx : Cmap × Value, ee = .returned ((fun ⟨δ, rv0⟩ => rv0) xx) ∧ (fun (⟨δ, rv0⟩ : Cmap × Value) (w : World) => Fresh w0 δ w ∧ Nst δ 1 w rv0 (facesS (nextS g r) r)) xx w) := by
 refine calls_of_run Try.func87 rfl (Nat.le_of_ble_eq_true rfl) ?_
 have hbase := Base.start w0
 have r_g_v := hg_v.sl
 have r_r_v := hr_v.sl
 have hm0 := hmay
 obtain ⟨hm1, hm2, hm3, hm4⟩ := hm0
 have hnx := nextS_len g r
 have hrl := hr.1
 refine run_seq (run_region rfl (l_op rfl ?_))
 refine o_box c0 (is 1) (1, 0) rfl rfl ?_
 intro g4 w1 b3 ch2 bx5
 replace bx5 : Bx g4 (is 1) w1 b3 [Value.int .i64 g.1, g_v] := bx5
 refine lv (Value.slice none 0 0) rfl (e_assign rfl) ?_
 refine l_nil (run_seq (run_region rfl ?_))
 refine lv (Value.agg (List.toArray [Value.int .i64 g.1, g_v])) rfl (e_load_bxN (ds := [Value.int .i64 g.1, g_v]) tp24_y rfl bx5 rfl rfl) ?_
 refine lv (r_v) rfl (e_move rfl) ?_
 replace r_g_v := r_g_v.chg ch2 (not_no _)
 replace r_r_v := r_r_v.chg ch2 (not_no _)
 refine l_op rfl ?_
 refine o_callx (e_call (vals := [Value.agg (List.toArray [Value.int .i64 g.1, g_v]), r_v]) Try.func101 bd101_y nm101_y rfl) (nexts_ok w1 g g_v (r_g_v).ro r r_v (r_r_v).ro (by assumption) (by assumption)) ?_
 rintro ⟨d7, v9⟩ w6 ⟨fr8, o10⟩
 obtain ⟨g11, hg11⟩ : ∃ q, q = glue w1.heap.size g4 d7 (fun n => if n = 1 then 2 else 0) := ⟨_, rfl⟩
 have ch12 := chg_glue fr8.below g4 d7 (fun n => if n = 1 then 2 else 0)
 rw [← hg11] at ch12
 replace o10 := o10.glue (γ := g4) (ren := (fun n => if n = 1 then 2 else 0)) (k := 2) fr8.col rfl rfl
 rw [← hg11] at o10
 clear hg11
 refine lv (v9) rfl (e_assign rfl) ?_
 refine l_nil (run_seq ?_)
 clear bx5
 refine run_region rfl ?_
 refine lv (v9) rfl (e_move rfl) ?_
 have len13 := (o10.flat).small
 refine lv (Value.int .i64 (List.length (nextS g r) : Int)) rfl (e_len Try.underlying27 rfl o10.flat) ?_
 refine l_op rfl ?_
 refine o_make (α := Bool) (l := (List.length (nextS g r) : Int)) (cp := (List.length (nextS g r) : Int)) g11 (is 3) (is 3) (3, 0) rfl false Try.underlying75 tp4_y rfl rfl rfl (by omega) (by omega) (by omega) (by omega) ?_
 intro g14 w15 v16 ch17 o18 _
 refine lv (v16) rfl (e_assign rfl) ?_
 refine l_nil (run_seq (run_region rfl ?_))
 refine lv (Value.slice none 0 0) rfl (e_assign rfl) ?_
 refine l_nil (run_seq (run_seq (run_region rfl ?_)))
 refine lv (v9) rfl (e_move rfl) ?_
 replace o10 := o10.chg ch17 (not_no _) (not_no _)
 refine lv (Value.int .i64 (List.length (nextS g r) : Int)) rfl (e_len Try.underlying27 rfl o10.flat) ?_
 refine lv (Value.int .i64 0) rfl (e_move rfl) ?_
 refine l_nil ?_
 refine run_block ?_
 refine run_loop (σ := Value × (List (List Int)) × Nat × (List Bool) × Cmap) (fun ⟨l_v, l, q, seen, gq⟩ f w => Base w0 gq w ∧ f 1 = r_v ∧ f 5 = v9 ∧ f 6 = v16 ∧ f 7 = l_v ∧ f 20 = Value.int .i64 (List.length (nextS g r) : Int) ∧ f 21 = Value.int .i64 (q : Int) ∧ Sl gq (is 0) w g_v g.2 ∧ Sl gq (is 0) w r_v r ∧ Ow gq (is 2) (is 2) w v9 (nextS g r) ∧ Ow gq (is 3) (is 3) w v16 seen ∧ Nst gq 7 w l_v l ∧ (q : Int) ≤ ((List.length (nextS g r) : Int) : Int) ∧ (∃ S, FaInv seen l (nextS g r) S q)) (fun ⟨l_v, l, q, seen, gq⟩ => Int.toNat (((List.length (nextS g r) : Int) : Int) - (q : Int))) (Value.slice none 0 0, [], 0, (List.replicate (Int.toNat (List.length (nextS g r) : Int)) false), g14) ?_ ?_
 have C19 : Chg (inl []) _ _ _ _ := (ch2.n).seq ((ch12.n).seq (ch17.n))
 replace hbase := hbase.chg C19 (is_nl rfl)
 replace r_g_v := (r_g_v.chg ch12 (not_no _)).chg ch17 (not_no _)
 replace r_r_v := (r_r_v.chg ch12 (not_no _)).chg ch17 (not_no _)
 · exact ⟨hbase, rfl, rfl, rfl, rfl, rfl, rfl, r_g_v, r_r_v, o10, o18, Nst.nil, by omega, by exact ⟨[], by have h := FaInv.start (nextS g r); simpa using h⟩⟩
 clear r_g_v r_r_v o10 o18 hbase
 rintro ⟨l_v, l, q, seen, g22⟩ f20 w21 ⟨hbase, zs1, zs5, zs6, zs7, zs20, zs21, r_g_v, r_r_v, o10, o18, o_l, hle_q, hinv⟩ back5
 obtain ⟨S, hfa⟩ := hinv
 have hsl := hfa.rm.len
 have hll := hfa.le
 refine run_seq (run_region rfl ?_)
 refine lv (Value.bool (decide ((q : Int) < (List.length (nextS g r) : Int)))) rfl (e_lss (m := (q : Int)) (n := (List.length (nextS g r) : Int)) (by exact zs21) (by exact zs20)) ?_
 refine l_nil (run_seq ?_)
 by_cases p5 : (q : Int) < (List.length (nextS g r) : Int)
 ·
  refine run_cond_t rfl (decide_eq_true p5) ?_
  refine run_skip ?_
  refine run_seq ?_
  refine run_block ?_
  refine run_seq (run_region rfl ?_)
  refine lv (Value.int .i64 (q : Int)) rfl (e_move (by exact zs21)) ?_
  refine lv (Value.int .i64 (q : Int)) rfl (e_assign rfl) ?_
  refine l_nil (run_seq (run_region rfl ?_))
  refine lv (Value.slice none 0 0) rfl (e_assign rfl) ?_
  refine l_nil (run_seq (run_seq (run_region rfl ?_)))
  refine lv (Value.int .i64 (q : Int)) rfl (e_move rfl) ?_
  refine lv (Value.int .i64 (q : Int)) rfl (e_assign rfl) ?_
  refine l_nil ?_
  refine run_block ?_
  refine run_loop (σ := Value × (List Int) × Int × (List Bool) × Cmap) (fun ⟨f__v, f_, k, seen, gq⟩ f w => Base w0 gq w ∧ f 1 = r_v ∧ f 5 = v9 ∧ f 6 = v16 ∧ f 7 = l_v ∧ f 9 = f__v ∧ f 10 = Value.int .i64 k ∧ f 20 = Value.int .i64 (List.length (nextS g r) : Int) ∧ f 21 = Value.int .i64 (q : Int) ∧ Sl gq (is 0) w g_v g.2 ∧ Sl gq (is 0) w r_v r ∧ Ow gq (is 2) (is 2) w v9 (nextS g r) ∧ Ow gq (is 3) (is 3) w v16 seen ∧ Nst gq 7 w l_v l ∧ Ow gq (is 5) (is 5) w f__v f_ ∧ (OrInv seen f_ (nextS g r) S q k)) (fun ⟨f__v, f_, k, seen, gq⟩ => List.length (nextS g r) - List.length f_) (Value.slice none 0 0, [], (q : Int), seen, g22) ?_ ?_
  · exact ⟨hbase, (by exact zs1), (by exact zs5), (by exact zs6), (by exact zs7), rfl, rfl, (by exact zs20), (by exact zs21), r_g_v, r_r_v, o10, o18, o_l, Ow.nil, by exact OrInv.start hfa (by assumption)⟩
  clear r_g_v r_r_v o10 o18 o_l hbase
  rintro ⟨f__v, f_, k, seen, g25⟩ f23 w24 ⟨hbase, zs1, zs5, zs6, zs7, zs9, zs10, zs20, zs21, r_g_v, r_r_v, o10, o18, o_l, o_f_, hor⟩ back9
  have hsl2 := hor.rm.len
  have hk0 := hor.k0
  have hk1 := hor.k1
  refine run_seq (run_seq (run_region rfl ?_))
  refine lv (v16) rfl (e_move (by exact zs6)) ?_
  refine lv (Value.int .i64 k) rfl (e_move (by exact zs10)) ?_
  refine lv (Value.pointer (some (eAddr v16 1 (Int.toNat k)))) rfl (e_indexAddr (α := Bool) (xs := seen) (v := v16) (i := k) Try.underlying75 rfl rfl o18.flat rfl (by omega) (by omega)) ?_
  refine lv (Value.bool (gI seen k)) rfl (e_load_el1 (α := Bool) (xs := seen) (v := v16) (i := k) tp4_y rfl o18.flat (by omega) (by omega) (by decide) rfl) ?_
  refine lv (Value.bool (!(gI seen k))) rfl (e_not (b := (gI seen k)) rfl) ?_
  refine l_nil ?_
  by_cases p9 : (gI seen k) = true
  ·
   refine run_cond_f rfl (congrArg Bool.not p9) ?_
   refine run_exit rfl ?_
   refine run_seq (run_region rfl ?_)
   refine lv (f__v) rfl (e_move (by exact zs9)) ?_
   have len26 := (o_f_.flat).small
   refine lv (Value.int .i64 (List.length f_ : Int)) rfl (e_len Try.underlying27 rfl o_f_.flat) ?_
   refine lv (Value.bool (decide (0 < (List.length f_ : Int)))) rfl (e_gtr (m := (List.length f_ : Int)) (n := 0) rfl rfl) ?_
   refine l_nil ?_
   by_cases p13 : 0 < (List.length f_ : Int)
   ·
    refine run_cond_t rfl (decide_eq_true p13) ?_
    refine run_region rfl ?_
    refine lv (l_v) rfl (e_move (by exact zs7)) ?_
    refine lv (f__v) rfl (e_move (by exact zs9)) ?_
    refine l_op rfl ?_
    obtain ⟨c27, hv28⟩ := vc_of (u := f__v) (sl_one o_f_.flat)
    refine o_buildSlice (α := Vc) g25 (is 6) (is 6) (6, 0) rfl [c27] Try.underlying25 tp27_y (by decide) (by decide) (vs := [(0, f__v)]) rfl rfl (.cons (vc_els hv28 (sl_cells1 o_f_.flat)) .nil) ?_
    intro g29 w30 v31 ch32 o33
    refine l_op rfl ?_
    replace o_l := o_l.chg ch32 (not_no _)
    replace o_f_ := o_f_.chg ch32 (not_no _) (not_no _)
    refine o_append_nst hv28 (α := Int) (xss := l) (i := 7) (γ := g29) Try.underlying25 tp27_y rfl rfl rfl o_l (o33.flat) o_f_ rfl (by decide) (by first | omega | (simp; done) | (simp; omega)) ?_
    intro g34 w35 v36 ch37 o38 r39
    clear o_l o_f_
    refine lv (v36) rfl (e_assign rfl) ?_
    refine l_nil ?_
    refine run_inBlock ?_
    clear o33 r39
    refine run_region rfl ?_
    refine lv (Value.int .i64 ((q : Int) + 1)) rfl (e_add (m := (q : Int)) (n := 1) (by exact zs21) rfl (by omega)) ?_
    refine lv (Value.int .i64 ((q : Int) + 1)) rfl (e_move rfl) ?_
    refine l_nil ?_
    replace hbase := hbase.chg ch32 (not_no _)
    replace hbase := hbase.chg ch37 (is_neix rfl rfl)
    replace r_g_v := (r_g_v.chg ch32 (not_no _)).chg ch37 (is_neix rfl rfl)
    replace r_r_v := (r_r_v.chg ch32 (not_no _)).chg ch37 (is_neix rfl rfl)
    replace o10 := (o10.chg ch32 (not_no _) (not_no _)).chg ch37 (is_neix rfl rfl) (is_neix rfl rfl)
    replace o18 := (o18.chg ch32 (not_no _) (not_no _)).chg ch37 (is_neix rfl rfl) (is_neix rfl rfl)
    refine back5 (v36, (l ++ [f_]), q + 1, seen, g34) _ _ ⟨hbase, (by exact zs1), (by exact zs5), (by exact zs6), rfl, (by exact zs20), rfl, r_g_v, r_r_v, o10, o18, o38, by omega, ?_⟩ ?_
    · show ∃ S, FaInv seen (l ++ [f_]) (nextS g r) S (q + 1)
      first
        | exact ⟨_, hfa.yes hor (by assumption) (by assumption) (by assumption)⟩
        | exact ⟨_, hfa.no hor (by assumption) (by assumption) (by assumption)⟩
    · show Int.toNat (((List.length (nextS g r) : Int) : Int) - ((q + 1) : Int)) < Int.toNat (((List.length (nextS g r) : Int) : Int) - (q : Int))
      omega
   refine run_cond_f rfl (decide_eq_false p13) ?_
   refine run_skip ?_
   refine run_inBlock ?_
   clear o_f_
   refine run_region rfl ?_
   refine lv (Value.int .i64 ((q : Int) + 1)) rfl (e_add (m := (q : Int)) (n := 1) (by exact zs21) rfl (by omega)) ?_
   refine lv (Value.int .i64 ((q : Int) + 1)) rfl (e_move rfl) ?_
   refine l_nil ?_
   refine back5 (l_v, l, q + 1, seen, g25) _ _ ⟨hbase, (by exact zs1), (by exact zs5), (by exact zs6), (by exact zs7), (by exact zs20), rfl, r_g_v, r_r_v, o10, o18, o_l, by omega, ?_⟩ ?_
   · show ∃ S, FaInv seen l (nextS g r) S (q + 1)
     first
       | exact ⟨_, hfa.yes hor (by assumption) (by assumption) (by assumption)⟩
       | exact ⟨_, hfa.no hor (by assumption) (by assumption) (by assumption)⟩
   · show Int.toNat (((List.length (nextS g r) : Int) : Int) - ((q + 1) : Int)) < Int.toNat (((List.length (nextS g r) : Int) : Int) - (q : Int))
     omega
  refine run_cond_t rfl (congrArg Bool.not (Bool.eq_false_iff.2 p9)) ?_
  have hni := nextS_in hr (k := k) (by omega) (by omega)
  have hnxt := hor.next (by assumption) (by omega)
  refine run_skip ?_
  refine run_seq ?_
  refine run_block ?_
  refine run_seq (run_region rfl ?_)
  refine lv (v16) rfl (e_move (by exact zs6)) ?_
  refine lv (Value.int .i64 k) rfl (e_move (by exact zs10)) ?_
  refine lv (Value.pointer (some (eAddr v16 1 (Int.toNat k)))) rfl (e_indexAddr (α := Bool) (xs := seen) (v := v16) (i := k) Try.underlying75 rfl rfl o18.flat rfl (by omega) (by omega)) ?_
  refine l_op rfl ?_
  refine o_store_el (i := k) true tp4_y rfl rfl o18 (by omega) (by omega) rfl ?_
  intro w40 ch41 bx42
  clear o18
  refine l_nil (run_region rfl ?_)
  refine lv (f__v) rfl (e_move (by exact zs9)) ?_
  refine lv (Value.int .i64 k) rfl (e_move (by exact zs10)) ?_
  refine l_op rfl ?_
  refine o_buildSlice (α := Int) g25 (is 4) (is 4) (4, 0) rfl [k] Try.underlying27 tp3_y (by decide) (by decide) (vs := [(0, Value.int .i64 k)]) rfl rfl (.cons rfl .nil) ?_
  intro g43 w44 v45 ch46 o47
  refine l_op rfl ?_
  replace o_f_ := (o_f_.chg ch41 (is_ne rfl) (is_ne rfl)).chg ch46 (not_no _) (not_no _)
  refine o_append (α := Int) (xs := f_) (ys := ([k])) g43 (J := is 5) (S := is 5) (5, 0) rfl Try.underlying27 tp3_y (by decide) rfl rfl rfl o_f_ o47.flat (by decide) (by first | omega | (simp; done) | (simp; omega)) ?_
  intro g48 w49 v50 ch51 o52
  clear o_f_
  refine lv (v50) rfl (e_assign rfl) ?_
  refine l_nil ?_
  refine run_inBlock ?_
  clear o47
  refine run_region rfl ?_
  refine lv (v9) rfl (e_move (by exact zs5)) ?_
  refine lv (Value.int .i64 k) rfl (e_move (by exact zs10)) ?_
  have C53 : Chg (inl [3, 5]) _ _ _ _ := (ch41.l rfl).seq ((ch46.n).seq (ch51.l rfl))
  replace o10 := o10.chg C53 (is_nl rfl) (is_nl rfl)
  refine lv (Value.pointer (some (eAddr v9 1 (Int.toNat k)))) rfl (e_indexAddr (α := Int) (xs := nextS g r) (v := v9) (i := k) Try.underlying27 rfl rfl o10.flat rfl (by omega) (by omega)) ?_
  refine lv (Value.int .i64 (gI (nextS g r) k)) rfl (e_load_el1 (α := Int) (xs := nextS g r) (v := v9) (i := k) tp3_y rfl o10.flat (by omega) (by omega) (by decide) rfl) ?_
  refine lv (Value.int .i64 (gI (nextS g r) k)) rfl (e_assign rfl) ?_
  refine l_nil ?_
  replace hbase := hbase.chg C53 (is_nl rfl)
  replace r_g_v := r_g_v.chg C53 (is_nl rfl)
  replace r_r_v := r_r_v.chg C53 (is_nl rfl)
  replace bx42 := (bx42.chg ch46 (not_no _) (not_no _)).chg ch51 (is_ne rfl) (is_ne rfl)
  replace o_l := o_l.chg C53 (is_nl rfl)
  refine back9 (v50, (f_ ++ [k]), (gI (nextS g r) k), (List.set seen (Int.toNat k) true), g48) _ _ ⟨hbase, (by exact zs1), (by exact zs5), (by exact zs6), (by exact zs7), rfl, rfl, (by exact zs20), (by exact zs21), r_g_v, r_r_v, o10, bx42, o_l, o52, ?_⟩ ?_
  · show OrInv (List.set seen (Int.toNat k) true) (f_ ++ [k]) (nextS g r) S q (gI (nextS g r) k)
    exact hnxt.1
  · show List.length (nextS g r) - List.length (f_ ++ [k]) < List.length (nextS g r) - List.length f_
    (have h2 := hnxt.2; simp only [List.length_append, List.length_cons, List.length_nil]; omega)
 refine run_cond_f rfl (decide_eq_false p5) ?_
 refine run_exit rfl ?_
 refine run_seq (run_seq ?_)
 clear o10 o18
 refine run_region rfl ?_
 refine lv (r_v) rfl (e_move (by exact zs1)) ?_
 have len54 := (r_r_v).small
 refine lv (Value.int .i64 (List.length r : Int)) rfl (e_len Try.underlying26 rfl r_r_v) ?_
 refine lv (Value.int .i64 0) rfl (e_move rfl) ?_
 refine l_nil ?_
 refine run_block ?_
 refine run_loop (σ := Value × (List (List Int)) × Nat × Cmap) (fun ⟨l_v, l, p, gq⟩ f w => Base w0 gq w ∧ f 7 = l_v ∧ f 49 = r_v ∧ f 50 = Value.int .i64 (List.length r : Int) ∧ f 51 = Value.int .i64 (p : Int) ∧ Sl gq (is 0) w g_v g.2 ∧ Sl gq (is 0) w r_v r ∧ Nst gq 7 w l_v l ∧ (p : Int) ≤ ((List.length r : Int) : Int) ∧ (l = facesL (nextS g r) (iotaI (List.length (nextS g r))) [] ++ ((List.take p r).filter fun z_ => decide (z_.length = 0)).map fun _ => [])) (fun ⟨l_v, l, p, gq⟩ => Int.toNat (((List.length r : Int) : Int) - (p : Int))) (l_v, l, 0, g22) ?_ ?_
 · exact ⟨hbase, (by exact zs7), rfl, rfl, rfl, r_g_v, r_r_v, o_l, by omega, by (simp; exact hfa.done (by assumption))⟩
 clear r_g_v r_r_v o_l hbase
 rintro ⟨l_v, l, p, g57⟩ f55 w56 ⟨hbase, zs7, zs49, zs50, zs51, r_g_v, r_r_v, o_l, hle_p, hem⟩ back17
 have hel := empty_len hem
 have hfn := hfa.le
 have hfd := hfa.done (by assumption)
 rw [hfd] at hfn
 refine run_seq (run_region rfl ?_)
 refine lv (Value.bool (decide ((p : Int) < (List.length r : Int)))) rfl (e_lss (m := (p : Int)) (n := (List.length r : Int)) (by exact zs51) (by exact zs50)) ?_
 refine l_nil (run_seq ?_)
 by_cases p17 : (p : Int) < (List.length r : Int)
 ·
  refine run_cond_t rfl (decide_eq_true p17) ?_
  refine run_skip ?_
  refine run_seq ?_
  refine run_block ?_
  refine run_seq (run_region rfl ?_)
  refine lv (Value.pointer (some (eAddr r_v 1 (Int.toNat (p : Int))))) rfl (e_indexAddr (α := List Int) (xs := r) (v := r_v) (i := (p : Int)) Try.underlying26 rfl (by exact zs49) r_r_v (by exact zs51) (by omega) (by omega)) ?_
  obtain ⟨v58, cel59, r60⟩ := sl_row (r := (p : Int)) r_r_v (by omega) (by omega)
  refine lv (v58) rfl (e_load1 tp27_y rfl cel59) ?_
  refine lv (v58) rfl (e_assign rfl) ?_
  refine l_nil (run_seq (run_region rfl ?_))
  refine lv (v58) rfl (e_move rfl) ?_
  have len61 := (r60).small
  refine lv (Value.int .i64 (List.length (gI r (p : Int)) : Int)) rfl (e_len Try.underlying27 rfl r60) ?_
  refine lv (Value.bool (decide ((List.length (gI r (p : Int)) : Int) = 0))) rfl (e_eql (m := (List.length (gI r (p : Int)) : Int)) (n := 0) rfl rfl) ?_
  refine l_nil ?_
  by_cases p19 : (List.length (gI r (p : Int)) : Int) = 0
  ·
   refine run_cond_t rfl (decide_eq_true p19) ?_
   clear r60
   refine run_region rfl ?_
   refine lv (l_v) rfl (e_move (by exact zs7)) ?_
   refine l_op rfl ?_
   obtain ⟨c62, hv63⟩ := vc_of (u := Value.slice none 0 0) rfl
   refine o_buildSlice (α := Vc) g57 (is 8) (is 8) (8, 0) rfl [c62] Try.underlying25 tp27_y (by decide) (by decide) (vs := [(0, Value.slice none 0 0)]) rfl rfl (.cons (vc_els hv63 rfl) .nil) ?_
   intro g64 w65 v66 ch67 o68
   refine l_op rfl ?_
   replace o_l := o_l.chg ch67 (not_no _)
   refine o_append_nilrow hv63 (α := Int) (xss := l) (i := 7) (γ := g64) Try.underlying25 tp27_y rfl rfl rfl o_l (o68.flat) (by decide) (by first | omega | (simp; done) | (simp; omega)) ?_
   intro g69 w70 v71 ch72 o73 
   clear o_l
   refine lv (v71) rfl (e_assign rfl) ?_
   refine l_nil ?_
   refine run_inBlock ?_
   clear o68
   refine run_region rfl ?_
   refine lv (Value.int .i64 ((p : Int) + 1)) rfl (e_add (m := (p : Int)) (n := 1) (by exact zs51) rfl (by omega)) ?_
   refine lv (Value.int .i64 ((p : Int) + 1)) rfl (e_move rfl) ?_
   refine l_nil ?_
   replace hbase := hbase.chg ch67 (not_no _)
   replace hbase := hbase.chg ch72 (is_ne rfl)
   replace r_g_v := (r_g_v.chg ch67 (not_no _)).chg ch72 (is_ne rfl)
   replace r_r_v := (r_r_v.chg ch67 (not_no _)).chg ch72 (is_ne rfl)
   refine back17 (v71, (l ++ [[]]), p + 1, g69) _ _ ⟨hbase, rfl, (by exact zs49), (by exact zs50), rfl, r_g_v, r_r_v, o73, by omega, ?_⟩ ?_
   · show (l ++ [[]]) = facesL (nextS g r) (iotaI (List.length (nextS g r))) [] ++ ((List.take (p + 1) r).filter fun z_ => decide (z_.length = 0)).map fun _ => []
     first
       | exact empty_yes (by assumption) hem (by assumption)
       | exact empty_no (by assumption) hem (by assumption)
   · show Int.toNat (((List.length r : Int) : Int) - ((p + 1) : Int)) < Int.toNat (((List.length r : Int) : Int) - (p : Int))
     omega
  refine run_cond_f rfl (decide_eq_false p19) ?_
  refine run_skip ?_
  refine run_inBlock ?_
  clear r60
  refine run_region rfl ?_
  refine lv (Value.int .i64 ((p : Int) + 1)) rfl (e_add (m := (p : Int)) (n := 1) (by exact zs51) rfl (by omega)) ?_
  refine lv (Value.int .i64 ((p : Int) + 1)) rfl (e_move rfl) ?_
  refine l_nil ?_
  refine back17 (l_v, l, p + 1, g57) _ _ ⟨hbase, (by exact zs7), (by exact zs49), (by exact zs50), rfl, r_g_v, r_r_v, o_l, by omega, ?_⟩ ?_
  · show l = facesL (nextS g r) (iotaI (List.length (nextS g r))) [] ++ ((List.take (p + 1) r).filter fun z_ => decide (z_.length = 0)).map fun _ => []
    first
      | exact empty_yes (by assumption) hem (by assumption)
      | exact empty_no (by assumption) hem (by assumption)
  · show Int.toNat (((List.length r : Int) : Int) - ((p + 1) : Int)) < Int.toNat (((List.length r : Int) : Int) - (p : Int))
    omega
 refine run_cond_f rfl (decide_eq_false p17) ?_
 refine run_exit rfl ?_
 refine run_seq (run_region rfl ?_)
 refine lv (l_v) rfl (e_move (by exact zs7)) ?_
 refine lv (l_v) rfl (e_assign rfl) ?_
 refine l_nil ?_
 refine run_ret (vs := [l_v]) Try.func87 (.tmp rfl .nil) ?_
 have e0 : (l : List (List Int)) = (facesS (nextS g r) r) := by
   rw [hem, List.take_of_length_le (by omega)]; rfl
 exact ⟨(fin w0 g57 (fun n => if n = 7 then 1 else 0), l_v), (congrArg (a₁ := l) (fun (z0 : List (List Int)) => Ending.returned (l_v)) e0), hbase.fresh _, (e0 ▸ (o_l.glue (γ := c0) (ren := (fun n => if n = 7 then 1 else 0)) (k := 1) hbase.col rfl rfl))⟩
theorem Faces_ok (w0 : World) (g : (Int) × (List ((Int) × (Int)))) (g_v : Value) (hg_v : Ro w0 g_v g.2) (r : List (List Int)) (r_v : Value) (hr_v : Ro w0 r_v r) :
    Calls Try.prog 47 #[Value.agg (List.toArray [Value.int .i64 g.1, g_v]), r_v] w0 (fun ee w => ∃ xx : Cmap × Value, ee = .returned ((fun ⟨δ, rv0⟩ => Value.tuple (List.toArray [rv0, Value.int .i64 ((facesR g r).2)])) xx) ∧ (fun (⟨δ, rv0⟩ : Cmap × Value) (w : World) => Fresh w0 δ w ∧ Nst δ 1 w rv0 ((facesR g r).1)) xx w) := by
 refine calls_of_run Try.func47 rfl (Nat.le_of_ble_eq_true rfl) ?_
 have hbase := Base.start w0
 have r_g_v := hg_v.sl
 have r_r_v := hr_v.sl
 refine run_seq (run_region rfl (l_op rfl ?_))
 refine o_box c0 (is 1) (1, 0) rfl rfl ?_
 intro g4 w1 b3 ch2 bx5
 replace bx5 : Bx g4 (is 1) w1 b3 [Value.int .i64 g.1, g_v] := bx5
 refine lv (Value.slice none 0 0) rfl (e_assign rfl) ?_
 refine lv (Value.int .i64 0) rfl (e_assign rfl) ?_
 refine l_nil (run_seq (run_seq (run_region rfl ?_)))
 refine lv (Value.agg (List.toArray [Value.int .i64 g.1, g_v])) rfl (e_load_bxN (ds := [Value.int .i64 g.1, g_v]) tp24_y rfl bx5 rfl rfl) ?_
 refine lv (r_v) rfl (e_move rfl) ?_
 replace r_g_v := r_g_v.chg ch2 (not_no _)
 replace r_r_v := r_r_v.chg ch2 (not_no _)
 refine l_op rfl ?_
 refine o_call (v := Value.int .i64 (rmayR g r)) (e_call (vals := [Value.agg (List.toArray [Value.int .i64 g.1, g_v]), r_v]) Try.func15 bd15_y nm15_y rfl) (RMay_ok w1 g g_v (r_g_v).ro r r_v (r_r_v).ro) ?_
 intro w6 hb7
 replace hb7 := chg_below hb7 g4
 refine lv (Value.int .i64 (rmayR g r)) rfl (e_assign rfl) ?_
 refine l_nil (run_seq (run_region rfl ?_))
 refine lv (Value.int .i64 (rmayR g r)) rfl (e_move rfl) ?_
 refine lv (Value.bool (!(decide ((rmayR g r) = 0)))) rfl (e_neq (m := rmayR g r) (n := 0) rfl rfl) ?_
 refine l_nil ?_
 by_cases p2 : (rmayR g r) = 0
 ·
  obtain ⟨hm, hrp⟩ := rmay_ok (by assumption)
  have hm0 := hm
  obtain ⟨hm1, hm2, hm3, hm4⟩ := hm0
  refine run_cond_f rfl (congrArg Bool.not (decide_eq_true p2)) ?_
  refine run_skip ?_
  refine run_seq (run_region rfl ?_)
  replace bx5 := bx5.chg hb7 (not_no _)
  refine lv (Value.agg (List.toArray [Value.int .i64 g.1, g_v])) rfl (e_load_bxN (ds := [Value.int .i64 g.1, g_v]) tp24_y rfl bx5 rfl rfl) ?_
  refine lv (r_v) rfl (e_move rfl) ?_
  replace r_g_v := r_g_v.chg hb7 (not_no _)
  replace r_r_v := r_r_v.chg hb7 (not_no _)
  refine l_op rfl ?_
  refine o_callx (e_call (vals := [Value.agg (List.toArray [Value.int .i64 g.1, g_v]), r_v]) Try.func87 bd87_y nm87_y rfl) (faces_ok w6 g g_v (r_g_v).ro r r_v (r_r_v).ro (by assumption) (by assumption)) ?_
  rintro ⟨d9, v11⟩ w8 ⟨fr10, o12⟩
  obtain ⟨g13, hg13⟩ : ∃ q, q = glue w6.heap.size g4 d9 (fun n => if n = 1 then 2 else 0) := ⟨_, rfl⟩
  have ch14 := chg_glue fr10.below g4 d9 (fun n => if n = 1 then 2 else 0)
  rw [← hg13] at ch14
  replace o12 := o12.glue (γ := g4) (ren := (fun n => if n = 1 then 2 else 0)) (k := 2) fr10.col rfl rfl
  rw [← hg13] at o12
  clear hg13
  refine lv (v11) rfl (e_assign rfl) ?_
  refine lv (Value.int .i64 0) rfl (e_assign rfl) ?_
  refine l_nil ?_
  refine run_ret (vs := [v11, Value.int .i64 0]) Try.func47 (.tmp rfl (.tmp rfl .nil)) ?_
  have C15 : Chg (inl []) _ _ _ _ := (ch2.n).seq ((hb7.n).seq (ch14.n))
  replace hbase := hbase.chg C15 (is_nl rfl)
  have e0 : (facesS (nextS g r) r : List (List Int)) = ((facesR g r).1) := by
    first
      | (simp only [facesR, if_neg (show ¬ rmayR g r = 0 by assumption)]; done)
      | (simp only [facesR, if_pos (show rmayR g r = 0 by assumption)]; done)
  have e1 : (0 : Int) = ((facesR g r).2) := by
    first
      | (simp only [facesR, if_neg (show ¬ rmayR g r = 0 by assumption)]; done)
      | (simp only [facesR, if_pos (show rmayR g r = 0 by assumption)]; done)
  exact ⟨(fin w0 g13 (fun n => if n = 2 then 1 else 0), v11), (congr2 (a := facesS (nextS g r) r) (b := 0) (fun (z0 : List (List Int)) (z1 : Int) => Ending.returned (Value.tuple (List.toArray [v11, Value.int .i64 z1]))) e0 e1), hbase.fresh _, (e0 ▸ (o12.glue (γ := c0) (ren := (fun n => if n = 2 then 1 else 0)) (k := 1) hbase.col rfl rfl))⟩
 refine run_cond_t rfl (congrArg Bool.not (decide_eq_false p2)) ?_
 refine run_seq ?_
 clear bx5
 refine run_region rfl ?_
 refine lv (Value.int .i64 (rmayR g r)) rfl (e_move rfl) ?_
 refine lv (Value.slice none 0 0) rfl (e_assign rfl) ?_
 refine lv (Value.int .i64 (rmayR g r)) rfl (e_assign rfl) ?_
 refine l_nil ?_
 refine run_ret (vs := [Value.slice none 0 0, Value.int .i64 (rmayR g r)]) Try.func47 (.tmp rfl (.tmp rfl .nil)) ?_
 replace hbase := hbase.chg ch2 (not_no _)
 replace hbase := hbase.chg hb7 (not_no _)
 have e0 : ([] : List (List Int)) = ((facesR g r).1) := by
   first
     | (simp only [facesR, if_neg (show ¬ rmayR g r = 0 by assumption)]; done)
     | (simp only [facesR, if_pos (show rmayR g r = 0 by assumption)]; done)
 have e1 : (rmayR g r : Int) = ((facesR g r).2) := by
   first
     | (simp only [facesR, if_neg (show ¬ rmayR g r = 0 by assumption)]; done)
     | (simp only [facesR, if_pos (show rmayR g r = 0 by assumption)]; done)
 exact ⟨(fin w0 g4 (fun n => 0), (Value.slice none 0 0)), (congr2 (a := []) (b := rmayR g r) (fun (z0 : List (List Int)) (z1 : Int) => Ending.returned (Value.tuple (List.toArray [Value.slice none 0 0, Value.int .i64 z1]))) e0 e1), hbase.fresh _, (e0 ▸ Nst.nil)⟩
theorem RCanon_ok (w0 : World) (g : (Int) × (List ((Int) × (Int)))) (g_v : Value) (hg_v : Ro w0 g_v g.2) (r : List (List Int)) (r_v : Value) (hr_v : Ro w0 r_v r) :
    Calls Try.prog 55 #[Value.agg (List.toArray [Value.int .i64 g.1, g_v]), r_v] w0 (fun ee w => ∃ xx : Cmap × Value, ee = .returned ((fun ⟨δ, rv0⟩ => Value.tuple (List.toArray [rv0, Value.int .i64 ((canonR g r).2)])) xx) ∧ (fun (⟨δ, rv0⟩ : Cmap × Value) (w : World) => Fresh w0 δ w ∧ Nst δ 1 w rv0 ((canonR g r).1)) xx w) := by
 refine calls_of_run Try.func55 rfl (Nat.le_of_ble_eq_true rfl) ?_
 have hbase := Base.start w0
 have r_g_v := hg_v.sl
 have r_r_v := hr_v.sl
 refine run_seq (run_region rfl (l_op rfl ?_))
 refine o_box c0 (is 1) (1, 0) rfl rfl ?_
 intro g4 w1 b3 ch2 bx5
 replace bx5 : Bx g4 (is 1) w1 b3 [Value.int .i64 g.1, g_v] := bx5
 refine lv (Value.slice none 0 0) rfl (e_assign rfl) ?_
 refine lv (Value.int .i64 0) rfl (e_assign rfl) ?_
 refine l_nil (run_seq (run_seq (run_region rfl ?_)))
 refine lv (Value.agg (List.toArray [Value.int .i64 g.1, g_v])) rfl (e_load_bxN (ds := [Value.int .i64 g.1, g_v]) tp24_y rfl bx5 rfl rfl) ?_
 refine lv (r_v) rfl (e_move rfl) ?_
 replace r_g_v := r_g_v.chg ch2 (not_no _)
 replace r_r_v := r_r_v.chg ch2 (not_no _)
 refine l_op rfl ?_
 refine o_call (v := Value.int .i64 (rmayR g r)) (e_call (vals := [Value.agg (List.toArray [Value.int .i64 g.1, g_v]), r_v]) Try.func15 bd15_y nm15_y rfl) (RMay_ok w1 g g_v (r_g_v).ro r r_v (r_r_v).ro) ?_
 intro w6 hb7
 replace hb7 := chg_below hb7 g4
 refine lv (Value.int .i64 (rmayR g r)) rfl (e_assign rfl) ?_
 refine l_nil (run_seq ?_)
 clear bx5
 refine run_region rfl ?_
 refine lv (Value.int .i64 (rmayR g r)) rfl (e_move rfl) ?_
 refine lv (Value.bool (!(decide ((rmayR g r) = 0)))) rfl (e_neq (m := rmayR g r) (n := 0) rfl rfl) ?_
 refine l_nil ?_
 by_cases p2 : (rmayR g r) = 0
 ·
  obtain ⟨hm, hrp⟩ := rmay_ok (by assumption)
  have hm0 := hm
  obtain ⟨hm1, hm2, hm3, hm4⟩ := hm0
  refine run_cond_f rfl (congrArg Bool.not (decide_eq_true p2)) ?_
  refine run_skip ?_
  refine run_seq (run_region rfl ?_)
  refine lv (r_v) rfl (e_move rfl) ?_
  replace r_r_v := r_r_v.chg hb7 (not_no _)
  refine l_op rfl ?_
  refine o_callx (e_call (vals := [r_v]) Try.func89 bd89_y nm89_y rfl) (canon_ok w6 r r_v (r_r_v).ro) ?_
  rintro ⟨d9, v11⟩ w8 ⟨fr10, o12⟩
  obtain ⟨g13, hg13⟩ : ∃ q, q = glue w6.heap.size g4 d9 (fun n => if n = 1 then 2 else 0) := ⟨_, rfl⟩
  have ch14 := chg_glue fr10.below g4 d9 (fun n => if n = 1 then 2 else 0)
  rw [← hg13] at ch14
  replace o12 := o12.glue (γ := g4) (ren := (fun n => if n = 1 then 2 else 0)) (k := 2) fr10.col rfl rfl
  rw [← hg13] at o12
  clear hg13
  refine lv (v11) rfl (e_assign rfl) ?_
  refine lv (Value.int .i64 0) rfl (e_assign rfl) ?_
  refine l_nil ?_
  refine run_ret (vs := [v11, Value.int .i64 0]) Try.func55 (.tmp rfl (.tmp rfl .nil)) ?_
  have C15 : Chg (inl []) _ _ _ _ := (ch2.n).seq ((hb7.n).seq (ch14.n))
  replace hbase := hbase.chg C15 (is_nl rfl)
  have e0 : (canonS r : List (List Int)) = ((canonR g r).1) := by
    first
      | (simp only [canonR, if_neg (show ¬ rmayR g r = 0 by assumption)]; done)
      | (simp only [canonR, if_pos (show rmayR g r = 0 by assumption)]; done)
  have e1 : (0 : Int) = ((canonR g r).2) := by
    first
      | (simp only [canonR, if_neg (show ¬ rmayR g r = 0 by assumption)]; done)
      | (simp only [canonR, if_pos (show rmayR g r = 0 by assumption)]; done)
  exact ⟨(fin w0 g13 (fun n => if n = 2 then 1 else 0), v11), (congr2 (a := canonS r) (b := 0) (fun (z0 : List (List Int)) (z1 : Int) => Ending.returned (Value.tuple (List.toArray [v11, Value.int .i64 z1]))) e0 e1), hbase.fresh _, (e0 ▸ (o12.glue (γ := c0) (ren := (fun n => if n = 2 then 1 else 0)) (k := 1) hbase.col rfl rfl))⟩
 refine run_cond_t rfl (congrArg Bool.not (decide_eq_false p2)) ?_
 refine run_seq (run_region rfl ?_)
 refine lv (Value.int .i64 (rmayR g r)) rfl (e_move rfl) ?_
 refine lv (Value.slice none 0 0) rfl (e_assign rfl) ?_
 refine lv (Value.int .i64 (rmayR g r)) rfl (e_assign rfl) ?_
 refine l_nil ?_
 refine run_ret (vs := [Value.slice none 0 0, Value.int .i64 (rmayR g r)]) Try.func55 (.tmp rfl (.tmp rfl .nil)) ?_
 replace hbase := hbase.chg ch2 (not_no _)
 replace hbase := hbase.chg hb7 (not_no _)
 have e0 : ([] : List (List Int)) = ((canonR g r).1) := by
   first
     | (simp only [canonR, if_neg (show ¬ rmayR g r = 0 by assumption)]; done)
     | (simp only [canonR, if_pos (show rmayR g r = 0 by assumption)]; done)
 have e1 : (rmayR g r : Int) = ((canonR g r).2) := by
   first
     | (simp only [canonR, if_neg (show ¬ rmayR g r = 0 by assumption)]; done)
     | (simp only [canonR, if_pos (show rmayR g r = 0 by assumption)]; done)
 exact ⟨(fin w0 g4 (fun n => 0), (Value.slice none 0 0)), (congr2 (a := []) (b := rmayR g r) (fun (z0 : List (List Int)) (z1 : Int) => Ending.returned (Value.tuple (List.toArray [Value.slice none 0 0, Value.int .i64 z1]))) e0 e1), hbase.fresh _, (e0 ▸ Nst.nil)⟩
theorem RMirror_ok (w0 : World) (g : (Int) × (List ((Int) × (Int)))) (g_v : Value) (hg_v : Ro w0 g_v g.2) (r : List (List Int)) (r_v : Value) (hr_v : Ro w0 r_v r) :
    Calls Try.prog 50 #[Value.agg (List.toArray [Value.int .i64 g.1, g_v]), r_v] w0 (fun ee w => ∃ xx : Cmap × Value, ee = .returned ((fun ⟨δ, rv0⟩ => Value.tuple (List.toArray [rv0, Value.int .i64 ((mirrorR g r).2)])) xx) ∧ (fun (⟨δ, rv0⟩ : Cmap × Value) (w : World) => Fresh w0 δ w ∧ Nst δ 1 w rv0 ((mirrorR g r).1)) xx w) := by
 refine calls_of_run Try.func50 rfl (Nat.le_of_ble_eq_true rfl) ?_
 have hbase := Base.start w0
 have r_g_v := hg_v.sl
 have r_r_v := hr_v.sl
 refine run_seq (run_region rfl (l_op rfl ?_))
 refine o_box c0 (is 1) (1, 0) rfl rfl ?_
 intro g4 w1 b3 ch2 bx5
 replace bx5 : Bx g4 (is 1) w1 b3 [Value.int .i64 g.1, g_v] := bx5
 refine lv (Value.slice none 0 0) rfl (e_assign rfl) ?_
 refine lv (Value.int .i64 0) rfl (e_assign rfl) ?_
 refine l_nil (run_seq (run_seq (run_region rfl ?_)))
 refine lv (Value.agg (List.toArray [Value.int .i64 g.1, g_v])) rfl (e_load_bxN (ds := [Value.int .i64 g.1, g_v]) tp24_y rfl bx5 rfl rfl) ?_
 refine lv (r_v) rfl (e_move rfl) ?_
 replace r_g_v := r_g_v.chg ch2 (not_no _)
 replace r_r_v := r_r_v.chg ch2 (not_no _)
 refine l_op rfl ?_
 refine o_call (v := Value.int .i64 (rmayR g r)) (e_call (vals := [Value.agg (List.toArray [Value.int .i64 g.1, g_v]), r_v]) Try.func15 bd15_y nm15_y rfl) (RMay_ok w1 g g_v (r_g_v).ro r r_v (r_r_v).ro) ?_
 intro w6 hb7
 replace hb7 := chg_below hb7 g4
 refine lv (Value.int .i64 (rmayR g r)) rfl (e_assign rfl) ?_
 refine l_nil (run_seq ?_)
 clear bx5
 refine run_region rfl ?_
 refine lv (Value.int .i64 (rmayR g r)) rfl (e_move rfl) ?_
 refine lv (Value.bool (!(decide ((rmayR g r) = 0)))) rfl (e_neq (m := rmayR g r) (n := 0) rfl rfl) ?_
 refine l_nil ?_
 by_cases p2 : (rmayR g r) = 0
 ·
  obtain ⟨hm, hrp⟩ := rmay_ok (by assumption)
  have hm0 := hm
  obtain ⟨hm1, hm2, hm3, hm4⟩ := hm0
  refine run_cond_f rfl (congrArg Bool.not (decide_eq_true p2)) ?_
  refine run_skip ?_
  refine run_seq (run_region rfl ?_)
  refine lv (r_v) rfl (e_move rfl) ?_
  replace r_r_v := r_r_v.chg hb7 (not_no _)
  have len8 := (r_r_v).small
  refine lv (Value.int .i64 (List.length r : Int)) rfl (e_len Try.underlying26 rfl r_r_v) ?_
  refine l_op rfl ?_
  refine o_make_nst (α := Int) (n := (List.length r : Int)) (cp := (List.length r : Int)) g4 2 Try.underlying26 tp27_y rfl rfl rfl (by omega) (by omega) (by omega) (by omega) ?_
  intro g9 w10 v11 ch12 o13
  refine lv (v11) rfl (e_assign rfl) ?_
  refine l_nil (run_seq (run_seq (run_region rfl ?_)))
  refine lv (r_v) rfl (e_move rfl) ?_
  replace r_r_v := r_r_v.chg ch12 (not_no _)
  refine lv (Value.int .i64 (List.length r : Int)) rfl (e_len Try.underlying26 rfl r_r_v) ?_
  refine lv (Value.int .i64 0) rfl (e_move rfl) ?_
  refine l_nil ?_
  refine run_block ?_
  refine run_loop (σ := Nat × (List (List Int)) × Cmap) (fun ⟨k, out, gq⟩ f w => Base w0 gq w ∧ f 7 = v11 ∧ f 19 = r_v ∧ f 20 = Value.int .i64 (List.length r : Int) ∧ f 21 = Value.int .i64 (k : Int) ∧ Sl gq (is 0) w g_v g.2 ∧ Sl gq (is 0) w r_v r ∧ Nst gq 2 w v11 out ∧ (k : Int) ≤ ((List.length r : Int) : Int) ∧ (out = List.map List.reverse (List.take k r) ++ List.replicate (r.length - k) [])) (fun ⟨k, out, gq⟩ => Int.toNat (((List.length r : Int) : Int) - (k : Int))) (0, (List.replicate (Int.toNat (List.length r : Int)) []), g9) ?_ ?_
  have C14 : Chg (inl []) _ _ _ _ := (ch2.n).seq ((hb7.n).seq (ch12.n))
  replace hbase := hbase.chg C14 (is_nl rfl)
  replace r_g_v := (r_g_v.chg hb7 (not_no _)).chg ch12 (not_no _)
  · exact ⟨hbase, rfl, rfl, rfl, rfl, r_g_v, r_r_v, o13, by omega, by simp⟩
  clear r_g_v r_r_v o13 hbase
  rintro ⟨k, out, g17⟩ f15 w16 ⟨hbase, zs7, zs19, zs20, zs21, r_g_v, r_r_v, o13, hle_k, hinv⟩ back6
  have hol : out.length = r.length := by rw [hinv]; simp; omega
  refine run_seq (run_region rfl ?_)
  refine lv (Value.bool (decide ((k : Int) < (List.length r : Int)))) rfl (e_lss (m := (k : Int)) (n := (List.length r : Int)) (by exact zs21) (by exact zs20)) ?_
  refine l_nil (run_seq ?_)
  by_cases p6 : (k : Int) < (List.length r : Int)
  ·
   refine run_cond_t rfl (decide_eq_true p6) ?_
   have hrwl := row_len hrp (k := k) (by assumption)
   refine run_skip ?_
   refine run_seq ?_
   refine run_block ?_
   refine run_seq (run_region rfl ?_)
   refine lv (Value.int .i64 (k : Int)) rfl (e_move (by exact zs21)) ?_
   refine lv (Value.pointer (some (eAddr r_v 1 (Int.toNat (k : Int))))) rfl (e_indexAddr (α := List Int) (xs := r) (v := r_v) (i := (k : Int)) Try.underlying26 rfl (by exact zs19) r_r_v (by exact zs21) (by omega) (by omega)) ?_
   obtain ⟨v18, cel19, r20⟩ := sl_row (r := (k : Int)) r_r_v (by omega) (by omega)
   refine lv (v18) rfl (e_load1 tp27_y rfl cel19) ?_
   refine lv (Value.int .i64 (k : Int)) rfl (e_assign rfl) ?_
   refine lv (v18) rfl (e_assign rfl) ?_
   refine l_nil (run_seq (run_region rfl ?_))
   refine lv (v11) rfl (e_move (by exact zs7)) ?_
   refine lv (Value.int .i64 (k : Int)) rfl (e_move rfl) ?_
   refine lv (v18) rfl (e_move rfl) ?_
   refine l_op rfl ?_
   refine o_append (α := Int) (xs := ([])) (ys := (gI r (k : Int))) g17 (J := is 3) (S := is 3) (3, 0) rfl Try.underlying27 tp3_y (by decide) rfl rfl rfl Ow.nil r20 (by decide) (by first | omega | (simp; done) | (simp; omega)) ?_
   intro g21 w22 v23 ch24 o25
   replace o25 : Ow g21 (is 3) (is 3) w22 v23 (gI r (k : Int)) := o25
   replace o13 := o13.chg ch24 (is_ne rfl)
   refine lv (Value.pointer (some (eAddr v11 1 (Int.toNat (k : Int))))) rfl (e_indexAddr (α := List Int) (xs := out) (v := v11) (i := (k : Int)) Try.underlying26 rfl rfl o13.sl rfl (by omega) (by omega)) ?_
   refine l_op rfl ?_
   refine o_store_fresh (r := (k : Int)) tp27_y rfl rfl o13 o25 rfl (by omega) (by omega) ?_
   intro g32 w29 ch30 o31
   clear o13 o25
   refine l_nil ?_
   clear r20
   refine run_region rfl ?_
   refine lv (v11) rfl (e_move (by exact zs7)) ?_
   refine lv (Value.int .i64 (k : Int)) rfl (e_move rfl) ?_
   refine lv (Value.pointer (some (eAddr v11 1 (Int.toNat (k : Int))))) rfl (e_indexAddr (α := List Int) (xs := (List.set out (Int.toNat (k : Int)) (gI r (k : Int)))) (v := v11) (i := (k : Int)) Try.underlying26 rfl rfl o31.sl rfl (by omega) (by first | omega | (simp only [List.length_set, List.length_append, List.length_cons, List.length_nil, List.length_replicate, List.length_map, List.length_take, List.length_drop]; omega) | (simp; done) | (simp; omega))) ?_
   obtain ⟨v33, cel34, r35⟩ := nst_row (r := (k : Int)) o31 (by omega) (by first | omega | (simp only [List.length_set, List.length_append, List.length_cons, List.length_nil, List.length_replicate, List.length_map, List.length_take, List.length_drop]; omega) | (simp; done) | (simp; omega))
   refine lv (v33) rfl (e_load1 tp27_y rfl cel34) ?_
   refine l_op rfl ?_
   refine o_inline (e_call (vals := [v33]) Try.func88 bd88_y nm88_y rfl) ?_
   refine calls_of_run Try.func88 rfl (Nat.le_of_ble_eq_true rfl) ?_
   refine run_seq (run_region rfl ?_)
   refine lv (v33) rfl (e_move rfl) ?_
   have len36 := (r35.row_sl).small
   refine lv (Value.int .i64 (List.length (gI (List.set out (Int.toNat (k : Int)) (gI r (k : Int))) (k : Int)) : Int)) rfl (e_len Try.underlying27 rfl r35.row_sl) ?_
   refine lv (Value.int .i64 ((List.length (gI (List.set out (Int.toNat (k : Int)) (gI r (k : Int))) (k : Int)) : Int) - 1)) rfl (e_sub (m := (List.length (gI (List.set out (Int.toNat (k : Int)) (gI r (k : Int))) (k : Int)) : Int)) (n := 1) rfl rfl (by omega)) ?_
   refine lv (Value.int .i64 0) rfl (e_assign rfl) ?_
   refine lv (Value.int .i64 ((List.length (gI (List.set out (Int.toNat (k : Int)) (gI r (k : Int))) (k : Int)) : Int) - 1)) rfl (e_assign rfl) ?_
   refine l_nil ?_
   refine run_block ?_
   refine run_loop (σ := Nat × Int × (List (List Int)) × (List Int) × Cmap) (fun ⟨i_c1, j_c1, L_c1, s_c1, gq⟩ f w => Base w0 gq w ∧ f 0 = v33 ∧ f 2 = Value.int .i64 (i_c1 : Int) ∧ f 3 = Value.int .i64 j_c1 ∧ Sl gq (is 0) w g_v g.2 ∧ Sl gq (is 0) w r_v r ∧ Nst gq 2 w v11 L_c1 ∧ w.cell? (eAddr v11 1 (Int.toNat (k : Int))) = some v33 ∧ Ow gq (row 2 (Int.toNat (k : Int) + 1)) (row 2 (Int.toNat (k : Int) + 1)) w v33 s_c1 ∧ (RevInv s_c1 (gI (List.set out (Int.toNat (k : Int)) (gI r (k : Int))) (k : Int)) i_c1 j_c1 ∧ L_c1 = List.set (List.set out (Int.toNat (k : Int)) (gI r (k : Int))) (Int.toNat (k : Int)) s_c1)) (fun ⟨i_c1, j_c1, L_c1, s_c1, gq⟩ => Int.toNat (j_c1 - (i_c1 : Int))) (0, (List.length (gI (List.set out (Int.toNat (k : Int)) (gI r (k : Int))) (k : Int)) : Int) - 1, (List.set out (Int.toNat (k : Int)) (gI r (k : Int))), gI (List.set out (Int.toNat (k : Int)) (gI r (k : Int))) (k : Int), g32) ?_ ?_
   replace hbase := hbase.chg ch24 (is_ne rfl)
   replace hbase := hbase.chg ch30 (is_ne2 rfl rfl)
   replace r_g_v := (r_g_v.chg ch24 (is_ne rfl)).chg ch30 (is_ne2 rfl rfl)
   replace r_r_v := (r_r_v.chg ch24 (is_ne rfl)).chg ch30 (is_ne2 rfl rfl)
   · exact ⟨hbase, rfl, rfl, rfl, r_g_v, r_r_v, o31, cel34, r35, by exact ⟨RevInv.start _, (set_gI (by omega) (by simp; omega)).symm⟩⟩
   clear r_g_v r_r_v o31 cel34 r35 hbase
   rintro ⟨i_c1, j_c1, L_c1, s_c1, g39⟩ f37 w38 ⟨hbase, zs0_c1, zs2_c1, zs3_c1, r_g_v, r_r_v, o31, cel34, r35, hrv_c1⟩ back1_c1
   obtain ⟨hrv, hrl2⟩ := hrv_c1
   have hsl := hrv.len
   have hjj := hrv.jj
   have hLn := congrArg List.length hrl2
   simp at hLn
   refine run_seq (run_seq (run_region rfl ?_))
   refine lv (Value.int .i64 (i_c1 : Int)) rfl (e_move (by exact zs2_c1)) ?_
   refine lv (Value.int .i64 j_c1) rfl (e_move (by exact zs3_c1)) ?_
   refine lv (Value.bool (decide ((i_c1 : Int) < j_c1))) rfl (e_lss (m := (i_c1 : Int)) (n := j_c1) rfl rfl) ?_
   refine l_nil ?_
   by_cases p1_c1 : (i_c1 : Int) < j_c1
   ·
    refine run_cond_t rfl (decide_eq_true p1_c1) ?_
    refine run_skip ?_
    refine run_seq ?_
    refine run_block ?_
    refine run_region_x g39 [0, 1, 2, 3, 4, 5, 6, 7, 8, 9, 10, 11, 12, 14] mixed_y ?_
    intro w41 ch40
    refine x_pure (v := v33) 0 rfl (by kernel_rfl) (by kernel_rfl) rfl (fun w => e_move (by exact zs0_c1)) ?_
    refine x_pure (v := Value.int .i64 (i_c1 : Int)) 1 rfl (by kernel_rfl) (by kernel_rfl) rfl (fun w => e_move (by exact zs2_c1)) ?_
    refine x_pure (v := v33) 2 rfl (by kernel_rfl) (by kernel_rfl) rfl (fun w => e_move (by exact zs0_c1)) ?_
    refine x_pure (v := Value.int .i64 j_c1) 3 rfl (by kernel_rfl) (by kernel_rfl) rfl (fun w => e_move (by exact zs3_c1)) ?_
    refine x_pure (v := v33) 4 rfl (by kernel_rfl) (by kernel_rfl) rfl (fun w => e_move (by exact zs0_c1)) ?_
    refine x_pure (v := Value.int .i64 j_c1) 5 rfl (by kernel_rfl) (by kernel_rfl) rfl (fun w => e_move (by exact zs3_c1)) ?_
    replace r35 := r35.chg ch40 (not_no _) (not_no _)
    refine x_val (v := Value.pointer (some (eAddr v33 1 (Int.toNat j_c1)))) 6 [5, 4, 3, 2, 1, 0, 8, 9, 10, 11] rfl (by kernel_rfl) (by kernel_rfl) rfl (e_indexAddr (α := Int) (xs := s_c1) (v := v33) (i := j_c1) Try.underlying27 rfl rfl r35.row_sl rfl (by omega) (by omega)) ?_
    refine x_val (v := Value.int .i64 (gI s_c1 j_c1)) 7 [6, 5, 4, 3, 2, 1, 0, 8, 9, 10, 11] rfl (by kernel_rfl) (by kernel_rfl) rfl (e_load_el1 (α := Int) (xs := s_c1) (v := v33) (i := j_c1) tp3_y rfl r35.row_sl (by omega) (by omega) (by decide) rfl) ?_
    refine x_pure (v := v33) 8 rfl (by kernel_rfl) (by kernel_rfl) rfl (fun w => e_move (by exact zs0_c1)) ?_
    refine x_pure (v := Value.int .i64 (i_c1 : Int)) 9 rfl (by kernel_rfl) (by kernel_rfl) rfl (fun w => e_move (by exact zs2_c1)) ?_
    refine x_val (v := Value.pointer (some (eAddr v33 1 (Int.toNat (i_c1 : Int))))) 10 [9, 8, 7, 6, 5, 4, 3, 2, 1, 0] rfl (by kernel_rfl) (by kernel_rfl) rfl (e_indexAddr (α := Int) (xs := s_c1) (v := v33) (i := (i_c1 : Int)) Try.underlying27 rfl rfl r35.row_sl rfl (by omega) (by omega)) ?_
    refine x_val (v := Value.int .i64 (gI s_c1 (i_c1 : Int))) 11 [10, 9, 8, 7, 6, 5, 4, 3, 2, 1, 0] rfl (by kernel_rfl) (by kernel_rfl) rfl (e_load_el1 (α := Int) (xs := s_c1) (v := v33) (i := (i_c1 : Int)) tp3_y rfl r35.row_sl (by omega) (by omega) (by decide) rfl) ?_
    refine x_val (v := Value.pointer (some (eAddr v33 1 (Int.toNat (i_c1 : Int))))) 12 [11, 10, 9, 8, 7, 6, 5, 4, 3, 2, 1, 0] rfl (by kernel_rfl) (by kernel_rfl) rfl (e_indexAddr (α := Int) (xs := s_c1) (v := v33) (i := (i_c1 : Int)) Try.underlying27 rfl rfl r35.row_sl rfl (by omega) (by omega)) ?_
    refine x_one 13 rfl (by kernel_rfl) rfl ?_
    replace o31 := o31.chg ch40 (not_no _)
    replace cel34 := cel_chg cel34 ch40
    refine o_store_el (i := (i_c1 : Int)) (gI s_c1 j_c1) tp3_y rfl rfl r35 (by omega) (by omega) rfl ?_
    intro w45 ch46 r47
    obtain ⟨o48, cel49⟩ := nst_el (r := (k : Int)) o31 (by omega) (by omega) ch46 cel34 r47
    clear o31 cel34 r35
    refine x_val (v := Value.pointer (some (eAddr v33 1 (Int.toNat j_c1)))) 14 [13, 12, 11, 10, 9, 8, 7, 6, 5, 4, 3, 2, 1, 0] rfl (by kernel_rfl) (by kernel_rfl) rfl (e_indexAddr (α := Int) (xs := (List.set s_c1 (Int.toNat (i_c1 : Int)) (gI s_c1 j_c1))) (v := v33) (i := j_c1) Try.underlying27 rfl rfl r47.row_sl rfl (by omega) (by first | omega | (simp only [List.length_set, List.length_append, List.length_cons, List.length_nil, List.length_replicate, List.length_map, List.length_take, List.length_drop]; omega) | (simp; done) | (simp; omega))) ?_
    refine x_one 15 rfl (by kernel_rfl) rfl ?_
    refine o_store_el (i := j_c1) (gI s_c1 (i_c1 : Int)) tp3_y rfl rfl r47 (by omega) (by first | omega | (simp only [List.length_set, List.length_append, List.length_cons, List.length_nil, List.length_replicate, List.length_map, List.length_take, List.length_drop]; omega) | (simp; done) | (simp; omega)) rfl ?_
    intro w53 ch54 r55
    obtain ⟨o56, cel57⟩ := nst_el (r := (k : Int)) o48 (by omega) (by first | omega | (simp only [List.length_set, List.length_append, List.length_cons, List.length_nil, List.length_replicate, List.length_map, List.length_take, List.length_drop]; omega) | (simp; done) | (simp; omega)) ch54 cel49 r55
    clear o48 cel49 r47
    refine x_nil (by kernel_rfl) ?_
    refine run_inBlock ?_
    refine run_region rfl ?_
    refine lv (Value.int .i64 (i_c1 : Int)) rfl (e_move (by exact zs2_c1)) ?_
    refine lv (Value.int .i64 ((i_c1 : Int) + 1)) rfl (e_add (m := (i_c1 : Int)) (n := 1) rfl rfl (by omega)) ?_
    refine lv (Value.int .i64 j_c1) rfl (e_move (by exact zs3_c1)) ?_
    refine lv (Value.int .i64 (j_c1 - 1)) rfl (e_sub (m := j_c1) (n := 1) rfl rfl (by omega)) ?_
    refine lv (Value.int .i64 ((i_c1 : Int) + 1)) rfl (e_assign rfl) ?_
    refine lv (Value.int .i64 (j_c1 - 1)) rfl (e_assign rfl) ?_
    refine l_nil ?_
    have C58 : Chg (inl [2]) _ _ _ _ := (ch40.n).seq ((ch46.lr rfl).seq (ch54.lr rfl))
    replace hbase := hbase.chg C58 (is_nl rfl)
    replace r_g_v := r_g_v.chg C58 (is_nl rfl)
    replace r_r_v := r_r_v.chg C58 (is_nl rfl)
    refine back1_c1 (i_c1 + 1, j_c1 - 1, (List.set (List.set L_c1 (Int.toNat (k : Int)) (List.set s_c1 (Int.toNat (i_c1 : Int)) (gI s_c1 j_c1))) (Int.toNat (k : Int)) (List.set (List.set s_c1 (Int.toNat (i_c1 : Int)) (gI s_c1 j_c1)) (Int.toNat j_c1) (gI s_c1 (i_c1 : Int)))), (List.set (List.set s_c1 (Int.toNat (i_c1 : Int)) (gI s_c1 j_c1)) (Int.toNat j_c1) (gI s_c1 (i_c1 : Int))), g39) _ _ ⟨hbase, (by exact zs0_c1), rfl, rfl, r_g_v, r_r_v, o56, cel57, r55, ?_⟩ ?_
    · show RevInv (List.set (List.set s_c1 (Int.toNat (i_c1 : Int)) (gI s_c1 j_c1)) (Int.toNat j_c1) (gI s_c1 (i_c1 : Int))) (gI (List.set out (Int.toNat (k : Int)) (gI r (k : Int))) (k : Int)) (i_c1 + 1) (j_c1 - 1) ∧ (List.set (List.set L_c1 (Int.toNat (k : Int)) (List.set s_c1 (Int.toNat (i_c1 : Int)) (gI s_c1 j_c1))) (Int.toNat (k : Int)) (List.set (List.set s_c1 (Int.toNat (i_c1 : Int)) (gI s_c1 j_c1)) (Int.toNat j_c1) (gI s_c1 (i_c1 : Int)))) = List.set (List.set out (Int.toNat (k : Int)) (gI r (k : Int))) (Int.toNat (k : Int)) (List.set (List.set s_c1 (Int.toNat (i_c1 : Int)) (gI s_c1 j_c1)) (Int.toNat j_c1) (gI s_c1 (i_c1 : Int)))
      (refine ⟨hrv.next (by assumption), ?_⟩; rw [hrl2]; simp)
    · show Int.toNat ((j_c1 - 1) - ((i_c1 + 1) : Int)) < Int.toNat (j_c1 - (i_c1 : Int))
      omega
   refine run_cond_f rfl (decide_eq_false p1_c1) ?_
   refine run_exit rfl ?_
   refine run_end (vs := []) Try.func88 .nil ?_
   refine ⟨Value.tuple (List.toArray []), rfl, ?_⟩
   refine l_nil ?_
   refine run_inBlock ?_
   clear cel34 r35
   refine run_region rfl ?_
   refine lv (Value.int .i64 ((k : Int) + 1)) rfl (e_add (m := (k : Int)) (n := 1) (by exact zs21) rfl (by omega)) ?_
   refine lv (Value.int .i64 ((k : Int) + 1)) rfl (e_move rfl) ?_
   refine l_nil ?_
   refine back6 (k + 1, L_c1, g39) _ _ ⟨hbase, (by exact zs7), (by exact zs19), (by exact zs20), rfl, r_g_v, r_r_v, o31, by omega, ?_⟩ ?_
   · show L_c1 = List.map List.reverse (List.take (k + 1) r) ++ List.replicate (r.length - (k + 1)) []
     (have e1 := hrv.done (by assumption); rw [hrl2, e1, gI_set (by omega) (by omega) (by omega), if_pos rfl, List.set_set, hinv]; exact map_next (by assumption) (by simp))
   · show Int.toNat (((List.length r : Int) : Int) - ((k + 1) : Int)) < Int.toNat (((List.length r : Int) : Int) - (k : Int))
     omega
  refine run_cond_f rfl (decide_eq_false p6) ?_
  refine run_exit rfl ?_
  refine run_seq (run_region rfl ?_)
  refine lv (v11) rfl (e_move (by exact zs7)) ?_
  refine l_op rfl ?_
  refine o_callx (e_call (vals := [v11]) Try.func89 bd89_y nm89_y rfl) (canon_ok w16 out v11 (o13.sl).ro) ?_
  rintro ⟨d60, v62⟩ w59 ⟨fr61, o63⟩
  obtain ⟨g64, hg64⟩ : ∃ q, q = glue w16.heap.size g17 d60 (fun n => if n = 1 then 4 else 0) := ⟨_, rfl⟩
  have ch65 := chg_glue fr61.below g17 d60 (fun n => if n = 1 then 4 else 0)
  rw [← hg64] at ch65
  replace o63 := o63.glue (γ := g17) (ren := (fun n => if n = 1 then 4 else 0)) (k := 4) fr61.col rfl rfl
  rw [← hg64] at o63
  clear hg64
  refine lv (v62) rfl (e_assign rfl) ?_
  refine lv (Value.int .i64 0) rfl (e_assign rfl) ?_
  refine l_nil ?_
  refine run_ret (vs := [v62, Value.int .i64 0]) Try.func50 (.tmp rfl (.tmp rfl .nil)) ?_
  replace hbase := hbase.chg ch65 (not_no _)
  have e0 : (canonS out : List (List Int)) = ((mirrorR g r).1) := by
    first
      | (simp only [mirrorR, if_neg (show ¬ rmayR g r = 0 by assumption)]; done)
      | (have e1 : out = r.map List.reverse := by rw [hinv, show k = r.length by omega]; simp
         simp only [mirrorR, if_pos (show rmayR g r = 0 by assumption), e1, mirrorS]; done)
      | (simp only [mirrorR, if_pos (show rmayR g r = 0 by assumption)]; done)
  have e1 : (0 : Int) = ((mirrorR g r).2) := by
    first
      | (simp only [mirrorR, if_neg (show ¬ rmayR g r = 0 by assumption)]; done)
      | (have e1 : out = r.map List.reverse := by rw [hinv, show k = r.length by omega]; simp
         simp only [mirrorR, if_pos (show rmayR g r = 0 by assumption), e1, mirrorS]; done)
      | (simp only [mirrorR, if_pos (show rmayR g r = 0 by assumption)]; done)
  exact ⟨(fin w0 g64 (fun n => if n = 4 then 1 else 0), v62), (congr2 (a := canonS out) (b := 0) (fun (z0 : List (List Int)) (z1 : Int) => Ending.returned (Value.tuple (List.toArray [v62, Value.int .i64 z1]))) e0 e1), hbase.fresh _, (e0 ▸ (o63.glue (γ := c0) (ren := (fun n => if n = 4 then 1 else 0)) (k := 1) hbase.col rfl rfl))⟩
 refine run_cond_t rfl (congrArg Bool.not (decide_eq_false p2)) ?_
 refine run_seq (run_region rfl ?_)
 refine lv (Value.int .i64 (rmayR g r)) rfl (e_move rfl) ?_
 refine lv (Value.slice none 0 0) rfl (e_assign rfl) ?_
 refine lv (Value.int .i64 (rmayR g r)) rfl (e_assign rfl) ?_
 refine l_nil ?_
 refine run_ret (vs := [Value.slice none 0 0, Value.int .i64 (rmayR g r)]) Try.func50 (.tmp rfl (.tmp rfl .nil)) ?_
 replace hbase := hbase.chg ch2 (not_no _)
 replace hbase := hbase.chg hb7 (not_no _)
 have e0 : ([] : List (List Int)) = ((mirrorR g r).1) := by
   first
     | (simp only [mirrorR, if_neg (show ¬ rmayR g r = 0 by assumption)]; done)
     | (have e1 : out = r.map List.reverse := by rw [hinv, show k = r.length by omega]; simp
        simp only [mirrorR, if_pos (show rmayR g r = 0 by assumption), e1, mirrorS]; done)
     | (simp only [mirrorR, if_pos (show rmayR g r = 0 by assumption)]; done)
 have e1 : (rmayR g r : Int) = ((mirrorR g r).2) := by
   first
     | (simp only [mirrorR, if_neg (show ¬ rmayR g r = 0 by assumption)]; done)
     | (have e1 : out = r.map List.reverse := by rw [hinv, show k = r.length by omega]; simp
        simp only [mirrorR, if_pos (show rmayR g r = 0 by assumption), e1, mirrorS]; done)
     | (simp only [mirrorR, if_pos (show rmayR g r = 0 by assumption)]; done)
 exact ⟨(fin w0 g4 (fun n => 0), (Value.slice none 0 0)), (congr2 (a := []) (b := rmayR g r) (fun (z0 : List (List Int)) (z1 : Int) => Ending.returned (Value.tuple (List.toArray [Value.slice none 0 0, Value.int .i64 z1]))) e0 e1), hbase.fresh _, (e0 ▸ Nst.nil)⟩
end TL
