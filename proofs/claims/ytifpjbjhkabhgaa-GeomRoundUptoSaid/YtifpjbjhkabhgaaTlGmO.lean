import Derived.Test.YtifpjbjhkabhgaaTlGmA
import Derived.Test.YtifpjbjhkabhgaaTlGmM
import Derived.Test.YtifpjbjhkabhgaaTlGmB
import Derived.Test.YtifpjbjhkabhgaaTlGmD
import Derived.Test.YtifpjbjhkabhgaaTlGmH
import Derived.Test.YtifpjbjhkabhgaaTlGmJ
import Derived.Test.YtifpjbjhkabhgaaTlAround
import Derived.Test.YtifpjbjhkabhgaaProg
import Derived.Test.YtifpjbjhkabhgaaTlNet2
import Derived.Test.YtifpjbjhkabhgaaTlEq
import Derived.Test.YtifpjbjhkabhgaaTlHold
import Derived.Test.YtifpjbjhkabhgaaTlDraw
import Derived.Test.YtifpjbjhkabhgaaTlMap
set_option linter.all false
set_option maxRecDepth 20000
namespace TL
open Go Go.Proofs
theorem mixed_go : Try.prog.follows .mixedOrders = true := by kernel_rfl
theorem tp3_go : Tp Try.prog 3 false 1 8 (.int .i64 0) := Tp.of (by kernel_rfl)
theorem tp4_go : Tp Try.prog 4 false 1 1 (.bool false) := Tp.of (by kernel_rfl)
theorem tp23_go : Tp Try.prog 23 true 2 16 (.agg #[.int .i64 0, .int .i64 0]) := Tp.of (by kernel_rfl)
theorem bd12_go : Try.f12.body.isNone = false := rfl
theorem nm12_go : (Try.f12.name == "runtime.NumGoroutine") = false := by decide +kernel
theorem bd13_go : Try.f13.body.isNone = false := rfl
theorem nm13_go : (Try.f13.name == "runtime.NumGoroutine") = false := by decide +kernel
theorem bd18_go : Try.f18.body.isNone = false := rfl
theorem nm18_go : (Try.f18.name == "runtime.NumGoroutine") = false := by decide +kernel
theorem bd22_go : Try.f22.body.isNone = false := rfl
theorem nm22_go : (Try.f22.name == "runtime.NumGoroutine") = false := by decide +kernel

set_option maxHeartbeats 4000000 in
theorem GeomRound_ok (w0 : World) (o : (Int) × (Int)) (ps : List ((Int) × (Int))) (ps_v : Value) (hps_v : Ro w0 ps_v ps) :
    Calls Try.prog 6 #[Value.agg (List.toArray [Value.int .i64 o.1, Value.int .i64 o.2]), ps_v] w0 (fun ee w => ee = .returned (Value.bool true) ∧ Bel w0.heap.size w0 w) := by
 refine calls_of_run Try.func6 rfl (Nat.le_of_ble_eq_true rfl) ?_
 have hbase := Base.start w0
 have r_ps_v := hps_v.sl
 refine run_seq (run_region rfl (l_op rfl ?_))
 refine o_box c0 (is 1) (1, 0) rfl rfl ?_
 intro g4 w1 b3 ch2 bx5
 replace bx5 : Bx g4 (is 1) w1 b3 [Value.int .i64 o.1, Value.int .i64 o.2] := bx5
 refine l_val (v := Value.bool false) rfl (e_assign rfl) ?_
 refine l_nil (run_seq (run_seq (run_region rfl (l_op rfl ?_))))
 refine o_call (v := Value.bool true) (e_call (vals := []) Try.func12 bd12_go nm12_go rfl) (begun2_ok w1 ) ?_
 intro w6 hb7
 replace hb7 := chg_below hb7 g4
 refine l_val (v := Value.bool false) rfl (e_not (b := true) rfl) ?_
 refine l_nil ?_
 refine run_cond_f rfl rfl ?_
 refine run_skip ?_
 refine run_seq (run_region rfl ?_)
 replace bx5 := bx5.chg hb7 (not_no _)
 refine l_val (v := Value.agg (List.toArray [Value.int .i64 o.1, Value.int .i64 o.2])) rfl (e_load_bxN (ds := [Value.int .i64 o.1, Value.int .i64 o.2]) tp23_go rfl bx5 rfl rfl) ?_
 refine l_val (v := ps_v) rfl (e_move rfl) ?_
 replace r_ps_v := (r_ps_v.chg ch2 (not_no _)).chg hb7 (not_no _)
 refine l_op rfl ?_
 refine o_callx (e_call (vals := [Value.agg (List.toArray [Value.int .i64 o.1, Value.int .i64 o.2]), ps_v]) Try.func18 bd18_go nm18_go rfl) (Around_ok w6 o ps ps_v (r_ps_v).ro) ?_
 rintro ⟨d9, v11⟩ w8 ⟨fr10, o12⟩
 obtain ⟨g13, hg13⟩ : ∃ q, q = glue w6.heap.size g4 d9 (fun n => if n = 1 then 2 else 0) := ⟨_, rfl⟩
 have ch14 := chg_glue fr10.below g4 d9 (fun n => if n = 1 then 2 else 0)
 rw [← hg13] at ch14
 replace o12 := o12.glue (γ := g4) (ren := (fun n => if n = 1 then 2 else 0)) (k := 2) fr10.col rfl rfl
 rw [← hg13] at o12
 clear hg13
 refine l_val (v := Value.tuple (List.toArray [v11, Value.int .i64 ((arR o ps).2)])) rfl (e_move rfl) ?_
 refine l_val (v := v11) rfl (e_extract rfl rfl) ?_
 refine l_val (v := Value.int .i64 ((arR o ps).2)) rfl (e_extract rfl rfl) ?_
 refine l_val (v := v11) rfl (e_assign rfl) ?_
 refine l_val (v := Value.int .i64 ((arR o ps).2)) rfl (e_assign rfl) ?_
 refine l_nil (run_seq (run_seq (run_region rfl ?_)))
 refine l_val (v := Value.int .i64 ((arR o ps).2)) rfl (e_move rfl) ?_
 refine l_val (v := Value.bool (!(decide (((arR o ps).2) = 0)))) rfl (e_neq (m := (arR o ps).2) (n := 0) rfl rfl) ?_
 refine l_val (v := Value.bool (!(decide (((arR o ps).2) = 0)))) rfl (e_move rfl) ?_
 by_cases q24 : ((arR o ps).2) = 0
 ·
  obtain ⟨hW2, hwo, hwp, hwz⟩ := arR_zero q24
  have hW3 : (arR o ps).1 = arL o ps := by rw [hW2]
  have hWl : ((arR o ps).1).length = ps.length := by rw [hW3, arL_len hwz]
  refine l_val (v := ps_v) (want_y rfl rfl rfl (congrArg Bool.not (decide_eq_true q24))) (e_move rfl) ?_
  replace r_ps_v := r_ps_v.chg ch14 (not_no _)
  have len15 := (r_ps_v).small
  refine l_val (v := Value.int .i64 (List.length ps : Int)) (want_y rfl rfl rfl (congrArg Bool.not (decide_eq_true q24))) (e_len Try.underlying25 rfl r_ps_v) ?_
  refine l_val (v := Value.bool (decide (60 < (List.length ps : Int)))) (want_y rfl rfl rfl (congrArg Bool.not (decide_eq_true q24))) (e_gtr (m := (List.length ps : Int)) (n := 60) rfl rfl) ?_
  refine l_val (v := Value.bool (decide (60 < (List.length ps : Int)))) rfl (e_pick_f rfl (congrArg Bool.not (decide_eq_true q24)) rfl) ?_
  refine l_nil ?_
  by_cases p4 : 60 < (List.length ps : Int)
  ·
   refine run_cond_t rfl (decide_eq_true p4) ?_
   refine run_seq ?_
   clear bx5
   refine run_region rfl ?_
   refine l_val (v := Value.int .i64 ((arR o ps).2)) rfl (e_move rfl) ?_
   refine l_val (v := Value.bool (decide (((arR o ps).2) = 0))) rfl (e_eql (m := (arR o ps).2) (n := 0) rfl rfl) ?_
   refine l_val (v := Value.bool (decide (((arR o ps).2) = 0))) rfl (e_move rfl) ?_
   refine l_skip (want_n rfl rfl rfl (decide_eq_true q24)) ?_
   refine l_skip (want_n rfl rfl rfl (decide_eq_true q24)) ?_
   refine l_skip (want_n rfl rfl rfl (decide_eq_true q24)) ?_
   refine l_val (v := Value.bool true) rfl (e_pick_t rfl (decide_eq_true q24) rfl) ?_
   refine l_val (v := Value.bool true) rfl (e_assign rfl) ?_
   refine l_nil ?_
   refine run_ret (vs := [Value.bool true]) Try.func6 (.tmp rfl .nil) ?_
   -- return 0
   have e0 : (true : Bool) = (true) := by
     first | rfl | exact decide_eq_true (by rw [hW2]; rfl) | exact (decide_eq_true (by rw [hW2]; rfl)).symm | exact decide_eq_true (by omega) | exact (decide_eq_true (by omega)).symm
   have C16 : Chg (inl []) _ _ _ _ := (ch2.n).seq ((hb7.n).seq (ch14.n))
   replace hbase := hbase.chg C16 (is_nl rfl)
   exact ⟨(congrArg (a₁ := true) (fun (z0 : Bool) => Ending.returned (Value.bool z0)) e0), hbase.below⟩
  refine run_cond_f rfl (decide_eq_false p4) ?_
  refine run_skip ?_
  refine run_seq (run_region rfl ?_)
  refine l_val (v := ps_v) rfl (e_move rfl) ?_
  refine l_val (v := Value.int .i64 (List.length ps : Int)) rfl (e_len Try.underlying25 rfl r_ps_v) ?_
  refine l_op rfl ?_
  refine o_make (α := Bool) (l := (List.length ps : Int)) (cp := (List.length ps : Int)) g13 (is 3) (is 3) (3, 0) rfl false Try.underlying43 tp4_go rfl rfl rfl (by omega) (by omega) (by omega) (by omega) ?_
  intro g17 w18 v19 ch20 o21 _
  refine l_val (v := v19) rfl (e_assign rfl) ?_
  refine l_nil (run_seq (run_seq (run_region rfl ?_)))
  refine l_val (v := Value.int .i64 0) rfl (e_assign rfl) ?_
  refine l_nil ?_
  refine run_block ?_
  refine run_loop (σ := Nat × (List Bool) × Cmap) (fun ⟨i, S, gq⟩ f w => Base w0 gq w ∧ f 1 = ps_v ∧ f 2 = Value.pointer (some ⟨b3, 0, none⟩) ∧ f 5 = v11 ∧ f 7 = v19 ∧ f 8 = Value.int .i64 (i : Int) ∧ Sl gq (is 0) w ps_v ps ∧ Bx gq (is 1) w b3 [Value.int .i64 o.1, Value.int .i64 o.2] ∧ Ow gq (is 2) (is 2) w v11 ((arR o ps).1) ∧ Ow gq (is 3) (is 3) w v19 S ∧ (i : Int) ≤ ((List.length ((arR o ps).1) : Int) : Int) ∧ (seenP o ps i S)) (fun ⟨i, S, gq⟩ => Int.toNat (((List.length ((arR o ps).1) : Int) : Int) - (i : Int))) (0, (List.replicate (Int.toNat (List.length ps : Int)) false), g17) ?_ ?_
  have C22 : Chg (inl []) _ _ _ _ := (ch2.n).seq ((hb7.n).seq ((ch14.n).seq (ch20.n)))
  replace hbase := hbase.chg C22 (is_nl rfl)
  replace r_ps_v := r_ps_v.chg ch20 (not_no _)
  replace bx5 := (bx5.chg ch14 (not_no _)).chg ch20 (not_no _)
  replace o12 := o12.chg ch20 (not_no _) (not_no _)
  · exact ⟨hbase, rfl, rfl, rfl, rfl, rfl, r_ps_v, bx5, o12, o21, by omega, by exact seen_start⟩
  clear r_ps_v
  clear bx5
  clear o12
  clear o21
  clear hbase
  rintro ⟨i, S, g25⟩ f23 w24 ⟨hbase, zs1, zs2, zs5, zs7, zs8, r_ps_v, bx5, o12, o21, hle_i, hS⟩ back8
  refine run_seq (run_seq (run_region rfl ?_))
  refine l_val (v := Value.int .i64 (i : Int)) rfl (e_move (by exact zs8)) ?_
  refine l_val (v := v11) rfl (e_move (by exact zs5)) ?_
  have len26 := (o12.flat).small
  refine l_val (v := Value.int .i64 (List.length ((arR o ps).1) : Int)) rfl (e_len Try.underlying34 rfl o12.flat) ?_
  refine l_val (v := Value.bool (decide ((i : Int) < (List.length ((arR o ps).1) : Int)))) rfl (e_lss (m := (i : Int)) (n := (List.length ((arR o ps).1) : Int)) rfl rfl) ?_
  refine l_nil ?_
  by_cases p8 : (i : Int) < (List.length ((arR o ps).1) : Int)
  ·
   refine run_cond_t rfl (decide_eq_true p8) ?_
   have hSl := hS.1
   have hin := arL_in hwz (i := (i : Int)) (by omega) (by omega)
   rw [← hW3] at hin
   refine run_skip ?_
   refine run_seq ?_
   refine run_block ?_
   refine run_seq (run_seq (run_region rfl ?_))
   refine l_val (v := v19) rfl (e_move (by exact zs7)) ?_
   refine l_val (v := v11) rfl (e_move (by exact zs5)) ?_
   refine l_val (v := Value.int .i64 (i : Int)) rfl (e_move (by exact zs8)) ?_
   refine l_val (v := Value.pointer (some (eAddr v11 1 (Int.toNat (i : Int))))) rfl (e_indexAddr (α := Int) (xs := (arR o ps).1) (v := v11) (i := (i : Int)) Try.underlying34 rfl rfl o12.flat rfl (by omega) (by omega)) ?_
   refine l_val (v := Value.int .i64 (gI ((arR o ps).1) (i : Int))) rfl (e_load_el1 (α := Int) (xs := (arR o ps).1) (v := v11) (i := (i : Int)) tp3_go rfl o12.flat (by omega) (by omega) (by decide) rfl) ?_
   refine l_val (v := Value.pointer (some (eAddr v19 1 (Int.toNat (gI ((arR o ps).1) (i : Int)))))) rfl (e_indexAddr (α := Bool) (xs := S) (v := v19) (i := (gI ((arR o ps).1) (i : Int))) Try.underlying43 rfl rfl o21.flat rfl (by omega) (by omega)) ?_
   refine l_val (v := Value.bool (gI S (gI ((arR o ps).1) (i : Int)))) rfl (e_load_el1 (α := Bool) (xs := S) (v := v19) (i := (gI ((arR o ps).1) (i : Int))) tp4_go rfl o21.flat (by omega) (by omega) (by decide) rfl) ?_
   refine l_nil ?_
   have p10 : ¬ ((gI S (gI ((arR o ps).1) (i : Int))) = true) := by first | exact hr1 | (rw [hW3]; exact seen_new hwz hS (by omega)) | omega | (have := hr3 q93; omega)
   refine run_cond_f rfl (Bool.eq_false_iff.2 p10) ?_
   refine run_skip ?_
   refine run_seq (run_region rfl ?_)
   refine l_val (v := v19) rfl (e_move (by exact zs7)) ?_
   refine l_val (v := v11) rfl (e_move (by exact zs5)) ?_
   refine l_val (v := Value.int .i64 (i : Int)) rfl (e_move (by exact zs8)) ?_
   refine l_val (v := Value.pointer (some (eAddr v11 1 (Int.toNat (i : Int))))) rfl (e_indexAddr (α := Int) (xs := (arR o ps).1) (v := v11) (i := (i : Int)) Try.underlying34 rfl rfl o12.flat rfl (by omega) (by omega)) ?_
   refine l_val (v := Value.int .i64 (gI ((arR o ps).1) (i : Int))) rfl (e_load_el1 (α := Int) (xs := (arR o ps).1) (v := v11) (i := (i : Int)) tp3_go rfl o12.flat (by omega) (by omega) (by decide) rfl) ?_
   refine l_val (v := Value.pointer (some (eAddr v19 1 (Int.toNat (gI ((arR o ps).1) (i : Int)))))) rfl (e_indexAddr (α := Bool) (xs := S) (v := v19) (i := (gI ((arR o ps).1) (i : Int))) Try.underlying43 rfl rfl o21.flat rfl (by omega) (by omega)) ?_
   refine l_op rfl ?_
   refine o_store_el (i := (gI ((arR o ps).1) (i : Int))) true tp4_go rfl rfl o21 (by omega) (by omega) rfl ?_
   intro w27 ch28 bx29
   clear o21
   refine l_nil (run_seq (run_seq (run_region rfl ?_)))
   refine l_val (v := Value.int .i64 (i : Int)) rfl (e_move (by exact zs8)) ?_
   refine l_val (v := Value.bool (decide ((i : Int) = 0))) rfl (e_eql (m := (i : Int)) (n := 0) rfl rfl) ?_
   refine l_nil ?_
   by_cases p13 : (i : Int) = 0
   ·
    refine run_cond_t rfl (decide_eq_true p13) ?_
    refine run_exit rfl ?_
    refine run_region rfl ?_
    refine l_val (v := Value.int .i64 (i : Int)) rfl (e_move (by exact zs8)) ?_
    refine l_val (v := Value.int .i64 ((i : Int) + 1)) rfl (e_add (m := (i : Int)) (n := 1) rfl rfl (by omega)) ?_
    refine l_val (v := Value.int .i64 ((i : Int) + 1)) rfl (e_assign rfl) ?_
    refine l_nil ?_
    replace hbase := hbase.chg ch28 (is_ne rfl)
    replace r_ps_v := r_ps_v.chg ch28 (is_ne rfl)
    replace bx5 := bx5.chg ch28 (is_ne rfl)
    replace o12 := o12.chg ch28 (is_ne rfl) (is_ne rfl)
    refine back8 (i + 1, (List.set S (Int.toNat (gI ((arR o ps).1) (i : Int))) true), g25) _ _ ⟨hbase, (by exact zs1), (by exact zs2), (by exact zs5), (by exact zs7), rfl, r_ps_v, bx5, o12, bx29, by omega, ?_⟩ ?_
    · show seenP o ps (i + 1) (List.set S (Int.toNat (gI ((arR o ps).1) (i : Int))) true)
      (rw [hW3]; exact seen_step hwz hS (by omega))
    · show Int.toNat (((List.length ((arR o ps).1) : Int) : Int) - ((i + 1) : Int)) < Int.toNat (((List.length ((arR o ps).1) : Int) : Int) - (i : Int))
      omega
   have hin1 := arL_in hwz (i := (i : Int) - 1) (by omega) (by omega)
   obtain ⟨hr1, hr2, hr3⟩ := round_law hwz hwo hwp (i := (i : Int)) (by omega) (by omega)
   rw [← hW3] at hr1 hr2 hr3 hin1
   refine run_cond_f rfl (decide_eq_false p13) ?_
   refine run_skip ?_
   refine run_seq ?_
   refine region_midh (σ := Nat × Nat × Cmap) (fun ⟨b34, b40, gq⟩ f w => Base w0 gq w ∧ f 1 = ps_v ∧ f 2 = Value.pointer (some ⟨b3, 0, none⟩) ∧ f 5 = v11 ∧ f 7 = v19 ∧ f 8 = Value.int .i64 (i : Int) ∧ f 9 = Value.pointer (some ⟨b34, 0, none⟩) ∧ f 10 = Value.pointer (some ⟨b40, 0, none⟩) ∧ Sl gq (is 0) w ps_v ps ∧ Bx gq (is 1) w b3 [Value.int .i64 o.1, Value.int .i64 o.2] ∧ Ow gq (is 2) (is 2) w v11 ((arR o ps).1) ∧ Ow gq (is 3) (is 3) w v19 (List.set S (Int.toNat (gI ((arR o ps).1) (i : Int))) true) ∧ Bx gq (is 4) w b34 [Value.int .i64 ((gI ps (gI ((arR o ps).1) ((i : Int) - 1))).1), Value.int .i64 ((gI ps (gI ((arR o ps).1) ((i : Int) - 1))).2)] ∧ Bx gq (is 5) w b40 [Value.int .i64 ((gI ps (gI ((arR o ps).1) (i : Int))).1), Value.int .i64 ((gI ps (gI ((arR o ps).1) (i : Int))).2)]) g25 (inl [4, 5]) mixed_go ?_ ?_
   ·
    intro mid
    intro w31 ch30
    refine h_take (v := ps_v) 0 rfl (by kernel_rfl) (by kernel_rfl) rfl (Chg.refl _ _ _) (fun w' hw' => e_move (by exact zs1)) ?_
    refine h_take (v := v11) 1 rfl (by kernel_rfl) (by kernel_rfl) rfl (Chg.refl _ _ _) (fun w' hw' => e_move (by exact zs5)) ?_
    refine h_take (v := Value.int .i64 (i : Int)) 2 rfl (by kernel_rfl) (by kernel_rfl) rfl (Chg.refl _ _ _) (fun w' hw' => e_move (by exact zs8)) ?_
    refine h_take (v := Value.int .i64 ((i : Int) - 1)) 3 rfl (by kernel_rfl) (by kernel_rfl) rfl (Chg.refl _ _ _) (fun w' hw' => e_sub (m := (i : Int)) (n := 1) rfl rfl (by omega)) ?_
    replace o12 := (o12.chg ch28 (is_ne rfl) (is_ne rfl)).chg ch30 (not_no _) (not_no _)
    refine h_take (v := Value.pointer (some (eAddr v11 1 (Int.toNat ((i : Int) - 1))))) 4 rfl (by kernel_rfl) (by kernel_rfl) rfl (Chg.refl _ _ _) (fun w' hw' => e_indexAddr (α := Int) (xs := (arR o ps).1) (v := v11) (i := (i : Int) - 1) Try.underlying34 rfl rfl (o12.flat.chg hw' (is_nl rfl)) rfl (by omega) (by omega)) ?_
    refine h_take (v := Value.int .i64 (gI ((arR o ps).1) ((i : Int) - 1))) 5 rfl (by kernel_rfl) (by kernel_rfl) rfl (Chg.refl _ _ _) (fun w' hw' => e_load_el1 (α := Int) (xs := (arR o ps).1) (v := v11) (i := (i : Int) - 1) tp3_go rfl (o12.flat.chg hw' (is_nl rfl)) (by omega) (by omega) (by decide) rfl) ?_
    replace r_ps_v := (r_ps_v.chg ch28 (is_ne rfl)).chg ch30 (not_no _)
    refine h_take (v := Value.pointer (some (eAddr ps_v 2 (Int.toNat (gI ((arR o ps).1) ((i : Int) - 1)))))) 6 rfl (by kernel_rfl) (by kernel_rfl) rfl (Chg.refl _ _ _) (fun w' hw' => e_indexAddr (α := (Int) × (Int)) (xs := ps) (v := ps_v) (i := (gI ((arR o ps).1) ((i : Int) - 1))) Try.underlying25 rfl rfl (r_ps_v.chg hw' (is_nl rfl)) rfl (by omega) (by omega)) ?_
    refine h_take (v := Value.agg (List.toArray [Value.int .i64 ((gI ps (gI ((arR o ps).1) ((i : Int) - 1))).1), Value.int .i64 ((gI ps (gI ((arR o ps).1) ((i : Int) - 1))).2)])) 7 rfl (by kernel_rfl) (by kernel_rfl) rfl (Chg.refl _ _ _) (fun w' hw' => e_load_elN (α := (Int) × (Int)) (xs := ps) (v := ps_v) (i := (gI ((arR o ps).1) ((i : Int) - 1))) tp23_go rfl (r_ps_v.chg hw' (is_nl rfl)) (by omega) (by omega) rfl) ?_
    refine h_take (v := ps_v) 8 rfl (by kernel_rfl) (by kernel_rfl) rfl (Chg.refl _ _ _) (fun w' hw' => e_move (by exact zs1)) ?_
    refine h_take (v := v11) 9 rfl (by kernel_rfl) (by kernel_rfl) rfl (Chg.refl _ _ _) (fun w' hw' => e_move (by exact zs5)) ?_
    refine h_take (v := Value.int .i64 (i : Int)) 10 rfl (by kernel_rfl) (by kernel_rfl) rfl (Chg.refl _ _ _) (fun w' hw' => e_move (by exact zs8)) ?_
    refine h_take (v := Value.pointer (some (eAddr v11 1 (Int.toNat (i : Int))))) 11 rfl (by kernel_rfl) (by kernel_rfl) rfl (Chg.refl _ _ _) (fun w' hw' => e_indexAddr (α := Int) (xs := (arR o ps).1) (v := v11) (i := (i : Int)) Try.underlying34 rfl rfl (o12.flat.chg hw' (is_nl rfl)) rfl (by omega) (by omega)) ?_
    refine h_take (v := Value.int .i64 (gI ((arR o ps).1) (i : Int))) 12 rfl (by kernel_rfl) (by kernel_rfl) rfl (Chg.refl _ _ _) (fun w' hw' => e_load_el1 (α := Int) (xs := (arR o ps).1) (v := v11) (i := (i : Int)) tp3_go rfl (o12.flat.chg hw' (is_nl rfl)) (by omega) (by omega) (by decide) rfl) ?_
    refine h_take (v := Value.pointer (some (eAddr ps_v 2 (Int.toNat (gI ((arR o ps).1) (i : Int)))))) 13 rfl (by kernel_rfl) (by kernel_rfl) rfl (Chg.refl _ _ _) (fun w' hw' => e_indexAddr (α := (Int) × (Int)) (xs := ps) (v := ps_v) (i := (gI ((arR o ps).1) (i : Int))) Try.underlying25 rfl rfl (r_ps_v.chg hw' (is_nl rfl)) rfl (by omega) (by omega)) ?_
    refine h_take (v := Value.agg (List.toArray [Value.int .i64 ((gI ps (gI ((arR o ps).1) (i : Int))).1), Value.int .i64 ((gI ps (gI ((arR o ps).1) (i : Int))).2)])) 14 rfl (by kernel_rfl) (by kernel_rfl) rfl (Chg.refl _ _ _) (fun w' hw' => e_load_elN (α := (Int) × (Int)) (xs := ps) (v := ps_v) (i := (gI ((arR o ps).1) (i : Int))) tp23_go rfl (r_ps_v.chg hw' (is_nl rfl)) (by omega) (by omega) rfl) ?_
    refine h_many 15 [16] (by kernel_rfl) ⟨h_of 15 rfl (by kernel_rfl) rfl ?_, h_of 16 rfl (by kernel_rfl) rfl ?_, trivial⟩
    ·
     refine o_alloc g25 (is 4) (4, 0) rfl tp23_go ?_
     intro g35 w32 b34 ch33 bx36
     replace bx36 : Bx g35 (is 4) w32 b34 [Value.int .i64 0, Value.int .i64 0] := bx36
     have hs37 : Chg (inl [4, 5]) _ _ _ _ := ch33.n
     refine ⟨hs37.same, ?_⟩
     refine h_one 16 rfl (by kernel_rfl) rfl ?_
     refine o_alloc g35 (is 5) (5, 0) rfl tp23_go ?_
     intro g41 w38 b40 ch39 bx42
     replace bx42 : Bx g41 (is 5) w38 b40 [Value.int .i64 0, Value.int .i64 0] := bx42
     have hs43 := hs37.seq (ch39.n)
     refine ⟨hs43.same, ?_⟩
     refine h_one 17 rfl (by kernel_rfl) rfl ?_
     replace bx36 := bx36.chg ch39 (not_no _)
     refine o_store_bx (cs' := [Value.int .i64 ((gI ps (gI ((arR o ps).1) ((i : Int) - 1))).1), Value.int .i64 ((gI ps (gI ((arR o ps).1) ((i : Int) - 1))).2)]) tp23_go rfl rfl bx36 rfl (Nat.le_of_ble_eq_true rfl) (AllOne.all (.cons rfl (.cons rfl .nil))) rfl ?_
     intro w44 ch45 bx46
     clear bx36
     have hs47 := hs43.seq (ch45.l rfl)
     refine ⟨hs47.same, ?_⟩
     refine h_one 18 rfl (by kernel_rfl) rfl ?_
     replace bx42 := bx42.chg ch45 (is_ne rfl)
     refine o_store_bx (cs' := [Value.int .i64 ((gI ps (gI ((arR o ps).1) (i : Int))).1), Value.int .i64 ((gI ps (gI ((arR o ps).1) (i : Int))).2)]) tp23_go rfl rfl bx42 rfl (Nat.le_of_ble_eq_true rfl) (AllOne.all (.cons rfl (.cons rfl .nil))) rfl ?_
     intro w48 ch49 bx50
     clear bx42
     have hs51 := hs47.seq (ch49.l rfl)
     refine ⟨hs51.same, ?_⟩
     refine h_nil (by kernel_rfl) ?_
     have C52 : Chg (inl [3, 4, 5]) _ _ _ _ := (ch28.l rfl).seq ((ch30.n).seq ((ch33.n).seq ((ch39.n).seq ((ch45.l rfl).seq (ch49.l rfl)))))
     replace hbase := hbase.chg C52 (is_nl rfl)
     replace bx5 := (bx5.chg ch28 (is_ne rfl)).chg ch30 (not_no _)
     replace bx29 := bx29.chg ch30 (not_no _) (not_no _)
     replace bx46 := bx46.chg ch49 (is_ne rfl)
     exact mid (b34, b40, g41) _ _ ⟨hbase, (by exact zs1), (by exact zs2), (by exact zs5), (by exact zs7), (by exact zs8), rfl, rfl, (r_ps_v.chg hs51 (is_nl rfl)), (bx5.chg hs51 (is_nl rfl)), (o12.chg hs51 (is_nl rfl) (is_nl rfl)), (bx29.chg hs51 (is_nl rfl) (is_nl rfl)), bx46, bx50⟩
    ·
     refine o_alloc g25 (is 5) (5, 0) rfl tp23_go ?_
     intro g56 w53 b55 ch54 bx57
     replace bx57 : Bx g56 (is 5) w53 b55 [Value.int .i64 0, Value.int .i64 0] := bx57
     have hs58 : Chg (inl [4, 5]) _ _ _ _ := ch54.n
     refine ⟨hs58.same, ?_⟩
     refine h_one 15 rfl (by kernel_rfl) rfl ?_
     refine o_alloc g56 (is 4) (4, 0) rfl tp23_go ?_
     intro g62 w59 b61 ch60 bx63
     replace bx63 : Bx g62 (is 4) w59 b61 [Value.int .i64 0, Value.int .i64 0] := bx63
     have hs64 := hs58.seq (ch60.n)
     refine ⟨hs64.same, ?_⟩
     refine h_one 17 rfl (by kernel_rfl) rfl ?_
     refine o_store_bx (cs' := [Value.int .i64 ((gI ps (gI ((arR o ps).1) ((i : Int) - 1))).1), Value.int .i64 ((gI ps (gI ((arR o ps).1) ((i : Int) - 1))).2)]) tp23_go rfl rfl bx63 rfl (Nat.le_of_ble_eq_true rfl) (AllOne.all (.cons rfl (.cons rfl .nil))) rfl ?_
     intro w65 ch66 bx67
     clear bx63
     have hs68 := hs64.seq (ch66.l rfl)
     refine ⟨hs68.same, ?_⟩
     refine h_one 18 rfl (by kernel_rfl) rfl ?_
     replace bx57 := (bx57.chg ch60 (not_no _)).chg ch66 (is_ne rfl)
     refine o_store_bx (cs' := [Value.int .i64 ((gI ps (gI ((arR o ps).1) (i : Int))).1), Value.int .i64 ((gI ps (gI ((arR o ps).1) (i : Int))).2)]) tp23_go rfl rfl bx57 rfl (Nat.le_of_ble_eq_true rfl) (AllOne.all (.cons rfl (.cons rfl .nil))) rfl ?_
     intro w69 ch70 bx71
     clear bx57
     have hs72 := hs68.seq (ch70.l rfl)
     refine ⟨hs72.same, ?_⟩
     refine h_nil (by kernel_rfl) ?_
     have C73 : Chg (inl [3, 4, 5]) _ _ _ _ := (ch28.l rfl).seq ((ch30.n).seq ((ch54.n).seq ((ch60.n).seq ((ch66.l rfl).seq (ch70.l rfl)))))
     replace hbase := hbase.chg C73 (is_nl rfl)
     replace bx5 := (bx5.chg ch28 (is_ne rfl)).chg ch30 (not_no _)
     replace bx29 := bx29.chg ch30 (not_no _) (not_no _)
     replace bx67 := bx67.chg ch70 (is_ne rfl)
     exact mid (b61, b55, g62) _ _ ⟨hbase, (by exact zs1), (by exact zs2), (by exact zs5), (by exact zs7), (by exact zs8), rfl, rfl, (r_ps_v.chg hs72 (is_nl rfl)), (bx5.chg hs72 (is_nl rfl)), (o12.chg hs72 (is_nl rfl) (is_nl rfl)), (bx29.chg hs72 (is_nl rfl) (is_nl rfl)), bx67, bx71⟩
   clear r_ps_v
   clear bx5
   clear o12
   clear bx29
   clear hbase
   rintro ⟨b34, b40, g76⟩ f74 w75 ⟨hbase, zs1, zs2, zs5, zs7, zs8, zs9, zs10, r_ps_v, bx5, o12, bx29, bx46, bx50⟩
   refine run_seq ?_
   refine region_q g76 rfl mixed_go (by kernel_rfl) ?_
   intro w78 ch77
   replace bx5 := bx5.chg ch77 (not_no _)
   refine q_val (v := Value.agg (List.toArray [Value.int .i64 o.1, Value.int .i64 o.2])) rfl (fun w' hw' => e_load_bxN (ds := [Value.int .i64 o.1, Value.int .i64 o.2]) tp23_go (by exact zs2) (bx5.bel hw') rfl rfl) ?_
   replace bx46 := bx46.chg ch77 (not_no _)
   refine q_val (v := Value.agg (List.toArray [Value.int .i64 ((gI ps (gI ((arR o ps).1) ((i : Int) - 1))).1), Value.int .i64 ((gI ps (gI ((arR o ps).1) ((i : Int) - 1))).2)])) rfl (fun w' hw' => e_load_bxN (ds := [Value.int .i64 ((gI ps (gI ((arR o ps).1) ((i : Int) - 1))).1), Value.int .i64 ((gI ps (gI ((arR o ps).1) ((i : Int) - 1))).2)]) tp23_go (by exact zs9) (bx46.bel hw') rfl rfl) ?_
   refine q_call (v := Value.int .i64 (halfS (mns (gI ps (gI ((arR o ps).1) ((i : Int) - 1))) o))) rfl (fun w' hw' => e_call (vals := [Value.agg (List.toArray [Value.int .i64 o.1, Value.int .i64 o.2]), Value.agg (List.toArray [Value.int .i64 ((gI ps (gI ((arR o ps).1) ((i : Int) - 1))).1), Value.int .i64 ((gI ps (gI ((arR o ps).1) ((i : Int) - 1))).2)])]) Try.func22 bd22_go nm22_go rfl) (fun w' hw' => (L2half_ok w' o (gI ps (gI ((arR o ps).1) ((i : Int) - 1)))).mono fun e w2 h2 => ⟨h2.1, hw'.trans (h2.2.mono hw'.size)⟩) ?_
   refine q_val (v := Value.agg (List.toArray [Value.int .i64 o.1, Value.int .i64 o.2])) rfl (fun w' hw' => e_load_bxN (ds := [Value.int .i64 o.1, Value.int .i64 o.2]) tp23_go (by exact zs2) (bx5.bel hw') rfl rfl) ?_
   replace bx50 := bx50.chg ch77 (not_no _)
   refine q_val (v := Value.agg (List.toArray [Value.int .i64 ((gI ps (gI ((arR o ps).1) (i : Int))).1), Value.int .i64 ((gI ps (gI ((arR o ps).1) (i : Int))).2)])) rfl (fun w' hw' => e_load_bxN (ds := [Value.int .i64 ((gI ps (gI ((arR o ps).1) (i : Int))).1), Value.int .i64 ((gI ps (gI ((arR o ps).1) (i : Int))).2)]) tp23_go (by exact zs10) (bx50.bel hw') rfl rfl) ?_
   refine q_call (v := Value.int .i64 (halfS (mns (gI ps (gI ((arR o ps).1) (i : Int))) o))) rfl (fun w' hw' => e_call (vals := [Value.agg (List.toArray [Value.int .i64 o.1, Value.int .i64 o.2]), Value.agg (List.toArray [Value.int .i64 ((gI ps (gI ((arR o ps).1) (i : Int))).1), Value.int .i64 ((gI ps (gI ((arR o ps).1) (i : Int))).2)])]) Try.func22 bd22_go nm22_go rfl) (fun w' hw' => (L2half_ok w' o (gI ps (gI ((arR o ps).1) (i : Int)))).mono fun e w2 h2 => ⟨h2.1, hw'.trans (h2.2.mono hw'.size)⟩) ?_
   refine q_val (v := Value.bool (decide ((halfS (mns (gI ps (gI ((arR o ps).1) ((i : Int) - 1))) o)) = (halfS (mns (gI ps (gI ((arR o ps).1) (i : Int))) o))))) rfl (fun w' hw' => e_eql (m := halfS (mns (gI ps (gI ((arR o ps).1) ((i : Int) - 1))) o)) (n := halfS (mns (gI ps (gI ((arR o ps).1) (i : Int))) o)) rfl rfl) ?_
   refine q_val (v := Value.bool (decide ((halfS (mns (gI ps (gI ((arR o ps).1) ((i : Int) - 1))) o)) = (halfS (mns (gI ps (gI ((arR o ps).1) (i : Int))) o))))) rfl (fun w' hw' => e_assign rfl) ?_
   refine q_nil ?_
   intro w79 hc80
   replace hc80 := chg_below hc80 g76
   refine run_seq (run_region rfl ?_)
   replace bx5 := bx5.chg hc80 (not_no _)
   refine l_val (v := Value.agg (List.toArray [Value.int .i64 o.1, Value.int .i64 o.2])) rfl (e_load_bxN (ds := [Value.int .i64 o.1, Value.int .i64 o.2]) tp23_go (by exact zs2) bx5 rfl rfl) ?_
   replace bx46 := bx46.chg hc80 (not_no _)
   refine l_val (v := Value.agg (List.toArray [Value.int .i64 ((gI ps (gI ((arR o ps).1) ((i : Int) - 1))).1), Value.int .i64 ((gI ps (gI ((arR o ps).1) ((i : Int) - 1))).2)])) rfl (e_load_bxN (ds := [Value.int .i64 ((gI ps (gI ((arR o ps).1) ((i : Int) - 1))).1), Value.int .i64 ((gI ps (gI ((arR o ps).1) ((i : Int) - 1))).2)]) tp23_go (by exact zs9) bx46 rfl rfl) ?_
   replace bx50 := bx50.chg hc80 (not_no _)
   refine l_val (v := Value.agg (List.toArray [Value.int .i64 ((gI ps (gI ((arR o ps).1) (i : Int))).1), Value.int .i64 ((gI ps (gI ((arR o ps).1) (i : Int))).2)])) rfl (e_load_bxN (ds := [Value.int .i64 ((gI ps (gI ((arR o ps).1) (i : Int))).1), Value.int .i64 ((gI ps (gI ((arR o ps).1) (i : Int))).2)]) tp23_go (by exact zs10) bx50 rfl rfl) ?_
   refine l_op rfl ?_
   refine o_call (v := Value.tuple (List.toArray [Value.int .i64 ((orientR o (gI ps (gI ((arR o ps).1) ((i : Int) - 1))) (gI ps (gI ((arR o ps).1) (i : Int)))).1), Value.int .i64 ((orientR o (gI ps (gI ((arR o ps).1) ((i : Int) - 1))) (gI ps (gI ((arR o ps).1) (i : Int)))).2)])) (e_call (vals := [Value.agg (List.toArray [Value.int .i64 o.1, Value.int .i64 o.2]), Value.agg (List.toArray [Value.int .i64 ((gI ps (gI ((arR o ps).1) ((i : Int) - 1))).1), Value.int .i64 ((gI ps (gI ((arR o ps).1) ((i : Int) - 1))).2)]), Value.agg (List.toArray [Value.int .i64 ((gI ps (gI ((arR o ps).1) (i : Int))).1), Value.int .i64 ((gI ps (gI ((arR o ps).1) (i : Int))).2)])]) Try.func13 bd13_go nm13_go rfl) (Orient_ok w79 o (gI ps (gI ((arR o ps).1) ((i : Int) - 1))) (gI ps (gI ((arR o ps).1) (i : Int)))) ?_
   intro w81 hb82
   replace hb82 := chg_below hb82 g76
   refine l_val (v := Value.tuple (List.toArray [Value.int .i64 ((orientR o (gI ps (gI ((arR o ps).1) ((i : Int) - 1))) (gI ps (gI ((arR o ps).1) (i : Int)))).1), Value.int .i64 ((orientR o (gI ps (gI ((arR o ps).1) ((i : Int) - 1))) (gI ps (gI ((arR o ps).1) (i : Int)))).2)])) rfl (e_move rfl) ?_
   refine l_val (v := Value.int .i64 ((orientR o (gI ps (gI ((arR o ps).1) ((i : Int) - 1))) (gI ps (gI ((arR o ps).1) (i : Int)))).1)) rfl (e_extract rfl rfl) ?_
   refine l_val (v := Value.int .i64 ((orientR o (gI ps (gI ((arR o ps).1) ((i : Int) - 1))) (gI ps (gI ((arR o ps).1) (i : Int)))).2)) rfl (e_extract rfl rfl) ?_
   refine l_val (v := Value.int .i64 ((orientR o (gI ps (gI ((arR o ps).1) ((i : Int) - 1))) (gI ps (gI ((arR o ps).1) (i : Int)))).1)) rfl (e_assign rfl) ?_
   refine l_val (v := Value.int .i64 ((orientR o (gI ps (gI ((arR o ps).1) ((i : Int) - 1))) (gI ps (gI ((arR o ps).1) (i : Int)))).2)) rfl (e_assign rfl) ?_
   refine l_nil (run_seq ?_)
   refine region_q g76 rfl mixed_go (by kernel_rfl) ?_
   intro w84 ch83
   refine q_val (v := Value.int .i64 ((orientR o (gI ps (gI ((arR o ps).1) ((i : Int) - 1))) (gI ps (gI ((arR o ps).1) (i : Int)))).2)) rfl (fun w' hw' => e_move rfl) ?_
   refine q_val (v := Value.bool (!(decide (((orientR o (gI ps (gI ((arR o ps).1) ((i : Int) - 1))) (gI ps (gI ((arR o ps).1) (i : Int)))).2) = 0)))) rfl (fun w' hw' => e_neq (m := (orientR o (gI ps (gI ((arR o ps).1) ((i : Int) - 1))) (gI ps (gI ((arR o ps).1) (i : Int)))).2) (n := 0) rfl rfl) ?_
   refine q_val (v := Value.bool (!(decide (((orientR o (gI ps (gI ((arR o ps).1) ((i : Int) - 1))) (gI ps (gI ((arR o ps).1) (i : Int)))).2) = 0)))) rfl (fun w' hw' => e_move rfl) ?_
   have q91 : ((orientR o (gI ps (gI ((arR o ps).1) ((i : Int) - 1))) (gI ps (gI ((arR o ps).1) (i : Int)))).2) = 0 := by first | exact hr1 | (rw [hW3]; exact seen_new hwz hS (by omega)) | omega | (have := hr3 q93; omega)
   refine q_val (v := Value.bool (decide ((halfS (mns (gI ps (gI ((arR o ps).1) ((i : Int) - 1))) o)) = (halfS (mns (gI ps (gI ((arR o ps).1) (i : Int))) o))))) (want_y rfl rfl rfl (congrArg Bool.not (decide_eq_true q91))) (fun w' hw' => e_move rfl) ?_
   refine q_val (v := Value.bool (decide ((halfS (mns (gI ps (gI ((arR o ps).1) ((i : Int) - 1))) o)) = (halfS (mns (gI ps (gI ((arR o ps).1) (i : Int))) o))))) (want_y rfl rfl rfl (congrArg Bool.not (decide_eq_true q91))) (fun w' hw' => e_move rfl) ?_
   by_cases q93 : (halfS (mns (gI ps (gI ((arR o ps).1) ((i : Int) - 1))) o)) = (halfS (mns (gI ps (gI ((arR o ps).1) (i : Int))) o))
   ·
    refine q_val (v := Value.int .i64 ((orientR o (gI ps (gI ((arR o ps).1) ((i : Int) - 1))) (gI ps (gI ((arR o ps).1) (i : Int)))).1)) (want_y rfl rfl rfl (decide_eq_true q93)) (fun w' hw' => e_move rfl) ?_
    refine q_val (v := Value.bool (decide (0 < ((orientR o (gI ps (gI ((arR o ps).1) ((i : Int) - 1))) (gI ps (gI ((arR o ps).1) (i : Int)))).1)))) (want_y rfl rfl rfl (decide_eq_true q93)) (fun w' hw' => e_gtr (m := (orientR o (gI ps (gI ((arR o ps).1) ((i : Int) - 1))) (gI ps (gI ((arR o ps).1) (i : Int)))).1) (n := 0) rfl rfl) ?_
    refine q_val (v := Value.bool (decide (0 < ((orientR o (gI ps (gI ((arR o ps).1) ((i : Int) - 1))) (gI ps (gI ((arR o ps).1) (i : Int)))).1)))) (want_y rfl rfl rfl (congrArg Bool.not (decide_eq_true q91))) (fun w' hw' => e_pick_t rfl (decide_eq_true q93) rfl) ?_
    refine q_val (v := Value.bool (decide (0 < ((orientR o (gI ps (gI ((arR o ps).1) ((i : Int) - 1))) (gI ps (gI ((arR o ps).1) (i : Int)))).1)))) rfl (fun w' hw' => e_pick_f rfl (congrArg Bool.not (decide_eq_true q91)) rfl) ?_
    refine q_val (v := Value.bool (decide (0 < ((orientR o (gI ps (gI ((arR o ps).1) ((i : Int) - 1))) (gI ps (gI ((arR o ps).1) (i : Int)))).1)))) rfl (fun w' hw' => e_move rfl) ?_
    have q98 : ¬ (0 < ((orientR o (gI ps (gI ((arR o ps).1) ((i : Int) - 1))) (gI ps (gI ((arR o ps).1) (i : Int)))).1)) := by first | exact hr1 | (rw [hW3]; exact seen_new hwz hS (by omega)) | omega | (have := hr3 q93; omega)
    replace bx5 := (bx5.chg hb82 (not_no _)).chg ch83 (not_no _)
    refine q_val (v := Value.agg (List.toArray [Value.int .i64 o.1, Value.int .i64 o.2])) (want_y rfl rfl rfl (decide_eq_false q98)) (fun w' hw' => e_load_bxN (ds := [Value.int .i64 o.1, Value.int .i64 o.2]) tp23_go (by exact zs2) (bx5.bel hw') rfl rfl) ?_
    replace bx46 := (bx46.chg hb82 (not_no _)).chg ch83 (not_no _)
    refine q_val (v := Value.agg (List.toArray [Value.int .i64 ((gI ps (gI ((arR o ps).1) ((i : Int) - 1))).1), Value.int .i64 ((gI ps (gI ((arR o ps).1) ((i : Int) - 1))).2)])) (want_y rfl rfl rfl (decide_eq_false q98)) (fun w' hw' => e_load_bxN (ds := [Value.int .i64 ((gI ps (gI ((arR o ps).1) ((i : Int) - 1))).1), Value.int .i64 ((gI ps (gI ((arR o ps).1) ((i : Int) - 1))).2)]) tp23_go (by exact zs9) (bx46.bel hw') rfl rfl) ?_
    refine q_call (v := Value.int .i64 (halfS (mns (gI ps (gI ((arR o ps).1) ((i : Int) - 1))) o))) (want_y rfl rfl rfl (decide_eq_false q98)) (fun w' hw' => e_call (vals := [Value.agg (List.toArray [Value.int .i64 o.1, Value.int .i64 o.2]), Value.agg (List.toArray [Value.int .i64 ((gI ps (gI ((arR o ps).1) ((i : Int) - 1))).1), Value.int .i64 ((gI ps (gI ((arR o ps).1) ((i : Int) - 1))).2)])]) Try.func22 bd22_go nm22_go rfl) (fun w' hw' => (L2half_ok w' o (gI ps (gI ((arR o ps).1) ((i : Int) - 1)))).mono fun e w2 h2 => ⟨h2.1, hw'.trans (h2.2.mono hw'.size)⟩) ?_
    refine q_val (v := Value.agg (List.toArray [Value.int .i64 o.1, Value.int .i64 o.2])) (want_y rfl rfl rfl (decide_eq_false q98)) (fun w' hw' => e_load_bxN (ds := [Value.int .i64 o.1, Value.int .i64 o.2]) tp23_go (by exact zs2) (bx5.bel hw') rfl rfl) ?_
    replace bx50 := (bx50.chg hb82 (not_no _)).chg ch83 (not_no _)
    refine q_val (v := Value.agg (List.toArray [Value.int .i64 ((gI ps (gI ((arR o ps).1) (i : Int))).1), Value.int .i64 ((gI ps (gI ((arR o ps).1) (i : Int))).2)])) (want_y rfl rfl rfl (decide_eq_false q98)) (fun w' hw' => e_load_bxN (ds := [Value.int .i64 ((gI ps (gI ((arR o ps).1) (i : Int))).1), Value.int .i64 ((gI ps (gI ((arR o ps).1) (i : Int))).2)]) tp23_go (by exact zs10) (bx50.bel hw') rfl rfl) ?_
    refine q_call (v := Value.int .i64 (halfS (mns (gI ps (gI ((arR o ps).1) (i : Int))) o))) (want_y rfl rfl rfl (decide_eq_false q98)) (fun w' hw' => e_call (vals := [Value.agg (List.toArray [Value.int .i64 o.1, Value.int .i64 o.2]), Value.agg (List.toArray [Value.int .i64 ((gI ps (gI ((arR o ps).1) (i : Int))).1), Value.int .i64 ((gI ps (gI ((arR o ps).1) (i : Int))).2)])]) Try.func22 bd22_go nm22_go rfl) (fun w' hw' => (L2half_ok w' o (gI ps (gI ((arR o ps).1) (i : Int)))).mono fun e w2 h2 => ⟨h2.1, hw'.trans (h2.2.mono hw'.size)⟩) ?_
    refine q_val (v := Value.bool (decide ((halfS (mns (gI ps (gI ((arR o ps).1) (i : Int))) o)) < (halfS (mns (gI ps (gI ((arR o ps).1) ((i : Int) - 1))) o))))) (want_y rfl rfl rfl (decide_eq_false q98)) (fun w' hw' => e_gtr (m := halfS (mns (gI ps (gI ((arR o ps).1) ((i : Int) - 1))) o)) (n := halfS (mns (gI ps (gI ((arR o ps).1) (i : Int))) o)) rfl rfl) ?_
    refine q_val (v := Value.bool (decide ((halfS (mns (gI ps (gI ((arR o ps).1) (i : Int))) o)) < (halfS (mns (gI ps (gI ((arR o ps).1) ((i : Int) - 1))) o))))) rfl (fun w' hw' => e_pick_f rfl (decide_eq_false q98) rfl) ?_
    refine q_nil ?_
    intro w85 hc86
    replace hc86 := chg_below hc86 g76
    have p17 : ¬ ((halfS (mns (gI ps (gI ((arR o ps).1) (i : Int))) o)) < (halfS (mns (gI ps (gI ((arR o ps).1) ((i : Int) - 1))) o))) := by first | exact hr1 | (rw [hW3]; exact seen_new hwz hS (by omega)) | omega | (have := hr3 q93; omega)
    refine run_cond_f rfl (decide_eq_false p17) ?_
    refine run_skip ?_
    refine run_inBlock ?_
    clear bx46
    clear bx50
    refine run_region rfl ?_
    refine l_val (v := Value.int .i64 (i : Int)) rfl (e_move (by exact zs8)) ?_
    refine l_val (v := Value.int .i64 ((i : Int) + 1)) rfl (e_add (m := (i : Int)) (n := 1) rfl rfl (by omega)) ?_
    refine l_val (v := Value.int .i64 ((i : Int) + 1)) rfl (e_assign rfl) ?_
    refine l_nil ?_
    have C87 : Chg (inl []) _ _ _ _ := (ch77.n).seq ((hc80.n).seq ((hb82.n).seq ((ch83.n).seq (hc86.n))))
    replace hbase := hbase.chg C87 (is_nl rfl)
    replace r_ps_v := r_ps_v.chg C87 (is_nl rfl)
    replace bx5 := bx5.chg hc86 (not_no _)
    replace o12 := o12.chg C87 (is_nl rfl) (is_nl rfl)
    replace bx29 := bx29.chg C87 (is_nl rfl) (is_nl rfl)
    refine back8 (i + 1, (List.set S (Int.toNat (gI ((arR o ps).1) (i : Int))) true), g76) _ _ ⟨hbase, (by exact zs1), (by exact zs2), (by exact zs5), (by exact zs7), rfl, r_ps_v, bx5, o12, bx29, by omega, ?_⟩ ?_
    · show seenP o ps (i + 1) (List.set S (Int.toNat (gI ((arR o ps).1) (i : Int))) true)
      (rw [hW3]; exact seen_step hwz hS (by omega))
    · show Int.toNat (((List.length ((arR o ps).1) : Int) : Int) - ((i + 1) : Int)) < Int.toNat (((List.length ((arR o ps).1) : Int) : Int) - (i : Int))
      omega
   refine q_skip (want_n rfl rfl rfl (decide_eq_false q93)) ?_
   refine q_skip (want_n rfl rfl rfl (decide_eq_false q93)) ?_
   refine q_val (v := Value.bool false) (want_y rfl rfl rfl (congrArg Bool.not (decide_eq_true q91))) (fun w' hw' => e_pick_f rfl (decide_eq_false q93) rfl) ?_
   refine q_val (v := Value.bool false) rfl (fun w' hw' => e_pick_f rfl (congrArg Bool.not (decide_eq_true q91)) rfl) ?_
   refine q_val (v := Value.bool false) rfl (fun w' hw' => e_move rfl) ?_
   replace bx5 := (bx5.chg hb82 (not_no _)).chg ch83 (not_no _)
   refine q_val (v := Value.agg (List.toArray [Value.int .i64 o.1, Value.int .i64 o.2])) (want_y rfl rfl rfl rfl) (fun w' hw' => e_load_bxN (ds := [Value.int .i64 o.1, Value.int .i64 o.2]) tp23_go (by exact zs2) (bx5.bel hw') rfl rfl) ?_
   replace bx46 := (bx46.chg hb82 (not_no _)).chg ch83 (not_no _)
   refine q_val (v := Value.agg (List.toArray [Value.int .i64 ((gI ps (gI ((arR o ps).1) ((i : Int) - 1))).1), Value.int .i64 ((gI ps (gI ((arR o ps).1) ((i : Int) - 1))).2)])) (want_y rfl rfl rfl rfl) (fun w' hw' => e_load_bxN (ds := [Value.int .i64 ((gI ps (gI ((arR o ps).1) ((i : Int) - 1))).1), Value.int .i64 ((gI ps (gI ((arR o ps).1) ((i : Int) - 1))).2)]) tp23_go (by exact zs9) (bx46.bel hw') rfl rfl) ?_
   refine q_call (v := Value.int .i64 (halfS (mns (gI ps (gI ((arR o ps).1) ((i : Int) - 1))) o))) (want_y rfl rfl rfl rfl) (fun w' hw' => e_call (vals := [Value.agg (List.toArray [Value.int .i64 o.1, Value.int .i64 o.2]), Value.agg (List.toArray [Value.int .i64 ((gI ps (gI ((arR o ps).1) ((i : Int) - 1))).1), Value.int .i64 ((gI ps (gI ((arR o ps).1) ((i : Int) - 1))).2)])]) Try.func22 bd22_go nm22_go rfl) (fun w' hw' => (L2half_ok w' o (gI ps (gI ((arR o ps).1) ((i : Int) - 1)))).mono fun e w2 h2 => ⟨h2.1, hw'.trans (h2.2.mono hw'.size)⟩) ?_
   refine q_val (v := Value.agg (List.toArray [Value.int .i64 o.1, Value.int .i64 o.2])) (want_y rfl rfl rfl rfl) (fun w' hw' => e_load_bxN (ds := [Value.int .i64 o.1, Value.int .i64 o.2]) tp23_go (by exact zs2) (bx5.bel hw') rfl rfl) ?_
   replace bx50 := (bx50.chg hb82 (not_no _)).chg ch83 (not_no _)
   refine q_val (v := Value.agg (List.toArray [Value.int .i64 ((gI ps (gI ((arR o ps).1) (i : Int))).1), Value.int .i64 ((gI ps (gI ((arR o ps).1) (i : Int))).2)])) (want_y rfl rfl rfl rfl) (fun w' hw' => e_load_bxN (ds := [Value.int .i64 ((gI ps (gI ((arR o ps).1) (i : Int))).1), Value.int .i64 ((gI ps (gI ((arR o ps).1) (i : Int))).2)]) tp23_go (by exact zs10) (bx50.bel hw') rfl rfl) ?_
   refine q_call (v := Value.int .i64 (halfS (mns (gI ps (gI ((arR o ps).1) (i : Int))) o))) (want_y rfl rfl rfl rfl) (fun w' hw' => e_call (vals := [Value.agg (List.toArray [Value.int .i64 o.1, Value.int .i64 o.2]), Value.agg (List.toArray [Value.int .i64 ((gI ps (gI ((arR o ps).1) (i : Int))).1), Value.int .i64 ((gI ps (gI ((arR o ps).1) (i : Int))).2)])]) Try.func22 bd22_go nm22_go rfl) (fun w' hw' => (L2half_ok w' o (gI ps (gI ((arR o ps).1) (i : Int)))).mono fun e w2 h2 => ⟨h2.1, hw'.trans (h2.2.mono hw'.size)⟩) ?_
   refine q_val (v := Value.bool (decide ((halfS (mns (gI ps (gI ((arR o ps).1) (i : Int))) o)) < (halfS (mns (gI ps (gI ((arR o ps).1) ((i : Int) - 1))) o))))) (want_y rfl rfl rfl rfl) (fun w' hw' => e_gtr (m := halfS (mns (gI ps (gI ((arR o ps).1) ((i : Int) - 1))) o)) (n := halfS (mns (gI ps (gI ((arR o ps).1) (i : Int))) o)) rfl rfl) ?_
   refine q_val (v := Value.bool (decide ((halfS (mns (gI ps (gI ((arR o ps).1) (i : Int))) o)) < (halfS (mns (gI ps (gI ((arR o ps).1) ((i : Int) - 1))) o))))) rfl (fun w' hw' => e_pick_f rfl rfl rfl) ?_
   refine q_nil ?_
   intro w88 hc89
   replace hc89 := chg_below hc89 g76
   have p17_90 : ¬ ((halfS (mns (gI ps (gI ((arR o ps).1) (i : Int))) o)) < (halfS (mns (gI ps (gI ((arR o ps).1) ((i : Int) - 1))) o))) := by first | exact hr1 | (rw [hW3]; exact seen_new hwz hS (by omega)) | omega | (have := hr3 q93; omega)
   refine run_cond_f rfl (decide_eq_false p17_90) ?_
   refine run_skip ?_
   refine run_inBlock ?_
   clear bx46
   clear bx50
   refine run_region rfl ?_
   refine l_val (v := Value.int .i64 (i : Int)) rfl (e_move (by exact zs8)) ?_
   refine l_val (v := Value.int .i64 ((i : Int) + 1)) rfl (e_add (m := (i : Int)) (n := 1) rfl rfl (by omega)) ?_
   refine l_val (v := Value.int .i64 ((i : Int) + 1)) rfl (e_assign rfl) ?_
   refine l_nil ?_
   have C91 : Chg (inl []) _ _ _ _ := (ch77.n).seq ((hc80.n).seq ((hb82.n).seq ((ch83.n).seq (hc89.n))))
   replace hbase := hbase.chg C91 (is_nl rfl)
   replace r_ps_v := r_ps_v.chg C91 (is_nl rfl)
   replace bx5 := bx5.chg hc89 (not_no _)
   replace o12 := o12.chg C91 (is_nl rfl) (is_nl rfl)
   replace bx29 := bx29.chg C91 (is_nl rfl) (is_nl rfl)
   refine back8 (i + 1, (List.set S (Int.toNat (gI ((arR o ps).1) (i : Int))) true), g76) _ _ ⟨hbase, (by exact zs1), (by exact zs2), (by exact zs5), (by exact zs7), rfl, r_ps_v, bx5, o12, bx29, by omega, ?_⟩ ?_
   · show seenP o ps (i + 1) (List.set S (Int.toNat (gI ((arR o ps).1) (i : Int))) true)
     (rw [hW3]; exact seen_step hwz hS (by omega))
   · show Int.toNat (((List.length ((arR o ps).1) : Int) : Int) - ((i + 1) : Int)) < Int.toNat (((List.length ((arR o ps).1) : Int) : Int) - (i : Int))
     omega
  refine run_cond_f rfl (decide_eq_false p8) ?_
  refine run_exit rfl ?_
  refine run_seq ?_
  clear bx5
  clear o21
  refine run_region rfl ?_
  refine l_val (v := v11) rfl (e_move (by exact zs5)) ?_
  refine l_val (v := Value.int .i64 (List.length ((arR o ps).1) : Int)) rfl (e_len Try.underlying34 rfl o12.flat) ?_
  refine l_val (v := ps_v) rfl (e_move (by exact zs1)) ?_
  refine l_val (v := Value.int .i64 (List.length ps : Int)) rfl (e_len Try.underlying25 rfl r_ps_v) ?_
  refine l_val (v := Value.bool (decide ((List.length ((arR o ps).1) : Int) = (List.length ps : Int)))) rfl (e_eql (m := (List.length ((arR o ps).1) : Int)) (n := (List.length ps : Int)) rfl rfl) ?_
  refine l_val (v := Value.bool (decide ((List.length ((arR o ps).1) : Int) = (List.length ps : Int)))) rfl (e_assign rfl) ?_
  refine l_nil ?_
  refine run_ret (vs := [Value.bool (decide ((List.length ((arR o ps).1) : Int) = (List.length ps : Int)))]) Try.func6 (.tmp rfl .nil) ?_
  -- return 1
  have e0 : (decide ((List.length ((arR o ps).1) : Int) = (List.length ps : Int)) : Bool) = (true) := by
    first | rfl | exact decide_eq_true (by rw [hW2]; rfl) | exact (decide_eq_true (by rw [hW2]; rfl)).symm | exact decide_eq_true (by omega) | exact (decide_eq_true (by omega)).symm
  exact ⟨(congrArg (a₁ := decide ((List.length ((arR o ps).1) : Int) = (List.length ps : Int))) (fun (z0 : Bool) => Ending.returned (Value.bool z0)) e0), hbase.below⟩
 have hW2 := arR_two.2 q24
 refine l_skip (want_n rfl rfl rfl (congrArg Bool.not (decide_eq_false q24))) ?_
 refine l_skip (want_n rfl rfl rfl (congrArg Bool.not (decide_eq_false q24))) ?_
 refine l_skip (want_n rfl rfl rfl (congrArg Bool.not (decide_eq_false q24))) ?_
 refine l_val (v := Value.bool true) rfl (e_pick_t rfl (congrArg Bool.not (decide_eq_false q24)) rfl) ?_
 refine l_nil ?_
 refine run_cond_t rfl rfl ?_
 refine run_seq ?_
 clear bx5
 refine run_region rfl ?_
 refine l_val (v := Value.int .i64 ((arR o ps).2)) rfl (e_move rfl) ?_
 refine l_val (v := Value.bool (decide (((arR o ps).2) = 0))) rfl (e_eql (m := (arR o ps).2) (n := 0) rfl rfl) ?_
 refine l_val (v := Value.bool (decide (((arR o ps).2) = 0))) rfl (e_move rfl) ?_
 refine l_val (v := v11) (want_y rfl rfl rfl (decide_eq_false q24)) (e_move rfl) ?_
 have len92 := (o12.flat).small
 refine l_val (v := Value.int .i64 (List.length ((arR o ps).1) : Int)) (want_y rfl rfl rfl (decide_eq_false q24)) (e_len Try.underlying34 rfl o12.flat) ?_
 refine l_val (v := Value.bool (decide ((List.length ((arR o ps).1) : Int) = 0))) (want_y rfl rfl rfl (decide_eq_false q24)) (e_eql (m := (List.length ((arR o ps).1) : Int)) (n := 0) rfl rfl) ?_
 refine l_val (v := Value.bool (decide ((List.length ((arR o ps).1) : Int) = 0))) rfl (e_pick_f rfl (decide_eq_false q24) rfl) ?_
 refine l_val (v := Value.bool (decide ((List.length ((arR o ps).1) : Int) = 0))) rfl (e_assign rfl) ?_
 refine l_nil ?_
 refine run_ret (vs := [Value.bool (decide ((List.length ((arR o ps).1) : Int) = 0))]) Try.func6 (.tmp rfl .nil) ?_
 -- return 2
 have e0 : (decide ((List.length ((arR o ps).1) : Int) = 0) : Bool) = (true) := by
   first | rfl | exact decide_eq_true (by rw [hW2]; rfl) | exact (decide_eq_true (by rw [hW2]; rfl)).symm | exact decide_eq_true (by omega) | exact (decide_eq_true (by omega)).symm
 have C93 : Chg (inl []) _ _ _ _ := (ch2.n).seq ((hb7.n).seq (ch14.n))
 replace hbase := hbase.chg C93 (is_nl rfl)
 exact ⟨(congrArg (a₁ := decide ((List.length ((arR o ps).1) : Int) = 0)) (fun (z0 : Bool) => Ending.returned (Value.bool z0)) e0), hbase.below⟩
end TL
