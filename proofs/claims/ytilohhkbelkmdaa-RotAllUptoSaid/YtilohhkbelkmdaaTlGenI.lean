import Derived.Test.YtilohhkbelkmdaaTlGenA
import Derived.Test.YtilohhkbelkmdaaTlGenQ
import Derived.Test.YtilohhkbelkmdaaTlP2
import Derived.Test.YtilohhkbelkmdaaProg
set_option linter.all false
set_option maxRecDepth 20000
namespace TL
open Go Go.Proofs
theorem mixed_i : Try.prog.follows .mixedOrders = true := by kernel_rfl
theorem tp3_i : Tp Try.prog 3 false 1 8 (.int .i64 0) := Tp.of (by kernel_rfl)
theorem tp22_i : Tp Try.prog 22 false 1 24 (.slice none 0 0) := Tp.of (by kernel_rfl)
theorem tp24_i : Tp Try.prog 24 true 2 32 (.agg #[.int .i64 0, .slice none 0 0]) := Tp.of (by kernel_rfl)
theorem tp27_i : Tp Try.prog 27 false 1 24 (.slice none 0 0) := Tp.of (by kernel_rfl)
theorem bd52_i : Try.f52.body.isNone = false := rfl
theorem nm52_i : (Try.f52.name == "runtime.NumGoroutine") = false := by decide +kernel
theorem bd78_i : Try.f78.body.isNone = false := rfl
theorem nm78_i : (Try.f78.name == "runtime.NumGoroutine") = false := by decide +kernel
theorem bd79_i : Try.f79.body.isNone = false := rfl
theorem nm79_i : (Try.f79.name == "runtime.NumGoroutine") = false := by decide +kernel
theorem bd80_i : Try.f80.body.isNone = false := rfl
theorem nm80_i : (Try.f80.name == "runtime.NumGoroutine") = false := by decide +kernel
theorem rTo_ok (w0 : World) (g : (Int) × (List ((Int) × (Int)))) (g_v : Value) (hg_v : Ro w0 g_v g.2) (h : Int) (hh : 0 ≤ h ∧ h < 2 * (g.2.length : Int)) (hlen : g.2.length ≤ 1000000) :
    Calls Try.prog 80 #[Value.agg (List.toArray [Value.int .i64 g.1, g_v]), Value.int .i64 h] w0 (fun ee w => ee = .returned (Value.int .i64 (toS g h)) ∧ Bel w0.heap.size w0 w) := by
 refine calls_of_run Try.func80 rfl (Nat.le_of_ble_eq_true rfl) ?_
 have hbase := Base.start w0
 have r_g_v := hg_v.sl
 obtain ⟨hh1, hh2⟩ := hh
 refine run_seq (run_region rfl (l_op rfl ?_))
 refine o_box c0 (is 1) (1, 0) rfl rfl ?_
 intro g4 w1 b3 ch2 bx5
 replace bx5 : Bx g4 (is 1) w1 b3 [Value.int .i64 g.1, g_v] := bx5
 refine lv (Value.int .i64 0) rfl (e_assign rfl) ?_
 refine l_nil (run_seq (run_region rfl ?_))
 refine lv (Value.pointer (some ⟨b3, 1, none⟩)) rfl (e_fieldAddr Try.underlying24 rfl rfl rfl rfl) ?_
 refine lv (g_v) rfl (e_load_bx1 tp22_i rfl bx5 rfl) ?_
 refine lv (Value.int .i64 h) rfl (e_move rfl) ?_
 refine lv (Value.int .i64 (h / 2)) rfl (e_quo (m := h) (n := 2) rfl rfl (by omega) (by omega) (by omega)) ?_
 refine lv (Value.int .i64 h) rfl (e_move rfl) ?_
 refine lv (Value.int .i64 (h % 2)) rfl (e_rem (m := h) (n := 2) rfl rfl (by omega) (by omega)) ?_
 refine lv (Value.int .i64 (1 - (h % 2))) rfl (e_sub (m := 1) (n := h % 2) rfl rfl (by omega)) ?_
 replace r_g_v := r_g_v.chg ch2 (not_no _)
 refine lv (Value.pointer (some (eAddr g_v 2 (Int.toNat (h / 2))))) rfl (e_indexAddr (α := (Int) × (Int)) (xs := g.2) (v := g_v) (i := h / 2) Try.underlying22 rfl rfl r_g_v rfl (by omega) (by omega)) ?_
 refine lv (Value.pointer (some ⟨(eAddr g_v 2 (Int.toNat (h / 2))).block, (eAddr g_v 2 (Int.toNat (h / 2))).off + (Int.toNat (1 - (h % 2))), none⟩)) rfl (e_indexAddr_el (i := 1 - (h % 2)) Try.underlying60 rfl rfl rfl (by omega) (by omega) (Nat.mul_one _)) ?_
 refine lv (Value.int .i64 (pI (gI g.2 (h / 2)) (1 - (h % 2)))) rfl (e_load_elF (α := (Int) × (Int)) (xs := g.2) (v := g_v) (i := h / 2) tp3_i rfl r_g_v (by omega) (by omega) (show Int.toNat (1 - (h % 2)) < 2 by omega) (pI_cells _ (by omega) (by omega))) ?_
 refine lv (Value.int .i64 (pI (gI g.2 (h / 2)) (1 - (h % 2)))) rfl (e_assign rfl) ?_
 refine l_nil ?_
 refine run_ret (vs := [Value.int .i64 (pI (gI g.2 (h / 2)) (1 - (h % 2)))]) Try.func80 (.tmp rfl .nil) ?_
 have e0 : (pI (gI g.2 (h / 2)) (1 - (h % 2)) : Int) = (toS g h) := by
   rfl
 replace hbase := hbase.chg ch2 (not_no _)
 exact ⟨(congrArg (a₁ := pI (gI g.2 (h / 2)) (1 - (h % 2))) (fun (z0 : Int) => Ending.returned (Value.int .i64 z0)) e0), hbase.below⟩
theorem rTwin_ok (w0 : World) (h : Int) (hh : 0 ≤ h ∧ h < 1000000) :
    Calls Try.prog 27 #[Value.int .i64 h] w0 (fun ee w => ee = .returned (Value.int .i64 (twin h)) ∧ Bel w0.heap.size w0 w) := by
 refine calls_of_run Try.func27 rfl (Nat.le_of_ble_eq_true rfl) ?_
 have hbase := Base.start w0
 obtain ⟨hh1, hh2⟩ := hh
 refine run_seq (run_region rfl ?_)
 refine lv (Value.int .i64 0) rfl (e_assign rfl) ?_
 refine l_nil (run_seq (run_seq (run_region rfl ?_)))
 refine lv (Value.int .i64 h) rfl (e_move rfl) ?_
 refine lv (Value.int .i64 (h % 2)) rfl (e_rem (m := h) (n := 2) rfl rfl (by omega) (by omega)) ?_
 refine lv (Value.bool (decide ((h % 2) = 0))) rfl (e_eql (m := h % 2) (n := 0) rfl rfl) ?_
 refine l_nil ?_
 by_cases p1 : (h % 2) = 0
 ·
  refine run_cond_t rfl (decide_eq_true p1) ?_
  refine run_seq (run_region rfl ?_)
  refine lv (Value.int .i64 h) rfl (e_move rfl) ?_
  refine lv (Value.int .i64 (h + 1)) rfl (e_add (m := h) (n := 1) rfl rfl (by omega)) ?_
  refine lv (Value.int .i64 (h + 1)) rfl (e_assign rfl) ?_
  refine l_nil ?_
  refine run_ret (vs := [Value.int .i64 (h + 1)]) Try.func27 (.tmp rfl .nil) ?_
  have e0 : (h + 1 : Int) = (twin h) := by
    first
      | (rw [twin, if_pos (by assumption)]; done)
      | (rw [twin, if_neg (by assumption)]; done)
  exact ⟨(congrArg (a₁ := h + 1) (fun (z0 : Int) => Ending.returned (Value.int .i64 z0)) e0), hbase.below⟩
 refine run_cond_f rfl (decide_eq_false p1) ?_
 refine run_skip ?_
 refine run_seq (run_region rfl ?_)
 refine lv (Value.int .i64 h) rfl (e_move rfl) ?_
 refine lv (Value.int .i64 (h - 1)) rfl (e_sub (m := h) (n := 1) rfl rfl (by omega)) ?_
 refine lv (Value.int .i64 (h - 1)) rfl (e_assign rfl) ?_
 refine l_nil ?_
 refine run_ret (vs := [Value.int .i64 (h - 1)]) Try.func27 (.tmp rfl .nil) ?_
 have e0 : (h - 1 : Int) = (twin h) := by
   first
     | (rw [twin, if_pos (by assumption)]; done)
     | (rw [twin, if_neg (by assumption)]; done)
 exact ⟨(congrArg (a₁ := h - 1) (fun (z0 : Int) => Ending.returned (Value.int .i64 z0)) e0), hbase.below⟩
theorem blank_ok (w0 : World) (n : Int) (x : Int) (hn : 0 ≤ n ∧ n ≤ 1000000) :
    Calls Try.prog 78 #[Value.int .i64 n, Value.int .i64 x] w0 (fun ee w => ∃ xx : Cmap × Value, ee = .returned ((fun ⟨δ, rv0⟩ => rv0) xx) ∧ (fun (⟨δ, rv0⟩ : Cmap × Value) (w : World) => Fresh w0 δ w ∧ Ow δ (is 1) (is 1) w rv0 (List.replicate n.toNat x)) xx w) := by
 refine calls_of_run Try.func78 rfl (Nat.le_of_ble_eq_true rfl) ?_
 have hbase := Base.start w0
 obtain ⟨hn1, hn2⟩ := hn
 have hrep : ((List.replicate n.toNat (0 : Int)).length : Int) = n := by simp; omega
 refine run_seq (run_region rfl ?_)
 refine lv (Value.slice none 0 0) rfl (e_assign rfl) ?_
 refine l_nil (run_seq (run_region rfl ?_))
 refine lv (Value.int .i64 n) rfl (e_move rfl) ?_
 refine l_op rfl ?_
 refine o_make (α := Int) (l := n) (cp := n) c0 (is 1) (is 1) (1, 0) rfl (0 : Int) Try.underlying27 tp3_i rfl rfl rfl (by omega) (by omega) (by omega) (by omega) ?_
 intro g1 w2 v3 ch4 o5 _
 refine lv (v3) rfl (e_assign rfl) ?_
 refine l_nil (run_seq (run_seq (run_region rfl ?_)))
 refine lv (Value.int .i64 0) rfl (e_assign rfl) ?_
 refine l_nil ?_
 refine run_block ?_
 refine run_loop (σ := Nat × (List Int) × Cmap) (fun ⟨i, l, gq⟩ f w => Base w0 gq w ∧ f 0 = Value.int .i64 n ∧ f 1 = Value.int .i64 x ∧ f 5 = v3 ∧ f 6 = Value.int .i64 (i : Int) ∧ Ow gq (is 1) (is 1) w v3 l ∧ (i : Int) ≤ (n : Int) ∧ (l = List.replicate i x ++ List.replicate (n.toNat - i) 0 ∧ (i : Int) ≤ n)) (fun ⟨i, l, gq⟩ => Int.toNat ((n : Int) - (i : Int))) (0, (List.replicate (Int.toNat n) (0 : Int)), g1) ?_ ?_
 replace hbase := hbase.chg ch4 (not_no _)
 · exact ⟨hbase, rfl, rfl, rfl, rfl, o5, by omega, by exact ⟨by simp, by omega⟩⟩
 clear o5 hbase
 rintro ⟨i, l, g8⟩ f6 w7 ⟨hbase, zs0, zs1, zs5, zs6, o5, hle_i, hinv⟩ back3
 have hll : l.length = n.toNat := by rw [hinv.1]; simp; omega
 refine run_seq (run_seq (run_region rfl ?_))
 refine lv (Value.int .i64 (i : Int)) rfl (e_move (by exact zs6)) ?_
 refine lv (Value.int .i64 n) rfl (e_move (by exact zs0)) ?_
 refine lv (Value.bool (decide ((i : Int) < n))) rfl (e_lss (m := (i : Int)) (n := n) rfl rfl) ?_
 refine l_nil ?_
 by_cases p3 : (i : Int) < n
 ·
  refine run_cond_t rfl (decide_eq_true p3) ?_
  refine run_skip ?_
  refine run_seq ?_
  refine run_block ?_
  refine run_region rfl ?_
  refine lv (v3) rfl (e_move (by exact zs5)) ?_
  refine lv (Value.int .i64 (i : Int)) rfl (e_move (by exact zs6)) ?_
  refine lv (Value.int .i64 x) rfl (e_move (by exact zs1)) ?_
  refine lv (Value.pointer (some (eAddr v3 1 (Int.toNat (i : Int))))) rfl (e_indexAddr (α := Int) (xs := l) (v := v3) (i := (i : Int)) Try.underlying27 rfl rfl o5.flat rfl (by omega) (by omega)) ?_
  refine l_op rfl ?_
  refine o_store_el (i := (i : Int)) x tp3_i rfl rfl o5 (by omega) (by omega) rfl ?_
  intro w9 ch10 bx11
  clear o5
  refine l_nil ?_
  refine run_inBlock ?_
  refine run_region rfl ?_
  refine lv (Value.int .i64 (i : Int)) rfl (e_move (by exact zs6)) ?_
  refine lv (Value.int .i64 ((i : Int) + 1)) rfl (e_add (m := (i : Int)) (n := 1) rfl rfl (by omega)) ?_
  refine lv (Value.int .i64 ((i : Int) + 1)) rfl (e_assign rfl) ?_
  refine l_nil ?_
  replace hbase := hbase.chg ch10 (is_ne rfl)
  refine back3 (i + 1, (List.set l (Int.toNat (i : Int)) x), g8) _ _ ⟨hbase, (by exact zs0), (by exact zs1), (by exact zs5), rfl, bx11, by omega, ?_⟩ ?_
  · show (List.set l (Int.toNat (i : Int)) x) = List.replicate (i + 1) x ++ List.replicate (n.toNat - (i + 1)) 0 ∧ ((i + 1) : Int) ≤ n
    have hk1 : i < n.toNat := by simp at *; omega
    refine ⟨by rw [hinv.1]; exact fill_next hk1, by omega⟩
  · show Int.toNat ((n : Int) - ((i + 1) : Int)) < Int.toNat ((n : Int) - (i : Int))
    omega
 refine run_cond_f rfl (decide_eq_false p3) ?_
 refine run_exit rfl ?_
 refine run_seq (run_region rfl ?_)
 refine lv (v3) rfl (e_move (by exact zs5)) ?_
 refine lv (v3) rfl (e_assign rfl) ?_
 refine l_nil ?_
 refine run_ret (vs := [v3]) Try.func78 (.tmp rfl .nil) ?_
 have e0 : (l : List Int) = (List.replicate n.toNat x) := by
   obtain ⟨h1, h2⟩ := hinv
   have hk : i = n.toNat := by simp at *; omega
   subst hk; rw [h1]; simp
 exact ⟨(fin w0 g8 (fun n => if n = 1 then 1 else 0), v3), (congrArg (a₁ := l) (fun (z0 : List Int) => Ending.returned (v3)) e0), hbase.fresh _, (e0 ▸ (o5.glue (γ := c0) (ren := (fun n => if n = 1 then 1 else 0)) (k := 1) hbase.col rfl rfl))⟩
theorem rOuts_ok (w0 : World) (g : (Int) × (List ((Int) × (Int)))) (g_v : Value) (hg_v : Ro w0 g_v g.2) (hmay : MayP g) :
    Calls Try.prog 79 #[Value.agg (List.toArray [Value.int .i64 g.1, g_v])] w0 (fun ee w => ∃ xx : Cmap × Value, ee = .returned ((fun ⟨δ, rv0⟩ => rv0) xx) ∧ (fun (⟨δ, rv0⟩ : Cmap × Value) (w : World) => Fresh w0 δ w ∧ Nst δ 1 w rv0 (firstS g)) xx w) := by
 refine calls_of_run Try.func79 rfl (Nat.le_of_ble_eq_true rfl) ?_
 have hbase := Base.start w0
 have r_g_v := hg_v.sl
 have hm0 := hmay
 obtain ⟨hm1, hm2, hm3, hm4⟩ := hm0
 refine run_seq (run_region rfl (l_op rfl ?_))
 refine o_box c0 (is 1) (1, 0) rfl rfl ?_
 intro g4 w1 b3 ch2 bx5
 replace bx5 : Bx g4 (is 1) w1 b3 [Value.int .i64 g.1, g_v] := bx5
 refine lv (Value.slice none 0 0) rfl (e_assign rfl) ?_
 refine l_nil (run_seq (run_region rfl ?_))
 refine lv (Value.pointer (some ⟨b3, 0, none⟩)) rfl (e_fieldAddr Try.underlying24 rfl rfl rfl rfl) ?_
 refine lv (Value.int .i64 g.1) rfl (e_load_bx1 tp3_i rfl bx5 rfl) ?_
 refine l_op rfl ?_
 refine o_make_nst (α := Int) (n := g.1) (cp := g.1) g4 2 Try.underlying25 tp27_i rfl rfl rfl (by omega) (by omega) (by omega) (by omega) ?_
 intro g6 w7 v8 ch9 o10
 refine lv (v8) rfl (e_assign rfl) ?_
 refine l_nil (run_seq (run_seq (run_region rfl ?_)))
 refine lv (Value.int .i64 0) rfl (e_assign rfl) ?_
 refine l_nil ?_
 refine run_block ?_
 refine run_loop (σ := Nat × (List (List Int)) × Cmap) (fun ⟨h, O, gq⟩ f w => Base w0 gq w ∧ f 1 = Value.pointer (some ⟨b3, 0, none⟩) ∧ f 3 = v8 ∧ f 4 = Value.int .i64 (h : Int) ∧ Sl gq (is 0) w g_v g.2 ∧ Bx gq (is 1) w b3 [Value.int .i64 g.1, g_v] ∧ Nst gq 2 w v8 O ∧ (h : Int) ≤ (2 * (List.length g.2 : Int) : Int) ∧ (OutsInv O g h)) (fun ⟨h, O, gq⟩ => Int.toNat ((2 * (List.length g.2 : Int) : Int) - (h : Int))) (0, (List.replicate (Int.toNat g.1) []), g6) ?_ ?_
 replace hbase := hbase.chg ch2 (not_no _)
 replace hbase := hbase.chg ch9 (not_no _)
 replace r_g_v := (r_g_v.chg ch2 (not_no _)).chg ch9 (not_no _)
 replace bx5 := bx5.chg ch9 (not_no _)
 · exact ⟨hbase, rfl, rfl, rfl, r_g_v, bx5, o10, by omega, by exact OutsInv.start hm1⟩
 clear r_g_v bx5 o10 hbase
 rintro ⟨h, O, g13⟩ f11 w12 ⟨hbase, zs1, zs3, zs4, r_g_v, bx5, o10, hle_h, hov⟩ back3
 have hol := hov.len
 refine run_seq (run_seq (run_region rfl ?_))
 refine lv (Value.int .i64 (h : Int)) rfl (e_move (by exact zs4)) ?_
 refine lv (Value.pointer (some ⟨b3, 1, none⟩)) rfl (e_fieldAddr Try.underlying24 rfl rfl (by exact zs1) rfl) ?_
 refine lv (g_v) rfl (e_load_bx1 tp22_i rfl bx5 rfl) ?_
 have len14 := (r_g_v).small
 refine lv (Value.int .i64 (List.length g.2 : Int)) rfl (e_len Try.underlying22 rfl r_g_v) ?_
 refine lv (Value.int .i64 (2 * (List.length g.2 : Int))) rfl (e_mul (m := 2) (n := (List.length g.2 : Int)) rfl rfl (by omega)) ?_
 refine lv (Value.bool (decide ((h : Int) < (2 * (List.length g.2 : Int))))) rfl (e_lss (m := (h : Int)) (n := 2 * (List.length g.2 : Int)) rfl rfl) ?_
 refine l_nil ?_
 by_cases p3 : (h : Int) < (2 * (List.length g.2 : Int))
 ·
  refine run_cond_t rfl (decide_eq_true p3) ?_
  obtain ⟨hf1, hf2⟩ := fromS_in hmay (h := (h : Int)) (by omega) (by omega)
  have hbd := hov.bd hf1 hf2
  refine run_skip ?_
  refine run_seq ?_
  refine run_block ?_
  refine region_midh (σ := Cmap) (fun gq f w => Base w0 gq w ∧ f 1 = Value.pointer (some ⟨b3, 0, none⟩) ∧ f 3 = v8 ∧ f 4 = Value.int .i64 (h : Int) ∧ Sl gq (is 0) w g_v g.2 ∧ Bx gq (is 1) w b3 [Value.int .i64 g.1, g_v] ∧ Nst gq 2 w v8 (List.set O (Int.toNat (fromS g (h : Int))) (gI O (fromS g (h : Int)) ++ [(h : Int)]))) g13 (inl [2]) mixed_i ?_ ?_
  ·
   intro mid
   intro w16 ch15
   refine h_take (v := v8) 0 rfl (by kernel_rfl) (by kernel_rfl) rfl (Chg.refl _ _ _) (fun w' hw' => e_move (by exact zs3)) ?_
   replace bx5 := bx5.chg ch15 (not_no _)
   refine h_take (v := Value.agg (List.toArray [Value.int .i64 g.1, g_v])) 1 rfl (by kernel_rfl) (by kernel_rfl) rfl (Chg.refl _ _ _) (fun w' hw' => e_load_bxN (ds := [Value.int .i64 g.1, g_v]) tp24_i (by exact zs1) (bx5.chg hw' (is_nl rfl)) rfl rfl) ?_
   refine h_take (v := Value.int .i64 (h : Int)) 2 rfl (by kernel_rfl) (by kernel_rfl) rfl (Chg.refl _ _ _) (fun w' hw' => e_move (by exact zs4)) ?_
   refine h_take (v := v8) 4 rfl (by kernel_rfl) (by kernel_rfl) rfl (Chg.refl _ _ _) (fun w' hw' => e_move (by exact zs3)) ?_
   refine h_take (v := Value.agg (List.toArray [Value.int .i64 g.1, g_v])) 5 rfl (by kernel_rfl) (by kernel_rfl) rfl (Chg.refl _ _ _) (fun w' hw' => e_load_bxN (ds := [Value.int .i64 g.1, g_v]) tp24_i (by exact zs1) (bx5.chg hw' (is_nl rfl)) rfl rfl) ?_
   refine h_take (v := Value.int .i64 (h : Int)) 6 rfl (by kernel_rfl) (by kernel_rfl) rfl (Chg.refl _ _ _) (fun w' hw' => e_move (by exact zs4)) ?_
   refine h_take (v := Value.int .i64 (h : Int)) 10 rfl (by kernel_rfl) (by kernel_rfl) rfl (Chg.refl _ _ _) (fun w' hw' => e_move (by exact zs4)) ?_
   refine h_many 3 [11] (by kernel_rfl) ⟨h_of 3 rfl (by kernel_rfl) rfl ?_, h_of 11 rfl (by kernel_rfl) rfl ?_, trivial⟩
   ·
    replace r_g_v := r_g_v.chg ch15 (not_no _)
    refine o_call (v := Value.int .i64 (fromS g (h : Int))) (e_call (vals := [Value.agg (List.toArray [Value.int .i64 g.1, g_v]), Value.int .i64 (h : Int)]) Try.func52 bd52_i nm52_i rfl) (From_ok w16 g g_v (r_g_v).ro (h : Int) (by omega) (by omega)) ?_
    intro w17 hb18
    replace hb18 := chg_below hb18 g13
    have hs19 : Chg (inl [2]) _ _ _ _ := hb18.n
    refine ⟨hs19.same, ?_⟩
    refine h_many 7 [11] (by kernel_rfl) ⟨h_of 7 rfl (by kernel_rfl) rfl ?_, h_of 11 rfl (by kernel_rfl) rfl ?_, trivial⟩
    ·
     refine o_call (v := Value.int .i64 (fromS g (h : Int))) (e_call (vals := [Value.agg (List.toArray [Value.int .i64 g.1, g_v]), Value.int .i64 (h : Int)]) Try.func52 bd52_i nm52_i rfl) (From_ok w17 g g_v ((r_g_v.chg hs19 (is_nl rfl))).ro (h : Int) (by omega) (by omega)) ?_
     intro w20 hb21
     replace hb21 := chg_below hb21 g13
     have hs22 := hs19.seq (hb21.n)
     refine ⟨hs22.same, ?_⟩
     refine h_many 8 [11] (by kernel_rfl) ⟨h_of 8 rfl (by kernel_rfl) rfl ?_, h_of 11 rfl (by kernel_rfl) rfl ?_, trivial⟩
     ·
      have C23 : Chg (inl []) _ _ _ _ := (ch15.n).seq ((hb18.n).seq (hb21.n))
      replace o10 := o10.chg C23 (is_nl rfl)
      refine o_of_val (v := Value.pointer (some (eAddr v8 1 (Int.toNat (fromS g (h : Int)))))) (e_indexAddr (α := List Int) (xs := O) (v := v8) (i := fromS g (h : Int)) Try.underlying25 rfl rfl o10.sl rfl (by omega) (by omega)) ?_
      refine ⟨hs22.same, ?_⟩
      refine h_many 9 [11] (by kernel_rfl) ⟨h_of 9 rfl (by kernel_rfl) rfl ?_, h_of 11 rfl (by kernel_rfl) rfl ?_, trivial⟩
      ·
       obtain ⟨v24, cel25, r26⟩ := nst_row (r := fromS g (h : Int)) o10 (by omega) (by omega)
       refine o_of_val (v := v24) (e_load1 tp27_i rfl cel25) ?_
       refine ⟨hs22.same, ?_⟩
       refine h_one 11 rfl (by kernel_rfl) rfl ?_
       refine o_buildSlice (α := Int) g13 (is 3) (is 3) (3, 0) rfl [(h : Int)] Try.underlying27 tp3_i (by decide) (by decide) (vs := [(0, Value.int .i64 (h : Int))]) rfl rfl (.cons rfl .nil) ?_
       intro g27 w28 v29 ch30 o31
       have hs32 := hs22.seq (ch30.n)
       refine ⟨hs32.same, ?_⟩
       refine h_one 12 rfl (by kernel_rfl) rfl ?_
       replace o10 := o10.chg ch30 (not_no _)
       replace r26 := r26.chg ch30 (not_no _) (not_no _)
       refine o_append (α := Int) (xs := (gI O (fromS g (h : Int)))) (ys := ([(h : Int)])) g27 (J := row 2 (Int.toNat (fromS g (h : Int)) + 1)) (S := row 2 (Int.toNat (fromS g (h : Int)) + 1)) (2, Int.toNat (fromS g (h : Int)) + 1) rfl Try.underlying27 tp3_i (by decide) rfl rfl rfl r26 o31.flat (by decide) (by first | omega | (simp; done) | (simp; omega)) ?_
       intro g33 w34 v35 ch36 o37
       have o38 := o10.rowchg ch36
       clear o10 cel25 r26
       have hs39 := hs32.seq (ch36.lr rfl)
       refine ⟨hs39.same, ?_⟩
       refine h_one 13 rfl (by kernel_rfl) rfl ?_
       obtain ⟨us40, hl41, r42⟩ := o38.vc
       try simp only [List.length_set, List.length_append, List.length_cons, List.length_nil] at hl41
       refine o_of_val (v := Value.pointer (some (eAddr v8 1 (Int.toNat (fromS g (h : Int)))))) (e_indexAddr (α := Vc) (xs := us40) (v := v8) (i := fromS g (h : Int)) Try.underlying25 rfl rfl r42 rfl (by omega) (by omega)) ?_
       refine ⟨hs39.same, ?_⟩
       refine h_one 14 rfl (by kernel_rfl) rfl ?_
       refine o_store_row (r := fromS g (h : Int)) tp27_i rfl rfl o38 o37 (by omega) (by omega) ?_
       intro w46 ch47 o48
       clear o38 o37
       have hs49 := hs39.seq (ch47.l rfl)
       refine ⟨hs49.same, ?_⟩
       refine h_nil (by kernel_rfl) ?_
       have C50 : Chg (inl [2]) _ _ _ _ := (ch15.n).seq ((hb18.n).seq ((hb21.n).seq ((ch30.n).seq ((ch36.lr rfl).seq (ch47.l rfl)))))
       replace hbase := hbase.chg C50 (is_nl rfl)
       exact mid (g33) _ _ ⟨hbase, (by exact zs1), (by exact zs3), (by exact zs4), (r_g_v.chg hs49 (is_nl rfl)), (bx5.chg hs49 (is_nl rfl)), o48⟩
      ·
       refine o_buildSlice (α := Int) g13 (is 3) (is 3) (3, 0) rfl [(h : Int)] Try.underlying27 tp3_i (by decide) (by decide) (vs := [(0, Value.int .i64 (h : Int))]) rfl rfl (.cons rfl .nil) ?_
       intro g51 w52 v53 ch54 o55
       have hs56 := hs22.seq (ch54.n)
       refine ⟨hs56.same, ?_⟩
       refine h_one 9 rfl (by kernel_rfl) rfl ?_
       replace o10 := o10.chg ch54 (not_no _)
       obtain ⟨v57, cel58, r59⟩ := nst_row (r := fromS g (h : Int)) o10 (by omega) (by omega)
       refine o_of_val (v := v57) (e_load1 tp27_i rfl cel58) ?_
       refine ⟨hs56.same, ?_⟩
       refine h_one 12 rfl (by kernel_rfl) rfl ?_
       refine o_append (α := Int) (xs := (gI O (fromS g (h : Int)))) (ys := ([(h : Int)])) g51 (J := row 2 (Int.toNat (fromS g (h : Int)) + 1)) (S := row 2 (Int.toNat (fromS g (h : Int)) + 1)) (2, Int.toNat (fromS g (h : Int)) + 1) rfl Try.underlying27 tp3_i (by decide) rfl rfl rfl r59 o55.flat (by decide) (by first | omega | (simp; done) | (simp; omega)) ?_
       intro g60 w61 v62 ch63 o64
       have o65 := o10.rowchg ch63
       clear o10 cel58 r59
       have hs66 := hs56.seq (ch63.lr rfl)
       refine ⟨hs66.same, ?_⟩
       refine h_one 13 rfl (by kernel_rfl) rfl ?_
       obtain ⟨us67, hl68, r69⟩ := o65.vc
       try simp only [List.length_set, List.length_append, List.length_cons, List.length_nil] at hl68
       refine o_of_val (v := Value.pointer (some (eAddr v8 1 (Int.toNat (fromS g (h : Int)))))) (e_indexAddr (α := Vc) (xs := us67) (v := v8) (i := fromS g (h : Int)) Try.underlying25 rfl rfl r69 rfl (by omega) (by omega)) ?_
       refine ⟨hs66.same, ?_⟩
       refine h_one 14 rfl (by kernel_rfl) rfl ?_
       refine o_store_row (r := fromS g (h : Int)) tp27_i rfl rfl o65 o64 (by omega) (by omega) ?_
       intro w73 ch74 o75
       clear o65 o64
       have hs76 := hs66.seq (ch74.l rfl)
       refine ⟨hs76.same, ?_⟩
       refine h_nil (by kernel_rfl) ?_
       have C77 : Chg (inl [2]) _ _ _ _ := (ch15.n).seq ((hb18.n).seq ((hb21.n).seq ((ch54.n).seq ((ch63.lr rfl).seq (ch74.l rfl)))))
       replace hbase := hbase.chg C77 (is_nl rfl)
       exact mid (g60) _ _ ⟨hbase, (by exact zs1), (by exact zs3), (by exact zs4), (r_g_v.chg hs76 (is_nl rfl)), (bx5.chg hs76 (is_nl rfl)), o75⟩
     ·
      refine o_buildSlice (α := Int) g13 (is 3) (is 3) (3, 0) rfl [(h : Int)] Try.underlying27 tp3_i (by decide) (by decide) (vs := [(0, Value.int .i64 (h : Int))]) rfl rfl (.cons rfl .nil) ?_
      intro g78 w79 v80 ch81 o82
      have hs83 := hs22.seq (ch81.n)
      refine ⟨hs83.same, ?_⟩
      refine h_one 8 rfl (by kernel_rfl) rfl ?_
      have C84 : Chg (inl []) _ _ _ _ := (ch15.n).seq ((hb18.n).seq ((hb21.n).seq (ch81.n)))
      replace o10 := o10.chg C84 (is_nl rfl)
      refine o_of_val (v := Value.pointer (some (eAddr v8 1 (Int.toNat (fromS g (h : Int)))))) (e_indexAddr (α := List Int) (xs := O) (v := v8) (i := fromS g (h : Int)) Try.underlying25 rfl rfl o10.sl rfl (by omega) (by omega)) ?_
      refine ⟨hs83.same, ?_⟩
      refine h_one 9 rfl (by kernel_rfl) rfl ?_
      obtain ⟨v85, cel86, r87⟩ := nst_row (r := fromS g (h : Int)) o10 (by omega) (by omega)
      refine o_of_val (v := v85) (e_load1 tp27_i rfl cel86) ?_
      refine ⟨hs83.same, ?_⟩
      refine h_one 12 rfl (by kernel_rfl) rfl ?_
      refine o_append (α := Int) (xs := (gI O (fromS g (h : Int)))) (ys := ([(h : Int)])) g78 (J := row 2 (Int.toNat (fromS g (h : Int)) + 1)) (S := row 2 (Int.toNat (fromS g (h : Int)) + 1)) (2, Int.toNat (fromS g (h : Int)) + 1) rfl Try.underlying27 tp3_i (by decide) rfl rfl rfl r87 o82.flat (by decide) (by first | omega | (simp; done) | (simp; omega)) ?_
      intro g88 w89 v90 ch91 o92
      have o93 := o10.rowchg ch91
      clear o10 cel86 r87
      have hs94 := hs83.seq (ch91.lr rfl)
      refine ⟨hs94.same, ?_⟩
      refine h_one 13 rfl (by kernel_rfl) rfl ?_
      obtain ⟨us95, hl96, r97⟩ := o93.vc
      try simp only [List.length_set, List.length_append, List.length_cons, List.length_nil] at hl96
      refine o_of_val (v := Value.pointer (some (eAddr v8 1 (Int.toNat (fromS g (h : Int)))))) (e_indexAddr (α := Vc) (xs := us95) (v := v8) (i := fromS g (h : Int)) Try.underlying25 rfl rfl r97 rfl (by omega) (by omega)) ?_
      refine ⟨hs94.same, ?_⟩
      refine h_one 14 rfl (by kernel_rfl) rfl ?_
      refine o_store_row (r := fromS g (h : Int)) tp27_i rfl rfl o93 o92 (by omega) (by omega) ?_
      intro w101 ch102 o103
      clear o93 o92
      have hs104 := hs94.seq (ch102.l rfl)
      refine ⟨hs104.same, ?_⟩
      refine h_nil (by kernel_rfl) ?_
      have C105 : Chg (inl [2]) _ _ _ _ := (ch15.n).seq ((hb18.n).seq ((hb21.n).seq ((ch81.n).seq ((ch91.lr rfl).seq (ch102.l rfl)))))
      replace hbase := hbase.chg C105 (is_nl rfl)
      exact mid (g88) _ _ ⟨hbase, (by exact zs1), (by exact zs3), (by exact zs4), (r_g_v.chg hs104 (is_nl rfl)), (bx5.chg hs104 (is_nl rfl)), o103⟩
    ·
     refine o_buildSlice (α := Int) g13 (is 3) (is 3) (3, 0) rfl [(h : Int)] Try.underlying27 tp3_i (by decide) (by decide) (vs := [(0, Value.int .i64 (h : Int))]) rfl rfl (.cons rfl .nil) ?_
     intro g106 w107 v108 ch109 o110
     have hs111 := hs19.seq (ch109.n)
     refine ⟨hs111.same, ?_⟩
     refine h_one 7 rfl (by kernel_rfl) rfl ?_
     refine o_call (v := Value.int .i64 (fromS g (h : Int))) (e_call (vals := [Value.agg (List.toArray [Value.int .i64 g.1, g_v]), Value.int .i64 (h : Int)]) Try.func52 bd52_i nm52_i rfl) (From_ok w107 g g_v ((r_g_v.chg hs111 (is_nl rfl))).ro (h : Int) (by omega) (by omega)) ?_
     intro w112 hb113
     replace hb113 := chg_below hb113 g106
     have hs114 := hs111.seq (hb113.n)
     refine ⟨hs114.same, ?_⟩
     refine h_one 8 rfl (by kernel_rfl) rfl ?_
     have C115 : Chg (inl []) _ _ _ _ := (ch15.n).seq ((hb18.n).seq ((ch109.n).seq (hb113.n)))
     replace o10 := o10.chg C115 (is_nl rfl)
     refine o_of_val (v := Value.pointer (some (eAddr v8 1 (Int.toNat (fromS g (h : Int)))))) (e_indexAddr (α := List Int) (xs := O) (v := v8) (i := fromS g (h : Int)) Try.underlying25 rfl rfl o10.sl rfl (by omega) (by omega)) ?_
     refine ⟨hs114.same, ?_⟩
     refine h_one 9 rfl (by kernel_rfl) rfl ?_
     obtain ⟨v116, cel117, r118⟩ := nst_row (r := fromS g (h : Int)) o10 (by omega) (by omega)
     refine o_of_val (v := v116) (e_load1 tp27_i rfl cel117) ?_
     refine ⟨hs114.same, ?_⟩
     refine h_one 12 rfl (by kernel_rfl) rfl ?_
     replace o110 := o110.chg hb113 (not_no _) (not_no _)
     refine o_append (α := Int) (xs := (gI O (fromS g (h : Int)))) (ys := ([(h : Int)])) g106 (J := row 2 (Int.toNat (fromS g (h : Int)) + 1)) (S := row 2 (Int.toNat (fromS g (h : Int)) + 1)) (2, Int.toNat (fromS g (h : Int)) + 1) rfl Try.underlying27 tp3_i (by decide) rfl rfl rfl r118 o110.flat (by decide) (by first | omega | (simp; done) | (simp; omega)) ?_
     intro g119 w120 v121 ch122 o123
     have o124 := o10.rowchg ch122
     clear o10 cel117 r118
     have hs125 := hs114.seq (ch122.lr rfl)
     refine ⟨hs125.same, ?_⟩
     refine h_one 13 rfl (by kernel_rfl) rfl ?_
     obtain ⟨us126, hl127, r128⟩ := o124.vc
     try simp only [List.length_set, List.length_append, List.length_cons, List.length_nil] at hl127
     refine o_of_val (v := Value.pointer (some (eAddr v8 1 (Int.toNat (fromS g (h : Int)))))) (e_indexAddr (α := Vc) (xs := us126) (v := v8) (i := fromS g (h : Int)) Try.underlying25 rfl rfl r128 rfl (by omega) (by omega)) ?_
     refine ⟨hs125.same, ?_⟩
     refine h_one 14 rfl (by kernel_rfl) rfl ?_
     refine o_store_row (r := fromS g (h : Int)) tp27_i rfl rfl o124 o123 (by omega) (by omega) ?_
     intro w132 ch133 o134
     clear o124 o123
     have hs135 := hs125.seq (ch133.l rfl)
     refine ⟨hs135.same, ?_⟩
     refine h_nil (by kernel_rfl) ?_
     have C136 : Chg (inl [2]) _ _ _ _ := (ch15.n).seq ((hb18.n).seq ((ch109.n).seq ((hb113.n).seq ((ch122.lr rfl).seq (ch133.l rfl)))))
     replace hbase := hbase.chg C136 (is_nl rfl)
     exact mid (g119) _ _ ⟨hbase, (by exact zs1), (by exact zs3), (by exact zs4), (r_g_v.chg hs135 (is_nl rfl)), (bx5.chg hs135 (is_nl rfl)), o134⟩
   ·
    refine o_buildSlice (α := Int) g13 (is 3) (is 3) (3, 0) rfl [(h : Int)] Try.underlying27 tp3_i (by decide) (by decide) (vs := [(0, Value.int .i64 (h : Int))]) rfl rfl (.cons rfl .nil) ?_
    intro g137 w138 v139 ch140 o141
    have hs142 : Chg (inl [2]) _ _ _ _ := ch140.n
    refine ⟨hs142.same, ?_⟩
    refine h_one 3 rfl (by kernel_rfl) rfl ?_
    replace r_g_v := r_g_v.chg ch15 (not_no _)
    refine o_call (v := Value.int .i64 (fromS g (h : Int))) (e_call (vals := [Value.agg (List.toArray [Value.int .i64 g.1, g_v]), Value.int .i64 (h : Int)]) Try.func52 bd52_i nm52_i rfl) (From_ok w138 g g_v ((r_g_v.chg hs142 (is_nl rfl))).ro (h : Int) (by omega) (by omega)) ?_
    intro w143 hb144
    replace hb144 := chg_below hb144 g137
    have hs145 := hs142.seq (hb144.n)
    refine ⟨hs145.same, ?_⟩
    refine h_one 7 rfl (by kernel_rfl) rfl ?_
    refine o_call (v := Value.int .i64 (fromS g (h : Int))) (e_call (vals := [Value.agg (List.toArray [Value.int .i64 g.1, g_v]), Value.int .i64 (h : Int)]) Try.func52 bd52_i nm52_i rfl) (From_ok w143 g g_v ((r_g_v.chg hs145 (is_nl rfl))).ro (h : Int) (by omega) (by omega)) ?_
    intro w146 hb147
    replace hb147 := chg_below hb147 g137
    have hs148 := hs145.seq (hb147.n)
    refine ⟨hs148.same, ?_⟩
    refine h_one 8 rfl (by kernel_rfl) rfl ?_
    have C149 : Chg (inl []) _ _ _ _ := (ch15.n).seq ((ch140.n).seq ((hb144.n).seq (hb147.n)))
    replace o10 := o10.chg C149 (is_nl rfl)
    refine o_of_val (v := Value.pointer (some (eAddr v8 1 (Int.toNat (fromS g (h : Int)))))) (e_indexAddr (α := List Int) (xs := O) (v := v8) (i := fromS g (h : Int)) Try.underlying25 rfl rfl o10.sl rfl (by omega) (by omega)) ?_
    refine ⟨hs148.same, ?_⟩
    refine h_one 9 rfl (by kernel_rfl) rfl ?_
    obtain ⟨v150, cel151, r152⟩ := nst_row (r := fromS g (h : Int)) o10 (by omega) (by omega)
    refine o_of_val (v := v150) (e_load1 tp27_i rfl cel151) ?_
    refine ⟨hs148.same, ?_⟩
    refine h_one 12 rfl (by kernel_rfl) rfl ?_
    replace o141 := (o141.chg hb144 (not_no _) (not_no _)).chg hb147 (not_no _) (not_no _)
    refine o_append (α := Int) (xs := (gI O (fromS g (h : Int)))) (ys := ([(h : Int)])) g137 (J := row 2 (Int.toNat (fromS g (h : Int)) + 1)) (S := row 2 (Int.toNat (fromS g (h : Int)) + 1)) (2, Int.toNat (fromS g (h : Int)) + 1) rfl Try.underlying27 tp3_i (by decide) rfl rfl rfl r152 o141.flat (by decide) (by first | omega | (simp; done) | (simp; omega)) ?_
    intro g153 w154 v155 ch156 o157
    have o158 := o10.rowchg ch156
    clear o10 cel151 r152
    have hs159 := hs148.seq (ch156.lr rfl)
    refine ⟨hs159.same, ?_⟩
    refine h_one 13 rfl (by kernel_rfl) rfl ?_
    obtain ⟨us160, hl161, r162⟩ := o158.vc
    try simp only [List.length_set, List.length_append, List.length_cons, List.length_nil] at hl161
    refine o_of_val (v := Value.pointer (some (eAddr v8 1 (Int.toNat (fromS g (h : Int)))))) (e_indexAddr (α := Vc) (xs := us160) (v := v8) (i := fromS g (h : Int)) Try.underlying25 rfl rfl r162 rfl (by omega) (by omega)) ?_
    refine ⟨hs159.same, ?_⟩
    refine h_one 14 rfl (by kernel_rfl) rfl ?_
    refine o_store_row (r := fromS g (h : Int)) tp27_i rfl rfl o158 o157 (by omega) (by omega) ?_
    intro w166 ch167 o168
    clear o158 o157
    have hs169 := hs159.seq (ch167.l rfl)
    refine ⟨hs169.same, ?_⟩
    refine h_nil (by kernel_rfl) ?_
    have C170 : Chg (inl [2]) _ _ _ _ := (ch15.n).seq ((ch140.n).seq ((hb144.n).seq ((hb147.n).seq ((ch156.lr rfl).seq (ch167.l rfl)))))
    replace hbase := hbase.chg C170 (is_nl rfl)
    exact mid (g153) _ _ ⟨hbase, (by exact zs1), (by exact zs3), (by exact zs4), (r_g_v.chg hs169 (is_nl rfl)), (bx5.chg hs169 (is_nl rfl)), o168⟩
  clear r_g_v bx5 o10 hbase
  rintro g173 f171 w172 ⟨hbase, zs1, zs3, zs4, r_g_v, bx5, o48⟩
  refine run_inBlock ?_
  refine run_region rfl ?_
  refine lv (Value.int .i64 (h : Int)) rfl (e_move (by exact zs4)) ?_
  refine lv (Value.int .i64 ((h : Int) + 1)) rfl (e_add (m := (h : Int)) (n := 1) rfl rfl (by omega)) ?_
  refine lv (Value.int .i64 ((h : Int) + 1)) rfl (e_assign rfl) ?_
  refine l_nil ?_
  refine back3 (h + 1, (List.set O (Int.toNat (fromS g (h : Int))) (gI O (fromS g (h : Int)) ++ [(h : Int)])), g173) _ _ ⟨hbase, (by exact zs1), (by exact zs3), rfl, r_g_v, bx5, o48, by omega, ?_⟩ ?_
  · show OutsInv (List.set O (Int.toNat (fromS g (h : Int))) (gI O (fromS g (h : Int)) ++ [(h : Int)])) g (h + 1)
    exact hov.next hf1 hf2
  · show Int.toNat ((2 * (List.length g.2 : Int) : Int) - ((h + 1) : Int)) < Int.toNat ((2 * (List.length g.2 : Int) : Int) - (h : Int))
    omega
 refine run_cond_f rfl (decide_eq_false p3) ?_
 refine run_exit rfl ?_
 refine run_seq ?_
 clear bx5
 refine run_region rfl ?_
 refine lv (v8) rfl (e_move (by exact zs3)) ?_
 refine lv (v8) rfl (e_assign rfl) ?_
 refine l_nil ?_
 refine run_ret (vs := [v8]) Try.func79 (.tmp rfl .nil) ?_
 have e0 : (O : List (List Int)) = (firstS g) := by
   exact hov.done (by omega)
 exact ⟨(fin w0 g13 (fun n => if n = 2 then 1 else 0), v8), (congrArg (a₁ := O) (fun (z0 : List (List Int)) => Ending.returned (v8)) e0), hbase.fresh _, (e0 ▸ (o10.glue (γ := c0) (ren := (fun n => if n = 2 then 1 else 0)) (k := 1) hbase.col rfl rfl))⟩
set_option maxHeartbeats 2000000 in
theorem rParts_ok (w0 : World) (g : (Int) × (List ((Int) × (Int)))) (g_v : Value) (hg_v : Ro w0 g_v g.2) (hmay : MayP g) :
    Calls Try.prog 31 #[Value.agg (List.toArray [Value.int .i64 g.1, g_v]), Value.slice none 0 0, Value.slice none 0 0] w0 (fun ee w => ∃ xx : Cmap × Value, ee = .returned ((fun ⟨δ, rv0⟩ => Value.tuple (List.toArray [rv0, Value.int .i64 ((partsR g).2.1)])) xx) ∧ (fun (⟨δ, rv0⟩ : Cmap × Value) (w : World) => Fresh w0 δ w ∧ Ow δ (is 1) (is 1) w rv0 ((partsR g).1)) xx w) := by
 refine calls_of_run Try.func31 rfl (Nat.le_of_ble_eq_true rfl) ?_
 have hbase := Base.start w0
 have r_g_v := hg_v.sl
 have hm0 := hmay
 obtain ⟨hm1, hm2, hm3, hm4⟩ := hm0
 have hfl := first_len g hm1
 refine run_seq (run_region rfl (l_op rfl ?_))
 refine o_box c0 (is 1) (1, 0) rfl rfl ?_
 intro g4 w1 b3 ch2 bx5
 replace bx5 : Bx g4 (is 1) w1 b3 [Value.int .i64 g.1, g_v] := bx5
 refine lv (Value.slice none 0 0) rfl (e_assign rfl) ?_
 refine lv (Value.int .i64 0) rfl (e_assign rfl) ?_
 refine l_nil (run_seq (run_region rfl ?_))
 refine lv (Value.pointer (some ⟨b3, 0, none⟩)) rfl (e_fieldAddr Try.underlying24 rfl rfl rfl rfl) ?_
 refine lv (Value.int .i64 g.1) rfl (e_load_bx1 tp3_i rfl bx5 rfl) ?_
 refine l_op rfl ?_
 refine o_callx (e_call (vals := [Value.int .i64 g.1, Value.int .i64 (-1)]) Try.func78 bd78_i nm78_i rfl) (blank_ok w1 g.1 (-1) (by omega)) ?_
 rintro ⟨d7, v9⟩ w6 ⟨fr8, o10⟩
 obtain ⟨g11, hg11⟩ : ∃ q, q = glue w1.heap.size g4 d7 (fun n => if n = 1 then 2 else 0) := ⟨_, rfl⟩
 have ch12 := chg_glue fr8.below g4 d7 (fun n => if n = 1 then 2 else 0)
 rw [← hg11] at ch12
 replace o10 := o10.glue (γ := g4) (ren := (fun n => if n = 1 then 2 else 0)) (k := 2) fr8.col rfl rfl
 rw [← hg11] at o10
 clear hg11
 refine lv (v9) rfl (e_assign rfl) ?_
 refine l_nil (run_seq (run_region rfl ?_))
 refine lv (Value.int .i64 0) rfl (e_assign rfl) ?_
 refine l_nil (run_seq (run_region rfl ?_))
 replace bx5 := bx5.chg ch12 (not_no _)
 refine lv (Value.agg (List.toArray [Value.int .i64 g.1, g_v])) rfl (e_load_bxN (ds := [Value.int .i64 g.1, g_v]) tp24_i rfl bx5 rfl rfl) ?_
 replace r_g_v := (r_g_v.chg ch2 (not_no _)).chg ch12 (not_no _)
 refine l_op rfl ?_
 refine o_callx (e_call (vals := [Value.agg (List.toArray [Value.int .i64 g.1, g_v])]) Try.func79 bd79_i nm79_i rfl) (rOuts_ok w6 g g_v (r_g_v).ro (by assumption)) ?_
 rintro ⟨d14, v16⟩ w13 ⟨fr15, o17⟩
 obtain ⟨g18, hg18⟩ : ∃ q, q = glue w6.heap.size g11 d14 (fun n => if n = 1 then 3 else 0) := ⟨_, rfl⟩
 have ch19 := chg_glue fr15.below g11 d14 (fun n => if n = 1 then 3 else 0)
 rw [← hg18] at ch19
 replace o17 := o17.glue (γ := g11) (ren := (fun n => if n = 1 then 3 else 0)) (k := 3) fr15.col rfl rfl
 rw [← hg18] at o17
 clear hg18
 refine lv (v16) rfl (e_assign rfl) ?_
 refine l_nil (run_seq (run_seq (run_region rfl ?_)))
 refine lv (Value.int .i64 0) rfl (e_assign rfl) ?_
 refine l_nil ?_
 refine run_block ?_
 refine run_loop (σ := Nat × Nat × (List Int) × Cmap) (fun ⟨q, n, c, gq⟩ f w => Base w0 gq w ∧ f 1 = Value.slice none 0 0 ∧ f 2 = Value.slice none 0 0 ∧ f 3 = Value.pointer (some ⟨b3, 0, none⟩) ∧ f 8 = v9 ∧ f 9 = Value.int .i64 (n : Int) ∧ f 10 = v16 ∧ f 11 = Value.int .i64 (q : Int) ∧ Sl gq (is 0) w g_v g.2 ∧ Bx gq (is 1) w b3 [Value.int .i64 g.1, g_v] ∧ Ow gq (is 2) (is 2) w v9 c ∧ Nst gq 3 w v16 (firstS g) ∧ (q : Int) ≤ (g.1 : Int) ∧ (c = (partsK g q).1 ∧ n = (partsK g q).2)) (fun ⟨q, n, c, gq⟩ => Int.toNat ((g.1 : Int) - (q : Int))) (0, 0, List.replicate g.1.toNat (-1), g18) ?_ ?_
 have C20 : Chg (inl []) _ _ _ _ := (ch2.n).seq ((ch12.n).seq (ch19.n))
 replace hbase := hbase.chg C20 (is_nl rfl)
 replace r_g_v := r_g_v.chg ch19 (not_no _)
 replace bx5 := bx5.chg ch19 (not_no _)
 replace o10 := o10.chg ch19 (not_no _) (not_no _)
 · exact ⟨hbase, rfl, rfl, rfl, rfl, rfl, rfl, rfl, r_g_v, bx5, o10, o17, by omega, by exact ⟨rfl, rfl⟩⟩
 clear r_g_v bx5 o10 o17 hbase
 rintro ⟨q, n, c, g23⟩ f21 w22 ⟨hbase, zs1, zs2, zs3, zs8, zs9, zs10, zs11, r_g_v, bx5, o10, o17, hle_q, hinv⟩ back5
 have hpl := parts_len g q
 have hcl : (c.length : Int) = g.1 := by rw [hinv.1, hpl.1]; omega
 have hi2 := hinv.2
 refine run_seq (run_seq (run_region rfl ?_))
 refine lv (Value.int .i64 (q : Int)) rfl (e_move (by exact zs11)) ?_
 refine lv (Value.pointer (some ⟨b3, 0, none⟩)) rfl (e_fieldAddr Try.underlying24 rfl rfl (by exact zs3) rfl) ?_
 refine lv (Value.int .i64 g.1) rfl (e_load_bx1 tp3_i rfl bx5 rfl) ?_
 refine lv (Value.bool (decide ((q : Int) < g.1))) rfl (e_lss (m := (q : Int)) (n := g.1) rfl rfl) ?_
 refine l_nil ?_
 by_cases p5 : (q : Int) < g.1
 ·
  refine run_cond_t rfl (decide_eq_true p5) ?_
  refine run_skip ?_
  refine run_seq ?_
  refine run_block ?_
  refine run_seq (run_seq (run_region rfl ?_))
  refine lv (v9) rfl (e_move (by exact zs8)) ?_
  refine lv (Value.int .i64 (q : Int)) rfl (e_move (by exact zs11)) ?_
  refine lv (Value.pointer (some (eAddr v9 1 (Int.toNat (q : Int))))) rfl (e_indexAddr (α := Int) (xs := c) (v := v9) (i := (q : Int)) Try.underlying27 rfl rfl o10.flat rfl (by omega) (by omega)) ?_
  refine lv (Value.int .i64 (gI c (q : Int))) rfl (e_load_el1 (α := Int) (xs := c) (v := v9) (i := (q : Int)) tp3_i rfl o10.flat (by omega) (by omega) (by decide) rfl) ?_
  refine lv (Value.bool (decide (0 ≤ (gI c (q : Int))))) rfl (e_geq (m := (gI c (q : Int))) (n := 0) rfl rfl) ?_
  refine lv (Value.bool (decide (0 ≤ (gI c (q : Int))))) rfl (e_move rfl) ?_
  by_cases q32 : 0 ≤ (gI c (q : Int))
  ·
   refine l_skip (want_n rfl rfl rfl (decide_eq_true q32)) ?_
   refine l_skip (want_n rfl rfl rfl (decide_eq_true q32)) ?_
   refine l_skip (want_n rfl rfl rfl (decide_eq_true q32)) ?_
   refine l_skip (want_u rfl rfl rfl) ?_
   refine l_skip (want_u rfl rfl rfl) ?_
   refine l_skip (want_u rfl rfl rfl) ?_
   refine l_skip (want_u rfl rfl rfl) ?_
   refine l_skip (want_n rfl rfl rfl (decide_eq_true q32)) ?_
   refine lv (Value.bool true) rfl (e_pick_t rfl (decide_eq_true q32) rfl) ?_
   refine l_nil ?_
   refine run_cond_t rfl rfl ?_
   refine run_exit rfl ?_
   refine run_region rfl ?_
   refine lv (Value.int .i64 (q : Int)) rfl (e_move (by exact zs11)) ?_
   refine lv (Value.int .i64 ((q : Int) + 1)) rfl (e_add (m := (q : Int)) (n := 1) rfl rfl (by omega)) ?_
   refine lv (Value.int .i64 ((q : Int) + 1)) rfl (e_assign rfl) ?_
   refine l_nil ?_
   refine back5 (q + 1, n, c, g23) _ _ ⟨hbase, (by exact zs1), (by exact zs2), (by exact zs3), (by exact zs8), (by exact zs9), (by exact zs10), rfl, r_g_v, bx5, o10, o17, by omega, ?_⟩ ?_
   · show c = (partsK g (q + 1)).1 ∧ n = (partsK g (q + 1)).2
     first
       | exact parts_skip hinv (by assumption)
       | exact hdf.done hmay (by omega) hinv (by assumption)
   · show Int.toNat ((g.1 : Int) - ((q + 1) : Int)) < Int.toNat ((g.1 : Int) - (q : Int))
     omega
  refine lv (Value.slice none 0 0) (want_y rfl rfl rfl (decide_eq_false q32)) (e_move (by exact zs1)) ?_
  refine lv (Value.bool false) (want_y rfl rfl rfl (decide_eq_false q32)) (e_neq_nils Try.underlying75 rfl rfl) ?_
  refine lv (Value.bool false) (want_y rfl rfl rfl (decide_eq_false q32)) (e_move rfl) ?_
  refine l_skip (want_n rfl rfl rfl rfl) (l_skip (want_n rfl rfl rfl rfl) (l_skip (want_n rfl rfl rfl rfl) (l_skip (want_n rfl rfl rfl rfl) ?_)))
  refine lv (Value.bool false) (want_y rfl rfl rfl (decide_eq_false q32)) (e_pick_f rfl rfl rfl) ?_
  refine lv (Value.bool false) rfl (e_pick_f rfl (decide_eq_false q32) rfl) ?_
  refine l_nil ?_
  refine run_cond_f rfl rfl ?_
  refine run_skip ?_
  refine run_seq (run_region rfl ?_)
  refine lv (Value.int .i64 (q : Int)) rfl (e_move (by exact zs11)) ?_
  refine l_op rfl ?_
  refine o_buildSlice (α := Int) g23 (is 4) (is 4) (4, 0) rfl [(q : Int)] Try.underlying27 tp3_i (by decide) (by decide) (vs := [(0, Value.int .i64 (q : Int))]) rfl rfl (.cons rfl .nil) ?_
  intro g24 w25 v26 ch27 o28
  refine lv (v26) rfl (e_assign rfl) ?_
  refine l_nil (run_seq (run_region rfl ?_))
  refine lv (v9) rfl (e_move (by exact zs8)) ?_
  refine lv (Value.int .i64 (q : Int)) rfl (e_move (by exact zs11)) ?_
  refine lv (Value.int .i64 (n : Int)) rfl (e_move (by exact zs9)) ?_
  replace o10 := o10.chg ch27 (not_no _) (not_no _)
  refine lv (Value.pointer (some (eAddr v9 1 (Int.toNat (q : Int))))) rfl (e_indexAddr (α := Int) (xs := c) (v := v9) (i := (q : Int)) Try.underlying27 rfl rfl o10.flat rfl (by omega) (by omega)) ?_
  refine l_op rfl ?_
  refine o_store_el (i := (q : Int)) (n : Int) tp3_i rfl rfl o10 (by omega) (by omega) rfl ?_
  intro w29 ch30 bx31
  clear o10
  refine l_nil (run_seq ?_)
  refine run_block ?_
  refine run_loop (σ := Value × (List Int) × (List Int) × Cmap) (fun ⟨todo1_v, todo1, c1, gq⟩ f w => Base w0 gq w ∧ f 1 = Value.slice none 0 0 ∧ f 2 = Value.slice none 0 0 ∧ f 3 = Value.pointer (some ⟨b3, 0, none⟩) ∧ f 8 = v9 ∧ f 9 = Value.int .i64 (n : Int) ∧ f 10 = v16 ∧ f 11 = Value.int .i64 (q : Int) ∧ f 12 = todo1_v ∧ Sl gq (is 0) w g_v g.2 ∧ Bx gq (is 1) w b3 [Value.int .i64 g.1, g_v] ∧ Nst gq 3 w v16 (firstS g) ∧ Ow gq (is 2) (is 2) w v9 c1 ∧ Ow gq (is 4) (is 4) w todo1_v todo1 ∧ (DfInv g c c1 todo1 [] n (q : Int))) (fun ⟨todo1_v, todo1, c1, gq⟩ => List.length todo1 + 2 * cntN c1) (v26, [(q : Int)], (List.set c (Int.toNat (q : Int)) (n : Int)), g24) ?_ ?_
  replace hbase := hbase.chg ch27 (not_no _)
  replace hbase := hbase.chg ch30 (is_ne rfl)
  replace r_g_v := (r_g_v.chg ch27 (not_no _)).chg ch30 (is_ne rfl)
  replace bx5 := (bx5.chg ch27 (not_no _)).chg ch30 (is_ne rfl)
  replace o17 := (o17.chg ch27 (not_no _)).chg ch30 (is_ne rfl)
  replace o28 := o28.chg ch30 (is_ne rfl) (is_ne rfl)
  · exact ⟨hbase, (by exact zs1), (by exact zs2), (by exact zs3), (by exact zs8), (by exact zs9), (by exact zs10), (by exact zs11), rfl, r_g_v, bx5, o17, bx31, o28, by exact DfInv.start hmay (by omega) hinv (by assumption)⟩
  clear r_g_v bx5 o17 o28 bx31 hbase
  rintro ⟨todo1_v, todo1, c1, g34⟩ f32 w33 ⟨hbase, zs1, zs2, zs3, zs8, zs9, zs10, zs11, zs12, r_g_v, bx5, o17, bx31, o_todo1, hdf⟩ back10
  have hcl1 := hdf.len
  have htb := hdf.bd
  refine run_seq (run_seq (run_region rfl ?_))
  refine lv (todo1_v) rfl (e_move (by exact zs12)) ?_
  have len35 := (o_todo1.flat).small
  refine lv (Value.int .i64 (List.length todo1 : Int)) rfl (e_len Try.underlying27 rfl o_todo1.flat) ?_
  refine lv (Value.bool (decide (0 < (List.length todo1 : Int)))) rfl (e_gtr (m := (List.length todo1 : Int)) (n := 0) rfl rfl) ?_
  refine l_nil ?_
  by_cases p10 : 0 < (List.length todo1 : Int)
  ·
   refine run_cond_t rfl (decide_eq_true p10) ?_
   refine run_skip ?_
   refine run_block ?_
   refine run_seq (run_region rfl ?_)
   refine lv (todo1_v) rfl (e_move (by exact zs12)) ?_
   refine lv (todo1_v) rfl (e_move (by exact zs12)) ?_
   refine lv (Value.int .i64 (List.length todo1 : Int)) rfl (e_len Try.underlying27 rfl o_todo1.flat) ?_
   refine lv (Value.int .i64 ((List.length todo1 : Int) - 1)) rfl (e_sub (m := (List.length todo1 : Int)) (n := 1) rfl rfl (by omega)) ?_
   refine lv (Value.pointer (some (eAddr todo1_v 1 (Int.toNat ((List.length todo1 : Int) - 1))))) rfl (e_indexAddr (α := Int) (xs := todo1) (v := todo1_v) (i := (List.length todo1 : Int) - 1) Try.underlying27 rfl rfl o_todo1.flat rfl (by omega) (by omega)) ?_
   refine lv (Value.int .i64 (gI todo1 ((List.length todo1 : Int) - 1))) rfl (e_load_el1 (α := Int) (xs := todo1) (v := todo1_v) (i := (List.length todo1 : Int) - 1) tp3_i rfl o_todo1.flat (by omega) (by omega) (by decide) rfl) ?_
   refine lv (Value.int .i64 (gI todo1 ((List.length todo1 : Int) - 1))) rfl (e_assign rfl) ?_
   refine l_nil (run_seq (run_region rfl ?_))
   refine lv (todo1_v) rfl (e_move (by exact zs12)) ?_
   refine lv (todo1_v) rfl (e_move (by exact zs12)) ?_
   refine lv (Value.int .i64 (List.length todo1 : Int)) rfl (e_len Try.underlying27 rfl o_todo1.flat) ?_
   refine lv (Value.int .i64 ((List.length todo1 : Int) - 1)) rfl (e_sub (m := (List.length todo1 : Int)) (n := 1) rfl rfl (by omega)) ?_
   refine lv ((subV todo1_v 1 (Int.toNat 0) (Int.toNat ((List.length todo1 : Int) - 1)))) rfl (e_slice (α := Int) (xs := todo1) (v := todo1_v) (l := 0) (h := (List.length todo1 : Int) - 1) Try.underlying27 rfl rfl o_todo1.flat (.inr ⟨rfl, rfl⟩) (.inl (congrArg some rfl)) (by omega) (by omega) (by omega)) ?_
   have r37 := ow_pre o_todo1 (show Int.toNat ((List.length todo1 : Int) - 1) ≤ List.length _ by omega)
   refine lv ((subV todo1_v 1 (Int.toNat 0) (Int.toNat ((List.length todo1 : Int) - 1)))) rfl (e_assign rfl) ?_
   refine l_nil (run_seq ?_)
   clear o_todo1
   refine run_region rfl ?_
   refine lv (Value.int .i64 0) rfl (e_assign rfl) ?_
   refine l_nil ?_
   refine run_block ?_
   refine run_loop (σ := Nat × Value × (List Int) × (List Int) × Cmap) (fun ⟨k, todo2_v, todo2, c2, gq⟩ f w => Base w0 gq w ∧ f 1 = Value.slice none 0 0 ∧ f 2 = Value.slice none 0 0 ∧ f 3 = Value.pointer (some ⟨b3, 0, none⟩) ∧ f 8 = v9 ∧ f 9 = Value.int .i64 (n : Int) ∧ f 10 = v16 ∧ f 11 = Value.int .i64 (q : Int) ∧ f 12 = todo2_v ∧ f 13 = Value.int .i64 (gI todo1 ((List.length todo1 : Int) - 1)) ∧ f 14 = Value.int .i64 (k : Int) ∧ Sl gq (is 0) w g_v g.2 ∧ Bx gq (is 1) w b3 [Value.int .i64 g.1, g_v] ∧ Nst gq 3 w v16 (firstS g) ∧ Ow gq (is 2) (is 2) w v9 c2 ∧ Ow gq (is 4) (is 4) w todo2_v todo2 ∧ (k : Int) ≤ ((List.length (gI (firstS g) (gI todo1 ((List.length todo1 : Int) - 1))) : Int) : Int) ∧ (DfRow g c c2 todo2 n (q : Int) (gI todo1 ((List.length todo1 : Int) - 1)) k (List.length todo1 + 2 * cntN c1))) (fun ⟨k, todo2_v, todo2, c2, gq⟩ => Int.toNat (((List.length (gI (firstS g) (gI todo1 ((List.length todo1 : Int) - 1))) : Int) : Int) - (k : Int))) (0, (subV todo1_v 1 (Int.toNat 0) (Int.toNat ((List.length todo1 : Int) - 1))), (List.take (Int.toNat ((List.length todo1 : Int) - 1)) todo1), c1, g34) ?_ ?_
   · exact ⟨hbase, (by exact zs1), (by exact zs2), (by exact zs3), (by exact zs8), (by exact zs9), (by exact zs10), (by exact zs11), rfl, rfl, rfl, r_g_v, bx5, o17, bx31, r37, by omega, by (have h0 := hdf.row (by omega); rwa [show List.length todo1 - 1 = ((List.length todo1 : Int) - 1).toNat by omega] at h0)⟩
   clear r_g_v bx5 o17 bx31 r37 hbase
   rintro ⟨k, todo2_v, todo2, c2, g40⟩ f38 w39 ⟨hbase, zs1, zs2, zs3, zs8, zs9, zs10, zs11, zs12, zs13, zs14, r_g_v, bx5, o17, bx31, o_todo2, hle_k, hrow⟩ back14
   have hcl2 := hrow.inv.len
   have htb2 := hrow.inv.bd
   obtain ⟨hvd1, hvd2⟩ := hrow.vd
   have hfg := first_gI (g := g) hvd1 hvd2
   refine run_seq (run_seq (run_region rfl ?_))
   refine lv (Value.int .i64 (k : Int)) rfl (e_move (by exact zs14)) ?_
   refine lv (v16) rfl (e_move (by exact zs10)) ?_
   refine lv (Value.int .i64 (gI todo1 ((List.length todo1 : Int) - 1))) rfl (e_move (by exact zs13)) ?_
   refine lv (Value.pointer (some (eAddr v16 1 (Int.toNat (gI todo1 ((List.length todo1 : Int) - 1)))))) rfl (e_indexAddr (α := List Int) (xs := firstS g) (v := v16) (i := (gI todo1 ((List.length todo1 : Int) - 1))) Try.underlying25 rfl rfl o17.sl rfl (by omega) (by omega)) ?_
   obtain ⟨v41, cel42, r43⟩ := nst_row (r := (gI todo1 ((List.length todo1 : Int) - 1))) o17 (by omega) (by omega)
   refine lv (v41) rfl (e_load1 tp27_i rfl cel42) ?_
   have len44 := (r43.row_sl).small
   refine lv (Value.int .i64 (List.length (gI (firstS g) (gI todo1 ((List.length todo1 : Int) - 1))) : Int)) rfl (e_len Try.underlying27 rfl r43.row_sl) ?_
   refine lv (Value.bool (decide ((k : Int) < (List.length (gI (firstS g) (gI todo1 ((List.length todo1 : Int) - 1))) : Int)))) rfl (e_lss (m := (k : Int)) (n := (List.length (gI (firstS g) (gI todo1 ((List.length todo1 : Int) - 1))) : Int)) rfl rfl) ?_
   refine l_nil ?_
   by_cases p14 : (k : Int) < (List.length (gI (firstS g) (gI todo1 ((List.length todo1 : Int) - 1))) : Int)
   ·
    refine run_cond_t rfl (decide_eq_true p14) ?_
    have hkl : (k : Int) < (outS g (gI todo1 ((List.length todo1 : Int) - 1))).length := by rw [← hfg]; assumption
    obtain ⟨hr1, hr2⟩ := (outS_in (gI_mem (xs := outS g (gI todo1 ((List.length todo1 : Int) - 1))) (i := (k : Int)) (by omega) hkl)).1
    rw [← hfg] at hr1 hr2
    obtain ⟨hto1, hto2⟩ := toS_in hmay hr1 hr2
    refine run_skip ?_
    refine run_seq ?_
    refine run_block ?_
    refine run_seq ?_
    clear cel42 r43
    refine region_q g40 rfl mixed_i (by kernel_rfl) ?_
    intro w46 ch45
    replace bx5 := bx5.chg ch45 (not_no _)
    refine q_val (v := Value.agg (List.toArray [Value.int .i64 g.1, g_v])) rfl (fun w' hw' => e_load_bxN (ds := [Value.int .i64 g.1, g_v]) tp24_i (by exact zs3) (bx5.bel hw') rfl rfl) ?_
    refine q_val (v := v16) rfl (fun w' hw' => e_move (by exact zs10)) ?_
    refine q_val (v := Value.int .i64 (gI todo1 ((List.length todo1 : Int) - 1))) rfl (fun w' hw' => e_move (by exact zs13)) ?_
    replace o17 := o17.chg ch45 (not_no _)
    refine q_val (v := Value.pointer (some (eAddr v16 1 (Int.toNat (gI todo1 ((List.length todo1 : Int) - 1)))))) rfl (fun w' hw' => e_indexAddr (α := List Int) (xs := firstS g) (v := v16) (i := (gI todo1 ((List.length todo1 : Int) - 1))) Try.underlying25 rfl rfl (o17.sl.bel hw') rfl (by omega) (by omega)) ?_
    obtain ⟨v47, cel48, r49⟩ := nst_row (r := (gI todo1 ((List.length todo1 : Int) - 1))) o17 (by omega) (by omega)
    refine q_val (v := v47) rfl (fun w' hw' => e_load1 tp27_i rfl (cel_bel cel48 hw')) ?_
    refine q_val (v := Value.int .i64 (k : Int)) rfl (fun w' hw' => e_move (by exact zs14)) ?_
    refine q_val (v := Value.pointer (some (eAddr v47 1 (Int.toNat (k : Int))))) rfl (fun w' hw' => e_indexAddr (α := Int) (xs := gI (firstS g) (gI todo1 ((List.length todo1 : Int) - 1))) (v := v47) (i := (k : Int)) Try.underlying27 rfl rfl (r49.row_sl.bel hw') rfl (by omega) (by first | omega | (simp only [List.length_set, List.length_append, List.length_cons, List.length_nil, List.length_replicate, List.length_map, List.length_take, List.length_drop]; omega) | (simp; done) | (simp; omega))) ?_
    refine q_val (v := Value.int .i64 (gI (gI (firstS g) (gI todo1 ((List.length todo1 : Int) - 1))) (k : Int))) rfl (fun w' hw' => e_load_el1 (α := Int) (xs := gI (firstS g) (gI todo1 ((List.length todo1 : Int) - 1))) (v := v47) (i := (k : Int)) tp3_i rfl (r49.row_sl.bel hw') (by omega) (by first | omega | (simp only [List.length_set, List.length_append, List.length_cons, List.length_nil, List.length_replicate, List.length_map, List.length_take, List.length_drop]; omega) | (simp; done) | (simp; omega)) (by decide) rfl) ?_
    replace r_g_v := r_g_v.chg ch45 (not_no _)
    refine q_call (v := Value.int .i64 (toS g (gI (gI (firstS g) (gI todo1 ((List.length todo1 : Int) - 1))) (k : Int)))) rfl (fun w' hw' => e_call (vals := [Value.agg (List.toArray [Value.int .i64 g.1, g_v]), Value.int .i64 (gI (gI (firstS g) (gI todo1 ((List.length todo1 : Int) - 1))) (k : Int))]) Try.func80 bd80_i nm80_i rfl) (fun w' hw' => (rTo_ok w' g g_v ((r_g_v.bel hw')).ro (gI (gI (firstS g) (gI todo1 ((List.length todo1 : Int) - 1))) (k : Int)) (by omega) (by omega)).mono fun e w2 h2 => ⟨h2.1, hw'.trans (h2.2.mono hw'.size)⟩) ?_
    refine q_val (v := Value.int .i64 (toS g (gI (gI (firstS g) (gI todo1 ((List.length todo1 : Int) - 1))) (k : Int)))) rfl (fun w' hw' => e_assign rfl) ?_
    refine q_nil ?_
    intro w50 hc51
    replace hc51 := chg_below hc51 g40
    refine run_seq (run_seq ?_)
    clear cel48 r49
    refine run_region rfl ?_
    refine lv (v9) rfl (e_move (by exact zs8)) ?_
    refine lv (Value.int .i64 (toS g (gI (gI (firstS g) (gI todo1 ((List.length todo1 : Int) - 1))) (k : Int)))) rfl (e_move rfl) ?_
    replace bx31 := (bx31.chg ch45 (not_no _) (not_no _)).chg hc51 (not_no _) (not_no _)
    refine lv (Value.pointer (some (eAddr v9 1 (Int.toNat (toS g (gI (gI (firstS g) (gI todo1 ((List.length todo1 : Int) - 1))) (k : Int))))))) rfl (e_indexAddr (α := Int) (xs := c2) (v := v9) (i := toS g (gI (gI (firstS g) (gI todo1 ((List.length todo1 : Int) - 1))) (k : Int))) Try.underlying27 rfl rfl bx31.flat rfl (by omega) (by omega)) ?_
    refine lv (Value.int .i64 (gI c2 (toS g (gI (gI (firstS g) (gI todo1 ((List.length todo1 : Int) - 1))) (k : Int))))) rfl (e_load_el1 (α := Int) (xs := c2) (v := v9) (i := toS g (gI (gI (firstS g) (gI todo1 ((List.length todo1 : Int) - 1))) (k : Int))) tp3_i rfl bx31.flat (by omega) (by omega) (by decide) rfl) ?_
    refine lv (Value.bool (decide (0 ≤ (gI c2 (toS g (gI (gI (firstS g) (gI todo1 ((List.length todo1 : Int) - 1))) (k : Int))))))) rfl (e_geq (m := (gI c2 (toS g (gI (gI (firstS g) (gI todo1 ((List.length todo1 : Int) - 1))) (k : Int))))) (n := 0) rfl rfl) ?_
    refine lv (Value.bool (decide (0 ≤ (gI c2 (toS g (gI (gI (firstS g) (gI todo1 ((List.length todo1 : Int) - 1))) (k : Int))))))) rfl (e_move rfl) ?_
    by_cases q85 : 0 ≤ (gI c2 (toS g (gI (gI (firstS g) (gI todo1 ((List.length todo1 : Int) - 1))) (k : Int))))
    ·
     refine l_skip (want_n rfl rfl rfl (decide_eq_true q85)) ?_
     refine l_skip (want_n rfl rfl rfl (decide_eq_true q85)) ?_
     refine l_skip (want_n rfl rfl rfl (decide_eq_true q85)) ?_
     refine l_skip (want_u rfl rfl rfl) ?_
     refine l_skip (want_u rfl rfl rfl) ?_
     refine l_skip (want_u rfl rfl rfl) ?_
     refine l_skip (want_u rfl rfl rfl) ?_
     refine l_skip (want_n rfl rfl rfl (decide_eq_true q85)) ?_
     refine lv (Value.bool true) rfl (e_pick_t rfl (decide_eq_true q85) rfl) ?_
     refine lv (Value.bool true) rfl (e_move rfl) ?_
     refine l_skip (want_n rfl rfl rfl rfl) (l_skip (want_n rfl rfl rfl rfl) (l_skip (want_n rfl rfl rfl rfl) ?_))
     refine l_skip (want_u rfl rfl rfl) ?_
     refine l_skip (want_u rfl rfl rfl) ?_
     refine l_skip (want_u rfl rfl rfl) ?_
     refine l_skip (want_u rfl rfl rfl) ?_
     refine l_skip (want_u rfl rfl rfl) ?_
     refine l_skip (want_u rfl rfl rfl) ?_
     refine l_skip (want_u rfl rfl rfl) ?_
     refine l_skip (want_u rfl rfl rfl) ?_
     refine l_skip (want_u rfl rfl rfl) ?_
     refine l_skip (want_u rfl rfl rfl) ?_
     refine l_skip (want_u rfl rfl rfl) ?_
     refine l_skip (want_n rfl rfl rfl rfl) ?_
     refine lv (Value.bool true) rfl (e_pick_t rfl rfl rfl) ?_
     refine l_nil ?_
     refine run_cond_t rfl rfl ?_
     refine run_exit rfl ?_
     refine run_region rfl ?_
     refine lv (Value.int .i64 (k : Int)) rfl (e_move (by exact zs14)) ?_
     refine lv (Value.int .i64 ((k : Int) + 1)) rfl (e_add (m := (k : Int)) (n := 1) rfl rfl (by omega)) ?_
     refine lv (Value.int .i64 ((k : Int) + 1)) rfl (e_assign rfl) ?_
     refine l_nil ?_
     replace hbase := hbase.chg ch45 (not_no _)
     replace hbase := hbase.chg hc51 (not_no _)
     replace r_g_v := r_g_v.chg hc51 (not_no _)
     replace bx5 := bx5.chg hc51 (not_no _)
     replace o17 := o17.chg hc51 (not_no _)
     replace o_todo2 := (o_todo2.chg ch45 (not_no _) (not_no _)).chg hc51 (not_no _) (not_no _)
     refine back14 (k + 1, todo2_v, todo2, c2, g40) _ _ ⟨hbase, (by exact zs1), (by exact zs2), (by exact zs3), (by exact zs8), (by exact zs9), (by exact zs10), (by exact zs11), (by exact zs12), (by exact zs13), rfl, r_g_v, bx5, o17, bx31, o_todo2, by omega, ?_⟩ ?_
     · show DfRow g c c2 todo2 n (q : Int) (gI todo1 ((List.length todo1 : Int) - 1)) (k + 1) (List.length todo1 + 2 * cntN c1)
       first
         | (rw [hfg]; exact hrow.push hmay hkl (by rw [← hfg]; assumption))
         | exact hrow.skip (by rw [← hfg]; assumption)
     · show Int.toNat (((List.length (gI (firstS g) (gI todo1 ((List.length todo1 : Int) - 1))) : Int) : Int) - ((k + 1) : Int)) < Int.toNat (((List.length (gI (firstS g) (gI todo1 ((List.length todo1 : Int) - 1))) : Int) : Int) - (k : Int))
       omega
    refine lv (Value.slice none 0 0) (want_y rfl rfl rfl (decide_eq_false q85)) (e_move (by exact zs1)) ?_
    refine lv (Value.bool false) (want_y rfl rfl rfl (decide_eq_false q85)) (e_neq_nils Try.underlying75 rfl rfl) ?_
    refine lv (Value.bool false) (want_y rfl rfl rfl (decide_eq_false q85)) (e_move rfl) ?_
    refine l_skip (want_n rfl rfl rfl rfl) (l_skip (want_n rfl rfl rfl rfl) (l_skip (want_n rfl rfl rfl rfl) (l_skip (want_n rfl rfl rfl rfl) ?_)))
    refine lv (Value.bool false) (want_y rfl rfl rfl (decide_eq_false q85)) (e_pick_f rfl rfl rfl) ?_
    refine lv (Value.bool false) rfl (e_pick_f rfl (decide_eq_false q85) rfl) ?_
    refine lv (Value.bool false) rfl (e_move rfl) ?_
    refine lv (Value.slice none 0 0) (want_y rfl rfl rfl rfl) (e_move (by exact zs2)) ?_
    refine lv (Value.bool false) (want_y rfl rfl rfl rfl) (e_neq_nils Try.underlying75 rfl rfl) ?_
    refine lv (Value.bool false) (want_y rfl rfl rfl rfl) (e_move rfl) ?_
    refine l_skip (want_n rfl rfl rfl rfl) (l_skip (want_n rfl rfl rfl rfl) (l_skip (want_n rfl rfl rfl rfl) (l_skip (want_n rfl rfl rfl rfl) (l_skip (want_n rfl rfl rfl rfl) (l_skip (want_n rfl rfl rfl rfl) (l_skip (want_n rfl rfl rfl rfl) (l_skip (want_n rfl rfl rfl rfl) (l_skip (want_n rfl rfl rfl rfl) (l_skip (want_n rfl rfl rfl rfl) (l_skip (want_n rfl rfl rfl rfl) ?_))))))))))
    refine lv (Value.bool false) (want_y rfl rfl rfl rfl) (e_pick_f rfl rfl rfl) ?_
    refine lv (Value.bool false) rfl (e_pick_f rfl rfl rfl) ?_
    refine l_nil ?_
    refine run_cond_f rfl rfl ?_
    refine run_skip ?_
    refine run_seq (run_region rfl ?_)
    refine lv (v9) rfl (e_move (by exact zs8)) ?_
    refine lv (Value.int .i64 (toS g (gI (gI (firstS g) (gI todo1 ((List.length todo1 : Int) - 1))) (k : Int)))) rfl (e_move rfl) ?_
    refine lv (Value.int .i64 (n : Int)) rfl (e_move (by exact zs9)) ?_
    refine lv (Value.pointer (some (eAddr v9 1 (Int.toNat (toS g (gI (gI (firstS g) (gI todo1 ((List.length todo1 : Int) - 1))) (k : Int))))))) rfl (e_indexAddr (α := Int) (xs := c2) (v := v9) (i := toS g (gI (gI (firstS g) (gI todo1 ((List.length todo1 : Int) - 1))) (k : Int))) Try.underlying27 rfl rfl bx31.flat rfl (by omega) (by omega)) ?_
    refine l_op rfl ?_
    refine o_store_el (i := toS g (gI (gI (firstS g) (gI todo1 ((List.length todo1 : Int) - 1))) (k : Int))) (n : Int) tp3_i rfl rfl bx31 (by omega) (by omega) rfl ?_
    intro w52 ch53 bx54
    clear bx31
    refine l_nil (run_region rfl ?_)
    refine lv (todo2_v) rfl (e_move (by exact zs12)) ?_
    refine lv (Value.int .i64 (toS g (gI (gI (firstS g) (gI todo1 ((List.length todo1 : Int) - 1))) (k : Int)))) rfl (e_move rfl) ?_
    refine l_op rfl ?_
    refine o_buildSlice (α := Int) g40 (is 5) (is 5) (5, 0) rfl [toS g (gI (gI (firstS g) (gI todo1 ((List.length todo1 : Int) - 1))) (k : Int))] Try.underlying27 tp3_i (by decide) (by decide) (vs := [(0, Value.int .i64 (toS g (gI (gI (firstS g) (gI todo1 ((List.length todo1 : Int) - 1))) (k : Int))))]) rfl rfl (.cons rfl .nil) ?_
    intro g55 w56 v57 ch58 o59
    refine l_op rfl ?_
    have C60 : Chg (inl [2]) _ _ _ _ := (ch45.n).seq ((hc51.n).seq ((ch53.l rfl).seq (ch58.n)))
    replace o_todo2 := o_todo2.chg C60 (is_nl rfl) (is_nl rfl)
    refine o_append (α := Int) (xs := todo2) (ys := ([toS g (gI (gI (firstS g) (gI todo1 ((List.length todo1 : Int) - 1))) (k : Int))])) g55 (J := is 4) (S := is 4) (4, 0) rfl Try.underlying27 tp3_i (by decide) rfl rfl rfl o_todo2 o59.flat (by decide) (by first | omega | (simp; done) | (simp; omega)) ?_
    intro g61 w62 v63 ch64 o65
    clear o_todo2
    refine lv (v63) rfl (e_assign rfl) ?_
    refine l_nil ?_
    refine run_inBlock ?_
    clear o59
    refine run_region rfl ?_
    refine lv (Value.int .i64 (k : Int)) rfl (e_move (by exact zs14)) ?_
    refine lv (Value.int .i64 ((k : Int) + 1)) rfl (e_add (m := (k : Int)) (n := 1) rfl rfl (by omega)) ?_
    refine lv (Value.int .i64 ((k : Int) + 1)) rfl (e_assign rfl) ?_
    refine l_nil ?_
    have C66 : Chg (inl [2, 4]) _ _ _ _ := (ch45.n).seq ((hc51.n).seq ((ch53.l rfl).seq ((ch58.n).seq (ch64.l rfl))))
    replace hbase := hbase.chg C66 (is_nl rfl)
    have C67 : Chg (inl [2, 4]) _ _ _ _ := (hc51.n).seq ((ch53.l rfl).seq ((ch58.n).seq (ch64.l rfl)))
    replace r_g_v := r_g_v.chg C67 (is_nl rfl)
    replace bx5 := bx5.chg C67 (is_nl rfl)
    replace o17 := o17.chg C67 (is_nl rfl)
    replace bx54 := (bx54.chg ch58 (not_no _) (not_no _)).chg ch64 (is_ne rfl) (is_ne rfl)
    refine back14 (k + 1, v63, (todo2 ++ [toS g (gI (gI (firstS g) (gI todo1 ((List.length todo1 : Int) - 1))) (k : Int))]), (List.set c2 (Int.toNat (toS g (gI (gI (firstS g) (gI todo1 ((List.length todo1 : Int) - 1))) (k : Int)))) (n : Int)), g61) _ _ ⟨hbase, (by exact zs1), (by exact zs2), (by exact zs3), (by exact zs8), (by exact zs9), (by exact zs10), (by exact zs11), rfl, (by exact zs13), rfl, r_g_v, bx5, o17, bx54, o65, by omega, ?_⟩ ?_
    · show DfRow g c (List.set c2 (Int.toNat (toS g (gI (gI (firstS g) (gI todo1 ((List.length todo1 : Int) - 1))) (k : Int)))) (n : Int)) (todo2 ++ [toS g (gI (gI (firstS g) (gI todo1 ((List.length todo1 : Int) - 1))) (k : Int))]) n (q : Int) (gI todo1 ((List.length todo1 : Int) - 1)) (k + 1) (List.length todo1 + 2 * cntN c1)
      first
        | (rw [hfg]; exact hrow.push hmay hkl (by rw [← hfg]; assumption))
        | exact hrow.skip (by rw [← hfg]; assumption)
    · show Int.toNat (((List.length (gI (firstS g) (gI todo1 ((List.length todo1 : Int) - 1))) : Int) : Int) - ((k + 1) : Int)) < Int.toNat (((List.length (gI (firstS g) (gI todo1 ((List.length todo1 : Int) - 1))) : Int) : Int) - (k : Int))
      omega
   refine run_cond_f rfl (decide_eq_false p14) ?_
   refine run_exit rfl ?_
   refine run_inBlock ?_
   refine back10 (todo2_v, todo2, c2, g40) _ _ ⟨hbase, (by exact zs1), (by exact zs2), (by exact zs3), (by exact zs8), (by exact zs9), (by exact zs10), (by exact zs11), (by exact zs12), r_g_v, bx5, o17, bx31, o_todo2, ?_⟩ ?_
   · show DfInv g c c2 todo2 [] n (q : Int)
     exact hrow.done (by rw [← hfg]; assumption)
   · show List.length todo2 + 2 * cntN c2 < List.length todo1 + 2 * cntN c1
     (have h1 := hrow.meas; omega)
  refine run_cond_f rfl (decide_eq_false p10) ?_
  refine run_exit rfl ?_
  clear o_todo1
  refine run_region rfl ?_
  refine lv (Value.int .i64 (n : Int)) rfl (e_move (by exact zs9)) ?_
  refine lv (Value.int .i64 ((n : Int) + 1)) rfl (e_add (m := (n : Int)) (n := 1) rfl rfl (by omega)) ?_
  refine lv (Value.int .i64 ((n : Int) + 1)) rfl (e_assign rfl) ?_
  refine l_nil ?_
  refine run_inBlock ?_
  refine run_region rfl ?_
  refine lv (Value.int .i64 (q : Int)) rfl (e_move (by exact zs11)) ?_
  refine lv (Value.int .i64 ((q : Int) + 1)) rfl (e_add (m := (q : Int)) (n := 1) rfl rfl (by omega)) ?_
  refine lv (Value.int .i64 ((q : Int) + 1)) rfl (e_assign rfl) ?_
  refine l_nil ?_
  refine back5 (q + 1, n + 1, c1, g34) _ _ ⟨hbase, (by exact zs1), (by exact zs2), (by exact zs3), (by exact zs8), rfl, (by exact zs10), rfl, r_g_v, bx5, bx31, o17, by omega, ?_⟩ ?_
  · show c1 = (partsK g (q + 1)).1 ∧ (n + 1) = (partsK g (q + 1)).2
    first
      | exact parts_skip hinv (by assumption)
      | exact hdf.done hmay (by omega) hinv (by assumption)
  · show Int.toNat ((g.1 : Int) - ((q + 1) : Int)) < Int.toNat ((g.1 : Int) - (q : Int))
    omega
 refine run_cond_f rfl (decide_eq_false p5) ?_
 refine run_exit rfl ?_
 refine run_seq ?_
 clear bx5 o17
 refine run_region rfl ?_
 refine lv (v9) rfl (e_move (by exact zs8)) ?_
 refine lv (Value.int .i64 (n : Int)) rfl (e_move (by exact zs9)) ?_
 refine lv (v9) rfl (e_assign rfl) ?_
 refine lv (Value.int .i64 (n : Int)) rfl (e_assign rfl) ?_
 refine l_nil ?_
 refine run_ret (vs := [v9, Value.int .i64 (n : Int)]) Try.func31 (.tmp rfl (.tmp rfl .nil)) ?_
 have e0 : (c : List Int) = ((partsR g).1) := by
   first
     | exact (partsR_yes hmay (by omega) hinv).1
     | exact (partsR_yes hmay (by omega) hinv).2.1
 have e1 : ((n : Int) : Int) = ((partsR g).2.1) := by
   first
     | exact (partsR_yes hmay (by omega) hinv).1
     | exact (partsR_yes hmay (by omega) hinv).2.1
 exact ⟨(fin w0 g23 (fun n => if n = 2 then 1 else 0), v9), (congr2 (a := c) (b := (n : Int)) (fun (z0 : List Int) (z1 : Int) => Ending.returned (Value.tuple (List.toArray [v9, Value.int .i64 z1]))) e0 e1), hbase.fresh _, (e0 ▸ (o10.glue (γ := c0) (ren := (fun n => if n = 2 then 1 else 0)) (k := 1) hbase.col rfl rfl))⟩
end TL
