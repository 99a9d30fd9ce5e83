/-
  TlTwinA: a rotation's twin, with a mark behind each list and behind the whole, and whether the marks stand.
  By an AI agent.
-/
import Derived.Test.YtilohhkbelkmdaaProg
import Derived.Test.YtilohhkbelkmdaaTlP2
import Derived.Test.YtilohhkbelkmdaaTlGenX
set_option linter.all false
set_option maxRecDepth 20000
namespace TL
open Go Go.Proofs
theorem mixed_tw : Try.prog.follows .mixedOrders = true := by kernel_rfl
theorem tpI_tw : Tp Try.prog 3 false 1 8 (.int .i64 0) := Tp.of (by kernel_rfl)
theorem bdL_tw : Try.f57.body.isNone = false := rfl
theorem nmL_tw : (Try.f57.name == "runtime.NumGoroutine") = false := by decide +kernel
theorem tpL_tw : Tp Try.prog 27 false 1 24 (.slice none 0 0) := Tp.of (by kernel_rfl)
/-- the row's part: a mark behind it -/
theorem row_part {γ : Cmap} {J S : Col → Prop} {w : World} {v : Value} {l : List Int} {m : Int} (h : Ow γ J S w v (l ++ [m])) : Ow γ J S w (upV (subV v 1 (Int.toNat 0) (Int.toNat (List.length l : Int)))) (l ++ [m]) := upV_sub h (by simp)
theorem base_recol {w0 w : World} {γ : Cmap} {k : Nat} {c : Col} (h : Base w0 γ w) (hk : Nat.beq k 0 = false) : Base w0 (recol γ k c) w := ⟨h.os, h.tape, h.output, h.size, fun b hb => by
  have h0 := h.col b hb
  unfold recol
  rw [if_neg (by rw [h0]; intro e; subst e; simp at hk)]
  exact h0, h.keep, h.drawn⟩
theorem recolor {γ : Cmap} {w : World} (k : Nat) (c : Col) : Chg (is k) γ w (recol γ k c) w := (chg_recol (J := no) (Chg.refl _ _ _)).mono fun _ h => h.elim (fun h => h.elim) id
set_option maxHeartbeats 1000000 in
theorem Twin9_ok (w0 : World) (r : List (List Int)) (r_v : Value) (hr_v : Ro w0 r_v r) (hb : r.length ≤ 1000000 ∧ ∀ l_ ∈ r, l_.length ≤ 1000000) :
    Calls Try.prog 14 #[r_v] w0 (fun ee w => ∃ xx : Cmap × Value, ee = .returned ((fun ⟨δ, rv0⟩ => rv0) xx) ∧ (fun (⟨δ, rv0⟩ : Cmap × Value) (w : World) => Fresh w0 δ w ∧ Ow δ (is 1) (is 1) w (upV rv0) (TWL r)) xx w) := by
 obtain ⟨hb1, hb2⟩ := hb
 refine calls_of_run Try.func14 rfl (Nat.le_of_ble_eq_true rfl) ?_
 have hbase := Base.start w0
 have r_r_v := hr_v.sl
 refine run_seq (run_region rfl ?_)
 refine lv (Value.slice none 0 0) rfl (e_assign rfl) ?_
 refine l_nil (run_seq (run_region rfl ?_))
 refine lv (Value.slice none 0 0) rfl (e_assign rfl) ?_
 refine l_nil (run_seq (run_seq (run_region rfl ?_)))
 refine lv (Value.int .i64 0) rfl (e_assign rfl) ?_
 refine l_nil ?_
 refine run_block ?_
 refine run_loop (σ := Nat × Value × List Vc × Cmap) (fun ⟨v, o_v, us, gq⟩ f w => Base w0 gq w ∧ f 0 = r_v ∧ f 3 = o_v ∧ f 4 = Value.int .i64 (v : Int) ∧ v ≤ r.length ∧ Sl gq (is 0) w r_v r ∧ Ow gq (is 1) (is 1) w o_v us ∧ RwR gq (is 2) w us ((r.take v).map fun l => Rw.mk l (-77))) (fun ⟨v, _⟩ => r.length - v) (0, Value.slice none 0 0, [], c0) ⟨hbase, rfl, rfl, rfl, Nat.zero_le _, r_r_v, Ow.nil, RwR.nil⟩ ?_
 clear hbase r_r_v
 rintro ⟨v, o_v, us, g1⟩ f1 w1 ⟨hbase, z0, z3, z4, hvl, r_r_v, ow, hrw⟩ back
 have hul : us.length = v := by have := hrw.1; rw [List.length_map, List.length_take] at this; omega
 refine run_seq (run_seq (run_region rfl ?_))
 refine lv (Value.int .i64 (v : Int)) rfl (e_move z4) ?_
 refine lv (r_v) rfl (e_move z0) ?_
 refine lv (Value.int .i64 (List.length r : Int)) rfl (e_len Try.underlying26 rfl r_r_v) ?_
 refine lv (Value.bool (decide ((v : Int) < (List.length r : Int)))) rfl (e_lss (m := (v : Int)) (n := (List.length r : Int)) rfl rfl) ?_
 refine l_nil ?_
 by_cases hc : (v : Int) < (List.length r : Int)
 ·
  have hvr : v < r.length := by omega
  have hbl := hb2 _ (gI_mem (xs := r) (i := (v : Int)) (by omega) hc)
  have htk : (r.take (v + 1)).map (fun l => Rw.mk l (-77)) = (r.take v).map (fun l => Rw.mk l (-77)) ++ [Rw.mk (gI r (v : Int)) (-77)] := by rw [take_succ_gI hc, List.map_append]; rfl
  refine run_cond_t rfl (decide_eq_true hc) ?_
  refine run_skip ?_
  refine run_seq ?_
  refine run_block ?_
  refine region_midh (σ := Value × List Vc × Cmap) (fun ⟨o_v, us, gq⟩ f w => Base w0 gq w ∧ f 0 = r_v ∧ f 3 = o_v ∧ f 4 = Value.int .i64 (v : Int) ∧ Sl gq (is 0) w r_v r ∧ Ow gq (is 1) (is 1) w o_v us ∧ RwR gq (is 2) w us ((r.take (v + 1)).map fun l => Rw.mk l (-77))) g1 (inl [1, 3]) mixed_tw ?_ ?_
  ·
   intro mid
   intro w2 ch2
   replace hbase := hbase.chg ch2 (not_no _)
   replace r_r_v := r_r_v.chg ch2 (not_no _)
   replace ow := ow.chg ch2 (not_no _) (not_no _)
   replace hrw := hrw.chg ch2 (not_no _)
   obtain ⟨u, hcell, hrow⟩ := sl_row_keep (r := (v : Int)) r_r_v (by omega) hc
   have hlen := hrow.small
   refine h_take (v := o_v) 0 rfl (by kernel_rfl) (by kernel_rfl) rfl (Chg.refl _ _ _) (fun w' hw' => e_move z3) ?_
   refine h_take (v := r_v) 1 rfl (by kernel_rfl) (by kernel_rfl) rfl (Chg.refl _ _ _) (fun w' hw' => e_move z0) ?_
   refine h_take (v := Value.int .i64 (v : Int)) 2 rfl (by kernel_rfl) (by kernel_rfl) rfl (Chg.refl _ _ _) (fun w' hw' => e_move z4) ?_
   refine h_take (v := Value.pointer (some (eAddr r_v 1 (Int.toNat (v : Int))))) 3 rfl (by kernel_rfl) (by kernel_rfl) rfl (Chg.refl _ _ _) (fun w' hw' => e_indexAddr (α := List Int) (xs := r) (v := r_v) (i := (v : Int)) Try.underlying26 rfl rfl (r_r_v.chg hw' (is_nl rfl)) rfl (by omega) hc) ?_
   refine h_take (v := u) 4 rfl (by kernel_rfl) (by kernel_rfl) rfl (Chg.refl _ _ _) (fun w' hw' => e_load1 tpL_tw rfl (hcell hw' (is_nl rfl))) ?_
   refine h_take (v := r_v) 8 rfl (by kernel_rfl) (by kernel_rfl) rfl (Chg.refl _ _ _) (fun w' hw' => e_move z0) ?_
   refine h_take (v := Value.int .i64 (v : Int)) 9 rfl (by kernel_rfl) (by kernel_rfl) rfl (Chg.refl _ _ _) (fun w' hw' => e_move z4) ?_
   refine h_take (v := Value.pointer (some (eAddr r_v 1 (Int.toNat (v : Int))))) 10 rfl (by kernel_rfl) (by kernel_rfl) rfl (Chg.refl _ _ _) (fun w' hw' => e_indexAddr (α := List Int) (xs := r) (v := r_v) (i := (v : Int)) Try.underlying26 rfl rfl (r_r_v.chg hw' (is_nl rfl)) rfl (by omega) hc) ?_
   refine h_take (v := u) 11 rfl (by kernel_rfl) (by kernel_rfl) rfl (Chg.refl _ _ _) (fun w' hw' => e_load1 tpL_tw rfl (hcell hw' (is_nl rfl))) ?_
   refine h_take (v := Value.int .i64 (List.length (gI r (v : Int)) : Int)) 12 rfl (by kernel_rfl) (by kernel_rfl) rfl (Chg.refl _ _ _) (fun w' hw' => e_len Try.underlying27 rfl (hrow.chg hw' (is_nl rfl))) ?_
   refine h_many 5 [6] (by kernel_rfl) ⟨h_of 5 rfl (by kernel_rfl) rfl ?_, h_of 6 rfl (by kernel_rfl) rfl ?_, trivial⟩
   ·
    refine o_append (α := Int) (xs := ([])) (ys := gI r (v : Int)) g1 (J := is 3) (S := is 3) (3, 0) rfl Try.underlying27 tpI_tw (by decide) rfl rfl rfl Ow.nil hrow (by decide) (by simp; omega) ?_
    intro ga wa va ch_1 oa
    replace oa : Ow ga (is 3) (is 3) wa va (gI r (v : Int)) := oa
    have hs1 : Chg (inl [1, 3]) _ _ _ _ := ch_1.l rfl
    refine ⟨hs1.same, ?_⟩
    refine h_one 6 rfl (by kernel_rfl) rfl ?_
    refine o_buildSlice (α := Int) ga (is 4) (is 4) (4, 0) rfl [(-77)] Try.underlying27 tpI_tw (by decide) (by decide) (vs := [(0, Value.int .i64 (-77))]) rfl rfl (.cons rfl .nil) ?_
    intro gb wb vb ch_2 ob
    have hs2 := hs1.seq (ch_2.n)
    refine ⟨hs2.same, ?_⟩
    refine h_one 7 rfl (by kernel_rfl) rfl ?_
    refine o_append (α := Int) (xs := gI r (v : Int)) (ys := [(-77)]) gb (J := is 3) (S := is 3) (3, 0) rfl Try.underlying27 tpI_tw (by decide) rfl rfl rfl (oa.chg ch_2 (not_no _) (not_no _)) ob.flat (by decide) (by simp; omega) ?_
    intro gc wc vc chc oc
    have hs3 := hs2.seq (chc.l rfl)
    refine ⟨hs3.same, ?_⟩
    have C3 := hs3
    refine h_take (v := subV vc 1 (Int.toNat 0) (Int.toNat (List.length (gI r (v : Int)) : Int))) 13 rfl (by kernel_rfl) (by kernel_rfl) rfl hs3.same (fun w' hw' => e_slice (α := Int) (xs := gI r (v : Int) ++ [(-77)]) (v := vc) (l := 0) (h := (List.length (gI r (v : Int)) : Int)) Try.underlying27 rfl rfl oc.flat (.inr ⟨rfl, rfl⟩) (.inl (congrArg some rfl)) (by omega) (by omega) (by simp; omega)) ?_
    have rsub := sl_sub oc.flat (show Int.toNat 0 ≤ Int.toNat (List.length (gI r (v : Int)) : Int) by omega) (show Int.toNat (List.length (gI r (v : Int)) : Int) ≤ List.length _ by simp)
    obtain ⟨c, hcv⟩ := vc_of (u := subV vc 1 (Int.toNat 0) (Int.toNat (List.length (gI r (v : Int)) : Int))) (sl_one rsub)
    refine h_one 14 rfl (by kernel_rfl) rfl ?_
    refine o_buildSlice (α := Vc) gc (is 4) (is 4) (4, 0) rfl [c] Try.underlying26 tpL_tw (by decide) (by decide) (vs := [(0, subV vc 1 (Int.toNat 0) (Int.toNat (List.length (gI r (v : Int)) : Int)))]) rfl rfl (.cons (vc_els hcv (sl_cells1 rsub)) .nil) ?_
    intro gd wd vd chd od
    have hs4 := hs3.seq (chd.n)
    refine ⟨hs4.same, ?_⟩
    refine h_one 15 rfl (by kernel_rfl) rfl ?_
    have ow4 := ((ow.chg ch_1 (is_ne rfl) (is_ne rfl)).chg ch_2 (not_no _) (not_no _)).chg chc (is_ne rfl) (is_ne rfl)
    refine o_append (α := Vc) (xs := us) (ys := [c]) gd (J := is 1) (S := is 1) (1, 0) rfl Try.underlying26 tpL_tw (by decide) rfl rfl rfl (ow4.chg chd (not_no _) (not_no _)) od.flat (by decide) (by simp; omega) ?_
    intro ge we ve che oe
    have hs5 := hs4.seq (che.l rfl)
    refine ⟨hs5.same, ?_⟩
    refine h_take (v := ve) 16 rfl (by kernel_rfl) (by kernel_rfl) rfl hs5.same (fun w' hw' => e_assign rfl) ?_
    refine h_nil (by kernel_rfl) ?_
    have oc5 := ((oc.chg chd (not_no _) (not_no _)).chg che (is_ne rfl) (is_ne rfl))
    have hrw5 := hrw.chg hs5 (is_nl rfl)
    refine mid (ve, us ++ [c], recol ge 3 (2, 0)) _ _ ⟨base_recol (hbase.chg hs5 (is_nl rfl)) rfl, z0, rfl, z4, (r_r_v.chg hs5 (is_nl rfl)).chg (recolor 3 (2, 0)) (is_ne rfl), oe.chg (recolor 3 (2, 0)) (is_ne rfl) (is_ne rfl), ?_⟩
    rw [htk]
    refine RwR.snoc (hrw5.chg (recolor 3 (2, 0)) (is_ne rfl)) ?_
    rw [hcv]
    exact (row_part oc5).flat.tr (fun b _ h => ⟨rfl, by have h' : (ge b).1 = 3 := h; unfold recol is; rw [if_pos h']⟩) (Nat.le_refl _)
   ·
    refine o_buildSlice (α := Int) g1 (is 4) (is 4) (4, 0) rfl [(-77)] Try.underlying27 tpI_tw (by decide) (by decide) (vs := [(0, Value.int .i64 (-77))]) rfl rfl (.cons rfl .nil) ?_
    intro gb wb vb ch_1 ob
    have hs1 : Chg (inl [1, 3]) _ _ _ _ := ch_1.n
    refine ⟨hs1.same, ?_⟩
    refine h_one 5 rfl (by kernel_rfl) rfl ?_
    refine o_append (α := Int) (xs := ([])) (ys := gI r (v : Int)) gb (J := is 3) (S := is 3) (3, 0) rfl Try.underlying27 tpI_tw (by decide) rfl rfl rfl Ow.nil (hrow.chg hs1 (is_nl rfl)) (by decide) (by simp; omega) ?_
    intro ga wa va ch_2 oa
    replace oa : Ow ga (is 3) (is 3) wa va (gI r (v : Int)) := oa
    have hs2 := hs1.seq (ch_2.l rfl)
    refine ⟨hs2.same, ?_⟩
    refine h_one 7 rfl (by kernel_rfl) rfl ?_
    refine o_append (α := Int) (xs := gI r (v : Int)) (ys := [(-77)]) ga (J := is 3) (S := is 3) (3, 0) rfl Try.underlying27 tpI_tw (by decide) rfl rfl rfl oa (ob.chg ch_2 (is_ne rfl) (is_ne rfl)).flat (by decide) (by simp; omega) ?_
    intro gc wc vc chc oc
    have hs3 := hs2.seq (chc.l rfl)
    refine ⟨hs3.same, ?_⟩
    have C3 := hs3
    refine h_take (v := subV vc 1 (Int.toNat 0) (Int.toNat (List.length (gI r (v : Int)) : Int))) 13 rfl (by kernel_rfl) (by kernel_rfl) rfl hs3.same (fun w' hw' => e_slice (α := Int) (xs := gI r (v : Int) ++ [(-77)]) (v := vc) (l := 0) (h := (List.length (gI r (v : Int)) : Int)) Try.underlying27 rfl rfl oc.flat (.inr ⟨rfl, rfl⟩) (.inl (congrArg some rfl)) (by omega) (by omega) (by simp; omega)) ?_
    have rsub := sl_sub oc.flat (show Int.toNat 0 ≤ Int.toNat (List.length (gI r (v : Int)) : Int) by omega) (show Int.toNat (List.length (gI r (v : Int)) : Int) ≤ List.length _ by simp)
    obtain ⟨c, hcv⟩ := vc_of (u := subV vc 1 (Int.toNat 0) (Int.toNat (List.length (gI r (v : Int)) : Int))) (sl_one rsub)
    refine h_one 14 rfl (by kernel_rfl) rfl ?_
    refine o_buildSlice (α := Vc) gc (is 4) (is 4) (4, 0) rfl [c] Try.underlying26 tpL_tw (by decide) (by decide) (vs := [(0, subV vc 1 (Int.toNat 0) (Int.toNat (List.length (gI r (v : Int)) : Int)))]) rfl rfl (.cons (vc_els hcv (sl_cells1 rsub)) .nil) ?_
    intro gd wd vd chd od
    have hs4 := hs3.seq (chd.n)
    refine ⟨hs4.same, ?_⟩
    refine h_one 15 rfl (by kernel_rfl) rfl ?_
    have ow4 := ((ow.chg ch_1 (not_no _) (not_no _)).chg ch_2 (is_ne rfl) (is_ne rfl)).chg chc (is_ne rfl) (is_ne rfl)
    refine o_append (α := Vc) (xs := us) (ys := [c]) gd (J := is 1) (S := is 1) (1, 0) rfl Try.underlying26 tpL_tw (by decide) rfl rfl rfl (ow4.chg chd (not_no _) (not_no _)) od.flat (by decide) (by simp; omega) ?_
    intro ge we ve che oe
    have hs5 := hs4.seq (che.l rfl)
    refine ⟨hs5.same, ?_⟩
    refine h_take (v := ve) 16 rfl (by kernel_rfl) (by kernel_rfl) rfl hs5.same (fun w' hw' => e_assign rfl) ?_
    refine h_nil (by kernel_rfl) ?_
    have oc5 := ((oc.chg chd (not_no _) (not_no _)).chg che (is_ne rfl) (is_ne rfl))
    have hrw5 := hrw.chg hs5 (is_nl rfl)
    refine mid (ve, us ++ [c], recol ge 3 (2, 0)) _ _ ⟨base_recol (hbase.chg hs5 (is_nl rfl)) rfl, z0, rfl, z4, (r_r_v.chg hs5 (is_nl rfl)).chg (recolor 3 (2, 0)) (is_ne rfl), oe.chg (recolor 3 (2, 0)) (is_ne rfl) (is_ne rfl), ?_⟩
    rw [htk]
    refine RwR.snoc (hrw5.chg (recolor 3 (2, 0)) (is_ne rfl)) ?_
    rw [hcv]
    exact (row_part oc5).flat.tr (fun b _ h => ⟨rfl, by have h' : (ge b).1 = 3 := h; unfold recol is; rw [if_pos h']⟩) (Nat.le_refl _)
  clear hbase r_r_v ow hrw
  rintro ⟨o_v', us', g9⟩ f9 w9 ⟨hbase, y0, y3, y4, r_r_v, ow, hrw⟩
  refine run_inBlock ?_
  refine run_region rfl ?_
  refine lv (Value.int .i64 (v : Int)) rfl (e_move y4) ?_
  refine lv (Value.int .i64 ((v : Int) + 1)) rfl (e_add (m := (v : Int)) (n := 1) rfl rfl (by omega)) ?_
  refine lv (Value.int .i64 ((v : Int) + 1)) rfl (e_assign rfl) ?_
  refine l_nil ?_
  refine back (v + 1, o_v', us', g9) _ _ ⟨hbase, y0, y3, rfl, by omega, r_r_v, ow, hrw⟩ ?_
  show r.length - (v + 1) < r.length - v
  omega
 refine run_cond_f rfl (decide_eq_false hc) ?_
 refine run_exit rfl ?_
 have hvr : v = r.length := by omega
 rw [hvr, List.take_length] at hrw
 refine run_seq (run_region rfl ?_)
 refine lv (o_v) rfl (e_move z3) ?_
 refine l_op rfl ?_
 refine o_buildSlice (α := Int) g1 (is 3) (is 3) (3, 0) rfl [(-78)] Try.underlying27 tpI_tw (by decide) (by decide) (vs := [(0, Value.int .i64 (-78))]) rfl rfl (.cons rfl .nil) ?_
 intro g2 w2 v2 ch2 o2
 refine l_op rfl ?_
 obtain ⟨c, hcv⟩ := vc_of (u := v2) (sl_one o2.flat)
 refine o_buildSlice (α := Vc) g2 (is 4) (is 4) (4, 0) rfl [c] Try.underlying26 tpL_tw (by decide) (by decide) (vs := [(0, v2)]) rfl rfl (.cons (vc_els hcv (sl_cells1 o2.flat)) .nil) ?_
 intro g3 w3 v3 ch3 o3
 refine l_op rfl ?_
 refine o_append (α := Vc) (xs := us) (ys := [c]) g3 (J := is 1) (S := is 1) (1, 0) rfl Try.underlying26 tpL_tw (by decide) rfl rfl rfl ((ow.chg ch2 (not_no _) (not_no _)).chg ch3 (not_no _) (not_no _)) o3.flat (by decide) (by simp; omega) ?_
 intro g4 w4 v4 ch4 o4
 refine lv (r_v) rfl (e_move z0) ?_
 refine lv (Value.int .i64 (List.length r : Int)) rfl (e_len Try.underlying26 rfl (((r_r_v.chg ch2 (not_no _)).chg ch3 (not_no _)).chg ch4 (is_ne rfl))) ?_
 refine lv (subV v4 1 (Int.toNat 0) (Int.toNat (List.length r : Int))) rfl (e_slice (α := Vc) (xs := us ++ [c]) (v := v4) (l := 0) (h := (List.length r : Int)) Try.underlying26 rfl rfl o4.flat (.inr ⟨rfl, rfl⟩) (.inl (congrArg some rfl)) (by omega) (by omega) (by simp; omega)) ?_
 refine lv (subV v4 1 (Int.toNat 0) (Int.toNat (List.length r : Int))) rfl (e_assign rfl) ?_
 refine l_nil ?_
 refine run_ret (vs := [subV v4 1 (Int.toNat 0) (Int.toNat (List.length r : Int))]) Try.func14 (.tmp rfl .nil) ?_
 have hb4 := ((hbase.chg ch2 (not_no _)).chg ch3 (not_no _)).chg ch4 (is_ne rfl)
 have o5 := upV_sub (sz := 1) (n := Int.toNat (List.length r : Int)) o4 (by simp; omega)
 have hrw4 : RwR g4 (is2 2 3) w4 (us ++ [c]) (TWL r) := by
  unfold TWL
  refine RwR.snoc ((((hrw.chg ch2 (not_no _)).chg ch3 (not_no _)).chg ch4 (is_ne rfl)).recol fun b h => .inl h) ?_
  rw [hcv]
  exact ((o2.flat.chg ch3 (not_no _)).chg ch4 (is_ne rfl)).mono fun c h => .inr h
 refine ⟨(fin w0 g4 (fun n => if n = 1 ∨ n = 2 ∨ n = 3 then 1 else 0), _), rfl, hb4.fresh _, ?_⟩
 have hg : ∀ k, k = 1 ∨ k = 2 ∨ k = 3 → ∀ b, is k (g4 b) → is 1 (fin w0 g4 (fun n => if n = 1 ∨ n = 2 ∨ n = 3 then 1 else 0) b) := fun k hk b h => glue_is (γ := c0) (ren := fun n => if n = 1 ∨ n = 2 ∨ n = 3 then 1 else 0) (i := k) (k := 1) hb4.col (by rcases hk with rfl | rfl | rfl <;> rfl) (if_pos hk) b h
 refine ow_rw (us := us ++ [c]) (S0 := is 1) (o5.glue (γ := c0) (ren := (fun n => if n = 1 ∨ n = 2 ∨ n = 3 then 1 else 0)) (k := 1) hb4.col rfl rfl) ?_
 exact hrw4.recol fun b h => h.elim (fun h => hg 2 (by omega) b h) (fun h => hg 3 (by omega) b h)
theorem mark_gI (l : List Int) (m : Int) : gI (l ++ [m]) (List.length l : Int) = m := by simp [gI]
set_option maxHeartbeats 1000000 in
theorem RKept_ok (w0 : World) (t : List (List Int)) (t_v : Value) (ht_v : Ro w0 t_v t) (r : List (List Int)) (r_v : Value) (hr_v : Ro w0 r_v r) (hmark : Ro w0 (upV t_v) (TWL t)) :
    Calls Try.prog 19 #[t_v, r_v] w0 (fun ee w => ee = .returned (Value.bool (decide (t = r))) ∧ Bel w0.heap.size w0 w) := by
 refine calls_of_run Try.func19 rfl (Nat.le_of_ble_eq_true rfl) ?_
 have hbase := Base.start w0
 have r_t_v := ht_v.sl
 have r_r_v := hr_v.sl
 have r_up := hmark.sl
 refine run_seq (run_region rfl ?_)
 refine lv (Value.bool false) rfl (e_assign rfl) ?_
 refine l_nil (run_seq (run_seq (run_region rfl ?_)))
 refine lv (t_v) rfl (e_move rfl) ?_
 refine lv (r_v) rfl (e_move rfl) ?_
 by_cases h : t = r
 ·
  subst h
  rw [decide_eq_true (rfl : t = t)]
  refine l_call (v := Value.bool true) (S := fun w => Bel w0.heap.size w0 w) rfl (e_call (vals := [t_v, r_v]) Try.func57 bdL_tw nmL_tw rfl) ((Lists_ok w0 t t_v ht_v t r_v hr_v).mono fun e w2 h2 => ⟨h2.1.trans (by rw [decide_eq_true (rfl : t = t)]), h2.2⟩) ?_
  intro w1 hb1
  replace hb1 := chg_below hb1 c0
  replace hbase := hbase.chg hb1 (not_no _)
  replace r_t_v := r_t_v.chg hb1 (not_no _)
  replace r_r_v := r_r_v.chg hb1 (not_no _)
  replace r_up := r_up.chg hb1 (not_no _)
  have len1 := r_r_v.small
  refine lv (Value.bool false) rfl (e_not (b := true) rfl) ?_
  refine lv (Value.bool false) rfl (e_move rfl) ?_
  refine lv (t_v) (want_y rfl rfl rfl rfl) (e_move rfl) ?_
  refine lv (r_v) (want_y rfl rfl rfl rfl) (e_move rfl) ?_
  refine lv (Value.int .i64 (List.length t : Int)) (want_y rfl rfl rfl rfl) (e_len Try.underlying26 rfl r_r_v) ?_
  refine lv (Value.int .i64 ((List.length t : Int) + 1)) (want_y rfl rfl rfl rfl) (e_add (m := (List.length t : Int)) (n := 1) rfl rfl (by omega)) ?_
  refine lv (upV t_v) (want_y rfl rfl rfl rfl) (e_slice_up (α := Rw) (xs := t.map fun l => Rw.mk l (-77)) (m := Rw.pl [-78]) (h := (List.length t : Int) + 1) Try.underlying26 rfl rfl r_up rfl (by simp)) ?_
  refine lv (r_v) (want_y rfl rfl rfl rfl) (e_move rfl) ?_
  refine lv (Value.int .i64 (List.length t : Int)) (want_y rfl rfl rfl rfl) (e_len Try.underlying26 rfl r_r_v) ?_
  refine lv (Value.pointer (some (eAddr (upV t_v) 1 (Int.toNat (List.length t : Int))))) (want_y rfl rfl rfl rfl) (e_indexAddr (α := Rw) (xs := TWL t) (v := upV t_v) (i := (List.length t : Int)) Try.underlying26 rfl rfl r_up rfl (by omega) (by simp [TWL]; omega)) ?_
  obtain ⟨z, hz, hzr⟩ := tw_row (k := t.length) (x := Rw.pl [-78]) r_up (by simp [TWL])
  have hzs : Sl c0 (is 0) w1 z [-78] := hzr
  refine lv (z) (want_y rfl rfl rfl rfl) (e_load1 tpL_tw rfl (by rw [eAddr_up]; exact hz)) ?_
  refine lv (Value.pointer (some (eAddr z 1 (Int.toNat 0)))) (want_y rfl rfl rfl rfl) (e_indexAddr (α := Int) (xs := [-78]) (v := z) (i := 0) Try.underlying27 rfl rfl hzs rfl (by omega) (by simp)) ?_
  refine lv (Value.int .i64 (-78)) (want_y rfl rfl rfl rfl) (e_load_el1 (α := Int) (xs := [-78]) (v := z) (i := 0) tpI_tw rfl hzs (by omega) (by simp) (by decide) rfl) ?_
  refine lv (Value.bool (!decide ((-78 : Int) = -78))) (want_y rfl rfl rfl rfl) (e_neq (m := -78) (n := -78) rfl rfl) ?_
  refine lv (Value.bool (!decide ((-78 : Int) = -78))) rfl (e_pick_f rfl rfl rfl) ?_
  refine l_nil ?_
  refine run_cond_f rfl (by decide) ?_
  refine run_skip ?_
  refine run_seq (run_seq (run_region rfl ?_))
  refine lv (Value.int .i64 0) rfl (e_assign rfl) ?_
  refine l_nil ?_
  refine run_block ?_
  refine run_loop (σ := Nat) (fun v f w => Base w0 c0 w ∧ f 0 = t_v ∧ f 1 = r_v ∧ f 5 = Value.int .i64 (v : Int) ∧ v ≤ t.length ∧ Sl c0 (is 0) w t_v t ∧ Sl c0 (is 0) w r_v t ∧ Sl c0 (is 0) w (upV t_v) (TWL t)) (fun v => t.length - v) 0 ⟨hbase, rfl, rfl, rfl, Nat.zero_le _, r_t_v, r_r_v, r_up⟩ ?_
  clear hbase r_t_v r_r_v r_up hzs hzr hz len1
  rintro v f1 w2 ⟨hbase, z0, z1, z5, hvl, r_t_v, r_r_v, r_up⟩ back
  have len1 := r_r_v.small
  refine run_seq (run_seq (run_region rfl ?_))
  refine lv (Value.int .i64 (v : Int)) rfl (e_move z5) ?_
  refine lv (r_v) rfl (e_move z1) ?_
  refine lv (Value.int .i64 (List.length t : Int)) rfl (e_len Try.underlying26 rfl r_r_v) ?_
  refine lv (Value.bool (decide ((v : Int) < (List.length t : Int)))) rfl (e_lss (m := (v : Int)) (n := (List.length t : Int)) rfl rfl) ?_
  refine l_nil ?_
  by_cases hc : (v : Int) < (List.length t : Int)
  ·
   refine run_cond_t rfl (decide_eq_true hc) ?_
   refine run_skip ?_
   refine run_seq ?_
   refine run_block ?_
   refine run_seq ?_
   refine region_q c0 rfl mixed_tw (by kernel_rfl) ?_
   intro w3 ch3
   replace hbase := hbase.chg ch3 (not_no _)
   replace r_t_v := r_t_v.chg ch3 (not_no _)
   replace r_r_v := r_r_v.chg ch3 (not_no _)
   replace r_up := r_up.chg ch3 (not_no _)
   have hvt : v < t.length := by omega
   have hget : (TWL t)[v]? = some (Rw.mk (gI t (v : Int)) (-77)) := by
    unfold TWL
    have e9 := gI_get (xs := t) (i := (v : Int)) (by omega) hc
    rw [Int.toNat_natCast] at e9
    rw [List.getElem?_append_left (by simpa using hvt), List.getElem?_map, e9]; rfl
   obtain ⟨u, hu, hur⟩ := tw_row (k := v) r_up hget
   have hus : Sl c0 (is 0) w3 (upV u) (gI t (v : Int) ++ [-77]) := hur
   obtain ⟨u2, hu2, hr2⟩ := sl_row (r := (v : Int)) r_r_v (by omega) hc
   have len2 := hr2.small
   refine q_val (v := t_v) rfl (fun w' hw' => e_move z0) ?_
   refine q_val (v := Value.int .i64 (v : Int)) rfl (fun w' hw' => e_move z5) ?_
   refine q_val (v := Value.pointer (some (eAddr t_v 1 (Int.toNat (v : Int))))) rfl (fun w' hw' => e_indexAddr (α := List Int) (xs := t) (v := t_v) (i := (v : Int)) Try.underlying26 rfl rfl (r_t_v.bel hw') rfl (by omega) hc) ?_
   refine q_val (v := u) rfl (fun w' hw' => e_load1 tpL_tw rfl (cel_bel hu hw')) ?_
   refine q_val (v := r_v) rfl (fun w' hw' => e_move z1) ?_
   refine q_val (v := Value.int .i64 (v : Int)) rfl (fun w' hw' => e_move z5) ?_
   refine q_val (v := Value.pointer (some (eAddr r_v 1 (Int.toNat (v : Int))))) rfl (fun w' hw' => e_indexAddr (α := List Int) (xs := t) (v := r_v) (i := (v : Int)) Try.underlying26 rfl rfl (r_r_v.bel hw') rfl (by omega) hc) ?_
   refine q_val (v := u2) rfl (fun w' hw' => e_load1 tpL_tw rfl (cel_bel hu2 hw')) ?_
   refine q_val (v := Value.int .i64 (List.length (gI t (v : Int)) : Int)) rfl (fun w' hw' => e_len Try.underlying27 rfl (hr2.bel hw')) ?_
   refine q_val (v := Value.int .i64 ((List.length (gI t (v : Int)) : Int) + 1)) rfl (fun w' hw' => e_add (m := (List.length (gI t (v : Int)) : Int)) (n := 1) rfl rfl (by omega)) ?_
   refine q_val (v := upV u) rfl (fun w' hw' => e_slice_up (α := Int) (xs := gI t (v : Int)) (m := -77) (h := (List.length (gI t (v : Int)) : Int) + 1) Try.underlying27 rfl rfl (hus.bel hw') rfl rfl) ?_
   refine q_val (v := r_v) rfl (fun w' hw' => e_move z1) ?_
   refine q_val (v := Value.int .i64 (v : Int)) rfl (fun w' hw' => e_move z5) ?_
   refine q_val (v := Value.pointer (some (eAddr r_v 1 (Int.toNat (v : Int))))) rfl (fun w' hw' => e_indexAddr (α := List Int) (xs := t) (v := r_v) (i := (v : Int)) Try.underlying26 rfl rfl (r_r_v.bel hw') rfl (by omega) hc) ?_
   refine q_val (v := u2) rfl (fun w' hw' => e_load1 tpL_tw rfl (cel_bel hu2 hw')) ?_
   refine q_val (v := Value.int .i64 (List.length (gI t (v : Int)) : Int)) rfl (fun w' hw' => e_len Try.underlying27 rfl (hr2.bel hw')) ?_
   refine q_val (v := Value.pointer (some (eAddr (upV u) 1 (Int.toNat (List.length (gI t (v : Int)) : Int))))) rfl (fun w' hw' => e_indexAddr (α := Int) (xs := gI t (v : Int) ++ [-77]) (v := upV u) (i := (List.length (gI t (v : Int)) : Int)) Try.underlying27 rfl rfl (hus.bel hw') rfl (by omega) (by simp; omega)) ?_
   refine q_val (v := Value.int .i64 (gI (gI t (v : Int) ++ [-77]) (List.length (gI t (v : Int)) : Int))) rfl (fun w' hw' => e_load_el1 (α := Int) (xs := gI t (v : Int) ++ [-77]) (v := upV u) (i := (List.length (gI t (v : Int)) : Int)) tpI_tw rfl (hus.bel hw') (by omega) (by simp; omega) (by decide) rfl) ?_
   refine q_val (v := Value.bool (!decide (gI (gI t (v : Int) ++ [-77]) (List.length (gI t (v : Int)) : Int) = -77))) rfl (fun w' hw' => e_neq (m := gI (gI t (v : Int) ++ [-77]) (List.length (gI t (v : Int)) : Int)) (n := -77) rfl rfl) ?_
   refine q_nil ?_
   intro w4 hb4
   replace hb4 := chg_below hb4 c0
   refine run_cond_f rfl (by rw [mark_gI]; rfl) ?_
   refine run_skip ?_
   refine run_inBlock ?_
   refine run_region rfl ?_
   refine lv (Value.int .i64 (v : Int)) rfl (e_move z5) ?_
   refine lv (Value.int .i64 ((v : Int) + 1)) rfl (e_add (m := (v : Int)) (n := 1) rfl rfl (by omega)) ?_
   refine lv (Value.int .i64 ((v : Int) + 1)) rfl (e_assign rfl) ?_
   refine l_nil ?_
   refine back (v + 1) _ _ ⟨hbase.chg hb4 (not_no _), z0, z1, rfl, by omega, r_t_v.chg hb4 (not_no _), r_r_v.chg hb4 (not_no _), r_up.chg hb4 (not_no _)⟩ ?_
   show t.length - (v + 1) < t.length - v
   omega
  refine run_cond_f rfl (decide_eq_false hc) ?_
  refine run_exit rfl ?_
  refine run_seq (run_region rfl ?_)
  refine lv (Value.bool true) rfl (e_assign rfl) ?_
  refine l_nil ?_
  refine run_ret (vs := [Value.bool true]) Try.func19 (.tmp rfl .nil) ?_
  exact ⟨rfl, hbase.below⟩
 refine l_call (v := Value.bool false) (S := fun w => Bel w0.heap.size w0 w) rfl (e_call (vals := [t_v, r_v]) Try.func57 bdL_tw nmL_tw rfl) ((Lists_ok w0 t t_v ht_v r r_v hr_v).mono fun e w2 h2 => ⟨h2.1.trans (by rw [decide_eq_false h]), h2.2⟩) ?_
 intro w1 hb1
 replace hb1 := chg_below hb1 c0
 replace hbase := hbase.chg hb1 (not_no _)
 refine lv (Value.bool true) rfl (e_not (b := false) rfl) ?_
 refine lv (Value.bool true) rfl (e_move rfl) ?_
 refine l_skip (want_n rfl rfl rfl rfl) ?_
 refine l_skip (want_n rfl rfl rfl rfl) ?_
 refine l_skip (want_n rfl rfl rfl rfl) ?_
 refine l_skip (want_n rfl rfl rfl rfl) ?_
 refine l_skip (want_n rfl rfl rfl rfl) ?_
 refine l_skip (want_n rfl rfl rfl rfl) ?_
 refine l_skip (want_n rfl rfl rfl rfl) ?_
 refine l_skip (want_n rfl rfl rfl rfl) ?_
 refine l_skip (want_n rfl rfl rfl rfl) ?_
 refine l_skip (want_n rfl rfl rfl rfl) ?_
 refine l_skip (want_n rfl rfl rfl rfl) ?_
 refine l_skip (want_n rfl rfl rfl rfl) ?_
 refine lv (Value.bool true) rfl (e_pick_t rfl rfl rfl) ?_
 refine l_nil ?_
 refine run_cond_t rfl rfl ?_
 refine run_seq (run_region rfl ?_)
 refine lv (Value.bool false) rfl (e_assign rfl) ?_
 refine l_nil ?_
 refine run_ret (vs := [Value.bool false]) Try.func19 (.tmp rfl .nil) ?_
 exact ⟨by rw [decide_eq_false h]; rfl, hbase.below⟩
end TL
