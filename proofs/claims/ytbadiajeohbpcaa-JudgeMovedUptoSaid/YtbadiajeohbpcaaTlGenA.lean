import Derived.Test.YtbadiajeohbpcaaTlP2
import Derived.Test.YtbadiajeohbpcaaProg
set_option linter.all false
set_option maxRecDepth 20000
namespace TL
open Go Go.Proofs
theorem mw : Try.prog.follows .mixedOrders = true := by kernel_rfl
theorem ar : Tp Try.prog 3 false 1 8 (.int .i64 0) := Tp.of (by kernel_rfl)
theorem cD : Tp Try.prog 22 false 1 24 (.slice none 0 0) := Tp.of (by kernel_rfl)
theorem dw : Tp Try.prog 59 true 2 16 (.agg #[.int .i64 0, .int .i64 0]) := Tp.of (by kernel_rfl)
theorem k8 (w0 : World) (g : (Int) × (List ((Int) × (Int)))) (g_v : Value) (hg_v : Ro w0 g_v g.2) :
    Calls Try.prog 32 #[vg [vi g.1, g_v]] w0 (fun ee w => ee = .returned (Value.bool (cP g)) ∧ dE w0.heap.size w0 w) := by
 refine aD Try.func32 rfl (Nat.le_of_ble_eq_true rfl) ?_
 have bH := bc.start w0
 have Rg := hg_v.sl
 refine a7 (a6 rfl (bL rfl (bw c0 (is 1) (1, 0) rfl rfl ?_)))
 intro g4 w1 b3 ch2 bx5
 replace bx5 : Bx g4 (is 1) w1 b3 [vi g.1, g_v] := bx5
 refine ma (Value.bool false) (aa (a7 (a7 (a6 rfl (lx (a8 Try.underlying24 rfl rfl rfl rfl) (lx (af ar rfl bx5 rfl) (lx (b6 (m := g.1) (n := 0) rfl rfl) (mv (Value.bool (decide (g.1 < 0))) ?_))))))))
 by_cases q10 : g.1 < 0
 ·
  refine ab (wn (dt q10)) (ab (wn (dt q10)) (ab (wn (dt q10)) (lw (Value.bool true) (av rfl (dt q10) rfl) (mv (Value.bool true) (ab (wn rfl) (ab (wn rfl) (ab (wn rfl) (ab (wn rfl) (lw (Value.bool true) (av rfl rfl rfl) (aa (ah rfl rfl (a7 ?_))))))))))))
  clear bx5
  refine a6 rfl (ma (Value.bool false) (aa (al (vs := [Value.bool false]) Try.func32 (.tmp rfl .nil) ?_)))
  have e0 : (false : Bool) = (cP g) := by
    exact (cj (fun h => by unfold c9 at h; omega)).symm
  replace bH := bH.cn ch2
  exact ⟨(congrArg (a₁ := false) (fun (z0 : Bool) => Ending.returned (Value.bool z0)) e0), bH.below⟩
 refine lv (vp b3 0) (wy (df q10)) (a8 Try.underlying24 rfl rfl rfl rfl) (lv (vi g.1) (wy (df q10)) (af ar rfl bx5 rfl) (lv (Value.bool (decide (1024 < g.1))) (wy (df q10)) (c8 (m := g.1) (n := 1024) rfl rfl) (lw (Value.bool (decide (1024 < g.1))) (aE rfl (df q10) rfl) (mv (Value.bool (decide (1024 < g.1))) ?_))))
 by_cases q15 : 1024 < g.1
 ·
  refine ab (wn (dt q15)) (ab (wn (dt q15)) (ab (wn (dt q15)) (ab (wn (dt q15)) (lw (Value.bool true) (av rfl (dt q15) rfl) (aa (ah rfl rfl (a7 ?_)))))))
  clear bx5
  refine a6 rfl (ma (Value.bool false) (aa (al (vs := [Value.bool false]) Try.func32 (.tmp rfl .nil) ?_)))
  have e0 : (false : Bool) = (cP g) := by
    exact (cj (fun h => by unfold c9 at h; omega)).symm
  replace bH := bH.cn ch2
  exact ⟨(congrArg (a₁ := false) (fun (z0 : Bool) => Ending.returned (Value.bool z0)) e0), bH.below⟩
 refine lv (vp b3 1) (wy (df q15)) (a8 Try.underlying24 rfl rfl rfl rfl) (lv (g_v) (wy (df q15)) (af cD rfl bx5 rfl) ?_)
 replace Rg := Rg.cn ch2
 have len6 := (Rg).small
 refine lv (vi (g.2.length : Int)) (wy (df q15)) (bb Try.underlying22 rfl Rg) (lv (Value.bool (decide (3072 < (g.2.length : Int)))) (wy (df q15)) (c8 (m := (g.2.length : Int)) (n := 3072) rfl rfl) (lw (Value.bool (decide (3072 < (g.2.length : Int)))) (aE rfl (df q15) rfl) (aa ?_)))
 by_cases p1 : 3072 < (g.2.length : Int)
 ·
  refine ah rfl (dt p1) (a7 ?_)
  clear bx5
  refine a6 rfl (ma (Value.bool false) (aa (al (vs := [Value.bool false]) Try.func32 (.tmp rfl .nil) ?_)))
  have e0 : (false : Bool) = (cP g) := by
    exact (cj (fun h => by unfold c9 at h; omega)).symm
  replace bH := bH.cn ch2
  exact ⟨(congrArg (a₁ := false) (fun (z0 : Bool) => Ending.returned (Value.bool z0)) e0), bH.below⟩
 refine aj rfl (df p1) (ao (a7 (a7 (a6 rfl (lx (a8 Try.underlying24 rfl rfl rfl rfl) (lx (af cD rfl bx5 rfl) (lx (bb Try.underlying22 rfl Rg) (mi 0 (aa (au ?_))))))))))
 refine aX (σ := Nat × aM) (fun ⟨k, gq⟩ f w => bc w0 gq w ∧ f 1 = vp b3 0 ∧ f 22 = g_v ∧ f 23 = vi (g.2.length : Int) ∧ f 24 = vi (k : Int) ∧ Sl gq (is 0) w g_v g.2 ∧ Bx gq (is 1) w b3 [vi g.1, g_v] ∧ (k : Int) ≤ ((g.2.length : Int) : Int) ∧ (∀ e ∈ List.take k g.2, lH g.1 e)) (fun ⟨k, gq⟩ => Int.toNat (((g.2.length : Int) : Int) - (k : Int))) (0, g4) ?_ ?_
 · exact ⟨bH.cn ch2, rfl, rfl, rfl, rfl, Rg, bx5, by omega, by simp⟩
 clear Rg bx5 bH
 rintro ⟨k, g9⟩ f7 w8 ⟨bH, zs1, zs22, zs23, zs24, Rg, bx5, hle_k, hinv4⟩ back4
 refine a7 (a6 rfl (lx (b6 (m := (k : Int)) (n := (g.2.length : Int)) zs24 zs23) (aa (a7 ?_))))
 by_cases p4 : (k : Int) < (g.2.length : Int)
 ·
  refine ah rfl (dt p4) (ao (a7 (au (a7 (a6 rfl (lx (am (v := g_v) (i := (k : Int)) Try.underlying22 rfl zs22 Rg zs24 (by omega) (by omega)) (lw (vg [vi ((gI g.2 (k : Int)).1), vi ((gI g.2 (k : Int)).2)]) (aO (v := g_v) (i := (k : Int)) dw rfl Rg (by omega) (by omega) rfl) (lo (aQ g9 (is 2) (2, 0) rfl dw ?_)))))))))
  intro g13 w10 b12 ch11 bx14
  replace bx14 : Bx g13 (is 2) w10 b12 [vi 0, vi 0] := bx14
  refine lo (ag (cs' := [vi ((gI g.2 (k : Int)).1), vi ((gI g.2 (k : Int)).2)]) dw rfl rfl bx14 rfl (Nat.le_of_ble_eq_true rfl) (AllOne.all (.cons rfl (.cons rfl .nil))) rfl ?_)
  intro w15 ch16 bx17
  clear bx14
  refine aa (a7 (a6 rfl (lx (ad (ds := [vi ((gI g.2 (k : Int)).1), vi ((gI g.2 (k : Int)).2)]) dw rfl bx17 rfl rfl) (mi 0 (aa (au (fz (a7 ?_))))))))
  clear bx17
  refine a6 rfl (lx (b6 (m := 0) (n := 2) rfl rfl) (aa (a7 (ah rfl rfl (ao (a7 (au (a7 (a6 rfl (lw (vi ((gI g.2 (k : Int)).1)) (dz Try.underlying59 ar rfl rfl (by decide) (by decide) rfl) (ai ((gI g.2 (k : Int)).1) ?_)))))))))))
  refine aa (a7 (a6 rfl (mi ((gI g.2 (k : Int)).1) (lx (b6 (m := (gI g.2 (k : Int)).1) (n := 0) rfl rfl) (mv (Value.bool (decide (((gI g.2 (k : Int)).1) < 0))) ?_)))))
  by_cases q34 : ((gI g.2 (k : Int)).1) < 0
  ·
   refine ab (wn (dt q34)) (ab (wn (dt q34)) (ab (wn (dt q34)) (ab (wn (dt q34)) (lw (Value.bool true) (av rfl (dt q34) rfl) (aa (ah rfl rfl (a7 ?_)))))))
   clear bx5
   refine a6 rfl (ma (Value.bool false) (aa (al (vs := [Value.bool false]) Try.func32 (.tmp rfl .nil) ?_)))
   have e0 : (false : Bool) = (cP g) := by
     exact (cj (fun h => by have h2 := h.2.2.2 _ (aV (xs := g.2) (i := (k : Int)) (by omega) ‹_›); unfold lH at h2; omega)).symm
   replace bH := bH.cn ch11
   replace bH := bH.ce ch16
   exact ⟨(congrArg (a₁ := false) (fun (z0 : Bool) => Ending.returned (Value.bool z0)) e0), bH.below⟩
  refine lv (vi ((gI g.2 (k : Int)).1)) (wy (df q34)) (aF rfl) (lv (vp b3 0) (wy (df q34)) (a8 Try.underlying24 rfl rfl zs1 rfl) ?_)
  replace bx5 := (bx5.cn ch11).ce ch16
  refine lv (vi g.1) (wy (df q34)) (af ar rfl bx5 rfl) (lv (Value.bool (decide (g.1 ≤ ((gI g.2 (k : Int)).1)))) (wy (df q34)) (fy (m := (gI g.2 (k : Int)).1) (n := g.1) rfl rfl) (lw (Value.bool (decide (g.1 ≤ ((gI g.2 (k : Int)).1)))) (aE rfl (df q34) rfl) (aa ?_)))
  by_cases p9 : g.1 ≤ ((gI g.2 (k : Int)).1)
  ·
   refine ah rfl (dt p9) (a7 ?_)
   clear bx5
   refine a6 rfl (ma (Value.bool false) (aa (al (vs := [Value.bool false]) Try.func32 (.tmp rfl .nil) ?_)))
   have e0 : (false : Bool) = (cP g) := by
     exact (cj (fun h => by have h2 := h.2.2.2 _ (aV (xs := g.2) (i := (k : Int)) (by omega) ‹_›); unfold lH at h2; omega)).symm
   replace bH := bH.cn ch11
   replace bH := bH.ce ch16
   exact ⟨(congrArg (a₁ := false) (fun (z0 : Bool) => Ending.returned (Value.bool z0)) e0), bH.below⟩
  refine aj rfl (df p9) (ao (aq (a6 rfl (lx (aW (m := 0) (n := 1) rfl rfl (by omega)) (mi 1 (aa (cv (a7 (a6 rfl (lx (b6 (m := 1) (n := 2) rfl rfl) ?_))))))))))
  refine aa (a7 (ah rfl rfl (ao (a7 (au (a7 (a6 rfl (lw (vi ((gI g.2 (k : Int)).2)) (dz Try.underlying59 ar rfl rfl (by decide) (by decide) rfl) (ai ((gI g.2 (k : Int)).2) (aa (a7 (a6 rfl (mi ((gI g.2 (k : Int)).2) ?_)))))))))))))
  refine lx (b6 (m := (gI g.2 (k : Int)).2) (n := 0) rfl rfl) (mv (Value.bool (decide (((gI g.2 (k : Int)).2) < 0))) ?_)
  by_cases q34_18 : ((gI g.2 (k : Int)).2) < 0
  ·
   refine ab (wn (dt q34_18)) (ab (wn (dt q34_18)) (ab (wn (dt q34_18)) (ab (wn (dt q34_18)) (lw (Value.bool true) (av rfl (dt q34_18) rfl) (aa (ah rfl rfl (a7 ?_)))))))
   clear bx5
   refine a6 rfl (ma (Value.bool false) (aa (al (vs := [Value.bool false]) Try.func32 (.tmp rfl .nil) ?_)))
   have e0 : (false : Bool) = (cP g) := by
     exact (cj (fun h => by have h2 := h.2.2.2 _ (aV (xs := g.2) (i := (k : Int)) (by omega) ‹_›); unfold lH at h2; omega)).symm
   replace bH := bH.cn ch11
   replace bH := bH.ce ch16
   exact ⟨(congrArg (a₁ := false) (fun (z0 : Bool) => Ending.returned (Value.bool z0)) e0), bH.below⟩
  refine lv (vi ((gI g.2 (k : Int)).2)) (wy (df q34_18)) (aF rfl) (lv (vp b3 0) (wy (df q34_18)) (a8 Try.underlying24 rfl rfl zs1 rfl) (lv (vi g.1) (wy (df q34_18)) (af ar rfl bx5 rfl) (lv (Value.bool (decide (g.1 ≤ ((gI g.2 (k : Int)).2)))) (wy (df q34_18)) (fy (m := (gI g.2 (k : Int)).2) (n := g.1) rfl rfl) (lw (Value.bool (decide (g.1 ≤ ((gI g.2 (k : Int)).2)))) (aE rfl (df q34_18) rfl) (aa ?_)))))
  by_cases p9_19 : g.1 ≤ ((gI g.2 (k : Int)).2)
  ·
   refine ah rfl (dt p9_19) (a7 ?_)
   clear bx5
   refine a6 rfl (ma (Value.bool false) (aa (al (vs := [Value.bool false]) Try.func32 (.tmp rfl .nil) ?_)))
   have e0 : (false : Bool) = (cP g) := by
     exact (cj (fun h => by have h2 := h.2.2.2 _ (aV (xs := g.2) (i := (k : Int)) (by omega) ‹_›); unfold lH at h2; omega)).symm
   replace bH := bH.cn ch11
   replace bH := bH.ce ch16
   exact ⟨(congrArg (a₁ := false) (fun (z0 : Bool) => Ending.returned (Value.bool z0)) e0), bH.below⟩
  refine aj rfl (df p9_19) (ao (aq (a6 rfl (lx (aW (m := 1) (n := 1) rfl rfl (by omega)) (mi 2 (aa (cv (a7 (a6 rfl (lx (b6 (m := 2) (n := 2) rfl rfl) ?_))))))))))
  refine aa (a7 (aj rfl rfl (aR rfl (aq (a6 rfl (lx (aW (m := (k : Int)) (n := 1) zs24 rfl (by omega)) (mi ((k : Int) + 1) (aa ?_))))))))
  replace bH := bH.cn ch11
  refine back4 (k + 1, g13) _ _ ⟨bH.ce ch16, zs1, zs22, zs23, rfl, (Rg.cn ch11).ce ch16, bx5, by omega, ?_⟩ ?_
  · show ∀ e ∈ List.take (k + 1) g.2, lH g.1 e
    rw [bD ‹_›]
    intro e he
    rcases List.mem_append.1 he with h | h
    · exact hinv4 e h
    · obtain rfl := List.mem_singleton.1 h
      refine ⟨?_, ?_⟩ <;> omega
  · show Int.toNat (((g.2.length : Int) : Int) - ((k + 1) : Int)) < Int.toNat (((g.2.length : Int) : Int) - (k : Int))
    omega
 refine aj rfl (df p4) (aR rfl (a7 ?_))
 clear bx5
 refine a6 rfl (ma (Value.bool true) (aa (al (vs := [Value.bool true]) Try.func32 (.tmp rfl .nil) ?_)))
 have e0 : (true : Bool) = (cP g) := by
   exact (jF ⟨by omega, by omega, by omega, by rw [List.take_of_length_le (by omega)] at hinv4; exact hinv4⟩).symm
 exact ⟨(congrArg (a₁ := true) (fun (z0 : Bool) => Ending.returned (Value.bool z0)) e0), bH.below⟩
theorem mW (w0 : World) (g : (Int) × (List ((Int) × (Int)))) (g_v : Value) (hg_v : Ro w0 g_v g.2) :
    Calls Try.prog 15 #[vg [vi g.1, g_v]] w0 (fun ee w => ee = .returned (Value.bool (cP g)) ∧ dE w0.heap.size w0 w) := by
 refine aD Try.func15 rfl (Nat.le_of_ble_eq_true rfl) ?_
 have bH := bc.start w0
 have Rg := hg_v.sl
 refine a7 (a6 rfl (bL rfl (bw c0 (is 1) (1, 0) rfl rfl ?_)))
 intro g4 w1 b3 ch2 bx5
 replace bx5 : Bx g4 (is 1) w1 b3 [vi g.1, g_v] := bx5
 refine ma (Value.bool false) (aa (a7 (a7 (a6 rfl (lx (a8 Try.underlying24 rfl rfl rfl rfl) (lx (af ar rfl bx5 rfl) (lx (b6 (m := g.1) (n := 0) rfl rfl) (mv (Value.bool (decide (g.1 < 0))) ?_))))))))
 by_cases q8 : g.1 < 0
 ·
  refine ab (wn (dt q8)) (ab (wn (dt q8)) (ab (wn (dt q8)) (lw (Value.bool true) (av rfl (dt q8) rfl) (mv (Value.bool true) (ab (wn rfl) (ab (wn rfl) (ab (wn rfl) (ab (wn rfl) (lw (Value.bool true) (av rfl rfl rfl) (aa (ah rfl rfl (a7 ?_))))))))))))
  clear bx5
  refine a6 rfl (ma (Value.bool false) (aa (al (vs := [Value.bool false]) Try.func15 (.tmp rfl .nil) ?_)))
  have e0 : (false : Bool) = (cP g) := by
    exact (cj (fun h => by unfold c9 at h; omega)).symm
  replace bH := bH.cn ch2
  exact ⟨(congrArg (a₁ := false) (fun (z0 : Bool) => Ending.returned (Value.bool z0)) e0), bH.below⟩
 refine lv (vp b3 0) (wy (df q8)) (a8 Try.underlying24 rfl rfl rfl rfl) (lv (vi g.1) (wy (df q8)) (af ar rfl bx5 rfl) (lv (Value.bool (decide (1024 < g.1))) (wy (df q8)) (c8 (m := g.1) (n := 1024) rfl rfl) (lw (Value.bool (decide (1024 < g.1))) (aE rfl (df q8) rfl) (mv (Value.bool (decide (1024 < g.1))) ?_))))
 by_cases q13 : 1024 < g.1
 ·
  refine ab (wn (dt q13)) (ab (wn (dt q13)) (ab (wn (dt q13)) (ab (wn (dt q13)) (lw (Value.bool true) (av rfl (dt q13) rfl) (aa (ah rfl rfl (a7 ?_)))))))
  clear bx5
  refine a6 rfl (ma (Value.bool false) (aa (al (vs := [Value.bool false]) Try.func15 (.tmp rfl .nil) ?_)))
  have e0 : (false : Bool) = (cP g) := by
    exact (cj (fun h => by unfold c9 at h; omega)).symm
  replace bH := bH.cn ch2
  exact ⟨(congrArg (a₁ := false) (fun (z0 : Bool) => Ending.returned (Value.bool z0)) e0), bH.below⟩
 refine lv (vp b3 1) (wy (df q13)) (a8 Try.underlying24 rfl rfl rfl rfl) (lv (g_v) (wy (df q13)) (af cD rfl bx5 rfl) ?_)
 replace Rg := Rg.cn ch2
 have len6 := (Rg).small
 refine lv (vi (g.2.length : Int)) (wy (df q13)) (bb Try.underlying22 rfl Rg) (lv (Value.bool (decide (3072 < (g.2.length : Int)))) (wy (df q13)) (c8 (m := (g.2.length : Int)) (n := 3072) rfl rfl) (lw (Value.bool (decide (3072 < (g.2.length : Int)))) (aE rfl (df q13) rfl) (aa ?_)))
 by_cases p1 : 3072 < (g.2.length : Int)
 ·
  refine ah rfl (dt p1) (a7 ?_)
  clear bx5
  refine a6 rfl (ma (Value.bool false) (aa (al (vs := [Value.bool false]) Try.func15 (.tmp rfl .nil) ?_)))
  have e0 : (false : Bool) = (cP g) := by
    exact (cj (fun h => by unfold c9 at h; omega)).symm
  replace bH := bH.cn ch2
  exact ⟨(congrArg (a₁ := false) (fun (z0 : Bool) => Ending.returned (Value.bool z0)) e0), bH.below⟩
 refine aj rfl (df p1) (ao (a7 (a7 (a6 rfl (ai 0 (aa (au ?_)))))))
 refine aX (σ := Nat × aM) (fun ⟨k, gq⟩ f w => bc w0 gq w ∧ f 1 = vp b3 0 ∧ f 3 = vi (k : Int) ∧ Sl gq (is 0) w g_v g.2 ∧ Bx gq (is 1) w b3 [vi g.1, g_v] ∧ (k : Int) ≤ ((g.2.length : Int) : Int) ∧ (∀ e ∈ List.take k g.2, lH g.1 e)) (fun ⟨k, gq⟩ => Int.toNat (((g.2.length : Int) : Int) - (k : Int))) (0, g4) ?_ ?_
 · exact ⟨bH.cn ch2, rfl, rfl, Rg, bx5, by omega, by simp⟩
 clear Rg bx5 bH
 rintro ⟨k, g9⟩ f7 w8 ⟨bH, zs1, zs3, Rg, bx5, hle_k, hinv4⟩ back4
 refine a7 (a7 (a6 rfl (mz zs3 (lx (a8 Try.underlying24 rfl rfl zs1 rfl) (lx (af cD rfl bx5 rfl) (lx (bb Try.underlying22 rfl Rg) (lx (b6 (m := (k : Int)) (n := (g.2.length : Int)) rfl rfl) (aa ?_))))))))
 by_cases p4 : (k : Int) < (g.2.length : Int)
 ·
  refine ah rfl (dt p4) (ao (a7 (au (a7 (a6 rfl (ai 0 (aa (au (fz (a7 (a7 (a6 rfl ?_))))))))))))
  refine mi 0 (lx (b6 (m := 0) (n := 2) rfl rfl) (aa (ah rfl rfl (ao (a7 (au (a7 (cm g9 rfl mw (by kernel_rfl) ?_))))))))
  intro w11 ch10
  refine qx (fun w' hw' => a8 Try.underlying24 rfl rfl zs1 rfl) ?_
  replace bx5 := bx5.cn ch10
  refine qx (fun w' hw' => af cD rfl (bx5.bel hw') rfl) (qz zs3 (qm (vi 0) ?_))
  replace Rg := Rg.cn ch10
  refine qx (fun w' hw' => am (v := g_v) (i := (k : Int)) Try.underlying22 rfl rfl (Rg.bel hw') rfl (by omega) (by omega)) (qx (fun w' hw' => cK Try.underlying59 rfl rfl rfl (by decide) (by decide) rfl) (qx (fun w' hw' => bV (v := g_v) (i := (k : Int)) ar rfl (Rg.bel hw') (by omega) (by omega) (by decide) rfl) (qx (fun w' hw' => b6 (m := (gI g.2 (k : Int)).1) (n := 0) rfl rfl) (qm (Value.bool (decide (((gI g.2 (k : Int)).1) < 0))) ?_))))
  by_cases q38 : ((gI g.2 (k : Int)).1) < 0
  ·
   refine aP (wn (dt q38)) (aP (wn (dt q38)) (aP (wn (dt q38)) (aP (wn (dt q38)) (aP (wn (dt q38)) (aP (wn (dt q38)) (aP (wn (dt q38)) (aP (wn (dt q38)) (aP (wn (dt q38)) (aP (wn (dt q38)) ?_)))))))))
   refine qv (Value.bool true) (fun w' hw' => av rfl (dt q38) rfl) (de ?_)
   intro w12 hc13
   replace hc13 := ak hc13 g9
   refine ah rfl rfl (a7 ?_)
   clear bx5
   refine a6 rfl (ma (Value.bool false) (aa (al (vs := [Value.bool false]) Try.func15 (.tmp rfl .nil) ?_)))
   have e0 : (false : Bool) = (cP g) := by
     exact (cj (fun h => by have h2 := h.2.2.2 _ (aV (xs := g.2) (i := (k : Int)) (by omega) ‹_›); unfold lH at h2; omega)).symm
   replace bH := bH.cn ch10
   replace bH := bH.cn hc13
   exact ⟨(congrArg (a₁ := false) (fun (z0 : Bool) => Ending.returned (Value.bool z0)) e0), bH.below⟩
  refine aS (v := vp b3 1) (wy (df q38)) (fun w' hw' => a8 Try.underlying24 rfl rfl zs1 rfl) (aS (v := g_v) (wy (df q38)) (fun w' hw' => af cD rfl (bx5.bel hw') rfl) (aS (v := vi (k : Int)) (wy (df q38)) (fun w' hw' => aF zs3) (aS (v := vi 0) (wy (df q38)) (fun w' hw' => aF rfl) (aS (v := Value.pointer (some (b9 g_v 2 (Int.toNat (k : Int))))) (wy (df q38)) (fun w' hw' => am (α := (Int) × (Int)) (xs := g.2) (v := g_v) (i := (k : Int)) Try.underlying22 rfl rfl (Rg.bel hw') rfl (by omega) (by omega)) ?_))))
  refine aS (v := Value.pointer (some ⟨(b9 g_v 2 (Int.toNat (k : Int))).block, (b9 g_v 2 (Int.toNat (k : Int))).off + 0, none⟩)) (wy (df q38)) (fun w' hw' => cK Try.underlying59 rfl rfl rfl (by decide) (by decide) rfl) (aS (v := vi ((gI g.2 (k : Int)).1)) (wy (df q38)) (fun w' hw' => bV (α := (Int) × (Int)) (xs := g.2) (v := g_v) (i := (k : Int)) ar rfl (Rg.bel hw') (by omega) (by omega) (by decide) rfl) (aS (v := vp b3 0) (wy (df q38)) (fun w' hw' => a8 Try.underlying24 rfl rfl zs1 rfl) (aS (v := vi g.1) (wy (df q38)) (fun w' hw' => af ar rfl (bx5.bel hw') rfl) ?_)))
  refine aS (v := Value.bool (decide (g.1 ≤ ((gI g.2 (k : Int)).1)))) (wy (df q38)) (fun w' hw' => fy (m := (gI g.2 (k : Int)).1) (n := g.1) rfl rfl) (qv (Value.bool (decide (g.1 ≤ ((gI g.2 (k : Int)).1)))) (fun w' hw' => aE rfl (df q38) rfl) (de ?_))
  intro w14 hc15
  replace hc15 := ak hc15 g9
  by_cases p9 : g.1 ≤ ((gI g.2 (k : Int)).1)
  ·
   refine ah rfl (dt p9) (a7 ?_)
   clear bx5
   refine a6 rfl (ma (Value.bool false) (aa (al (vs := [Value.bool false]) Try.func15 (.tmp rfl .nil) ?_)))
   have e0 : (false : Bool) = (cP g) := by
     exact (cj (fun h => by have h2 := h.2.2.2 _ (aV (xs := g.2) (i := (k : Int)) (by omega) ‹_›); unfold lH at h2; omega)).symm
   replace bH := bH.cn ch10
   replace bH := bH.cn hc15
   exact ⟨(congrArg (a₁ := false) (fun (z0 : Bool) => Ending.returned (Value.bool z0)) e0), bH.below⟩
  refine aj rfl (df p9) (ao (aq (a6 rfl (mi 0 (lx (aW (m := 0) (n := 1) rfl rfl (by omega)) (ai 1 (aa (cv (a7 (a7 (a6 rfl ?_)))))))))))
  refine mi 1 (lx (b6 (m := 1) (n := 2) rfl rfl) (aa (ah rfl rfl (ao (a7 (au (a7 (cm g9 rfl mw (by kernel_rfl) ?_))))))))
  intro w17 ch16
  refine qx (fun w' hw' => a8 Try.underlying24 rfl rfl zs1 rfl) ?_
  replace bx5 := (bx5.cn hc15).cn ch16
  refine qx (fun w' hw' => af cD rfl (bx5.bel hw') rfl) (qz zs3 (qm (vi 1) ?_))
  replace Rg := (Rg.cn hc15).cn ch16
  refine qx (fun w' hw' => am (v := g_v) (i := (k : Int)) Try.underlying22 rfl rfl (Rg.bel hw') rfl (by omega) (by omega)) (qx (fun w' hw' => cK Try.underlying59 rfl rfl rfl (by decide) (by decide) rfl) (qx (fun w' hw' => bV (v := g_v) (i := (k : Int)) ar rfl (Rg.bel hw') (by omega) (by omega) (by decide) rfl) (qx (fun w' hw' => b6 (m := (gI g.2 (k : Int)).2) (n := 0) rfl rfl) (qm (Value.bool (decide (((gI g.2 (k : Int)).2) < 0))) ?_))))
  by_cases q38_18 : ((gI g.2 (k : Int)).2) < 0
  ·
   refine aP (wn (dt q38_18)) (aP (wn (dt q38_18)) (aP (wn (dt q38_18)) (aP (wn (dt q38_18)) (aP (wn (dt q38_18)) (aP (wn (dt q38_18)) (aP (wn (dt q38_18)) (aP (wn (dt q38_18)) (aP (wn (dt q38_18)) (aP (wn (dt q38_18)) ?_)))))))))
   refine qv (Value.bool true) (fun w' hw' => av rfl (dt q38_18) rfl) (de ?_)
   intro w19 hc20
   replace hc20 := ak hc20 g9
   refine ah rfl rfl (a7 ?_)
   clear bx5
   refine a6 rfl (ma (Value.bool false) (aa (al (vs := [Value.bool false]) Try.func15 (.tmp rfl .nil) ?_)))
   have e0 : (false : Bool) = (cP g) := by
     exact (cj (fun h => by have h2 := h.2.2.2 _ (aV (xs := g.2) (i := (k : Int)) (by omega) ‹_›); unfold lH at h2; omega)).symm
   have C21 := cg [] (ch10.n.seq (hc15.n.seq (ch16.n.seq hc20.n)))
   replace bH := bH.ca C21
   exact ⟨(congrArg (a₁ := false) (fun (z0 : Bool) => Ending.returned (Value.bool z0)) e0), bH.below⟩
  refine aS (v := vp b3 1) (wy (df q38_18)) (fun w' hw' => a8 Try.underlying24 rfl rfl zs1 rfl) (aS (v := g_v) (wy (df q38_18)) (fun w' hw' => af cD rfl (bx5.bel hw') rfl) (aS (v := vi (k : Int)) (wy (df q38_18)) (fun w' hw' => aF zs3) (aS (v := vi 1) (wy (df q38_18)) (fun w' hw' => aF rfl) (aS (v := Value.pointer (some (b9 g_v 2 (Int.toNat (k : Int))))) (wy (df q38_18)) (fun w' hw' => am (α := (Int) × (Int)) (xs := g.2) (v := g_v) (i := (k : Int)) Try.underlying22 rfl rfl (Rg.bel hw') rfl (by omega) (by omega)) ?_))))
  refine aS (v := Value.pointer (some ⟨(b9 g_v 2 (Int.toNat (k : Int))).block, (b9 g_v 2 (Int.toNat (k : Int))).off + 1, none⟩)) (wy (df q38_18)) (fun w' hw' => cK Try.underlying59 rfl rfl rfl (by decide) (by decide) rfl) (aS (v := vi ((gI g.2 (k : Int)).2)) (wy (df q38_18)) (fun w' hw' => bV (α := (Int) × (Int)) (xs := g.2) (v := g_v) (i := (k : Int)) ar rfl (Rg.bel hw') (by omega) (by omega) (by decide) rfl) (aS (v := vp b3 0) (wy (df q38_18)) (fun w' hw' => a8 Try.underlying24 rfl rfl zs1 rfl) (aS (v := vi g.1) (wy (df q38_18)) (fun w' hw' => af ar rfl (bx5.bel hw') rfl) ?_)))
  refine aS (v := Value.bool (decide (g.1 ≤ ((gI g.2 (k : Int)).2)))) (wy (df q38_18)) (fun w' hw' => fy (m := (gI g.2 (k : Int)).2) (n := g.1) rfl rfl) (qv (Value.bool (decide (g.1 ≤ ((gI g.2 (k : Int)).2)))) (fun w' hw' => aE rfl (df q38_18) rfl) (de ?_))
  intro w22 hc23
  replace hc23 := ak hc23 g9
  by_cases p9_24 : g.1 ≤ ((gI g.2 (k : Int)).2)
  ·
   refine ah rfl (dt p9_24) (a7 ?_)
   clear bx5
   refine a6 rfl (ma (Value.bool false) (aa (al (vs := [Value.bool false]) Try.func15 (.tmp rfl .nil) ?_)))
   have e0 : (false : Bool) = (cP g) := by
     exact (cj (fun h => by have h2 := h.2.2.2 _ (aV (xs := g.2) (i := (k : Int)) (by omega) ‹_›); unfold lH at h2; omega)).symm
   have C25 := cg [] (ch10.n.seq (hc15.n.seq (ch16.n.seq hc23.n)))
   replace bH := bH.ca C25
   exact ⟨(congrArg (a₁ := false) (fun (z0 : Bool) => Ending.returned (Value.bool z0)) e0), bH.below⟩
  refine aj rfl (df p9_24) (ao (aq (a6 rfl (mi 1 (lx (aW (m := 1) (n := 1) rfl rfl (by omega)) (ai 2 (aa (cv (a7 (a7 (a6 rfl ?_)))))))))))
  refine mi 2 (lx (b6 (m := 2) (n := 2) rfl rfl) (aa (aj rfl rfl (aR rfl (aq (a6 rfl (mz zs3 (lx (aW (m := (k : Int)) (n := 1) rfl rfl (by omega)) (ai ((k : Int) + 1) ?_)))))))))
  refine aa ?_
  have C26 := cg [] (ch10.n.seq (hc15.n.seq (ch16.n.seq hc23.n)))
  refine back4 (k + 1, g9) _ _ ⟨bH.ca C26, zs1, rfl, Rg.cn hc23, bx5.cn hc23, by omega, ?_⟩ ?_
  · show ∀ e ∈ List.take (k + 1) g.2, lH g.1 e
    rw [bD ‹_›]
    intro e he
    rcases List.mem_append.1 he with h | h
    · exact hinv4 e h
    · obtain rfl := List.mem_singleton.1 h
      refine ⟨?_, ?_⟩ <;> omega
  · show Int.toNat (((g.2.length : Int) : Int) - ((k + 1) : Int)) < Int.toNat (((g.2.length : Int) : Int) - (k : Int))
    omega
 refine aj rfl (df p4) (aR rfl (a7 ?_))
 clear bx5
 refine a6 rfl (ma (Value.bool true) (aa (al (vs := [Value.bool true]) Try.func15 (.tmp rfl .nil) ?_)))
 have e0 : (true : Bool) = (cP g) := by
   exact (jF ⟨by omega, by omega, by omega, by rw [List.take_of_length_le (by omega)] at hinv4; exact hinv4⟩).symm
 exact ⟨(congrArg (a₁ := true) (fun (z0 : Bool) => Ending.returned (Value.bool z0)) e0), bH.below⟩
end TL
