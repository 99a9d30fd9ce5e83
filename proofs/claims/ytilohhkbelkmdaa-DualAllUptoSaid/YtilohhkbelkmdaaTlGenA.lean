import Derived.Test.YtilohhkbelkmdaaTlP3
import Derived.Test.YtilohhkbelkmdaaProg
set_option linter.all false
set_option maxRecDepth 20000
namespace TL
open Go Go.Proofs
theorem kQ : Try.prog.follows .mixedOrders = true := by kernel_rfl
theorem am : Tp Try.prog 3 false 1 8 (.int .i64 0) := Tp.of (by kernel_rfl)
theorem fu : Tp Try.prog 4 false 1 1 (.bool false) := Tp.of (by kernel_rfl)
theorem bo : Tp Try.prog 22 false 1 24 (.slice none 0 0) := Tp.of (by kernel_rfl)
theorem ak : Tp Try.prog 24 true 2 32 (.agg #[.int .i64 0, .slice none 0 0]) := Tp.of (by kernel_rfl)
theorem bD : Tp Try.prog 60 true 2 16 (.agg #[.int .i64 0, .int .i64 0]) := Tp.of (by kernel_rfl)
theorem lK : Try.f35.body.isNone = false := rfl
theorem lp : (Try.f35.name == "runtime.NumGoroutine") = false := by decide +kernel
theorem ll : Try.f53.body.isNone = false := rfl
theorem l5 : (Try.f53.name == "runtime.NumGoroutine") = false := by decide +kernel
theorem uo : Try.f103.body.isNone = false := rfl
theorem ud : (Try.f103.name == "runtime.NumGoroutine") = false := by decide +kernel
theorem ld (w0 : World) (g : (Int) × (List ((Int) × (Int)))) (g_v : Value) (hg_v : Ro w0 g_v g.2) :
    Calls Try.prog 53 #[vg [vi g.1, g_v]] w0 (fun ee w => ee = .returned (Value.bool (cD g)) ∧ dH w0.heap.size w0 w) := by
 refine az Try.func53 rfl (Nat.le_of_ble_eq_true rfl) ?_
 have bH := b9.start w0
 have Rg := hg_v.sl
 refine a9 (a8 rfl (cr rfl (bR c0 (is 1) (1, 0) rfl rfl ?_)))
 intro g4 w1 b3 ch2 bx5
 replace bx5 : Bx g4 (is 1) w1 b3 [vi g.1, g_v] := bx5
 refine ma (Value.bool false) (aa (a9 (a9 (a8 rfl (lx (ad Try.underlying24 rfl rfl rfl rfl) (lx (af am rfl bx5 rfl) (lx (bc (m := g.1) (n := 0) rfl rfl) (mv (Value.bool (decide (g.1 < 0))) ?_))))))))
 by_cases q10 : g.1 < 0
 ·
  refine al (wn (dt q10)) (al (wn (dt q10)) (al (wn (dt q10)) (lw (Value.bool true) (aY rfl (dt q10) rfl) (mv (Value.bool true) (al (wn rfl) (al (wn rfl) (al (wn rfl) (al (wn rfl) (lw (Value.bool true) (aY rfl rfl rfl) (aa (ae rfl rfl (a9 ?_))))))))))))
  clear bx5
  refine a8 rfl (ma (Value.bool false) (aa (av (vs := [Value.bool false]) Try.func53 (.tmp rfl .nil) ?_)))
  have e0 : (false : Bool) = (cD g) := by
    exact (cG (fun h => by unfold bx at h; omega)).symm
  replace bH := bH.cn ch2
  exact ⟨(congrArg (a₁ := false) (fun (z0 : Bool) => Ending.returned (Value.bool z0)) e0), bH.below⟩
 refine lv (vp b3 0) (wy (df q10)) (ad Try.underlying24 rfl rfl rfl rfl) (lv (vi g.1) (wy (df q10)) (af am rfl bx5 rfl) (lv (Value.bool (decide (1024 < g.1))) (wy (df q10)) (fW (m := g.1) (n := 1024) rfl rfl) (lw (Value.bool (decide (1024 < g.1))) (b7 rfl (df q10) rfl) (mv (Value.bool (decide (1024 < g.1))) ?_))))
 by_cases q15 : 1024 < g.1
 ·
  refine al (wn (dt q15)) (al (wn (dt q15)) (al (wn (dt q15)) (al (wn (dt q15)) (lw (Value.bool true) (aY rfl (dt q15) rfl) (aa (ae rfl rfl (a9 ?_)))))))
  clear bx5
  refine a8 rfl (ma (Value.bool false) (aa (av (vs := [Value.bool false]) Try.func53 (.tmp rfl .nil) ?_)))
  have e0 : (false : Bool) = (cD g) := by
    exact (cG (fun h => by unfold bx at h; omega)).symm
  replace bH := bH.cn ch2
  exact ⟨(congrArg (a₁ := false) (fun (z0 : Bool) => Ending.returned (Value.bool z0)) e0), bH.below⟩
 refine lv (vp b3 1) (wy (df q15)) (ad Try.underlying24 rfl rfl rfl rfl) (lv (g_v) (wy (df q15)) (af bo rfl bx5 rfl) ?_)
 replace Rg := Rg.cn ch2
 have len6 := (Rg).small
 refine lv (vi (g.2.length : Int)) (wy (df q15)) (aO Try.underlying22 rfl Rg) (lv (Value.bool (decide (3072 < (g.2.length : Int)))) (wy (df q15)) (fW (m := (g.2.length : Int)) (n := 3072) rfl rfl) (lw (Value.bool (decide (3072 < (g.2.length : Int)))) (b7 rfl (df q15) rfl) (aa ?_)))
 by_cases p1 : 3072 < (g.2.length : Int)
 ·
  refine ae rfl (dt p1) (a9 ?_)
  clear bx5
  refine a8 rfl (ma (Value.bool false) (aa (av (vs := [Value.bool false]) Try.func53 (.tmp rfl .nil) ?_)))
  have e0 : (false : Bool) = (cD g) := by
    exact (cG (fun h => by unfold bx at h; omega)).symm
  replace bH := bH.cn ch2
  exact ⟨(congrArg (a₁ := false) (fun (z0 : Bool) => Ending.returned (Value.bool z0)) e0), bH.below⟩
 refine ag rfl (df p1) (aj (a9 (a9 (a8 rfl (lx (ad Try.underlying24 rfl rfl rfl rfl) (lx (af bo rfl bx5 rfl) (lx (aO Try.underlying22 rfl Rg) (mi 0 (aa (ah ?_))))))))))
 refine aN (σ := Nat × aE) (fun ⟨k, gq⟩ f w => b9 w0 gq w ∧ f 1 = vp b3 0 ∧ f 22 = g_v ∧ f 23 = vi (g.2.length : Int) ∧ f 24 = vi (k : Int) ∧ Sl gq (is 0) w g_v g.2 ∧ Bx gq (is 1) w b3 [vi g.1, g_v] ∧ (k : Int) ≤ ((g.2.length : Int) : Int) ∧ (∀ e ∈ List.take k g.2, lQ g.1 e)) (fun ⟨k, gq⟩ => Int.toNat (((g.2.length : Int) : Int) - (k : Int))) (0, g4) ?_ ?_
 · exact ⟨bH.cn ch2, rfl, rfl, rfl, rfl, Rg, bx5, by omega, by simp⟩
 clear Rg bx5 bH
 rintro ⟨k, g9⟩ f7 w8 ⟨bH, zs1, zs22, zs23, zs24, Rg, bx5, hle_k, hinv4⟩ back4
 refine a9 (a8 rfl (lx (bc (m := (k : Int)) (n := (g.2.length : Int)) zs24 zs23) (aa (a9 ?_))))
 by_cases p4 : (k : Int) < (g.2.length : Int)
 ·
  refine ae rfl (dt p4) (aj (a9 (ah (a9 (a8 rfl (lx (ab (v := g_v) (i := (k : Int)) Try.underlying22 rfl zs22 Rg zs24 (by omega) (by omega)) (lw (vg [vi ((gI g.2 (k : Int)).1), vi ((gI g.2 (k : Int)).2)]) (ep (v := g_v) (i := (k : Int)) bD rfl Rg (by omega) (by omega) rfl) (lo (bw g9 (is 2) (2, 0) rfl bD ?_)))))))))
  intro g13 w10 b12 ch11 bx14
  replace bx14 : Bx g13 (is 2) w10 b12 [vi 0, vi 0] := bx14
  refine lo (aC (cs' := [vi ((gI g.2 (k : Int)).1), vi ((gI g.2 (k : Int)).2)]) bD rfl rfl bx14 rfl (Nat.le_of_ble_eq_true rfl) (AllOne.all (.cons rfl (.cons rfl .nil))) rfl ?_)
  intro w15 ch16 bx17
  clear bx14
  refine aa (a9 (a8 rfl (lx (aq (ds := [vi ((gI g.2 (k : Int)).1), vi ((gI g.2 (k : Int)).2)]) bD rfl bx17 rfl rfl) (mi 0 (aa (ah (fB (a9 ?_))))))))
  clear bx17
  refine a8 rfl (lx (bc (m := 0) (n := 2) rfl rfl) (aa (a9 (ae rfl rfl (aj (a9 (ah (a9 (a8 rfl (lw (vi ((gI g.2 (k : Int)).1)) (fV Try.underlying60 am rfl rfl (by decide) (by decide) rfl) (ai ((gI g.2 (k : Int)).1) ?_)))))))))))
  refine aa (a9 (a8 rfl (mi ((gI g.2 (k : Int)).1) (lx (bc (m := (gI g.2 (k : Int)).1) (n := 0) rfl rfl) (mv (Value.bool (decide (((gI g.2 (k : Int)).1) < 0))) ?_)))))
  by_cases q34 : ((gI g.2 (k : Int)).1) < 0
  ·
   refine al (wn (dt q34)) (al (wn (dt q34)) (al (wn (dt q34)) (al (wn (dt q34)) (lw (Value.bool true) (aY rfl (dt q34) rfl) (aa (ae rfl rfl (a9 ?_)))))))
   clear bx5
   refine a8 rfl (ma (Value.bool false) (aa (av (vs := [Value.bool false]) Try.func53 (.tmp rfl .nil) ?_)))
   have e0 : (false : Bool) = (cD g) := by
     exact (cG (fun h => by have h2 := h.2.2.2 _ (bu (xs := g.2) (i := (k : Int)) (by omega) ‹_›); unfold lQ at h2; omega)).symm
   replace bH := bH.cn ch11
   replace bH := bH.ce ch16
   exact ⟨(congrArg (a₁ := false) (fun (z0 : Bool) => Ending.returned (Value.bool z0)) e0), bH.below⟩
  refine lv (vi ((gI g.2 (k : Int)).1)) (wy (df q34)) (au rfl) (lv (vp b3 0) (wy (df q34)) (ad Try.underlying24 rfl rfl zs1 rfl) ?_)
  replace bx5 := (bx5.cn ch11).ce ch16
  refine lv (vi g.1) (wy (df q34)) (af am rfl bx5 rfl) (lv (Value.bool (decide (g.1 ≤ ((gI g.2 (k : Int)).1)))) (wy (df q34)) (dy (m := (gI g.2 (k : Int)).1) (n := g.1) rfl rfl) (lw (Value.bool (decide (g.1 ≤ ((gI g.2 (k : Int)).1)))) (b7 rfl (df q34) rfl) (aa ?_)))
  by_cases p9 : g.1 ≤ ((gI g.2 (k : Int)).1)
  ·
   refine ae rfl (dt p9) (a9 ?_)
   clear bx5
   refine a8 rfl (ma (Value.bool false) (aa (av (vs := [Value.bool false]) Try.func53 (.tmp rfl .nil) ?_)))
   have e0 : (false : Bool) = (cD g) := by
     exact (cG (fun h => by have h2 := h.2.2.2 _ (bu (xs := g.2) (i := (k : Int)) (by omega) ‹_›); unfold lQ at h2; omega)).symm
   replace bH := bH.cn ch11
   replace bH := bH.ce ch16
   exact ⟨(congrArg (a₁ := false) (fun (z0 : Bool) => Ending.returned (Value.bool z0)) e0), bH.below⟩
  refine ag rfl (df p9) (aj (ao (a8 rfl (lx (aQ (m := 0) (n := 1) rfl rfl (by omega)) (mi 1 (aa (dF (a9 (a8 rfl (lx (bc (m := 1) (n := 2) rfl rfl) ?_))))))))))
  refine aa (a9 (ae rfl rfl (aj (a9 (ah (a9 (a8 rfl (lw (vi ((gI g.2 (k : Int)).2)) (fV Try.underlying60 am rfl rfl (by decide) (by decide) rfl) (ai ((gI g.2 (k : Int)).2) (aa (a9 (a8 rfl (mi ((gI g.2 (k : Int)).2) ?_)))))))))))))
  refine lx (bc (m := (gI g.2 (k : Int)).2) (n := 0) rfl rfl) (mv (Value.bool (decide (((gI g.2 (k : Int)).2) < 0))) ?_)
  by_cases q34_18 : ((gI g.2 (k : Int)).2) < 0
  ·
   refine al (wn (dt q34_18)) (al (wn (dt q34_18)) (al (wn (dt q34_18)) (al (wn (dt q34_18)) (lw (Value.bool true) (aY rfl (dt q34_18) rfl) (aa (ae rfl rfl (a9 ?_)))))))
   clear bx5
   refine a8 rfl (ma (Value.bool false) (aa (av (vs := [Value.bool false]) Try.func53 (.tmp rfl .nil) ?_)))
   have e0 : (false : Bool) = (cD g) := by
     exact (cG (fun h => by have h2 := h.2.2.2 _ (bu (xs := g.2) (i := (k : Int)) (by omega) ‹_›); unfold lQ at h2; omega)).symm
   replace bH := bH.cn ch11
   replace bH := bH.ce ch16
   exact ⟨(congrArg (a₁ := false) (fun (z0 : Bool) => Ending.returned (Value.bool z0)) e0), bH.below⟩
  refine lv (vi ((gI g.2 (k : Int)).2)) (wy (df q34_18)) (au rfl) (lv (vp b3 0) (wy (df q34_18)) (ad Try.underlying24 rfl rfl zs1 rfl) (lv (vi g.1) (wy (df q34_18)) (af am rfl bx5 rfl) (lv (Value.bool (decide (g.1 ≤ ((gI g.2 (k : Int)).2)))) (wy (df q34_18)) (dy (m := (gI g.2 (k : Int)).2) (n := g.1) rfl rfl) (lw (Value.bool (decide (g.1 ≤ ((gI g.2 (k : Int)).2)))) (b7 rfl (df q34_18) rfl) (aa ?_)))))
  by_cases p9_19 : g.1 ≤ ((gI g.2 (k : Int)).2)
  ·
   refine ae rfl (dt p9_19) (a9 ?_)
   clear bx5
   refine a8 rfl (ma (Value.bool false) (aa (av (vs := [Value.bool false]) Try.func53 (.tmp rfl .nil) ?_)))
   have e0 : (false : Bool) = (cD g) := by
     exact (cG (fun h => by have h2 := h.2.2.2 _ (bu (xs := g.2) (i := (k : Int)) (by omega) ‹_›); unfold lQ at h2; omega)).symm
   replace bH := bH.cn ch11
   replace bH := bH.ce ch16
   exact ⟨(congrArg (a₁ := false) (fun (z0 : Bool) => Ending.returned (Value.bool z0)) e0), bH.below⟩
  refine ag rfl (df p9_19) (aj (ao (a8 rfl (lx (aQ (m := 1) (n := 1) rfl rfl (by omega)) (mi 2 (aa (dF (a9 (a8 rfl (lx (bc (m := 2) (n := 2) rfl rfl) ?_))))))))))
  refine aa (a9 (ag rfl rfl (aI rfl (ao (a8 rfl (lx (aQ (m := (k : Int)) (n := 1) zs24 rfl (by omega)) (mi ((k : Int) + 1) (aa ?_))))))))
  replace bH := bH.cn ch11
  refine back4 (k + 1, g13) _ _ ⟨bH.ce ch16, zs1, zs22, zs23, rfl, (Rg.cn ch11).ce ch16, bx5, by omega, ?_⟩ ?_
  · show ∀ e ∈ List.take (k + 1) g.2, lQ g.1 e
    rw [bh ‹_›]
    intro e he
    rcases List.mem_append.1 he with h | h
    · exact hinv4 e h
    · obtain rfl := List.mem_singleton.1 h
      refine ⟨?_, ?_⟩ <;> omega
  · show Int.toNat (((g.2.length : Int) : Int) - ((k + 1) : Int)) < Int.toNat (((g.2.length : Int) : Int) - (k : Int))
    omega
 refine ag rfl (df p4) (aI rfl (a9 ?_))
 clear bx5
 refine a8 rfl (ma (Value.bool true) (aa (av (vs := [Value.bool true]) Try.func53 (.tmp rfl .nil) ?_)))
 have e0 : (true : Bool) = (cD g) := by
   exact (mg ⟨by omega, by omega, by omega, by rw [List.take_of_length_le (by omega)] at hinv4; exact hinv4⟩).symm
 exact ⟨(congrArg (a₁ := true) (fun (z0 : Bool) => Ending.returned (Value.bool z0)) e0), bH.below⟩
theorem jo (w0 : World) (g : (Int) × (List ((Int) × (Int)))) (g_v : Value) (hg_v : Ro w0 g_v g.2) :
    Calls Try.prog 35 #[vg [vi g.1, g_v]] w0 (fun ee w => ee = .returned (Value.bool (cD g)) ∧ dH w0.heap.size w0 w) := by
 refine az Try.func35 rfl (Nat.le_of_ble_eq_true rfl) ?_
 have bH := b9.start w0
 have Rg := hg_v.sl
 refine a9 (a8 rfl (cr rfl (bR c0 (is 1) (1, 0) rfl rfl ?_)))
 intro g4 w1 b3 ch2 bx5
 replace bx5 : Bx g4 (is 1) w1 b3 [vi g.1, g_v] := bx5
 refine ma (Value.bool false) (aa (a9 (a9 (a8 rfl (lx (ad Try.underlying24 rfl rfl rfl rfl) (lx (af am rfl bx5 rfl) (lx (bc (m := g.1) (n := 0) rfl rfl) (mv (Value.bool (decide (g.1 < 0))) ?_))))))))
 by_cases q8 : g.1 < 0
 ·
  refine al (wn (dt q8)) (al (wn (dt q8)) (al (wn (dt q8)) (lw (Value.bool true) (aY rfl (dt q8) rfl) (mv (Value.bool true) (al (wn rfl) (al (wn rfl) (al (wn rfl) (al (wn rfl) (lw (Value.bool true) (aY rfl rfl rfl) (aa (ae rfl rfl (a9 ?_))))))))))))
  clear bx5
  refine a8 rfl (ma (Value.bool false) (aa (av (vs := [Value.bool false]) Try.func35 (.tmp rfl .nil) ?_)))
  have e0 : (false : Bool) = (cD g) := by
    exact (cG (fun h => by unfold bx at h; omega)).symm
  replace bH := bH.cn ch2
  exact ⟨(congrArg (a₁ := false) (fun (z0 : Bool) => Ending.returned (Value.bool z0)) e0), bH.below⟩
 refine lv (vp b3 0) (wy (df q8)) (ad Try.underlying24 rfl rfl rfl rfl) (lv (vi g.1) (wy (df q8)) (af am rfl bx5 rfl) (lv (Value.bool (decide (1024 < g.1))) (wy (df q8)) (fW (m := g.1) (n := 1024) rfl rfl) (lw (Value.bool (decide (1024 < g.1))) (b7 rfl (df q8) rfl) (mv (Value.bool (decide (1024 < g.1))) ?_))))
 by_cases q13 : 1024 < g.1
 ·
  refine al (wn (dt q13)) (al (wn (dt q13)) (al (wn (dt q13)) (al (wn (dt q13)) (lw (Value.bool true) (aY rfl (dt q13) rfl) (aa (ae rfl rfl (a9 ?_)))))))
  clear bx5
  refine a8 rfl (ma (Value.bool false) (aa (av (vs := [Value.bool false]) Try.func35 (.tmp rfl .nil) ?_)))
  have e0 : (false : Bool) = (cD g) := by
    exact (cG (fun h => by unfold bx at h; omega)).symm
  replace bH := bH.cn ch2
  exact ⟨(congrArg (a₁ := false) (fun (z0 : Bool) => Ending.returned (Value.bool z0)) e0), bH.below⟩
 refine lv (vp b3 1) (wy (df q13)) (ad Try.underlying24 rfl rfl rfl rfl) (lv (g_v) (wy (df q13)) (af bo rfl bx5 rfl) ?_)
 replace Rg := Rg.cn ch2
 have len6 := (Rg).small
 refine lv (vi (g.2.length : Int)) (wy (df q13)) (aO Try.underlying22 rfl Rg) (lv (Value.bool (decide (3072 < (g.2.length : Int)))) (wy (df q13)) (fW (m := (g.2.length : Int)) (n := 3072) rfl rfl) (lw (Value.bool (decide (3072 < (g.2.length : Int)))) (b7 rfl (df q13) rfl) (aa ?_)))
 by_cases p1 : 3072 < (g.2.length : Int)
 ·
  refine ae rfl (dt p1) (a9 ?_)
  clear bx5
  refine a8 rfl (ma (Value.bool false) (aa (av (vs := [Value.bool false]) Try.func35 (.tmp rfl .nil) ?_)))
  have e0 : (false : Bool) = (cD g) := by
    exact (cG (fun h => by unfold bx at h; omega)).symm
  replace bH := bH.cn ch2
  exact ⟨(congrArg (a₁ := false) (fun (z0 : Bool) => Ending.returned (Value.bool z0)) e0), bH.below⟩
 refine ag rfl (df p1) (aj (a9 (a9 (a8 rfl (ai 0 (aa (ah ?_)))))))
 refine aN (σ := Nat × aE) (fun ⟨k, gq⟩ f w => b9 w0 gq w ∧ f 1 = vp b3 0 ∧ f 3 = vi (k : Int) ∧ Sl gq (is 0) w g_v g.2 ∧ Bx gq (is 1) w b3 [vi g.1, g_v] ∧ (k : Int) ≤ ((g.2.length : Int) : Int) ∧ (∀ e ∈ List.take k g.2, lQ g.1 e)) (fun ⟨k, gq⟩ => Int.toNat (((g.2.length : Int) : Int) - (k : Int))) (0, g4) ?_ ?_
 · exact ⟨bH.cn ch2, rfl, rfl, Rg, bx5, by omega, by simp⟩
 clear Rg bx5 bH
 rintro ⟨k, g9⟩ f7 w8 ⟨bH, zs1, zs3, Rg, bx5, hle_k, hinv4⟩ back4
 refine a9 (a9 (a8 rfl (mz zs3 (lx (ad Try.underlying24 rfl rfl zs1 rfl) (lx (af bo rfl bx5 rfl) (lx (aO Try.underlying22 rfl Rg) (lx (bc (m := (k : Int)) (n := (g.2.length : Int)) rfl rfl) (aa ?_))))))))
 by_cases p4 : (k : Int) < (g.2.length : Int)
 ·
  refine ae rfl (dt p4) (aj (a9 (ah (a9 (a8 rfl (ai 0 (aa (ah (fB (a9 (a9 (a8 rfl ?_))))))))))))
  refine mi 0 (lx (bc (m := 0) (n := 2) rfl rfl) (aa (ae rfl rfl (aj (a9 (ah (a9 (ck g9 rfl kQ (by kernel_rfl) ?_))))))))
  intro w11 ch10
  refine qx (fun w' hw' => ad Try.underlying24 rfl rfl zs1 rfl) ?_
  replace bx5 := bx5.cn ch10
  refine qx (fun w' hw' => af bo rfl (bx5.bel hw') rfl) (qz zs3 (qm (vi 0) ?_))
  replace Rg := Rg.cn ch10
  refine qx (fun w' hw' => ab (v := g_v) (i := (k : Int)) Try.underlying22 rfl rfl (Rg.bel hw') rfl (by omega) (by omega)) (qx (fun w' hw' => bV Try.underlying60 rfl rfl rfl (by decide) (by decide) rfl) (qx (fun w' hw' => cF (v := g_v) (i := (k : Int)) am rfl (Rg.bel hw') (by omega) (by omega) (by decide) rfl) (qx (fun w' hw' => bc (m := (gI g.2 (k : Int)).1) (n := 0) rfl rfl) (qm (Value.bool (decide (((gI g.2 (k : Int)).1) < 0))) ?_))))
  by_cases q38 : ((gI g.2 (k : Int)).1) < 0
  ·
   refine bv (wn (dt q38)) (bv (wn (dt q38)) (bv (wn (dt q38)) (bv (wn (dt q38)) (bv (wn (dt q38)) (bv (wn (dt q38)) (bv (wn (dt q38)) (bv (wn (dt q38)) (bv (wn (dt q38)) (bv (wn (dt q38)) ?_)))))))))
   refine qv (Value.bool true) (fun w' hw' => aY rfl (dt q38) rfl) (cV ?_)
   intro w12 hc13
   replace hc13 := aG hc13 g9
   refine ae rfl rfl (a9 ?_)
   clear bx5
   refine a8 rfl (ma (Value.bool false) (aa (av (vs := [Value.bool false]) Try.func35 (.tmp rfl .nil) ?_)))
   have e0 : (false : Bool) = (cD g) := by
     exact (cG (fun h => by have h2 := h.2.2.2 _ (bu (xs := g.2) (i := (k : Int)) (by omega) ‹_›); unfold lQ at h2; omega)).symm
   replace bH := bH.cn ch10
   replace bH := bH.cn hc13
   exact ⟨(congrArg (a₁ := false) (fun (z0 : Bool) => Ending.returned (Value.bool z0)) e0), bH.below⟩
  refine bE (v := vp b3 1) (wy (df q38)) (fun w' hw' => ad Try.underlying24 rfl rfl zs1 rfl) (bE (v := g_v) (wy (df q38)) (fun w' hw' => af bo rfl (bx5.bel hw') rfl) (bE (v := vi (k : Int)) (wy (df q38)) (fun w' hw' => au zs3) (bE (v := vi 0) (wy (df q38)) (fun w' hw' => au rfl) (bE (v := Value.pointer (some (ba g_v 2 (Int.toNat (k : Int))))) (wy (df q38)) (fun w' hw' => ab (α := (Int) × (Int)) (xs := g.2) (v := g_v) (i := (k : Int)) Try.underlying22 rfl rfl (Rg.bel hw') rfl (by omega) (by omega)) ?_))))
  refine bE (v := Value.pointer (some ⟨(ba g_v 2 (Int.toNat (k : Int))).block, (ba g_v 2 (Int.toNat (k : Int))).off + 0, none⟩)) (wy (df q38)) (fun w' hw' => bV Try.underlying60 rfl rfl rfl (by decide) (by decide) rfl) (bE (v := vi ((gI g.2 (k : Int)).1)) (wy (df q38)) (fun w' hw' => cF (α := (Int) × (Int)) (xs := g.2) (v := g_v) (i := (k : Int)) am rfl (Rg.bel hw') (by omega) (by omega) (by decide) rfl) (bE (v := vp b3 0) (wy (df q38)) (fun w' hw' => ad Try.underlying24 rfl rfl zs1 rfl) (bE (v := vi g.1) (wy (df q38)) (fun w' hw' => af am rfl (bx5.bel hw') rfl) ?_)))
  refine bE (v := Value.bool (decide (g.1 ≤ ((gI g.2 (k : Int)).1)))) (wy (df q38)) (fun w' hw' => dy (m := (gI g.2 (k : Int)).1) (n := g.1) rfl rfl) (qv (Value.bool (decide (g.1 ≤ ((gI g.2 (k : Int)).1)))) (fun w' hw' => b7 rfl (df q38) rfl) (cV ?_))
  intro w14 hc15
  replace hc15 := aG hc15 g9
  by_cases p9 : g.1 ≤ ((gI g.2 (k : Int)).1)
  ·
   refine ae rfl (dt p9) (a9 ?_)
   clear bx5
   refine a8 rfl (ma (Value.bool false) (aa (av (vs := [Value.bool false]) Try.func35 (.tmp rfl .nil) ?_)))
   have e0 : (false : Bool) = (cD g) := by
     exact (cG (fun h => by have h2 := h.2.2.2 _ (bu (xs := g.2) (i := (k : Int)) (by omega) ‹_›); unfold lQ at h2; omega)).symm
   replace bH := bH.cn ch10
   replace bH := bH.cn hc15
   exact ⟨(congrArg (a₁ := false) (fun (z0 : Bool) => Ending.returned (Value.bool z0)) e0), bH.below⟩
  refine ag rfl (df p9) (aj (ao (a8 rfl (mi 0 (lx (aQ (m := 0) (n := 1) rfl rfl (by omega)) (ai 1 (aa (dF (a9 (a9 (a8 rfl ?_)))))))))))
  refine mi 1 (lx (bc (m := 1) (n := 2) rfl rfl) (aa (ae rfl rfl (aj (a9 (ah (a9 (ck g9 rfl kQ (by kernel_rfl) ?_))))))))
  intro w17 ch16
  refine qx (fun w' hw' => ad Try.underlying24 rfl rfl zs1 rfl) ?_
  replace bx5 := (bx5.cn hc15).cn ch16
  refine qx (fun w' hw' => af bo rfl (bx5.bel hw') rfl) (qz zs3 (qm (vi 1) ?_))
  replace Rg := (Rg.cn hc15).cn ch16
  refine qx (fun w' hw' => ab (v := g_v) (i := (k : Int)) Try.underlying22 rfl rfl (Rg.bel hw') rfl (by omega) (by omega)) (qx (fun w' hw' => bV Try.underlying60 rfl rfl rfl (by decide) (by decide) rfl) (qx (fun w' hw' => cF (v := g_v) (i := (k : Int)) am rfl (Rg.bel hw') (by omega) (by omega) (by decide) rfl) (qx (fun w' hw' => bc (m := (gI g.2 (k : Int)).2) (n := 0) rfl rfl) (qm (Value.bool (decide (((gI g.2 (k : Int)).2) < 0))) ?_))))
  by_cases q38_18 : ((gI g.2 (k : Int)).2) < 0
  ·
   refine bv (wn (dt q38_18)) (bv (wn (dt q38_18)) (bv (wn (dt q38_18)) (bv (wn (dt q38_18)) (bv (wn (dt q38_18)) (bv (wn (dt q38_18)) (bv (wn (dt q38_18)) (bv (wn (dt q38_18)) (bv (wn (dt q38_18)) (bv (wn (dt q38_18)) ?_)))))))))
   refine qv (Value.bool true) (fun w' hw' => aY rfl (dt q38_18) rfl) (cV ?_)
   intro w19 hc20
   replace hc20 := aG hc20 g9
   refine ae rfl rfl (a9 ?_)
   clear bx5
   refine a8 rfl (ma (Value.bool false) (aa (av (vs := [Value.bool false]) Try.func35 (.tmp rfl .nil) ?_)))
   have e0 : (false : Bool) = (cD g) := by
     exact (cG (fun h => by have h2 := h.2.2.2 _ (bu (xs := g.2) (i := (k : Int)) (by omega) ‹_›); unfold lQ at h2; omega)).symm
   have C21 := cg [] (ch10.n.seq (hc15.n.seq (ch16.n.seq hc20.n)))
   replace bH := bH.ca C21
   exact ⟨(congrArg (a₁ := false) (fun (z0 : Bool) => Ending.returned (Value.bool z0)) e0), bH.below⟩
  refine bE (v := vp b3 1) (wy (df q38_18)) (fun w' hw' => ad Try.underlying24 rfl rfl zs1 rfl) (bE (v := g_v) (wy (df q38_18)) (fun w' hw' => af bo rfl (bx5.bel hw') rfl) (bE (v := vi (k : Int)) (wy (df q38_18)) (fun w' hw' => au zs3) (bE (v := vi 1) (wy (df q38_18)) (fun w' hw' => au rfl) (bE (v := Value.pointer (some (ba g_v 2 (Int.toNat (k : Int))))) (wy (df q38_18)) (fun w' hw' => ab (α := (Int) × (Int)) (xs := g.2) (v := g_v) (i := (k : Int)) Try.underlying22 rfl rfl (Rg.bel hw') rfl (by omega) (by omega)) ?_))))
  refine bE (v := Value.pointer (some ⟨(ba g_v 2 (Int.toNat (k : Int))).block, (ba g_v 2 (Int.toNat (k : Int))).off + 1, none⟩)) (wy (df q38_18)) (fun w' hw' => bV Try.underlying60 rfl rfl rfl (by decide) (by decide) rfl) (bE (v := vi ((gI g.2 (k : Int)).2)) (wy (df q38_18)) (fun w' hw' => cF (α := (Int) × (Int)) (xs := g.2) (v := g_v) (i := (k : Int)) am rfl (Rg.bel hw') (by omega) (by omega) (by decide) rfl) (bE (v := vp b3 0) (wy (df q38_18)) (fun w' hw' => ad Try.underlying24 rfl rfl zs1 rfl) (bE (v := vi g.1) (wy (df q38_18)) (fun w' hw' => af am rfl (bx5.bel hw') rfl) ?_)))
  refine bE (v := Value.bool (decide (g.1 ≤ ((gI g.2 (k : Int)).2)))) (wy (df q38_18)) (fun w' hw' => dy (m := (gI g.2 (k : Int)).2) (n := g.1) rfl rfl) (qv (Value.bool (decide (g.1 ≤ ((gI g.2 (k : Int)).2)))) (fun w' hw' => b7 rfl (df q38_18) rfl) (cV ?_))
  intro w22 hc23
  replace hc23 := aG hc23 g9
  by_cases p9_24 : g.1 ≤ ((gI g.2 (k : Int)).2)
  ·
   refine ae rfl (dt p9_24) (a9 ?_)
   clear bx5
   refine a8 rfl (ma (Value.bool false) (aa (av (vs := [Value.bool false]) Try.func35 (.tmp rfl .nil) ?_)))
   have e0 : (false : Bool) = (cD g) := by
     exact (cG (fun h => by have h2 := h.2.2.2 _ (bu (xs := g.2) (i := (k : Int)) (by omega) ‹_›); unfold lQ at h2; omega)).symm
   have C25 := cg [] (ch10.n.seq (hc15.n.seq (ch16.n.seq hc23.n)))
   replace bH := bH.ca C25
   exact ⟨(congrArg (a₁ := false) (fun (z0 : Bool) => Ending.returned (Value.bool z0)) e0), bH.below⟩
  refine ag rfl (df p9_24) (aj (ao (a8 rfl (mi 1 (lx (aQ (m := 1) (n := 1) rfl rfl (by omega)) (ai 2 (aa (dF (a9 (a9 (a8 rfl ?_)))))))))))
  refine mi 2 (lx (bc (m := 2) (n := 2) rfl rfl) (aa (ag rfl rfl (aI rfl (ao (a8 rfl (mz zs3 (lx (aQ (m := (k : Int)) (n := 1) rfl rfl (by omega)) (ai ((k : Int) + 1) ?_)))))))))
  refine aa ?_
  have C26 := cg [] (ch10.n.seq (hc15.n.seq (ch16.n.seq hc23.n)))
  refine back4 (k + 1, g9) _ _ ⟨bH.ca C26, zs1, rfl, Rg.cn hc23, bx5.cn hc23, by omega, ?_⟩ ?_
  · show ∀ e ∈ List.take (k + 1) g.2, lQ g.1 e
    rw [bh ‹_›]
    intro e he
    rcases List.mem_append.1 he with h | h
    · exact hinv4 e h
    · obtain rfl := List.mem_singleton.1 h
      refine ⟨?_, ?_⟩ <;> omega
  · show Int.toNat (((g.2.length : Int) : Int) - ((k + 1) : Int)) < Int.toNat (((g.2.length : Int) : Int) - (k : Int))
    omega
 refine ag rfl (df p4) (aI rfl (a9 ?_))
 clear bx5
 refine a8 rfl (ma (Value.bool true) (aa (av (vs := [Value.bool true]) Try.func35 (.tmp rfl .nil) ?_)))
 have e0 : (true : Bool) = (cD g) := by
   exact (mg ⟨by omega, by omega, by omega, by rw [List.take_of_length_le (by omega)] at hinv4; exact hinv4⟩).symm
 exact ⟨(congrArg (a₁ := true) (fun (z0 : Bool) => Ending.returned (Value.bool z0)) e0), bH.below⟩
theorem nW (w0 : World) (a : List Int) (a_v : Value) (ha_v : Ro w0 a_v a) (b : List Int) (b_v : Value) (hb_v : Ro w0 b_v b) :
    Calls Try.prog 46 #[a_v, b_v] w0 (fun ee w => ee = .returned (Value.bool (decide (a = b))) ∧ dH w0.heap.size w0 w) := by
 refine az Try.func46 rfl (Nat.le_of_ble_eq_true rfl) ?_
 have bH := b9.start w0
 have Ra := ha_v.sl
 have Rb := hb_v.sl
 refine a9 (a8 rfl (ma (Value.bool false) (aa (a9 (a9 (a8 rfl (mv a_v ?_)))))))
 have len1 := (Ra).small
 refine lx (aO Try.underlying27 rfl Ra) (mv b_v ?_)
 have len2 := (Rb).small
 refine lx (aO Try.underlying27 rfl Rb) (lx (cl (m := (a.length : Int)) (n := (b.length : Int)) rfl rfl) (aa ?_))
 by_cases p1 : (a.length : Int) = (b.length : Int)
 ·
  refine ag rfl (congrArg Bool.not (dt p1)) (aj (a9 (a9 (a8 rfl (ai 0 (aa (ah ?_)))))))
  refine aN (σ := Nat × aE) (fun ⟨k, gq⟩ f w => b9 w0 gq w ∧ f 0 = a_v ∧ f 1 = b_v ∧ f 5 = vi (k : Int) ∧ Sl gq (is 0) w a_v a ∧ Sl gq (is 0) w b_v b ∧ (k : Int) ≤ ((a.length : Int) : Int) ∧ (List.take k a = List.take k b)) (fun ⟨k, gq⟩ => Int.toNat (((a.length : Int) : Int) - (k : Int))) (0, c0) ?_ ?_
  · exact ⟨bH, rfl, rfl, rfl, Ra, Rb, by omega, by simp⟩
  clear Ra Rb bH
  rintro ⟨k, g5⟩ f3 w4 ⟨bH, zs0, zs1, zs5, Ra, Rb, hle_k, hinv4⟩ back4
  refine a9 (a9 (a8 rfl (mz zs5 (mz zs0 (lx (aO Try.underlying27 rfl Ra) (lx (bc (m := (k : Int)) (n := (a.length : Int)) rfl rfl) (aa ?_)))))))
  by_cases p4 : (k : Int) < (a.length : Int)
  ·
   refine ae rfl (dt p4) (aj (a9 (ah (a9 (ck g5 rfl kQ (by kernel_rfl) ?_)))))
   intro w7 ch6
   refine qz zs0 (qz zs5 ?_)
   replace Ra := Ra.cn ch6
   refine qx (fun w' hw' => ab (v := a_v) (i := (k : Int)) Try.underlying27 rfl rfl (Ra.bel hw') rfl (by omega) (by omega)) (qx (fun w' hw' => ay (v := a_v) (i := (k : Int)) am rfl (Ra.bel hw') (by omega) (by omega) (by decide) rfl) (qz zs1 (qz zs5 ?_)))
   replace Rb := Rb.cn ch6
   refine qx (fun w' hw' => ab (v := b_v) (i := (k : Int)) Try.underlying27 rfl rfl (Rb.bel hw') rfl (by omega) (by omega)) (qx (fun w' hw' => ay (v := b_v) (i := (k : Int)) am rfl (Rb.bel hw') (by omega) (by omega) (by decide) rfl) (qx (fun w' hw' => cl (m := (gI a (k : Int))) (n := (gI b (k : Int))) rfl rfl) (cV ?_)))
   intro w8 hc9
   replace hc9 := aG hc9 g5
   by_cases p6 : (gI a (k : Int)) = (gI b (k : Int))
   ·
    refine ag rfl (congrArg Bool.not (dt p6)) (aj (ao (a8 rfl (mz zs5 (lx (aQ (m := (k : Int)) (n := 1) rfl rfl (by omega)) (ai ((k : Int) + 1) (aa ?_)))))))
    replace bH := bH.cn ch6
    refine back4 (k + 1, g5) _ _ ⟨bH.cn hc9, zs0, zs1, rfl, Ra.cn hc9, Rb.cn hc9, by omega, ?_⟩ ?_
    · show List.take (k + 1) a = List.take (k + 1) b
      rw [bh ‹_›, bh (by omega), hinv4]; simp_all
    · show Int.toNat (((a.length : Int) : Int) - ((k + 1) : Int)) < Int.toNat (((a.length : Int) : Int) - (k : Int))
      omega
   refine ae rfl (congrArg Bool.not (df p6)) (a9 (a8 rfl (ma (Value.bool false) (aa (av (vs := [Value.bool false]) Try.func46 (.tmp rfl .nil) ?_)))))
   have e0 : (false : Bool) = (decide (a = b)) := by
     exact (df (fun h => by subst h; simp_all)).symm
   replace bH := bH.cn ch6
   replace bH := bH.cn hc9
   exact ⟨(congrArg (a₁ := false) (fun (z0 : Bool) => Ending.returned (Value.bool z0)) e0), bH.below⟩
  refine ag rfl (df p4) (aI rfl (a9 (a8 rfl (ma (Value.bool true) (aa (av (vs := [Value.bool true]) Try.func46 (.tmp rfl .nil) ?_))))))
  have e0 : (true : Bool) = (decide (a = b)) := by
    (have e := hinv4; rw [List.take_of_length_le (by omega), List.take_of_length_le (by omega)] at e; exact (dt e).symm)
  exact ⟨(congrArg (a₁ := true) (fun (z0 : Bool) => Ending.returned (Value.bool z0)) e0), bH.below⟩
 refine ae rfl (congrArg Bool.not (df p1)) (a9 (a8 rfl (ma (Value.bool false) (aa (av (vs := [Value.bool false]) Try.func46 (.tmp rfl .nil) ?_)))))
 have e0 : (false : Bool) = (decide (a = b)) := by
   exact (df (fun h => by subst h; simp_all)).symm
 exact ⟨(congrArg (a₁ := false) (fun (z0 : Bool) => Ending.returned (Value.bool z0)) e0), bH.below⟩
theorem ru (w0 : World) (g : (Int) × (List ((Int) × (Int)))) (g_v : Value) (hg_v : Ro w0 g_v g.2) :
    Calls Try.prog 51 #[vg [vi g.1, g_v]] w0 (fun ee w => ee = .returned (Value.bool (decide (g.2.length ≤ 300 ∧ (g.1 ≤ 300 ∨ ¬ bx g)))) ∧ dH w0.heap.size w0 w) := by
 refine az Try.func51 rfl (Nat.le_of_ble_eq_true rfl) ?_
 have bH := b9.start w0
 have Rg := hg_v.sl
 refine a9 (a8 rfl (cr rfl (bR c0 (is 1) (1, 0) rfl rfl ?_)))
 intro g4 w1 b3 ch2 bx5
 replace bx5 : Bx g4 (is 1) w1 b3 [vi g.1, g_v] := bx5
 refine ma (Value.bool false) (aa (a9 (a8 rfl (lx (ad Try.underlying24 rfl rfl rfl rfl) (lx (af bo rfl bx5 rfl) ?_)))))
 replace Rg := Rg.cn ch2
 have len6 := (Rg).small
 refine lx (aO Try.underlying22 rfl Rg) (lx (m7 (m := (g.2.length : Int)) (n := 300) rfl rfl) (mv (Value.bool (decide ((g.2.length : Int) ≤ 300))) ?_))
 by_cases q7 : (g.2.length : Int) ≤ 300
 ·
  refine lv (vp b3 0) (wy (dt q7)) (ad Try.underlying24 rfl rfl rfl rfl) (lv (vi g.1) (wy (dt q7)) (af am rfl bx5 rfl) (lv (Value.bool (decide (g.1 ≤ 300))) (wy (dt q7)) (m7 (m := g.1) (n := 300) rfl rfl) (lv (Value.bool (decide (g.1 ≤ 300))) (wy (dt q7)) (au rfl) ?_)))
  by_cases q11 : g.1 ≤ 300
  ·
   refine al (wn (dt q11)) (al (wn (dt q11)) (al (wn (dt q11)) (lv (Value.bool true) (wy (dt q7)) (aY rfl (dt q11) rfl) (lw (Value.bool true) (aY rfl (dt q7) rfl) (ma (Value.bool true) (aa (av (vs := [Value.bool true]) Try.func51 (.tmp rfl .nil) ?_)))))))
   have e0 : (true : Bool) = (decide (g.2.length ≤ 300 ∧ (g.1 ≤ 300 ∨ ¬ bx g))) := by
     (try simp only [cD] at *)
     by_cases h : bx g <;> simp_all <;> omega
   replace bH := bH.cn ch2
   exact ⟨(congrArg (a₁ := true) (fun (z0 : Bool) => Ending.returned (Value.bool z0)) e0), bH.below⟩
  refine lv (vg [vi g.1, g_v]) (wy (df q11)) (aq (ds := [vi g.1, g_v]) ak rfl bx5 rfl rfl) (cr (wy (df q11)) (bO (v := Value.bool (cD g)) (aD (vals := [vg [vi g.1, g_v]]) Try.func35 lK lp rfl) (jo w1 g g_v (Rg).ro) ?_))
  intro w7 hb8
  replace hb8 := aG hb8 g4
  refine lv (Value.bool (!(cD g))) (wy (df q11)) (dr (b := (cD g)) rfl) (lv (Value.bool (!(cD g))) (wy (dt q7)) (b7 rfl (df q11) rfl) (lw (Value.bool (!(cD g))) (aY rfl (dt q7) rfl) (ma (Value.bool (!(cD g))) (aa (av (vs := [Value.bool (!(cD g))]) Try.func51 (.tmp rfl .nil) ?_)))))
  have e0 : (!(cD g) : Bool) = (decide (g.2.length ≤ 300 ∧ (g.1 ≤ 300 ∨ ¬ bx g))) := by
    (try simp only [cD] at *)
    by_cases h : bx g <;> simp_all <;> omega
  replace bH := bH.cn ch2
  replace bH := bH.cn hb8
  exact ⟨(congrArg (a₁ := !(cD g)) (fun (z0 : Bool) => Ending.returned (Value.bool z0)) e0), bH.below⟩
 refine al (wn (df q7)) (al (wn (df q7)) (al (wn (df q7)) (al (wn (df q7)) (al (dc rfl rfl rfl) (al (dc rfl rfl rfl) (al (dc rfl rfl rfl) (al (wn (df q7)) (lw (Value.bool false) (b7 rfl (df q7) rfl) (ma (Value.bool false) ?_)))))))))
 refine aa (av (vs := [Value.bool false]) Try.func51 (.tmp rfl .nil) ?_)
 have e0 : (false : Bool) = (decide (g.2.length ≤ 300 ∧ (g.1 ≤ 300 ∨ ¬ bx g))) := by
   (try simp only [cD] at *)
   by_cases h : bx g <;> simp_all <;> omega
 replace bH := bH.cn ch2
 exact ⟨(congrArg (a₁ := false) (fun (z0 : Bool) => Ending.returned (Value.bool z0)) e0), bH.below⟩
theorem qV (w0 : World) (l : List Int) (l_v : Value) (hl_v : Ro w0 l_v l) (n : Int) (hn : 0 ≤ n ∧ n ≤ 1000000) :
    Calls Try.prog 103 #[l_v, vi n] w0 (fun ee w => ee = .returned (vi (bN l n)) ∧ dH w0.heap.size w0 w) := by
 refine az Try.func103 rfl (Nat.le_of_ble_eq_true rfl) ?_
 have bH := b9.start w0
 have Rl := hl_v.sl
 have hn1 := hn.1
 have hn2 := hn.2
 refine a9 (a8 rfl (ai 0 (aa (a9 (a8 rfl (mi n (lo (dE (α := Bool) (l := n) (cp := n) c0 (is 1) (is 1) (1, 0) rfl false Try.underlying75 fu rfl rfl rfl (by omega) (by omega) (by omega) (by omega) ?_))))))))
 intro g1 w2 v3 ch4 o5 _
 refine ma v3 (aa (a9 (a9 (a8 rfl (mv l_v ?_)))))
 replace Rl := Rl.cn ch4
 have len6 := (Rl).small
 refine lx (aO Try.underlying27 rfl Rl) (mi 0 (aa (ah ?_)))
 refine aN (σ := Nat × (List Bool) × aE) (fun ⟨k, seen, gq⟩ f w => b9 w0 gq w ∧ f 1 = vi n ∧ f 5 = v3 ∧ f 10 = l_v ∧ f 11 = vi (l.length : Int) ∧ f 12 = vi (k : Int) ∧ Sl gq (is 0) w l_v l ∧ Ow gq (is 1) (is 1) w v3 seen ∧ (k : Int) ≤ ((l.length : Int) : Int) ∧ (dN seen l n k)) (fun ⟨k, seen, gq⟩ => Int.toNat (((l.length : Int) : Int) - (k : Int))) (0, (List.replicate (Int.toNat n) false), g1) ?_ ?_
 · exact ⟨bH.cn ch4, rfl, rfl, rfl, rfl, rfl, Rl, o5, by omega, by exact dN.start l n hn1⟩
 clear Rl o5 bH
 rintro ⟨k, seen, g9⟩ f7 w8 ⟨bH, zs1, zs5, zs10, zs11, zs12, Rl, o5, hle_k, hsI⟩ back3
 have hsl := hsI.len
 refine a9 (a8 rfl (lx (bc (m := (k : Int)) (n := (l.length : Int)) zs12 zs11) (aa (a9 ?_))))
 by_cases p3 : (k : Int) < (l.length : Int)
 ·
  refine ae rfl (dt p3) (aj (a9 (ah (a9 (a8 rfl (lx (ab (v := l_v) (i := (k : Int)) Try.underlying27 rfl zs10 Rl zs12 (by omega) (by omega)) (lx (ay (v := l_v) (i := (k : Int)) am rfl Rl (by omega) (by omega) (by decide) rfl) (ai (gI l (k : Int)) (aa (a9 (a9 (a8 rfl (mi (gI l (k : Int)) ?_)))))))))))))
  refine lx (bc (m := (gI l (k : Int))) (n := 0) rfl rfl) (mv (Value.bool (decide ((gI l (k : Int)) < 0))) ?_)
  by_cases q18 : (gI l (k : Int)) < 0
  ·
   refine al (wn (dt q18)) (al (wn (dt q18)) (al (wn (dt q18)) (lw (Value.bool true) (aY rfl (dt q18) rfl) (aa (ae rfl rfl (a9 ?_))))))
   clear o5
   refine a8 rfl (ai 2 (aa (av (vs := [vi 2]) Try.func103 (.tmp rfl .nil) ?_)))
   have e0 : (2 : Int) = (bN l n) := by
     exact hsI.bad ‹_› (by omega)
   exact ⟨(congrArg (a₁ := 2) (fun (z0 : Int) => Ending.returned (vi z0)) e0), bH.below⟩
  refine lv (vi (gI l (k : Int))) (wy (df q18)) (au rfl) (lv (vi n) (wy (df q18)) (au zs1) (lv (Value.bool (decide (n ≤ (gI l (k : Int))))) (wy (df q18)) (dy (m := (gI l (k : Int))) (n := n) rfl rfl) (lw (Value.bool (decide (n ≤ (gI l (k : Int))))) (b7 rfl (df q18) rfl) (aa ?_))))
  by_cases p5 : n ≤ (gI l (k : Int))
  ·
   refine ae rfl (dt p5) (a9 ?_)
   clear o5
   refine a8 rfl (ai 2 (aa (av (vs := [vi 2]) Try.func103 (.tmp rfl .nil) ?_)))
   have e0 : (2 : Int) = (bN l n) := by
     exact hsI.bad ‹_› (by omega)
   exact ⟨(congrArg (a₁ := 2) (fun (z0 : Int) => Ending.returned (vi z0)) e0), bH.below⟩
  refine ag rfl (df p5) (aj (a9 (a9 (a8 rfl (mz zs5 (mi (gI l (k : Int)) (lx (ab (v := v3) (i := (gI l (k : Int))) Try.underlying75 rfl rfl o5.flat rfl (by omega) (by omega)) (lx (ay (v := v3) (i := (gI l (k : Int))) fu rfl o5.flat (by omega) (by omega) (by decide) rfl) (aa ?_)))))))))
  by_cases p7 : (gI seen (gI l (k : Int))) = true
  ·
   refine ae rfl p7 (a9 ?_)
   clear o5
   refine a8 rfl (ai 18 (aa (av (vs := [vi 18]) Try.func103 (.tmp rfl .nil) ?_)))
   have e0 : (18 : Int) = (bN l n) := by
     exact hsI.twice ‹_› (by omega) (by omega) ‹_›
   exact ⟨(congrArg (a₁ := 18) (fun (z0 : Int) => Ending.returned (vi z0)) e0), bH.below⟩
  refine ag rfl (Bool.eq_false_iff.2 p7) (aj (a8 rfl (mz zs5 (mi (gI l (k : Int)) (lx (ab (v := v3) (i := (gI l (k : Int))) Try.underlying75 rfl rfl o5.flat rfl (by omega) (by omega)) (lo (bP (i := (gI l (k : Int))) true fu rfl rfl o5 (by omega) (by omega) rfl ?_)))))))
  intro w10 ch11 bx12
  clear o5
  refine aa (ao (a8 rfl (lx (aQ (m := (k : Int)) (n := 1) zs12 rfl (by omega)) (mi ((k : Int) + 1) (aa ?_)))))
  refine back3 (k + 1, (List.set seen (Int.toNat (gI l (k : Int))) true), g9) _ _ ⟨bH.ce ch11, zs1, zs5, zs10, zs11, rfl, Rl.ce ch11, bx12, by omega, ?_⟩ ?_
  · show dN (List.set seen (Int.toNat (gI l (k : Int))) true) l n (k + 1)
    exact hsI.next ‹_› (by omega) (by omega) (Bool.eq_false_iff.2 ‹_›)
  · show Int.toNat (((l.length : Int) : Int) - ((k + 1) : Int)) < Int.toNat (((l.length : Int) : Int) - (k : Int))
    omega
 refine ag rfl (df p3) (aI rfl (a9 ?_))
 clear o5
 refine a8 rfl (ai 0 (aa (av (vs := [vi 0]) Try.func103 (.tmp rfl .nil) ?_)))
 have e0 : (0 : Int) = (bN l n) := by
   exact hsI.done ‹_›
 exact ⟨(congrArg (a₁ := 0) (fun (z0 : Int) => Ending.returned (vi z0)) e0), bH.below⟩
theorem wK (w0 : World) (g : (Int) × (List ((Int) × (Int)))) (g_v : Value) (hg_v : Ro w0 g_v g.2) (keep : List Int) (keep_v : Value) (hkeep_v : Ro w0 keep_v keep) :
    Calls Try.prog 91 #[vg [vi g.1, g_v], keep_v] w0 (fun ee w => ∃ xx : aE × Value, ee = .returned ((fun ⟨δ, rv0⟩ => vt [vg [vi (((c8 g keep).1).1), rv0], vi ((c8 g keep).2)]) xx) ∧ (fun (⟨δ, rv0⟩ : aE × Value) (w : World) => cC w0 δ w ∧ Ow δ (is 1) (is 1) w rv0 (((c8 g keep).1).2)) xx w) := by
 refine az Try.func91 rfl (Nat.le_of_ble_eq_true rfl) ?_
 have bH := b9.start w0
 have Rg := hg_v.sl
 have Rkeep := hkeep_v.sl
 refine a9 (a8 rfl (cr rfl (bR c0 (is 1) (1, 0) rfl rfl ?_)))
 intro g4 w1 b3 ch2 bx5
 replace bx5 : Bx g4 (is 1) w1 b3 [vi g.1, g_v] := bx5
 refine lo (bw g4 (is 2) (2, 0) rfl ak ?_)
 intro g9 w6 b8 ch7 bx10
 replace bx10 : Bx g9 (is 2) w6 b8 [vi 0, vn] := bx10
 refine ai 0 (aa (a9 (a9 (a8 rfl ?_))))
 replace bx5 := bx5.cn ch7
 refine lx (aq (ds := [vi g.1, g_v]) ak rfl bx5 rfl rfl) ?_
 replace Rg := (Rg.cn ch2).cn ch7
 refine lo (bO (v := Value.bool (cD g)) (aD (vals := [vg [vi g.1, g_v]]) Try.func53 ll l5 rfl) (ld w6 g g_v (Rg).ro) ?_)
 intro w11 hb12
 replace hb12 := aG hb12 g9
 refine lx (dr (b := (cD g)) rfl) (aa ?_)
 by_cases p1 : (cD g) = true
 ·
  refine ag rfl (congrArg Bool.not p1) (aj (a9 (a9 ?_)))
  obtain ⟨hm1, hm2, hm3, hm4⟩ := of_decide_eq_true p1
  refine a8 rfl (mv keep_v (lx (ad Try.underlying24 rfl rfl rfl rfl) ?_))
  replace bx5 := bx5.cn hb12
  refine lx (af bo rfl bx5 rfl) ?_
  replace Rg := Rg.cn hb12
  have len13 := (Rg).small
  refine lx (aO Try.underlying22 rfl Rg) ?_
  have C14 := cg [] (ch2.n.seq (ch7.n.seq hb12.n))
  replace Rkeep := Rkeep.ca C14
  refine lo (bO (v := vi (bN keep (g.2.length : Int))) (aD (vals := [keep_v, vi (g.2.length : Int)]) Try.func103 uo ud rfl) (qV w11 keep keep_v (Rkeep).ro (g.2.length : Int) (by omega)) ?_)
  intro w15 hb16
  replace hb16 := aG hb16 g9
  refine ai (bN keep (g.2.length : Int)) (aa (a9 (a8 rfl (mi (bN keep (g.2.length : Int)) (lx (cl (m := bN keep (g.2.length : Int)) (n := 0) rfl rfl) (aa ?_))))))
  by_cases p4 : (bN keep (g.2.length : Int)) = 0
  ·
   refine ag rfl (congrArg Bool.not (dt p4)) (aj (a9 ?_))
   have hch := gU p4
   refine a8 rfl (lx (ad Try.underlying24 rfl rfl rfl rfl) ?_)
   replace bx5 := bx5.cn hb16
   refine lx (af am rfl bx5 rfl) (lw (vg [vi g.1, vn]) (bn (vs := [(0, vi g.1)]) rfl (by kernel_rfl)) (lo (bw g9 (is 3) (3, 0) rfl ak ?_)))
   intro g20 w17 b19 ch18 bx21
   replace bx21 : Bx g20 (is 3) w17 b19 [vi 0, vn] := bx21
   refine lo (aC (cs' := [vi g.1, vn]) ak rfl rfl bx21 rfl (Nat.le_of_ble_eq_true rfl) (AllOne.all (.cons rfl (.cons rfl .nil))) rfl ?_)
   intro w22 ch23 bx24
   clear bx21
   refine aa (a9 (a9 (a8 rfl (mv keep_v ?_))))
   have C25 := cg [3] (hb16.n.seq (ch18.n.seq (ch23.l rfl)))
   replace Rkeep := Rkeep.ca C25
   have len26 := (Rkeep).small
   refine lx (aO Try.underlying27 rfl Rkeep) (mi 0 (aa (ah ?_)))
   refine aN (σ := Value × (List ((Int) × (Int))) × Nat × aE) (fun ⟨out_1_v, out_1, k, gq⟩ f w => b9 w0 gq w ∧ f 2 = vp b3 0 ∧ f 4 = vp b8 0 ∧ f 7 = vp b19 0 ∧ f 26 = keep_v ∧ f 27 = vi (keep.length : Int) ∧ f 28 = vi (k : Int) ∧ Sl gq (is 0) w g_v g.2 ∧ Sl gq (is 0) w keep_v keep ∧ Bx gq (is 1) w b3 [vi g.1, g_v] ∧ Bx gq (is 2) w b8 [vi 0, vn] ∧ Bx gq (is 3) w b19 [vi g.1, out_1_v] ∧ Ow gq (is 5) (is 5) w out_1_v out_1 ∧ (k : Int) ≤ ((keep.length : Int) : Int) ∧ (out_1 = (List.take k keep).map (gI g.2))) (fun ⟨out_1_v, out_1, k, gq⟩ => Int.toNat (((keep.length : Int) : Int) - (k : Int))) (vn, [], 0, g20) ?_ ?_
   have C28 := cg [3] (hb12.n.seq (hb16.n.seq (ch18.n.seq (ch23.l rfl))))
   have C27 := ch2.n.seq (ch7.n.seq C28)
   · exact ⟨bH.ca C27, rfl, rfl, rfl, rfl, rfl, rfl, Rg.ca C25, Rkeep, (bx5.cn ch18).ce ch23, bx10.ca C28, bx24, Ow.nil, by omega, by rfl⟩
   clear Rg Rkeep bx5 bx10 bx24 bH
   rintro ⟨out_1_v, out_1, k, g31⟩ f29 w30 ⟨bH, zs2, zs4, zs7, zs26, zs27, zs28, Rg, Rkeep, bx5, bx10, bx24, o_out_1, hle_k, hinv8⟩ back8
   have hlo : out_1.length = k := by rw [hinv8]; simp; omega
   refine a9 (a8 rfl (lx (bc (m := (k : Int)) (n := (keep.length : Int)) zs28 zs27) (aa (a9 ?_))))
   by_cases p8 : (k : Int) < (keep.length : Int)
   ·
    refine ae rfl (dt p8) (aj (a9 (ah (a9 (a8 rfl (lx (ab (v := keep_v) (i := (k : Int)) Try.underlying27 rfl zs26 Rkeep zs28 (by omega) (by omega)) (lx (ay (v := keep_v) (i := (k : Int)) am rfl Rkeep (by omega) (by omega) (by decide) rfl) (ai (gI keep (k : Int)) (aa ?_)))))))))
    obtain ⟨hk1, hk2⟩ := hch.1 _ (bu (xs := keep) (i := (k : Int)) (by omega) p8)
    refine ch g31 [0, 1, 2, 3, 4, 5, 6, 9] kQ ?_
    intro w33 ch32
    refine xp 0 rfl (fun w => ad Try.underlying24 rfl rfl zs7 rfl) ?_
    replace bx24 := bx24.cn ch32
    refine xh 1 [0, 2, 4, 3, 5, 6, 7] rfl (fun w' hw' => af bo rfl (bx24.bel hw') rfl) (xp 2 rfl (fun w => ad Try.underlying24 rfl rfl zs2 rfl) ?_)
    replace bx5 := bx5.cn ch32
    refine xv 3 [2, 1, 0, 4] rfl (af bo rfl bx5 rfl) (xp (v := vi (gI keep (k : Int))) 4 rfl (fun w => au rfl) ?_)
    replace Rg := Rg.cn ch32
    refine xv 5 [4, 3, 2, 1, 0] rfl (ab (v := g_v) (i := (gI keep (k : Int))) Try.underlying22 rfl rfl Rg rfl (by omega) (by omega)) (xv (v := vg [vi ((gI g.2 (gI keep (k : Int))).1), vi ((gI g.2 (gI keep (k : Int))).2)]) 6 [5, 4, 3, 2, 1, 0] rfl (ep (v := g_v) (i := (gI keep (k : Int))) bD rfl Rg (by omega) (by omega) rfl) (bM 7 rfl (by kernel_rfl) rfl (aA (α := (Int) × (Int)) g31 (is 4) (is 4) (4, 0) rfl [(gI g.2 (gI keep (k : Int)))] Try.underlying22 bD (by decide) (by decide) (vs := [(0, vg [vi ((gI g.2 (gI keep (k : Int))).1), vi ((gI g.2 (gI keep (k : Int))).2)])]) rfl rfl (.cons rfl .nil) ?_)))
    intro g34 w35 v36 ch37 o38
    refine bM 8 rfl (by kernel_rfl) rfl ?_
    replace o_out_1 := (o_out_1.cn ch32).cn ch37
    refine aR (α := (Int) × (Int)) (xs := out_1) (ys := ([(gI g.2 (gI keep (k : Int)))])) g34 (J := is 5) (S := is 5) (5, 0) rfl Try.underlying22 bD (by decide) rfl rfl rfl o_out_1 o38.flat (by decide) (by (simp; omega)) ?_
    intro g39 w40 v41 ch42 o43
    clear o_out_1
    refine xp 9 rfl (fun w => ad Try.underlying24 rfl rfl zs7 rfl) (bM 10 rfl (by kernel_rfl) rfl ?_)
    replace bx24 := (bx24.cn ch37).ce ch42
    refine cK (cs' := [vi g.1, v41]) bo rfl rfl bx24 (c6 o43.flat) (Nat.le_of_ble_eq_true rfl) (bm o43.flat) rfl ?_
    intro w44 ch45 bx46
    clear bx24
    refine cO (by kernel_rfl) (ao ?_)
    clear o38
    refine a8 rfl (lx (aQ (m := (k : Int)) (n := 1) zs28 rfl (by omega)) (mi ((k : Int) + 1) (aa ?_)))
    have C48 := cg [3, 5] (ch37.n.seq ((ch42.l rfl).seq (ch45.l rfl)))
    have C47 := ch32.n.seq C48
    refine back8 (v41, (out_1 ++ [(gI g.2 (gI keep (k : Int)))]), k + 1, g39) _ _ ⟨bH.ca C47, zs2, zs4, zs7, zs26, zs27, rfl, Rg.ca C48, Rkeep.ca C47, bx5.ca C48, bx10.ca C47, bx46, o43.ce ch45, by omega, ?_⟩ ?_
    · show (out_1 ++ [(gI g.2 (gI keep (k : Int)))]) = (List.take (k + 1) keep).map (gI g.2)
      rw [bh ‹_›, hinv8]; simp
    · show Int.toNat (((keep.length : Int) : Int) - ((k + 1) : Int)) < Int.toNat (((keep.length : Int) : Int) - (k : Int))
      omega
   refine ag rfl (df p8) (aI rfl (a9 ?_))
   clear bx5
   refine a8 rfl (lx (aq (ds := [vi g.1, out_1_v]) ak zs7 bx24 rfl rfl) (lo (aC (cs' := [vi g.1, out_1_v]) ak zs4 rfl bx10 rfl (Nat.le_of_ble_eq_true rfl) (AllOne.all (.cons rfl (.cons (bm o_out_1.flat) .nil))) rfl ?_)))
   intro w49 ch50 bx51
   clear bx10
   refine ai 0 (aa (av (vs := [vg [vi g.1, out_1_v], vi 0]) Try.func91 (.cell zs4 (bk (ds := [vi g.1, out_1_v]) ak bx51 rfl rfl) (.tmp rfl .nil)) ?_))
   replace bH := bH.ce ch50
   replace o_out_1 := o_out_1.ce ch50
   have e0 : ((g.1, out_1) : (Int) × (List ((Int) × (Int)))) = ((c8 g keep).1) := by
     have hm := of_decide_eq_true p1
     rw [List.take_of_length_le (by omega)] at hinv8
     simp [c8, hm, p4, hinv8]
   have e1 : (0 : Int) = ((c8 g keep).2) := by
     have hm := of_decide_eq_true p1
     rw [List.take_of_length_le (by omega)] at hinv8
     simp [c8, hm, p4, hinv8]
   exact ⟨(fin w0 g31 (fun n => if n = 5 then 1 else 0), out_1_v), (ci (a := (g.1, out_1)) (b := 0) (fun (z0 : (Int) × (List ((Int) × (Int)))) (z1 : Int) => Ending.returned (vt [vg [vi z0.1, out_1_v], vi z1])) e0 e1), bH.fresh _, ((congrArg (fun (z : (Int) × (List ((Int) × (Int)))) => z.2) e0) ▸ (o_out_1.glue (γ := c0) (ren := (fun n => if n = 5 then 1 else 0)) (k := 1) bH.col rfl rfl))⟩
  refine ae rfl (congrArg Bool.not (df p4)) (a9 ?_)
  clear bx5
  refine a8 rfl (lw (vg [vi 0, vn]) (bn (vs := []) rfl (by kernel_rfl)) (mi (bN keep (g.2.length : Int)) (lo ?_)))
  replace bx10 := (bx10.cn hb12).cn hb16
  refine aC (cs' := [vi 0, vn]) ak rfl rfl bx10 rfl (Nat.le_of_ble_eq_true rfl) (AllOne.all (.cons rfl (.cons rfl .nil))) rfl ?_
  intro w52 ch53 bx54
  clear bx10
  refine ai (bN keep (g.2.length : Int)) (aa (av (vs := [vg [vi 0, vn], vi (bN keep (g.2.length : Int))]) Try.func91 (.cell rfl (bk (ds := [vi 0, vn]) ak bx54 rfl rfl) (.tmp rfl .nil)) ?_))
  have C55 := cg [2] (ch2.n.seq (ch7.n.seq (hb12.n.seq (hb16.n.seq (ch53.l rfl)))))
  replace bH := bH.ca C55
  have e0 : ((0, []) : (Int) × (List ((Int) × (Int)))) = ((c8 g keep).1) := by
    have hm := of_decide_eq_true p1
    simp [c8, hm, p4]
  have e1 : (bN keep (g.2.length : Int) : Int) = ((c8 g keep).2) := by
    have hm := of_decide_eq_true p1
    simp [c8, hm, p4]
  exact ⟨(fin w0 g9 (fun n => 0), vn), (ci (a := (0, [])) (b := bN keep (g.2.length : Int)) (fun (z0 : (Int) × (List ((Int) × (Int)))) (z1 : Int) => Ending.returned (vt [vg [vi z0.1, vn], vi z1])) e0 e1), bH.fresh _, ((congrArg (fun (z : (Int) × (List ((Int) × (Int)))) => z.2) e0) ▸ Ow.nil)⟩
 refine ae rfl (congrArg Bool.not (Bool.eq_false_iff.2 p1)) (a9 ?_)
 clear bx5
 refine a8 rfl (lw (vg [vi 0, vn]) (bn (vs := []) rfl (by kernel_rfl)) (lo ?_))
 replace bx10 := bx10.cn hb12
 refine aC (cs' := [vi 0, vn]) ak rfl rfl bx10 rfl (Nat.le_of_ble_eq_true rfl) (AllOne.all (.cons rfl (.cons rfl .nil))) rfl ?_
 intro w56 ch57 bx58
 clear bx10
 refine ai 1 (aa (av (vs := [vg [vi 0, vn], vi 1]) Try.func91 (.cell rfl (bk (ds := [vi 0, vn]) ak bx58 rfl rfl) (.tmp rfl .nil)) ?_))
 have C59 := cg [2] (ch2.n.seq (ch7.n.seq (hb12.n.seq (ch57.l rfl))))
 replace bH := bH.ca C59
 have e0 : ((0, []) : (Int) × (List ((Int) × (Int)))) = ((c8 g keep).1) := by
   have hn : ¬ bx g := fun h => p1 (dt h)
   simp [c8, hn]
 have e1 : (1 : Int) = ((c8 g keep).2) := by
   have hn : ¬ bx g := fun h => p1 (dt h)
   simp [c8, hn]
 exact ⟨(fin w0 g9 (fun n => 0), vn), (ci (a := (0, [])) (b := 1) (fun (z0 : (Int) × (List ((Int) × (Int)))) (z1 : Int) => Ending.returned (vt [vg [vi z0.1, vn], vi z1])) e0 e1), bH.fresh _, ((congrArg (fun (z : (Int) × (List ((Int) × (Int)))) => z.2) e0) ▸ Ow.nil)⟩
end TL
