import Derived.Test.YtbadiajeohbpcaaGTlP2
import Derived.Test.YtbadiajeohbpcaaProg
set_option linter.all false
set_option maxRecDepth 20000
namespace TL
open Go Go.Proofs
theorem aq : Tp Try.prog 3 false 1 8 (.int .i64 0) := Tp.of (by kernel_rfl)
theorem cE : Tp Try.prog 22 false 1 24 (.slice none 0 0) := Tp.of (by kernel_rfl)
theorem cF : Tp Try.prog 59 true 2 16 (.agg #[.int .i64 0, .int .i64 0]) := Tp.of (by kernel_rfl)
theorem jG (w0 : World) (g : (Int) × (List ((Int) × (Int)))) (g_v : Value) (hg_v : Ro w0 g_v g.2) :
    Calls Try.prog 32 #[vg [vi g.1, g_v]] w0 (fun ee w => ee = .returned (Value.bool (el g)) ∧ cQ w0.heap.size w0 w) := by
 refine aC Try.func32 rfl (Nat.le_of_ble_eq_true rfl) ?_
 have bH := bf.start w0
 have Rg := hg_v.sl
 refine a7 (a6 rfl (bY rfl (bA c0 (is 1) (1, 0) rfl rfl ?_)))
 intro g4 w1 b3 ch2 bx5
 replace bx5 : Bx g4 (is 1) w1 b3 [vi g.1, g_v] := bx5
 refine ma (Value.bool false) (aa (a7 (a7 (a6 rfl (lx (a8 Try.underlying24 rfl rfl rfl rfl) (lx (af aq rfl bx5 rfl) (lx (b9 (m := g.1) (n := 0) rfl rfl) (mv (Value.bool (decide (g.1 < 0))) ?_))))))))
 by_cases q10 : g.1 < 0
 ·
  refine ae (wn (dt q10)) (ae (wn (dt q10)) (ae (wn (dt q10)) (lw (Value.bool true) (au rfl (dt q10) rfl) (mv (Value.bool true) (ae (wn rfl) (ae (wn rfl) (ae (wn rfl) (ae (wn rfl) (lw (Value.bool true) (au rfl rfl rfl) (aa (ah rfl rfl (a7 ?_))))))))))))
  clear bx5
  refine a6 rfl (ma (Value.bool false) (aa (al (vs := [Value.bool false]) Try.func32 (.tmp rfl .nil) ?_)))
  have e0 : (false : Bool) = (el g) := by
    exact (dB (fun h => by unfold ci at h; omega)).symm
  replace bH := bH.cn ch2
  exact ⟨(congrArg (a₁ := false) (fun (z0 : Bool) => Ending.returned (Value.bool z0)) e0), bH.below⟩
 refine lv (vp b3 0) (wy (df q10)) (a8 Try.underlying24 rfl rfl rfl rfl) (lv (vi g.1) (wy (df q10)) (af aq rfl bx5 rfl) (lv (Value.bool (decide (1024 < g.1))) (wy (df q10)) (bQ (m := g.1) (n := 1024) rfl rfl) (lw (Value.bool (decide (1024 < g.1))) (aD rfl (df q10) rfl) (mv (Value.bool (decide (1024 < g.1))) ?_))))
 by_cases q15 : 1024 < g.1
 ·
  refine ae (wn (dt q15)) (ae (wn (dt q15)) (ae (wn (dt q15)) (ae (wn (dt q15)) (lw (Value.bool true) (au rfl (dt q15) rfl) (aa (ah rfl rfl (a7 ?_)))))))
  clear bx5
  refine a6 rfl (ma (Value.bool false) (aa (al (vs := [Value.bool false]) Try.func32 (.tmp rfl .nil) ?_)))
  have e0 : (false : Bool) = (el g) := by
    exact (dB (fun h => by unfold ci at h; omega)).symm
  replace bH := bH.cn ch2
  exact ⟨(congrArg (a₁ := false) (fun (z0 : Bool) => Ending.returned (Value.bool z0)) e0), bH.below⟩
 refine lv (vp b3 1) (wy (df q15)) (a8 Try.underlying24 rfl rfl rfl rfl) (lv (g_v) (wy (df q15)) (af cE rfl bx5 rfl) ?_)
 replace Rg := Rg.cn ch2
 have len6 := (Rg).small
 refine lv (vi (g.2.length : Int)) (wy (df q15)) (bh Try.underlying22 rfl Rg) (lv (Value.bool (decide (3072 < (g.2.length : Int)))) (wy (df q15)) (bQ (m := (g.2.length : Int)) (n := 3072) rfl rfl) (lw (Value.bool (decide (3072 < (g.2.length : Int)))) (aD rfl (df q15) rfl) (aa ?_)))
 by_cases p1 : 3072 < (g.2.length : Int)
 ·
  refine ah rfl (dt p1) (a7 ?_)
  clear bx5
  refine a6 rfl (ma (Value.bool false) (aa (al (vs := [Value.bool false]) Try.func32 (.tmp rfl .nil) ?_)))
  have e0 : (false : Bool) = (el g) := by
    exact (dB (fun h => by unfold ci at h; omega)).symm
  replace bH := bH.cn ch2
  exact ⟨(congrArg (a₁ := false) (fun (z0 : Bool) => Ending.returned (Value.bool z0)) e0), bH.below⟩
 refine aj rfl (df p1) (am (a7 (a7 (a6 rfl (lx (a8 Try.underlying24 rfl rfl rfl rfl) (lx (af cE rfl bx5 rfl) (lx (bh Try.underlying22 rfl Rg) (mi 0 (aa (av ?_))))))))))
 refine ba (σ := Nat × aP) (fun ⟨k, gq⟩ f w => bf w0 gq w ∧ f 1 = vp b3 0 ∧ f 22 = g_v ∧ f 23 = vi (g.2.length : Int) ∧ f 24 = vi (k : Int) ∧ Sl gq (is 0) w g_v g.2 ∧ Bx gq (is 1) w b3 [vi g.1, g_v] ∧ (k : Int) ≤ ((g.2.length : Int) : Int) ∧ (∀ e ∈ List.take k g.2, oJ g.1 e)) (fun ⟨k, gq⟩ => Int.toNat (((g.2.length : Int) : Int) - (k : Int))) (0, g4) ?_ ?_
 · exact ⟨bH.cn ch2, rfl, rfl, rfl, rfl, Rg, bx5, by omega, by simp⟩
 clear Rg bx5 bH
 rintro ⟨k, g9⟩ f7 w8 ⟨bH, zs1, zs22, zs23, zs24, Rg, bx5, hle_k, hinv4⟩ back4
 refine a7 (a6 rfl (lx (b9 (m := (k : Int)) (n := (g.2.length : Int)) zs24 zs23) (aa (a7 ?_))))
 by_cases p4 : (k : Int) < (g.2.length : Int)
 ·
  refine ah rfl (dt p4) (am (a7 (av (a7 (a6 rfl (lx (ar (v := g_v) (i := (k : Int)) Try.underlying22 rfl zs22 Rg zs24 (by omega) (by omega)) (lw (vg [vi ((gI g.2 (k : Int)).1), vi ((gI g.2 (k : Int)).2)]) (aN (v := g_v) (i := (k : Int)) cF rfl Rg (by omega) (by omega) rfl) (lo (aQ g9 (is 2) (2, 0) rfl cF ?_)))))))))
  intro g13 w10 b12 ch11 bx14
  replace bx14 : Bx g13 (is 2) w10 b12 [vi 0, vi 0] := bx14
  refine lo (ag (cs' := [vi ((gI g.2 (k : Int)).1), vi ((gI g.2 (k : Int)).2)]) cF rfl rfl bx14 rfl (Nat.le_of_ble_eq_true rfl) (AllOne.all (.cons rfl (.cons rfl .nil))) rfl ?_)
  intro w15 ch16 bx17
  clear bx14
  refine aa (a7 (a6 rfl (lx (ad (ds := [vi ((gI g.2 (k : Int)).1), vi ((gI g.2 (k : Int)).2)]) cF rfl bx17 rfl rfl) (mi 0 (aa (av (fI (a7 ?_))))))))
  clear bx17
  refine a6 rfl (lx (b9 (m := 0) (n := 2) rfl rfl) (aa (a7 (ah rfl rfl (am (a7 (av (a7 (a6 rfl (lw (vi ((gI g.2 (k : Int)).1)) (de Try.underlying59 aq rfl rfl (by decide) (by decide) rfl) (ai ((gI g.2 (k : Int)).1) ?_)))))))))))
  refine aa (a7 (a6 rfl (mi ((gI g.2 (k : Int)).1) (lx (b9 (m := (gI g.2 (k : Int)).1) (n := 0) rfl rfl) (mv (Value.bool (decide (((gI g.2 (k : Int)).1) < 0))) ?_)))))
  by_cases q34 : ((gI g.2 (k : Int)).1) < 0
  ·
   refine ae (wn (dt q34)) (ae (wn (dt q34)) (ae (wn (dt q34)) (ae (wn (dt q34)) (lw (Value.bool true) (au rfl (dt q34) rfl) (aa (ah rfl rfl (a7 ?_)))))))
   clear bx5
   refine a6 rfl (ma (Value.bool false) (aa (al (vs := [Value.bool false]) Try.func32 (.tmp rfl .nil) ?_)))
   have e0 : (false : Bool) = (el g) := by
     exact (dB (fun h => by have h2 := h.2.2.2 _ (bq (xs := g.2) (i := (k : Int)) (by omega) ‹_›); unfold oJ at h2; omega)).symm
   replace bH := bH.cn ch11
   replace bH := bH.ce ch16
   exact ⟨(congrArg (a₁ := false) (fun (z0 : Bool) => Ending.returned (Value.bool z0)) e0), bH.below⟩
  refine lv (vi ((gI g.2 (k : Int)).1)) (wy (df q34)) (aI rfl) (lv (vp b3 0) (wy (df q34)) (a8 Try.underlying24 rfl rfl zs1 rfl) ?_)
  replace bx5 := (bx5.cn ch11).ce ch16
  refine lv (vi g.1) (wy (df q34)) (af aq rfl bx5 rfl) (lv (Value.bool (decide (g.1 ≤ ((gI g.2 (k : Int)).1)))) (wy (df q34)) (gD (m := (gI g.2 (k : Int)).1) (n := g.1) rfl rfl) (lw (Value.bool (decide (g.1 ≤ ((gI g.2 (k : Int)).1)))) (aD rfl (df q34) rfl) (aa ?_)))
  by_cases p9 : g.1 ≤ ((gI g.2 (k : Int)).1)
  ·
   refine ah rfl (dt p9) (a7 ?_)
   clear bx5
   refine a6 rfl (ma (Value.bool false) (aa (al (vs := [Value.bool false]) Try.func32 (.tmp rfl .nil) ?_)))
   have e0 : (false : Bool) = (el g) := by
     exact (dB (fun h => by have h2 := h.2.2.2 _ (bq (xs := g.2) (i := (k : Int)) (by omega) ‹_›); unfold oJ at h2; omega)).symm
   replace bH := bH.cn ch11
   replace bH := bH.ce ch16
   exact ⟨(congrArg (a₁ := false) (fun (z0 : Bool) => Ending.returned (Value.bool z0)) e0), bH.below⟩
  refine aj rfl (df p9) (am (ao (a6 rfl (lx (aT (m := 0) (n := 1) rfl rfl (by omega)) (mi 1 (aa (ct (a7 (a6 rfl (lx (b9 (m := 1) (n := 2) rfl rfl) ?_))))))))))
  refine aa (a7 (ah rfl rfl (am (a7 (av (a7 (a6 rfl (lw (vi ((gI g.2 (k : Int)).2)) (de Try.underlying59 aq rfl rfl (by decide) (by decide) rfl) (ai ((gI g.2 (k : Int)).2) (aa (a7 (a6 rfl (mi ((gI g.2 (k : Int)).2) ?_)))))))))))))
  refine lx (b9 (m := (gI g.2 (k : Int)).2) (n := 0) rfl rfl) (mv (Value.bool (decide (((gI g.2 (k : Int)).2) < 0))) ?_)
  by_cases q34_18 : ((gI g.2 (k : Int)).2) < 0
  ·
   refine ae (wn (dt q34_18)) (ae (wn (dt q34_18)) (ae (wn (dt q34_18)) (ae (wn (dt q34_18)) (lw (Value.bool true) (au rfl (dt q34_18) rfl) (aa (ah rfl rfl (a7 ?_)))))))
   clear bx5
   refine a6 rfl (ma (Value.bool false) (aa (al (vs := [Value.bool false]) Try.func32 (.tmp rfl .nil) ?_)))
   have e0 : (false : Bool) = (el g) := by
     exact (dB (fun h => by have h2 := h.2.2.2 _ (bq (xs := g.2) (i := (k : Int)) (by omega) ‹_›); unfold oJ at h2; omega)).symm
   replace bH := bH.cn ch11
   replace bH := bH.ce ch16
   exact ⟨(congrArg (a₁ := false) (fun (z0 : Bool) => Ending.returned (Value.bool z0)) e0), bH.below⟩
  refine lv (vi ((gI g.2 (k : Int)).2)) (wy (df q34_18)) (aI rfl) (lv (vp b3 0) (wy (df q34_18)) (a8 Try.underlying24 rfl rfl zs1 rfl) (lv (vi g.1) (wy (df q34_18)) (af aq rfl bx5 rfl) (lv (Value.bool (decide (g.1 ≤ ((gI g.2 (k : Int)).2)))) (wy (df q34_18)) (gD (m := (gI g.2 (k : Int)).2) (n := g.1) rfl rfl) (lw (Value.bool (decide (g.1 ≤ ((gI g.2 (k : Int)).2)))) (aD rfl (df q34_18) rfl) (aa ?_)))))
  by_cases p9_19 : g.1 ≤ ((gI g.2 (k : Int)).2)
  ·
   refine ah rfl (dt p9_19) (a7 ?_)
   clear bx5
   refine a6 rfl (ma (Value.bool false) (aa (al (vs := [Value.bool false]) Try.func32 (.tmp rfl .nil) ?_)))
   have e0 : (false : Bool) = (el g) := by
     exact (dB (fun h => by have h2 := h.2.2.2 _ (bq (xs := g.2) (i := (k : Int)) (by omega) ‹_›); unfold oJ at h2; omega)).symm
   replace bH := bH.cn ch11
   replace bH := bH.ce ch16
   exact ⟨(congrArg (a₁ := false) (fun (z0 : Bool) => Ending.returned (Value.bool z0)) e0), bH.below⟩
  refine aj rfl (df p9_19) (am (ao (a6 rfl (lx (aT (m := 1) (n := 1) rfl rfl (by omega)) (mi 2 (aa (ct (a7 (a6 rfl (lx (b9 (m := 2) (n := 2) rfl rfl) ?_))))))))))
  refine aa (a7 (aj rfl rfl (aU rfl (ao (a6 rfl (lx (aT (m := (k : Int)) (n := 1) zs24 rfl (by omega)) (mi ((k : Int) + 1) (aa ?_))))))))
  replace bH := bH.cn ch11
  refine back4 (k + 1, g13) _ _ ⟨bH.ce ch16, zs1, zs22, zs23, rfl, (Rg.cn ch11).ce ch16, bx5, by omega, ?_⟩ ?_
  · show ∀ e ∈ List.take (k + 1) g.2, oJ g.1 e
    rw [bU ‹_›]
    intro e he
    rcases List.mem_append.1 he with h | h
    · exact hinv4 e h
    · obtain rfl := List.mem_singleton.1 h
      refine ⟨?_, ?_⟩ <;> omega
  · show Int.toNat (((g.2.length : Int) : Int) - ((k + 1) : Int)) < Int.toNat (((g.2.length : Int) : Int) - (k : Int))
    omega
 refine aj rfl (df p4) (aU rfl (a7 ?_))
 clear bx5
 refine a6 rfl (ma (Value.bool true) (aa (al (vs := [Value.bool true]) Try.func32 (.tmp rfl .nil) ?_)))
 have e0 : (true : Bool) = (el g) := by
   exact (mD ⟨by omega, by omega, by omega, by rw [List.take_of_length_le (by omega)] at hinv4; exact hinv4⟩).symm
 exact ⟨(congrArg (a₁ := true) (fun (z0 : Bool) => Ending.returned (Value.bool z0)) e0), bH.below⟩
end TL
