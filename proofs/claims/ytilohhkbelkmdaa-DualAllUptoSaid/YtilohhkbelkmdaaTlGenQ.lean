import Derived.Test.YtilohhkbelkmdaaTlP3
import Derived.Test.YtilohhkbelkmdaaTlGenA
import Derived.Test.YtilohhkbelkmdaaProg
set_option linter.all false
set_option maxRecDepth 20000
namespace TL
open Go Go.Proofs
theorem wB (w0 : World) (x : List Int) (x_v : Value) (hx_v : Ro w0 x_v x) (hx : 0 < x.length) :
    Calls Try.prog 102 #[x_v] w0 (fun ee w => ee = .returned (vi (dJ x)) ∧ dH w0.heap.size w0 w) := by
 refine az Try.func102 rfl (Nat.le_of_ble_eq_true rfl) ?_
 have bH := b9.start w0
 have Rx := hx_v.sl
 refine a9 (a8 rfl (ai 0 (aa (a9 (a9 (a8 rfl (mv x_v ?_)))))))
 have len1 := (Rx).small
 refine lx (aO Try.underlying27 rfl Rx) (lx (bc (m := (x.length : Int)) (n := 1) rfl rfl) (aa ?_))
 by_cases p1 : (x.length : Int) < 1
 ·
  omega
 refine ag rfl (df p1) (aj (a9 (a8 rfl (mv x_v (lx (ab (v := x_v) (i := 0) Try.underlying27 rfl rfl Rx rfl (by omega) (by omega)) (lx (ay (v := x_v) (i := 0) am rfl Rx (by omega) (by omega) (by decide) rfl) (ai (gI x 0) (aa (a9 (a9 (a8 rfl (ai 1 (aa ?_)))))))))))))
 refine ah ?_
 refine aN (σ := Int × Nat × aE) (fun ⟨m, i, gq⟩ f w => b9 w0 gq w ∧ f 0 = x_v ∧ f 3 = vi m ∧ f 4 = vi (i : Int) ∧ Sl gq (is 0) w x_v x ∧ (i : Int) ≤ ((x.length : Int) : Int) ∧ (1 ≤ i ∧ m = ol x i)) (fun ⟨m, i, gq⟩ => Int.toNat (((x.length : Int) : Int) - (i : Int))) ((gI x 0), 1, c0) ?_ ?_
 · exact ⟨bH, rfl, rfl, rfl, Rx, by omega, by exact ⟨Nat.le_refl _, by simp [ol]⟩⟩
 clear Rx bH
 rintro ⟨m, i, g4⟩ f2 w3 ⟨bH, zs0, zs3, zs4, Rx, hle_i, hinv⟩ back5
 refine a9 (a9 (a8 rfl (mz zs4 (mz zs0 (lx (aO Try.underlying27 rfl Rx) (lx (bc (m := (i : Int)) (n := (x.length : Int)) rfl rfl) (aa ?_)))))))
 by_cases p5 : (i : Int) < (x.length : Int)
 ·
  refine ae rfl (dt p5) (aj (a9 (ah (a8 rfl (mz zs3 (mz zs0 (mz zs4 (lx (ab (v := x_v) (i := (i : Int)) Try.underlying27 rfl rfl Rx rfl (by omega) (by omega)) (lx (ay (v := x_v) (i := (i : Int)) am rfl Rx (by omega) (by omega) (by decide) rfl) ?_)))))))))
  refine lw (vi (min m (gI x (i : Int)))) (vx rfl rfl) (ai (min m (gI x (i : Int))) (aa (ao (a8 rfl (mz zs4 (lx (aQ (m := (i : Int)) (n := 1) rfl rfl (by omega)) (ai ((i : Int) + 1) (aa ?_))))))))
  refine back5 (min m (gI x (i : Int)), i + 1, g4) _ _ ⟨bH, zs0, rfl, rfl, Rx, by omega, ?_⟩ ?_
  · show 1 ≤ (i + 1) ∧ (min m (gI x (i : Int))) = ol x (i + 1)
    obtain ⟨h1, h2⟩ := hinv
    exact ⟨by omega, by rw [h2, ql h1 ‹_›]⟩
  · show Int.toNat (((x.length : Int) : Int) - ((i + 1) : Int)) < Int.toNat (((x.length : Int) : Int) - (i : Int))
    omega
 refine ag rfl (df p5) (aI rfl (a9 (a8 rfl (mz zs3 (ai m (aa (av (vs := [vi m]) Try.func102 (.tmp rfl .nil) ?_)))))))
 have e0 : (m : Int) = (dJ x) := by
   obtain ⟨h1, h2⟩ := hinv
   rw [h2]
   unfold dJ
   rw [show i = x.length by omega]
 exact ⟨(congrArg (a₁ := m) (fun (z0 : Int) => Ending.returned (vi z0)) e0), bH.below⟩
theorem gK (w0 : World) (g : (Int) × (List ((Int) × (Int)))) (g_v : Value) (hg_v : Ro w0 g_v g.2) (h : Int) (hh : 0 ≤ h ∧ h < 2 * (g.2.length : Int)) (hlen : g.2.length ≤ 1000000) :
    Calls Try.prog 52 #[vg [vi g.1, g_v], vi h] w0 (fun ee w => ee = .returned (vi (bp g h)) ∧ dH w0.heap.size w0 w) := by
 refine az Try.func52 rfl (Nat.le_of_ble_eq_true rfl) ?_
 have bH := b9.start w0
 have Rg := hg_v.sl
 obtain ⟨hh1, hh2⟩ := hh
 refine a9 (a8 rfl (cr rfl (bR c0 (is 1) (1, 0) rfl rfl ?_)))
 intro g4 w1 b3 ch2 bx5
 replace bx5 : Bx g4 (is 1) w1 b3 [vi g.1, g_v] := bx5
 refine ai 0 (aa (a9 (a8 rfl (lx (ad Try.underlying24 rfl rfl rfl rfl) (lx (af bo rfl bx5 rfl) (mi h (lx (hU (m := h) (n := 2) rfl rfl (by omega) (by omega) (by omega)) (mi h (lx (eT (m := h) (n := 2) rfl rfl (by omega) (by omega)) ?_)))))))))
 replace Rg := Rg.cn ch2
 refine lx (ab (v := g_v) (i := h / 2) Try.underlying22 rfl rfl Rg rfl (by omega) (by omega)) (lx (bV (i := h % 2) Try.underlying60 rfl rfl rfl (by omega) (by omega) (Nat.mul_one _)) (lx (cF (v := g_v) (i := h / 2) am rfl Rg (by omega) (by omega) (show Int.toNat (h % 2) < 2 by omega) (fH _ (by omega) (by omega))) (ai (pI (gI g.2 (h / 2)) (h % 2)) (aa (av (vs := [vi (pI (gI g.2 (h / 2)) (h % 2))]) Try.func52 (.tmp rfl .nil) ?_)))))
 have e0 : (pI (gI g.2 (h / 2)) (h % 2) : Int) = (bp g h) := by
   rfl
 replace bH := bH.cn ch2
 exact ⟨(congrArg (a₁ := pI (gI g.2 (h / 2)) (h % 2)) (fun (z0 : Int) => Ending.returned (vi z0)) e0), bH.below⟩
end TL
