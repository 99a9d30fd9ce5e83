import Derived.Test.YtbadiajeohbpcaaGTlP2
import Derived.Test.YtbadiajeohbpcaaGTlGenA
import Derived.Test.YtbadiajeohbpcaaProg
set_option linter.all false
set_option maxRecDepth 20000
namespace TL
open Go Go.Proofs
theorem rI (w0 : World) (x : List Int) (x_v : Value) (hx_v : Ro w0 x_v x) (hx : 0 < x.length) :
    Calls Try.prog 76 #[x_v] w0 (fun ee w => ee = .returned (vi (dm x)) ∧ cQ w0.heap.size w0 w) := by
 refine aC Try.func76 rfl (Nat.le_of_ble_eq_true rfl) ?_
 have bH := bf.start w0
 have Rx := hx_v.sl
 refine a7 (a6 rfl (ai 0 (aa (a7 (a7 (a6 rfl (mv x_v ?_)))))))
 have len1 := (Rx).small
 refine lx (bh Try.underlying39 rfl Rx) (lx (b9 (m := (x.length : Int)) (n := 1) rfl rfl) (aa ?_))
 by_cases p1 : (x.length : Int) < 1
 ·
  omega
 refine aj rfl (df p1) (am (a7 (a6 rfl (mv x_v (lx (ar (v := x_v) (i := 0) Try.underlying39 rfl rfl Rx rfl (by omega) (by omega)) (lx (c5 (v := x_v) (i := 0) aq rfl Rx (by omega) (by omega) (by decide) rfl) (ai (gI x 0) (aa (a7 (a7 (a6 rfl (ai 1 (aa ?_)))))))))))))
 refine av ?_
 refine ba (σ := Int × Nat × aP) (fun ⟨m, i, gq⟩ f w => bf w0 gq w ∧ f 0 = x_v ∧ f 3 = vi m ∧ f 4 = vi (i : Int) ∧ Sl gq (is 0) w x_v x ∧ (i : Int) ≤ ((x.length : Int) : Int) ∧ (1 ≤ i ∧ m = k9 x i)) (fun ⟨m, i, gq⟩ => Int.toNat (((x.length : Int) : Int) - (i : Int))) ((gI x 0), 1, c0) ?_ ?_
 · exact ⟨bH, rfl, rfl, rfl, Rx, by omega, by exact ⟨Nat.le_refl _, by simp [k9]⟩⟩
 clear Rx bH
 rintro ⟨m, i, g4⟩ f2 w3 ⟨bH, zs0, zs3, zs4, Rx, hle_i, hinv⟩ back5
 refine a7 (a7 (a6 rfl (mz zs4 (mz zs0 (lx (bh Try.underlying39 rfl Rx) (lx (b9 (m := (i : Int)) (n := (x.length : Int)) rfl rfl) (aa ?_)))))))
 by_cases p5 : (i : Int) < (x.length : Int)
 ·
  refine ah rfl (dt p5) (am (a7 (av (a6 rfl (mz zs3 (mz zs0 (mz zs4 (lx (ar (v := x_v) (i := (i : Int)) Try.underlying39 rfl rfl Rx rfl (by omega) (by omega)) (lx (c5 (v := x_v) (i := (i : Int)) aq rfl Rx (by omega) (by omega) (by decide) rfl) ?_)))))))))
  refine lw (vi (min m (gI x (i : Int)))) (c9 rfl rfl) (ai (min m (gI x (i : Int))) (aa (ao (a6 rfl (mz zs4 (lx (aT (m := (i : Int)) (n := 1) rfl rfl (by omega)) (ai ((i : Int) + 1) (aa ?_))))))))
  refine back5 (min m (gI x (i : Int)), i + 1, g4) _ _ ⟨bH, zs0, rfl, rfl, Rx, by omega, ?_⟩ ?_
  · show 1 ≤ (i + 1) ∧ (min m (gI x (i : Int))) = k9 x (i + 1)
    obtain ⟨h1, h2⟩ := hinv
    exact ⟨by omega, by rw [h2, mF h1 ‹_›]⟩
  · show Int.toNat (((x.length : Int) : Int) - ((i + 1) : Int)) < Int.toNat (((x.length : Int) : Int) - (i : Int))
    omega
 refine aj rfl (df p5) (aU rfl (a7 (a6 rfl (mz zs3 (ai m (aa (al (vs := [vi m]) Try.func76 (.tmp rfl .nil) ?_)))))))
 have e0 : (m : Int) = (dm x) := by
   obtain ⟨h1, h2⟩ := hinv
   rw [h2]
   unfold dm
   rw [show i = x.length by omega]
 exact ⟨(congrArg (a₁ := m) (fun (z0 : Int) => Ending.returned (vi z0)) e0), bH.below⟩
end TL
