import Derived.Test.YtbadiajeohbpcaaTlP2
import Derived.Test.YtbadiajeohbpcaaTlGenA
import Derived.Test.YtbadiajeohbpcaaProg
set_option linter.all false
set_option maxRecDepth 20000
namespace TL
open Go Go.Proofs
theorem sk (w0 : World) (x : List Int) (x_v : Value) (hx_v : Ro w0 x_v x) (hx : 0 < x.length) :
    Calls Try.prog 76 #[x_v] w0 (fun ee w => ee = .returned (vi (dm x)) ∧ dh w0.heap.size w0 w) := by
 refine aE Try.func76 rfl (Nat.le_of_ble_eq_true rfl) ?_
 have bH := bh.start w0
 have Rx := hx_v.sl
 refine a7 (a6 rfl (ai 0 (ab (a7 (a7 (a6 rfl (mv x_v ?_)))))))
 have len1 := (Rx).small
 refine lx (bk Try.underlying39 rfl Rx) (lx (bb (m := (x.length : Int)) (n := 1) rfl rfl) (ab ?_))
 by_cases p1 : (x.length : Int) < 1
 ·
  omega
 refine aj rfl (df p1) (ao (a7 (a6 rfl (mv x_v (lx (ak (v := x_v) (i := 0) Try.underlying39 rfl rfl Rx rfl (by omega) (by omega)) (lx (bD (v := x_v) (i := 0) cK rfl Rx (by omega) (by omega) (by decide) rfl) (ai (gI x 0) (ab (a7 (a7 (a6 rfl (ai 1 (ab ?_)))))))))))))
 refine av ?_
 refine b5 (σ := Int × Nat × aS) (fun ⟨m, i, gq⟩ f w => bh w0 gq w ∧ f 0 = x_v ∧ f 3 = vi m ∧ f 4 = vi (i : Int) ∧ Sl gq (is 0) w x_v x ∧ (i : Int) ≤ ((x.length : Int) : Int) ∧ (1 ≤ i ∧ m = jZ x i)) (fun ⟨m, i, gq⟩ => Int.toNat (((x.length : Int) : Int) - (i : Int))) ((gI x 0), 1, c0) ?_ ?_
 · exact ⟨bH, rfl, rfl, rfl, Rx, by omega, by exact ⟨Nat.le_refl _, by simp [jZ]⟩⟩
 clear Rx bH
 rintro ⟨m, i, g4⟩ f2 w3 ⟨bH, zs0, zs3, zs4, Rx, hle_i, hinv⟩ back5
 refine a7 (a7 (a6 rfl (mz zs4 (mz zs0 (lx (bk Try.underlying39 rfl Rx) (lx (bb (m := (i : Int)) (n := (x.length : Int)) rfl rfl) (ab ?_)))))))
 by_cases p5 : (i : Int) < (x.length : Int)
 ·
  refine ah rfl (dt p5) (ao (a7 (av (a6 rfl (mz zs3 (mz zs0 (mz zs4 (lx (ak (v := x_v) (i := (i : Int)) Try.underlying39 rfl rfl Rx rfl (by omega) (by omega)) (lx (bD (v := x_v) (i := (i : Int)) cK rfl Rx (by omega) (by omega) (by decide) rfl) ?_)))))))))
  refine lw (vi (min m (gI x (i : Int)))) (cm rfl rfl) (ai (min m (gI x (i : Int))) (ab (aq (a6 rfl (mz zs4 (lx (aT (m := (i : Int)) (n := 1) rfl rfl (by omega)) (ai ((i : Int) + 1) (ab ?_))))))))
  refine back5 (min m (gI x (i : Int)), i + 1, g4) _ _ ⟨bH, zs0, rfl, rfl, Rx, by omega, ?_⟩ ?_
  · show 1 ≤ (i + 1) ∧ (min m (gI x (i : Int))) = jZ x (i + 1)
    obtain ⟨h1, h2⟩ := hinv
    exact ⟨by omega, by rw [h2, n5 h1 ‹_›]⟩
  · show Int.toNat (((x.length : Int) : Int) - ((i + 1) : Int)) < Int.toNat (((x.length : Int) : Int) - (i : Int))
    omega
 refine aj rfl (df p5) (aU rfl (a7 (a6 rfl (mz zs3 (ai m (ab (ar (vs := [vi m]) Try.func76 (.tmp rfl .nil) ?_)))))))
 have e0 : (m : Int) = (dm x) := by
   obtain ⟨h1, h2⟩ := hinv
   rw [h2]
   unfold dm
   rw [show i = x.length by omega]
 exact ⟨(congrArg (a₁ := m) (fun (z0 : Int) => Ending.returned (vi z0)) e0), bH.below⟩
end TL
