import Derived.Test.YtbadiajeohbpcaaTlP2
import Derived.Test.YtbadiajeohbpcaaTlGmA
import Derived.Test.YtbadiajeohbpcaaProg
set_option linter.all false
set_option maxRecDepth 20000
namespace TL
open Go Go.Proofs
theorem rq : Try.f42.body.isNone = false := rfl
theorem q9 : (Try.f42.name == "runtime.NumGoroutine") = false := by decide +kernel
theorem sq (w0 : World) (p : (Int) × (Int)) :
    Calls Try.prog 42 #[vg [vi p.1, vi p.2]] w0 (fun ee w => ee = .returned (Value.bool (decide (cq p))) ∧ dh w0.heap.size w0 w) := by
 refine aE Try.func42 rfl (Nat.le_of_ble_eq_true rfl) ?_
 have bH := bh.start w0
 refine a7 (a6 rfl (bN rfl (bt c0 (is 1) (1, 0) rfl rfl ?_)))
 intro g4 w1 b3 ch2 bx5
 replace bx5 : Bx g4 (is 1) w1 b3 [vi p.1, vi p.2] := bx5
 refine ma (Value.bool false) (ab (a7 (a6 rfl (lx (a8 Try.underlying45 rfl rfl rfl rfl) (lx (ag al rfl bx5 rfl) (lx (eZ (m := p.1) (n := -1048576) rfl rfl) (mv (Value.bool (decide ((-1048576) ≤ p.1))) ?_)))))))
 by_cases q6 : (-1048576) ≤ p.1
 ·
  refine lv (vp b3 0) (wy (dt q6)) (a8 Try.underlying45 rfl rfl rfl rfl) (lv (vi p.1) (wy (dt q6)) (ag al rfl bx5 rfl) (lv (Value.bool (decide (p.1 ≤ 1048576))) (wy (dt q6)) (ga (m := p.1) (n := 1048576) rfl rfl) (lw (Value.bool (decide (p.1 ≤ 1048576))) (aw rfl (dt q6) rfl) (mv (Value.bool (decide (p.1 ≤ 1048576))) ?_))))
  by_cases q11 : p.1 ≤ 1048576
  ·
   refine lv (vp b3 1) (wy (dt q11)) (a8 Try.underlying45 rfl rfl rfl rfl) (lv (vi p.2) (wy (dt q11)) (ag al rfl bx5 rfl) (lv (Value.bool (decide ((-1048576) ≤ p.2))) (wy (dt q11)) (eZ (m := p.2) (n := -1048576) rfl rfl) (lw (Value.bool (decide ((-1048576) ≤ p.2))) (aw rfl (dt q11) rfl) (mv (Value.bool (decide ((-1048576) ≤ p.2))) ?_))))
   by_cases q16 : (-1048576) ≤ p.2
   ·
    refine lv (vp b3 1) (wy (dt q16)) (a8 Try.underlying45 rfl rfl rfl rfl) (lv (vi p.2) (wy (dt q16)) (ag al rfl bx5 rfl) (lv (Value.bool (decide (p.2 ≤ 1048576))) (wy (dt q16)) (ga (m := p.2) (n := 1048576) rfl rfl) (lw (Value.bool (decide (p.2 ≤ 1048576))) (aw rfl (dt q16) rfl) (ma (Value.bool (decide (p.2 ≤ 1048576))) (ab (ar (vs := [Value.bool (decide (p.2 ≤ 1048576))]) Try.func42 (.tmp rfl .nil) ?_))))))
    have e0 : (decide (p.2 ≤ 1048576) : Bool) = (decide (cq p)) := by
      (rw [decide_eq_decide]; unfold cq; omega)
    replace bH := bH.cn ch2
    exact ⟨(congrArg (a₁ := decide (p.2 ≤ 1048576)) (fun (z0 : Bool) => Ending.returned (Value.bool z0)) e0), bH.below⟩
   refine af (wn (df q16)) (af (wn (df q16)) (af (wn (df q16)) (lw (Value.bool false) (aC rfl (df q16) rfl) (ma (Value.bool false) (ab (ar (vs := [Value.bool false]) Try.func42 (.tmp rfl .nil) ?_))))))
   have e0 : (false : Bool) = (decide (cq p)) := by
     exact (df (by unfold cq; omega)).symm
   replace bH := bH.cn ch2
   exact ⟨(congrArg (a₁ := false) (fun (z0 : Bool) => Ending.returned (Value.bool z0)) e0), bH.below⟩
  refine af (wn (df q11)) (af (wn (df q11)) (af (wn (df q11)) (lw (Value.bool false) (aC rfl (df q11) rfl) (mv (Value.bool false) (af (wn rfl) (af (wn rfl) (af (wn rfl) (lw (Value.bool false) (aC rfl rfl rfl) (ma (Value.bool false) (ab (ar (vs := [Value.bool false]) Try.func42 (.tmp rfl .nil) ?_)))))))))))
  have e0 : (false : Bool) = (decide (cq p)) := by
    exact (df (by unfold cq; omega)).symm
  replace bH := bH.cn ch2
  exact ⟨(congrArg (a₁ := false) (fun (z0 : Bool) => Ending.returned (Value.bool z0)) e0), bH.below⟩
 refine af (wn (df q6)) (af (wn (df q6)) (af (wn (df q6)) (lw (Value.bool false) (aC rfl (df q6) rfl) (mv (Value.bool false) (af (wn rfl) (af (wn rfl) (af (wn rfl) (lw (Value.bool false) (aC rfl rfl rfl) (mv (Value.bool false) (af (wn rfl) (af (wn rfl) (af (wn rfl) (lw (Value.bool false) (aC rfl rfl rfl) ?_)))))))))))))
 refine ma (Value.bool false) (ab (ar (vs := [Value.bool false]) Try.func42 (.tmp rfl .nil) ?_))
 have e0 : (false : Bool) = (decide (cq p)) := by
   exact (df (by unfold cq; omega)).symm
 replace bH := bH.cn ch2
 exact ⟨(congrArg (a₁ := false) (fun (z0 : Bool) => Ending.returned (Value.bool z0)) e0), bH.below⟩
theorem ob (w0 : World) (ps : List ((Int) × (Int))) (ps_v : Value) (hps_v : Ro w0 ps_v ps) :
    Calls Try.prog 20 #[ps_v] w0 (fun ee w => ee = .returned (Value.bool (decide (cW ps))) ∧ dh w0.heap.size w0 w) := by
 refine aE Try.func20 rfl (Nat.le_of_ble_eq_true rfl) ?_
 have bH := bh.start w0
 have Rps := hps_v.sl
 refine a7 (a6 rfl (ma (Value.bool false) (ab (a7 (a7 (a6 rfl (mv ps_v ?_)))))))
 have len1 := (Rps).small
 refine lx (bk Try.underlying25 rfl Rps) (lx (bV (m := (ps.length : Int)) (n := 4096) rfl rfl) (ab ?_))
 by_cases p1 : 4096 < (ps.length : Int)
 ·
  refine ah rfl (dt p1) (a7 (a6 rfl (ma (Value.bool false) (ab (ar (vs := [Value.bool false]) Try.func20 (.tmp rfl .nil) ?_)))))
  have e0 : (false : Bool) = (decide (cW ps)) := by
    exact (df (fun h => by have := h.1; omega)).symm
  exact ⟨(congrArg (a₁ := false) (fun (z0 : Bool) => Ending.returned (Value.bool z0)) e0), bH.below⟩
 refine aj rfl (df p1) (ao (a7 (a7 (a6 rfl (ai 0 (ab (av ?_)))))))
 refine b5 (σ := Nat × aS) (fun ⟨k, gq⟩ f w => bh w0 gq w ∧ f 0 = ps_v ∧ f 3 = vi (k : Int) ∧ Sl gq (is 0) w ps_v ps ∧ (k : Int) ≤ ((ps.length : Int) : Int) ∧ (∀ j : Nat, j < k → cq (gI ps (j : Int)))) (fun ⟨k, gq⟩ => Int.toNat (((ps.length : Int) : Int) - (k : Int))) (0, c0) ?_ ?_
 · exact ⟨bH, rfl, rfl, Rps, by omega, by intro j hj; omega⟩
 clear Rps bH
 rintro ⟨k, g4⟩ f2 w3 ⟨bH, zs0, zs3, Rps, hle_k, hinv⟩ back4
 refine a7 (a7 (a6 rfl (mz zs3 (mz zs0 (lx (bk Try.underlying25 rfl Rps) (lx (bb (m := (k : Int)) (n := (ps.length : Int)) rfl rfl) (ab ?_)))))))
 by_cases p4 : (k : Int) < (ps.length : Int)
 ·
  refine ah rfl (dt p4) (ao (a7 (av (a7 (a6 rfl (mz zs0 (mz zs3 (lx (ak (v := ps_v) (i := (k : Int)) Try.underlying25 rfl rfl Rps rfl (by omega) (by omega)) (lw (vg [vi ((gI ps (k : Int)).1), vi ((gI ps (k : Int)).2)]) (az (v := ps_v) (i := (k : Int)) aa rfl Rps (by omega) (by omega) rfl) (lo ?_))))))))))
  refine aH (v := Value.bool (decide (cq (gI ps (k : Int))))) (aA (vals := [vg [vi ((gI ps (k : Int)).1), vi ((gI ps (k : Int)).2)]]) Try.func42 rq q9 rfl) (sq w3 (gI ps (k : Int))) ?_
  intro w5 hb6
  replace hb6 := am hb6 g4
  refine lx (cz (b := (decide (cq (gI ps (k : Int))))) rfl) (ab ?_)
  by_cases p6 : (decide (cq (gI ps (k : Int)))) = true
  ·
   refine aj rfl (congrArg Bool.not p6) (ao (aq (a6 rfl (mz zs3 (lx (aT (m := (k : Int)) (n := 1) rfl rfl (by omega)) (ai ((k : Int) + 1) (ab ?_)))))))
   refine back4 (k + 1, g4) _ _ ⟨bH.cn hb6, zs0, rfl, Rps.cn hb6, by omega, ?_⟩ ?_
   · show ∀ j : Nat, j < (k + 1) → cq (gI ps (j : Int))
     intro j hj
     by_cases e0 : j = k
     · subst e0; simpa using of_decide_eq_true ‹_›
     · exact hinv j (by omega)
   · show Int.toNat (((ps.length : Int) : Int) - ((k + 1) : Int)) < Int.toNat (((ps.length : Int) : Int) - (k : Int))
     omega
  refine ah rfl (congrArg Bool.not (Bool.eq_false_iff.2 p6)) (a7 (a6 rfl (ma (Value.bool false) (ab (ar (vs := [Value.bool false]) Try.func20 (.tmp rfl .nil) ?_)))))
  have e0 : (false : Bool) = (decide (cW ps)) := by
    (refine (df (fun h => ?_)).symm
     have h1 := h.2 _ (bg (xs := ps) (i := (k : Int)) (by omega) (by omega))
     simp_all; done)
  replace bH := bH.cn hb6
  exact ⟨(congrArg (a₁ := false) (fun (z0 : Bool) => Ending.returned (Value.bool z0)) e0), bH.below⟩
 refine aj rfl (df p4) (aU rfl (a7 (a6 rfl (ma (Value.bool true) (ab (ar (vs := [Value.bool true]) Try.func20 (.tmp rfl .nil) ?_))))))
 have e0 : (true : Bool) = (decide (cW ps)) := by
   exact (dt ⟨by omega, nC (fun j hj => hinv j (by omega))⟩).symm
 exact ⟨(congrArg (a₁ := true) (fun (z0 : Bool) => Ending.returned (Value.bool z0)) e0), bH.below⟩
end TL
