import Derived.Test.YtbadiajeohbpcaaTlP2
import Derived.Test.YtbadiajeohbpcaaTlGmA
import Derived.Test.YtbadiajeohbpcaaTlGmM
import Derived.Test.YtbadiajeohbpcaaProg
set_option linter.all false
set_option maxRecDepth 20000
namespace TL
open Go Go.Proofs
theorem je : Try.prog.follows .mixedOrders = true := by kernel_rfl
theorem ry : Try.f79.body.isNone = false := rfl
theorem qZ : (Try.f79.name == "runtime.NumGoroutine") = false := by decide +kernel
theorem nT (w0 : World) (ps : List ((Int) × (Int))) (ps_v : Value) (hps_v : Ro w0 ps_v ps) :
    Calls Try.prog 79 #[ps_v] w0 (fun ee w => ee = .returned (Value.bool (decide (bY ps))) ∧ dE w0.heap.size w0 w) := by
 refine aD Try.func79 rfl (Nat.le_of_ble_eq_true rfl) ?_
 have bH := bc.start w0
 have Rps := hps_v.sl
 refine a7 (a6 rfl (ma (Value.bool false) (aa (a7 (cm c0 rfl je (by kernel_rfl) ?_)))))
 intro w2 ch1
 refine qm ps_v ?_
 replace Rps := Rps.cn ch1
 have len3 := (Rps).small
 refine qx (fun w' hw' => bb Try.underlying25 rfl (Rps.bel hw')) (qx (fun w' hw' => fy (m := (ps.length : Int)) (n := 4) rfl rfl) (qm (Value.bool (decide (4 ≤ (ps.length : Int)))) ?_))
 by_cases q6 : 4 ≤ (ps.length : Int)
 ·
  refine aS (v := ps_v) (wy (dt q6)) (fun w' hw' => aF rfl) (aS (v := Value.pointer (some (b9 ps_v 2 (Int.toNat 0)))) (wy (dt q6)) (fun w' hw' => am (α := (Int) × (Int)) (xs := ps) (v := ps_v) (i := 0) Try.underlying25 rfl rfl (Rps.bel hw') rfl (by omega) (by omega)) (aS (v := vg [vi ((gI ps 0).1), vi ((gI ps 0).2)]) (wy (dt q6)) (fun w' hw' => aO (α := (Int) × (Int)) (xs := ps) (v := ps_v) (i := 0) ae rfl (Rps.bel hw') (by omega) (by omega) rfl) (aS (v := ps_v) (wy (dt q6)) (fun w' hw' => aF rfl) (aS (v := ps_v) (wy (dt q6)) (fun w' hw' => aF rfl) ?_))))
  refine aS (v := vi (ps.length : Int)) (wy (dt q6)) (fun w' hw' => bb Try.underlying25 rfl (Rps.bel hw')) (aS (v := vi ((ps.length : Int) - 1)) (wy (dt q6)) (fun w' hw' => dS (m := (ps.length : Int)) (n := 1) rfl rfl (by omega)) (aS (v := Value.pointer (some (b9 ps_v 2 (Int.toNat ((ps.length : Int) - 1))))) (wy (dt q6)) (fun w' hw' => am (α := (Int) × (Int)) (xs := ps) (v := ps_v) (i := (ps.length : Int) - 1) Try.underlying25 rfl rfl (Rps.bel hw') rfl (by omega) (by omega)) ?_))
  refine aS (v := vg [vi ((gI ps ((ps.length : Int) - 1)).1), vi ((gI ps ((ps.length : Int) - 1)).2)]) (wy (dt q6)) (fun w' hw' => aO (α := (Int) × (Int)) (xs := ps) (v := ps_v) (i := (ps.length : Int) - 1) ae rfl (Rps.bel hw') (by omega) (by omega) rfl) ?_
  refine aS (v := Value.bool (decide ((gI ps 0) = (gI ps ((ps.length : Int) - 1))))) (wy (dt q6)) (fun w' hw' => dU (bs := [decide (((gI ps 0).1) = ((gI ps ((ps.length : Int) - 1)).1)), decide (((gI ps 0).2) = ((gI ps ((ps.length : Int) - 1)).2))]) Try.underlying45 (by kernel_rfl) (by kernel_rfl) rfl rfl (.cons (by decide +kernel) bh rfl rfl (.int Try.underlying3) (.cons (by decide +kernel) bh rfl rfl (.int Try.underlying3) .nil)) (by simp [Prod.ext_iff, Bool.decide_and, Bool.and_assoc])) (qv (Value.bool (decide ((gI ps 0) = (gI ps ((ps.length : Int) - 1))))) (fun w' hw' => av rfl (dt q6) rfl) (qv (Value.bool (decide ((gI ps 0) = (gI ps ((ps.length : Int) - 1))))) (fun w' hw' => bf rfl) (de ?_)))
  intro w4 hc5
  replace hc5 := ak hc5 c0
  refine al (vs := [Value.bool (decide ((gI ps 0) = (gI ps ((ps.length : Int) - 1))))]) Try.func79 (.tmp rfl .nil) ?_
  have e0 : (decide ((gI ps 0) = (gI ps ((ps.length : Int) - 1))) : Bool) = (decide (bY ps)) := by
    (rw [decide_eq_decide]; exact ⟨fun h => ⟨by assumption, h⟩, fun h => h.2⟩)
  replace bH := bH.cn ch1
  replace bH := bH.cn hc5
  exact ⟨(congrArg (a₁ := decide ((gI ps 0) = (gI ps ((ps.length : Int) - 1)))) (fun (z0 : Bool) => Ending.returned (Value.bool z0)) e0), bH.below⟩
 refine aP (wn (df q6)) (aP (wn (df q6)) (aP (wn (df q6)) (aP (wn (df q6)) (aP (wn (df q6)) (aP (wn (df q6)) (aP (wn (df q6)) (aP (wn (df q6)) (aP (wn (df q6)) (aP (wn (df q6)) ?_)))))))))
 refine qv (Value.bool false) (fun w' hw' => aE rfl (df q6) rfl) (qv (Value.bool false) (fun w' hw' => bf rfl) (de ?_))
 intro w6 hc7
 replace hc7 := ak hc7 c0
 refine al (vs := [Value.bool false]) Try.func79 (.tmp rfl .nil) ?_
 have e0 : (false : Bool) = (decide (bY ps)) := by
   exact (df (fun h => absurd h.1 ‹_›)).symm
 replace bH := bH.cn ch1
 replace bH := bH.cn hc7
 exact ⟨(congrArg (a₁ := false) (fun (z0 : Bool) => Ending.returned (Value.bool z0)) e0), bH.below⟩
set_option maxHeartbeats 2000000 in
theorem nS (w0 : World) (ps : List ((Int) × (Int))) (ps_v : Value) (hps_v : Ro w0 ps_v ps) (hlen : (ps.length : Int) ≤ 1000000) :
    Calls Try.prog 68 #[ps_v] w0 (fun ee w => ee = .returned (vt [Value.bool ((dC ps).1), vi ((dC ps).2)]) ∧ dE w0.heap.size w0 w) := by
 refine aD Try.func68 rfl (Nat.le_of_ble_eq_true rfl) ?_
 have bH := bc.start w0
 have Rps := hps_v.sl
 refine a7 (a6 rfl (ma (Value.bool false) (ai 0 (aa (a7 (a7 (a6 rfl (mv ps_v ?_))))))))
 have len1 := (Rps).small
 refine lx (bb Try.underlying25 rfl Rps) (lx (bQ (m := (ps.length : Int)) (n := 0) rfl rfl) (mv (Value.bool (decide ((ps.length : Int) = 0))) ?_))
 by_cases q12 : (ps.length : Int) = 0
 ·
  refine ab (wn (dt q12)) (ab (wn (dt q12)) (ab (wn (dt q12)) (lw (Value.bool true) (av rfl (dt q12) rfl) (aa (ah rfl rfl (a7 (a6 rfl (ma (Value.bool false) (ai 1 (aa ?_))))))))))
  refine al (vs := [Value.bool false, vi 1]) Try.func68 (.tmp rfl (.tmp rfl .nil)) ?_
  have e0 : (false : Bool) = ((dC ps).1) := by
    rw [i6 (.inl ‹_›)]
  have e1 : (1 : Int) = ((dC ps).2) := by
    rw [i6 (.inl ‹_›)]
  exact ⟨(bS (a := false) (b := 1) (fun (z0 : Bool) (z1 : Int) => Ending.returned (vt [Value.bool z0, vi z1])) e0 e1), bH.below⟩
 refine lv (ps_v) (wy (df q12)) (aF rfl) (bL (wy (df q12)) (aG (v := Value.bool (decide (dl ps))) (aB (vals := [ps_v]) Try.func54 eH eD rfl) (eF w0 ps ps_v (Rps).ro) ?_))
 intro w2 hb3
 replace hb3 := ak hb3 c0
 refine lv (Value.bool (!(decide (dl ps)))) (wy (df q12)) (db (b := (decide (dl ps))) rfl) (lw (Value.bool (!(decide (dl ps)))) (aE rfl (df q12) rfl) (aa ?_))
 by_cases p1 : (decide (dl ps)) = true
 ·
  have hok := of_decide_eq_true p1
  obtain ⟨hl1, hl2⟩ := of_decide_eq_true p1
  refine aj rfl (congrArg Bool.not p1) (ao (a7 (a6 rfl (mv ps_v ?_))))
  replace Rps := Rps.cn hb3
  refine lx (bb Try.underlying25 rfl Rps) (lx (dS (m := (ps.length : Int)) (n := 2) rfl rfl (by omega)) (ai ((ps.length : Int) - 2) (aa (a7 (a7 (a6 rfl (ai 0 (aa (au ?_)))))))))
  refine aX (σ := Nat × aM) (fun ⟨i, gq⟩ f w => bc w0 gq w ∧ f 0 = ps_v ∧ f 4 = vi ((ps.length : Int) - 2) ∧ f 5 = vi (i : Int) ∧ Sl gq (is 0) w ps_v ps ∧ (∀ j : Nat, j < i → m9 ps j)) (fun ⟨i, gq⟩ => List.length ps - i) (0, c0) ?_ ?_
  · exact ⟨bH.cn hb3, rfl, rfl, rfl, Rps, by intro j hj; omega⟩
  clear Rps bH
  rintro ⟨i, g6⟩ f4 w5 ⟨bH, zs0, zs4, zs5, Rps, hinv⟩ back5
  refine a7 (a7 (a6 rfl (mz zs5 (mz zs4 (lx (i0 (m := (i : Int)) (n := (ps.length : Int) - 2) rfl rfl) (aa ?_))))))
  by_cases p5 : (i : Int) ≤ ((ps.length : Int) - 2)
  ·
   refine ah rfl (dt p5) (ao (a7 (au (a7 (a7 (cm g6 rfl je (by kernel_rfl) ?_))))))
   intro w8 ch7
   refine qz zs0 (qz zs5 ?_)
   replace Rps := Rps.cn ch7
   refine qx (fun w' hw' => am (v := ps_v) (i := (i : Int)) Try.underlying25 rfl rfl (Rps.bel hw') rfl (by omega) (by omega)) (qv (vg [vi ((gI ps (i : Int)).1), vi ((gI ps (i : Int)).2)]) (fun w' hw' => aO (v := ps_v) (i := (i : Int)) ae rfl (Rps.bel hw') (by omega) (by omega) rfl) (qz zs0 (qz zs5 (qx (fun w' hw' => aW (m := (i : Int)) (n := 1) rfl rfl (by omega)) (qx (fun w' hw' => am (v := ps_v) (i := (i : Int) + 1) Try.underlying25 rfl rfl (Rps.bel hw') rfl (by omega) (by omega)) (qv (vg [vi ((gI ps ((i : Int) + 1)).1), vi ((gI ps ((i : Int) + 1)).2)]) (fun w' hw' => aO (v := ps_v) (i := (i : Int) + 1) ae rfl (Rps.bel hw') (by omega) (by omega) rfl) ?_))))))
   refine qv (Value.bool (decide ((gI ps (i : Int)) = (gI ps ((i : Int) + 1))))) (fun w' hw' => dU (bs := [decide (((gI ps (i : Int)).1) = ((gI ps ((i : Int) + 1)).1)), decide (((gI ps (i : Int)).2) = ((gI ps ((i : Int) + 1)).2))]) Try.underlying45 (by kernel_rfl) (by kernel_rfl) rfl rfl (.cons (by decide +kernel) bh rfl rfl (.int Try.underlying3) (.cons (by decide +kernel) bh rfl rfl (.int Try.underlying3) .nil)) (by simp [Prod.ext_iff, Bool.decide_and, Bool.and_assoc])) (de ?_)
   intro w9 hc10
   replace hc10 := ak hc10 g6
   by_cases p7 : (gI ps (i : Int)) = (gI ps ((i : Int) + 1))
   ·
    refine ah rfl (dt p7) (a7 (a6 rfl (ma (Value.bool false) (ai 0 (aa (al (vs := [Value.bool false, vi 0]) Try.func68 (.tmp rfl (.tmp rfl .nil)) ?_))))))
    have e0 : (false : Bool) = ((dC ps).1) := by
      (rw [di ‹_› hok]; exact tJ ‹_› ‹_›)
    have e1 : (0 : Int) = ((dC ps).2) := by
      rw [di ‹_› hok]
    replace bH := bH.cn ch7
    replace bH := bH.cn hc10
    exact ⟨(bS (a := false) (b := 0) (fun (z0 : Bool) (z1 : Int) => Ending.returned (vt [Value.bool z0, vi z1])) e0 e1), bH.below⟩
   refine aj rfl (df p7) (ao (a7 (a6 rfl (mz zs5 (lx (aW (m := (i : Int)) (n := 1) rfl rfl (by omega)) (ai ((i : Int) + 1) (aa (au ?_))))))))
   refine aX (σ := Nat × aM) (fun ⟨k, gq⟩ f w => bc w0 gq w ∧ f 0 = ps_v ∧ f 4 = vi ((ps.length : Int) - 2) ∧ f 5 = vi (i : Int) ∧ f 6 = vi (k : Int) ∧ Sl gq (is 0) w ps_v ps ∧ ((∀ j : Nat, i < j → j < k → ¬ fV ps i j) ∧ i < k)) (fun ⟨k, gq⟩ => List.length ps - k) (i + 1, g6) ?_ ?_
   replace bH := bH.cn ch7
   · exact ⟨bH.cn hc10, zs0, zs4, zs5, rfl, Rps.cn hc10, by exact ⟨fun j h1 h2 => by omega, by omega⟩⟩
   clear Rps bH
   rintro ⟨k, g13⟩ f11 w12 ⟨bH, zs0, zs4, zs5, zs6, Rps, hk⟩ back10
   refine a7 (a7 (a6 rfl (mz zs6 (mz zs4 (lx (i0 (m := (k : Int)) (n := (ps.length : Int) - 2) rfl rfl) (aa ?_))))))
   by_cases p10 : (k : Int) ≤ ((ps.length : Int) - 2)
   ·
    refine ah rfl (dt p10) ?_
    have hb1 := (hl2 _ (aV (xs := ps) (i := (i : Int)) (by omega) (by omega))).bd
    have hb2 := (hl2 _ (aV (xs := ps) (i := (i : Int) + 1) (by omega) (by omega))).bd
    have hb3 := (hl2 _ (aV (xs := ps) (i := (k : Int)) (by omega) (by omega))).bd
    have hb4 := (hl2 _ (aV (xs := ps) (i := (k : Int) + 1) (by omega) (by omega))).bd
    refine ao (a7 (au (a7 (cm g13 rfl je (by kernel_rfl) ?_))))
    intro w15 ch14
    refine qz zs0 (qz zs5 ?_)
    replace Rps := Rps.cn ch14
    refine qx (fun w' hw' => am (v := ps_v) (i := (i : Int)) Try.underlying25 rfl rfl (Rps.bel hw') rfl (by omega) (by omega)) (qv (vg [vi ((gI ps (i : Int)).1), vi ((gI ps (i : Int)).2)]) (fun w' hw' => aO (v := ps_v) (i := (i : Int)) ae rfl (Rps.bel hw') (by omega) (by omega) rfl) (qz zs0 (qz zs5 (qx (fun w' hw' => aW (m := (i : Int)) (n := 1) rfl rfl (by omega)) (qx (fun w' hw' => am (v := ps_v) (i := (i : Int) + 1) Try.underlying25 rfl rfl (Rps.bel hw') rfl (by omega) (by omega)) (qv (vg [vi ((gI ps ((i : Int) + 1)).1), vi ((gI ps ((i : Int) + 1)).2)]) (fun w' hw' => aO (v := ps_v) (i := (i : Int) + 1) ae rfl (Rps.bel hw') (by omega) (by omega) rfl) (qz zs0 (qz zs6 ?_))))))))
    refine qx (fun w' hw' => am (v := ps_v) (i := (k : Int)) Try.underlying25 rfl rfl (Rps.bel hw') rfl (by omega) (by omega)) (qv (vg [vi ((gI ps (k : Int)).1), vi ((gI ps (k : Int)).2)]) (fun w' hw' => aO (v := ps_v) (i := (k : Int)) ae rfl (Rps.bel hw') (by omega) (by omega) rfl) (qz zs0 (qz zs6 (qx (fun w' hw' => aW (m := (k : Int)) (n := 1) rfl rfl (by omega)) (qx (fun w' hw' => am (v := ps_v) (i := (k : Int) + 1) Try.underlying25 rfl rfl (Rps.bel hw') rfl (by omega) (by omega)) (qv (vg [vi ((gI ps ((k : Int) + 1)).1), vi ((gI ps ((k : Int) + 1)).2)]) (fun w' hw' => aO (v := ps_v) (i := (k : Int) + 1) ae rfl (Rps.bel hw') (by omega) (by omega) rfl) ?_))))))
    refine eC (v := vi (aT (gI ps (i : Int)) (gI ps ((i : Int) + 1)) (gI ps (k : Int)) (gI ps ((k : Int) + 1)))) rfl (fun w' hw' => aB (vals := [vg [vi ((gI ps (i : Int)).1), vi ((gI ps (i : Int)).2)], vg [vi ((gI ps ((i : Int) + 1)).1), vi ((gI ps ((i : Int) + 1)).2)], vg [vi ((gI ps (k : Int)).1), vi ((gI ps (k : Int)).2)], vg [vi ((gI ps ((k : Int) + 1)).1), vi ((gI ps ((k : Int) + 1)).2)]]) Try.func78 nu mK rfl) (fun w' hw' => (mC w' (gI ps (i : Int)) (gI ps ((i : Int) + 1)) (gI ps (k : Int)) (gI ps ((k : Int) + 1)) ‹_› ‹_› ‹_› ‹_›).mono fun e w2 h2 => ⟨h2.1, hw'.trans (h2.2.mono hw'.size)⟩) ?_
    refine qv (vi (aT (gI ps (i : Int)) (gI ps ((i : Int) + 1)) (gI ps (k : Int)) (gI ps ((k : Int) + 1)))) (fun w' hw' => bf rfl) (de ?_)
    intro w16 hc17
    replace hc17 := ak hc17 g13
    refine a7 (a6 rfl (mz zs6 (mz zs5 (lx (aW (m := (i : Int)) (n := 1) rfl rfl (by omega)) (lx (bQ (m := (k : Int)) (n := (i : Int) + 1) rfl rfl) (mv (Value.bool (decide ((k : Int) = ((i : Int) + 1)))) ?_))))))
    by_cases q65 : (k : Int) = ((i : Int) + 1)
    ·
     refine ab (wn (dt q65)) (ab (wn (dt q65)) (ab (wn (dt q65)) (ab (ch rfl rfl rfl) (ab (ch rfl rfl rfl) (ab (ch rfl rfl rfl) (ab (wn (dt q65)) (ab (wn (dt q65)) (ab (ch rfl rfl rfl) (ab (ch rfl rfl rfl) ?_)))))))))
     refine ab (wn (dt q65)) (lw (Value.bool true) (av rfl (dt q65) rfl) (ma (Value.bool true) (aa (a7 (a6 rfl (mv (Value.bool true) (mv (Value.bool true) (lv (vi (aT (gI ps (i : Int)) (gI ps ((i : Int) + 1)) (gI ps (k : Int)) (gI ps ((k : Int) + 1)))) (wy rfl) (aF rfl) (lv (Value.bool (decide ((aT (gI ps (i : Int)) (gI ps ((i : Int) + 1)) (gI ps (k : Int)) (gI ps ((k : Int) + 1))) = 3))) (wy rfl) (bQ (m := aT (gI ps (i : Int)) (gI ps ((i : Int) + 1)) (gI ps (k : Int)) (gI ps ((k : Int) + 1))) (n := 3) rfl rfl) (lw (Value.bool (decide ((aT (gI ps (i : Int)) (gI ps ((i : Int) + 1)) (gI ps (k : Int)) (gI ps ((k : Int) + 1))) = 3))) (av rfl rfl rfl) ?_))))))))))
     refine mv (Value.bool (decide ((aT (gI ps (i : Int)) (gI ps ((i : Int) + 1)) (gI ps (k : Int)) (gI ps ((k : Int) + 1))) = 3))) ?_
     by_cases q83 : (aT (gI ps (i : Int)) (gI ps ((i : Int) + 1)) (gI ps (k : Int)) (gI ps ((k : Int) + 1))) = 3
     ·
      refine ab (wn (dt q83)) (ab (wn (dt q83)) (ab (wn (dt q83)) (ab (ch rfl rfl rfl) (ab (ch rfl rfl rfl) (ab (wn (dt q83)) (lw (Value.bool true) (av rfl (dt q83) rfl) (aa (ah rfl rfl (a7 (a6 rfl ?_))))))))))
      refine ma (Value.bool false) (ai 0 (aa (al (vs := [Value.bool false, vi 0]) Try.func68 (.tmp rfl (.tmp rfl .nil)) ?_)))
      have e0 : (false : Bool) = ((dC ps).1) := by
        (rw [di ‹_› hok]; exact gX (k := k) ‹_› ‹_› hk.2 (by exact u2 (by exact sI ‹_›) ‹_›))
      have e1 : (0 : Int) = ((dC ps).2) := by
        rw [di ‹_› hok]
      replace bH := bH.cn ch14
      replace bH := bH.cn hc17
      exact ⟨(bS (a := false) (b := 0) (fun (z0 : Bool) (z1 : Int) => Ending.returned (vt [Value.bool z0, vi z1])) e0 e1), bH.below⟩
     refine lv (Value.bool true) (wy (df q83)) (aF rfl) (lv (Value.bool false) (wy (df q83)) (db (b := true) rfl) (lv (Value.bool false) (wy (df q83)) (aF rfl) (ab (wn rfl) (ab (wn rfl) (lv (Value.bool false) (wy (df q83)) (aE rfl rfl rfl) (lw (Value.bool false) (aE rfl (df q83) rfl) (aa (aj rfl rfl (ao (aq ?_))))))))))
     refine a6 rfl (mz zs6 (lx (aW (m := (k : Int)) (n := 1) rfl rfl (by omega)) (ai ((k : Int) + 1) (aa ?_))))
     replace bH := bH.cn ch14
     refine back10 (k + 1, g13) _ _ ⟨bH.cn hc17, zs0, zs4, zs5, rfl, Rps.cn hc17, ?_⟩ ?_
     · show (∀ j : Nat, i < j → j < (k + 1) → ¬ fV ps i j) ∧ i < (k + 1)
       refine ⟨fun j h1 h2 => ?_, by omega⟩
       by_cases e0 : j = k
       · subst e0
         exact sB (by exact sI ‹_›) ‹_›
       · exact hk.1 j h1 (by omega)
     · show List.length ps - (k + 1) < List.length ps - k
       omega
    refine lv (vi (i : Int)) (wy (df q65)) (aF zs5) (lv (Value.bool (decide ((i : Int) = 0))) (wy (df q65)) (bQ (m := (i : Int)) (n := 0) rfl rfl) (lv (Value.bool (decide ((i : Int) = 0))) (wy (df q65)) (aF rfl) ?_))
    by_cases q68 : (i : Int) = 0
    ·
     refine lv (vi (k : Int)) (wy (dt q68)) (aF zs6) (lv (vi ((ps.length : Int) - 2)) (wy (dt q68)) (aF zs4) (lv (Value.bool (decide ((k : Int) = ((ps.length : Int) - 2)))) (wy (dt q68)) (bQ (m := (k : Int)) (n := (ps.length : Int) - 2) rfl rfl) (lv (Value.bool (decide ((k : Int) = ((ps.length : Int) - 2)))) (wy (df q65)) (av rfl (dt q68) rfl) (lv (Value.bool (decide ((k : Int) = ((ps.length : Int) - 2)))) (wy (df q65)) (aF rfl) ?_))))
     by_cases q73 : (k : Int) = ((ps.length : Int) - 2)
     ·
      refine lv (ps_v) (wy (dt q73)) (aF zs0) ?_
      replace Rps := Rps.cn hc17
      refine bL (wy (dt q73)) (aG (v := Value.bool (decide (bY ps))) (aB (vals := [ps_v]) Try.func79 ry qZ rfl) (nT w16 ps ps_v (Rps).ro) ?_)
      intro w18 hb19
      replace hb19 := ak hb19 g13
      refine lv (Value.bool (decide (bY ps))) (wy (df q65)) (av rfl (dt q73) rfl) (lw (Value.bool (decide (bY ps))) (aE rfl (df q65) rfl) (ma (Value.bool (decide (bY ps))) (aa (a7 (a6 rfl (mv (Value.bool (decide (bY ps))) (mv (Value.bool (decide (bY ps))) ?_)))))))
      by_cases q79 : (decide (bY ps)) = true
      ·
       refine lv (vi (aT (gI ps (i : Int)) (gI ps ((i : Int) + 1)) (gI ps (k : Int)) (gI ps ((k : Int) + 1)))) (wy q79) (aF rfl) (lv (Value.bool (decide ((aT (gI ps (i : Int)) (gI ps ((i : Int) + 1)) (gI ps (k : Int)) (gI ps ((k : Int) + 1))) = 3))) (wy q79) (bQ (m := aT (gI ps (i : Int)) (gI ps ((i : Int) + 1)) (gI ps (k : Int)) (gI ps ((k : Int) + 1))) (n := 3) rfl rfl) (lw (Value.bool (decide ((aT (gI ps (i : Int)) (gI ps ((i : Int) + 1)) (gI ps (k : Int)) (gI ps ((k : Int) + 1))) = 3))) (av rfl q79 rfl) (mv (Value.bool (decide ((aT (gI ps (i : Int)) (gI ps ((i : Int) + 1)) (gI ps (k : Int)) (gI ps ((k : Int) + 1))) = 3))) ?_)))
       by_cases q83 : (aT (gI ps (i : Int)) (gI ps ((i : Int) + 1)) (gI ps (k : Int)) (gI ps ((k : Int) + 1))) = 3
       ·
        refine ab (wn (dt q83)) (ab (wn (dt q83)) (ab (wn (dt q83)) (ab (ch rfl rfl rfl) (ab (ch rfl rfl rfl) (ab (wn (dt q83)) (lw (Value.bool true) (av rfl (dt q83) rfl) (aa (ah rfl rfl (a7 (a6 rfl ?_))))))))))
        refine ma (Value.bool false) (ai 0 (aa (al (vs := [Value.bool false, vi 0]) Try.func68 (.tmp rfl (.tmp rfl .nil)) ?_)))
        have e0 : (false : Bool) = ((dC ps).1) := by
          (rw [di ‹_› hok]; exact gX (k := k) ‹_› ‹_› hk.2 (by exact u2 (by exact sA ‹_› ‹_› ‹_›) ‹_›))
        have e1 : (0 : Int) = ((dC ps).2) := by
          rw [di ‹_› hok]
        have C20 := cg [] (ch14.n.seq (hc17.n.seq hb19.n))
        replace bH := bH.ca C20
        exact ⟨(bS (a := false) (b := 0) (fun (z0 : Bool) (z1 : Int) => Ending.returned (vt [Value.bool z0, vi z1])) e0 e1), bH.below⟩
       refine lv (Value.bool (decide (bY ps))) (wy (df q83)) (aF rfl) (lv (Value.bool (!(decide (bY ps)))) (wy (df q83)) (db (b := (decide (bY ps))) rfl) (lv (Value.bool (!(decide (bY ps)))) (wy (df q83)) (aF rfl) (ab (wn (congrArg Bool.not q79)) (ab (wn (congrArg Bool.not q79)) (lv (Value.bool false) (wy (df q83)) (aE rfl (congrArg Bool.not q79) rfl) (lw (Value.bool false) (aE rfl (df q83) rfl) (aa (aj rfl rfl (ao ?_)))))))))
       refine aq (a6 rfl (mz zs6 (lx (aW (m := (k : Int)) (n := 1) rfl rfl (by omega)) (ai ((k : Int) + 1) (aa ?_)))))
       have C21 := cg [] (ch14.n.seq (hc17.n.seq hb19.n))
       refine back10 (k + 1, g13) _ _ ⟨bH.ca C21, zs0, zs4, zs5, rfl, Rps.cn hb19, ?_⟩ ?_
       · show (∀ j : Nat, i < j → j < (k + 1) → ¬ fV ps i j) ∧ i < (k + 1)
         refine ⟨fun j h1 h2 => ?_, by omega⟩
         by_cases e0 : j = k
         · subst e0
           exact sB (by exact sA ‹_› ‹_› ‹_›) ‹_›
         · exact hk.1 j h1 (by omega)
       · show List.length ps - (k + 1) < List.length ps - k
         omega
      refine ab (wn (Bool.eq_false_iff.2 q79)) (ab (wn (Bool.eq_false_iff.2 q79)) (lw (Value.bool false) (aE rfl (Bool.eq_false_iff.2 q79) rfl) (mv (Value.bool false) (lv (Value.bool (decide (bY ps))) (wy rfl) (aF rfl) (lv (Value.bool (!(decide (bY ps)))) (wy rfl) (db (b := (decide (bY ps))) rfl) (lv (Value.bool (!(decide (bY ps)))) (wy rfl) (aF rfl) (lv (vi (aT (gI ps (i : Int)) (gI ps ((i : Int) + 1)) (gI ps (k : Int)) (gI ps ((k : Int) + 1)))) (wy (congrArg Bool.not (Bool.eq_false_iff.2 q79))) (aF rfl) ?_)))))))
      refine lv (Value.bool (!(decide ((aT (gI ps (i : Int)) (gI ps ((i : Int) + 1)) (gI ps (k : Int)) (gI ps ((k : Int) + 1))) = 0)))) (wy (congrArg Bool.not (Bool.eq_false_iff.2 q79))) (dK (m := aT (gI ps (i : Int)) (gI ps ((i : Int) + 1)) (gI ps (k : Int)) (gI ps ((k : Int) + 1))) (n := 0) rfl rfl) (lv (Value.bool (!(decide ((aT (gI ps (i : Int)) (gI ps ((i : Int) + 1)) (gI ps (k : Int)) (gI ps ((k : Int) + 1))) = 0)))) (wy rfl) (av rfl (congrArg Bool.not (Bool.eq_false_iff.2 q79)) rfl) (lw (Value.bool (!(decide ((aT (gI ps (i : Int)) (gI ps ((i : Int) + 1)) (gI ps (k : Int)) (gI ps ((k : Int) + 1))) = 0)))) (aE rfl rfl rfl) (aa ?_)))
      by_cases p14 : (aT (gI ps (i : Int)) (gI ps ((i : Int) + 1)) (gI ps (k : Int)) (gI ps ((k : Int) + 1))) = 0
      ·
       refine aj rfl (congrArg Bool.not (dt p14)) (ao (aq (a6 rfl (mz zs6 (lx (aW (m := (k : Int)) (n := 1) rfl rfl (by omega)) (ai ((k : Int) + 1) (aa ?_)))))))
       have C22 := cg [] (ch14.n.seq (hc17.n.seq hb19.n))
       refine back10 (k + 1, g13) _ _ ⟨bH.ca C22, zs0, zs4, zs5, rfl, Rps.cn hb19, ?_⟩ ?_
       · show (∀ j : Nat, i < j → j < (k + 1) → ¬ fV ps i j) ∧ i < (k + 1)
         refine ⟨fun j h1 h2 => ?_, by omega⟩
         by_cases e0 : j = k
         · subst e0
           exact pd (by exact ni ‹_› ‹_›) ‹_›
         · exact hk.1 j h1 (by omega)
       · show List.length ps - (k + 1) < List.length ps - k
         omega
      refine ah rfl (congrArg Bool.not (df p14)) (a7 (a6 rfl (ma (Value.bool false) (ai 0 (aa (al (vs := [Value.bool false, vi 0]) Try.func68 (.tmp rfl (.tmp rfl .nil)) ?_))))))
      have e0 : (false : Bool) = ((dC ps).1) := by
        (rw [di ‹_› hok]; exact gX (k := k) ‹_› ‹_› hk.2 (by exact tN (by exact ni ‹_› ‹_›) ‹_›))
      have e1 : (0 : Int) = ((dC ps).2) := by
        rw [di ‹_› hok]
      have C23 := cg [] (ch14.n.seq (hc17.n.seq hb19.n))
      replace bH := bH.ca C23
      exact ⟨(bS (a := false) (b := 0) (fun (z0 : Bool) (z1 : Int) => Ending.returned (vt [Value.bool z0, vi z1])) e0 e1), bH.below⟩
     refine ab (wn (df q73)) (ab (wn (df q73)) (lv (Value.bool false) (wy (df q65)) (aE rfl (df q73) rfl) (lw (Value.bool false) (aE rfl (df q65) rfl) (ma (Value.bool false) (aa (a7 (a6 rfl (mv (Value.bool false) (mv (Value.bool false) (ab (wn rfl) (ab (wn rfl) (lw (Value.bool false) (aE rfl rfl rfl) ?_))))))))))))
     refine mv (Value.bool false) (lv (Value.bool false) (wy rfl) (aF rfl) (lv (Value.bool true) (wy rfl) (db (b := false) rfl) (lv (Value.bool true) (wy rfl) (aF rfl) (lv (vi (aT (gI ps (i : Int)) (gI ps ((i : Int) + 1)) (gI ps (k : Int)) (gI ps ((k : Int) + 1)))) (wy rfl) (aF rfl) (lv (Value.bool (!(decide ((aT (gI ps (i : Int)) (gI ps ((i : Int) + 1)) (gI ps (k : Int)) (gI ps ((k : Int) + 1))) = 0)))) (wy rfl) (dK (m := aT (gI ps (i : Int)) (gI ps ((i : Int) + 1)) (gI ps (k : Int)) (gI ps ((k : Int) + 1))) (n := 0) rfl rfl) (lv (Value.bool (!(decide ((aT (gI ps (i : Int)) (gI ps ((i : Int) + 1)) (gI ps (k : Int)) (gI ps ((k : Int) + 1))) = 0)))) (wy rfl) (av rfl rfl rfl) ?_))))))
     refine lw (Value.bool (!(decide ((aT (gI ps (i : Int)) (gI ps ((i : Int) + 1)) (gI ps (k : Int)) (gI ps ((k : Int) + 1))) = 0)))) (aE rfl rfl rfl) (aa ?_)
     by_cases p14 : (aT (gI ps (i : Int)) (gI ps ((i : Int) + 1)) (gI ps (k : Int)) (gI ps ((k : Int) + 1))) = 0
     ·
      refine aj rfl (congrArg Bool.not (dt p14)) (ao (aq (a6 rfl (mz zs6 (lx (aW (m := (k : Int)) (n := 1) rfl rfl (by omega)) (ai ((k : Int) + 1) (aa ?_)))))))
      replace bH := bH.cn ch14
      refine back10 (k + 1, g13) _ _ ⟨bH.cn hc17, zs0, zs4, zs5, rfl, Rps.cn hc17, ?_⟩ ?_
      · show (∀ j : Nat, i < j → j < (k + 1) → ¬ fV ps i j) ∧ i < (k + 1)
        refine ⟨fun j h1 h2 => ?_, by omega⟩
        by_cases e0 : j = k
        · subst e0
          exact pd (by exact mI ‹_› ‹_›) ‹_›
        · exact hk.1 j h1 (by omega)
      · show List.length ps - (k + 1) < List.length ps - k
        omega
     refine ah rfl (congrArg Bool.not (df p14)) (a7 (a6 rfl (ma (Value.bool false) (ai 0 (aa (al (vs := [Value.bool false, vi 0]) Try.func68 (.tmp rfl (.tmp rfl .nil)) ?_))))))
     have e0 : (false : Bool) = ((dC ps).1) := by
       (rw [di ‹_› hok]; exact gX (k := k) ‹_› ‹_› hk.2 (by exact tN (by exact mI ‹_› ‹_›) ‹_›))
     have e1 : (0 : Int) = ((dC ps).2) := by
       rw [di ‹_› hok]
     replace bH := bH.cn ch14
     replace bH := bH.cn hc17
     exact ⟨(bS (a := false) (b := 0) (fun (z0 : Bool) (z1 : Int) => Ending.returned (vt [Value.bool z0, vi z1])) e0 e1), bH.below⟩
    refine ab (wn (df q68)) (ab (wn (df q68)) (ab (wn (df q68)) (lv (Value.bool false) (wy (df q65)) (aE rfl (df q68) rfl) (lv (Value.bool false) (wy (df q65)) (aF rfl) (ab (wn rfl) (ab (wn rfl) (lv (Value.bool false) (wy (df q65)) (aE rfl rfl rfl) (lw (Value.bool false) (aE rfl (df q65) rfl) (ma (Value.bool false) (aa (a7 (a6 rfl ?_))))))))))))
    refine mv (Value.bool false) (mv (Value.bool false) (ab (wn rfl) (ab (wn rfl) (lw (Value.bool false) (aE rfl rfl rfl) (mv (Value.bool false) (lv (Value.bool false) (wy rfl) (aF rfl) (lv (Value.bool true) (wy rfl) (db (b := false) rfl) (lv (Value.bool true) (wy rfl) (aF rfl) (lv (vi (aT (gI ps (i : Int)) (gI ps ((i : Int) + 1)) (gI ps (k : Int)) (gI ps ((k : Int) + 1)))) (wy rfl) (aF rfl) (lv (Value.bool (!(decide ((aT (gI ps (i : Int)) (gI ps ((i : Int) + 1)) (gI ps (k : Int)) (gI ps ((k : Int) + 1))) = 0)))) (wy rfl) (dK (m := aT (gI ps (i : Int)) (gI ps ((i : Int) + 1)) (gI ps (k : Int)) (gI ps ((k : Int) + 1))) (n := 0) rfl rfl) ?_))))))))))
    refine lv (Value.bool (!(decide ((aT (gI ps (i : Int)) (gI ps ((i : Int) + 1)) (gI ps (k : Int)) (gI ps ((k : Int) + 1))) = 0)))) (wy rfl) (av rfl rfl rfl) (lw (Value.bool (!(decide ((aT (gI ps (i : Int)) (gI ps ((i : Int) + 1)) (gI ps (k : Int)) (gI ps ((k : Int) + 1))) = 0)))) (aE rfl rfl rfl) (aa ?_))
    by_cases p14 : (aT (gI ps (i : Int)) (gI ps ((i : Int) + 1)) (gI ps (k : Int)) (gI ps ((k : Int) + 1))) = 0
    ·
     refine aj rfl (congrArg Bool.not (dt p14)) (ao (aq (a6 rfl (mz zs6 (lx (aW (m := (k : Int)) (n := 1) rfl rfl (by omega)) (ai ((k : Int) + 1) (aa ?_)))))))
     replace bH := bH.cn ch14
     refine back10 (k + 1, g13) _ _ ⟨bH.cn hc17, zs0, zs4, zs5, rfl, Rps.cn hc17, ?_⟩ ?_
     · show (∀ j : Nat, i < j → j < (k + 1) → ¬ fV ps i j) ∧ i < (k + 1)
       refine ⟨fun j h1 h2 => ?_, by omega⟩
       by_cases e0 : j = k
       · subst e0
         exact pd (by exact mx ‹_› ‹_›) ‹_›
       · exact hk.1 j h1 (by omega)
     · show List.length ps - (k + 1) < List.length ps - k
       omega
    refine ah rfl (congrArg Bool.not (df p14)) (a7 (a6 rfl (ma (Value.bool false) (ai 0 (aa (al (vs := [Value.bool false, vi 0]) Try.func68 (.tmp rfl (.tmp rfl .nil)) ?_))))))
    have e0 : (false : Bool) = ((dC ps).1) := by
      (rw [di ‹_› hok]; exact gX (k := k) ‹_› ‹_› hk.2 (by exact tN (by exact mx ‹_› ‹_›) ‹_›))
    have e1 : (0 : Int) = ((dC ps).2) := by
      rw [di ‹_› hok]
    replace bH := bH.cn ch14
    replace bH := bH.cn hc17
    exact ⟨(bS (a := false) (b := 0) (fun (z0 : Bool) (z1 : Int) => Ending.returned (vt [Value.bool z0, vi z1])) e0 e1), bH.below⟩
   refine aj rfl (df p10) (aR rfl (aq (a6 rfl (mz zs5 (lx (aW (m := (i : Int)) (n := 1) rfl rfl (by omega)) (ai ((i : Int) + 1) (aa ?_)))))))
   refine back5 (i + 1, g13) _ _ ⟨bH, zs0, zs4, rfl, Rps, ?_⟩ ?_
   · show ∀ j : Nat, j < (i + 1) → m9 ps j
     intro j hj
     by_cases e0 : j = i
     · subst e0; exact ⟨p7, fun k' _ h1 h2 => hk.1 k' h1 (by omega)⟩
     · exact hinv j (by omega)
   · show List.length ps - (i + 1) < List.length ps - i
     omega
  refine aj rfl (df p5) (aR rfl (a7 (a6 rfl (ma (Value.bool true) (ai 0 (aa (al (vs := [Value.bool true, vi 0]) Try.func68 (.tmp rfl (.tmp rfl .nil)) ?_)))))))
  have e0 : (true : Bool) = ((dC ps).1) := by
    (rw [di ‹_› hok]; exact ru hinv ‹_›)
  have e1 : (0 : Int) = ((dC ps).2) := by
    rw [di ‹_› hok]
  exact ⟨(bS (a := true) (b := 0) (fun (z0 : Bool) (z1 : Int) => Ending.returned (vt [Value.bool z0, vi z1])) e0 e1), bH.below⟩
 refine ah rfl (congrArg Bool.not (Bool.eq_false_iff.2 p1)) (a7 (a6 rfl (ma (Value.bool false) (ai 1 (aa (al (vs := [Value.bool false, vi 1]) Try.func68 (.tmp rfl (.tmp rfl .nil)) ?_))))))
 have e0 : (false : Bool) = ((dC ps).1) := by
   rw [i6 (.inr (fun h => p1 (dt h)))]
 have e1 : (1 : Int) = ((dC ps).2) := by
   rw [i6 (.inr (fun h => p1 (dt h)))]
 replace bH := bH.cn hb3
 exact ⟨(bS (a := false) (b := 1) (fun (z0 : Bool) (z1 : Int) => Ending.returned (vt [Value.bool z0, vi z1])) e0 e1), bH.below⟩
end TL
