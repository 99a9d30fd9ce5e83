import Derived.Test.YtbadiajeohbpcaaGTlP2
import Derived.Test.YtbadiajeohbpcaaGTlGmA
import Derived.Test.YtbadiajeohbpcaaGTlGmM
import Derived.Test.YtbadiajeohbpcaaProg
set_option linter.all false
set_option maxRecDepth 20000
namespace TL
open Go Go.Proofs
theorem iu : Try.prog.follows .mixedOrders = true := by kernel_rfl
theorem pJ : Try.f79.body.isNone = false := rfl
theorem pD : (Try.f79.name == "runtime.NumGoroutine") = false := by decide +kernel
theorem mH (w0 : World) (ps : List ((Int) × (Int))) (ps_v : Value) (hps_v : Ro w0 ps_v ps) :
    Calls Try.prog 79 #[ps_v] w0 (fun ee w => ee = .returned (Value.bool (decide (bV ps))) ∧ cQ w0.heap.size w0 w) := by
 refine aC Try.func79 rfl (Nat.le_of_ble_eq_true rfl) ?_
 have bH := bf.start w0
 have Rps := hps_v.sl
 refine a7 (a6 rfl (ma (Value.bool false) (aa (a7 (cl c0 rfl iu (by kernel_rfl) ?_)))))
 intro w2 ch1
 refine qm ps_v ?_
 replace Rps := Rps.cn ch1
 have len3 := (Rps).small
 refine qx (fun w' hw' => bh Try.underlying25 rfl (Rps.bel hw')) (qx (fun w' hw' => gD (m := (ps.length : Int)) (n := 4) rfl rfl) (qm (Value.bool (decide (4 ≤ (ps.length : Int)))) ?_))
 by_cases q6 : 4 ≤ (ps.length : Int)
 ·
  refine b6 (v := ps_v) (wy (dt q6)) (fun w' hw' => aI rfl) (b6 (v := Value.pointer (some (bF ps_v 2 (Int.toNat 0)))) (wy (dt q6)) (fun w' hw' => ar (α := (Int) × (Int)) (xs := ps) (v := ps_v) (i := 0) Try.underlying25 rfl rfl (Rps.bel hw') rfl (by omega) (by omega)) (b6 (v := vg [vi ((gI ps 0).1), vi ((gI ps 0).2)]) (wy (dt q6)) (fun w' hw' => aN (α := (Int) × (Int)) (xs := ps) (v := ps_v) (i := 0) ab rfl (Rps.bel hw') (by omega) (by omega) rfl) (b6 (v := ps_v) (wy (dt q6)) (fun w' hw' => aI rfl) (b6 (v := ps_v) (wy (dt q6)) (fun w' hw' => aI rfl) ?_))))
  refine b6 (v := vi (ps.length : Int)) (wy (dt q6)) (fun w' hw' => bh Try.underlying25 rfl (Rps.bel hw')) (b6 (v := vi ((ps.length : Int) - 1)) (wy (dt q6)) (fun w' hw' => cZ (m := (ps.length : Int)) (n := 1) rfl rfl (by omega)) (b6 (v := Value.pointer (some (bF ps_v 2 (Int.toNat ((ps.length : Int) - 1))))) (wy (dt q6)) (fun w' hw' => ar (α := (Int) × (Int)) (xs := ps) (v := ps_v) (i := (ps.length : Int) - 1) Try.underlying25 rfl rfl (Rps.bel hw') rfl (by omega) (by omega)) ?_))
  refine b6 (v := vg [vi ((gI ps ((ps.length : Int) - 1)).1), vi ((gI ps ((ps.length : Int) - 1)).2)]) (wy (dt q6)) (fun w' hw' => aN (α := (Int) × (Int)) (xs := ps) (v := ps_v) (i := (ps.length : Int) - 1) ab rfl (Rps.bel hw') (by omega) (by omega) rfl) ?_
  refine b6 (v := Value.bool (decide ((gI ps 0) = (gI ps ((ps.length : Int) - 1))))) (wy (dt q6)) (fun w' hw' => dI (bs := [decide (((gI ps 0).1) = ((gI ps ((ps.length : Int) - 1)).1)), decide (((gI ps 0).2) = ((gI ps ((ps.length : Int) - 1)).2))]) Try.underlying45 (by kernel_rfl) (by kernel_rfl) rfl rfl (.cons (by decide +kernel) bc rfl rfl (.int Try.underlying3) (.cons (by decide +kernel) bc rfl rfl (.int Try.underlying3) .nil)) (by simp [Prod.ext_iff, Bool.decide_and, Bool.and_assoc])) (qv (Value.bool (decide ((gI ps 0) = (gI ps ((ps.length : Int) - 1))))) (fun w' hw' => au rfl (dt q6) rfl) (qv (Value.bool (decide ((gI ps 0) = (gI ps ((ps.length : Int) - 1))))) (fun w' hw' => bP rfl) (dp ?_)))
  intro w4 hc5
  replace hc5 := ak hc5 c0
  refine al (vs := [Value.bool (decide ((gI ps 0) = (gI ps ((ps.length : Int) - 1))))]) Try.func79 (.tmp rfl .nil) ?_
  have e0 : (decide ((gI ps 0) = (gI ps ((ps.length : Int) - 1))) : Bool) = (decide (bV ps)) := by
    (rw [decide_eq_decide]; exact ⟨fun h => ⟨by assumption, h⟩, fun h => h.2⟩)
  replace bH := bH.cn ch1
  replace bH := bH.cn hc5
  exact ⟨(congrArg (a₁ := decide ((gI ps 0) = (gI ps ((ps.length : Int) - 1)))) (fun (z0 : Bool) => Ending.returned (Value.bool z0)) e0), bH.below⟩
 refine aV (wn (df q6)) (aV (wn (df q6)) (aV (wn (df q6)) (aV (wn (df q6)) (aV (wn (df q6)) (aV (wn (df q6)) (aV (wn (df q6)) (aV (wn (df q6)) (aV (wn (df q6)) (aV (wn (df q6)) ?_)))))))))
 refine qv (Value.bool false) (fun w' hw' => aD rfl (df q6) rfl) (qv (Value.bool false) (fun w' hw' => bP rfl) (dp ?_))
 intro w6 hc7
 replace hc7 := ak hc7 c0
 refine al (vs := [Value.bool false]) Try.func79 (.tmp rfl .nil) ?_
 have e0 : (false : Bool) = (decide (bV ps)) := by
   exact (df (fun h => absurd h.1 ‹_›)).symm
 replace bH := bH.cn ch1
 replace bH := bH.cn hc7
 exact ⟨(congrArg (a₁ := false) (fun (z0 : Bool) => Ending.returned (Value.bool z0)) e0), bH.below⟩
set_option maxHeartbeats 2000000 in
theorem m7 (w0 : World) (ps : List ((Int) × (Int))) (ps_v : Value) (hps_v : Ro w0 ps_v ps) (hlen : (ps.length : Int) ≤ 1000000) :
    Calls Try.prog 68 #[ps_v] w0 (fun ee w => ee = .returned (vt [Value.bool ((dn ps).1), vi ((dn ps).2)]) ∧ cQ w0.heap.size w0 w) := by
 refine aC Try.func68 rfl (Nat.le_of_ble_eq_true rfl) ?_
 have bH := bf.start w0
 have Rps := hps_v.sl
 refine a7 (a6 rfl (ma (Value.bool false) (ai 0 (aa (a7 (a7 (a6 rfl (mv ps_v ?_))))))))
 have len1 := (Rps).small
 refine lx (bh Try.underlying25 rfl Rps) (lx (bO (m := (ps.length : Int)) (n := 0) rfl rfl) (mv (Value.bool (decide ((ps.length : Int) = 0))) ?_))
 by_cases q12 : (ps.length : Int) = 0
 ·
  refine ae (wn (dt q12)) (ae (wn (dt q12)) (ae (wn (dt q12)) (lw (Value.bool true) (au rfl (dt q12) rfl) (aa (ah rfl rfl (a7 (a6 rfl (ma (Value.bool false) (ai 1 (aa ?_))))))))))
  refine al (vs := [Value.bool false, vi 1]) Try.func68 (.tmp rfl (.tmp rfl .nil)) ?_
  have e0 : (false : Bool) = ((dn ps).1) := by
    rw [gM (.inl ‹_›)]
  have e1 : (1 : Int) = ((dn ps).2) := by
    rw [gM (.inl ‹_›)]
  exact ⟨(bW (a := false) (b := 1) (fun (z0 : Bool) (z1 : Int) => Ending.returned (vt [Value.bool z0, vi z1])) e0 e1), bH.below⟩
 refine lv (ps_v) (wy (df q12)) (aI rfl) (bY (wy (df q12)) (aF (v := Value.bool (decide (cX ps))) (aw (vals := [ps_v]) Try.func54 e9 eh rfl) (ej w0 ps ps_v (Rps).ro) ?_))
 intro w2 hb3
 replace hb3 := ak hb3 c0
 refine lv (Value.bool (!(decide (cX ps)))) (wy (df q12)) (di (b := (decide (cX ps))) rfl) (lw (Value.bool (!(decide (cX ps)))) (aD rfl (df q12) rfl) (aa ?_))
 by_cases p1 : (decide (cX ps)) = true
 ·
  have hok := of_decide_eq_true p1
  obtain ⟨hl1, hl2⟩ := of_decide_eq_true p1
  refine aj rfl (congrArg Bool.not p1) (am (a7 (a6 rfl (mv ps_v ?_))))
  replace Rps := Rps.cn hb3
  refine lx (bh Try.underlying25 rfl Rps) (lx (cZ (m := (ps.length : Int)) (n := 2) rfl rfl (by omega)) (ai ((ps.length : Int) - 2) (aa (a7 (a7 (a6 rfl (ai 0 (aa (av ?_)))))))))
  refine ba (σ := Nat × aP) (fun ⟨i, gq⟩ f w => bf w0 gq w ∧ f 0 = ps_v ∧ f 4 = vi ((ps.length : Int) - 2) ∧ f 5 = vi (i : Int) ∧ Sl gq (is 0) w ps_v ps ∧ (∀ j : Nat, j < i → kV ps j)) (fun ⟨i, gq⟩ => List.length ps - i) (0, c0) ?_ ?_
  · exact ⟨bH.cn hb3, rfl, rfl, rfl, Rps, by intro j hj; omega⟩
  clear Rps bH
  rintro ⟨i, g6⟩ f4 w5 ⟨bH, zs0, zs4, zs5, Rps, hinv⟩ back5
  refine a7 (a7 (a6 rfl (mz zs5 (mz zs4 (lx (j0 (m := (i : Int)) (n := (ps.length : Int) - 2) rfl rfl) (aa ?_))))))
  by_cases p5 : (i : Int) ≤ ((ps.length : Int) - 2)
  ·
   refine ah rfl (dt p5) (am (a7 (av (a7 (a7 (cl g6 rfl iu (by kernel_rfl) ?_))))))
   intro w8 ch7
   refine qz zs0 (qz zs5 ?_)
   replace Rps := Rps.cn ch7
   refine qx (fun w' hw' => ar (v := ps_v) (i := (i : Int)) Try.underlying25 rfl rfl (Rps.bel hw') rfl (by omega) (by omega)) (qv (vg [vi ((gI ps (i : Int)).1), vi ((gI ps (i : Int)).2)]) (fun w' hw' => aN (v := ps_v) (i := (i : Int)) ab rfl (Rps.bel hw') (by omega) (by omega) rfl) (qz zs0 (qz zs5 (qx (fun w' hw' => aT (m := (i : Int)) (n := 1) rfl rfl (by omega)) (qx (fun w' hw' => ar (v := ps_v) (i := (i : Int) + 1) Try.underlying25 rfl rfl (Rps.bel hw') rfl (by omega) (by omega)) (qv (vg [vi ((gI ps ((i : Int) + 1)).1), vi ((gI ps ((i : Int) + 1)).2)]) (fun w' hw' => aN (v := ps_v) (i := (i : Int) + 1) ab rfl (Rps.bel hw') (by omega) (by omega) rfl) ?_))))))
   refine qv (Value.bool (decide ((gI ps (i : Int)) = (gI ps ((i : Int) + 1))))) (fun w' hw' => dI (bs := [decide (((gI ps (i : Int)).1) = ((gI ps ((i : Int) + 1)).1)), decide (((gI ps (i : Int)).2) = ((gI ps ((i : Int) + 1)).2))]) Try.underlying45 (by kernel_rfl) (by kernel_rfl) rfl rfl (.cons (by decide +kernel) bc rfl rfl (.int Try.underlying3) (.cons (by decide +kernel) bc rfl rfl (.int Try.underlying3) .nil)) (by simp [Prod.ext_iff, Bool.decide_and, Bool.and_assoc])) (dp ?_)
   intro w9 hc10
   replace hc10 := ak hc10 g6
   by_cases p7 : (gI ps (i : Int)) = (gI ps ((i : Int) + 1))
   ·
    refine ah rfl (dt p7) (a7 (a6 rfl (ma (Value.bool false) (ai 0 (aa (al (vs := [Value.bool false, vi 0]) Try.func68 (.tmp rfl (.tmp rfl .nil)) ?_))))))
    have e0 : (false : Bool) = ((dn ps).1) := by
      (rw [cW ‹_› hok]; exact s7 ‹_› ‹_›)
    have e1 : (0 : Int) = ((dn ps).2) := by
      rw [cW ‹_› hok]
    replace bH := bH.cn ch7
    replace bH := bH.cn hc10
    exact ⟨(bW (a := false) (b := 0) (fun (z0 : Bool) (z1 : Int) => Ending.returned (vt [Value.bool z0, vi z1])) e0 e1), bH.below⟩
   refine aj rfl (df p7) (am (a7 (a6 rfl (mz zs5 (lx (aT (m := (i : Int)) (n := 1) rfl rfl (by omega)) (ai ((i : Int) + 1) (aa (av ?_))))))))
   refine ba (σ := Nat × aP) (fun ⟨k, gq⟩ f w => bf w0 gq w ∧ f 0 = ps_v ∧ f 4 = vi ((ps.length : Int) - 2) ∧ f 5 = vi (i : Int) ∧ f 6 = vi (k : Int) ∧ Sl gq (is 0) w ps_v ps ∧ ((∀ j : Nat, i < j → j < k → ¬ fx ps i j) ∧ i < k)) (fun ⟨k, gq⟩ => List.length ps - k) (i + 1, g6) ?_ ?_
   replace bH := bH.cn ch7
   · exact ⟨bH.cn hc10, zs0, zs4, zs5, rfl, Rps.cn hc10, by exact ⟨fun j h1 h2 => by omega, by omega⟩⟩
   clear Rps bH
   rintro ⟨k, g13⟩ f11 w12 ⟨bH, zs0, zs4, zs5, zs6, Rps, hk⟩ back10
   refine a7 (a7 (a6 rfl (mz zs6 (mz zs4 (lx (j0 (m := (k : Int)) (n := (ps.length : Int) - 2) rfl rfl) (aa ?_))))))
   by_cases p10 : (k : Int) ≤ ((ps.length : Int) - 2)
   ·
    refine ah rfl (dt p10) ?_
    have hb1 := (hl2 _ (bq (xs := ps) (i := (i : Int)) (by omega) (by omega))).bd
    have hb2 := (hl2 _ (bq (xs := ps) (i := (i : Int) + 1) (by omega) (by omega))).bd
    have hb3 := (hl2 _ (bq (xs := ps) (i := (k : Int)) (by omega) (by omega))).bd
    have hb4 := (hl2 _ (bq (xs := ps) (i := (k : Int) + 1) (by omega) (by omega))).bd
    refine am (a7 (av (a7 (cl g13 rfl iu (by kernel_rfl) ?_))))
    intro w15 ch14
    refine qz zs0 (qz zs5 ?_)
    replace Rps := Rps.cn ch14
    refine qx (fun w' hw' => ar (v := ps_v) (i := (i : Int)) Try.underlying25 rfl rfl (Rps.bel hw') rfl (by omega) (by omega)) (qv (vg [vi ((gI ps (i : Int)).1), vi ((gI ps (i : Int)).2)]) (fun w' hw' => aN (v := ps_v) (i := (i : Int)) ab rfl (Rps.bel hw') (by omega) (by omega) rfl) (qz zs0 (qz zs5 (qx (fun w' hw' => aT (m := (i : Int)) (n := 1) rfl rfl (by omega)) (qx (fun w' hw' => ar (v := ps_v) (i := (i : Int) + 1) Try.underlying25 rfl rfl (Rps.bel hw') rfl (by omega) (by omega)) (qv (vg [vi ((gI ps ((i : Int) + 1)).1), vi ((gI ps ((i : Int) + 1)).2)]) (fun w' hw' => aN (v := ps_v) (i := (i : Int) + 1) ab rfl (Rps.bel hw') (by omega) (by omega) rfl) (qz zs0 (qz zs6 ?_))))))))
    refine qx (fun w' hw' => ar (v := ps_v) (i := (k : Int)) Try.underlying25 rfl rfl (Rps.bel hw') rfl (by omega) (by omega)) (qv (vg [vi ((gI ps (k : Int)).1), vi ((gI ps (k : Int)).2)]) (fun w' hw' => aN (v := ps_v) (i := (k : Int)) ab rfl (Rps.bel hw') (by omega) (by omega) rfl) (qz zs0 (qz zs6 (qx (fun w' hw' => aT (m := (k : Int)) (n := 1) rfl rfl (by omega)) (qx (fun w' hw' => ar (v := ps_v) (i := (k : Int) + 1) Try.underlying25 rfl rfl (Rps.bel hw') rfl (by omega) (by omega)) (qv (vg [vi ((gI ps ((k : Int) + 1)).1), vi ((gI ps ((k : Int) + 1)).2)]) (fun w' hw' => aN (v := ps_v) (i := (k : Int) + 1) ab rfl (Rps.bel hw') (by omega) (by omega) rfl) ?_))))))
    refine dD (v := vi (aR (gI ps (i : Int)) (gI ps ((i : Int) + 1)) (gI ps (k : Int)) (gI ps ((k : Int) + 1)))) rfl (fun w' hw' => aw (vals := [vg [vi ((gI ps (i : Int)).1), vi ((gI ps (i : Int)).2)], vg [vi ((gI ps ((i : Int) + 1)).1), vi ((gI ps ((i : Int) + 1)).2)], vg [vi ((gI ps (k : Int)).1), vi ((gI ps (k : Int)).2)], vg [vi ((gI ps ((k : Int) + 1)).1), vi ((gI ps ((k : Int) + 1)).2)]]) Try.func78 lh lV rfl) (fun w' hw' => (ld w' (gI ps (i : Int)) (gI ps ((i : Int) + 1)) (gI ps (k : Int)) (gI ps ((k : Int) + 1)) ‹_› ‹_› ‹_› ‹_›).mono fun e w2 h2 => ⟨h2.1, hw'.trans (h2.2.mono hw'.size)⟩) ?_
    refine qv (vi (aR (gI ps (i : Int)) (gI ps ((i : Int) + 1)) (gI ps (k : Int)) (gI ps ((k : Int) + 1)))) (fun w' hw' => bP rfl) (dp ?_)
    intro w16 hc17
    replace hc17 := ak hc17 g13
    refine a7 (a6 rfl (mz zs6 (mz zs5 (lx (aT (m := (i : Int)) (n := 1) rfl rfl (by omega)) (lx (bO (m := (k : Int)) (n := (i : Int) + 1) rfl rfl) (mv (Value.bool (decide ((k : Int) = ((i : Int) + 1)))) ?_))))))
    by_cases q65 : (k : Int) = ((i : Int) + 1)
    ·
     refine ae (wn (dt q65)) (ae (wn (dt q65)) (ae (wn (dt q65)) (ae (dd rfl rfl rfl) (ae (dd rfl rfl rfl) (ae (dd rfl rfl rfl) (ae (wn (dt q65)) (ae (wn (dt q65)) (ae (dd rfl rfl rfl) (ae (dd rfl rfl rfl) ?_)))))))))
     refine ae (wn (dt q65)) (lw (Value.bool true) (au rfl (dt q65) rfl) (ma (Value.bool true) (aa (a7 (a6 rfl (mv (Value.bool true) (mv (Value.bool true) (lv (vi (aR (gI ps (i : Int)) (gI ps ((i : Int) + 1)) (gI ps (k : Int)) (gI ps ((k : Int) + 1)))) (wy rfl) (aI rfl) (lv (Value.bool (decide ((aR (gI ps (i : Int)) (gI ps ((i : Int) + 1)) (gI ps (k : Int)) (gI ps ((k : Int) + 1))) = 3))) (wy rfl) (bO (m := aR (gI ps (i : Int)) (gI ps ((i : Int) + 1)) (gI ps (k : Int)) (gI ps ((k : Int) + 1))) (n := 3) rfl rfl) (lw (Value.bool (decide ((aR (gI ps (i : Int)) (gI ps ((i : Int) + 1)) (gI ps (k : Int)) (gI ps ((k : Int) + 1))) = 3))) (au rfl rfl rfl) ?_))))))))))
     refine mv (Value.bool (decide ((aR (gI ps (i : Int)) (gI ps ((i : Int) + 1)) (gI ps (k : Int)) (gI ps ((k : Int) + 1))) = 3))) ?_
     by_cases q83 : (aR (gI ps (i : Int)) (gI ps ((i : Int) + 1)) (gI ps (k : Int)) (gI ps ((k : Int) + 1))) = 3
     ·
      refine ae (wn (dt q83)) (ae (wn (dt q83)) (ae (wn (dt q83)) (ae (dd rfl rfl rfl) (ae (dd rfl rfl rfl) (ae (wn (dt q83)) (lw (Value.bool true) (au rfl (dt q83) rfl) (aa (ah rfl rfl (a7 (a6 rfl ?_))))))))))
      refine ma (Value.bool false) (ai 0 (aa (al (vs := [Value.bool false, vi 0]) Try.func68 (.tmp rfl (.tmp rfl .nil)) ?_)))
      have e0 : (false : Bool) = ((dn ps).1) := by
        (rw [cW ‹_› hok]; exact gJ (k := k) ‹_› ‹_› hk.2 (by exact sH (by exact rf ‹_›) ‹_›))
      have e1 : (0 : Int) = ((dn ps).2) := by
        rw [cW ‹_› hok]
      replace bH := bH.cn ch14
      replace bH := bH.cn hc17
      exact ⟨(bW (a := false) (b := 0) (fun (z0 : Bool) (z1 : Int) => Ending.returned (vt [Value.bool z0, vi z1])) e0 e1), bH.below⟩
     refine lv (Value.bool true) (wy (df q83)) (aI rfl) (lv (Value.bool false) (wy (df q83)) (di (b := true) rfl) (lv (Value.bool false) (wy (df q83)) (aI rfl) (ae (wn rfl) (ae (wn rfl) (lv (Value.bool false) (wy (df q83)) (aD rfl rfl rfl) (lw (Value.bool false) (aD rfl (df q83) rfl) (aa (aj rfl rfl (am (ao ?_))))))))))
     refine a6 rfl (mz zs6 (lx (aT (m := (k : Int)) (n := 1) rfl rfl (by omega)) (ai ((k : Int) + 1) (aa ?_))))
     replace bH := bH.cn ch14
     refine back10 (k + 1, g13) _ _ ⟨bH.cn hc17, zs0, zs4, zs5, rfl, Rps.cn hc17, ?_⟩ ?_
     · show (∀ j : Nat, i < j → j < (k + 1) → ¬ fx ps i j) ∧ i < (k + 1)
       refine ⟨fun j h1 h2 => ?_, by omega⟩
       by_cases e0 : j = k
       · subst e0
         exact rk (by exact rf ‹_›) ‹_›
       · exact hk.1 j h1 (by omega)
     · show List.length ps - (k + 1) < List.length ps - k
       omega
    refine lv (vi (i : Int)) (wy (df q65)) (aI zs5) (lv (Value.bool (decide ((i : Int) = 0))) (wy (df q65)) (bO (m := (i : Int)) (n := 0) rfl rfl) (lv (Value.bool (decide ((i : Int) = 0))) (wy (df q65)) (aI rfl) ?_))
    by_cases q68 : (i : Int) = 0
    ·
     refine lv (vi (k : Int)) (wy (dt q68)) (aI zs6) (lv (vi ((ps.length : Int) - 2)) (wy (dt q68)) (aI zs4) (lv (Value.bool (decide ((k : Int) = ((ps.length : Int) - 2)))) (wy (dt q68)) (bO (m := (k : Int)) (n := (ps.length : Int) - 2) rfl rfl) (lv (Value.bool (decide ((k : Int) = ((ps.length : Int) - 2)))) (wy (df q65)) (au rfl (dt q68) rfl) (lv (Value.bool (decide ((k : Int) = ((ps.length : Int) - 2)))) (wy (df q65)) (aI rfl) ?_))))
     by_cases q73 : (k : Int) = ((ps.length : Int) - 2)
     ·
      refine lv (ps_v) (wy (dt q73)) (aI zs0) ?_
      replace Rps := Rps.cn hc17
      refine bY (wy (dt q73)) (aF (v := Value.bool (decide (bV ps))) (aw (vals := [ps_v]) Try.func79 pJ pD rfl) (mH w16 ps ps_v (Rps).ro) ?_)
      intro w18 hb19
      replace hb19 := ak hb19 g13
      refine lv (Value.bool (decide (bV ps))) (wy (df q65)) (au rfl (dt q73) rfl) (lw (Value.bool (decide (bV ps))) (aD rfl (df q65) rfl) (ma (Value.bool (decide (bV ps))) (aa (a7 (a6 rfl (mv (Value.bool (decide (bV ps))) (mv (Value.bool (decide (bV ps))) ?_)))))))
      by_cases q79 : (decide (bV ps)) = true
      ·
       refine lv (vi (aR (gI ps (i : Int)) (gI ps ((i : Int) + 1)) (gI ps (k : Int)) (gI ps ((k : Int) + 1)))) (wy q79) (aI rfl) (lv (Value.bool (decide ((aR (gI ps (i : Int)) (gI ps ((i : Int) + 1)) (gI ps (k : Int)) (gI ps ((k : Int) + 1))) = 3))) (wy q79) (bO (m := aR (gI ps (i : Int)) (gI ps ((i : Int) + 1)) (gI ps (k : Int)) (gI ps ((k : Int) + 1))) (n := 3) rfl rfl) (lw (Value.bool (decide ((aR (gI ps (i : Int)) (gI ps ((i : Int) + 1)) (gI ps (k : Int)) (gI ps ((k : Int) + 1))) = 3))) (au rfl q79 rfl) (mv (Value.bool (decide ((aR (gI ps (i : Int)) (gI ps ((i : Int) + 1)) (gI ps (k : Int)) (gI ps ((k : Int) + 1))) = 3))) ?_)))
       by_cases q83 : (aR (gI ps (i : Int)) (gI ps ((i : Int) + 1)) (gI ps (k : Int)) (gI ps ((k : Int) + 1))) = 3
       ·
        refine ae (wn (dt q83)) (ae (wn (dt q83)) (ae (wn (dt q83)) (ae (dd rfl rfl rfl) (ae (dd rfl rfl rfl) (ae (wn (dt q83)) (lw (Value.bool true) (au rfl (dt q83) rfl) (aa (ah rfl rfl (a7 (a6 rfl ?_))))))))))
        refine ma (Value.bool false) (ai 0 (aa (al (vs := [Value.bool false, vi 0]) Try.func68 (.tmp rfl (.tmp rfl .nil)) ?_)))
        have e0 : (false : Bool) = ((dn ps).1) := by
          (rw [cW ‹_› hok]; exact gJ (k := k) ‹_› ‹_› hk.2 (by exact sH (by exact rc ‹_› ‹_› ‹_›) ‹_›))
        have e1 : (0 : Int) = ((dn ps).2) := by
          rw [cW ‹_› hok]
        have C20 := cg [] (ch14.n.seq (hc17.n.seq hb19.n))
        replace bH := bH.ca C20
        exact ⟨(bW (a := false) (b := 0) (fun (z0 : Bool) (z1 : Int) => Ending.returned (vt [Value.bool z0, vi z1])) e0 e1), bH.below⟩
       refine lv (Value.bool (decide (bV ps))) (wy (df q83)) (aI rfl) (lv (Value.bool (!(decide (bV ps)))) (wy (df q83)) (di (b := (decide (bV ps))) rfl) (lv (Value.bool (!(decide (bV ps)))) (wy (df q83)) (aI rfl) (ae (wn (congrArg Bool.not q79)) (ae (wn (congrArg Bool.not q79)) (lv (Value.bool false) (wy (df q83)) (aD rfl (congrArg Bool.not q79) rfl) (lw (Value.bool false) (aD rfl (df q83) rfl) (aa (aj rfl rfl (am ?_)))))))))
       refine ao (a6 rfl (mz zs6 (lx (aT (m := (k : Int)) (n := 1) rfl rfl (by omega)) (ai ((k : Int) + 1) (aa ?_)))))
       have C21 := cg [] (ch14.n.seq (hc17.n.seq hb19.n))
       refine back10 (k + 1, g13) _ _ ⟨bH.ca C21, zs0, zs4, zs5, rfl, Rps.cn hb19, ?_⟩ ?_
       · show (∀ j : Nat, i < j → j < (k + 1) → ¬ fx ps i j) ∧ i < (k + 1)
         refine ⟨fun j h1 h2 => ?_, by omega⟩
         by_cases e0 : j = k
         · subst e0
           exact rk (by exact rc ‹_› ‹_› ‹_›) ‹_›
         · exact hk.1 j h1 (by omega)
       · show List.length ps - (k + 1) < List.length ps - k
         omega
      refine ae (wn (Bool.eq_false_iff.2 q79)) (ae (wn (Bool.eq_false_iff.2 q79)) (lw (Value.bool false) (aD rfl (Bool.eq_false_iff.2 q79) rfl) (mv (Value.bool false) (lv (Value.bool (decide (bV ps))) (wy rfl) (aI rfl) (lv (Value.bool (!(decide (bV ps)))) (wy rfl) (di (b := (decide (bV ps))) rfl) (lv (Value.bool (!(decide (bV ps)))) (wy rfl) (aI rfl) (lv (vi (aR (gI ps (i : Int)) (gI ps ((i : Int) + 1)) (gI ps (k : Int)) (gI ps ((k : Int) + 1)))) (wy (congrArg Bool.not (Bool.eq_false_iff.2 q79))) (aI rfl) ?_)))))))
      refine lv (Value.bool (!(decide ((aR (gI ps (i : Int)) (gI ps ((i : Int) + 1)) (gI ps (k : Int)) (gI ps ((k : Int) + 1))) = 0)))) (wy (congrArg Bool.not (Bool.eq_false_iff.2 q79))) (dC (m := aR (gI ps (i : Int)) (gI ps ((i : Int) + 1)) (gI ps (k : Int)) (gI ps ((k : Int) + 1))) (n := 0) rfl rfl) (lv (Value.bool (!(decide ((aR (gI ps (i : Int)) (gI ps ((i : Int) + 1)) (gI ps (k : Int)) (gI ps ((k : Int) + 1))) = 0)))) (wy rfl) (au rfl (congrArg Bool.not (Bool.eq_false_iff.2 q79)) rfl) (lw (Value.bool (!(decide ((aR (gI ps (i : Int)) (gI ps ((i : Int) + 1)) (gI ps (k : Int)) (gI ps ((k : Int) + 1))) = 0)))) (aD rfl rfl rfl) (aa ?_)))
      by_cases p14 : (aR (gI ps (i : Int)) (gI ps ((i : Int) + 1)) (gI ps (k : Int)) (gI ps ((k : Int) + 1))) = 0
      ·
       refine aj rfl (congrArg Bool.not (dt p14)) (am (ao (a6 rfl (mz zs6 (lx (aT (m := (k : Int)) (n := 1) rfl rfl (by omega)) (ai ((k : Int) + 1) (aa ?_)))))))
       have C22 := cg [] (ch14.n.seq (hc17.n.seq hb19.n))
       refine back10 (k + 1, g13) _ _ ⟨bH.ca C22, zs0, zs4, zs5, rfl, Rps.cn hb19, ?_⟩ ?_
       · show (∀ j : Nat, i < j → j < (k + 1) → ¬ fx ps i j) ∧ i < (k + 1)
         refine ⟨fun j h1 h2 => ?_, by omega⟩
         by_cases e0 : j = k
         · subst e0
           exact nN (by exact lp ‹_› ‹_›) ‹_›
         · exact hk.1 j h1 (by omega)
       · show List.length ps - (k + 1) < List.length ps - k
         omega
      refine ah rfl (congrArg Bool.not (df p14)) (a7 (a6 rfl (ma (Value.bool false) (ai 0 (aa (al (vs := [Value.bool false, vi 0]) Try.func68 (.tmp rfl (.tmp rfl .nil)) ?_))))))
      have e0 : (false : Bool) = ((dn ps).1) := by
        (rw [cW ‹_› hok]; exact gJ (k := k) ‹_› ‹_› hk.2 (by exact s5 (by exact lp ‹_› ‹_›) ‹_›))
      have e1 : (0 : Int) = ((dn ps).2) := by
        rw [cW ‹_› hok]
      have C23 := cg [] (ch14.n.seq (hc17.n.seq hb19.n))
      replace bH := bH.ca C23
      exact ⟨(bW (a := false) (b := 0) (fun (z0 : Bool) (z1 : Int) => Ending.returned (vt [Value.bool z0, vi z1])) e0 e1), bH.below⟩
     refine ae (wn (df q73)) (ae (wn (df q73)) (lv (Value.bool false) (wy (df q65)) (aD rfl (df q73) rfl) (lw (Value.bool false) (aD rfl (df q65) rfl) (ma (Value.bool false) (aa (a7 (a6 rfl (mv (Value.bool false) (mv (Value.bool false) (ae (wn rfl) (ae (wn rfl) (lw (Value.bool false) (aD rfl rfl rfl) ?_))))))))))))
     refine mv (Value.bool false) (lv (Value.bool false) (wy rfl) (aI rfl) (lv (Value.bool true) (wy rfl) (di (b := false) rfl) (lv (Value.bool true) (wy rfl) (aI rfl) (lv (vi (aR (gI ps (i : Int)) (gI ps ((i : Int) + 1)) (gI ps (k : Int)) (gI ps ((k : Int) + 1)))) (wy rfl) (aI rfl) (lv (Value.bool (!(decide ((aR (gI ps (i : Int)) (gI ps ((i : Int) + 1)) (gI ps (k : Int)) (gI ps ((k : Int) + 1))) = 0)))) (wy rfl) (dC (m := aR (gI ps (i : Int)) (gI ps ((i : Int) + 1)) (gI ps (k : Int)) (gI ps ((k : Int) + 1))) (n := 0) rfl rfl) (lv (Value.bool (!(decide ((aR (gI ps (i : Int)) (gI ps ((i : Int) + 1)) (gI ps (k : Int)) (gI ps ((k : Int) + 1))) = 0)))) (wy rfl) (au rfl rfl rfl) ?_))))))
     refine lw (Value.bool (!(decide ((aR (gI ps (i : Int)) (gI ps ((i : Int) + 1)) (gI ps (k : Int)) (gI ps ((k : Int) + 1))) = 0)))) (aD rfl rfl rfl) (aa ?_)
     by_cases p14 : (aR (gI ps (i : Int)) (gI ps ((i : Int) + 1)) (gI ps (k : Int)) (gI ps ((k : Int) + 1))) = 0
     ·
      refine aj rfl (congrArg Bool.not (dt p14)) (am (ao (a6 rfl (mz zs6 (lx (aT (m := (k : Int)) (n := 1) rfl rfl (by omega)) (ai ((k : Int) + 1) (aa ?_)))))))
      replace bH := bH.cn ch14
      refine back10 (k + 1, g13) _ _ ⟨bH.cn hc17, zs0, zs4, zs5, rfl, Rps.cn hc17, ?_⟩ ?_
      · show (∀ j : Nat, i < j → j < (k + 1) → ¬ fx ps i j) ∧ i < (k + 1)
        refine ⟨fun j h1 h2 => ?_, by omega⟩
        by_cases e0 : j = k
        · subst e0
          exact nN (by exact lP ‹_› ‹_›) ‹_›
        · exact hk.1 j h1 (by omega)
      · show List.length ps - (k + 1) < List.length ps - k
        omega
     refine ah rfl (congrArg Bool.not (df p14)) (a7 (a6 rfl (ma (Value.bool false) (ai 0 (aa (al (vs := [Value.bool false, vi 0]) Try.func68 (.tmp rfl (.tmp rfl .nil)) ?_))))))
     have e0 : (false : Bool) = ((dn ps).1) := by
       (rw [cW ‹_› hok]; exact gJ (k := k) ‹_› ‹_› hk.2 (by exact s5 (by exact lP ‹_› ‹_›) ‹_›))
     have e1 : (0 : Int) = ((dn ps).2) := by
       rw [cW ‹_› hok]
     replace bH := bH.cn ch14
     replace bH := bH.cn hc17
     exact ⟨(bW (a := false) (b := 0) (fun (z0 : Bool) (z1 : Int) => Ending.returned (vt [Value.bool z0, vi z1])) e0 e1), bH.below⟩
    refine ae (wn (df q68)) (ae (wn (df q68)) (ae (wn (df q68)) (lv (Value.bool false) (wy (df q65)) (aD rfl (df q68) rfl) (lv (Value.bool false) (wy (df q65)) (aI rfl) (ae (wn rfl) (ae (wn rfl) (lv (Value.bool false) (wy (df q65)) (aD rfl rfl rfl) (lw (Value.bool false) (aD rfl (df q65) rfl) (ma (Value.bool false) (aa (a7 (a6 rfl ?_))))))))))))
    refine mv (Value.bool false) (mv (Value.bool false) (ae (wn rfl) (ae (wn rfl) (lw (Value.bool false) (aD rfl rfl rfl) (mv (Value.bool false) (lv (Value.bool false) (wy rfl) (aI rfl) (lv (Value.bool true) (wy rfl) (di (b := false) rfl) (lv (Value.bool true) (wy rfl) (aI rfl) (lv (vi (aR (gI ps (i : Int)) (gI ps ((i : Int) + 1)) (gI ps (k : Int)) (gI ps ((k : Int) + 1)))) (wy rfl) (aI rfl) (lv (Value.bool (!(decide ((aR (gI ps (i : Int)) (gI ps ((i : Int) + 1)) (gI ps (k : Int)) (gI ps ((k : Int) + 1))) = 0)))) (wy rfl) (dC (m := aR (gI ps (i : Int)) (gI ps ((i : Int) + 1)) (gI ps (k : Int)) (gI ps ((k : Int) + 1))) (n := 0) rfl rfl) ?_))))))))))
    refine lv (Value.bool (!(decide ((aR (gI ps (i : Int)) (gI ps ((i : Int) + 1)) (gI ps (k : Int)) (gI ps ((k : Int) + 1))) = 0)))) (wy rfl) (au rfl rfl rfl) (lw (Value.bool (!(decide ((aR (gI ps (i : Int)) (gI ps ((i : Int) + 1)) (gI ps (k : Int)) (gI ps ((k : Int) + 1))) = 0)))) (aD rfl rfl rfl) (aa ?_))
    by_cases p14 : (aR (gI ps (i : Int)) (gI ps ((i : Int) + 1)) (gI ps (k : Int)) (gI ps ((k : Int) + 1))) = 0
    ·
     refine aj rfl (congrArg Bool.not (dt p14)) (am (ao (a6 rfl (mz zs6 (lx (aT (m := (k : Int)) (n := 1) rfl rfl (by omega)) (ai ((k : Int) + 1) (aa ?_)))))))
     replace bH := bH.cn ch14
     refine back10 (k + 1, g13) _ _ ⟨bH.cn hc17, zs0, zs4, zs5, rfl, Rps.cn hc17, ?_⟩ ?_
     · show (∀ j : Nat, i < j → j < (k + 1) → ¬ fx ps i j) ∧ i < (k + 1)
       refine ⟨fun j h1 h2 => ?_, by omega⟩
       by_cases e0 : j = k
       · subst e0
         exact nN (by exact m4 ‹_› ‹_›) ‹_›
       · exact hk.1 j h1 (by omega)
     · show List.length ps - (k + 1) < List.length ps - k
       omega
    refine ah rfl (congrArg Bool.not (df p14)) (a7 (a6 rfl (ma (Value.bool false) (ai 0 (aa (al (vs := [Value.bool false, vi 0]) Try.func68 (.tmp rfl (.tmp rfl .nil)) ?_))))))
    have e0 : (false : Bool) = ((dn ps).1) := by
      (rw [cW ‹_› hok]; exact gJ (k := k) ‹_› ‹_› hk.2 (by exact s5 (by exact m4 ‹_› ‹_›) ‹_›))
    have e1 : (0 : Int) = ((dn ps).2) := by
      rw [cW ‹_› hok]
    replace bH := bH.cn ch14
    replace bH := bH.cn hc17
    exact ⟨(bW (a := false) (b := 0) (fun (z0 : Bool) (z1 : Int) => Ending.returned (vt [Value.bool z0, vi z1])) e0 e1), bH.below⟩
   refine aj rfl (df p10) (aU rfl (ao (a6 rfl (mz zs5 (lx (aT (m := (i : Int)) (n := 1) rfl rfl (by omega)) (ai ((i : Int) + 1) (aa ?_)))))))
   refine back5 (i + 1, g13) _ _ ⟨bH, zs0, zs4, rfl, Rps, ?_⟩ ?_
   · show ∀ j : Nat, j < (i + 1) → kV ps j
     intro j hj
     by_cases e0 : j = i
     · subst e0; exact ⟨p7, fun k' _ h1 h2 => hk.1 k' h1 (by omega)⟩
     · exact hinv j (by omega)
   · show List.length ps - (i + 1) < List.length ps - i
     omega
  refine aj rfl (df p5) (aU rfl (a7 (a6 rfl (ma (Value.bool true) (ai 0 (aa (al (vs := [Value.bool true, vi 0]) Try.func68 (.tmp rfl (.tmp rfl .nil)) ?_)))))))
  have e0 : (true : Bool) = ((dn ps).1) := by
    (rw [cW ‹_› hok]; exact qR hinv ‹_›)
  have e1 : (0 : Int) = ((dn ps).2) := by
    rw [cW ‹_› hok]
  exact ⟨(bW (a := true) (b := 0) (fun (z0 : Bool) (z1 : Int) => Ending.returned (vt [Value.bool z0, vi z1])) e0 e1), bH.below⟩
 refine ah rfl (congrArg Bool.not (Bool.eq_false_iff.2 p1)) (a7 (a6 rfl (ma (Value.bool false) (ai 1 (aa (al (vs := [Value.bool false, vi 1]) Try.func68 (.tmp rfl (.tmp rfl .nil)) ?_))))))
 have e0 : (false : Bool) = ((dn ps).1) := by
   rw [gM (.inr (fun h => p1 (dt h)))]
 have e1 : (1 : Int) = ((dn ps).2) := by
   rw [gM (.inr (fun h => p1 (dt h)))]
 replace bH := bH.cn hb3
 exact ⟨(bW (a := false) (b := 1) (fun (z0 : Bool) (z1 : Int) => Ending.returned (vt [Value.bool z0, vi z1])) e0 e1), bH.below⟩
end TL
