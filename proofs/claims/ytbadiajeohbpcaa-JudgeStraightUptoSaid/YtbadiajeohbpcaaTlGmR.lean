import Derived.Test.YtbadiajeohbpcaaTlP2
import Derived.Test.YtbadiajeohbpcaaTlGmA
import Derived.Test.YtbadiajeohbpcaaTlGmM
import Derived.Test.YtbadiajeohbpcaaProg
set_option linter.all false
set_option maxRecDepth 20000
namespace TL
open Go Go.Proofs
theorem iI : Try.prog.follows .mixedOrders = true := by kernel_rfl
theorem rk : Try.f79.body.isNone = false := rfl
theorem rd : (Try.f79.name == "runtime.NumGoroutine") = false := by decide +kernel
theorem mT (w0 : World) (ps : List ((Int) × (Int))) (ps_v : Value) (hps_v : Ro w0 ps_v ps) :
    Calls Try.prog 79 #[ps_v] w0 (fun ee w => ee = .returned (Value.bool (decide (c5 ps))) ∧ dh w0.heap.size w0 w) := by
 refine aE Try.func79 rfl (Nat.le_of_ble_eq_true rfl) ?_
 have bH := bh.start w0
 have Rps := hps_v.sl
 refine a7 (a6 rfl (ma (Value.bool false) (ab (a7 (bS c0 rfl iI (by kernel_rfl) ?_)))))
 intro w2 ch1
 refine qm ps_v ?_
 replace Rps := Rps.cn ch1
 have len3 := (Rps).small
 refine qx (fun w' hw' => bk Try.underlying25 rfl (Rps.bel hw')) (qx (fun w' hw' => eZ (m := (ps.length : Int)) (n := 4) rfl rfl) (qm (Value.bool (decide (4 ≤ (ps.length : Int)))) ?_))
 by_cases q6 : 4 ≤ (ps.length : Int)
 ·
  refine aI (v := ps_v) (wy (dt q6)) (fun w' hw' => aJ rfl) (aI (v := Value.pointer (some (aN ps_v 2 (Int.toNat 0)))) (wy (dt q6)) (fun w' hw' => ak (α := (Int) × (Int)) (xs := ps) (v := ps_v) (i := 0) Try.underlying25 rfl rfl (Rps.bel hw') rfl (by omega) (by omega)) (aI (v := vg [vi ((gI ps 0).1), vi ((gI ps 0).2)]) (wy (dt q6)) (fun w' hw' => az (α := (Int) × (Int)) (xs := ps) (v := ps_v) (i := 0) aa rfl (Rps.bel hw') (by omega) (by omega) rfl) (aI (v := ps_v) (wy (dt q6)) (fun w' hw' => aJ rfl) (aI (v := ps_v) (wy (dt q6)) (fun w' hw' => aJ rfl) ?_))))
  refine aI (v := vi (ps.length : Int)) (wy (dt q6)) (fun w' hw' => bk Try.underlying25 rfl (Rps.bel hw')) (aI (v := vi ((ps.length : Int) - 1)) (wy (dt q6)) (fun w' hw' => de (m := (ps.length : Int)) (n := 1) rfl rfl (by omega)) (aI (v := Value.pointer (some (aN ps_v 2 (Int.toNat ((ps.length : Int) - 1))))) (wy (dt q6)) (fun w' hw' => ak (α := (Int) × (Int)) (xs := ps) (v := ps_v) (i := (ps.length : Int) - 1) Try.underlying25 rfl rfl (Rps.bel hw') rfl (by omega) (by omega)) ?_))
  refine aI (v := vg [vi ((gI ps ((ps.length : Int) - 1)).1), vi ((gI ps ((ps.length : Int) - 1)).2)]) (wy (dt q6)) (fun w' hw' => az (α := (Int) × (Int)) (xs := ps) (v := ps_v) (i := (ps.length : Int) - 1) aa rfl (Rps.bel hw') (by omega) (by omega) rfl) ?_
  refine aI (v := Value.bool (decide ((gI ps 0) = (gI ps ((ps.length : Int) - 1))))) (wy (dt q6)) (fun w' hw' => dH (bs := [decide (((gI ps 0).1) = ((gI ps ((ps.length : Int) - 1)).1)), decide (((gI ps 0).2) = ((gI ps ((ps.length : Int) - 1)).2))]) Try.underlying45 (by kernel_rfl) (by kernel_rfl) rfl rfl (.cons (by decide +kernel) al rfl rfl (.int Try.underlying3) (.cons (by decide +kernel) al rfl rfl (.int Try.underlying3) .nil)) (by simp [Prod.ext_iff, Bool.decide_and, Bool.and_assoc])) (qv (Value.bool (decide ((gI ps 0) = (gI ps ((ps.length : Int) - 1))))) (fun w' hw' => aw rfl (dt q6) rfl) (qv (Value.bool (decide ((gI ps 0) = (gI ps ((ps.length : Int) - 1))))) (fun w' hw' => bJ rfl) (c8 ?_)))
  intro w4 hc5
  replace hc5 := am hc5 c0
  refine ar (vs := [Value.bool (decide ((gI ps 0) = (gI ps ((ps.length : Int) - 1))))]) Try.func79 (.tmp rfl .nil) ?_
  have e0 : (decide ((gI ps 0) = (gI ps ((ps.length : Int) - 1))) : Bool) = (decide (c5 ps)) := by
    (rw [decide_eq_decide]; exact ⟨fun h => ⟨by assumption, h⟩, fun h => h.2⟩)
  replace bH := bH.cn ch1
  replace bH := bH.cn hc5
  exact ⟨(congrArg (a₁ := decide ((gI ps 0) = (gI ps ((ps.length : Int) - 1)))) (fun (z0 : Bool) => Ending.returned (Value.bool z0)) e0), bH.below⟩
 refine aB (wn (df q6)) (aB (wn (df q6)) (aB (wn (df q6)) (aB (wn (df q6)) (aB (wn (df q6)) (aB (wn (df q6)) (aB (wn (df q6)) (aB (wn (df q6)) (aB (wn (df q6)) (aB (wn (df q6)) ?_)))))))))
 refine qv (Value.bool false) (fun w' hw' => aC rfl (df q6) rfl) (qv (Value.bool false) (fun w' hw' => bJ rfl) (c8 ?_))
 intro w6 hc7
 replace hc7 := am hc7 c0
 refine ar (vs := [Value.bool false]) Try.func79 (.tmp rfl .nil) ?_
 have e0 : (false : Bool) = (decide (c5 ps)) := by
   exact (df (fun h => absurd h.1 ‹_›)).symm
 replace bH := bH.cn ch1
 replace bH := bH.cn hc7
 exact ⟨(congrArg (a₁ := false) (fun (z0 : Bool) => Ending.returned (Value.bool z0)) e0), bH.below⟩
set_option maxHeartbeats 2000000 in
theorem mR (w0 : World) (ps : List ((Int) × (Int))) (ps_v : Value) (hps_v : Ro w0 ps_v ps) (hlen : (ps.length : Int) ≤ 1000000) :
    Calls Try.prog 68 #[ps_v] w0 (fun ee w => ee = .returned (vt [Value.bool ((dl ps).1), vi ((dl ps).2)]) ∧ dh w0.heap.size w0 w) := by
 refine aE Try.func68 rfl (Nat.le_of_ble_eq_true rfl) ?_
 have bH := bh.start w0
 have Rps := hps_v.sl
 refine a7 (a6 rfl (ma (Value.bool false) (ai 0 (ab (a7 (a7 (a6 rfl (mv ps_v ?_))))))))
 have len1 := (Rps).small
 refine lx (bk Try.underlying25 rfl Rps) (lx (bx (m := (ps.length : Int)) (n := 0) rfl rfl) (mv (Value.bool (decide ((ps.length : Int) = 0))) ?_))
 by_cases q12 : (ps.length : Int) = 0
 ·
  refine af (wn (dt q12)) (af (wn (dt q12)) (af (wn (dt q12)) (lw (Value.bool true) (aw rfl (dt q12) rfl) (ab (ah rfl rfl (a7 (a6 rfl (ma (Value.bool false) (ai 1 (ab ?_))))))))))
  refine ar (vs := [Value.bool false, vi 1]) Try.func68 (.tmp rfl (.tmp rfl .nil)) ?_
  have e0 : (false : Bool) = ((dl ps).1) := by
    rw [gH (.inl ‹_›)]
  have e1 : (1 : Int) = ((dl ps).2) := by
    rw [gH (.inl ‹_›)]
  exact ⟨(bZ (a := false) (b := 1) (fun (z0 : Bool) (z1 : Int) => Ending.returned (vt [Value.bool z0, vi z1])) e0 e1), bH.below⟩
 refine lv (ps_v) (wy (df q12)) (aJ rfl) (bN (wy (df q12)) (aH (v := Value.bool (decide (cW ps))) (aA (vals := [ps_v]) Try.func54 e9 eh rfl) (eb w0 ps ps_v (Rps).ro) ?_))
 intro w2 hb3
 replace hb3 := am hb3 c0
 refine lv (Value.bool (!(decide (cW ps)))) (wy (df q12)) (cz (b := (decide (cW ps))) rfl) (lw (Value.bool (!(decide (cW ps)))) (aC rfl (df q12) rfl) (ab ?_))
 by_cases p1 : (decide (cW ps)) = true
 ·
  have hok := of_decide_eq_true p1
  obtain ⟨hl1, hl2⟩ := of_decide_eq_true p1
  refine aj rfl (congrArg Bool.not p1) (ao (a7 (a6 rfl (mv ps_v ?_))))
  replace Rps := Rps.cn hb3
  refine lx (bk Try.underlying25 rfl Rps) (lx (de (m := (ps.length : Int)) (n := 2) rfl rfl (by omega)) (ai ((ps.length : Int) - 2) (ab (a7 (a7 (a6 rfl (ai 0 (ab (av ?_)))))))))
  refine b5 (σ := Nat × aS) (fun ⟨i, gq⟩ f w => bh w0 gq w ∧ f 0 = ps_v ∧ f 4 = vi ((ps.length : Int) - 2) ∧ f 5 = vi (i : Int) ∧ Sl gq (is 0) w ps_v ps ∧ (∀ j : Nat, j < i → mU ps j)) (fun ⟨i, gq⟩ => List.length ps - i) (0, c0) ?_ ?_
  · exact ⟨bH.cn hb3, rfl, rfl, rfl, Rps, by intro j hj; omega⟩
  clear Rps bH
  rintro ⟨i, g6⟩ f4 w5 ⟨bH, zs0, zs4, zs5, Rps, hinv⟩ back5
  refine a7 (a7 (a6 rfl (mz zs5 (mz zs4 (lx (ga (m := (i : Int)) (n := (ps.length : Int) - 2) rfl rfl) (ab ?_))))))
  by_cases p5 : (i : Int) ≤ ((ps.length : Int) - 2)
  ·
   refine ah rfl (dt p5) (ao (a7 (av (a7 (a7 (bS g6 rfl iI (by kernel_rfl) ?_))))))
   intro w8 ch7
   refine qz zs0 (qz zs5 ?_)
   replace Rps := Rps.cn ch7
   refine qx (fun w' hw' => ak (v := ps_v) (i := (i : Int)) Try.underlying25 rfl rfl (Rps.bel hw') rfl (by omega) (by omega)) (qv (vg [vi ((gI ps (i : Int)).1), vi ((gI ps (i : Int)).2)]) (fun w' hw' => az (v := ps_v) (i := (i : Int)) aa rfl (Rps.bel hw') (by omega) (by omega) rfl) (qz zs0 (qz zs5 (qx (fun w' hw' => aT (m := (i : Int)) (n := 1) rfl rfl (by omega)) (qx (fun w' hw' => ak (v := ps_v) (i := (i : Int) + 1) Try.underlying25 rfl rfl (Rps.bel hw') rfl (by omega) (by omega)) (qv (vg [vi ((gI ps ((i : Int) + 1)).1), vi ((gI ps ((i : Int) + 1)).2)]) (fun w' hw' => az (v := ps_v) (i := (i : Int) + 1) aa rfl (Rps.bel hw') (by omega) (by omega) rfl) ?_))))))
   refine qv (Value.bool (decide ((gI ps (i : Int)) = (gI ps ((i : Int) + 1))))) (fun w' hw' => dH (bs := [decide (((gI ps (i : Int)).1) = ((gI ps ((i : Int) + 1)).1)), decide (((gI ps (i : Int)).2) = ((gI ps ((i : Int) + 1)).2))]) Try.underlying45 (by kernel_rfl) (by kernel_rfl) rfl rfl (.cons (by decide +kernel) al rfl rfl (.int Try.underlying3) (.cons (by decide +kernel) al rfl rfl (.int Try.underlying3) .nil)) (by simp [Prod.ext_iff, Bool.decide_and, Bool.and_assoc])) (c8 ?_)
   intro w9 hc10
   replace hc10 := am hc10 g6
   by_cases p7 : (gI ps (i : Int)) = (gI ps ((i : Int) + 1))
   ·
    refine ah rfl (dt p7) (a7 (a6 rfl (ma (Value.bool false) (ai 0 (ab (ar (vs := [Value.bool false, vi 0]) Try.func68 (.tmp rfl (.tmp rfl .nil)) ?_))))))
    have e0 : (false : Bool) = ((dl ps).1) := by
      (rw [d3 ‹_› hok]; exact sL ‹_› ‹_›)
    have e1 : (0 : Int) = ((dl ps).2) := by
      rw [d3 ‹_› hok]
    replace bH := bH.cn ch7
    replace bH := bH.cn hc10
    exact ⟨(bZ (a := false) (b := 0) (fun (z0 : Bool) (z1 : Int) => Ending.returned (vt [Value.bool z0, vi z1])) e0 e1), bH.below⟩
   refine aj rfl (df p7) (ao (a7 (a6 rfl (mz zs5 (lx (aT (m := (i : Int)) (n := 1) rfl rfl (by omega)) (ai ((i : Int) + 1) (ab (av ?_))))))))
   refine b5 (σ := Nat × aS) (fun ⟨k, gq⟩ f w => bh w0 gq w ∧ f 0 = ps_v ∧ f 4 = vi ((ps.length : Int) - 2) ∧ f 5 = vi (i : Int) ∧ f 6 = vi (k : Int) ∧ Sl gq (is 0) w ps_v ps ∧ ((∀ j : Nat, i < j → j < k → ¬ gu ps i j) ∧ i < k)) (fun ⟨k, gq⟩ => List.length ps - k) (i + 1, g6) ?_ ?_
   replace bH := bH.cn ch7
   · exact ⟨bH.cn hc10, zs0, zs4, zs5, rfl, Rps.cn hc10, by exact ⟨fun j h1 h2 => by omega, by omega⟩⟩
   clear Rps bH
   rintro ⟨k, g13⟩ f11 w12 ⟨bH, zs0, zs4, zs5, zs6, Rps, hk⟩ back10
   refine a7 (a7 (a6 rfl (mz zs6 (mz zs4 (lx (ga (m := (k : Int)) (n := (ps.length : Int) - 2) rfl rfl) (ab ?_))))))
   by_cases p10 : (k : Int) ≤ ((ps.length : Int) - 2)
   ·
    refine ah rfl (dt p10) ?_
    have hb1 := (hl2 _ (bg (xs := ps) (i := (i : Int)) (by omega) (by omega))).bd
    have hb2 := (hl2 _ (bg (xs := ps) (i := (i : Int) + 1) (by omega) (by omega))).bd
    have hb3 := (hl2 _ (bg (xs := ps) (i := (k : Int)) (by omega) (by omega))).bd
    have hb4 := (hl2 _ (bg (xs := ps) (i := (k : Int) + 1) (by omega) (by omega))).bd
    refine ao (a7 (av (a7 (bS g13 rfl iI (by kernel_rfl) ?_))))
    intro w15 ch14
    refine qz zs0 (qz zs5 ?_)
    replace Rps := Rps.cn ch14
    refine qx (fun w' hw' => ak (v := ps_v) (i := (i : Int)) Try.underlying25 rfl rfl (Rps.bel hw') rfl (by omega) (by omega)) (qv (vg [vi ((gI ps (i : Int)).1), vi ((gI ps (i : Int)).2)]) (fun w' hw' => az (v := ps_v) (i := (i : Int)) aa rfl (Rps.bel hw') (by omega) (by omega) rfl) (qz zs0 (qz zs5 (qx (fun w' hw' => aT (m := (i : Int)) (n := 1) rfl rfl (by omega)) (qx (fun w' hw' => ak (v := ps_v) (i := (i : Int) + 1) Try.underlying25 rfl rfl (Rps.bel hw') rfl (by omega) (by omega)) (qv (vg [vi ((gI ps ((i : Int) + 1)).1), vi ((gI ps ((i : Int) + 1)).2)]) (fun w' hw' => az (v := ps_v) (i := (i : Int) + 1) aa rfl (Rps.bel hw') (by omega) (by omega) rfl) (qz zs0 (qz zs6 ?_))))))))
    refine qx (fun w' hw' => ak (v := ps_v) (i := (k : Int)) Try.underlying25 rfl rfl (Rps.bel hw') rfl (by omega) (by omega)) (qv (vg [vi ((gI ps (k : Int)).1), vi ((gI ps (k : Int)).2)]) (fun w' hw' => az (v := ps_v) (i := (k : Int)) aa rfl (Rps.bel hw') (by omega) (by omega) rfl) (qz zs0 (qz zs6 (qx (fun w' hw' => aT (m := (k : Int)) (n := 1) rfl rfl (by omega)) (qx (fun w' hw' => ak (v := ps_v) (i := (k : Int) + 1) Try.underlying25 rfl rfl (Rps.bel hw') rfl (by omega) (by omega)) (qv (vg [vi ((gI ps ((k : Int) + 1)).1), vi ((gI ps ((k : Int) + 1)).2)]) (fun w' hw' => az (v := ps_v) (i := (k : Int) + 1) aa rfl (Rps.bel hw') (by omega) (by omega) rfl) ?_))))))
    refine cM (v := vi (aX (gI ps (i : Int)) (gI ps ((i : Int) + 1)) (gI ps (k : Int)) (gI ps ((k : Int) + 1)))) rfl (fun w' hw' => aA (vals := [vg [vi ((gI ps (i : Int)).1), vi ((gI ps (i : Int)).2)], vg [vi ((gI ps ((i : Int) + 1)).1), vi ((gI ps ((i : Int) + 1)).2)], vg [vi ((gI ps (k : Int)).1), vi ((gI ps (k : Int)).2)], vg [vi ((gI ps ((k : Int) + 1)).1), vi ((gI ps ((k : Int) + 1)).2)]]) Try.func78 mH m7 rfl) (fun w' hw' => (lT w' (gI ps (i : Int)) (gI ps ((i : Int) + 1)) (gI ps (k : Int)) (gI ps ((k : Int) + 1)) ‹_› ‹_› ‹_› ‹_›).mono fun e w2 h2 => ⟨h2.1, hw'.trans (h2.2.mono hw'.size)⟩) ?_
    refine qv (vi (aX (gI ps (i : Int)) (gI ps ((i : Int) + 1)) (gI ps (k : Int)) (gI ps ((k : Int) + 1)))) (fun w' hw' => bJ rfl) (c8 ?_)
    intro w16 hc17
    replace hc17 := am hc17 g13
    refine a7 (a6 rfl (mz zs6 (mz zs5 (lx (aT (m := (i : Int)) (n := 1) rfl rfl (by omega)) (lx (bx (m := (k : Int)) (n := (i : Int) + 1) rfl rfl) (mv (Value.bool (decide ((k : Int) = ((i : Int) + 1)))) ?_))))))
    by_cases q65 : (k : Int) = ((i : Int) + 1)
    ·
     refine af (wn (dt q65)) (af (wn (dt q65)) (af (wn (dt q65)) (af (cO rfl rfl rfl) (af (cO rfl rfl rfl) (af (cO rfl rfl rfl) (af (wn (dt q65)) (af (wn (dt q65)) (af (cO rfl rfl rfl) (af (cO rfl rfl rfl) ?_)))))))))
     refine af (wn (dt q65)) (lw (Value.bool true) (aw rfl (dt q65) rfl) (ma (Value.bool true) (ab (a7 (a6 rfl (mv (Value.bool true) (mv (Value.bool true) (lv (vi (aX (gI ps (i : Int)) (gI ps ((i : Int) + 1)) (gI ps (k : Int)) (gI ps ((k : Int) + 1)))) (wy rfl) (aJ rfl) (lv (Value.bool (decide ((aX (gI ps (i : Int)) (gI ps ((i : Int) + 1)) (gI ps (k : Int)) (gI ps ((k : Int) + 1))) = 3))) (wy rfl) (bx (m := aX (gI ps (i : Int)) (gI ps ((i : Int) + 1)) (gI ps (k : Int)) (gI ps ((k : Int) + 1))) (n := 3) rfl rfl) (lw (Value.bool (decide ((aX (gI ps (i : Int)) (gI ps ((i : Int) + 1)) (gI ps (k : Int)) (gI ps ((k : Int) + 1))) = 3))) (aw rfl rfl rfl) ?_))))))))))
     refine mv (Value.bool (decide ((aX (gI ps (i : Int)) (gI ps ((i : Int) + 1)) (gI ps (k : Int)) (gI ps ((k : Int) + 1))) = 3))) ?_
     by_cases q83 : (aX (gI ps (i : Int)) (gI ps ((i : Int) + 1)) (gI ps (k : Int)) (gI ps ((k : Int) + 1))) = 3
     ·
      refine af (wn (dt q83)) (af (wn (dt q83)) (af (wn (dt q83)) (af (cO rfl rfl rfl) (af (cO rfl rfl rfl) (af (wn (dt q83)) (lw (Value.bool true) (aw rfl (dt q83) rfl) (ab (ah rfl rfl (a7 (a6 rfl ?_))))))))))
      refine ma (Value.bool false) (ai 0 (ab (ar (vs := [Value.bool false, vi 0]) Try.func68 (.tmp rfl (.tmp rfl .nil)) ?_)))
      have e0 : (false : Bool) = ((dl ps).1) := by
        (rw [d3 ‹_› hok]; exact gC (k := k) ‹_› ‹_› hk.2 (by exact sZ (by exact rR ‹_›) ‹_›))
      have e1 : (0 : Int) = ((dl ps).2) := by
        rw [d3 ‹_› hok]
      replace bH := bH.cn ch14
      replace bH := bH.cn hc17
      exact ⟨(bZ (a := false) (b := 0) (fun (z0 : Bool) (z1 : Int) => Ending.returned (vt [Value.bool z0, vi z1])) e0 e1), bH.below⟩
     refine lv (Value.bool true) (wy (df q83)) (aJ rfl) (lv (Value.bool false) (wy (df q83)) (cz (b := true) rfl) (lv (Value.bool false) (wy (df q83)) (aJ rfl) (af (wn rfl) (af (wn rfl) (lv (Value.bool false) (wy (df q83)) (aC rfl rfl rfl) (lw (Value.bool false) (aC rfl (df q83) rfl) (ab (aj rfl rfl (ao (aq ?_))))))))))
     refine a6 rfl (mz zs6 (lx (aT (m := (k : Int)) (n := 1) rfl rfl (by omega)) (ai ((k : Int) + 1) (ab ?_))))
     replace bH := bH.cn ch14
     refine back10 (k + 1, g13) _ _ ⟨bH.cn hc17, zs0, zs4, zs5, rfl, Rps.cn hc17, ?_⟩ ?_
     · show (∀ j : Nat, i < j → j < (k + 1) → ¬ gu ps i j) ∧ i < (k + 1)
       refine ⟨fun j h1 h2 => ?_, by omega⟩
       by_cases e0 : j = k
       · subst e0
         exact rC (by exact rR ‹_›) ‹_›
       · exact hk.1 j h1 (by omega)
     · show List.length ps - (k + 1) < List.length ps - k
       omega
    refine lv (vi (i : Int)) (wy (df q65)) (aJ zs5) (lv (Value.bool (decide ((i : Int) = 0))) (wy (df q65)) (bx (m := (i : Int)) (n := 0) rfl rfl) (lv (Value.bool (decide ((i : Int) = 0))) (wy (df q65)) (aJ rfl) ?_))
    by_cases q68 : (i : Int) = 0
    ·
     refine lv (vi (k : Int)) (wy (dt q68)) (aJ zs6) (lv (vi ((ps.length : Int) - 2)) (wy (dt q68)) (aJ zs4) (lv (Value.bool (decide ((k : Int) = ((ps.length : Int) - 2)))) (wy (dt q68)) (bx (m := (k : Int)) (n := (ps.length : Int) - 2) rfl rfl) (lv (Value.bool (decide ((k : Int) = ((ps.length : Int) - 2)))) (wy (df q65)) (aw rfl (dt q68) rfl) (lv (Value.bool (decide ((k : Int) = ((ps.length : Int) - 2)))) (wy (df q65)) (aJ rfl) ?_))))
     by_cases q73 : (k : Int) = ((ps.length : Int) - 2)
     ·
      refine lv (ps_v) (wy (dt q73)) (aJ zs0) ?_
      replace Rps := Rps.cn hc17
      refine bN (wy (dt q73)) (aH (v := Value.bool (decide (c5 ps))) (aA (vals := [ps_v]) Try.func79 rk rd rfl) (mT w16 ps ps_v (Rps).ro) ?_)
      intro w18 hb19
      replace hb19 := am hb19 g13
      refine lv (Value.bool (decide (c5 ps))) (wy (df q65)) (aw rfl (dt q73) rfl) (lw (Value.bool (decide (c5 ps))) (aC rfl (df q65) rfl) (ma (Value.bool (decide (c5 ps))) (ab (a7 (a6 rfl (mv (Value.bool (decide (c5 ps))) (mv (Value.bool (decide (c5 ps))) ?_)))))))
      by_cases q79 : (decide (c5 ps)) = true
      ·
       refine lv (vi (aX (gI ps (i : Int)) (gI ps ((i : Int) + 1)) (gI ps (k : Int)) (gI ps ((k : Int) + 1)))) (wy q79) (aJ rfl) (lv (Value.bool (decide ((aX (gI ps (i : Int)) (gI ps ((i : Int) + 1)) (gI ps (k : Int)) (gI ps ((k : Int) + 1))) = 3))) (wy q79) (bx (m := aX (gI ps (i : Int)) (gI ps ((i : Int) + 1)) (gI ps (k : Int)) (gI ps ((k : Int) + 1))) (n := 3) rfl rfl) (lw (Value.bool (decide ((aX (gI ps (i : Int)) (gI ps ((i : Int) + 1)) (gI ps (k : Int)) (gI ps ((k : Int) + 1))) = 3))) (aw rfl q79 rfl) (mv (Value.bool (decide ((aX (gI ps (i : Int)) (gI ps ((i : Int) + 1)) (gI ps (k : Int)) (gI ps ((k : Int) + 1))) = 3))) ?_)))
       by_cases q83 : (aX (gI ps (i : Int)) (gI ps ((i : Int) + 1)) (gI ps (k : Int)) (gI ps ((k : Int) + 1))) = 3
       ·
        refine af (wn (dt q83)) (af (wn (dt q83)) (af (wn (dt q83)) (af (cO rfl rfl rfl) (af (cO rfl rfl rfl) (af (wn (dt q83)) (lw (Value.bool true) (aw rfl (dt q83) rfl) (ab (ah rfl rfl (a7 (a6 rfl ?_))))))))))
        refine ma (Value.bool false) (ai 0 (ab (ar (vs := [Value.bool false, vi 0]) Try.func68 (.tmp rfl (.tmp rfl .nil)) ?_)))
        have e0 : (false : Bool) = ((dl ps).1) := by
          (rw [d3 ‹_› hok]; exact gC (k := k) ‹_› ‹_› hk.2 (by exact sZ (by exact rx ‹_› ‹_› ‹_›) ‹_›))
        have e1 : (0 : Int) = ((dl ps).2) := by
          rw [d3 ‹_› hok]
        have C20 := cg [] (ch14.n.seq (hc17.n.seq hb19.n))
        replace bH := bH.ca C20
        exact ⟨(bZ (a := false) (b := 0) (fun (z0 : Bool) (z1 : Int) => Ending.returned (vt [Value.bool z0, vi z1])) e0 e1), bH.below⟩
       refine lv (Value.bool (decide (c5 ps))) (wy (df q83)) (aJ rfl) (lv (Value.bool (!(decide (c5 ps)))) (wy (df q83)) (cz (b := (decide (c5 ps))) rfl) (lv (Value.bool (!(decide (c5 ps)))) (wy (df q83)) (aJ rfl) (af (wn (congrArg Bool.not q79)) (af (wn (congrArg Bool.not q79)) (lv (Value.bool false) (wy (df q83)) (aC rfl (congrArg Bool.not q79) rfl) (lw (Value.bool false) (aC rfl (df q83) rfl) (ab (aj rfl rfl (ao ?_)))))))))
       refine aq (a6 rfl (mz zs6 (lx (aT (m := (k : Int)) (n := 1) rfl rfl (by omega)) (ai ((k : Int) + 1) (ab ?_)))))
       have C21 := cg [] (ch14.n.seq (hc17.n.seq hb19.n))
       refine back10 (k + 1, g13) _ _ ⟨bH.ca C21, zs0, zs4, zs5, rfl, Rps.cn hb19, ?_⟩ ?_
       · show (∀ j : Nat, i < j → j < (k + 1) → ¬ gu ps i j) ∧ i < (k + 1)
         refine ⟨fun j h1 h2 => ?_, by omega⟩
         by_cases e0 : j = k
         · subst e0
           exact rC (by exact rx ‹_› ‹_› ‹_›) ‹_›
         · exact hk.1 j h1 (by omega)
       · show List.length ps - (k + 1) < List.length ps - k
         omega
      refine af (wn (Bool.eq_false_iff.2 q79)) (af (wn (Bool.eq_false_iff.2 q79)) (lw (Value.bool false) (aC rfl (Bool.eq_false_iff.2 q79) rfl) (mv (Value.bool false) (lv (Value.bool (decide (c5 ps))) (wy rfl) (aJ rfl) (lv (Value.bool (!(decide (c5 ps)))) (wy rfl) (cz (b := (decide (c5 ps))) rfl) (lv (Value.bool (!(decide (c5 ps)))) (wy rfl) (aJ rfl) (lv (vi (aX (gI ps (i : Int)) (gI ps ((i : Int) + 1)) (gI ps (k : Int)) (gI ps ((k : Int) + 1)))) (wy (congrArg Bool.not (Bool.eq_false_iff.2 q79))) (aJ rfl) ?_)))))))
      refine lv (Value.bool (!(decide ((aX (gI ps (i : Int)) (gI ps ((i : Int) + 1)) (gI ps (k : Int)) (gI ps ((k : Int) + 1))) = 0)))) (wy (congrArg Bool.not (Bool.eq_false_iff.2 q79))) (dO (m := aX (gI ps (i : Int)) (gI ps ((i : Int) + 1)) (gI ps (k : Int)) (gI ps ((k : Int) + 1))) (n := 0) rfl rfl) (lv (Value.bool (!(decide ((aX (gI ps (i : Int)) (gI ps ((i : Int) + 1)) (gI ps (k : Int)) (gI ps ((k : Int) + 1))) = 0)))) (wy rfl) (aw rfl (congrArg Bool.not (Bool.eq_false_iff.2 q79)) rfl) (lw (Value.bool (!(decide ((aX (gI ps (i : Int)) (gI ps ((i : Int) + 1)) (gI ps (k : Int)) (gI ps ((k : Int) + 1))) = 0)))) (aC rfl rfl rfl) (ab ?_)))
      by_cases p14 : (aX (gI ps (i : Int)) (gI ps ((i : Int) + 1)) (gI ps (k : Int)) (gI ps ((k : Int) + 1))) = 0
      ·
       refine aj rfl (congrArg Bool.not (dt p14)) (ao (aq (a6 rfl (mz zs6 (lx (aT (m := (k : Int)) (n := 1) rfl rfl (by omega)) (ai ((k : Int) + 1) (ab ?_)))))))
       have C22 := cg [] (ch14.n.seq (hc17.n.seq hb19.n))
       refine back10 (k + 1, g13) _ _ ⟨bH.ca C22, zs0, zs4, zs5, rfl, Rps.cn hb19, ?_⟩ ?_
       · show (∀ j : Nat, i < j → j < (k + 1) → ¬ gu ps i j) ∧ i < (k + 1)
         refine ⟨fun j h1 h2 => ?_, by omega⟩
         by_cases e0 : j = k
         · subst e0
           exact pm (by exact mu ‹_› ‹_›) ‹_›
         · exact hk.1 j h1 (by omega)
       · show List.length ps - (k + 1) < List.length ps - k
         omega
      refine ah rfl (congrArg Bool.not (df p14)) (a7 (a6 rfl (ma (Value.bool false) (ai 0 (ab (ar (vs := [Value.bool false, vi 0]) Try.func68 (.tmp rfl (.tmp rfl .nil)) ?_))))))
      have e0 : (false : Bool) = ((dl ps).1) := by
        (rw [d3 ‹_› hok]; exact gC (k := k) ‹_› ‹_› hk.2 (by exact sG (by exact mu ‹_› ‹_›) ‹_›))
      have e1 : (0 : Int) = ((dl ps).2) := by
        rw [d3 ‹_› hok]
      have C23 := cg [] (ch14.n.seq (hc17.n.seq hb19.n))
      replace bH := bH.ca C23
      exact ⟨(bZ (a := false) (b := 0) (fun (z0 : Bool) (z1 : Int) => Ending.returned (vt [Value.bool z0, vi z1])) e0 e1), bH.below⟩
     refine af (wn (df q73)) (af (wn (df q73)) (lv (Value.bool false) (wy (df q65)) (aC rfl (df q73) rfl) (lw (Value.bool false) (aC rfl (df q65) rfl) (ma (Value.bool false) (ab (a7 (a6 rfl (mv (Value.bool false) (mv (Value.bool false) (af (wn rfl) (af (wn rfl) (lw (Value.bool false) (aC rfl rfl rfl) ?_))))))))))))
     refine mv (Value.bool false) (lv (Value.bool false) (wy rfl) (aJ rfl) (lv (Value.bool true) (wy rfl) (cz (b := false) rfl) (lv (Value.bool true) (wy rfl) (aJ rfl) (lv (vi (aX (gI ps (i : Int)) (gI ps ((i : Int) + 1)) (gI ps (k : Int)) (gI ps ((k : Int) + 1)))) (wy rfl) (aJ rfl) (lv (Value.bool (!(decide ((aX (gI ps (i : Int)) (gI ps ((i : Int) + 1)) (gI ps (k : Int)) (gI ps ((k : Int) + 1))) = 0)))) (wy rfl) (dO (m := aX (gI ps (i : Int)) (gI ps ((i : Int) + 1)) (gI ps (k : Int)) (gI ps ((k : Int) + 1))) (n := 0) rfl rfl) (lv (Value.bool (!(decide ((aX (gI ps (i : Int)) (gI ps ((i : Int) + 1)) (gI ps (k : Int)) (gI ps ((k : Int) + 1))) = 0)))) (wy rfl) (aw rfl rfl rfl) ?_))))))
     refine lw (Value.bool (!(decide ((aX (gI ps (i : Int)) (gI ps ((i : Int) + 1)) (gI ps (k : Int)) (gI ps ((k : Int) + 1))) = 0)))) (aC rfl rfl rfl) (ab ?_)
     by_cases p14 : (aX (gI ps (i : Int)) (gI ps ((i : Int) + 1)) (gI ps (k : Int)) (gI ps ((k : Int) + 1))) = 0
     ·
      refine aj rfl (congrArg Bool.not (dt p14)) (ao (aq (a6 rfl (mz zs6 (lx (aT (m := (k : Int)) (n := 1) rfl rfl (by omega)) (ai ((k : Int) + 1) (ab ?_)))))))
      replace bH := bH.cn ch14
      refine back10 (k + 1, g13) _ _ ⟨bH.cn hc17, zs0, zs4, zs5, rfl, Rps.cn hc17, ?_⟩ ?_
      · show (∀ j : Nat, i < j → j < (k + 1) → ¬ gu ps i j) ∧ i < (k + 1)
        refine ⟨fun j h1 h2 => ?_, by omega⟩
        by_cases e0 : j = k
        · subst e0
          exact pm (by exact mF ‹_› ‹_›) ‹_›
        · exact hk.1 j h1 (by omega)
      · show List.length ps - (k + 1) < List.length ps - k
        omega
     refine ah rfl (congrArg Bool.not (df p14)) (a7 (a6 rfl (ma (Value.bool false) (ai 0 (ab (ar (vs := [Value.bool false, vi 0]) Try.func68 (.tmp rfl (.tmp rfl .nil)) ?_))))))
     have e0 : (false : Bool) = ((dl ps).1) := by
       (rw [d3 ‹_› hok]; exact gC (k := k) ‹_› ‹_› hk.2 (by exact sG (by exact mF ‹_› ‹_›) ‹_›))
     have e1 : (0 : Int) = ((dl ps).2) := by
       rw [d3 ‹_› hok]
     replace bH := bH.cn ch14
     replace bH := bH.cn hc17
     exact ⟨(bZ (a := false) (b := 0) (fun (z0 : Bool) (z1 : Int) => Ending.returned (vt [Value.bool z0, vi z1])) e0 e1), bH.below⟩
    refine af (wn (df q68)) (af (wn (df q68)) (af (wn (df q68)) (lv (Value.bool false) (wy (df q65)) (aC rfl (df q68) rfl) (lv (Value.bool false) (wy (df q65)) (aJ rfl) (af (wn rfl) (af (wn rfl) (lv (Value.bool false) (wy (df q65)) (aC rfl rfl rfl) (lw (Value.bool false) (aC rfl (df q65) rfl) (ma (Value.bool false) (ab (a7 (a6 rfl ?_))))))))))))
    refine mv (Value.bool false) (mv (Value.bool false) (af (wn rfl) (af (wn rfl) (lw (Value.bool false) (aC rfl rfl rfl) (mv (Value.bool false) (lv (Value.bool false) (wy rfl) (aJ rfl) (lv (Value.bool true) (wy rfl) (cz (b := false) rfl) (lv (Value.bool true) (wy rfl) (aJ rfl) (lv (vi (aX (gI ps (i : Int)) (gI ps ((i : Int) + 1)) (gI ps (k : Int)) (gI ps ((k : Int) + 1)))) (wy rfl) (aJ rfl) (lv (Value.bool (!(decide ((aX (gI ps (i : Int)) (gI ps ((i : Int) + 1)) (gI ps (k : Int)) (gI ps ((k : Int) + 1))) = 0)))) (wy rfl) (dO (m := aX (gI ps (i : Int)) (gI ps ((i : Int) + 1)) (gI ps (k : Int)) (gI ps ((k : Int) + 1))) (n := 0) rfl rfl) ?_))))))))))
    refine lv (Value.bool (!(decide ((aX (gI ps (i : Int)) (gI ps ((i : Int) + 1)) (gI ps (k : Int)) (gI ps ((k : Int) + 1))) = 0)))) (wy rfl) (aw rfl rfl rfl) (lw (Value.bool (!(decide ((aX (gI ps (i : Int)) (gI ps ((i : Int) + 1)) (gI ps (k : Int)) (gI ps ((k : Int) + 1))) = 0)))) (aC rfl rfl rfl) (ab ?_))
    by_cases p14 : (aX (gI ps (i : Int)) (gI ps ((i : Int) + 1)) (gI ps (k : Int)) (gI ps ((k : Int) + 1))) = 0
    ·
     refine aj rfl (congrArg Bool.not (dt p14)) (ao (aq (a6 rfl (mz zs6 (lx (aT (m := (k : Int)) (n := 1) rfl rfl (by omega)) (ai ((k : Int) + 1) (ab ?_)))))))
     replace bH := bH.cn ch14
     refine back10 (k + 1, g13) _ _ ⟨bH.cn hc17, zs0, zs4, zs5, rfl, Rps.cn hc17, ?_⟩ ?_
     · show (∀ j : Nat, i < j → j < (k + 1) → ¬ gu ps i j) ∧ i < (k + 1)
       refine ⟨fun j h1 h2 => ?_, by omega⟩
       by_cases e0 : j = k
       · subst e0
         exact pm (by exact mw ‹_› ‹_›) ‹_›
       · exact hk.1 j h1 (by omega)
     · show List.length ps - (k + 1) < List.length ps - k
       omega
    refine ah rfl (congrArg Bool.not (df p14)) (a7 (a6 rfl (ma (Value.bool false) (ai 0 (ab (ar (vs := [Value.bool false, vi 0]) Try.func68 (.tmp rfl (.tmp rfl .nil)) ?_))))))
    have e0 : (false : Bool) = ((dl ps).1) := by
      (rw [d3 ‹_› hok]; exact gC (k := k) ‹_› ‹_› hk.2 (by exact sG (by exact mw ‹_› ‹_›) ‹_›))
    have e1 : (0 : Int) = ((dl ps).2) := by
      rw [d3 ‹_› hok]
    replace bH := bH.cn ch14
    replace bH := bH.cn hc17
    exact ⟨(bZ (a := false) (b := 0) (fun (z0 : Bool) (z1 : Int) => Ending.returned (vt [Value.bool z0, vi z1])) e0 e1), bH.below⟩
   refine aj rfl (df p10) (aU rfl (aq (a6 rfl (mz zs5 (lx (aT (m := (i : Int)) (n := 1) rfl rfl (by omega)) (ai ((i : Int) + 1) (ab ?_)))))))
   refine back5 (i + 1, g13) _ _ ⟨bH, zs0, zs4, rfl, Rps, ?_⟩ ?_
   · show ∀ j : Nat, j < (i + 1) → mU ps j
     intro j hj
     by_cases e0 : j = i
     · subst e0; exact ⟨p7, fun k' _ h1 h2 => hk.1 k' h1 (by omega)⟩
     · exact hinv j (by omega)
   · show List.length ps - (i + 1) < List.length ps - i
     omega
  refine aj rfl (df p5) (aU rfl (a7 (a6 rfl (ma (Value.bool true) (ai 0 (ab (ar (vs := [Value.bool true, vi 0]) Try.func68 (.tmp rfl (.tmp rfl .nil)) ?_)))))))
  have e0 : (true : Bool) = ((dl ps).1) := by
    (rw [d3 ‹_› hok]; exact pD hinv ‹_›)
  have e1 : (0 : Int) = ((dl ps).2) := by
    rw [d3 ‹_› hok]
  exact ⟨(bZ (a := true) (b := 0) (fun (z0 : Bool) (z1 : Int) => Ending.returned (vt [Value.bool z0, vi z1])) e0 e1), bH.below⟩
 refine ah rfl (congrArg Bool.not (Bool.eq_false_iff.2 p1)) (a7 (a6 rfl (ma (Value.bool false) (ai 1 (ab (ar (vs := [Value.bool false, vi 1]) Try.func68 (.tmp rfl (.tmp rfl .nil)) ?_))))))
 have e0 : (false : Bool) = ((dl ps).1) := by
   rw [gH (.inr (fun h => p1 (dt h)))]
 have e1 : (1 : Int) = ((dl ps).2) := by
   rw [gH (.inr (fun h => p1 (dt h)))]
 replace bH := bH.cn hb3
 exact ⟨(bZ (a := false) (b := 1) (fun (z0 : Bool) (z1 : Int) => Ending.returned (vt [Value.bool z0, vi z1])) e0 e1), bH.below⟩
end TL
