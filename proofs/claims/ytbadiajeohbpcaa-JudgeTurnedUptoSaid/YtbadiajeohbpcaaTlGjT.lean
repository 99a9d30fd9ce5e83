import Derived.Test.YtbadiajeohbpcaaTlP2
import Derived.Test.YtbadiajeohbpcaaTlGenA
import Derived.Test.YtbadiajeohbpcaaTlGjA
import Derived.Test.YtbadiajeohbpcaaTlGjB
import Derived.Test.YtbadiajeohbpcaaTlGjC
import Derived.Test.YtbadiajeohbpcaaTlGjD
import Derived.Test.YtbadiajeohbpcaaTlGjE
import Derived.Test.YtbadiajeohbpcaaProg
set_option linter.all false
set_option maxRecDepth 20000
namespace TL
open Go Go.Proofs
theorem pv : Try.prog.follows .mixedOrders = true := by kernel_rfl
theorem nL (w0 : World) (a : List ((Int) × (Int) × (Int))) (a_v : Value) (ha_v : Ro w0 a_v a) (b : List ((Int) × (Int) × (Int))) (b_v : Value) (hb_v : Ro w0 b_v b) :
    Calls Try.prog 23 #[a_v, b_v] w0 (fun ee w => ee = .returned (Value.bool (decide (a = b))) ∧ cT w0.heap.size w0 w) := by
 refine aB Try.func23 rfl (Nat.le_of_ble_eq_true rfl) ?_
 have bH := b9.start w0
 have Ra := ha_v.sl
 have Rb := hb_v.sl
 refine a7 (a6 rfl (ma (Value.bool false) (aa (a7 (a7 (a6 rfl (mv a_v ?_)))))))
 have len1 := (Ra).small
 refine lx (b6 Try.underlying36 rfl Ra) (mv b_v ?_)
 have len2 := (Rb).small
 refine lx (b6 Try.underlying36 rfl Rb) (lx (dz (m := (a.length : Int)) (n := (b.length : Int)) rfl rfl) (aa ?_))
 by_cases p1 : (a.length : Int) = (b.length : Int)
 ·
  refine aj rfl (congrArg Bool.not (dt p1)) (am (a7 (a7 (a6 rfl (ai 0 (aa (au ?_)))))))
  refine aZ (σ := Nat × aM) (fun ⟨k, gq⟩ f w => b9 w0 gq w ∧ f 0 = a_v ∧ f 1 = b_v ∧ f 5 = vi (k : Int) ∧ Sl gq (is 0) w a_v a ∧ Sl gq (is 0) w b_v b ∧ (k : Int) ≤ ((a.length : Int) : Int) ∧ (List.take k a = List.take k b)) (fun ⟨k, gq⟩ => Int.toNat (((a.length : Int) : Int) - (k : Int))) (0, c0) ?_ ?_
  · exact ⟨bH, rfl, rfl, rfl, Ra, Rb, by omega, by simp⟩
  clear Ra Rb bH
  rintro ⟨k, g5⟩ f3 w4 ⟨bH, zs0, zs1, zs5, Ra, Rb, hle_k, hinv4⟩ back4
  refine a7 (a7 (a6 rfl (mz zs5 (mz zs0 (lx (b6 Try.underlying36 rfl Ra) (lx (b5 (m := (k : Int)) (n := (a.length : Int)) rfl rfl) (aa ?_)))))))
  by_cases p4 : (k : Int) < (a.length : Int)
  ·
   refine ah rfl (dt p4) (am (a7 (au (a7 (cj g5 rfl pv (by kernel_rfl) ?_)))))
   intro w7 ch6
   refine qz zs0 (qz zs5 ?_)
   replace Ra := Ra.cn ch6
   refine qx (fun w' hw' => ao (v := a_v) (i := (k : Int)) Try.underlying36 rfl rfl (Ra.bel hw') rfl (by omega) (by omega)) (qv (vg [vi ((gI a (k : Int)).1), vi (((gI a (k : Int)).2).1), vi (((gI a (k : Int)).2).2)]) (fun w' hw' => aK (v := a_v) (i := (k : Int)) bD rfl (Ra.bel hw') (by omega) (by omega) rfl) (qz zs1 (qz zs5 ?_)))
   replace Rb := Rb.cn ch6
   refine qx (fun w' hw' => ao (v := b_v) (i := (k : Int)) Try.underlying36 rfl rfl (Rb.bel hw') rfl (by omega) (by omega)) (qv (vg [vi ((gI b (k : Int)).1), vi (((gI b (k : Int)).2).1), vi (((gI b (k : Int)).2).2)]) (fun w' hw' => aK (v := b_v) (i := (k : Int)) bD rfl (Rb.bel hw') (by omega) (by omega) rfl) ?_)
   refine qv (Value.bool (!(decide (((gI a (k : Int)).1, ((gI a (k : Int)).2).1, ((gI a (k : Int)).2).2) = ((gI b (k : Int)).1, ((gI b (k : Int)).2).1, ((gI b (k : Int)).2).2))))) (fun w' hw' => eZ (bs := [decide (((gI a (k : Int)).1) = ((gI b (k : Int)).1)), decide ((((gI a (k : Int)).2).1) = (((gI b (k : Int)).2).1)), decide ((((gI a (k : Int)).2).2) = (((gI b (k : Int)).2).2))]) Try.underlying56 (by kernel_rfl) (by kernel_rfl) rfl rfl (.cons (by decide +kernel) ar rfl rfl (.int Try.underlying3) (.cons (by decide +kernel) ar rfl rfl (.int Try.underlying3) (.cons (by decide +kernel) ar rfl rfl (.int Try.underlying3) .nil))) (by simp [Prod.ext_iff, Bool.decide_and, Bool.and_assoc])) (dc ?_)
   intro w8 hc9
   replace hc9 := ak hc9 g5
   by_cases p6 : ((gI a (k : Int)).1, ((gI a (k : Int)).2).1, ((gI a (k : Int)).2).2) = ((gI b (k : Int)).1, ((gI b (k : Int)).2).1, ((gI b (k : Int)).2).2)
   ·
    refine aj rfl (congrArg Bool.not (dt p6)) (am (aq (a6 rfl (mz zs5 (lx (aV (m := (k : Int)) (n := 1) rfl rfl (by omega)) (ai ((k : Int) + 1) (aa ?_)))))))
    replace bH := bH.cn ch6
    refine back4 (k + 1, g5) _ _ ⟨bH.cn hc9, zs0, zs1, rfl, Ra.cn hc9, Rb.cn hc9, by omega, ?_⟩ ?_
    · show List.take (k + 1) a = List.take (k + 1) b
      exact rk hinv4 ‹_› (by omega) ‹_›
    · show Int.toNat (((a.length : Int) : Int) - ((k + 1) : Int)) < Int.toNat (((a.length : Int) : Int) - (k : Int))
      omega
   refine ah rfl (congrArg Bool.not (df p6)) (a7 (a6 rfl (ma (Value.bool false) (aa (al (vs := [Value.bool false]) Try.func23 (.tmp rfl .nil) ?_)))))
   have e0 : (false : Bool) = (decide (a = b)) := by
     exact tH (k := k) ‹_›
   replace bH := bH.cn ch6
   replace bH := bH.cn hc9
   exact ⟨(congrArg (a₁ := false) (fun (z0 : Bool) => Ending.returned (Value.bool z0)) e0), bH.below⟩
  refine aj rfl (df p4) (aS rfl (a7 (a6 rfl (ma (Value.bool true) (aa (al (vs := [Value.bool true]) Try.func23 (.tmp rfl .nil) ?_))))))
  have e0 : (true : Bool) = (decide (a = b)) := by
    exact sR hinv4 ‹_› ‹_›
  exact ⟨(congrArg (a₁ := true) (fun (z0 : Bool) => Ending.returned (Value.bool z0)) e0), bH.below⟩
 refine ah rfl (congrArg Bool.not (df p1)) (a7 (a6 rfl (ma (Value.bool false) (aa (al (vs := [Value.bool false]) Try.func23 (.tmp rfl .nil) ?_)))))
 have e0 : (false : Bool) = (decide (a = b)) := by
   exact sE ‹_›
 exact ⟨(congrArg (a₁ := false) (fun (z0 : Bool) => Ending.returned (Value.bool z0)) e0), bH.below⟩
theorem lj (w0 : World) (g : (Int) × (List ((Int) × (Int)))) (g_v : Value) (hg_v : Ro w0 g_v g.2) (p : (List ((Int) × (Int))) × (List (List ((Int) × (Int))))) (p_v p_v1 : Value) (hp_v : Ro w0 p_v p.1) (hp_v1 : Ro w0 p_v1 p.2) (hp1 : (p.1.length : Int) ≤ 1048576) (hp2 : (p.2.length : Int) ≤ 1048576) (hp3 : ∀ l_ ∈ p.2, l_.length ≤ 1048576) :
    Calls Try.prog 9 #[vg [vi g.1, g_v], vg [p_v, p_v1]] w0 (fun ee w => ee = .returned (Value.bool (decide (dF g p))) ∧ cT w0.heap.size w0 w) := by
 refine aB Try.func9 rfl (Nat.le_of_ble_eq_true rfl) ?_
 have bH := b9.start w0
 have Rg := hg_v.sl
 have Rp := hp_v.sl
 have r_p_v1 := hp_v1.sl
 refine a7 (a6 rfl (bQ rfl (bA c0 (is 1) (1, 0) rfl rfl ?_)))
 intro g4 w1 b3 ch2 bx5
 replace bx5 : Bx g4 (is 1) w1 b3 [vi g.1, g_v] := bx5
 refine lo (bA g4 (is 2) (2, 0) rfl rfl ?_)
 intro g9 w6 b8 ch7 bx10
 replace bx10 : Bx g9 (is 2) w6 b8 [p_v, p_v1] := bx10
 refine ma (Value.bool false) (aa (a7 (a6 rfl (lx (a8 Try.underlying28 rfl rfl rfl rfl) (lx (af bb rfl bx10 rfl) ?_)))))
 replace Rp := (Rp.cn ch2).cn ch7
 have len11 := (Rp).small
 refine lx (b6 Try.underlying25 rfl Rp) (ai (p.1.length : Int) (aa (a7 (a7 (a6 rfl (ai 0 (aa (au ?_))))))))
 refine aZ (σ := Int × Nat × aM) (fun ⟨n, e, gq⟩ f w => b9 w0 gq w ∧ f 2 = vp b3 0 ∧ f 3 = vp b8 0 ∧ f 5 = vi n ∧ f 6 = vi (e : Int) ∧ Sl gq (is 0) w g_v g.2 ∧ Sl gq (is 0) w p_v p.1 ∧ Sl gq (is 0) w p_v1 p.2 ∧ Bx gq (is 1) w b3 [vi g.1, g_v] ∧ Bx gq (is 2) w b8 [p_v, p_v1] ∧ (e : Int) ≤ ((p.2.length : Int) : Int) ∧ (n = fz p e)) (fun ⟨n, e, gq⟩ => Int.toNat (((p.2.length : Int) : Int) - (e : Int))) ((p.1.length : Int), 0, g9) ?_ ?_
 replace bH := bH.cn ch2
 · exact ⟨bH.cn ch7, rfl, rfl, rfl, rfl, (Rg.cn ch2).cn ch7, Rp, (r_p_v1.cn ch2).cn ch7, bx5.cn ch7, bx10, by omega, by rfl⟩
 clear Rg Rp r_p_v1 bx5 bx10 bH
 rintro ⟨n, e, g14⟩ f12 w13 ⟨bH, zs2, zs3, zs5, zs6, Rg, Rp, r_p_v1, bx5, bx10, hle_e, hinv⟩ back3
 have hlb := mp hp1 hp3 e (by omega)
 refine a7 (a7 (a6 rfl (mz zs6 (lx (a8 Try.underlying28 rfl rfl zs3 rfl) (lx (af bY rfl bx10 rfl) ?_)))))
 have len15 := (r_p_v1).small
 refine lx (b6 Try.underlying26 rfl r_p_v1) (lx (b5 (m := (e : Int)) (n := (p.2.length : Int)) rfl rfl) (aa ?_))
 by_cases p3 : (e : Int) < (p.2.length : Int)
 ·
  refine ah rfl (dt p3) ?_
  have hll := hp3 _ (bf (xs := p.2) (i := (e : Int)) (by omega) ‹_›)
  refine am (a7 (au (a6 rfl (mz zs5 (lx (a8 Try.underlying28 rfl rfl zs3 rfl) (lx (af bY rfl bx10 rfl) (mz zs6 (lx (ao (v := p_v1) (i := (e : Int)) Try.underlying26 rfl rfl r_p_v1 rfl (by omega) (by omega)) ?_))))))))
  obtain ⟨v16, cel17, r18⟩ := di (r := (e : Int)) r_p_v1 (by omega) (by omega)
  refine lx (bR bb rfl cel17) ?_
  have len19 := (r18).small
  refine lx (b6 Try.underlying25 rfl r18) (lx (aV (m := n) (n := (List.length (gI p.2 (e : Int)) : Int)) rfl rfl (by omega)) (lx (aV (m := n + (List.length (gI p.2 (e : Int)) : Int)) (n := 1) rfl rfl (by omega)) (ai ((n + (List.length (gI p.2 (e : Int)) : Int)) + 1) (aa (aq ?_)))))
  clear r18
  refine a6 rfl (mz zs6 (lx (aV (m := (e : Int)) (n := 1) rfl rfl (by omega)) (ai ((e : Int) + 1) (aa ?_))))
  refine back3 ((n + (List.length (gI p.2 (e : Int)) : Int)) + 1, e + 1, g14) _ _ ⟨bH, zs2, zs3, rfl, rfl, Rg, Rp, r_p_v1, bx5, bx10, by omega, ?_⟩ ?_
  · show ((n + (List.length (gI p.2 (e : Int)) : Int)) + 1) = fz p (e + 1)
    rw [hinv]; rfl
  · show Int.toNat (((p.2.length : Int) : Int) - ((e + 1) : Int)) < Int.toNat (((p.2.length : Int) : Int) - (e : Int))
    omega
 refine aj rfl (df p3) (aS rfl (a7 ?_))
 clear bx10
 refine a6 rfl (mz zs5 (lx (gB (m := n) (n := 400) rfl rfl) (mv (Value.bool (decide (n ≤ 400))) ?_)))
 by_cases q28 : n ≤ 400
 ·
  refine lv (vg [vi g.1, g_v]) (wy (dt q28)) (ab (ds := [vi g.1, g_v]) ct zs2 bx5 rfl rfl) (bQ (wy (dt q28)) (aD (v := Value.bool (cU g)) (av (vals := [vg [vi g.1, g_v]]) Try.func15 sY sG rfl) (rz w13 g g_v (Rg).ro) ?_))
  intro w20 hb21
  replace hb21 := ak hb21 g14
  refine lv (Value.bool (!(cU g))) (wy (dt q28)) (cY (b := (cU g)) rfl) (lv (Value.bool (!(cU g))) (wy (dt q28)) (aH rfl) ?_)
  by_cases q32 : (cU g) = true
  ·
   refine lv (vp b3 0) (wy (congrArg Bool.not q32)) (a8 Try.underlying24 rfl rfl zs2 rfl) ?_
   replace bx5 := bx5.cn hb21
   refine lv (vi g.1) (wy (congrArg Bool.not q32)) (af ar rfl bx5 rfl) (lv (Value.bool (decide (g.1 ≤ 30))) (wy (congrArg Bool.not q32)) (gB (m := g.1) (n := 30) rfl rfl) (lv (Value.bool (decide (g.1 ≤ 30))) (wy (congrArg Bool.not q32)) (aH rfl) ?_))
   by_cases q36 : g.1 ≤ 30
   ·
    refine lv (vp b3 1) (wy (dt q36)) (a8 Try.underlying24 rfl rfl zs2 rfl) (lv (g_v) (wy (dt q36)) (af cQ rfl bx5 rfl) ?_)
    replace Rg := Rg.cn hb21
    have len22 := (Rg).small
    refine lv (vi (g.2.length : Int)) (wy (dt q36)) (b6 Try.underlying22 rfl Rg) (lv (Value.bool (decide ((g.2.length : Int) ≤ 40))) (wy (dt q36)) (gB (m := (g.2.length : Int)) (n := 40) rfl rfl) (lv (Value.bool (decide ((g.2.length : Int) ≤ 40))) (wy (congrArg Bool.not q32)) (az rfl (dt q36) rfl) (lv (Value.bool (decide ((g.2.length : Int) ≤ 40))) (wy (dt q28)) (aC rfl (congrArg Bool.not q32) rfl) (lw (Value.bool (decide ((g.2.length : Int) ≤ 40))) (az rfl (dt q28) rfl) (ma (Value.bool (decide ((g.2.length : Int) ≤ 40))) (aa (al (vs := [Value.bool (decide ((g.2.length : Int) ≤ 40))]) Try.func9 (.tmp rfl .nil) ?_)))))))
    have e0 : (decide ((g.2.length : Int) ≤ 40) : Bool) = (decide (dF g p)) := by
      exact tI hinv (by omega) ‹_› ‹_› ‹_›
    replace bH := bH.cn hb21
    exact ⟨(congrArg (a₁ := decide ((g.2.length : Int) ≤ 40)) (fun (z0 : Bool) => Ending.returned (Value.bool z0)) e0), bH.below⟩
   refine ae (wn (df q36)) (ae (wn (df q36)) (ae (wn (df q36)) (ae (wn (df q36)) (lv (Value.bool false) (wy (congrArg Bool.not q32)) (aC rfl (df q36) rfl) (lv (Value.bool false) (wy (dt q28)) (aC rfl (congrArg Bool.not q32) rfl) (lw (Value.bool false) (az rfl (dt q28) rfl) (ma (Value.bool false) (aa (al (vs := [Value.bool false]) Try.func9 (.tmp rfl .nil) ?_)))))))))
   have e0 : (false : Bool) = (decide (dF g p)) := by
     exact tK hinv (by omega) ‹_› ‹_› ‹_›
   replace bH := bH.cn hb21
   exact ⟨(congrArg (a₁ := false) (fun (z0 : Bool) => Ending.returned (Value.bool z0)) e0), bH.below⟩
  refine ae (wn (congrArg Bool.not (Bool.eq_false_iff.2 q32))) (ae (wn (congrArg Bool.not (Bool.eq_false_iff.2 q32))) (ae (wn (congrArg Bool.not (Bool.eq_false_iff.2 q32))) (ae (wn (congrArg Bool.not (Bool.eq_false_iff.2 q32))) (ae (c4 rfl rfl rfl) (ae (c4 rfl rfl rfl) (ae (c4 rfl rfl rfl) (ae (c4 rfl rfl rfl) (ae (wn (congrArg Bool.not (Bool.eq_false_iff.2 q32))) (lv (Value.bool true) (wy (dt q28)) (az rfl (congrArg Bool.not (Bool.eq_false_iff.2 q32)) rfl) ?_)))))))))
  refine lw (Value.bool true) (az rfl (dt q28) rfl) (ma (Value.bool true) (aa (al (vs := [Value.bool true]) Try.func9 (.tmp rfl .nil) ?_)))
  have e0 : (true : Bool) = (decide (dF g p)) := by
    exact tL hinv (by omega) ‹_› ‹_›
  replace bH := bH.cn hb21
  exact ⟨(congrArg (a₁ := true) (fun (z0 : Bool) => Ending.returned (Value.bool z0)) e0), bH.below⟩
 refine ae (wn (df q28)) (ae (wn (df q28)) (ae (wn (df q28)) (ae (wn (df q28)) (ae (c4 rfl rfl rfl) (ae (c4 rfl rfl rfl) (ae (c4 rfl rfl rfl) (ae (c4 rfl rfl rfl) (ae (c4 rfl rfl rfl) (ae (c4 rfl rfl rfl) ?_)))))))))
 refine ae (c4 rfl rfl rfl) (ae (c4 rfl rfl rfl) (ae (c4 rfl rfl rfl) (ae (wn (df q28)) (lw (Value.bool false) (aC rfl (df q28) rfl) (ma (Value.bool false) (aa (al (vs := [Value.bool false]) Try.func9 (.tmp rfl .nil) ?_)))))))
 have e0 : (false : Bool) = (decide (dF g p)) := by
   exact tz hinv (by omega) ‹_›
 exact ⟨(congrArg (a₁ := false) (fun (z0 : Bool) => Ending.returned (Value.bool z0)) e0), bH.below⟩
end TL
