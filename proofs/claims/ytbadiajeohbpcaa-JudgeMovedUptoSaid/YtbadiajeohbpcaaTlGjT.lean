import Derived.Test.YtbadiajeohbpcaaTlP2
import Derived.Test.YtbadiajeohbpcaaTlGenA
import Derived.Test.YtbadiajeohbpcaaTlGjA
import Derived.Test.YtbadiajeohbpcaaTlGjB
import Derived.Test.YtbadiajeohbpcaaTlGjC
import Derived.Test.YtbadiajeohbpcaaTlGjD
import Derived.Test.YtbadiajeohbpcaaTlGjE
import Derived.Test.YtbadiajeohbpcaaProg
set_option linter.all false
set_option maxRecDepth 20000
namespace TL
open Go Go.Proofs
theorem lY (w0 : World) (g : (Int) × (List ((Int) × (Int)))) (g_v : Value) (hg_v : Ro w0 g_v g.2) (p : (List ((Int) × (Int))) × (List (List ((Int) × (Int))))) (p_v p_v1 : Value) (hp_v : Ro w0 p_v p.1) (hp_v1 : Ro w0 p_v1 p.2) (hp1 : (p.1.length : Int) ≤ 1048576) (hp2 : (p.2.length : Int) ≤ 1048576) (hp3 : ∀ l_ ∈ p.2, l_.length ≤ 1048576) :
    Calls Try.prog 9 #[vg [vi g.1, g_v], vg [p_v, p_v1]] w0 (fun ee w => ee = .returned (Value.bool (decide (dG g p))) ∧ dE w0.heap.size w0 w) := by
 refine aD Try.func9 rfl (Nat.le_of_ble_eq_true rfl) ?_
 have bH := bc.start w0
 have Rg := hg_v.sl
 have Rp := hp_v.sl
 have r_p_v1 := hp_v1.sl
 refine a7 (a6 rfl (bL rfl (bw c0 (is 1) (1, 0) rfl rfl ?_)))
 intro g4 w1 b3 ch2 bx5
 replace bx5 : Bx g4 (is 1) w1 b3 [vi g.1, g_v] := bx5
 refine lo (bw g4 (is 2) (2, 0) rfl rfl ?_)
 intro g9 w6 b8 ch7 bx10
 replace bx10 : Bx g9 (is 2) w6 b8 [p_v, p_v1] := bx10
 refine ma (Value.bool false) (aa (a7 (a6 rfl (lx (a8 Try.underlying28 rfl rfl rfl rfl) (lx (af bl rfl bx10 rfl) ?_)))))
 replace Rp := (Rp.cn ch2).cn ch7
 have len11 := (Rp).small
 refine lx (bb Try.underlying25 rfl Rp) (ai (p.1.length : Int) (aa (a7 (a7 (a6 rfl (ai 0 (aa (au ?_))))))))
 refine aX (σ := Int × Nat × aM) (fun ⟨n, e, gq⟩ f w => bc w0 gq w ∧ f 2 = vp b3 0 ∧ f 3 = vp b8 0 ∧ f 5 = vi n ∧ f 6 = vi (e : Int) ∧ Sl gq (is 0) w g_v g.2 ∧ Sl gq (is 0) w p_v p.1 ∧ Sl gq (is 0) w p_v1 p.2 ∧ Bx gq (is 1) w b3 [vi g.1, g_v] ∧ Bx gq (is 2) w b8 [p_v, p_v1] ∧ (e : Int) ≤ ((p.2.length : Int) : Int) ∧ (n = gh p e)) (fun ⟨n, e, gq⟩ => Int.toNat (((p.2.length : Int) : Int) - (e : Int))) ((p.1.length : Int), 0, g9) ?_ ?_
 replace bH := bH.cn ch2
 · exact ⟨bH.cn ch7, rfl, rfl, rfl, rfl, (Rg.cn ch2).cn ch7, Rp, (r_p_v1.cn ch2).cn ch7, bx5.cn ch7, bx10, by omega, by rfl⟩
 clear Rg Rp r_p_v1 bx5 bx10 bH
 rintro ⟨n, e, g14⟩ f12 w13 ⟨bH, zs2, zs3, zs5, zs6, Rg, Rp, r_p_v1, bx5, bx10, hle_e, hinv⟩ back3
 have hlb := n8 hp1 hp3 e (by omega)
 refine a7 (a7 (a6 rfl (mz zs6 (lx (a8 Try.underlying28 rfl rfl zs3 rfl) (lx (af c7 rfl bx10 rfl) ?_)))))
 have len15 := (r_p_v1).small
 refine lx (bb Try.underlying26 rfl r_p_v1) (lx (b6 (m := (e : Int)) (n := (p.2.length : Int)) rfl rfl) (aa ?_))
 by_cases p3 : (e : Int) < (p.2.length : Int)
 ·
  refine ah rfl (dt p3) ?_
  have hll := hp3 _ (aV (xs := p.2) (i := (e : Int)) (by omega) ‹_›)
  refine ao (a7 (au (a6 rfl (mz zs5 (lx (a8 Try.underlying28 rfl rfl zs3 rfl) (lx (af c7 rfl bx10 rfl) (mz zs6 (lx (am (v := p_v1) (i := (e : Int)) Try.underlying26 rfl rfl r_p_v1 rfl (by omega) (by omega)) ?_))))))))
  obtain ⟨v16, cel17, r18⟩ := dy (r := (e : Int)) r_p_v1 (by omega) (by omega)
  refine lx (ck bl rfl cel17) ?_
  have len19 := (r18).small
  refine lx (bb Try.underlying25 rfl r18) (lx (aW (m := n) (n := (List.length (gI p.2 (e : Int)) : Int)) rfl rfl (by omega)) (lx (aW (m := n + (List.length (gI p.2 (e : Int)) : Int)) (n := 1) rfl rfl (by omega)) (ai ((n + (List.length (gI p.2 (e : Int)) : Int)) + 1) (aa (aq ?_)))))
  clear r18
  refine a6 rfl (mz zs6 (lx (aW (m := (e : Int)) (n := 1) rfl rfl (by omega)) (ai ((e : Int) + 1) (aa ?_))))
  refine back3 ((n + (List.length (gI p.2 (e : Int)) : Int)) + 1, e + 1, g14) _ _ ⟨bH, zs2, zs3, rfl, rfl, Rg, Rp, r_p_v1, bx5, bx10, by omega, ?_⟩ ?_
  · show ((n + (List.length (gI p.2 (e : Int)) : Int)) + 1) = gh p (e + 1)
    rw [hinv]; rfl
  · show Int.toNat (((p.2.length : Int) : Int) - ((e + 1) : Int)) < Int.toNat (((p.2.length : Int) : Int) - (e : Int))
    omega
 refine aj rfl (df p3) (aR rfl (a7 ?_))
 clear bx10
 refine a6 rfl (mz zs5 (lx (i0 (m := n) (n := 400) rfl rfl) (mv (Value.bool (decide (n ≤ 400))) ?_)))
 by_cases q28 : n ≤ 400
 ·
  refine lv (vg [vi g.1, g_v]) (wy (dt q28)) (ad (ds := [vi g.1, g_v]) cX zs2 bx5 rfl rfl) (bL (wy (dt q28)) (aG (v := Value.bool (cP g)) (aB (vals := [vg [vi g.1, g_v]]) Try.func15 po oy rfl) (mW w13 g g_v (Rg).ro) ?_))
  intro w20 hb21
  replace hb21 := ak hb21 g14
  refine lv (Value.bool (!(cP g))) (wy (dt q28)) (db (b := (cP g)) rfl) (lv (Value.bool (!(cP g))) (wy (dt q28)) (aF rfl) ?_)
  by_cases q32 : (cP g) = true
  ·
   refine lv (vp b3 0) (wy (congrArg Bool.not q32)) (a8 Try.underlying24 rfl rfl zs2 rfl) ?_
   replace bx5 := bx5.cn hb21
   refine lv (vi g.1) (wy (congrArg Bool.not q32)) (af ar rfl bx5 rfl) (lv (Value.bool (decide (g.1 ≤ 30))) (wy (congrArg Bool.not q32)) (i0 (m := g.1) (n := 30) rfl rfl) (lv (Value.bool (decide (g.1 ≤ 30))) (wy (congrArg Bool.not q32)) (aF rfl) ?_))
   by_cases q36 : g.1 ≤ 30
   ·
    refine lv (vp b3 1) (wy (dt q36)) (a8 Try.underlying24 rfl rfl zs2 rfl) (lv (g_v) (wy (dt q36)) (af cD rfl bx5 rfl) ?_)
    replace Rg := Rg.cn hb21
    have len22 := (Rg).small
    refine lv (vi (g.2.length : Int)) (wy (dt q36)) (bb Try.underlying22 rfl Rg) (lv (Value.bool (decide ((g.2.length : Int) ≤ 40))) (wy (dt q36)) (i0 (m := (g.2.length : Int)) (n := 40) rfl rfl) (lv (Value.bool (decide ((g.2.length : Int) ≤ 40))) (wy (congrArg Bool.not q32)) (av rfl (dt q36) rfl) (lv (Value.bool (decide ((g.2.length : Int) ≤ 40))) (wy (dt q28)) (aE rfl (congrArg Bool.not q32) rfl) (lw (Value.bool (decide ((g.2.length : Int) ≤ 40))) (av rfl (dt q28) rfl) (ma (Value.bool (decide ((g.2.length : Int) ≤ 40))) (aa (al (vs := [Value.bool (decide ((g.2.length : Int) ≤ 40))]) Try.func9 (.tmp rfl .nil) ?_)))))))
    have e0 : (decide ((g.2.length : Int) ≤ 40) : Bool) = (decide (dG g p)) := by
      exact um hinv (by omega) ‹_› ‹_› ‹_›
    replace bH := bH.cn hb21
    exact ⟨(congrArg (a₁ := decide ((g.2.length : Int) ≤ 40)) (fun (z0 : Bool) => Ending.returned (Value.bool z0)) e0), bH.below⟩
   refine ab (wn (df q36)) (ab (wn (df q36)) (ab (wn (df q36)) (ab (wn (df q36)) (lv (Value.bool false) (wy (congrArg Bool.not q32)) (aE rfl (df q36) rfl) (lv (Value.bool false) (wy (dt q28)) (aE rfl (congrArg Bool.not q32) rfl) (lw (Value.bool false) (av rfl (dt q28) rfl) (ma (Value.bool false) (aa (al (vs := [Value.bool false]) Try.func9 (.tmp rfl .nil) ?_)))))))))
   have e0 : (false : Bool) = (decide (dG g p)) := by
     exact uk hinv (by omega) ‹_› ‹_› ‹_›
   replace bH := bH.cn hb21
   exact ⟨(congrArg (a₁ := false) (fun (z0 : Bool) => Ending.returned (Value.bool z0)) e0), bH.below⟩
  refine ab (wn (congrArg Bool.not (Bool.eq_false_iff.2 q32))) (ab (wn (congrArg Bool.not (Bool.eq_false_iff.2 q32))) (ab (wn (congrArg Bool.not (Bool.eq_false_iff.2 q32))) (ab (wn (congrArg Bool.not (Bool.eq_false_iff.2 q32))) (ab (ch rfl rfl rfl) (ab (ch rfl rfl rfl) (ab (ch rfl rfl rfl) (ab (ch rfl rfl rfl) (ab (wn (congrArg Bool.not (Bool.eq_false_iff.2 q32))) (lv (Value.bool true) (wy (dt q28)) (av rfl (congrArg Bool.not (Bool.eq_false_iff.2 q32)) rfl) ?_)))))))))
  refine lw (Value.bool true) (av rfl (dt q28) rfl) (ma (Value.bool true) (aa (al (vs := [Value.bool true]) Try.func9 (.tmp rfl .nil) ?_)))
  have e0 : (true : Bool) = (decide (dG g p)) := by
    exact ud hinv (by omega) ‹_› ‹_›
  replace bH := bH.cn hb21
  exact ⟨(congrArg (a₁ := true) (fun (z0 : Bool) => Ending.returned (Value.bool z0)) e0), bH.below⟩
 refine ab (wn (df q28)) (ab (wn (df q28)) (ab (wn (df q28)) (ab (wn (df q28)) (ab (ch rfl rfl rfl) (ab (ch rfl rfl rfl) (ab (ch rfl rfl rfl) (ab (ch rfl rfl rfl) (ab (ch rfl rfl rfl) (ab (ch rfl rfl rfl) ?_)))))))))
 refine ab (ch rfl rfl rfl) (ab (ch rfl rfl rfl) (ab (ch rfl rfl rfl) (ab (wn (df q28)) (lw (Value.bool false) (aE rfl (df q28) rfl) (ma (Value.bool false) (aa (al (vs := [Value.bool false]) Try.func9 (.tmp rfl .nil) ?_)))))))
 have e0 : (false : Bool) = (decide (dG g p)) := by
   exact u3 hinv (by omega) ‹_›
 exact ⟨(congrArg (a₁ := false) (fun (z0 : Bool) => Ending.returned (Value.bool z0)) e0), bH.below⟩
end TL
