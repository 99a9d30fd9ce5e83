import Derived.Test.YtbadiajeohbpcaaGTlP2
import Derived.Test.YtbadiajeohbpcaaGTlGenA
import Derived.Test.YtbadiajeohbpcaaGTlGenQ
import Derived.Test.YtbadiajeohbpcaaProg
set_option linter.all false
set_option maxRecDepth 20000
namespace TL
open Go Go.Proofs
theorem pP : Try.prog.follows .mixedOrders = true := by kernel_rfl
theorem fS : Tp Try.prog 4 false 1 1 (.bool false) := Tp.of (by kernel_rfl)
theorem cj : Tp Try.prog 24 true 2 32 (.agg #[.int .i64 0, .slice none 0 0]) := Tp.of (by kernel_rfl)
theorem dS : Tp Try.prog 39 false 1 24 (.slice none 0 0) := Tp.of (by kernel_rfl)
theorem jo : Try.f32.body.isNone = false := rfl
theorem jx : (Try.f32.name == "runtime.NumGoroutine") = false := by decide +kernel
theorem nI : Try.f75.body.isNone = false := rfl
theorem oG : (Try.f75.name == "runtime.NumGoroutine") = false := by decide +kernel
theorem rx : Try.f76.body.isNone = false := rfl
theorem rN : (Try.f76.name == "runtime.NumGoroutine") = false := by decide +kernel
theorem oS (w0 : World) (g : (Int) × (List ((Int) × (Int)))) (g_v : Value) (hg_v : Ro w0 g_v g.2) (r : dQ) (r_v : Value) (hr_v : Ro w0 r_v r) :
    Calls Try.prog 62 #[vg [vi g.1, g_v], r_v] w0 (fun ee w => ee = .returned (vi (cr g r)) ∧ cQ w0.heap.size w0 w) := by
 refine aC Try.func62 rfl (Nat.le_of_ble_eq_true rfl) ?_
 have bH := bf.start w0
 have Rg := hg_v.sl
 have Rr := hr_v.sl
 refine a7 (a6 rfl (bY rfl (bA c0 (is 1) (1, 0) rfl rfl ?_)))
 intro g4 w1 b3 ch2 bx5
 replace bx5 : Bx g4 (is 1) w1 b3 [vi g.1, g_v] := bx5
 refine ai 0 (aa (a7 (a7 (a6 rfl (lx (ad (ds := [vi g.1, g_v]) cj rfl bx5 rfl rfl) ?_)))))
 replace Rg := Rg.cn ch2
 refine lo (aF (v := Value.bool (el g)) (aw (vals := [vg [vi g.1, g_v]]) Try.func32 jo jx rfl) (jG w1 g g_v (Rg).ro) ?_)
 intro w6 hb7
 replace hb7 := ak hb7 g4
 refine lx (di (b := (el g)) rfl) (aa ?_)
 by_cases p1 : (el g) = true
 ·
  have hm := of_decide_eq_true p1
  have hm0 := hm
  obtain ⟨hm1, hm2, hm3, hm4⟩ := hm0
  refine aj rfl (congrArg Bool.not p1) (am (a7 (a7 (a6 rfl (mv r_v ?_)))))
  replace Rr := (Rr.cn ch2).cn hb7
  have len8 := (Rr).small
  refine lx (bh Try.underlying32 rfl Rr) (lx (a8 Try.underlying24 rfl rfl rfl rfl) ?_)
  replace bx5 := bx5.cn hb7
  refine lx (af aq rfl bx5 rfl) (lx (dC (m := (r.length : Int)) (n := g.1) rfl rfl) (aa ?_))
  by_cases p3 : (r.length : Int) = g.1
  ·
   refine aj rfl (congrArg Bool.not (dt p3)) (am (a7 (a6 rfl (lx (a8 Try.underlying24 rfl rfl rfl rfl) (lx (af cE rfl bx5 rfl) ?_)))))
   replace Rg := Rg.cn hb7
   have len9 := (Rg).small
   refine lx (bh Try.underlying22 rfl Rg) (lx (cP (m := 2) (n := (g.2.length : Int)) rfl rfl (by omega)) (lo (ou (α := Bool) (l := 2 * (g.2.length : Int)) (cp := 2 * (g.2.length : Int)) g4 (is 2) (is 2) (2, 0) rfl false Try.underlying60 fS rfl rfl rfl (by omega) (by omega) (by omega) (by omega) ?_)))
   intro g10 w11 v12 ch13 o14 _
   refine ma v12 (aa (a7 (a6 rfl (ai 0 (aa (a7 (a7 (a6 rfl (mv r_v ?_)))))))))
   replace Rr := Rr.cn ch13
   refine lx (bh Try.underlying32 rfl Rr) (mi 0 (aa (av ?_)))
   refine ba (σ := Int × Nat × (List Bool) × aP) (fun ⟨n, k, seen, gq⟩ f w => bf w0 gq w ∧ f 2 = vp b3 0 ∧ f 5 = v12 ∧ f 6 = vi n ∧ f 24 = r_v ∧ f 25 = vi (r.length : Int) ∧ f 26 = vi (k : Int) ∧ Sl gq (is 0) w g_v g.2 ∧ Sl gq (is 0) w r_v r ∧ Bx gq (is 1) w b3 [vi g.1, g_v] ∧ Ow gq (is 2) (is 2) w v12 seen ∧ (k : Int) ≤ ((r.length : Int) : Int) ∧ (cJ seen n g r k 0)) (fun ⟨n, k, seen, gq⟩ => Int.toNat (((r.length : Int) : Int) - (k : Int))) (0, 0, (List.replicate (Int.toNat (2 * (g.2.length : Int))) false), g10) ?_ ?_
   have C15 := cg [] (ch2.n.seq (hb7.n.seq ch13.n))
   · exact ⟨bH.ca C15, rfl, rfl, rfl, rfl, rfl, rfl, Rg.cn ch13, Rr, bx5.cn ch13, o14, by omega, by exact cJ.start g r⟩
   clear Rg Rr bx5 o14 bH
   rintro ⟨n, k, seen, g18⟩ f16 w17 ⟨bH, zs2, zs5, zs6, zs24, zs25, zs26, Rg, Rr, bx5, o14, hle_k, hinv⟩ back8
   have hsl := hinv.rm.len
   have hbd := hinv.bd
   refine a7 (a6 rfl (lx (b9 (m := (k : Int)) (n := (r.length : Int)) zs26 zs25) (aa (a7 ?_))))
   by_cases p8 : (k : Int) < (r.length : Int)
   ·
    refine ah rfl (dt p8) (am (a7 (av (a7 (a6 rfl (mz zs26 (lx (ar (v := r_v) (i := (k : Int)) Try.underlying32 rfl zs24 Rr zs26 (by omega) (by omega)) ?_)))))))
    obtain ⟨v19, cel20, r21⟩ := dZ (r := (k : Int)) Rr (by omega) (by omega)
    refine lx (cv dS rfl cel20) (ai (k : Int) (ma v19 (aa (a7 (a6 rfl (mv v19 ?_))))))
    have len22 := (r21).small
    refine lx (bh Try.underlying39 rfl r21) (mi 0 (aa (av ?_)))
    refine ba (σ := Int × Nat × (List Bool) × aP) (fun ⟨n, i, seen, gq⟩ f w => bf w0 gq w ∧ f 2 = vp b3 0 ∧ f 5 = v12 ∧ f 6 = vi n ∧ f 7 = vi (k : Int) ∧ f 24 = r_v ∧ f 25 = vi (r.length : Int) ∧ f 26 = vi (k : Int) ∧ f 31 = v19 ∧ f 32 = vi (List.length (gI r (k : Int)) : Int) ∧ f 33 = vi (i : Int) ∧ Sl gq (is 0) w g_v g.2 ∧ Sl gq (is 0) w r_v r ∧ Bx gq (is 1) w b3 [vi g.1, g_v] ∧ Ow gq (is 2) (is 2) w v12 seen ∧ Sl gq (is 0) w v19 (gI r (k : Int)) ∧ (i : Int) ≤ ((List.length (gI r (k : Int)) : Int) : Int) ∧ (cJ seen n g r k i)) (fun ⟨n, i, seen, gq⟩ => Int.toNat (((List.length (gI r (k : Int)) : Int) : Int) - (i : Int))) (n, 0, seen, g18) ?_ ?_
    · exact ⟨bH, zs2, zs5, zs6, rfl, zs24, zs25, zs26, rfl, rfl, rfl, Rg, Rr, bx5, o14, r21, by omega, by exact hinv⟩
    clear Rg Rr bx5 o14 r21 bH
    rintro ⟨n, i, seen, g25⟩ f23 w24 ⟨bH, zs2, zs5, zs6, zs7, zs24, zs25, zs26, zs31, zs32, zs33, Rg, Rr, bx5, o14, r21, hle_i, hin⟩ back11
    have hsl := hin.rm.len
    have hbd := hin.bd
    refine a7 (a6 rfl (lx (b9 (m := (i : Int)) (n := (List.length (gI r (k : Int)) : Int)) zs33 zs32) (aa (a7 ?_))))
    by_cases p11 : (i : Int) < (List.length (gI r (k : Int)) : Int)
    ·
     refine ah rfl (dt p11) (am (a7 (av (a7 (a6 rfl (lx (ar (v := v19) (i := (i : Int)) Try.underlying39 rfl zs31 r21 zs33 (by omega) (by omega)) (lx (c5 (v := v19) (i := (i : Int)) aq rfl r21 (by omega) (by omega) (by decide) rfl) (ai (gI (gI r (k : Int)) (i : Int)) (aa (a7 (a7 (a6 rfl (mi (gI (gI r (k : Int)) (i : Int)) ?_)))))))))))))
     refine lx (b9 (m := (gI (gI r (k : Int)) (i : Int))) (n := 0) rfl rfl) (mv (Value.bool (decide ((gI (gI r (k : Int)) (i : Int)) < 0))) ?_)
     by_cases q39 : (gI (gI r (k : Int)) (i : Int)) < 0
     ·
      refine ae (wn (dt q39)) (ae (wn (dt q39)) (ae (wn (dt q39)) (ae (wn (dt q39)) (lw (Value.bool true) (au rfl (dt q39) rfl) (mv (Value.bool true) (ae (wn rfl) (ae (wn rfl) (ae (wn rfl) (ae (wn rfl) (lw (Value.bool true) (au rfl rfl rfl) (mv (Value.bool true) (ae (wn rfl) (ae (wn rfl) (ae (wn rfl) (ae (wn rfl) (ae (wn rfl) (ae (wn rfl) (ae (wn rfl) (ae (wn rfl) (ae (wn rfl) (ae (wn rfl) (ae (wn rfl) ?_))))))))))))))))))))))
      refine lw (Value.bool true) (au rfl rfl rfl) (aa (ah rfl rfl (a7 ?_)))
      clear bx5 o14 r21
      refine a6 rfl (ai 4 (aa (al (vs := [vi 4]) Try.func62 (.tmp rfl .nil) ?_)))
      have e0 : (4 : Int) = (cr g r) := by
        exact (fG hm (hin.bad (by omega) ‹_› (by rintro ⟨⟨h1, h2⟩, h3⟩; omega))).symm
      exact ⟨(congrArg (a₁ := 4) (fun (z0 : Int) => Ending.returned (vi z0)) e0), bH.below⟩
     refine lv (vi (gI (gI r (k : Int)) (i : Int))) (wy (df q39)) (aI rfl) (lv (v12) (wy (df q39)) (aI zs5) ?_)
     have len26 := (o14.flat).small
     refine lv (vi (seen.length : Int)) (wy (df q39)) (bh Try.underlying60 rfl o14.flat) (lv (Value.bool (decide ((seen.length : Int) ≤ (gI (gI r (k : Int)) (i : Int))))) (wy (df q39)) (gD (m := (gI (gI r (k : Int)) (i : Int))) (n := (seen.length : Int)) rfl rfl) (lw (Value.bool (decide ((seen.length : Int) ≤ (gI (gI r (k : Int)) (i : Int))))) (aD rfl (df q39) rfl) (mv (Value.bool (decide ((seen.length : Int) ≤ (gI (gI r (k : Int)) (i : Int))))) ?_)))
     by_cases q45 : (seen.length : Int) ≤ (gI (gI r (k : Int)) (i : Int))
     ·
      refine ae (wn (dt q45)) (ae (wn (dt q45)) (ae (wn (dt q45)) (ae (wn (dt q45)) (lw (Value.bool true) (au rfl (dt q45) rfl) (mv (Value.bool true) (ae (wn rfl) (ae (wn rfl) (ae (wn rfl) (ae (wn rfl) (ae (wn rfl) (ae (wn rfl) (ae (wn rfl) (ae (wn rfl) (ae (wn rfl) (ae (wn rfl) (ae (wn rfl) (lw (Value.bool true) (au rfl rfl rfl) (aa (ah rfl rfl ?_)))))))))))))))))))
      refine a7 ?_
      clear bx5 o14 r21
      refine a6 rfl (ai 4 (aa (al (vs := [vi 4]) Try.func62 (.tmp rfl .nil) ?_)))
      have e0 : (4 : Int) = (cr g r) := by
        exact (fG hm (hin.bad (by omega) ‹_› (by rintro ⟨⟨h1, h2⟩, h3⟩; omega))).symm
      exact ⟨(congrArg (a₁ := 4) (fun (z0 : Int) => Ending.returned (vi z0)) e0), bH.below⟩
     refine lv (v12) (wy (df q45)) (aI zs5) (lv (vi (gI (gI r (k : Int)) (i : Int))) (wy (df q45)) (aI rfl) (lv (Value.pointer (some (bF v12 1 (Int.toNat (gI (gI r (k : Int)) (i : Int)))))) (wy (df q45)) (ar (α := Bool) (xs := seen) (v := v12) (i := (gI (gI r (k : Int)) (i : Int))) Try.underlying60 rfl rfl o14.flat rfl (by omega) (by omega)) (lv (Value.bool (gI seen (gI (gI r (k : Int)) (i : Int)))) (wy (df q45)) (c5 (α := Bool) (xs := seen) (v := v12) (i := (gI (gI r (k : Int)) (i : Int))) fS rfl o14.flat (by omega) (by omega) (by decide) rfl) (lw (Value.bool (gI seen (gI (gI r (k : Int)) (i : Int)))) (aD rfl (df q45) rfl) (mv (Value.bool (gI seen (gI (gI r (k : Int)) (i : Int)))) ?_)))))
     by_cases q51 : (gI seen (gI (gI r (k : Int)) (i : Int))) = true
     ·
      refine ae (wn q51) (ae (wn q51) (ae (wn q51) (ae (wn q51) (ae (wn q51) (ae (wn q51) (ae (wn q51) (ae (wn q51) (ae (wn q51) (ae (wn q51) (ae (wn q51) (lw (Value.bool true) (au rfl q51 rfl) (aa (ah rfl rfl (a7 ?_))))))))))))))
      clear bx5 o14 r21
      refine a6 rfl (ai 4 (aa (al (vs := [vi 4]) Try.func62 (.tmp rfl .nil) ?_)))
      have e0 : (4 : Int) = (cr g r) := by
        exact (fG hm (hin.twice (by omega) ‹_› (by omega) (by omega) ‹_›)).symm
      exact ⟨(congrArg (a₁ := 4) (fun (z0 : Int) => Ending.returned (vi z0)) e0), bH.below⟩
     refine lv (vp b3 1) (wy (Bool.eq_false_iff.2 q51)) (a8 Try.underlying24 rfl rfl zs2 rfl) (lv (g_v) (wy (Bool.eq_false_iff.2 q51)) (af cE rfl bx5 rfl) (lv (vi (gI (gI r (k : Int)) (i : Int))) (wy (Bool.eq_false_iff.2 q51)) (aI rfl) (lv (vi ((gI (gI r (k : Int)) (i : Int)) / 2)) (wy (Bool.eq_false_iff.2 q51)) (oA (m := (gI (gI r (k : Int)) (i : Int))) (n := 2) rfl rfl (by omega) (by omega) (by omega)) (lv (vi (gI (gI r (k : Int)) (i : Int))) (wy (Bool.eq_false_iff.2 q51)) (aI rfl) (lv (vi ((gI (gI r (k : Int)) (i : Int)) % 2)) (wy (Bool.eq_false_iff.2 q51)) (oE (m := (gI (gI r (k : Int)) (i : Int))) (n := 2) rfl rfl (by omega) (by omega)) ?_)))))
     refine lv (Value.pointer (some (bF g_v 2 (Int.toNat ((gI (gI r (k : Int)) (i : Int)) / 2))))) (wy (Bool.eq_false_iff.2 q51)) (ar (α := (Int) × (Int)) (xs := g.2) (v := g_v) (i := (gI (gI r (k : Int)) (i : Int)) / 2) Try.underlying22 rfl rfl Rg rfl (by omega) (by omega)) (lv (Value.pointer (some ⟨(bF g_v 2 (Int.toNat ((gI (gI r (k : Int)) (i : Int)) / 2))).block, (bF g_v 2 (Int.toNat ((gI (gI r (k : Int)) (i : Int)) / 2))).off + (Int.toNat ((gI (gI r (k : Int)) (i : Int)) % 2)), none⟩)) (wy (Bool.eq_false_iff.2 q51)) (ey (i := (gI (gI r (k : Int)) (i : Int)) % 2) Try.underlying59 rfl rfl rfl (by omega) (by omega) (Nat.mul_one _)) ?_)
     refine lv (vi (pI (gI g.2 ((gI (gI r (k : Int)) (i : Int)) / 2)) ((gI (gI r (k : Int)) (i : Int)) % 2))) (wy (Bool.eq_false_iff.2 q51)) (eY (α := (Int) × (Int)) (xs := g.2) (v := g_v) (i := (gI (gI r (k : Int)) (i : Int)) / 2) aq rfl Rg (by omega) (by omega) (show Int.toNat ((gI (gI r (k : Int)) (i : Int)) % 2) < 2 by omega) (nC _ (by omega) (by omega))) (lv (vi (k : Int)) (wy (Bool.eq_false_iff.2 q51)) (aI zs7) (lv (Value.bool (!(decide ((pI (gI g.2 ((gI (gI r (k : Int)) (i : Int)) / 2)) ((gI (gI r (k : Int)) (i : Int)) % 2)) = (k : Int))))) (wy (Bool.eq_false_iff.2 q51)) (dC (m := pI (gI g.2 ((gI (gI r (k : Int)) (i : Int)) / 2)) ((gI (gI r (k : Int)) (i : Int)) % 2)) (n := (k : Int)) rfl rfl) ?_))
     refine lw (Value.bool (!(decide ((pI (gI g.2 ((gI (gI r (k : Int)) (i : Int)) / 2)) ((gI (gI r (k : Int)) (i : Int)) % 2)) = (k : Int))))) (aD rfl (Bool.eq_false_iff.2 q51) rfl) (aa ?_)
     by_cases p13 : (pI (gI g.2 ((gI (gI r (k : Int)) (i : Int)) / 2)) ((gI (gI r (k : Int)) (i : Int)) % 2)) = (k : Int)
     ·
      refine aj rfl (congrArg Bool.not (dt p13)) (am (a7 (a6 rfl (mz zs5 (mi (gI (gI r (k : Int)) (i : Int)) (lx (ar (v := v12) (i := (gI (gI r (k : Int)) (i : Int))) Try.underlying60 rfl rfl o14.flat rfl (by omega) (by omega)) (lo (gi (i := (gI (gI r (k : Int)) (i : Int))) true fS rfl rfl o14 (by omega) (by omega) rfl ?_))))))))
      intro w27 ch28 bx29
      clear o14
      refine aa (a6 rfl (mz zs6 (lx (aT (m := n) (n := 1) rfl rfl (by omega)) (ai (n + 1) (aa (ao (a6 rfl (lx (aT (m := (i : Int)) (n := 1) zs33 rfl (by omega)) (mi ((i : Int) + 1) (aa ?_))))))))))
      refine back11 (n + 1, i + 1, (List.set seen (Int.toNat (gI (gI r (k : Int)) (i : Int))) true), g25) _ _ ⟨bH.ce ch28, zs2, zs5, rfl, zs7, zs24, zs25, zs26, zs31, zs32, rfl, Rg.ce ch28, Rr.ce ch28, bx5.ce ch28, bx29, r21.ce ch28, by omega, ?_⟩ ?_
      · show cJ (List.set seen (Int.toNat (gI (gI r (k : Int)) (i : Int))) true) (n + 1) g r k (i + 1)
        exact hin.next ‹_› (by omega) (by omega) (Bool.eq_false_iff.2 ‹_›) ‹_›
      · show Int.toNat (((List.length (gI r (k : Int)) : Int) : Int) - ((i + 1) : Int)) < Int.toNat (((List.length (gI r (k : Int)) : Int) : Int) - (i : Int))
        omega
     refine ah rfl (congrArg Bool.not (df p13)) (a7 ?_)
     clear bx5 o14 r21
     refine a6 rfl (ai 4 (aa (al (vs := [vi 4]) Try.func62 (.tmp rfl .nil) ?_)))
     have e0 : (4 : Int) = (cr g r) := by
       exact (fG hm (hin.bad (by omega) ‹_› (by rintro ⟨⟨h1, h2⟩, h3⟩; exact absurd h3 ‹_›))).symm
     exact ⟨(congrArg (a₁ := 4) (fun (z0 : Int) => Ending.returned (vi z0)) e0), bH.below⟩
    refine aj rfl (df p11) (aU rfl (ao ?_))
    clear r21
    refine a6 rfl (lx (aT (m := (k : Int)) (n := 1) zs26 rfl (by omega)) (mi ((k : Int) + 1) (aa ?_)))
    refine back8 (n, k + 1, seen, g25) _ _ ⟨bH, zs2, zs5, zs6, zs24, zs25, rfl, Rg, Rr, bx5, o14, by omega, ?_⟩ ?_
    · show cJ seen n g r (k + 1) 0
      exact hin.row_done ‹_› ‹_›
    · show Int.toNat (((r.length : Int) : Int) - ((k + 1) : Int)) < Int.toNat (((r.length : Int) : Int) - (k : Int))
      omega
   refine aj rfl (df p8) (aU rfl (a7 (a7 ?_)))
   clear bx5
   refine a6 rfl (mz zs6 (mz zs5 ?_))
   have len30 := (o14.flat).small
   refine lx (bh Try.underlying60 rfl o14.flat) (lx (dC (m := n) (n := (seen.length : Int)) rfl rfl) (aa ?_))
   by_cases p19 : n = (seen.length : Int)
   ·
    refine aj rfl (congrArg Bool.not (dt p19)) (am (a7 ?_))
    clear o14
    refine a6 rfl (ai 0 (aa (al (vs := [vi 0]) Try.func62 (.tmp rfl .nil) ?_)))
    have e0 : (0 : Int) = (cr g r) := by
      exact (kd hm ((hinv.fin (by omega) (by omega) rfl).2 (by omega))).symm
    exact ⟨(congrArg (a₁ := 0) (fun (z0 : Int) => Ending.returned (vi z0)) e0), bH.below⟩
   refine ah rfl (congrArg Bool.not (df p19)) (a7 ?_)
   clear o14
   refine a6 rfl (ai 4 (aa (al (vs := [vi 4]) Try.func62 (.tmp rfl .nil) ?_)))
   have e0 : (4 : Int) = (cr g r) := by
     exact (fG hm (fun h => by have := (hinv.fin (by omega) (by omega) rfl).1 h; omega)).symm
   exact ⟨(congrArg (a₁ := 4) (fun (z0 : Int) => Ending.returned (vi z0)) e0), bH.below⟩
  refine ah rfl (congrArg Bool.not (df p3)) (a7 ?_)
  clear bx5
  refine a6 rfl (ai 4 (aa (al (vs := [vi 4]) Try.func62 (.tmp rfl .nil) ?_)))
  have e0 : (4 : Int) = (cr g r) := by
    exact (fG hm (fun h => by have := h.1; omega)).symm
  replace bH := bH.cn ch2
  replace bH := bH.cn hb7
  exact ⟨(congrArg (a₁ := 4) (fun (z0 : Int) => Ending.returned (vi z0)) e0), bH.below⟩
 refine ah rfl (congrArg Bool.not (Bool.eq_false_iff.2 p1)) (a7 ?_)
 clear bx5
 refine a6 rfl (ai 1 (aa (al (vs := [vi 1]) Try.func62 (.tmp rfl .nil) ?_)))
 have e0 : (1 : Int) = (cr g r) := by
   (have hn : ¬ ci g := fun h => p1 (dt h)
    unfold cr; rw [if_neg hn]; done)
 replace bH := bH.cn ch2
 replace bH := bH.cn hb7
 exact ⟨(congrArg (a₁ := 1) (fun (z0 : Int) => Ending.returned (vi z0)) e0), bH.below⟩
theorem jP (w0 : World) (s : List Int) (s_v : Value) (hs_v : Ro w0 s_v s) (v : Int) :
    Calls Try.prog 75 #[s_v, vi v] w0 (fun ee w => ee = .returned (vi (cY s v)) ∧ cQ w0.heap.size w0 w) := by
 refine aC Try.func75 rfl (Nat.le_of_ble_eq_true rfl) ?_
 have bH := bf.start w0
 have Rs := hs_v.sl
 refine a7 (a6 rfl (ai 0 (aa (a7 (a7 (a6 rfl (mv s_v ?_)))))))
 have len1 := (Rs).small
 refine lx (bh Try.underlying39 rfl Rs) (mi 0 (aa (av ?_)))
 refine ba (σ := Nat × aP) (fun ⟨k, gq⟩ f w => bf w0 gq w ∧ f 0 = s_v ∧ f 1 = vi v ∧ f 7 = vi (s.length : Int) ∧ f 8 = vi (k : Int) ∧ Sl gq (is 0) w s_v s ∧ (k : Int) ≤ ((s.length : Int) : Int) ∧ (∀ j : Nat, j < k → ¬ v = gI s (j : Int))) (fun ⟨k, gq⟩ => Int.toNat (((s.length : Int) : Int) - (k : Int))) (0, c0) ?_ ?_
 · exact ⟨bH, rfl, rfl, rfl, rfl, Rs, by omega, by intro j hj; omega⟩
 clear Rs bH
 rintro ⟨k, g4⟩ f2 w3 ⟨bH, zs0, zs1, zs7, zs8, Rs, hle_k, hinv⟩ back2
 refine a7 (a6 rfl (lx (b9 (m := (k : Int)) (n := (s.length : Int)) zs8 zs7) (aa (a7 ?_))))
 by_cases p2 : (k : Int) < (s.length : Int)
 ·
  refine ah rfl (dt p2) (am (a7 (av (a7 (a6 rfl (mz zs8 (ai (k : Int) (aa (a7 (a6 rfl (mz zs1 (mz zs0 ?_))))))))))))
  refine mi (k : Int) (lx (ar (v := s_v) (i := (k : Int)) Try.underlying39 rfl rfl Rs rfl (by omega) (by omega)) (lx (c5 (v := s_v) (i := (k : Int)) aq rfl Rs (by omega) (by omega) (by decide) rfl) (lx (bO (m := v) (n := (gI s (k : Int))) rfl rfl) (aa ?_))))
  by_cases p4 : v = (gI s (k : Int))
  ·
   refine ah rfl (dt p4) (a7 (a6 rfl (mi (k : Int) (ai (k : Int) (aa (al (vs := [vi (k : Int)]) Try.func75 (.tmp rfl .nil) ?_))))))
   have e0 : ((k : Int) : Int) = (cY s v) := by
     exact mO hinv ‹_› ‹_›
   exact ⟨(congrArg (a₁ := (k : Int)) (fun (z0 : Int) => Ending.returned (vi z0)) e0), bH.below⟩
  refine aj rfl (df p4) (am (ao (a6 rfl (lx (aT (m := (k : Int)) (n := 1) zs8 rfl (by omega)) (mi ((k : Int) + 1) (aa ?_))))))
  refine back2 (k + 1, g4) _ _ ⟨bH, zs0, zs1, zs7, rfl, Rs, by omega, ?_⟩ ?_
  · show ∀ j : Nat, j < (k + 1) → ¬ v = gI s (j : Int)
    intro j hj
    by_cases e0 : j = k
    · subst e0; assumption
    · exact hinv j (by omega)
  · show Int.toNat (((s.length : Int) : Int) - ((k + 1) : Int)) < Int.toNat (((s.length : Int) : Int) - (k : Int))
    omega
 refine aj rfl (df p2) (aU rfl (a7 (a6 rfl (ai (-1) (aa (al (vs := [vi (-1)]) Try.func75 (.tmp rfl .nil) ?_))))))
 have e0 : (-1 : Int) = (cY s v) := by
   exact qS hinv ‹_›
 exact ⟨(congrArg (a₁ := -1) (fun (z0 : Int) => Ending.returned (vi z0)) e0), bH.below⟩
theorem od (w0 : World) (r : dQ) (r_v : Value) (hr_v : Ro w0 r_v r) :
    Calls Try.prog 63 #[r_v] w0 (fun ee w => ∃ xx : aP × Value, ee = .returned ((fun ⟨δ, rv0⟩ => rv0) xx) ∧ (fun (⟨δ, rv0⟩ : aP × Value) (w : World) => fB w0 δ w ∧ dJ δ 1 w rv0 (ew r)) xx w) := by
 refine aC Try.func63 rfl (Nat.le_of_ble_eq_true rfl) ?_
 have bH := bf.start w0
 have Rr := hr_v.sl
 refine a7 (a6 rfl (ma vn (aa (a7 (a6 rfl (mv r_v ?_))))))
 have len1 := (Rr).small
 refine lx (bh Try.underlying32 rfl Rr) (lo (iM (α := Int) (n := (r.length : Int)) (cp := (r.length : Int)) c0 1 Try.underlying32 dS rfl rfl rfl (by omega) (by omega) (by omega) (by omega) ?_))
 intro g2 w3 v4 ch5 o6
 refine ma v4 (aa (a7 (a7 (a6 rfl (mv r_v ?_)))))
 replace Rr := Rr.cn ch5
 refine lx (bh Try.underlying32 rfl Rr) (mi 0 (aa (av ?_)))
 refine ba (σ := Nat × dQ × aP) (fun ⟨k, out, gq⟩ f w => bf w0 gq w ∧ f 3 = v4 ∧ f 10 = r_v ∧ f 11 = vi (r.length : Int) ∧ f 12 = vi (k : Int) ∧ Sl gq (is 0) w r_v r ∧ dJ gq 1 w v4 out ∧ (k : Int) ≤ ((r.length : Int) : Int) ∧ (out = List.map iJ (List.take k r) ++ List.replicate (r.length - k) [])) (fun ⟨k, out, gq⟩ => Int.toNat (((r.length : Int) : Int) - (k : Int))) (0, (List.replicate (Int.toNat (r.length : Int)) []), g2) ?_ ?_
 · exact ⟨bH.cn ch5, rfl, rfl, rfl, rfl, Rr, o6, by omega, by simp⟩
 clear Rr o6 bH
 rintro ⟨k, out, g9⟩ f7 w8 ⟨bH, zs3, zs10, zs11, zs12, Rr, o6, hle_k, hinv⟩ back3
 have hol : out.length = r.length := by rw [hinv]; simp; omega
 refine a7 (a6 rfl (lx (b9 (m := (k : Int)) (n := (r.length : Int)) zs12 zs11) (aa (a7 ?_))))
 by_cases p3 : (k : Int) < (r.length : Int)
 ·
  refine ah rfl (dt p3) (am (a7 (av (a7 (a6 rfl (mz zs12 (lx (ar (v := r_v) (i := (k : Int)) Try.underlying32 rfl zs10 Rr zs12 (by omega) (by omega)) ?_)))))))
  obtain ⟨v10, cel11, r12⟩ := dZ (r := (k : Int)) Rr (by omega) (by omega)
  refine lx (cv dS rfl cel11) (ai (k : Int) (ma v10 (aa (a7 (a7 (a6 rfl (mv v10 ?_)))))))
  have len13 := (r12).small
  refine lx (bh Try.underlying39 rfl r12) (lx (bO (m := (List.length (gI r (k : Int)) : Int)) (n := 0) rfl rfl) (aa ?_))
  by_cases p5 : (List.length (gI r (k : Int)) : Int) = 0
  ·
   refine ah rfl (dt p5) (aU rfl ?_)
   clear r12
   refine a6 rfl (lx (aT (m := (k : Int)) (n := 1) zs12 rfl (by omega)) (mi ((k : Int) + 1) (aa ?_)))
   refine back3 (k + 1, out, g9) _ _ ⟨bH, zs3, zs10, zs11, rfl, Rr, o6, by omega, ?_⟩ ?_
   · show out = List.map iJ (List.take (k + 1) r) ++ List.replicate (r.length - (k + 1)) []
     (rw [hinv]; exact oC ‹_› (by rw [iJ, if_pos]; apply List.eq_nil_of_length_eq_zero; omega))
   · show Int.toNat (((r.length : Int) : Int) - ((k + 1) : Int)) < Int.toNat (((r.length : Int) : Int) - (k : Int))
     omega
  have hti := mt (l := gI r (k : Int)) (by intro h; rw [h] at p5; simp at p5)
  have hti2 := hti.2.1
  have hti3 := hti.2.2
  refine aj rfl (df p5) (am (a7 (a6 rfl (mv v10 (mv v10 (lo (aF (v := vi (dm (gI r (k : Int)))) (aw (vals := [v10]) Try.func76 rx rN rfl) (rI w8 (gI r (k : Int)) v10 (r12).ro (by omega)) ?_)))))))
  intro w14 hb15
  replace hb15 := ak hb15 g9
  replace r12 := r12.cn hb15
  refine lo (aF (v := vi (cY (gI r (k : Int)) (dm (gI r (k : Int))))) (aw (vals := [v10, vi (dm (gI r (k : Int)))]) Try.func75 nI oG rfl) (jP w14 (gI r (k : Int)) v10 (r12).ro (dm (gI r (k : Int)))) ?_)
  intro w16 hb17
  replace hb17 := ak hb17 g9
  refine ai (cY (gI r (k : Int)) (dm (gI r (k : Int)))) (aa (eb g9 [0, 1, 2, 3, 4, 6, 7, 8, 10] pP ?_))
  intro w19 ch18
  refine xp (v := v4) 0 rfl (fun w => aI zs3) (xp (v := vi (k : Int)) 1 rfl (fun w => aI rfl) (xp (v := v10) 2 rfl (fun w => aI rfl) (xp (v := vi (cY (gI r (k : Int)) (dm (gI r (k : Int))))) 3 rfl (fun w => aI rfl) ?_)))
  replace r12 := (r12.cn hb17).cn ch18
  refine xp (v := (k6 v10 1 (Int.toNat (cY (gI r (k : Int)) (dm (gI r (k : Int))))) (Int.toNat ((gI r (k : Int)).length)))) 4 rfl (fun w => lz (v := v10) (l := cY (gI r (k : Int)) (dm (gI r (k : Int)))) (h := (gI r (k : Int)).length) Try.underlying39 rfl rfl r12 (.inl (congrArg some rfl)) (.inr ⟨rfl, rfl⟩) (by omega) (by omega) (by omega)) ?_
  have r21 := oB r12 (show Int.toNat (cY (gI r (k : Int)) (dm (gI r (k : Int)))) ≤ Int.toNat ((gI r (k : Int)).length) by omega) (show Int.toNat ((gI r (k : Int)).length) ≤ List.length _ by omega)
  refine xp (v := v10) 6 rfl (fun w => aI rfl) (xp (v := vi (cY (gI r (k : Int)) (dm (gI r (k : Int))))) 7 rfl (fun w => aI rfl) (xp (v := (k6 v10 1 (Int.toNat 0) (Int.toNat (cY (gI r (k : Int)) (dm (gI r (k : Int))))))) 8 rfl (fun w => lz (v := v10) (l := 0) (h := cY (gI r (k : Int)) (dm (gI r (k : Int)))) Try.underlying39 rfl rfl r12 (.inr ⟨rfl, rfl⟩) (.inl (congrArg some rfl)) (by omega) (by omega) (by omega)) ?_))
  have r23 := oB r12 (show Int.toNat 0 ≤ Int.toNat (cY (gI r (k : Int)) (dm (gI r (k : Int)))) by omega) (show Int.toNat (cY (gI r (k : Int)) (dm (gI r (k : Int)))) ≤ List.length _ by omega)
  refine dP 5 rfl (by kernel_rfl) rfl (bg (α := Int) (xs := ([])) (ys := (List.drop (Int.toNat (cY (gI r (k : Int)) (dm (gI r (k : Int))))) (List.take (Int.toNat ((gI r (k : Int)).length)) (gI r (k : Int))))) g9 (J := is 2) (S := is 2) (2, 0) rfl Try.underlying39 aq (by decide) rfl rfl rfl Ow.nil r21 (by decide) (by (simp; omega)) ?_)
  intro g24 w25 v26 ch27 o28
  replace o28 : Ow g24 (is 2) (is 2) w25 v26 (List.drop (Int.toNat (cY (gI r (k : Int)) (dm (gI r (k : Int))))) (List.take (Int.toNat ((gI r (k : Int)).length)) (gI r (k : Int)))) := o28
  refine dP 9 rfl (by kernel_rfl) rfl ?_
  replace r23 := r23.ce ch27
  refine bg (α := Int) (xs := (List.drop (Int.toNat (cY (gI r (k : Int)) (dm (gI r (k : Int))))) (List.take (Int.toNat ((gI r (k : Int)).length)) (gI r (k : Int))))) (ys := (List.drop (Int.toNat 0) (List.take (Int.toNat (cY (gI r (k : Int)) (dm (gI r (k : Int))))) (gI r (k : Int))))) g24 (J := is 2) (S := is 2) (2, 0) rfl Try.underlying39 aq (by decide) rfl rfl rfl o28 r23 (by decide) (by (simp; omega)) ?_
  intro g29 w30 v31 ch32 o33
  clear o28
  have C34 := cg [2] (hb15.n.seq (hb17.n.seq (ch18.n.seq ((ch27.l rfl).seq (ch32.l rfl)))))
  replace o6 := o6.ca C34
  refine xv 10 [9, 5, 8, 7, 6, 4, 3, 2, 1, 0] rfl (ar (v := v4) (i := (k : Int)) Try.underlying32 rfl rfl o6.sl rfl (by omega) (by omega)) (dP 11 rfl (by kernel_rfl) rfl (g0 (r := (k : Int)) dS rfl rfl o6 o33 rfl (by omega) (by omega) ?_))
  intro g41 w38 ch39 o40
  clear o6 o33
  refine j6 (by kernel_rfl) (ao ?_)
  clear r12 r21 r23
  refine a6 rfl (lx (aT (m := (k : Int)) (n := 1) zs12 rfl (by omega)) (mi ((k : Int) + 1) (aa ?_)))
  have C42 := cg [1, 2] (hb15.n.seq (hb17.n.seq (ch18.n.seq ((ch27.l rfl).seq ((ch32.l rfl).seq (ch39.l2 rfl rfl))))))
  refine back3 (k + 1, (List.set out (Int.toNat (k : Int)) ((List.drop (Int.toNat (cY (gI r (k : Int)) (dm (gI r (k : Int))))) (List.take (Int.toNat ((gI r (k : Int)).length)) (gI r (k : Int)))) ++ (List.drop (Int.toNat 0) (List.take (Int.toNat (cY (gI r (k : Int)) (dm (gI r (k : Int))))) (gI r (k : Int)))))), g41) _ _ ⟨bH.ca C42, zs3, zs10, zs11, rfl, Rr.ca C42, o40, by omega, ?_⟩ ?_
  · show (List.set out (Int.toNat (k : Int)) ((List.drop (Int.toNat (cY (gI r (k : Int)) (dm (gI r (k : Int))))) (List.take (Int.toNat ((gI r (k : Int)).length)) (gI r (k : Int)))) ++ (List.drop (Int.toNat 0) (List.take (Int.toNat (cY (gI r (k : Int)) (dm (gI r (k : Int))))) (gI r (k : Int)))))) = List.map iJ (List.take (k + 1) r) ++ List.replicate (r.length - (k + 1)) []
    (rw [hinv]; exact n8 ‹_› (by rw [hti.1]; simp))
  · show Int.toNat (((r.length : Int) : Int) - ((k + 1) : Int)) < Int.toNat (((r.length : Int) : Int) - (k : Int))
    omega
 refine aj rfl (df p3) (aU rfl (a7 (a6 rfl (mz zs3 (ma v4 (aa (al (vs := [v4]) Try.func63 (.tmp rfl .nil) ?_)))))))
 have e0 : (out : dQ) = (ew r) := by
   rw [hinv, show k = r.length by omega]; simp [ew]
 exact ⟨(fin w0 g9 (fun n => if n = 1 then 1 else 0), v4), (congrArg (a₁ := out) (fun (z0 : dQ) => Ending.returned (v4)) e0), bH.fresh _, (e0 ▸ (o6.glue (γ := c0) (ren := (fun n => if n = 1 then 1 else 0)) (k := 1) bH.col rfl rfl))⟩
end TL
