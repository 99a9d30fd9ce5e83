import Derived.Test.YtilohhkbelkmdaaTlP3
import Derived.Test.YtilohhkbelkmdaaTlGenA
import Derived.Test.YtilohhkbelkmdaaTlGenQ
import Derived.Test.YtilohhkbelkmdaaProg
set_option linter.all false
set_option maxRecDepth 20000
namespace TL
open Go Go.Proofs
theorem kv : Try.prog.follows .mixedOrders = true := by kernel_rfl
theorem aL : Tp Try.prog 27 false 1 24 (.slice none 0 0) := Tp.of (by kernel_rfl)
theorem sI : Try.f46.body.isNone = false := rfl
theorem sD : (Try.f46.name == "runtime.NumGoroutine") = false := by decide +kernel
theorem vT : Try.f51.body.isNone = false := rfl
theorem wi : (Try.f51.name == "runtime.NumGoroutine") = false := by decide +kernel
theorem vL : Try.f52.body.isNone = false := rfl
theorem vY : (Try.f52.name == "runtime.NumGoroutine") = false := by decide +kernel
theorem wv : Try.f57.body.isNone = false := rfl
theorem vD : (Try.f57.name == "runtime.NumGoroutine") = false := by decide +kernel
theorem ln : Try.f60.body.isNone = false := rfl
theorem lP : (Try.f60.name == "runtime.NumGoroutine") = false := by decide +kernel
theorem j2 : Try.f71.body.isNone = false := rfl
theorem iX : (Try.f71.name == "runtime.NumGoroutine") = false := by decide +kernel
theorem wq : Try.f90.body.isNone = false := rfl
theorem wG : (Try.f90.name == "runtime.NumGoroutine") = false := by decide +kernel
theorem tt : Try.f102.body.isNone = false := rfl
theorem tT : (Try.f102.name == "runtime.NumGoroutine") = false := by decide +kernel
theorem iq (w0 : World) (g : (Int) × (List ((Int) × (Int)))) (g_v : Value) (hg_v : Ro w0 g_v g.2) (r : bj) (r_v : Value) (hr_v : Ro w0 r_v r) :
    Calls Try.prog 15 #[vg [vi g.1, g_v], r_v] w0 (fun ee w => ee = .returned (vi (aK g r)) ∧ dH w0.heap.size w0 w) := by
 refine az Try.func15 rfl (Nat.le_of_ble_eq_true rfl) ?_
 have bH := b9.start w0
 have Rg := hg_v.sl
 have Rr := hr_v.sl
 refine a9 (a8 rfl (cr rfl (bR c0 (is 1) (1, 0) rfl rfl ?_)))
 intro g4 w1 b3 ch2 bx5
 replace bx5 : Bx g4 (is 1) w1 b3 [vi g.1, g_v] := bx5
 refine ai 0 (aa (a9 (a9 (a8 rfl (lx (aq (ds := [vi g.1, g_v]) ak rfl bx5 rfl rfl) ?_)))))
 replace Rg := Rg.cn ch2
 refine lo (bO (v := Value.bool (cD g)) (aD (vals := [vg [vi g.1, g_v]]) Try.func53 ll l5 rfl) (ld w1 g g_v (Rg).ro) ?_)
 intro w6 hb7
 replace hb7 := aG hb7 g4
 refine lx (dr (b := (cD g)) rfl) (aa ?_)
 by_cases p1 : (cD g) = true
 ·
  have hm := of_decide_eq_true p1
  have hm0 := hm
  obtain ⟨hm1, hm2, hm3, hm4⟩ := hm0
  refine ag rfl (congrArg Bool.not p1) (aj (a9 (a9 (a8 rfl (mv r_v ?_)))))
  replace Rr := (Rr.cn ch2).cn hb7
  have len8 := (Rr).small
  refine lx (aO Try.underlying26 rfl Rr) (lx (ad Try.underlying24 rfl rfl rfl rfl) ?_)
  replace bx5 := bx5.cn hb7
  refine lx (af am rfl bx5 rfl) (lx (cl (m := (r.length : Int)) (n := g.1) rfl rfl) (aa ?_))
  by_cases p3 : (r.length : Int) = g.1
  ·
   refine ag rfl (congrArg Bool.not (dt p3)) (aj (a9 (a8 rfl (lx (ad Try.underlying24 rfl rfl rfl rfl) (lx (af bo rfl bx5 rfl) ?_)))))
   replace Rg := Rg.cn hb7
   have len9 := (Rg).small
   refine lx (aO Try.underlying22 rfl Rg) (lx (du (m := 2) (n := (g.2.length : Int)) rfl rfl (by omega)) (lo (dE (α := Bool) (l := 2 * (g.2.length : Int)) (cp := 2 * (g.2.length : Int)) g4 (is 2) (is 2) (2, 0) rfl false Try.underlying75 fu rfl rfl rfl (by omega) (by omega) (by omega) (by omega) ?_)))
   intro g10 w11 v12 ch13 o14 _
   refine ma v12 (aa (a9 (a8 rfl (ai 0 (aa (a9 (a9 (a8 rfl (mv r_v ?_)))))))))
   replace Rr := Rr.cn ch13
   refine lx (aO Try.underlying26 rfl Rr) (mi 0 (aa (ah ?_)))
   refine aN (σ := Int × Nat × (List Bool) × aE) (fun ⟨n, k, seen, gq⟩ f w => b9 w0 gq w ∧ f 2 = vp b3 0 ∧ f 5 = v12 ∧ f 6 = vi n ∧ f 24 = r_v ∧ f 25 = vi (r.length : Int) ∧ f 26 = vi (k : Int) ∧ Sl gq (is 0) w g_v g.2 ∧ Sl gq (is 0) w r_v r ∧ Bx gq (is 1) w b3 [vi g.1, g_v] ∧ Ow gq (is 2) (is 2) w v12 seen ∧ (k : Int) ≤ ((r.length : Int) : Int) ∧ (cN seen n g r k 0)) (fun ⟨n, k, seen, gq⟩ => Int.toNat (((r.length : Int) : Int) - (k : Int))) (0, 0, (List.replicate (Int.toNat (2 * (g.2.length : Int))) false), g10) ?_ ?_
   have C15 := cg [] (ch2.n.seq (hb7.n.seq ch13.n))
   · exact ⟨bH.ca C15, rfl, rfl, rfl, rfl, rfl, rfl, Rg.cn ch13, Rr, bx5.cn ch13, o14, by omega, by exact cN.start g r⟩
   clear Rg Rr bx5 o14 bH
   rintro ⟨n, k, seen, g18⟩ f16 w17 ⟨bH, zs2, zs5, zs6, zs24, zs25, zs26, Rg, Rr, bx5, o14, hle_k, hinv⟩ back8
   have hsl := hinv.rm.len
   have hbd := hinv.bd
   refine a9 (a8 rfl (lx (bc (m := (k : Int)) (n := (r.length : Int)) zs26 zs25) (aa (a9 ?_))))
   by_cases p8 : (k : Int) < (r.length : Int)
   ·
    refine ae rfl (dt p8) (aj (a9 (ah (a9 (a8 rfl (mz zs26 (lx (ab (v := r_v) (i := (k : Int)) Try.underlying26 rfl zs24 Rr zs26 (by omega) (by omega)) ?_)))))))
    obtain ⟨v19, cel20, r21⟩ := co (r := (k : Int)) Rr (by omega) (by omega)
    refine lx (aS aL rfl cel20) (ai (k : Int) (ma v19 (aa (a9 (a8 rfl (mv v19 ?_))))))
    have len22 := (r21).small
    refine lx (aO Try.underlying27 rfl r21) (mi 0 (aa (ah ?_)))
    refine aN (σ := Int × Nat × (List Bool) × aE) (fun ⟨n, i, seen, gq⟩ f w => b9 w0 gq w ∧ f 2 = vp b3 0 ∧ f 5 = v12 ∧ f 6 = vi n ∧ f 7 = vi (k : Int) ∧ f 24 = r_v ∧ f 25 = vi (r.length : Int) ∧ f 26 = vi (k : Int) ∧ f 31 = v19 ∧ f 32 = vi (List.length (gI r (k : Int)) : Int) ∧ f 33 = vi (i : Int) ∧ Sl gq (is 0) w g_v g.2 ∧ Sl gq (is 0) w r_v r ∧ Bx gq (is 1) w b3 [vi g.1, g_v] ∧ Ow gq (is 2) (is 2) w v12 seen ∧ Sl gq (is 0) w v19 (gI r (k : Int)) ∧ (i : Int) ≤ ((List.length (gI r (k : Int)) : Int) : Int) ∧ (cN seen n g r k i)) (fun ⟨n, i, seen, gq⟩ => Int.toNat (((List.length (gI r (k : Int)) : Int) : Int) - (i : Int))) (n, 0, seen, g18) ?_ ?_
    · exact ⟨bH, zs2, zs5, zs6, rfl, zs24, zs25, zs26, rfl, rfl, rfl, Rg, Rr, bx5, o14, r21, by omega, by exact hinv⟩
    clear Rg Rr bx5 o14 r21 bH
    rintro ⟨n, i, seen, g25⟩ f23 w24 ⟨bH, zs2, zs5, zs6, zs7, zs24, zs25, zs26, zs31, zs32, zs33, Rg, Rr, bx5, o14, r21, hle_i, hin⟩ back11
    have hsl := hin.rm.len
    have hbd := hin.bd
    refine a9 (a8 rfl (lx (bc (m := (i : Int)) (n := (List.length (gI r (k : Int)) : Int)) zs33 zs32) (aa (a9 ?_))))
    by_cases p11 : (i : Int) < (List.length (gI r (k : Int)) : Int)
    ·
     refine ae rfl (dt p11) (aj (a9 (ah (a9 (a8 rfl (lx (ab (v := v19) (i := (i : Int)) Try.underlying27 rfl zs31 r21 zs33 (by omega) (by omega)) (lx (ay (v := v19) (i := (i : Int)) am rfl r21 (by omega) (by omega) (by decide) rfl) (ai (gI (gI r (k : Int)) (i : Int)) (aa (a9 (a9 (a8 rfl (mi (gI (gI r (k : Int)) (i : Int)) ?_)))))))))))))
     refine lx (bc (m := (gI (gI r (k : Int)) (i : Int))) (n := 0) rfl rfl) (mv (Value.bool (decide ((gI (gI r (k : Int)) (i : Int)) < 0))) ?_)
     by_cases q39 : (gI (gI r (k : Int)) (i : Int)) < 0
     ·
      refine al (wn (dt q39)) (al (wn (dt q39)) (al (wn (dt q39)) (al (wn (dt q39)) (lw (Value.bool true) (aY rfl (dt q39) rfl) (mv (Value.bool true) (al (wn rfl) (al (wn rfl) (al (wn rfl) (al (wn rfl) (lw (Value.bool true) (aY rfl rfl rfl) (mv (Value.bool true) (al (wn rfl) (al (wn rfl) (al (wn rfl) (al (wn rfl) (al (wn rfl) (al (wn rfl) (al (wn rfl) (al (wn rfl) (al (wn rfl) (al (wn rfl) (al (wn rfl) ?_))))))))))))))))))))))
      refine lw (Value.bool true) (aY rfl rfl rfl) (aa (ae rfl rfl (a9 ?_)))
      clear bx5 o14 r21
      refine a8 rfl (ai 4 (aa (av (vs := [vi 4]) Try.func15 (.tmp rfl .nil) ?_)))
      have e0 : (4 : Int) = (aK g r) := by
        exact (eb hm (hin.bad (by omega) ‹_› (by rintro ⟨⟨h1, h2⟩, h3⟩; omega))).symm
      exact ⟨(congrArg (a₁ := 4) (fun (z0 : Int) => Ending.returned (vi z0)) e0), bH.below⟩
     refine lv (vi (gI (gI r (k : Int)) (i : Int))) (wy (df q39)) (au rfl) (lv (v12) (wy (df q39)) (au zs5) ?_)
     have len26 := (o14.flat).small
     refine lv (vi (seen.length : Int)) (wy (df q39)) (aO Try.underlying75 rfl o14.flat) (lv (Value.bool (decide ((seen.length : Int) ≤ (gI (gI r (k : Int)) (i : Int))))) (wy (df q39)) (dy (m := (gI (gI r (k : Int)) (i : Int))) (n := (seen.length : Int)) rfl rfl) (lw (Value.bool (decide ((seen.length : Int) ≤ (gI (gI r (k : Int)) (i : Int))))) (b7 rfl (df q39) rfl) (mv (Value.bool (decide ((seen.length : Int) ≤ (gI (gI r (k : Int)) (i : Int))))) ?_)))
     by_cases q45 : (seen.length : Int) ≤ (gI (gI r (k : Int)) (i : Int))
     ·
      refine al (wn (dt q45)) (al (wn (dt q45)) (al (wn (dt q45)) (al (wn (dt q45)) (lw (Value.bool true) (aY rfl (dt q45) rfl) (mv (Value.bool true) (al (wn rfl) (al (wn rfl) (al (wn rfl) (al (wn rfl) (al (wn rfl) (al (wn rfl) (al (wn rfl) (al (wn rfl) (al (wn rfl) (al (wn rfl) (al (wn rfl) (lw (Value.bool true) (aY rfl rfl rfl) (aa (ae rfl rfl ?_)))))))))))))))))))
      refine a9 ?_
      clear bx5 o14 r21
      refine a8 rfl (ai 4 (aa (av (vs := [vi 4]) Try.func15 (.tmp rfl .nil) ?_)))
      have e0 : (4 : Int) = (aK g r) := by
        exact (eb hm (hin.bad (by omega) ‹_› (by rintro ⟨⟨h1, h2⟩, h3⟩; omega))).symm
      exact ⟨(congrArg (a₁ := 4) (fun (z0 : Int) => Ending.returned (vi z0)) e0), bH.below⟩
     refine lv (v12) (wy (df q45)) (au zs5) (lv (vi (gI (gI r (k : Int)) (i : Int))) (wy (df q45)) (au rfl) (lv (Value.pointer (some (ba v12 1 (Int.toNat (gI (gI r (k : Int)) (i : Int)))))) (wy (df q45)) (ab (α := Bool) (xs := seen) (v := v12) (i := (gI (gI r (k : Int)) (i : Int))) Try.underlying75 rfl rfl o14.flat rfl (by omega) (by omega)) (lv (Value.bool (gI seen (gI (gI r (k : Int)) (i : Int)))) (wy (df q45)) (ay (α := Bool) (xs := seen) (v := v12) (i := (gI (gI r (k : Int)) (i : Int))) fu rfl o14.flat (by omega) (by omega) (by decide) rfl) (lw (Value.bool (gI seen (gI (gI r (k : Int)) (i : Int)))) (b7 rfl (df q45) rfl) (mv (Value.bool (gI seen (gI (gI r (k : Int)) (i : Int)))) ?_)))))
     by_cases q51 : (gI seen (gI (gI r (k : Int)) (i : Int))) = true
     ·
      refine al (wn q51) (al (wn q51) (al (wn q51) (al (wn q51) (al (wn q51) (al (wn q51) (al (wn q51) (al (wn q51) (al (wn q51) (al (wn q51) (al (wn q51) (lw (Value.bool true) (aY rfl q51 rfl) (aa (ae rfl rfl (a9 ?_))))))))))))))
      clear bx5 o14 r21
      refine a8 rfl (ai 4 (aa (av (vs := [vi 4]) Try.func15 (.tmp rfl .nil) ?_)))
      have e0 : (4 : Int) = (aK g r) := by
        exact (eb hm (hin.twice (by omega) ‹_› (by omega) (by omega) ‹_›)).symm
      exact ⟨(congrArg (a₁ := 4) (fun (z0 : Int) => Ending.returned (vi z0)) e0), bH.below⟩
     refine lv (vp b3 1) (wy (Bool.eq_false_iff.2 q51)) (ad Try.underlying24 rfl rfl zs2 rfl) (lv (g_v) (wy (Bool.eq_false_iff.2 q51)) (af bo rfl bx5 rfl) (lv (vi (gI (gI r (k : Int)) (i : Int))) (wy (Bool.eq_false_iff.2 q51)) (au rfl) (lv (vi ((gI (gI r (k : Int)) (i : Int)) / 2)) (wy (Bool.eq_false_iff.2 q51)) (hU (m := (gI (gI r (k : Int)) (i : Int))) (n := 2) rfl rfl (by omega) (by omega) (by omega)) (lv (vi (gI (gI r (k : Int)) (i : Int))) (wy (Bool.eq_false_iff.2 q51)) (au rfl) (lv (vi ((gI (gI r (k : Int)) (i : Int)) % 2)) (wy (Bool.eq_false_iff.2 q51)) (eT (m := (gI (gI r (k : Int)) (i : Int))) (n := 2) rfl rfl (by omega) (by omega)) ?_)))))
     refine lv (Value.pointer (some (ba g_v 2 (Int.toNat ((gI (gI r (k : Int)) (i : Int)) / 2))))) (wy (Bool.eq_false_iff.2 q51)) (ab (α := (Int) × (Int)) (xs := g.2) (v := g_v) (i := (gI (gI r (k : Int)) (i : Int)) / 2) Try.underlying22 rfl rfl Rg rfl (by omega) (by omega)) (lv (Value.pointer (some ⟨(ba g_v 2 (Int.toNat ((gI (gI r (k : Int)) (i : Int)) / 2))).block, (ba g_v 2 (Int.toNat ((gI (gI r (k : Int)) (i : Int)) / 2))).off + (Int.toNat ((gI (gI r (k : Int)) (i : Int)) % 2)), none⟩)) (wy (Bool.eq_false_iff.2 q51)) (bV (i := (gI (gI r (k : Int)) (i : Int)) % 2) Try.underlying60 rfl rfl rfl (by omega) (by omega) (Nat.mul_one _)) ?_)
     refine lv (vi (pI (gI g.2 ((gI (gI r (k : Int)) (i : Int)) / 2)) ((gI (gI r (k : Int)) (i : Int)) % 2))) (wy (Bool.eq_false_iff.2 q51)) (cF (α := (Int) × (Int)) (xs := g.2) (v := g_v) (i := (gI (gI r (k : Int)) (i : Int)) / 2) am rfl Rg (by omega) (by omega) (show Int.toNat ((gI (gI r (k : Int)) (i : Int)) % 2) < 2 by omega) (fH _ (by omega) (by omega))) (lv (vi (k : Int)) (wy (Bool.eq_false_iff.2 q51)) (au zs7) (lv (Value.bool (!(decide ((pI (gI g.2 ((gI (gI r (k : Int)) (i : Int)) / 2)) ((gI (gI r (k : Int)) (i : Int)) % 2)) = (k : Int))))) (wy (Bool.eq_false_iff.2 q51)) (cl (m := pI (gI g.2 ((gI (gI r (k : Int)) (i : Int)) / 2)) ((gI (gI r (k : Int)) (i : Int)) % 2)) (n := (k : Int)) rfl rfl) ?_))
     refine lw (Value.bool (!(decide ((pI (gI g.2 ((gI (gI r (k : Int)) (i : Int)) / 2)) ((gI (gI r (k : Int)) (i : Int)) % 2)) = (k : Int))))) (b7 rfl (Bool.eq_false_iff.2 q51) rfl) (aa ?_)
     by_cases p13 : (pI (gI g.2 ((gI (gI r (k : Int)) (i : Int)) / 2)) ((gI (gI r (k : Int)) (i : Int)) % 2)) = (k : Int)
     ·
      refine ag rfl (congrArg Bool.not (dt p13)) (aj (a9 (a8 rfl (mz zs5 (mi (gI (gI r (k : Int)) (i : Int)) (lx (ab (v := v12) (i := (gI (gI r (k : Int)) (i : Int))) Try.underlying75 rfl rfl o14.flat rfl (by omega) (by omega)) (lo (bP (i := (gI (gI r (k : Int)) (i : Int))) true fu rfl rfl o14 (by omega) (by omega) rfl ?_))))))))
      intro w27 ch28 bx29
      clear o14
      refine aa (a8 rfl (mz zs6 (lx (aQ (m := n) (n := 1) rfl rfl (by omega)) (ai (n + 1) (aa (ao (a8 rfl (lx (aQ (m := (i : Int)) (n := 1) zs33 rfl (by omega)) (mi ((i : Int) + 1) (aa ?_))))))))))
      refine back11 (n + 1, i + 1, (List.set seen (Int.toNat (gI (gI r (k : Int)) (i : Int))) true), g25) _ _ ⟨bH.ce ch28, zs2, zs5, rfl, zs7, zs24, zs25, zs26, zs31, zs32, rfl, Rg.ce ch28, Rr.ce ch28, bx5.ce ch28, bx29, r21.ce ch28, by omega, ?_⟩ ?_
      · show cN (List.set seen (Int.toNat (gI (gI r (k : Int)) (i : Int))) true) (n + 1) g r k (i + 1)
        exact hin.next ‹_› (by omega) (by omega) (Bool.eq_false_iff.2 ‹_›) ‹_›
      · show Int.toNat (((List.length (gI r (k : Int)) : Int) : Int) - ((i + 1) : Int)) < Int.toNat (((List.length (gI r (k : Int)) : Int) : Int) - (i : Int))
        omega
     refine ae rfl (congrArg Bool.not (df p13)) (a9 ?_)
     clear bx5 o14 r21
     refine a8 rfl (ai 4 (aa (av (vs := [vi 4]) Try.func15 (.tmp rfl .nil) ?_)))
     have e0 : (4 : Int) = (aK g r) := by
       exact (eb hm (hin.bad (by omega) ‹_› (by rintro ⟨⟨h1, h2⟩, h3⟩; exact absurd h3 ‹_›))).symm
     exact ⟨(congrArg (a₁ := 4) (fun (z0 : Int) => Ending.returned (vi z0)) e0), bH.below⟩
    refine ag rfl (df p11) (aI rfl (ao ?_))
    clear r21
    refine a8 rfl (lx (aQ (m := (k : Int)) (n := 1) zs26 rfl (by omega)) (mi ((k : Int) + 1) (aa ?_)))
    refine back8 (n, k + 1, seen, g25) _ _ ⟨bH, zs2, zs5, zs6, zs24, zs25, rfl, Rg, Rr, bx5, o14, by omega, ?_⟩ ?_
    · show cN seen n g r (k + 1) 0
      exact hin.row_done ‹_› ‹_›
    · show Int.toNat (((r.length : Int) : Int) - ((k + 1) : Int)) < Int.toNat (((r.length : Int) : Int) - (k : Int))
      omega
   refine ag rfl (df p8) (aI rfl (a9 (a9 ?_)))
   clear bx5
   refine a8 rfl (mz zs6 (mz zs5 ?_))
   have len30 := (o14.flat).small
   refine lx (aO Try.underlying75 rfl o14.flat) (lx (cl (m := n) (n := (seen.length : Int)) rfl rfl) (aa ?_))
   by_cases p19 : n = (seen.length : Int)
   ·
    refine ag rfl (congrArg Bool.not (dt p19)) (aj (a9 ?_))
    clear o14
    refine a8 rfl (ai 0 (aa (av (vs := [vi 0]) Try.func15 (.tmp rfl .nil) ?_)))
    have e0 : (0 : Int) = (aK g r) := by
      exact (br hm ((hinv.fin (by omega) (by omega) rfl).2 (by omega))).symm
    exact ⟨(congrArg (a₁ := 0) (fun (z0 : Int) => Ending.returned (vi z0)) e0), bH.below⟩
   refine ae rfl (congrArg Bool.not (df p19)) (a9 ?_)
   clear o14
   refine a8 rfl (ai 4 (aa (av (vs := [vi 4]) Try.func15 (.tmp rfl .nil) ?_)))
   have e0 : (4 : Int) = (aK g r) := by
     exact (eb hm (fun h => by have := (hinv.fin (by omega) (by omega) rfl).1 h; omega)).symm
   exact ⟨(congrArg (a₁ := 4) (fun (z0 : Int) => Ending.returned (vi z0)) e0), bH.below⟩
  refine ae rfl (congrArg Bool.not (df p3)) (a9 ?_)
  clear bx5
  refine a8 rfl (ai 4 (aa (av (vs := [vi 4]) Try.func15 (.tmp rfl .nil) ?_)))
  have e0 : (4 : Int) = (aK g r) := by
    exact (eb hm (fun h => by have := h.1; omega)).symm
  replace bH := bH.cn ch2
  replace bH := bH.cn hb7
  exact ⟨(congrArg (a₁ := 4) (fun (z0 : Int) => Ending.returned (vi z0)) e0), bH.below⟩
 refine ae rfl (congrArg Bool.not (Bool.eq_false_iff.2 p1)) (a9 ?_)
 clear bx5
 refine a8 rfl (ai 1 (aa (av (vs := [vi 1]) Try.func15 (.tmp rfl .nil) ?_)))
 have e0 : (1 : Int) = (aK g r) := by
   (have hn : ¬ bx g := fun h => p1 (dt h)
    unfold aK; rw [if_neg hn]; done)
 replace bH := bH.cn ch2
 replace bH := bH.cn hb7
 exact ⟨(congrArg (a₁ := 1) (fun (z0 : Int) => Ending.returned (vi z0)) e0), bH.below⟩
theorem sb (w0 : World) (g : (Int) × (List ((Int) × (Int)))) (g_v : Value) (hg_v : Ro w0 g_v g.2) (r : bj) (r_v : Value) (hr_v : Ro w0 r_v r) :
    Calls Try.prog 12 #[vg [vi g.1, g_v], r_v] w0 (fun ee w => ee = .returned (vi (aK g r)) ∧ dH w0.heap.size w0 w) := by
 refine az Try.func12 rfl (Nat.le_of_ble_eq_true rfl) ?_
 have bH := b9.start w0
 have Rg := hg_v.sl
 have Rr := hr_v.sl
 refine a9 (a8 rfl (cr rfl (bR c0 (is 1) (1, 0) rfl rfl ?_)))
 intro g4 w1 b3 ch2 bx5
 replace bx5 : Bx g4 (is 1) w1 b3 [vi g.1, g_v] := bx5
 refine ai 0 (aa (a9 (a9 (a8 rfl (lx (aq (ds := [vi g.1, g_v]) ak rfl bx5 rfl rfl) ?_)))))
 replace Rg := Rg.cn ch2
 refine lo (bO (v := Value.bool (cD g)) (aD (vals := [vg [vi g.1, g_v]]) Try.func35 lK lp rfl) (jo w1 g g_v (Rg).ro) ?_)
 intro w6 hb7
 replace hb7 := aG hb7 g4
 refine lx (dr (b := (cD g)) rfl) (aa ?_)
 by_cases p1 : (cD g) = true
 ·
  have hm := of_decide_eq_true p1
  have hm0 := hm
  obtain ⟨hm1, hm2, hm3, hm4⟩ := hm0
  refine ag rfl (congrArg Bool.not p1) (aj (a9 (a9 (a8 rfl (mv r_v ?_)))))
  replace Rr := (Rr.cn ch2).cn hb7
  have len8 := (Rr).small
  refine lx (aO Try.underlying26 rfl Rr) (lx (ad Try.underlying24 rfl rfl rfl rfl) ?_)
  replace bx5 := bx5.cn hb7
  refine lx (af am rfl bx5 rfl) (lx (cl (m := (r.length : Int)) (n := g.1) rfl rfl) (aa ?_))
  by_cases p3 : (r.length : Int) = g.1
  ·
   refine ag rfl (congrArg Bool.not (dt p3)) (aj (a9 (a8 rfl (lx (ad Try.underlying24 rfl rfl rfl rfl) (lx (af bo rfl bx5 rfl) ?_)))))
   replace Rg := Rg.cn hb7
   have len9 := (Rg).small
   refine lx (aO Try.underlying22 rfl Rg) (lx (du (m := 2) (n := (g.2.length : Int)) rfl rfl (by omega)) (lo (dE (α := Bool) (l := 2 * (g.2.length : Int)) (cp := 2 * (g.2.length : Int)) g4 (is 2) (is 2) (2, 0) rfl false Try.underlying75 fu rfl rfl rfl (by omega) (by omega) (by omega) (by omega) ?_)))
   intro g10 w11 v12 ch13 o14 _
   refine ma v12 (aa (a9 (a8 rfl (ai 0 (aa (a9 (a9 (a8 rfl (ai 0 (aa (ah ?_)))))))))))
   refine aN (σ := Int × Nat × (List Bool) × aE) (fun ⟨n, k, seen, gq⟩ f w => b9 w0 gq w ∧ f 1 = r_v ∧ f 2 = vp b3 0 ∧ f 5 = v12 ∧ f 6 = vi n ∧ f 7 = vi (k : Int) ∧ Sl gq (is 0) w g_v g.2 ∧ Sl gq (is 0) w r_v r ∧ Bx gq (is 1) w b3 [vi g.1, g_v] ∧ Ow gq (is 2) (is 2) w v12 seen ∧ (k : Int) ≤ (g.1 : Int) ∧ (cN seen n g r k 0)) (fun ⟨n, k, seen, gq⟩ => Int.toNat ((g.1 : Int) - (k : Int))) (0, 0, (List.replicate (Int.toNat (2 * (g.2.length : Int))) false), g10) ?_ ?_
   have C15 := cg [] (ch2.n.seq (hb7.n.seq ch13.n))
   · exact ⟨bH.ca C15, rfl, rfl, rfl, rfl, rfl, Rg.cn ch13, Rr.cn ch13, bx5.cn ch13, o14, by omega, by exact cN.start g r⟩
   clear Rg Rr bx5 o14 bH
   rintro ⟨n, k, seen, g18⟩ f16 w17 ⟨bH, zs1, zs2, zs5, zs6, zs7, Rg, Rr, bx5, o14, hle_k, hinv⟩ back8
   have hsl := hinv.rm.len
   have hbd := hinv.bd
   refine a9 (a9 (a8 rfl (mz zs7 (lx (ad Try.underlying24 rfl rfl zs2 rfl) (lx (af am rfl bx5 rfl) (lx (bc (m := (k : Int)) (n := g.1) rfl rfl) (aa ?_)))))))
   by_cases p8 : (k : Int) < g.1
   ·
    refine ae rfl (dt p8) (aj (a9 (ah (a9 (a8 rfl (ai 0 (aa (ah ?_))))))))
    refine aN (σ := Int × Nat × (List Bool) × aE) (fun ⟨n, i, seen, gq⟩ f w => b9 w0 gq w ∧ f 1 = r_v ∧ f 2 = vp b3 0 ∧ f 5 = v12 ∧ f 6 = vi n ∧ f 7 = vi (k : Int) ∧ f 8 = vi (i : Int) ∧ Sl gq (is 0) w g_v g.2 ∧ Sl gq (is 0) w r_v r ∧ Bx gq (is 1) w b3 [vi g.1, g_v] ∧ Ow gq (is 2) (is 2) w v12 seen ∧ (i : Int) ≤ ((List.length (gI r (k : Int)) : Int) : Int) ∧ (cN seen n g r k i)) (fun ⟨n, i, seen, gq⟩ => Int.toNat (((List.length (gI r (k : Int)) : Int) : Int) - (i : Int))) (n, 0, seen, g18) ?_ ?_
    · exact ⟨bH, zs1, zs2, zs5, zs6, zs7, rfl, Rg, Rr, bx5, o14, by omega, by exact hinv⟩
    clear Rg Rr bx5 o14 bH
    rintro ⟨n, i, seen, g21⟩ f19 w20 ⟨bH, zs1, zs2, zs5, zs6, zs7, zs8, Rg, Rr, bx5, o14, hle_i, hin⟩ back11
    have hsl := hin.rm.len
    have hbd := hin.bd
    refine a9 (a9 (a8 rfl (mz zs8 (mz zs1 (mz zs7 (lx (ab (v := r_v) (i := (k : Int)) Try.underlying26 rfl rfl Rr rfl (by omega) (by omega)) ?_))))))
    obtain ⟨v22, cel23, r24⟩ := co (r := (k : Int)) Rr (by omega) (by omega)
    refine lx (aS aL rfl cel23) ?_
    have len25 := (r24).small
    refine lx (aO Try.underlying27 rfl r24) (lx (bc (m := (i : Int)) (n := (List.length (gI r (k : Int)) : Int)) rfl rfl) (aa ?_))
    by_cases p11 : (i : Int) < (List.length (gI r (k : Int)) : Int)
    ·
     refine ae rfl (dt p11) (aj (a9 (ah (a9 ?_))))
     clear r24
     refine a8 rfl (mz zs1 (mz zs7 (lx (ab (v := r_v) (i := (k : Int)) Try.underlying26 rfl rfl Rr rfl (by omega) (by omega)) ?_)))
     obtain ⟨v26, cel27, r28⟩ := co (r := (k : Int)) Rr (by omega) (by omega)
     refine lx (aS aL rfl cel27) (mz zs8 (lx (ab (v := v26) (i := (i : Int)) Try.underlying27 rfl rfl r28 rfl (by omega) (by omega)) (lx (ay (v := v26) (i := (i : Int)) am rfl r28 (by omega) (by omega) (by decide) rfl) (ai (gI (gI r (k : Int)) (i : Int)) (aa (a9 (a9 ?_)))))))
     clear r28
     refine a8 rfl (mi (gI (gI r (k : Int)) (i : Int)) (lx (bc (m := (gI (gI r (k : Int)) (i : Int))) (n := 0) rfl rfl) (mv (Value.bool (decide ((gI (gI r (k : Int)) (i : Int)) < 0))) ?_)))
     by_cases q47 : (gI (gI r (k : Int)) (i : Int)) < 0
     ·
      refine al (wn (dt q47)) (al (wn (dt q47)) (al (wn (dt q47)) (al (wn (dt q47)) (lw (Value.bool true) (aY rfl (dt q47) rfl) (mv (Value.bool true) (al (wn rfl) (al (wn rfl) (al (wn rfl) (al (wn rfl) (lw (Value.bool true) (aY rfl rfl rfl) (mv (Value.bool true) (al (wn rfl) (al (wn rfl) (al (wn rfl) (al (wn rfl) (al (wn rfl) ?_))))))))))))))))
      refine lw (Value.bool true) (aY rfl rfl rfl) (aa (ae rfl rfl (a9 ?_)))
      clear bx5 o14
      refine a8 rfl (ai 4 (aa (av (vs := [vi 4]) Try.func12 (.tmp rfl .nil) ?_)))
      have e0 : (4 : Int) = (aK g r) := by
        exact (eb hm (hin.bad (by omega) ‹_› (by rintro ⟨⟨h1, h2⟩, h3⟩; omega))).symm
      exact ⟨(congrArg (a₁ := 4) (fun (z0 : Int) => Ending.returned (vi z0)) e0), bH.below⟩
     refine lv (vi (gI (gI r (k : Int)) (i : Int))) (wy (df q47)) (au rfl) (lv (v12) (wy (df q47)) (au zs5) ?_)
     have len29 := (o14.flat).small
     refine lv (vi (seen.length : Int)) (wy (df q47)) (aO Try.underlying75 rfl o14.flat) (lv (Value.bool (decide ((seen.length : Int) ≤ (gI (gI r (k : Int)) (i : Int))))) (wy (df q47)) (dy (m := (gI (gI r (k : Int)) (i : Int))) (n := (seen.length : Int)) rfl rfl) (lw (Value.bool (decide ((seen.length : Int) ≤ (gI (gI r (k : Int)) (i : Int))))) (b7 rfl (df q47) rfl) (mv (Value.bool (decide ((seen.length : Int) ≤ (gI (gI r (k : Int)) (i : Int))))) ?_)))
     by_cases q53 : (seen.length : Int) ≤ (gI (gI r (k : Int)) (i : Int))
     ·
      refine al (wn (dt q53)) (al (wn (dt q53)) (al (wn (dt q53)) (al (wn (dt q53)) (lw (Value.bool true) (aY rfl (dt q53) rfl) (mv (Value.bool true) (al (wn rfl) (al (wn rfl) (al (wn rfl) (al (wn rfl) (al (wn rfl) (lw (Value.bool true) (aY rfl rfl rfl) (aa (ae rfl rfl ?_)))))))))))))
      refine a9 ?_
      clear bx5 o14
      refine a8 rfl (ai 4 (aa (av (vs := [vi 4]) Try.func12 (.tmp rfl .nil) ?_)))
      have e0 : (4 : Int) = (aK g r) := by
        exact (eb hm (hin.bad (by omega) ‹_› (by rintro ⟨⟨h1, h2⟩, h3⟩; omega))).symm
      exact ⟨(congrArg (a₁ := 4) (fun (z0 : Int) => Ending.returned (vi z0)) e0), bH.below⟩
     refine lv (v12) (wy (df q53)) (au zs5) (lv (vi (gI (gI r (k : Int)) (i : Int))) (wy (df q53)) (au rfl) (lv (Value.pointer (some (ba v12 1 (Int.toNat (gI (gI r (k : Int)) (i : Int)))))) (wy (df q53)) (ab (α := Bool) (xs := seen) (v := v12) (i := (gI (gI r (k : Int)) (i : Int))) Try.underlying75 rfl rfl o14.flat rfl (by omega) (by omega)) (lv (Value.bool (gI seen (gI (gI r (k : Int)) (i : Int)))) (wy (df q53)) (ay (α := Bool) (xs := seen) (v := v12) (i := (gI (gI r (k : Int)) (i : Int))) fu rfl o14.flat (by omega) (by omega) (by decide) rfl) (lw (Value.bool (gI seen (gI (gI r (k : Int)) (i : Int)))) (b7 rfl (df q53) rfl) (mv (Value.bool (gI seen (gI (gI r (k : Int)) (i : Int)))) ?_)))))
     by_cases q59 : (gI seen (gI (gI r (k : Int)) (i : Int))) = true
     ·
      refine al (wn q59) (al (wn q59) (al (wn q59) (al (wn q59) (al (wn q59) (lw (Value.bool true) (aY rfl q59 rfl) (aa (ae rfl rfl (a9 ?_))))))))
      clear bx5 o14
      refine a8 rfl (ai 4 (aa (av (vs := [vi 4]) Try.func12 (.tmp rfl .nil) ?_)))
      have e0 : (4 : Int) = (aK g r) := by
        exact (eb hm (hin.twice (by omega) ‹_› (by omega) (by omega) ‹_›)).symm
      exact ⟨(congrArg (a₁ := 4) (fun (z0 : Int) => Ending.returned (vi z0)) e0), bH.below⟩
     refine lv (vg [vi g.1, g_v]) (wy (Bool.eq_false_iff.2 q59)) (aq (ds := [vi g.1, g_v]) ak zs2 bx5 rfl rfl) (lv (vi (gI (gI r (k : Int)) (i : Int))) (wy (Bool.eq_false_iff.2 q59)) (au rfl) (cr (wy (Bool.eq_false_iff.2 q59)) (bO (v := vi (bp g (gI (gI r (k : Int)) (i : Int)))) (aD (vals := [vg [vi g.1, g_v], vi (gI (gI r (k : Int)) (i : Int))]) Try.func52 vL vY rfl) (gK w20 g g_v (Rg).ro (gI (gI r (k : Int)) (i : Int)) (by omega) (by omega)) ?_)))
     intro w30 hb31
     replace hb31 := aG hb31 g21
     refine lv (vi (k : Int)) (wy (Bool.eq_false_iff.2 q59)) (au zs7) (lv (Value.bool (!(decide ((bp g (gI (gI r (k : Int)) (i : Int))) = (k : Int))))) (wy (Bool.eq_false_iff.2 q59)) (cl (m := bp g (gI (gI r (k : Int)) (i : Int))) (n := (k : Int)) rfl rfl) (lw (Value.bool (!(decide ((bp g (gI (gI r (k : Int)) (i : Int))) = (k : Int))))) (b7 rfl (Bool.eq_false_iff.2 q59) rfl) (aa ?_)))
     by_cases p14 : (bp g (gI (gI r (k : Int)) (i : Int))) = (k : Int)
     ·
      refine ag rfl (congrArg Bool.not (dt p14)) (aj (a9 (a8 rfl (mz zs5 (mi (gI (gI r (k : Int)) (i : Int)) ?_)))))
      replace o14 := o14.cn hb31
      refine lx (ab (v := v12) (i := (gI (gI r (k : Int)) (i : Int))) Try.underlying75 rfl rfl o14.flat rfl (by omega) (by omega)) (lo (bP (i := (gI (gI r (k : Int)) (i : Int))) true fu rfl rfl o14 (by omega) (by omega) rfl ?_))
      intro w32 ch33 bx34
      clear o14
      refine aa (a8 rfl (mz zs6 (lx (aQ (m := n) (n := 1) rfl rfl (by omega)) (ai (n + 1) (aa (ao (a8 rfl (mz zs8 (lx (aQ (m := (i : Int)) (n := 1) rfl rfl (by omega)) (ai ((i : Int) + 1) ?_))))))))))
      refine aa ?_
      replace bH := bH.cn hb31
      refine back11 (n + 1, i + 1, (List.set seen (Int.toNat (gI (gI r (k : Int)) (i : Int))) true), g21) _ _ ⟨bH.ce ch33, zs1, zs2, zs5, rfl, zs7, rfl, (Rg.cn hb31).ce ch33, (Rr.cn hb31).ce ch33, (bx5.cn hb31).ce ch33, bx34, by omega, ?_⟩ ?_
      · show cN (List.set seen (Int.toNat (gI (gI r (k : Int)) (i : Int))) true) (n + 1) g r k (i + 1)
        exact hin.next ‹_› (by omega) (by omega) (Bool.eq_false_iff.2 ‹_›) ‹_›
      · show Int.toNat (((List.length (gI r (k : Int)) : Int) : Int) - ((i + 1) : Int)) < Int.toNat (((List.length (gI r (k : Int)) : Int) : Int) - (i : Int))
        omega
     refine ae rfl (congrArg Bool.not (df p14)) (a9 ?_)
     clear bx5 o14
     refine a8 rfl (ai 4 (aa (av (vs := [vi 4]) Try.func12 (.tmp rfl .nil) ?_)))
     have e0 : (4 : Int) = (aK g r) := by
       exact (eb hm (hin.bad (by omega) ‹_› (by rintro ⟨⟨h1, h2⟩, h3⟩; omega))).symm
     replace bH := bH.cn hb31
     exact ⟨(congrArg (a₁ := 4) (fun (z0 : Int) => Ending.returned (vi z0)) e0), bH.below⟩
    refine ag rfl (df p11) (aI rfl (ao ?_))
    clear r24
    refine a8 rfl (mz zs7 (lx (aQ (m := (k : Int)) (n := 1) rfl rfl (by omega)) (ai ((k : Int) + 1) (aa ?_))))
    refine back8 (n, k + 1, seen, g21) _ _ ⟨bH, zs1, zs2, zs5, zs6, rfl, Rg, Rr, bx5, o14, by omega, ?_⟩ ?_
    · show cN seen n g r (k + 1) 0
      exact hin.row_done (by omega) ‹_›
    · show Int.toNat ((g.1 : Int) - ((k + 1) : Int)) < Int.toNat ((g.1 : Int) - (k : Int))
      omega
   refine ag rfl (df p8) (aI rfl (a9 (a9 ?_)))
   clear bx5
   refine a8 rfl (mz zs6 (mz zs5 ?_))
   have len35 := (o14.flat).small
   refine lx (aO Try.underlying75 rfl o14.flat) (lx (bc (m := n) (n := (seen.length : Int)) rfl rfl) (aa ?_))
   by_cases p18 : n < (seen.length : Int)
   ·
    refine ae rfl (dt p18) (a9 ?_)
    clear o14
    refine a8 rfl (ai 4 (aa (av (vs := [vi 4]) Try.func12 (.tmp rfl .nil) ?_)))
    have e0 : (4 : Int) = (aK g r) := by
      exact (eb hm (fun h => by have := (hinv.fin (by omega) (by omega) rfl).1 h; omega)).symm
    exact ⟨(congrArg (a₁ := 4) (fun (z0 : Int) => Ending.returned (vi z0)) e0), bH.below⟩
   refine ag rfl (df p18) (aj (a9 ?_))
   clear o14
   refine a8 rfl (ai 0 (aa (av (vs := [vi 0]) Try.func12 (.tmp rfl .nil) ?_)))
   have e0 : (0 : Int) = (aK g r) := by
     exact (br hm ((hinv.fin (by omega) (by omega) rfl).2 (by omega))).symm
   exact ⟨(congrArg (a₁ := 0) (fun (z0 : Int) => Ending.returned (vi z0)) e0), bH.below⟩
  refine ae rfl (congrArg Bool.not (df p3)) (a9 ?_)
  clear bx5
  refine a8 rfl (ai 4 (aa (av (vs := [vi 4]) Try.func12 (.tmp rfl .nil) ?_)))
  have e0 : (4 : Int) = (aK g r) := by
    exact (eb hm (fun h => by have := h.1; omega)).symm
  replace bH := bH.cn ch2
  replace bH := bH.cn hb7
  exact ⟨(congrArg (a₁ := 4) (fun (z0 : Int) => Ending.returned (vi z0)) e0), bH.below⟩
 refine ae rfl (congrArg Bool.not (Bool.eq_false_iff.2 p1)) (a9 ?_)
 clear bx5
 refine a8 rfl (ai 1 (aa (av (vs := [vi 1]) Try.func12 (.tmp rfl .nil) ?_)))
 have e0 : (1 : Int) = (aK g r) := by
   (have hn : ¬ bx g := fun h => p1 (dt h)
    unfold aK; rw [if_neg hn]; done)
 replace bH := bH.cn ch2
 replace bH := bH.cn hb7
 exact ⟨(congrArg (a₁ := 1) (fun (z0 : Int) => Ending.returned (vi z0)) e0), bH.below⟩
theorem kZ (w0 : World) (a : bj) (a_v : Value) (ha_v : Ro w0 a_v a) (b : bj) (b_v : Value) (hb_v : Ro w0 b_v b) :
    Calls Try.prog 57 #[a_v, b_v] w0 (fun ee w => ee = .returned (Value.bool (decide (a = b))) ∧ dH w0.heap.size w0 w) := by
 refine az Try.func57 rfl (Nat.le_of_ble_eq_true rfl) ?_
 have bH := b9.start w0
 have Ra := ha_v.sl
 have Rb := hb_v.sl
 refine a9 (a8 rfl (ma (Value.bool false) (aa (a9 (a9 (a8 rfl (mv a_v ?_)))))))
 have len1 := (Ra).small
 refine lx (aO Try.underlying25 rfl Ra) (mv b_v ?_)
 have len2 := (Rb).small
 refine lx (aO Try.underlying25 rfl Rb) (lx (cl (m := (a.length : Int)) (n := (b.length : Int)) rfl rfl) (aa ?_))
 by_cases p1 : (a.length : Int) = (b.length : Int)
 ·
  refine ag rfl (congrArg Bool.not (dt p1)) (aj (a9 (a9 (a8 rfl (ai 0 (aa (ah ?_)))))))
  refine aN (σ := Nat × aE) (fun ⟨k, gq⟩ f w => b9 w0 gq w ∧ f 0 = a_v ∧ f 1 = b_v ∧ f 5 = vi (k : Int) ∧ Sl gq (is 0) w a_v a ∧ Sl gq (is 0) w b_v b ∧ (k : Int) ≤ ((a.length : Int) : Int) ∧ (List.take k a = List.take k b)) (fun ⟨k, gq⟩ => Int.toNat (((a.length : Int) : Int) - (k : Int))) (0, c0) ?_ ?_
  · exact ⟨bH, rfl, rfl, rfl, Ra, Rb, by omega, by simp⟩
  clear Ra Rb bH
  rintro ⟨k, g5⟩ f3 w4 ⟨bH, zs0, zs1, zs5, Ra, Rb, hle_k, hinv4⟩ back4
  refine a9 (a9 (a8 rfl (mz zs5 (mz zs0 (lx (aO Try.underlying25 rfl Ra) (lx (bc (m := (k : Int)) (n := (a.length : Int)) rfl rfl) (aa ?_)))))))
  by_cases p4 : (k : Int) < (a.length : Int)
  ·
   refine ae rfl (dt p4) (aj (a9 (ah (a9 (ck g5 rfl kv (by kernel_rfl) ?_)))))
   intro w7 ch6
   refine qz zs0 (qz zs5 ?_)
   replace Ra := Ra.cn ch6
   refine qx (fun w' hw' => ab (v := a_v) (i := (k : Int)) Try.underlying25 rfl rfl (Ra.bel hw') rfl (by omega) (by omega)) ?_
   obtain ⟨v8, cel9, r10⟩ := co (r := (k : Int)) Ra (by omega) (by omega)
   refine qx (fun w' hw' => aS aL rfl (cX cel9 hw')) (qz zs1 (qz zs5 ?_))
   replace Rb := Rb.cn ch6
   refine qx (fun w' hw' => ab (v := b_v) (i := (k : Int)) Try.underlying25 rfl rfl (Rb.bel hw') rfl (by omega) (by omega)) ?_
   obtain ⟨v11, cel12, r13⟩ := co (r := (k : Int)) Rb (by omega) (by omega)
   refine qx (fun w' hw' => aS aL rfl (cX cel12 hw')) (eL (v := Value.bool (decide ((gI a (k : Int)) = (gI b (k : Int))))) rfl (fun w' hw' => aD (vals := [v8, v11]) Try.func46 sI sD rfl) (fun w' hw' => (nW w' (gI a (k : Int)) v8 ((r10.bel hw')).ro (gI b (k : Int)) v11 ((r13.bel hw')).ro).mono fun e w2 h2 => ⟨h2.1, hw'.trans (h2.2.mono hw'.size)⟩) (qx (fun w' hw' => dr (b := (decide ((gI a (k : Int)) = (gI b (k : Int))))) rfl) (cV ?_)))
   intro w14 hc15
   replace hc15 := aG hc15 g5
   by_cases p6 : (decide ((gI a (k : Int)) = (gI b (k : Int)))) = true
   ·
    refine ag rfl (congrArg Bool.not p6) (aj (ao ?_))
    clear r10 r13
    refine a8 rfl (mz zs5 (lx (aQ (m := (k : Int)) (n := 1) rfl rfl (by omega)) (ai ((k : Int) + 1) (aa ?_))))
    replace bH := bH.cn ch6
    refine back4 (k + 1, g5) _ _ ⟨bH.cn hc15, zs0, zs1, rfl, Ra.cn hc15, Rb.cn hc15, by omega, ?_⟩ ?_
    · show List.take (k + 1) a = List.take (k + 1) b
      rw [bh ‹_›, bh (by omega), hinv4]; simp_all
    · show Int.toNat (((a.length : Int) : Int) - ((k + 1) : Int)) < Int.toNat (((a.length : Int) : Int) - (k : Int))
      omega
   refine ae rfl (congrArg Bool.not (Bool.eq_false_iff.2 p6)) (a9 ?_)
   clear r10 r13
   refine a8 rfl (ma (Value.bool false) (aa (av (vs := [Value.bool false]) Try.func57 (.tmp rfl .nil) ?_)))
   have e0 : (false : Bool) = (decide (a = b)) := by
     exact (df (fun h => by subst h; simp_all)).symm
   replace bH := bH.cn ch6
   replace bH := bH.cn hc15
   exact ⟨(congrArg (a₁ := false) (fun (z0 : Bool) => Ending.returned (Value.bool z0)) e0), bH.below⟩
  refine ag rfl (df p4) (aI rfl (a9 (a8 rfl (ma (Value.bool true) (aa (av (vs := [Value.bool true]) Try.func57 (.tmp rfl .nil) ?_))))))
  have e0 : (true : Bool) = (decide (a = b)) := by
    (have e := hinv4; rw [List.take_of_length_le (by omega), List.take_of_length_le (by omega)] at e; exact (dt e).symm)
  exact ⟨(congrArg (a₁ := true) (fun (z0 : Bool) => Ending.returned (Value.bool z0)) e0), bH.below⟩
 refine ae rfl (congrArg Bool.not (df p1)) (a9 (a8 rfl (ma (Value.bool false) (aa (av (vs := [Value.bool false]) Try.func57 (.tmp rfl .nil) ?_)))))
 have e0 : (false : Bool) = (decide (a = b)) := by
   exact (df (fun h => by subst h; simp_all)).symm
 exact ⟨(congrArg (a₁ := false) (fun (z0 : Bool) => Ending.returned (Value.bool z0)) e0), bH.below⟩
theorem fN (w0 : World) (s : List Int) (s_v : Value) (hs_v : Ro w0 s_v s) (v : Int) :
    Calls Try.prog 71 #[s_v, vi v] w0 (fun ee w => ee = .returned (vi (bf s v)) ∧ dH w0.heap.size w0 w) := by
 refine az Try.func71 rfl (Nat.le_of_ble_eq_true rfl) ?_
 have bH := b9.start w0
 have Rs := hs_v.sl
 refine a9 (a8 rfl (ai 0 (aa (a9 (a9 (a8 rfl (mv s_v ?_)))))))
 have len1 := (Rs).small
 refine lx (aO Try.underlying27 rfl Rs) (mi 0 (aa (ah ?_)))
 refine aN (σ := Nat × aE) (fun ⟨k, gq⟩ f w => b9 w0 gq w ∧ f 0 = s_v ∧ f 1 = vi v ∧ f 7 = vi (s.length : Int) ∧ f 8 = vi (k : Int) ∧ Sl gq (is 0) w s_v s ∧ (k : Int) ≤ ((s.length : Int) : Int) ∧ (∀ j : Nat, j < k → ¬ v = gI s (j : Int))) (fun ⟨k, gq⟩ => Int.toNat (((s.length : Int) : Int) - (k : Int))) (0, c0) ?_ ?_
 · exact ⟨bH, rfl, rfl, rfl, rfl, Rs, by omega, by intro j hj; omega⟩
 clear Rs bH
 rintro ⟨k, g4⟩ f2 w3 ⟨bH, zs0, zs1, zs7, zs8, Rs, hle_k, hinv⟩ back2
 refine a9 (a8 rfl (lx (bc (m := (k : Int)) (n := (s.length : Int)) zs8 zs7) (aa (a9 ?_))))
 by_cases p2 : (k : Int) < (s.length : Int)
 ·
  refine ae rfl (dt p2) (aj (a9 (ah (a9 (a8 rfl (mz zs8 (ai (k : Int) (aa (a9 (a8 rfl (mz zs1 (mz zs0 ?_))))))))))))
  refine mi (k : Int) (lx (ab (v := s_v) (i := (k : Int)) Try.underlying27 rfl rfl Rs rfl (by omega) (by omega)) (lx (ay (v := s_v) (i := (k : Int)) am rfl Rs (by omega) (by omega) (by decide) rfl) (lx (cR (m := v) (n := (gI s (k : Int))) rfl rfl) (aa ?_))))
  by_cases p4 : v = (gI s (k : Int))
  ·
   refine ae rfl (dt p4) (a9 (a8 rfl (mi (k : Int) (ai (k : Int) (aa (av (vs := [vi (k : Int)]) Try.func71 (.tmp rfl .nil) ?_))))))
   have e0 : ((k : Int) : Int) = (bf s v) := by
     exact l7 hinv ‹_› ‹_›
   exact ⟨(congrArg (a₁ := (k : Int)) (fun (z0 : Int) => Ending.returned (vi z0)) e0), bH.below⟩
  refine ag rfl (df p4) (aj (ao (a8 rfl (lx (aQ (m := (k : Int)) (n := 1) zs8 rfl (by omega)) (mi ((k : Int) + 1) (aa ?_))))))
  refine back2 (k + 1, g4) _ _ ⟨bH, zs0, zs1, zs7, rfl, Rs, by omega, ?_⟩ ?_
  · show ∀ j : Nat, j < (k + 1) → ¬ v = gI s (j : Int)
    intro j hj
    by_cases e0 : j = k
    · subst e0; assumption
    · exact hinv j (by omega)
  · show Int.toNat (((s.length : Int) : Int) - ((k + 1) : Int)) < Int.toNat (((s.length : Int) : Int) - (k : Int))
    omega
 refine ag rfl (df p2) (aI rfl (a9 (a8 rfl (ai (-1) (aa (av (vs := [vi (-1)]) Try.func71 (.tmp rfl .nil) ?_))))))
 have e0 : (-1 : Int) = (bf s v) := by
   exact px hinv ‹_›
 exact ⟨(congrArg (a₁ := -1) (fun (z0 : Int) => Ending.returned (vi z0)) e0), bH.below⟩
theorem qG (w0 : World) (l : List Int) (l_v : Value) (hl_v : Ro w0 l_v l) :
    Calls Try.prog 90 #[l_v] w0 (fun ee w => ∃ xx : aE × Value, ee = .returned ((fun ⟨δ, rv0⟩ => rv0) xx) ∧ (fun (⟨δ, rv0⟩ : aE × Value) (w : World) => cC w0 δ w ∧ Ow δ (is 1) (is 1) w rv0 (fK l)) xx w) := by
 refine az Try.func90 rfl (Nat.le_of_ble_eq_true rfl) ?_
 have bH := b9.start w0
 have Rl := hl_v.sl
 refine a9 (a8 rfl (ma vn (aa (a9 (a8 rfl (ai 0 (aa (a9 (a9 (a8 rfl (ai 0 (aa (ah ?_)))))))))))))
 refine aN (σ := Nat × Int × aE) (fun ⟨i, at_, gq⟩ f w => b9 w0 gq w ∧ f 0 = l_v ∧ f 3 = vi at_ ∧ f 4 = vi (i : Int) ∧ Sl gq (is 0) w l_v l ∧ (i : Int) ≤ ((l.length : Int) : Int) ∧ (dL at_ l i)) (fun ⟨i, at_, gq⟩ => Int.toNat (((l.length : Int) : Int) - (i : Int))) (0, 0, c0) ?_ ?_
 · exact ⟨bH, rfl, rfl, rfl, Rl, by omega, by exact dL.start l⟩
 clear Rl bH
 rintro ⟨i, at_, g3⟩ f1 w2 ⟨bH, zs0, zs3, zs4, Rl, hle_i, hinv⟩ back3
 have hlo := hinv.lo
 have hhi : at_ < l.length ∨ at_ = 0 ∧ l = [] := hinv.hi
 have hh2 : at_ ≤ (l.length : Int) := by rcases hhi with h | ⟨h1, h2⟩ <;> omega
 refine a9 (a9 (a8 rfl (mz zs4 (mz zs0 ?_))))
 have len4 := (Rl).small
 refine lx (aO Try.underlying27 rfl Rl) (lx (bc (m := (i : Int)) (n := (l.length : Int)) rfl rfl) (aa ?_))
 by_cases p3 : (i : Int) < (l.length : Int)
 ·
  refine ae rfl (dt p3) ?_
  have hh3 : at_ < (l.length : Int) := by rcases hhi with h | ⟨h1, h2⟩; exact h; subst h2; simp at *; omega
  refine aj (a9 (ah (a9 (ck g3 rfl kv (by kernel_rfl) ?_))))
  intro w6 ch5
  refine qz zs0 (qz zs4 ?_)
  replace Rl := Rl.cn ch5
  refine qx (fun w' hw' => ab (v := l_v) (i := (i : Int)) Try.underlying27 rfl rfl (Rl.bel hw') rfl (by omega) (by omega)) (qx (fun w' hw' => ay (v := l_v) (i := (i : Int)) am rfl (Rl.bel hw') (by omega) (by omega) (by decide) rfl) (qz zs0 (qz zs3 (qx (fun w' hw' => ab (v := l_v) (i := at_) Try.underlying27 rfl rfl (Rl.bel hw') rfl (by omega) (by omega)) (qx (fun w' hw' => ay (v := l_v) (i := at_) am rfl (Rl.bel hw') (by omega) (by omega) (by decide) rfl) (qx (fun w' hw' => bc (m := (gI l (i : Int))) (n := (gI l at_)) rfl rfl) (cV ?_)))))))
  intro w7 hc8
  replace hc8 := aG hc8 g3
  by_cases p5 : (gI l (i : Int)) < (gI l at_)
  ·
   refine ae rfl (dt p5) (a8 rfl (mz zs4 (ai (i : Int) (aa (ao (a8 rfl (mz zs4 (lx (aQ (m := (i : Int)) (n := 1) rfl rfl (by omega)) (ai ((i : Int) + 1) ?_)))))))))
   refine aa ?_
   replace bH := bH.cn ch5
   refine back3 (i + 1, (i : Int), g3) _ _ ⟨bH.cn hc8, zs0, rfl, rfl, Rl.cn hc8, by omega, ?_⟩ ?_
   · show dL (i : Int) l (i + 1)
     exact hinv.yes ‹_› ‹_›
   · show Int.toNat (((l.length : Int) : Int) - ((i + 1) : Int)) < Int.toNat (((l.length : Int) : Int) - (i : Int))
     omega
  refine ag rfl (df p5) (aj (ao (a8 rfl (mz zs4 (lx (aQ (m := (i : Int)) (n := 1) rfl rfl (by omega)) (ai ((i : Int) + 1) (aa ?_)))))))
  replace bH := bH.cn ch5
  refine back3 (i + 1, at_, g3) _ _ ⟨bH.cn hc8, zs0, zs3, rfl, Rl.cn hc8, by omega, ?_⟩ ?_
  · show dL at_ l (i + 1)
    exact hinv.no ‹_›
  · show Int.toNat (((l.length : Int) : Int) - ((i + 1) : Int)) < Int.toNat (((l.length : Int) : Int) - (i : Int))
    omega
 refine ag rfl (df p3) (aI rfl (a9 (ch g3 [0, 1, 2, 4, 5, 6, 8] kv ?_)))
 intro w10 ch9
 refine xp (v := l_v) 0 rfl (fun w => au zs0) (xp (v := vi at_) 1 rfl (fun w => au zs3) ?_)
 replace Rl := Rl.cn ch9
 refine xp (v := (db l_v 1 (Int.toNat at_) (Int.toNat l.length))) 2 rfl (fun w => eI (v := l_v) (l := at_) (h := l.length) Try.underlying27 rfl rfl Rl (.inl (congrArg some rfl)) (.inr ⟨rfl, rfl⟩) (by omega) (by omega) (by omega)) ?_
 have r12 := gJ Rl (show Int.toNat at_ ≤ Int.toNat l.length by omega) (show Int.toNat l.length ≤ List.length _ by omega)
 refine xp (v := l_v) 4 rfl (fun w => au zs0) (xp (v := vi at_) 5 rfl (fun w => au zs3) (xp (v := (db l_v 1 (Int.toNat 0) (Int.toNat at_))) 6 rfl (fun w => eI (v := l_v) (l := 0) (h := at_) Try.underlying27 rfl rfl Rl (.inr ⟨rfl, rfl⟩) (.inl (congrArg some rfl)) (by omega) (by omega) (by omega)) ?_))
 have r14 := gJ Rl (show Int.toNat 0 ≤ Int.toNat at_ by omega) (show Int.toNat at_ ≤ List.length _ by omega)
 refine bM 3 rfl (by kernel_rfl) rfl (aR (α := Int) (xs := ([])) (ys := (List.drop (Int.toNat at_) (List.take (Int.toNat l.length) l))) g3 (J := is 1) (S := is 1) (1, 0) rfl Try.underlying27 am (by decide) rfl rfl rfl Ow.nil r12 (by decide) (by (simp; omega)) ?_)
 intro g15 w16 v17 ch18 o19
 replace o19 : Ow g15 (is 1) (is 1) w16 v17 (List.drop (Int.toNat at_) (List.take (Int.toNat l.length) l)) := o19
 refine bM 7 rfl (by kernel_rfl) rfl ?_
 replace r14 := r14.ce ch18
 refine aR (α := Int) (xs := (List.drop (Int.toNat at_) (List.take (Int.toNat l.length) l))) (ys := (List.drop (Int.toNat 0) (List.take (Int.toNat at_) l))) g15 (J := is 1) (S := is 1) (1, 0) rfl Try.underlying27 am (by decide) rfl rfl rfl o19 r14 (by decide) (by (simp; omega)) ?_
 intro g20 w21 v22 ch23 o24
 clear o19
 refine xp (v := v22) 8 rfl (fun w => bz rfl) (cO (by kernel_rfl) (av (vs := [v22]) Try.func90 (.tmp rfl .nil) ?_))
 have C25 := cg [1] (ch9.n.seq ((ch18.l rfl).seq (ch23.l rfl)))
 replace bH := bH.ca C25
 have e0 : (((List.drop (Int.toNat at_) (List.take (Int.toNat l.length) l)) ++ (List.drop (Int.toNat 0) (List.take (Int.toNat at_) l))) : List Int) = (fK l) := by
   have hd := hinv.done ‹_›; simp at hd ⊢; exact hd
 exact ⟨(fin w0 g20 (fun n => if n = 1 then 1 else 0), v22), (congrArg (a₁ := ((List.drop (Int.toNat at_) (List.take (Int.toNat l.length) l)) ++ (List.drop (Int.toNat 0) (List.take (Int.toNat at_) l)))) (fun (z0 : List Int) => Ending.returned (v22)) e0), bH.fresh _, (e0 ▸ (o24.glue (γ := c0) (ren := (fun n => if n = 1 then 1 else 0)) (k := 1) bH.col rfl rfl))⟩
theorem gw (w0 : World) (r : bj) (r_v : Value) (hr_v : Ro w0 r_v r) :
    Calls Try.prog 60 #[r_v] w0 (fun ee w => ∃ xx : aE × Value, ee = .returned ((fun ⟨δ, rv0⟩ => rv0) xx) ∧ (fun (⟨δ, rv0⟩ : aE × Value) (w : World) => cC w0 δ w ∧ cj δ 1 w rv0 (ct r)) xx w) := by
 refine az Try.func60 rfl (Nat.le_of_ble_eq_true rfl) ?_
 have bH := b9.start w0
 have Rr := hr_v.sl
 refine a9 (a8 rfl (ma vn (aa (a9 (a8 rfl (mv r_v ?_))))))
 have len1 := (Rr).small
 refine lx (aO Try.underlying26 rfl Rr) (lo (dB (α := Int) (n := (r.length : Int)) (cp := (r.length : Int)) c0 1 Try.underlying26 aL rfl rfl rfl (by omega) (by omega) (by omega) (by omega) ?_))
 intro g2 w3 v4 ch5 o6
 refine ma v4 (aa (a9 (a9 (a8 rfl (ai 0 (aa (ah ?_)))))))
 refine aN (σ := Nat × bj × aE) (fun ⟨k, out, gq⟩ f w => b9 w0 gq w ∧ f 0 = r_v ∧ f 3 = v4 ∧ f 4 = vi (k : Int) ∧ Sl gq (is 0) w r_v r ∧ cj gq 1 w v4 out ∧ (k : Int) ≤ ((r.length : Int) : Int) ∧ (out = List.map fK (List.take k r) ++ List.replicate (r.length - k) [])) (fun ⟨k, out, gq⟩ => Int.toNat (((r.length : Int) : Int) - (k : Int))) (0, (List.replicate (Int.toNat (r.length : Int)) []), g2) ?_ ?_
 · exact ⟨bH.cn ch5, rfl, rfl, rfl, Rr.cn ch5, o6, by omega, by simp⟩
 clear Rr o6 bH
 rintro ⟨k, out, g9⟩ f7 w8 ⟨bH, zs0, zs3, zs4, Rr, o6, hle_k, hinv⟩ back3
 have hol : out.length = r.length := by rw [hinv]; simp; omega
 refine a9 (a9 (a8 rfl (mz zs4 (mz zs0 (lx (aO Try.underlying26 rfl Rr) (lx (bc (m := (k : Int)) (n := (r.length : Int)) rfl rfl) (aa ?_)))))))
 by_cases p3 : (k : Int) < (r.length : Int)
 ·
  refine ae rfl (dt p3) (aj (a9 (ah (a8 rfl (mz zs3 (mz zs4 (mz zs0 (mz zs4 (lx (ab (v := r_v) (i := (k : Int)) Try.underlying26 rfl rfl Rr rfl (by omega) (by omega)) ?_)))))))))
  obtain ⟨v10, cel11, r12⟩ := co (r := (k : Int)) Rr (by omega) (by omega)
  refine lx (aS aL rfl cel11) (lo (aV (aD (vals := [v10]) Try.func90 wq wG rfl) (qG w8 (gI r (k : Int)) v10 (r12).ro) ?_))
  rintro ⟨d14, v16⟩ w13 ⟨fr15, o17⟩
  obtain ⟨g18, ch19, G18⟩ := dw g9 fr15 (fun n => if n = 1 then 2 else 0)
  replace o17 := o17.gl G18 2
  replace o6 := o6.cn ch19
  refine lx (ab (v := v4) (i := (k : Int)) Try.underlying26 rfl rfl o6.sl rfl (by omega) (by omega)) (lo (fb (r := (k : Int)) aL rfl rfl o6 o17 rfl (by omega) (by omega) ?_))
  intro g26 w23 ch24 o25
  clear o6 o17
  refine aa (ao ?_)
  clear r12
  refine a8 rfl (mz zs4 (lx (aQ (m := (k : Int)) (n := 1) rfl rfl (by omega)) (ai ((k : Int) + 1) (aa ?_))))
  replace bH := bH.cn ch19
  refine back3 (k + 1, (List.set out (Int.toNat (k : Int)) (fK (gI r (k : Int)))), g26) _ _ ⟨bH.chg ch24 (n8 rfl rfl), zs0, zs3, rfl, (Rr.cn ch19).chg ch24 (n8 rfl rfl), o25, by omega, ?_⟩ ?_
  · show (List.set out (Int.toNat (k : Int)) (fK (gI r (k : Int)))) = List.map fK (List.take (k + 1) r) ++ List.replicate (r.length - (k + 1)) []
    rw [hinv]; exact j6 ‹_› rfl
  · show Int.toNat (((r.length : Int) : Int) - ((k + 1) : Int)) < Int.toNat (((r.length : Int) : Int) - (k : Int))
    omega
 refine ag rfl (df p3) (aI rfl (a9 (a8 rfl (mz zs3 (ma v4 (aa (av (vs := [v4]) Try.func60 (.tmp rfl .nil) ?_)))))))
 have e0 : (out : bj) = (ct r) := by
   rw [hinv, show k = r.length by omega]; simp [ct]
 exact ⟨(fin w0 g9 (fun n => if n = 1 then 1 else 0), v4), (congrArg (a₁ := out) (fun (z0 : bj) => Ending.returned (v4)) e0), bH.fresh _, (e0 ▸ (o6.glue (γ := c0) (ren := (fun n => if n = 1 then 1 else 0)) (k := 1) bH.col rfl rfl))⟩
theorem ov (w0 : World) (r : bj) (r_v : Value) (hr_v : Ro w0 r_v r) :
    Calls Try.prog 89 #[r_v] w0 (fun ee w => ∃ xx : aE × Value, ee = .returned ((fun ⟨δ, rv0⟩ => rv0) xx) ∧ (fun (⟨δ, rv0⟩ : aE × Value) (w : World) => cC w0 δ w ∧ cj δ 1 w rv0 (ct r)) xx w) := by
 refine az Try.func89 rfl (Nat.le_of_ble_eq_true rfl) ?_
 have bH := b9.start w0
 have Rr := hr_v.sl
 refine a9 (a8 rfl (ma vn (aa (a9 (a8 rfl (mv r_v ?_))))))
 have len1 := (Rr).small
 refine lx (aO Try.underlying26 rfl Rr) (lo (dB (α := Int) (n := (r.length : Int)) (cp := (r.length : Int)) c0 1 Try.underlying26 aL rfl rfl rfl (by omega) (by omega) (by omega) (by omega) ?_))
 intro g2 w3 v4 ch5 o6
 refine ma v4 (aa (a9 (a9 (a8 rfl (mv r_v ?_)))))
 replace Rr := Rr.cn ch5
 refine lx (aO Try.underlying26 rfl Rr) (mi 0 (aa (ah ?_)))
 refine aN (σ := Nat × bj × aE) (fun ⟨k, out, gq⟩ f w => b9 w0 gq w ∧ f 3 = v4 ∧ f 10 = r_v ∧ f 11 = vi (r.length : Int) ∧ f 12 = vi (k : Int) ∧ Sl gq (is 0) w r_v r ∧ cj gq 1 w v4 out ∧ (k : Int) ≤ ((r.length : Int) : Int) ∧ (out = List.map fK (List.take k r) ++ List.replicate (r.length - k) [])) (fun ⟨k, out, gq⟩ => Int.toNat (((r.length : Int) : Int) - (k : Int))) (0, (List.replicate (Int.toNat (r.length : Int)) []), g2) ?_ ?_
 · exact ⟨bH.cn ch5, rfl, rfl, rfl, rfl, Rr, o6, by omega, by simp⟩
 clear Rr o6 bH
 rintro ⟨k, out, g9⟩ f7 w8 ⟨bH, zs3, zs10, zs11, zs12, Rr, o6, hle_k, hinv⟩ back3
 have hol : out.length = r.length := by rw [hinv]; simp; omega
 refine a9 (a8 rfl (lx (bc (m := (k : Int)) (n := (r.length : Int)) zs12 zs11) (aa (a9 ?_))))
 by_cases p3 : (k : Int) < (r.length : Int)
 ·
  refine ae rfl (dt p3) (aj (a9 (ah (a9 (a8 rfl (mz zs12 (lx (ab (v := r_v) (i := (k : Int)) Try.underlying26 rfl zs10 Rr zs12 (by omega) (by omega)) ?_)))))))
  obtain ⟨v10, cel11, r12⟩ := co (r := (k : Int)) Rr (by omega) (by omega)
  refine lx (aS aL rfl cel11) (ai (k : Int) (ma v10 (aa (a9 (a9 (a8 rfl (mv v10 ?_)))))))
  have len13 := (r12).small
  refine lx (aO Try.underlying27 rfl r12) (lx (cR (m := (List.length (gI r (k : Int)) : Int)) (n := 0) rfl rfl) (aa ?_))
  by_cases p5 : (List.length (gI r (k : Int)) : Int) = 0
  ·
   refine ae rfl (dt p5) (aI rfl ?_)
   clear r12
   refine a8 rfl (lx (aQ (m := (k : Int)) (n := 1) zs12 rfl (by omega)) (mi ((k : Int) + 1) (aa ?_)))
   refine back3 (k + 1, out, g9) _ _ ⟨bH, zs3, zs10, zs11, rfl, Rr, o6, by omega, ?_⟩ ?_
   · show out = List.map fK (List.take (k + 1) r) ++ List.replicate (r.length - (k + 1)) []
     (rw [hinv]; exact sx ‹_› (by rw [fK, if_pos]; apply List.eq_nil_of_length_eq_zero; omega))
   · show Int.toNat (((r.length : Int) : Int) - ((k + 1) : Int)) < Int.toNat (((r.length : Int) : Int) - (k : Int))
     omega
  have hti := mh (l := gI r (k : Int)) (by intro h; rw [h] at p5; simp at p5)
  have hti2 := hti.2.1
  have hti3 := hti.2.2
  refine ag rfl (df p5) (aj (a9 (a8 rfl (mv v10 (mv v10 (lo (bO (v := vi (dJ (gI r (k : Int)))) (aD (vals := [v10]) Try.func102 tt tT rfl) (wB w8 (gI r (k : Int)) v10 (r12).ro (by omega)) ?_)))))))
  intro w14 hb15
  replace hb15 := aG hb15 g9
  replace r12 := r12.cn hb15
  refine lo (bO (v := vi (bf (gI r (k : Int)) (dJ (gI r (k : Int))))) (aD (vals := [v10, vi (dJ (gI r (k : Int)))]) Try.func71 j2 iX rfl) (fN w14 (gI r (k : Int)) v10 (r12).ro (dJ (gI r (k : Int)))) ?_)
  intro w16 hb17
  replace hb17 := aG hb17 g9
  refine ai (bf (gI r (k : Int)) (dJ (gI r (k : Int)))) (aa (ch g9 [0, 1, 2, 3, 4, 6, 7, 8, 10] kv ?_))
  intro w19 ch18
  refine xp (v := v4) 0 rfl (fun w => au zs3) (xp (v := vi (k : Int)) 1 rfl (fun w => au rfl) (xp (v := v10) 2 rfl (fun w => au rfl) (xp (v := vi (bf (gI r (k : Int)) (dJ (gI r (k : Int))))) 3 rfl (fun w => au rfl) ?_)))
  replace r12 := (r12.cn hb17).cn ch18
  refine xp (v := (db v10 1 (Int.toNat (bf (gI r (k : Int)) (dJ (gI r (k : Int))))) (Int.toNat ((gI r (k : Int)).length)))) 4 rfl (fun w => eI (v := v10) (l := bf (gI r (k : Int)) (dJ (gI r (k : Int)))) (h := (gI r (k : Int)).length) Try.underlying27 rfl rfl r12 (.inl (congrArg some rfl)) (.inr ⟨rfl, rfl⟩) (by omega) (by omega) (by omega)) ?_
  have r21 := gJ r12 (show Int.toNat (bf (gI r (k : Int)) (dJ (gI r (k : Int)))) ≤ Int.toNat ((gI r (k : Int)).length) by omega) (show Int.toNat ((gI r (k : Int)).length) ≤ List.length _ by omega)
  refine xp (v := v10) 6 rfl (fun w => au rfl) (xp (v := vi (bf (gI r (k : Int)) (dJ (gI r (k : Int))))) 7 rfl (fun w => au rfl) (xp (v := (db v10 1 (Int.toNat 0) (Int.toNat (bf (gI r (k : Int)) (dJ (gI r (k : Int))))))) 8 rfl (fun w => eI (v := v10) (l := 0) (h := bf (gI r (k : Int)) (dJ (gI r (k : Int)))) Try.underlying27 rfl rfl r12 (.inr ⟨rfl, rfl⟩) (.inl (congrArg some rfl)) (by omega) (by omega) (by omega)) ?_))
  have r23 := gJ r12 (show Int.toNat 0 ≤ Int.toNat (bf (gI r (k : Int)) (dJ (gI r (k : Int)))) by omega) (show Int.toNat (bf (gI r (k : Int)) (dJ (gI r (k : Int)))) ≤ List.length _ by omega)
  refine bM 5 rfl (by kernel_rfl) rfl (aR (α := Int) (xs := ([])) (ys := (List.drop (Int.toNat (bf (gI r (k : Int)) (dJ (gI r (k : Int))))) (List.take (Int.toNat ((gI r (k : Int)).length)) (gI r (k : Int))))) g9 (J := is 2) (S := is 2) (2, 0) rfl Try.underlying27 am (by decide) rfl rfl rfl Ow.nil r21 (by decide) (by (simp; omega)) ?_)
  intro g24 w25 v26 ch27 o28
  replace o28 : Ow g24 (is 2) (is 2) w25 v26 (List.drop (Int.toNat (bf (gI r (k : Int)) (dJ (gI r (k : Int))))) (List.take (Int.toNat ((gI r (k : Int)).length)) (gI r (k : Int)))) := o28
  refine bM 9 rfl (by kernel_rfl) rfl ?_
  replace r23 := r23.ce ch27
  refine aR (α := Int) (xs := (List.drop (Int.toNat (bf (gI r (k : Int)) (dJ (gI r (k : Int))))) (List.take (Int.toNat ((gI r (k : Int)).length)) (gI r (k : Int))))) (ys := (List.drop (Int.toNat 0) (List.take (Int.toNat (bf (gI r (k : Int)) (dJ (gI r (k : Int))))) (gI r (k : Int))))) g24 (J := is 2) (S := is 2) (2, 0) rfl Try.underlying27 am (by decide) rfl rfl rfl o28 r23 (by decide) (by (simp; omega)) ?_
  intro g29 w30 v31 ch32 o33
  clear o28
  have C34 := cg [2] (hb15.n.seq (hb17.n.seq (ch18.n.seq ((ch27.l rfl).seq (ch32.l rfl)))))
  replace o6 := o6.ca C34
  refine xv 10 [9, 5, 8, 7, 6, 4, 3, 2, 1, 0] rfl (ab (v := v4) (i := (k : Int)) Try.underlying26 rfl rfl o6.sl rfl (by omega) (by omega)) (bM 11 rfl (by kernel_rfl) rfl (fb (r := (k : Int)) aL rfl rfl o6 o33 rfl (by omega) (by omega) ?_))
  intro g41 w38 ch39 o40
  clear o6 o33
  refine cO (by kernel_rfl) (ao ?_)
  clear r12 r21 r23
  refine a8 rfl (lx (aQ (m := (k : Int)) (n := 1) zs12 rfl (by omega)) (mi ((k : Int) + 1) (aa ?_)))
  have C42 := cg [1, 2] (hb15.n.seq (hb17.n.seq (ch18.n.seq ((ch27.l rfl).seq ((ch32.l rfl).seq (ch39.l2 rfl rfl))))))
  refine back3 (k + 1, (List.set out (Int.toNat (k : Int)) ((List.drop (Int.toNat (bf (gI r (k : Int)) (dJ (gI r (k : Int))))) (List.take (Int.toNat ((gI r (k : Int)).length)) (gI r (k : Int)))) ++ (List.drop (Int.toNat 0) (List.take (Int.toNat (bf (gI r (k : Int)) (dJ (gI r (k : Int))))) (gI r (k : Int)))))), g41) _ _ ⟨bH.ca C42, zs3, zs10, zs11, rfl, Rr.ca C42, o40, by omega, ?_⟩ ?_
  · show (List.set out (Int.toNat (k : Int)) ((List.drop (Int.toNat (bf (gI r (k : Int)) (dJ (gI r (k : Int))))) (List.take (Int.toNat ((gI r (k : Int)).length)) (gI r (k : Int)))) ++ (List.drop (Int.toNat 0) (List.take (Int.toNat (bf (gI r (k : Int)) (dJ (gI r (k : Int))))) (gI r (k : Int)))))) = List.map fK (List.take (k + 1) r) ++ List.replicate (r.length - (k + 1)) []
    (rw [hinv]; exact j6 ‹_› (by rw [hti.1]; simp))
  · show Int.toNat (((r.length : Int) : Int) - ((k + 1) : Int)) < Int.toNat (((r.length : Int) : Int) - (k : Int))
    omega
 refine ag rfl (df p3) (aI rfl (a9 (a8 rfl (mz zs3 (ma v4 (aa (av (vs := [v4]) Try.func89 (.tmp rfl .nil) ?_)))))))
 have e0 : (out : bj) = (ct r) := by
   rw [hinv, show k = r.length by omega]; simp [ct]
 exact ⟨(fin w0 g9 (fun n => if n = 1 then 1 else 0), v4), (congrArg (a₁ := out) (fun (z0 : bj) => Ending.returned (v4)) e0), bH.fresh _, (e0 ▸ (o6.glue (γ := c0) (ren := (fun n => if n = 1 then 1 else 0)) (k := 1) bH.col rfl rfl))⟩
theorem qX (w0 : World) (g : (Int) × (List ((Int) × (Int)))) (g_v : Value) (hg_v : Ro w0 g_v g.2) (r : bj) (r_v : Value) (hr_v : Ro w0 r_v r) (hb : (r.length : Int) ≤ 1048576 ∧ ∀ l ∈ r, l.length ≤ 1048576) :
    Calls Try.prog 11 #[vg [vi g.1, g_v], r_v] w0 (fun ee w => ee = .returned (Value.bool (decide ((g.2.length ≤ 300 ∧ (g.1 ≤ 300 ∨ ¬ bx g)) ∧ g.1 ≤ 200 ∧ r.length + r.flatten.length ≤ 1000))) ∧ dH w0.heap.size w0 w) := by
 refine az Try.func11 rfl (Nat.le_of_ble_eq_true rfl) ?_
 have bH := b9.start w0
 have Rg := hg_v.sl
 have Rr := hr_v.sl
 obtain ⟨hb1, hb2⟩ := hb
 refine a9 (a8 rfl (cr rfl (bR c0 (is 1) (1, 0) rfl rfl ?_)))
 intro g4 w1 b3 ch2 bx5
 replace bx5 : Bx g4 (is 1) w1 b3 [vi g.1, g_v] := bx5
 refine ma (Value.bool false) (aa (a9 (a8 rfl (mv r_v ?_))))
 replace Rr := Rr.cn ch2
 have len6 := (Rr).small
 refine lx (aO Try.underlying26 rfl Rr) (ai (r.length : Int) (aa (a9 (a9 (a8 rfl (ai 0 (aa (ah ?_))))))))
 refine aN (σ := Int × Nat × aE) (fun ⟨n, k, gq⟩ f w => b9 w0 gq w ∧ f 1 = r_v ∧ f 2 = vp b3 0 ∧ f 5 = vi n ∧ f 6 = vi (k : Int) ∧ Sl gq (is 0) w g_v g.2 ∧ Sl gq (is 0) w r_v r ∧ Bx gq (is 1) w b3 [vi g.1, g_v] ∧ (k : Int) ≤ ((r.length : Int) : Int) ∧ (n = (r.length : Int) + (((List.take k r).flatten.length : Nat) : Int) ∧ (((List.take k r).flatten.length : Nat) : Int) ≤ 1048576 * (k : Int))) (fun ⟨n, k, gq⟩ => Int.toNat (((r.length : Int) : Int) - (k : Int))) ((r.length : Int), 0, g4) ?_ ?_
 · exact ⟨bH.cn ch2, rfl, rfl, rfl, rfl, Rg.cn ch2, Rr, bx5, by omega, by exact ⟨by simp, by simp⟩⟩
 clear Rg Rr bx5 bH
 rintro ⟨n, k, g9⟩ f7 w8 ⟨bH, zs1, zs2, zs5, zs6, Rg, Rr, bx5, hle_k, hinv⟩ back3
 refine a9 (a9 (a8 rfl (mz zs6 (mz zs1 (lx (aO Try.underlying26 rfl Rr) (lx (bc (m := (k : Int)) (n := (r.length : Int)) rfl rfl) (aa ?_)))))))
 by_cases p3 : (k : Int) < (r.length : Int)
 ·
  refine ae rfl (dt p3) ?_
  have hlk := hb2 _ (bu (xs := r) (i := (k : Int)) (by omega) ‹_›)
  refine aj (a9 (ah (a8 rfl (mz zs5 (mz zs1 (mz zs6 (lx (ab (v := r_v) (i := (k : Int)) Try.underlying26 rfl rfl Rr rfl (by omega) (by omega)) ?_)))))))
  obtain ⟨v10, cel11, r12⟩ := co (r := (k : Int)) Rr (by omega) (by omega)
  refine lx (aS aL rfl cel11) ?_
  have len13 := (r12).small
  refine lx (aO Try.underlying27 rfl r12) (lx (aQ (m := n) (n := (List.length (gI r (k : Int)) : Int)) rfl rfl (by omega)) (ai (n + (List.length (gI r (k : Int)) : Int)) (aa (ao ?_))))
  clear r12
  refine a8 rfl (mz zs6 (lx (aQ (m := (k : Int)) (n := 1) rfl rfl (by omega)) (ai ((k : Int) + 1) (aa ?_))))
  refine back3 (n + (List.length (gI r (k : Int)) : Int), k + 1, g9) _ _ ⟨bH, zs1, zs2, rfl, rfl, Rg, Rr, bx5, by omega, ?_⟩ ?_
  · show (n + (List.length (gI r (k : Int)) : Int)) = (r.length : Int) + (((List.take (k + 1) r).flatten.length : Nat) : Int) ∧ (((List.take (k + 1) r).flatten.length : Nat) : Int) ≤ 1048576 * ((k + 1) : Int)
    rw [eP ‹_›, List.length_append]; constructor <;> omega
  · show Int.toNat (((r.length : Int) : Int) - ((k + 1) : Int)) < Int.toNat (((r.length : Int) : Int) - (k : Int))
    omega
 refine ag rfl (df p3) (aI rfl (a9 (a8 rfl (lx (aq (ds := [vi g.1, g_v]) ak zs2 bx5 rfl rfl) (lo (bO (v := Value.bool (decide (g.2.length ≤ 300 ∧ (g.1 ≤ 300 ∨ ¬ bx g)))) (aD (vals := [vg [vi g.1, g_v]]) Try.func51 vT wi rfl) (ru w8 g g_v (Rg).ro) ?_))))))
 intro w14 hb15
 replace hb15 := aG hb15 g9
 refine mv (Value.bool (decide (g.2.length ≤ 300 ∧ (g.1 ≤ 300 ∨ ¬ bx g)))) ?_
 by_cases q24 : (decide (g.2.length ≤ 300 ∧ (g.1 ≤ 300 ∨ ¬ bx g))) = true
 ·
  refine lv (vp b3 0) (wy q24) (ad Try.underlying24 rfl rfl zs2 rfl) ?_
  replace bx5 := bx5.cn hb15
  refine lv (vi g.1) (wy q24) (af am rfl bx5 rfl) (lv (Value.bool (decide (g.1 ≤ 200))) (wy q24) (m7 (m := g.1) (n := 200) rfl rfl) (lw (Value.bool (decide (g.1 ≤ 200))) (aY rfl q24 rfl) (mv (Value.bool (decide (g.1 ≤ 200))) ?_)))
  by_cases q29 : g.1 ≤ 200
  ·
   refine lv (vi n) (wy (dt q29)) (au zs5) (lv (Value.bool (decide (n ≤ 1000))) (wy (dt q29)) (m7 (m := n) (n := 1000) rfl rfl) (lw (Value.bool (decide (n ≤ 1000))) (aY rfl (dt q29) rfl) (ma (Value.bool (decide (n ≤ 1000))) (aa (av (vs := [Value.bool (decide (n ≤ 1000))]) Try.func11 (.tmp rfl .nil) ?_)))))
   have e0 : (decide (n ≤ 1000) : Bool) = (decide ((g.2.length ≤ 300 ∧ (g.1 ≤ 300 ∨ ¬ bx g)) ∧ g.1 ≤ 200 ∧ r.length + r.flatten.length ≤ 1000)) := by
     (try rw [List.take_of_length_le (by omega)] at hinv)
     (try simp only [cD] at *)
     obtain ⟨hi1, hi2⟩ := hinv
     by_cases h : bx g <;> simp_all <;> omega
   replace bH := bH.cn hb15
   exact ⟨(congrArg (a₁ := decide (n ≤ 1000)) (fun (z0 : Bool) => Ending.returned (Value.bool z0)) e0), bH.below⟩
  refine al (wn (df q29)) (al (wn (df q29)) (lw (Value.bool false) (b7 rfl (df q29) rfl) (ma (Value.bool false) (aa (av (vs := [Value.bool false]) Try.func11 (.tmp rfl .nil) ?_)))))
  have e0 : (false : Bool) = (decide ((g.2.length ≤ 300 ∧ (g.1 ≤ 300 ∨ ¬ bx g)) ∧ g.1 ≤ 200 ∧ r.length + r.flatten.length ≤ 1000)) := by
    (try rw [List.take_of_length_le (by omega)] at hinv)
    (try simp only [cD] at *)
    obtain ⟨hi1, hi2⟩ := hinv
    by_cases h : bx g <;> simp_all <;> omega
  replace bH := bH.cn hb15
  exact ⟨(congrArg (a₁ := false) (fun (z0 : Bool) => Ending.returned (Value.bool z0)) e0), bH.below⟩
 refine al (wn (Bool.eq_false_iff.2 q24)) (al (wn (Bool.eq_false_iff.2 q24)) (al (wn (Bool.eq_false_iff.2 q24)) (lw (Value.bool false) (b7 rfl (Bool.eq_false_iff.2 q24) rfl) (mv (Value.bool false) (al (wn rfl) (al (wn rfl) (lw (Value.bool false) (b7 rfl rfl rfl) (ma (Value.bool false) (aa (av (vs := [Value.bool false]) Try.func11 (.tmp rfl .nil) ?_))))))))))
 have e0 : (false : Bool) = (decide ((g.2.length ≤ 300 ∧ (g.1 ≤ 300 ∨ ¬ bx g)) ∧ g.1 ≤ 200 ∧ r.length + r.flatten.length ≤ 1000)) := by
   (try rw [List.take_of_length_le (by omega)] at hinv)
   (try simp only [cD] at *)
   obtain ⟨hi1, hi2⟩ := hinv
   by_cases h : bx g <;> simp_all <;> omega
 replace bH := bH.cn hb15
 exact ⟨(congrArg (a₁ := false) (fun (z0 : Bool) => Ending.returned (Value.bool z0)) e0), bH.below⟩
end TL
