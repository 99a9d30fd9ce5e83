import Derived.Test.YtilohhkbelkmdaaTlP3
import Derived.Test.YtilohhkbelkmdaaTlGdA
import Derived.Test.YtilohhkbelkmdaaTlGenO
import Derived.Test.YtilohhkbelkmdaaProg
set_option linter.all false
set_option maxRecDepth 20000
namespace TL
open Go Go.Proofs
theorem ny : Try.prog.follows .mixedOrders = true := by kernel_rfl
set_option maxHeartbeats 1000000 in
theorem uu (w0 : World) (g : (Int) × (List ((Int) × (Int)))) (g_v : Value) (hg_v : Ro w0 g_v g.2) (of : List Int) (of_v : Value) (hof_v : Ro w0 of_v of) (faces : Int) (to : List Int) (to_v : Value) (hto_v : Ro w0 to_v to) (hmay : bx g) (hof : hT of faces g.2.length) (hfa : 0 ≤ faces ∧ faces ≤ 100000) (hto : ∀ x ∈ to, 0 ≤ x ∧ x < faces) (htl : to.length ≤ 100000) :
    Calls Try.prog 68 #[vg [vi g.1, g_v], of_v, vi faces, to_v] w0 (fun ee w => ∃ xx : aE × Value, ee = .returned ((fun ⟨δ, rv0⟩ => rv0) xx) ∧ (fun (⟨δ, rv0⟩ : aE × Value) (w : World) => cC w0 δ w ∧ Ow δ (is 1) (is 1) w rv0 (bT g.2.length of faces to)) xx w) := by
 refine az Try.func68 rfl (Nat.le_of_ble_eq_true rfl) ?_
 have bH := b9.start w0
 have Rg := hg_v.sl
 have Rof := hof_v.sl
 have Rto := hto_v.sl
 have hm0 := hmay
 obtain ⟨hm1, hm2, hm3, hm4⟩ := hm0
 obtain ⟨hf1, hf2⟩ := hfa
 have hol := hof.1
 have hrep : ((List.replicate faces.toNat (0 : Int)).length : Int) = faces := by simp; omega
 refine a9 (a8 rfl (cr rfl (bR c0 (is 1) (1, 0) rfl rfl ?_)))
 intro g4 w1 b3 ch2 bx5
 replace bx5 : Bx g4 (is 1) w1 b3 [vi g.1, g_v] := bx5
 refine ma vn (aa (a9 (a8 rfl (mi faces (lo (dE (α := Int) (l := faces) (cp := faces) g4 (is 2) (is 2) (2, 0) rfl (0 : Int) Try.underlying27 am rfl rfl rfl (by omega) (by omega) (by omega) (by omega) ?_))))))
 intro g6 w7 v8 ch9 o10 _
 refine ma v8 (aa (a9 (a9 (a8 rfl (mv v8 ?_)))))
 have len11 := (o10.flat).small
 refine lx (aO Try.underlying27 rfl o10.flat) (mi 0 (aa (ah ?_)))
 refine aN (σ := Nat × (List Int) × aE) (fun ⟨k, far, gq⟩ f w => b9 w0 gq w ∧ f 1 = of_v ∧ f 2 = vi faces ∧ f 3 = to_v ∧ f 4 = vp b3 0 ∧ f 9 = v8 ∧ f 24 = vi (List.length (List.replicate (Int.toNat faces) (0 : Int)) : Int) ∧ f 25 = vi (k : Int) ∧ Sl gq (is 0) w g_v g.2 ∧ Sl gq (is 0) w of_v of ∧ Sl gq (is 0) w to_v to ∧ Bx gq (is 1) w b3 [vi g.1, g_v] ∧ Ow gq (is 2) (is 2) w v8 far ∧ (k : Int) ≤ ((List.length (List.replicate (Int.toNat faces) (0 : Int)) : Int) : Int) ∧ (far = List.replicate k (-1) ++ List.replicate (faces.toNat - k) 0 ∧ (k : Int) ≤ faces)) (fun ⟨k, far, gq⟩ => Int.toNat (((List.length (List.replicate (Int.toNat faces) (0 : Int)) : Int) : Int) - (k : Int))) (0, (List.replicate (Int.toNat faces) (0 : Int)), g6) ?_ ?_
 replace bH := bH.cn ch2
 · exact ⟨bH.cn ch9, rfl, rfl, rfl, rfl, rfl, rfl, rfl, (Rg.cn ch2).cn ch9, (Rof.cn ch2).cn ch9, (Rto.cn ch2).cn ch9, bx5.cn ch9, o10, by omega, by exact ⟨by simp, by omega⟩⟩
 clear Rg Rof Rto bx5 o10 bH
 rintro ⟨k, far, g14⟩ f12 w13 ⟨bH, zs1, zs2, zs3, zs4, zs9, zs24, zs25, Rg, Rof, Rto, bx5, o10, hle_k, hinv0⟩ back3
 have hfl : far.length = faces.toNat := by rw [hinv0.1]; simp; omega
 refine a9 (a8 rfl (lx (bc (m := (k : Int)) (n := (List.length (List.replicate (Int.toNat faces) (0 : Int)) : Int)) zs25 zs24) (aa (a9 ?_))))
 by_cases p3 : (k : Int) < (List.length (List.replicate (Int.toNat faces) (0 : Int)) : Int)
 ·
  refine ae rfl (dt p3) (aj (a9 (ah (a9 (a8 rfl (mz zs25 (ai (k : Int) (aa (a8 rfl (mz zs9 (mi (k : Int) ?_)))))))))))
  refine lx (ab (v := v8) (i := (k : Int)) Try.underlying27 rfl rfl o10.flat rfl (by omega) (by omega)) (lo (bP (i := (k : Int)) (-1) am rfl rfl o10 (by omega) (by omega) rfl ?_))
  intro w15 ch16 bx17
  clear o10
  refine aa (ao (a8 rfl (lx (aQ (m := (k : Int)) (n := 1) zs25 rfl (by omega)) (mi ((k : Int) + 1) (aa ?_)))))
  refine back3 (k + 1, (List.set far (Int.toNat (k : Int)) (-1)), g14) _ _ ⟨bH.ce ch16, zs1, zs2, zs3, zs4, zs9, zs24, rfl, Rg.ce ch16, Rof.ce ch16, Rto.ce ch16, bx5.ce ch16, bx17, by omega, ?_⟩ ?_
  · show (List.set far (Int.toNat (k : Int)) (-1)) = List.replicate (k + 1) (-1) ++ List.replicate (faces.toNat - (k + 1)) 0 ∧ ((k + 1) : Int) ≤ faces
    exact ⟨by rw [hinv0.1]; exact iG (by omega), by omega⟩
  · show Int.toNat (((List.length (List.replicate (Int.toNat faces) (0 : Int)) : Int) : Int) - ((k + 1) : Int)) < Int.toNat (((List.length (List.replicate (Int.toNat faces) (0 : Int)) : Int) : Int) - (k : Int))
    omega
 refine ag rfl (df p3) (aI rfl (a9 (a8 rfl (mz zs3 (lo (aR (α := Int) (xs := ([])) (ys := to) g14 (J := is 3) (S := is 3) (3, 0) rfl Try.underlying27 am (by decide) rfl rfl rfl Ow.nil Rto (by decide) (by (simp; omega)) ?_))))))
 intro g18 w19 v20 ch21 o22
 replace o22 : Ow g18 (is 3) (is 3) w19 v20 (to : List Int) := o22
 refine ma v20 (aa (a9 (a9 (a8 rfl (mz zs3 ?_)))))
 replace Rto := Rto.ce ch21
 have len23 := (Rto).small
 refine lx (aO Try.underlying27 rfl Rto) (mi 0 (aa (ah ?_)))
 refine aN (σ := Nat × (List Int) × aE) (fun ⟨j, far1, gq⟩ f w => b9 w0 gq w ∧ f 1 = of_v ∧ f 2 = vi faces ∧ f 4 = vp b3 0 ∧ f 9 = v8 ∧ f 11 = v20 ∧ f 34 = to_v ∧ f 35 = vi (to.length : Int) ∧ f 36 = vi (j : Int) ∧ Sl gq (is 0) w g_v g.2 ∧ Sl gq (is 0) w of_v of ∧ Sl gq (is 0) w to_v to ∧ Bx gq (is 1) w b3 [vi g.1, g_v] ∧ Ow gq (is 2) (is 2) w v8 far1 ∧ Ow gq (is 3) (is 3) w v20 to ∧ (j : Int) ≤ ((to.length : Int) : Int) ∧ (far1 = (List.take j to).foldl (fun l_ f_ => l_.set f_.toNat 0) (List.replicate faces.toNat (-1)))) (fun ⟨j, far1, gq⟩ => Int.toNat (((to.length : Int) : Int) - (j : Int))) (0, far, g18) ?_ ?_
 · exact ⟨bH.ce ch21, zs1, zs2, zs4, zs9, rfl, rfl, rfl, rfl, Rg.ce ch21, Rof.ce ch21, Rto, bx5.ce ch21, o10.ce ch21, o22, by omega, by (have hk : k = faces.toNat := (by omega); rw [hinv0.1, hk]; simp)⟩
 clear Rg Rof Rto bx5 o10 o22 bH
 rintro ⟨j, far1, g26⟩ f24 w25 ⟨bH, zs1, zs2, zs4, zs9, zs11, zs34, zs35, zs36, Rg, Rof, Rto, bx5, o10, o22, hle_j, hinv1⟩ back9
 have hfl1 : far1.length = faces.toNat := by rw [hinv1, dg]; simp
 refine a9 (a8 rfl (lx (bc (m := (j : Int)) (n := (to.length : Int)) zs36 zs35) (aa (a9 ?_))))
 by_cases p9 : (j : Int) < (to.length : Int)
 ·
  refine ae rfl (dt p9) ?_
  obtain ⟨ht1, ht2⟩ := hto _ (bu (xs := to) (i := (j : Int)) (by omega) (by omega))
  refine aj (a9 (ah (a9 (a8 rfl (lx (ab (v := to_v) (i := (j : Int)) Try.underlying27 rfl zs34 Rto zs36 (by omega) (by omega)) (lx (ay (v := to_v) (i := (j : Int)) am rfl Rto (by omega) (by omega) (by decide) rfl) (ai (gI to (j : Int)) (aa (a8 rfl (mz zs9 (mi (gI to (j : Int)) ?_)))))))))))
  refine lx (ab (v := v8) (i := (gI to (j : Int))) Try.underlying27 rfl rfl o10.flat rfl (by omega) (by omega)) (lo (bP (i := (gI to (j : Int))) 0 am rfl rfl o10 (by omega) (by omega) rfl ?_))
  intro w27 ch28 bx29
  clear o10
  refine aa (ao (a8 rfl (lx (aQ (m := (j : Int)) (n := 1) zs36 rfl (by omega)) (mi ((j : Int) + 1) (aa ?_)))))
  refine back9 (j + 1, (List.set far1 (Int.toNat (gI to (j : Int))) 0), g26) _ _ ⟨bH.ce ch28, zs1, zs2, zs4, zs9, zs11, zs34, zs35, rfl, Rg.ce ch28, Rof.ce ch28, Rto.ce ch28, bx5.ce ch28, bx29, o22.ce ch28, by omega, ?_⟩ ?_
  · show (List.set far1 (Int.toNat (gI to (j : Int))) 0) = (List.take (j + 1) to).foldl (fun l_ f_ => l_.set f_.toNat 0) (List.replicate faces.toNat (-1))
    rw [gm ‹_›, ← hinv1]
  · show Int.toNat (((to.length : Int) : Int) - ((j + 1) : Int)) < Int.toNat (((to.length : Int) : Int) - (j : Int))
    omega
 refine ag rfl (df p9) (aI rfl (a9 (a8 rfl (mz zs2 (lo (dB (α := Int) (n := faces) (cp := faces) g26 4 Try.underlying25 aL rfl rfl rfl (by omega) (by omega) (by omega) (by omega) ?_))))))
 intro g30 w31 v32 ch33 o34
 refine ma v32 (aa (a9 (a9 (a8 rfl (lx (ad Try.underlying24 rfl rfl zs4 rfl) ?_)))))
 replace bx5 := bx5.cn ch33
 refine lx (af bo rfl bx5 rfl) ?_
 replace Rg := Rg.cn ch33
 have len35 := (Rg).small
 refine lx (aO Try.underlying22 rfl Rg) (mi 0 (aa (ah ?_)))
 clear bx5
 refine aN (σ := Nat × bj × aE) (fun ⟨e, O, gq⟩ f w => b9 w0 gq w ∧ f 1 = of_v ∧ f 9 = v8 ∧ f 11 = v20 ∧ f 14 = v32 ∧ f 48 = vi (g.2.length : Int) ∧ f 49 = vi (e : Int) ∧ Sl gq (is 0) w g_v g.2 ∧ Sl gq (is 0) w of_v of ∧ Sl gq (is 0) w to_v to ∧ Ow gq (is 2) (is 2) w v8 far1 ∧ Ow gq (is 3) (is 3) w v20 to ∧ cj gq 4 w v32 O ∧ (e : Int) ≤ ((g.2.length : Int) : Int) ∧ (O = eE of faces e)) (fun ⟨e, O, gq⟩ => Int.toNat (((g.2.length : Int) : Int) - (e : Int))) (0, (List.replicate (Int.toNat faces) []), g30) ?_ ?_
 · exact ⟨bH.cn ch33, zs1, zs9, zs11, rfl, rfl, rfl, Rg, Rof.cn ch33, Rto.cn ch33, o10.cn ch33, o22.cn ch33, o34, by omega, by rfl⟩
 clear Rg Rof Rto o10 o22 o34 bH
 rintro ⟨e, O, g38⟩ f36 w37 ⟨bH, zs1, zs9, zs11, zs14, zs48, zs49, Rg, Rof, Rto, o10, o22, o34, hle_e, hadj⟩ back15
 have hOl : (O.length : Int) = faces := by rw [hadj, ju]; omega
 refine a9 (a8 rfl (lx (bc (m := (e : Int)) (n := (g.2.length : Int)) zs49 zs48) (aa (a9 ?_))))
 by_cases p15 : (e : Int) < (g.2.length : Int)
 ·
  refine ae rfl (dt p15) ?_
  obtain ⟨⟨he1, he2⟩, he3, he4⟩ := hof.ends (e := e) (by omega)
  have hr1 := mN hof (k := e) (by omega) he1 he2
  have hr2 := rr hof (k := e) (by omega)
  rw [← hadj] at hr1 hr2
  refine aj (a9 (ah (a9 (a8 rfl (mz zs49 (ai (e : Int) (aa (a9 (a8 rfl (mz zs1 (mi (e : Int) (lo ?_))))))))))))
  refine bO (v := vg [vi ((aB of (e : Int)).1), vi ((aB of (e : Int)).2)]) (aD (vals := [of_v, vi (e : Int)]) Try.func67 kC kM rfl) (kO w37 of of_v (Rof).ro (e : Int) (by omega) (by omega)) ?_
  intro w39 hb40
  replace hb40 := aG hb40 g38
  refine lo (bw g38 (is 5) (5, 0) rfl bD ?_)
  intro g44 w41 b43 ch42 bx45
  replace bx45 : Bx g44 (is 5) w41 b43 [vi 0, vi 0] := bx45
  refine lo (aC (cs' := [vi ((aB of (e : Int)).1), vi ((aB of (e : Int)).2)]) bD rfl rfl bx45 rfl (Nat.le_of_ble_eq_true rfl) (AllOne.all (.cons rfl (.cons rfl .nil))) rfl ?_)
  intro w46 ch47 bx48
  clear bx45
  refine aa (a9 ?_)
  refine dS (σ := aE) (fun gq f w => b9 w0 gq w ∧ f 1 = of_v ∧ f 9 = v8 ∧ f 11 = v20 ∧ f 14 = v32 ∧ f 16 = vp b43 0 ∧ f 48 = vi (g.2.length : Int) ∧ f 49 = vi (e : Int) ∧ Sl gq (is 0) w g_v g.2 ∧ Sl gq (is 0) w of_v of ∧ Sl gq (is 0) w to_v to ∧ Ow gq (is 2) (is 2) w v8 far1 ∧ Ow gq (is 3) (is 3) w v20 to ∧ Bx gq (is 5) w b43 [vi ((aB of (e : Int)).1), vi ((aB of (e : Int)).2)] ∧ cj gq 4 w v32 (List.set O (Int.toNat ((aB of (e : Int)).1)) (gI O ((aB of (e : Int)).1) ++ ([(aB of (e : Int)).2] : List Int)))) g44 (bW [4]) ny ?_ ?_
  ·
   intro mid
   intro w50 ch49
   refine ht (v := v32) 0 rfl (bq.refl _ _ _) (fun w' hw' => au zs14) (ht 1 rfl (bq.refl _ _ _) (fun w' hw' => bL Try.underlying60 rfl rfl rfl (by decide) (by decide) rfl) ?_)
   replace bx48 := bx48.cn ch49
   refine ht 2 rfl (bq.refl _ _ _) (fun w' hw' => af am rfl (bx48.chg hw' (bQ rfl)) rfl) (ht (v := v32) 3 rfl (bq.refl _ _ _) (fun w' hw' => au zs14) (ht 4 rfl (bq.refl _ _ _) (fun w' hw' => bL Try.underlying60 rfl rfl rfl (by decide) (by decide) rfl) (ht 5 rfl (bq.refl _ _ _) (fun w' hw' => af am rfl (bx48.chg hw' (bQ rfl)) rfl) (ht 8 rfl (bq.refl _ _ _) (fun w' hw' => bL Try.underlying60 rfl rfl rfl (by decide) (by decide) rfl) (ht 9 rfl (bq.refl _ _ _) (fun w' hw' => af am rfl (bx48.chg hw' (bQ rfl)) rfl) ?_)))))
   refine d8 6 [10] (by kernel_rfl) ⟨da 6 rfl (by kernel_rfl) rfl ?_, da 10 rfl (by kernel_rfl) rfl ?_, trivial⟩
   ·
    have C51 := cg [5] (hb40.n.seq (ch42.n.seq ((ch47.l rfl).seq ch49.n)))
    replace o34 := o34.ca C51
    refine aJ (v := Value.pointer (some (ba v32 1 (Int.toNat ((aB of (e : Int)).1))))) (ab (α := List Int) (xs := O) (v := v32) (i := (aB of (e : Int)).1) Try.underlying25 rfl rfl o34.sl rfl (by omega) (by omega)) ?_
    refine ⟨(bq.refl _ _ _), ?_⟩
    refine d8 7 [10] (by kernel_rfl) ⟨da 7 rfl (by kernel_rfl) rfl ?_, da 10 rfl (by kernel_rfl) rfl ?_, trivial⟩
    ·
     obtain ⟨v52, cel53, r54⟩ := bY (r := (aB of (e : Int)).1) o34 (by omega) (by omega)
     refine aJ (v := v52) (aS aL rfl cel53) ?_
     refine ⟨(bq.refl _ _ _), ?_⟩
     refine aW 10 rfl (by kernel_rfl) rfl (aA (α := Int) g44 (is 6) (is 6) (6, 0) rfl ([(aB of (e : Int)).2] : List Int) Try.underlying27 am (by decide) (by decide) (vs := [(0, vi ((aB of (e : Int)).2))]) rfl rfl (.cons rfl .nil) ?_)
     intro g55 w56 v57 ch58 o59
     have hs60 : bq (bW [4]) _ _ _ _ := ch58.n
     refine ⟨hs60.same, ?_⟩
     refine aW 11 rfl (by kernel_rfl) rfl ?_
     replace o34 := o34.cn ch58
     replace r54 := r54.cn ch58
     refine aR (α := Int) (xs := (gI O ((aB of (e : Int)).1))) (ys := ([(aB of (e : Int)).2] : List Int)) g55 (J := row 4 (Int.toNat ((aB of (e : Int)).1) + 1)) (S := row 4 (Int.toNat ((aB of (e : Int)).1) + 1)) (4, Int.toNat ((aB of (e : Int)).1) + 1) rfl Try.underlying27 am (by decide) rfl rfl rfl r54 o59.flat (by decide) (by (simp; omega)) ?_
     intro g61 w62 v63 ch64 o65
     have o66 := o34.rowchg ch64
     clear o34 cel53 r54
     have hs67 := hs60.seq (ch64.lr rfl)
     refine ⟨hs67.same, ?_⟩
     refine aW 12 rfl (by kernel_rfl) rfl ?_
     obtain ⟨us68, hl69, r70⟩ := o66.vc
     try simp only [List.length_set, List.length_append, List.length_cons, List.length_nil] at hl69
     refine aJ (v := Value.pointer (some (ba v32 1 (Int.toNat ((aB of (e : Int)).1))))) (ab (α := Vc) (xs := us68) (v := v32) (i := (aB of (e : Int)).1) Try.underlying25 rfl rfl r70 rfl (by omega) (by omega)) ?_
     refine ⟨hs67.same, ?_⟩
     refine aW 13 rfl (by kernel_rfl) rfl (bI (r := (aB of (e : Int)).1) aL rfl rfl o66 o65 (by omega) (by omega) ?_)
     intro w74 ch75 o76
     clear o66 o65
     have hs77 := hs67.seq (ch75.l rfl)
     refine ⟨hs77.same, ?_⟩
     refine cA (by kernel_rfl) ?_
     have C78 := cg [4, 5] (hb40.n.seq (ch42.n.seq ((ch47.l rfl).seq (ch49.n.seq (ch58.n.seq ((ch64.lr rfl).seq (ch75.l rfl)))))))
     replace Rg := Rg.ca C51
     replace Rof := Rof.ca C51
     replace Rto := Rto.ca C51
     replace o10 := o10.ca C51
     replace o22 := o22.ca C51
     exact mid (g61) _ _ ⟨bH.ca C78, zs1, zs9, zs11, zs14, rfl, zs48, zs49, (Rg.ca hs77), (Rof.ca hs77), (Rto.ca hs77), (o10.ca hs77), (o22.ca hs77), (bx48.ca hs77), o76⟩
    ·
     refine aA (α := Int) g44 (is 6) (is 6) (6, 0) rfl ([(aB of (e : Int)).2] : List Int) Try.underlying27 am (by decide) (by decide) (vs := [(0, vi ((aB of (e : Int)).2))]) rfl rfl (.cons rfl .nil) ?_
     intro g79 w80 v81 ch82 o83
     have hs84 : bq (bW [4]) _ _ _ _ := ch82.n
     refine ⟨hs84.same, ?_⟩
     refine aW 7 rfl (by kernel_rfl) rfl ?_
     replace o34 := o34.cn ch82
     obtain ⟨v85, cel86, r87⟩ := bY (r := (aB of (e : Int)).1) o34 (by omega) (by omega)
     refine aJ (v := v85) (aS aL rfl cel86) ?_
     refine ⟨hs84.same, ?_⟩
     refine aW 11 rfl (by kernel_rfl) rfl (aR (α := Int) (xs := (gI O ((aB of (e : Int)).1))) (ys := ([(aB of (e : Int)).2] : List Int)) g79 (J := row 4 (Int.toNat ((aB of (e : Int)).1) + 1)) (S := row 4 (Int.toNat ((aB of (e : Int)).1) + 1)) (4, Int.toNat ((aB of (e : Int)).1) + 1) rfl Try.underlying27 am (by decide) rfl rfl rfl r87 o83.flat (by decide) (by (simp; omega)) ?_)
     intro g88 w89 v90 ch91 o92
     have o93 := o34.rowchg ch91
     clear o34 cel86 r87
     have hs94 := hs84.seq (ch91.lr rfl)
     refine ⟨hs94.same, ?_⟩
     refine aW 12 rfl (by kernel_rfl) rfl ?_
     obtain ⟨us95, hl96, r97⟩ := o93.vc
     try simp only [List.length_set, List.length_append, List.length_cons, List.length_nil] at hl96
     refine aJ (v := Value.pointer (some (ba v32 1 (Int.toNat ((aB of (e : Int)).1))))) (ab (α := Vc) (xs := us95) (v := v32) (i := (aB of (e : Int)).1) Try.underlying25 rfl rfl r97 rfl (by omega) (by omega)) ?_
     refine ⟨hs94.same, ?_⟩
     refine aW 13 rfl (by kernel_rfl) rfl (bI (r := (aB of (e : Int)).1) aL rfl rfl o93 o92 (by omega) (by omega) ?_)
     intro w101 ch102 o103
     clear o93 o92
     have hs104 := hs94.seq (ch102.l rfl)
     refine ⟨hs104.same, ?_⟩
     refine cA (by kernel_rfl) ?_
     have C105 := cg [4, 5] (hb40.n.seq (ch42.n.seq ((ch47.l rfl).seq (ch49.n.seq (ch82.n.seq ((ch91.lr rfl).seq (ch102.l rfl)))))))
     replace Rg := Rg.ca C51
     replace Rof := Rof.ca C51
     replace Rto := Rto.ca C51
     replace o10 := o10.ca C51
     replace o22 := o22.ca C51
     exact mid (g88) _ _ ⟨bH.ca C105, zs1, zs9, zs11, zs14, rfl, zs48, zs49, (Rg.ca hs104), (Rof.ca hs104), (Rto.ca hs104), (o10.ca hs104), (o22.ca hs104), (bx48.ca hs104), o103⟩
   ·
    refine aA (α := Int) g44 (is 6) (is 6) (6, 0) rfl ([(aB of (e : Int)).2] : List Int) Try.underlying27 am (by decide) (by decide) (vs := [(0, vi ((aB of (e : Int)).2))]) rfl rfl (.cons rfl .nil) ?_
    intro g106 w107 v108 ch109 o110
    have hs111 : bq (bW [4]) _ _ _ _ := ch109.n
    refine ⟨hs111.same, ?_⟩
    refine aW 6 rfl (by kernel_rfl) rfl ?_
    have C112 := cg [5] (hb40.n.seq (ch42.n.seq ((ch47.l rfl).seq (ch49.n.seq ch109.n))))
    replace o34 := o34.ca C112
    refine aJ (v := Value.pointer (some (ba v32 1 (Int.toNat ((aB of (e : Int)).1))))) (ab (α := List Int) (xs := O) (v := v32) (i := (aB of (e : Int)).1) Try.underlying25 rfl rfl o34.sl rfl (by omega) (by omega)) ?_
    refine ⟨hs111.same, ?_⟩
    refine aW 7 rfl (by kernel_rfl) rfl ?_
    obtain ⟨v113, cel114, r115⟩ := bY (r := (aB of (e : Int)).1) o34 (by omega) (by omega)
    refine aJ (v := v113) (aS aL rfl cel114) ?_
    refine ⟨hs111.same, ?_⟩
    refine aW 11 rfl (by kernel_rfl) rfl (aR (α := Int) (xs := (gI O ((aB of (e : Int)).1))) (ys := ([(aB of (e : Int)).2] : List Int)) g106 (J := row 4 (Int.toNat ((aB of (e : Int)).1) + 1)) (S := row 4 (Int.toNat ((aB of (e : Int)).1) + 1)) (4, Int.toNat ((aB of (e : Int)).1) + 1) rfl Try.underlying27 am (by decide) rfl rfl rfl r115 o110.flat (by decide) (by (simp; omega)) ?_)
    intro g116 w117 v118 ch119 o120
    have o121 := o34.rowchg ch119
    clear o34 cel114 r115
    have hs122 := hs111.seq (ch119.lr rfl)
    refine ⟨hs122.same, ?_⟩
    refine aW 12 rfl (by kernel_rfl) rfl ?_
    obtain ⟨us123, hl124, r125⟩ := o121.vc
    try simp only [List.length_set, List.length_append, List.length_cons, List.length_nil] at hl124
    refine aJ (v := Value.pointer (some (ba v32 1 (Int.toNat ((aB of (e : Int)).1))))) (ab (α := Vc) (xs := us123) (v := v32) (i := (aB of (e : Int)).1) Try.underlying25 rfl rfl r125 rfl (by omega) (by omega)) ?_
    refine ⟨hs122.same, ?_⟩
    refine aW 13 rfl (by kernel_rfl) rfl (bI (r := (aB of (e : Int)).1) aL rfl rfl o121 o120 (by omega) (by omega) ?_)
    intro w129 ch130 o131
    clear o121 o120
    have hs132 := hs122.seq (ch130.l rfl)
    refine ⟨hs132.same, ?_⟩
    refine cA (by kernel_rfl) ?_
    have C133 := cg [4, 5] (hb40.n.seq (ch42.n.seq ((ch47.l rfl).seq (ch49.n.seq (ch109.n.seq ((ch119.lr rfl).seq (ch130.l rfl)))))))
    have C134 := cg [5] (hb40.n.seq (ch42.n.seq ((ch47.l rfl).seq ch49.n)))
    replace Rg := Rg.ca C134
    replace Rof := Rof.ca C134
    replace Rto := Rto.ca C134
    replace o10 := o10.ca C134
    replace o22 := o22.ca C134
    exact mid (g116) _ _ ⟨bH.ca C133, zs1, zs9, zs11, zs14, rfl, zs48, zs49, (Rg.ca hs132), (Rof.ca hs132), (Rto.ca hs132), (o10.ca hs132), (o22.ca hs132), (bx48.ca hs132), o131⟩
  clear Rg Rof Rto o10 o22 o34 bx48 bH
  rintro g137 f135 w136 ⟨bH, zs1, zs9, zs11, zs14, zs16, zs48, zs49, Rg, Rof, Rto, o10, o22, bx48, o76⟩
  refine dS (σ := aE) (fun gq f w => b9 w0 gq w ∧ f 1 = of_v ∧ f 9 = v8 ∧ f 11 = v20 ∧ f 14 = v32 ∧ f 48 = vi (g.2.length : Int) ∧ f 49 = vi (e : Int) ∧ Sl gq (is 0) w g_v g.2 ∧ Sl gq (is 0) w of_v of ∧ Sl gq (is 0) w to_v to ∧ Ow gq (is 2) (is 2) w v8 far1 ∧ Ow gq (is 3) (is 3) w v20 to ∧ cj gq 4 w v32 (List.set (List.set O (Int.toNat ((aB of (e : Int)).1)) (gI O ((aB of (e : Int)).1) ++ ([(aB of (e : Int)).2] : List Int))) (Int.toNat ((aB of (e : Int)).2)) (gI (List.set O (Int.toNat ((aB of (e : Int)).1)) (gI O ((aB of (e : Int)).1) ++ ([(aB of (e : Int)).2] : List Int))) ((aB of (e : Int)).2) ++ ([(aB of (e : Int)).1] : List Int)))) g137 (bW [4]) ny ?_ ?_
  ·
   intro mid
   intro w139 ch138
   refine ht (v := v32) 0 rfl (bq.refl _ _ _) (fun w' hw' => au zs14) (ht 1 rfl (bq.refl _ _ _) (fun w' hw' => bL Try.underlying60 rfl zs16 rfl (by decide) (by decide) rfl) ?_)
   replace bx48 := bx48.cn ch138
   refine ht 2 rfl (bq.refl _ _ _) (fun w' hw' => af am rfl (bx48.chg hw' (bQ rfl)) rfl) (ht (v := v32) 3 rfl (bq.refl _ _ _) (fun w' hw' => au zs14) (ht 4 rfl (bq.refl _ _ _) (fun w' hw' => bL Try.underlying60 rfl zs16 rfl (by decide) (by decide) rfl) (ht 5 rfl (bq.refl _ _ _) (fun w' hw' => af am rfl (bx48.chg hw' (bQ rfl)) rfl) (ht 8 rfl (bq.refl _ _ _) (fun w' hw' => bL Try.underlying60 rfl zs16 rfl (by decide) (by decide) rfl) (ht 9 rfl (bq.refl _ _ _) (fun w' hw' => af am rfl (bx48.chg hw' (bQ rfl)) rfl) ?_)))))
   refine d8 6 [10] (by kernel_rfl) ⟨da 6 rfl (by kernel_rfl) rfl ?_, da 10 rfl (by kernel_rfl) rfl ?_, trivial⟩
   ·
    replace o76 := o76.cn ch138
    refine aJ (v := Value.pointer (some (ba v32 1 (Int.toNat ((aB of (e : Int)).2))))) (ab (α := List Int) (xs := (List.set O (Int.toNat ((aB of (e : Int)).1)) (gI O ((aB of (e : Int)).1) ++ ([(aB of (e : Int)).2] : List Int)))) (v := v32) (i := (aB of (e : Int)).2) Try.underlying25 rfl rfl o76.sl rfl (by omega) (by (simp only [List.length_set, List.length_append, List.length_cons, List.length_nil, List.length_replicate, List.length_map, List.length_take, List.length_drop]; omega))) ?_
    refine ⟨(bq.refl _ _ _), ?_⟩
    refine d8 7 [10] (by kernel_rfl) ⟨da 7 rfl (by kernel_rfl) rfl ?_, da 10 rfl (by kernel_rfl) rfl ?_, trivial⟩
    ·
     obtain ⟨v140, cel141, r142⟩ := bY (r := (aB of (e : Int)).2) o76 (by omega) (by (simp only [List.length_set, List.length_append, List.length_cons, List.length_nil, List.length_replicate, List.length_map, List.length_take, List.length_drop]; omega))
     refine aJ (v := v140) (aS aL rfl cel141) ?_
     refine ⟨(bq.refl _ _ _), ?_⟩
     refine aW 10 rfl (by kernel_rfl) rfl (aA (α := Int) g137 (is 7) (is 7) (7, 0) rfl ([(aB of (e : Int)).1] : List Int) Try.underlying27 am (by decide) (by decide) (vs := [(0, vi ((aB of (e : Int)).1))]) rfl rfl (.cons rfl .nil) ?_)
     intro g143 w144 v145 ch146 o147
     have hs148 : bq (bW [4]) _ _ _ _ := ch146.n
     refine ⟨hs148.same, ?_⟩
     refine aW 11 rfl (by kernel_rfl) rfl ?_
     replace o76 := o76.cn ch146
     replace r142 := r142.cn ch146
     refine aR (α := Int) (xs := (gI (List.set O (Int.toNat ((aB of (e : Int)).1)) (gI O ((aB of (e : Int)).1) ++ ([(aB of (e : Int)).2] : List Int))) ((aB of (e : Int)).2))) (ys := ([(aB of (e : Int)).1] : List Int)) g143 (J := row 4 (Int.toNat ((aB of (e : Int)).2) + 1)) (S := row 4 (Int.toNat ((aB of (e : Int)).2) + 1)) (4, Int.toNat ((aB of (e : Int)).2) + 1) rfl Try.underlying27 am (by decide) rfl rfl rfl r142 o147.flat (by decide) (by (simp; omega)) ?_
     intro g149 w150 v151 ch152 o153
     have o154 := o76.rowchg ch152
     clear o76 cel141 r142
     have hs155 := hs148.seq (ch152.lr rfl)
     refine ⟨hs155.same, ?_⟩
     refine aW 12 rfl (by kernel_rfl) rfl ?_
     obtain ⟨us156, hl157, r158⟩ := o154.vc
     try simp only [List.length_set, List.length_append, List.length_cons, List.length_nil] at hl157
     refine aJ (v := Value.pointer (some (ba v32 1 (Int.toNat ((aB of (e : Int)).2))))) (ab (α := Vc) (xs := us156) (v := v32) (i := (aB of (e : Int)).2) Try.underlying25 rfl rfl r158 rfl (by omega) (by omega)) ?_
     refine ⟨hs155.same, ?_⟩
     refine aW 13 rfl (by kernel_rfl) rfl (bI (r := (aB of (e : Int)).2) aL rfl rfl o154 o153 (by omega) (by (simp only [List.length_set, List.length_append, List.length_cons, List.length_nil, List.length_replicate, List.length_map, List.length_take, List.length_drop]; omega)) ?_)
     intro w162 ch163 o164
     clear o154 o153
     have hs165 := hs155.seq (ch163.l rfl)
     refine ⟨hs165.same, ?_⟩
     refine cA (by kernel_rfl) ?_
     have C166 := cg [4] (ch138.n.seq (ch146.n.seq ((ch152.lr rfl).seq (ch163.l rfl))))
     replace Rg := Rg.cn ch138
     replace Rof := Rof.cn ch138
     replace Rto := Rto.cn ch138
     replace o10 := o10.cn ch138
     replace o22 := o22.cn ch138
     exact mid (g149) _ _ ⟨bH.ca C166, zs1, zs9, zs11, zs14, zs48, zs49, (Rg.ca hs165), (Rof.ca hs165), (Rto.ca hs165), (o10.ca hs165), (o22.ca hs165), o164⟩
    ·
     refine aA (α := Int) g137 (is 7) (is 7) (7, 0) rfl ([(aB of (e : Int)).1] : List Int) Try.underlying27 am (by decide) (by decide) (vs := [(0, vi ((aB of (e : Int)).1))]) rfl rfl (.cons rfl .nil) ?_
     intro g167 w168 v169 ch170 o171
     have hs172 : bq (bW [4]) _ _ _ _ := ch170.n
     refine ⟨hs172.same, ?_⟩
     refine aW 7 rfl (by kernel_rfl) rfl ?_
     replace o76 := o76.cn ch170
     obtain ⟨v173, cel174, r175⟩ := bY (r := (aB of (e : Int)).2) o76 (by omega) (by (simp only [List.length_set, List.length_append, List.length_cons, List.length_nil, List.length_replicate, List.length_map, List.length_take, List.length_drop]; omega))
     refine aJ (v := v173) (aS aL rfl cel174) ?_
     refine ⟨hs172.same, ?_⟩
     refine aW 11 rfl (by kernel_rfl) rfl (aR (α := Int) (xs := (gI (List.set O (Int.toNat ((aB of (e : Int)).1)) (gI O ((aB of (e : Int)).1) ++ ([(aB of (e : Int)).2] : List Int))) ((aB of (e : Int)).2))) (ys := ([(aB of (e : Int)).1] : List Int)) g167 (J := row 4 (Int.toNat ((aB of (e : Int)).2) + 1)) (S := row 4 (Int.toNat ((aB of (e : Int)).2) + 1)) (4, Int.toNat ((aB of (e : Int)).2) + 1) rfl Try.underlying27 am (by decide) rfl rfl rfl r175 o171.flat (by decide) (by (simp; omega)) ?_)
     intro g176 w177 v178 ch179 o180
     have o181 := o76.rowchg ch179
     clear o76 cel174 r175
     have hs182 := hs172.seq (ch179.lr rfl)
     refine ⟨hs182.same, ?_⟩
     refine aW 12 rfl (by kernel_rfl) rfl ?_
     obtain ⟨us183, hl184, r185⟩ := o181.vc
     try simp only [List.length_set, List.length_append, List.length_cons, List.length_nil] at hl184
     refine aJ (v := Value.pointer (some (ba v32 1 (Int.toNat ((aB of (e : Int)).2))))) (ab (α := Vc) (xs := us183) (v := v32) (i := (aB of (e : Int)).2) Try.underlying25 rfl rfl r185 rfl (by omega) (by omega)) ?_
     refine ⟨hs182.same, ?_⟩
     refine aW 13 rfl (by kernel_rfl) rfl (bI (r := (aB of (e : Int)).2) aL rfl rfl o181 o180 (by omega) (by (simp only [List.length_set, List.length_append, List.length_cons, List.length_nil, List.length_replicate, List.length_map, List.length_take, List.length_drop]; omega)) ?_)
     intro w189 ch190 o191
     clear o181 o180
     have hs192 := hs182.seq (ch190.l rfl)
     refine ⟨hs192.same, ?_⟩
     refine cA (by kernel_rfl) ?_
     have C193 := cg [4] (ch138.n.seq (ch170.n.seq ((ch179.lr rfl).seq (ch190.l rfl))))
     replace Rg := Rg.cn ch138
     replace Rof := Rof.cn ch138
     replace Rto := Rto.cn ch138
     replace o10 := o10.cn ch138
     replace o22 := o22.cn ch138
     exact mid (g176) _ _ ⟨bH.ca C193, zs1, zs9, zs11, zs14, zs48, zs49, (Rg.ca hs192), (Rof.ca hs192), (Rto.ca hs192), (o10.ca hs192), (o22.ca hs192), o191⟩
   ·
    refine aA (α := Int) g137 (is 7) (is 7) (7, 0) rfl ([(aB of (e : Int)).1] : List Int) Try.underlying27 am (by decide) (by decide) (vs := [(0, vi ((aB of (e : Int)).1))]) rfl rfl (.cons rfl .nil) ?_
    intro g194 w195 v196 ch197 o198
    have hs199 : bq (bW [4]) _ _ _ _ := ch197.n
    refine ⟨hs199.same, ?_⟩
    refine aW 6 rfl (by kernel_rfl) rfl ?_
    replace o76 := (o76.cn ch138).cn ch197
    refine aJ (v := Value.pointer (some (ba v32 1 (Int.toNat ((aB of (e : Int)).2))))) (ab (α := List Int) (xs := (List.set O (Int.toNat ((aB of (e : Int)).1)) (gI O ((aB of (e : Int)).1) ++ ([(aB of (e : Int)).2] : List Int)))) (v := v32) (i := (aB of (e : Int)).2) Try.underlying25 rfl rfl o76.sl rfl (by omega) (by (simp only [List.length_set, List.length_append, List.length_cons, List.length_nil, List.length_replicate, List.length_map, List.length_take, List.length_drop]; omega))) ?_
    refine ⟨hs199.same, ?_⟩
    refine aW 7 rfl (by kernel_rfl) rfl ?_
    obtain ⟨v200, cel201, r202⟩ := bY (r := (aB of (e : Int)).2) o76 (by omega) (by (simp only [List.length_set, List.length_append, List.length_cons, List.length_nil, List.length_replicate, List.length_map, List.length_take, List.length_drop]; omega))
    refine aJ (v := v200) (aS aL rfl cel201) ?_
    refine ⟨hs199.same, ?_⟩
    refine aW 11 rfl (by kernel_rfl) rfl (aR (α := Int) (xs := (gI (List.set O (Int.toNat ((aB of (e : Int)).1)) (gI O ((aB of (e : Int)).1) ++ ([(aB of (e : Int)).2] : List Int))) ((aB of (e : Int)).2))) (ys := ([(aB of (e : Int)).1] : List Int)) g194 (J := row 4 (Int.toNat ((aB of (e : Int)).2) + 1)) (S := row 4 (Int.toNat ((aB of (e : Int)).2) + 1)) (4, Int.toNat ((aB of (e : Int)).2) + 1) rfl Try.underlying27 am (by decide) rfl rfl rfl r202 o198.flat (by decide) (by (simp; omega)) ?_)
    intro g203 w204 v205 ch206 o207
    have o208 := o76.rowchg ch206
    clear o76 cel201 r202
    have hs209 := hs199.seq (ch206.lr rfl)
    refine ⟨hs209.same, ?_⟩
    refine aW 12 rfl (by kernel_rfl) rfl ?_
    obtain ⟨us210, hl211, r212⟩ := o208.vc
    try simp only [List.length_set, List.length_append, List.length_cons, List.length_nil] at hl211
    refine aJ (v := Value.pointer (some (ba v32 1 (Int.toNat ((aB of (e : Int)).2))))) (ab (α := Vc) (xs := us210) (v := v32) (i := (aB of (e : Int)).2) Try.underlying25 rfl rfl r212 rfl (by omega) (by omega)) ?_
    refine ⟨hs209.same, ?_⟩
    refine aW 13 rfl (by kernel_rfl) rfl (bI (r := (aB of (e : Int)).2) aL rfl rfl o208 o207 (by omega) (by (simp only [List.length_set, List.length_append, List.length_cons, List.length_nil, List.length_replicate, List.length_map, List.length_take, List.length_drop]; omega)) ?_)
    intro w216 ch217 o218
    clear o208 o207
    have hs219 := hs209.seq (ch217.l rfl)
    refine ⟨hs219.same, ?_⟩
    refine cA (by kernel_rfl) ?_
    have C220 := cg [4] (ch138.n.seq (ch197.n.seq ((ch206.lr rfl).seq (ch217.l rfl))))
    replace Rg := Rg.cn ch138
    replace Rof := Rof.cn ch138
    replace Rto := Rto.cn ch138
    replace o10 := o10.cn ch138
    replace o22 := o22.cn ch138
    exact mid (g203) _ _ ⟨bH.ca C220, zs1, zs9, zs11, zs14, zs48, zs49, (Rg.ca hs219), (Rof.ca hs219), (Rto.ca hs219), (o10.ca hs219), (o22.ca hs219), o218⟩
  clear Rg Rof Rto o10 o22 bx48 o76 bH
  rintro g223 f221 w222 ⟨bH, zs1, zs9, zs11, zs14, zs48, zs49, Rg, Rof, Rto, o10, o22, o164⟩
  refine ao (a8 rfl (lx (aQ (m := (e : Int)) (n := 1) zs49 rfl (by omega)) (mi ((e : Int) + 1) (aa ?_))))
  refine back15 (e + 1, (List.set (List.set O (Int.toNat ((aB of (e : Int)).1)) (gI O ((aB of (e : Int)).1) ++ ([(aB of (e : Int)).2] : List Int))) (Int.toNat ((aB of (e : Int)).2)) (gI (List.set O (Int.toNat ((aB of (e : Int)).1)) (gI O ((aB of (e : Int)).1) ++ ([(aB of (e : Int)).2] : List Int))) ((aB of (e : Int)).2) ++ ([(aB of (e : Int)).1] : List Int))), g223) _ _ ⟨bH, zs1, zs9, zs11, zs14, zs48, rfl, Rg, Rof, Rto, o10, o22, o164, by omega, ?_⟩ ?_
  · show (List.set (List.set O (Int.toNat ((aB of (e : Int)).1)) (gI O ((aB of (e : Int)).1) ++ ([(aB of (e : Int)).2] : List Int))) (Int.toNat ((aB of (e : Int)).2)) (gI (List.set O (Int.toNat ((aB of (e : Int)).1)) (gI O ((aB of (e : Int)).1) ++ ([(aB of (e : Int)).2] : List Int))) ((aB of (e : Int)).2) ++ ([(aB of (e : Int)).1] : List Int))) = eE of faces (e + 1)
    rw [jJ, ← hadj]
  · show Int.toNat (((g.2.length : Int) : Int) - ((e + 1) : Int)) < Int.toNat (((g.2.length : Int) : Int) - (e : Int))
    omega
 refine ag rfl (df p15) (aI rfl (a9 (a9 (a8 rfl (ai 0 (aa (ah ?_)))))))
 refine aN (σ := Value × (List Int) × Nat × (List Int) × aE) (fun ⟨q_v, q, i, far2, gq⟩ f w => b9 w0 gq w ∧ f 9 = v8 ∧ f 11 = q_v ∧ f 14 = v32 ∧ f 17 = vi (i : Int) ∧ Sl gq (is 0) w g_v g.2 ∧ Sl gq (is 0) w of_v of ∧ Sl gq (is 0) w to_v to ∧ Ow gq (is 2) (is 2) w v8 far2 ∧ cj gq 4 w v32 O ∧ Ow gq (is 3) (is 3) w q_v q ∧ (fS (far2, q) (dP faces to, to) (eE of faces g.2.length) faces (faces.toNat + to.length) i)) (fun ⟨q_v, q, i, far2, gq⟩ => (faces.toNat + to.length) - i) (v20, to, 0, far1, g38) ?_ ?_
 · exact ⟨bH, zs9, zs11, zs14, rfl, Rg, Rof, Rto, o10, o34, o22, by (have hjj : List.take j to = to := (List.take_of_length_le (by omega)); rw [hjj] at hinv1; rw [hinv1]; exact fS.start (iK.start hf1 hto))⟩
 clear Rg Rof Rto o10 o22 o34 bH
 rintro ⟨q_v, q, i, far2, g226⟩ f224 w225 ⟨bH, zs9, zs11, zs14, zs17, Rg, Rof, Rto, o10, o34, o_q, hgo⟩ back22
 obtain ⟨hg1, hg2, hg3⟩ := hgo.facts
 have hAe : O = eE of faces g.2.length := by rw [hadj, show e = g.2.length by omega]
 have hOl2 : (O.length : Int) = faces := by rw [hAe, ju]; omega
 refine a9 (a9 (a8 rfl (mz zs17 (mz zs11 ?_))))
 have len227 := (o_q.flat).small
 refine lx (aO Try.underlying27 rfl o_q.flat) (lx (bc (m := (i : Int)) (n := (q.length : Int)) rfl rfl) (aa ?_))
 by_cases p22 : (i : Int) < (q.length : Int)
 ·
  refine ae rfl (dt p22) ?_
  obtain ⟨hn1, hn2⟩ := hgo.node ‹_›
  refine aj (a9 (ah (a9 (a8 rfl (mz zs11 (mz zs17 (lx (ab (v := q_v) (i := (i : Int)) Try.underlying27 rfl rfl o_q.flat rfl (by omega) (by omega)) (lx (ay (v := q_v) (i := (i : Int)) am rfl o_q.flat (by omega) (by omega) (by decide) rfl) (ai (gI q (i : Int)) (aa (a9 (a8 rfl ?_))))))))))))
  refine mz zs14 (mi (gI q (i : Int)) (lx (ab (v := v32) (i := (gI q (i : Int))) Try.underlying25 rfl rfl o34.sl rfl (by omega) (by omega)) ?_))
  obtain ⟨v228, cel229, r230⟩ := bY (r := (gI q (i : Int))) o34 (by omega) (by omega)
  refine lx (aS aL rfl cel229) ?_
  have len231 := (r230.row_sl).small
  refine lx (aO Try.underlying27 rfl r230.row_sl) (mi 0 (aa (ah ?_)))
  refine aN (σ := Value × (List Int) × Nat × (List Int) × aE) (fun ⟨q3_v, q3, p, far3, gq⟩ f w => b9 w0 gq w ∧ f 9 = v8 ∧ f 11 = q3_v ∧ f 14 = v32 ∧ f 17 = vi (i : Int) ∧ f 18 = vi (gI q (i : Int)) ∧ f 95 = v228 ∧ f 96 = vi (List.length (gI O (gI q (i : Int))) : Int) ∧ f 97 = vi (p : Int) ∧ Sl gq (is 0) w g_v g.2 ∧ Sl gq (is 0) w of_v of ∧ Sl gq (is 0) w to_v to ∧ Ow gq (is 2) (is 2) w v8 far3 ∧ cj gq 4 w v32 O ∧ Ow gq (row 4 (Int.toNat (gI q (i : Int)) + 1)) (row 4 (Int.toNat (gI q (i : Int)) + 1)) w v228 (gI O (gI q (i : Int))) ∧ Ow gq (is 3) (is 3) w q3_v q3 ∧ (p : Int) ≤ ((List.length (gI O (gI q (i : Int))) : Int) : Int) ∧ (eu (far3, q3) (far2, q) (eE of faces g.2.length) faces (faces.toNat + to.length) (gI q (i : Int)) p)) (fun ⟨q3_v, q3, p, far3, gq⟩ => Int.toNat (((List.length (gI O (gI q (i : Int))) : Int) : Int) - (p : Int))) (q_v, q, 0, far2, g226) ?_ ?_
  · exact ⟨bH, zs9, zs11, zs14, zs17, rfl, rfl, rfl, rfl, Rg, Rof, Rto, o10, o34, r230, o_q, by omega, by exact hgo.row ‹_›⟩
  clear Rg Rof Rto o10 o34 o_q cel229 r230 bH
  rintro ⟨q3_v, q3, p, far3, g234⟩ f232 w233 ⟨bH, zs9, zs11, zs14, zs17, zs18, zs95, zs96, zs97, Rg, Rof, Rto, o10, o34, r230, o_q3, hle_p, hrow⟩ back26
  obtain ⟨hw1, hw2, ⟨hw3, hw4⟩, hw5, hw6⟩ := hrow.facts
  refine a9 (a8 rfl (lx (bc (m := (p : Int)) (n := (List.length (gI O (gI q (i : Int))) : Int)) zs97 zs96) (aa (a9 ?_))))
  by_cases p26 : (p : Int) < (List.length (gI O (gI q (i : Int))) : Int)
  ·
   refine ae rfl (dt p26) ?_
   have hpl : (p : Int) < (gI (eE of faces g.2.length) (gI q (i : Int))).length := by rw [← hAe]; assumption
   obtain ⟨hx1, hx2⟩ := tl hof hn1 hn2 (bu (xs := gI (eE of faces g.2.length) (gI q (i : Int))) (i := (p : Int)) (by omega) hpl)
   have hx1' := hx1
   have hx2' := hx2
   rw [← hAe] at hx1' hx2'
   refine aj (a9 (ah (a9 (a8 rfl (lx (ab (v := v228) (i := (p : Int)) Try.underlying27 rfl zs95 r230.row_sl zs97 (by omega) (by omega)) (lx (ay (v := v228) (i := (p : Int)) am rfl r230.row_sl (by omega) (by omega) (by decide) rfl) (ai (gI (gI O (gI q (i : Int))) (p : Int)) (aa (a9 (a8 rfl (mz zs9 (mi (gI (gI O (gI q (i : Int))) (p : Int)) ?_))))))))))))
   refine lx (ab (v := v8) (i := (gI (gI O (gI q (i : Int))) (p : Int))) Try.underlying27 rfl rfl o10.flat rfl (by omega) (by omega)) (lx (ay (v := v8) (i := (gI (gI O (gI q (i : Int))) (p : Int))) am rfl o10.flat (by omega) (by omega) (by decide) rfl) (lx (bc (m := (gI far3 (gI (gI O (gI q (i : Int))) (p : Int)))) (n := 0) rfl rfl) (aa ?_)))
   by_cases p28 : (gI far3 (gI (gI O (gI q (i : Int))) (p : Int))) < 0
   ·
    refine ae rfl (dt p28) (a9 (a8 rfl (mz zs9 (mi (gI (gI O (gI q (i : Int))) (p : Int)) (mz zs9 (mz zs18 (lx (ab (v := v8) (i := (gI q (i : Int))) Try.underlying27 rfl rfl o10.flat rfl (by omega) (by omega)) (lx (ay (v := v8) (i := (gI q (i : Int))) am rfl o10.flat (by omega) (by omega) (by decide) rfl) (lx (aQ (m := (gI far3 (gI q (i : Int)))) (n := 1) rfl rfl (by omega)) (lx (ab (v := v8) (i := (gI (gI O (gI q (i : Int))) (p : Int))) Try.underlying27 rfl rfl o10.flat rfl (by omega) (by omega)) ?_))))))))))
    refine lo (bP (i := (gI (gI O (gI q (i : Int))) (p : Int))) ((gI far3 (gI q (i : Int))) + 1) am rfl rfl o10 (by omega) (by omega) rfl ?_)
    intro w235 ch236 bx237
    clear o10
    refine aa (a8 rfl (mz zs11 (mi (gI (gI O (gI q (i : Int))) (p : Int)) (lo (aA (α := Int) g234 (is 8) (is 8) (8, 0) rfl ([(gI (gI O (gI q (i : Int))) (p : Int))] : List Int) Try.underlying27 am (by decide) (by decide) (vs := [(0, vi (gI (gI O (gI q (i : Int))) (p : Int)))]) rfl rfl (.cons rfl .nil) ?_)))))
    intro g238 w239 v240 ch241 o242
    refine lo ?_
    replace o_q3 := (o_q3.ce ch236).cn ch241
    refine aR (α := Int) (xs := q3) (ys := ([(gI (gI O (gI q (i : Int))) (p : Int))] : List Int)) g238 (J := is 3) (S := is 3) (3, 0) rfl Try.underlying27 am (by decide) rfl rfl rfl o_q3 o242.flat (by decide) (by (simp; omega)) ?_
    intro g243 w244 v245 ch246 o247
    clear o_q3
    refine ma v245 (aa (ao ?_))
    clear o242
    refine a8 rfl (lx (aQ (m := (p : Int)) (n := 1) zs97 rfl (by omega)) (mi ((p : Int) + 1) (aa ?_)))
    have C248 := cg [2, 3] ((ch236.l rfl).seq (ch241.n.seq (ch246.l rfl)))
    refine back26 (v245, (q3 ++ ([(gI (gI O (gI q (i : Int))) (p : Int))] : List Int)), p + 1, (List.set far3 (Int.toNat (gI (gI O (gI q (i : Int))) (p : Int))) ((gI far3 (gI q (i : Int))) + 1)), g243) _ _ ⟨bH.ca C248, zs9, rfl, zs14, zs17, zs18, zs95, zs96, rfl, Rg.ca C248, Rof.ca C248, Rto.ca C248, (bx237.cn ch241).ce ch246, o34.ca C248, r230.chg C248 (mM rfl) (mM rfl), o247, by omega, ?_⟩ ?_
    · show eu ((List.set far3 (Int.toNat (gI (gI O (gI q (i : Int))) (p : Int))) ((gI far3 (gI q (i : Int))) + 1)), (q3 ++ ([(gI (gI O (gI q (i : Int))) (p : Int))] : List Int))) (far2, q) (eE of faces g.2.length) faces (faces.toNat + to.length) (gI q (i : Int)) (p + 1)
      (have h9 := hrow.yes hpl hx1 hx2 (by rw [← hAe]; assumption)
       rw [← hAe] at h9 ⊢
       exact h9)
    · show Int.toNat (((List.length (gI O (gI q (i : Int))) : Int) : Int) - ((p + 1) : Int)) < Int.toNat (((List.length (gI O (gI q (i : Int))) : Int) : Int) - (p : Int))
      omega
   refine ag rfl (df p28) (aj (ao (a8 rfl (lx (aQ (m := (p : Int)) (n := 1) zs97 rfl (by omega)) (mi ((p : Int) + 1) (aa ?_))))))
   refine back26 (q3_v, q3, p + 1, far3, g234) _ _ ⟨bH, zs9, zs11, zs14, zs17, zs18, zs95, zs96, rfl, Rg, Rof, Rto, o10, o34, r230, o_q3, by omega, ?_⟩ ?_
   · show eu (far3, q3) (far2, q) (eE of faces g.2.length) faces (faces.toNat + to.length) (gI q (i : Int)) (p + 1)
     exact hrow.no hpl hx1 hx2 (by rw [← hAe]; assumption)
   · show Int.toNat (((List.length (gI O (gI q (i : Int))) : Int) : Int) - ((p + 1) : Int)) < Int.toNat (((List.length (gI O (gI q (i : Int))) : Int) : Int) - (p : Int))
     omega
  refine ag rfl (df p26) (aI rfl (ao ?_))
  clear r230
  refine a8 rfl (mz zs17 (lx (aQ (m := (i : Int)) (n := 1) rfl rfl (by omega)) (ai ((i : Int) + 1) (aa ?_))))
  refine back22 (q3_v, q3, i + 1, far3, g234) _ _ ⟨bH, zs9, zs11, zs14, rfl, Rg, Rof, Rto, o10, o34, o_q3, ?_⟩ ?_
  · show fS (far3, q3) (dP faces to, to) (eE of faces g.2.length) faces (faces.toNat + to.length) (i + 1)
    exact hgo.next ‹_› hrow (by rw [← hAe]; assumption)
  · show (faces.toNat + to.length) - (i + 1) < (faces.toNat + to.length) - i
    omega
 refine ag rfl (df p22) (aI rfl (a9 ?_))
 clear o34 o_q
 refine a8 rfl (mz zs9 (ma v8 (aa (av (vs := [v8]) Try.func68 (.tmp rfl .nil) ?_))))
 have e0 : (far2 : List Int) = (bT g.2.length of faces to) := by
   exact congrArg Prod.fst (hgo.done ‹_›)
 exact ⟨(fin w0 g226 (fun n => if n = 2 then 1 else 0), v8), (congrArg (a₁ := far2) (fun (z0 : List Int) => Ending.returned (v8)) e0), bH.fresh _, (e0 ▸ (o10.glue (γ := c0) (ren := (fun n => if n = 2 then 1 else 0)) (k := 1) bH.col rfl rfl))⟩
end TL
