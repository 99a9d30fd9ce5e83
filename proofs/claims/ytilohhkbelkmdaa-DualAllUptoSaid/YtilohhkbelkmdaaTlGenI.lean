import Derived.Test.YtilohhkbelkmdaaTlP3
import Derived.Test.YtilohhkbelkmdaaTlGenA
import Derived.Test.YtilohhkbelkmdaaTlGenQ
import Derived.Test.YtilohhkbelkmdaaProg
set_option linter.all false
set_option maxRecDepth 20000
namespace TL
open Go Go.Proofs
theorem pp : Try.prog.follows .mixedOrders = true := by kernel_rfl
theorem eU : Tp Try.prog 27 false 1 24 (.slice none 0 0) := Tp.of (by kernel_rfl)
theorem lN : Try.f52.body.isNone = false := rfl
theorem lL : (Try.f52.name == "runtime.NumGoroutine") = false := by decide +kernel
theorem vS : Try.f78.body.isNone = false := rfl
theorem ws : (Try.f78.name == "runtime.NumGoroutine") = false := by decide +kernel
theorem vU : Try.f79.body.isNone = false := rfl
theorem vM : (Try.f79.name == "runtime.NumGoroutine") = false := by decide +kernel
theorem wL : Try.f80.body.isNone = false := rfl
theorem vG : (Try.f80.name == "runtime.NumGoroutine") = false := by decide +kernel
theorem wt (w0 : World) (g : (Int) × (List ((Int) × (Int)))) (g_v : Value) (hg_v : Ro w0 g_v g.2) (h : Int) (hh : 0 ≤ h ∧ h < 2 * (g.2.length : Int)) (hlen : g.2.length ≤ 1000000) :
    Calls Try.prog 80 #[vg [vi g.1, g_v], vi h] w0 (fun ee w => ee = .returned (vi (dO g h)) ∧ dH w0.heap.size w0 w) := by
 refine az Try.func80 rfl (Nat.le_of_ble_eq_true rfl) ?_
 have bH := b9.start w0
 have Rg := hg_v.sl
 obtain ⟨hh1, hh2⟩ := hh
 refine a9 (a8 rfl (cr rfl (bR c0 (is 1) (1, 0) rfl rfl ?_)))
 intro g4 w1 b3 ch2 bx5
 replace bx5 : Bx g4 (is 1) w1 b3 [vi g.1, g_v] := bx5
 refine ai 0 (aa (a9 (a8 rfl (lx (ad Try.underlying24 rfl rfl rfl rfl) (lx (af bo rfl bx5 rfl) (mi h (lx (hU (m := h) (n := 2) rfl rfl (by omega) (by omega) (by omega)) (mi h (lx (eT (m := h) (n := 2) rfl rfl (by omega) (by omega)) (lx (eR (m := 1) (n := h % 2) rfl rfl (by omega)) ?_))))))))))
 replace Rg := Rg.cn ch2
 refine lx (ab (v := g_v) (i := h / 2) Try.underlying22 rfl rfl Rg rfl (by omega) (by omega)) (lx (bV (i := 1 - (h % 2)) Try.underlying60 rfl rfl rfl (by omega) (by omega) (Nat.mul_one _)) (lx (cF (v := g_v) (i := h / 2) am rfl Rg (by omega) (by omega) (show Int.toNat (1 - (h % 2)) < 2 by omega) (fH _ (by omega) (by omega))) (ai (pI (gI g.2 (h / 2)) (1 - (h % 2))) (aa (av (vs := [vi (pI (gI g.2 (h / 2)) (1 - (h % 2)))]) Try.func80 (.tmp rfl .nil) ?_)))))
 have e0 : (pI (gI g.2 (h / 2)) (1 - (h % 2)) : Int) = (dO g h) := by
   rfl
 replace bH := bH.cn ch2
 exact ⟨(congrArg (a₁ := pI (gI g.2 (h / 2)) (1 - (h % 2))) (fun (z0 : Int) => Ending.returned (vi z0)) e0), bH.below⟩
theorem kX (w0 : World) (h : Int) (hh : 0 ≤ h ∧ h < 1000000) :
    Calls Try.prog 27 #[vi h] w0 (fun ee w => ee = .returned (vi (bK h)) ∧ dH w0.heap.size w0 w) := by
 refine az Try.func27 rfl (Nat.le_of_ble_eq_true rfl) ?_
 have bH := b9.start w0
 obtain ⟨hh1, hh2⟩ := hh
 refine a9 (a8 rfl (ai 0 (aa (a9 (a9 (a8 rfl (mi h (lx (eT (m := h) (n := 2) rfl rfl (by omega) (by omega)) (lx (cR (m := h % 2) (n := 0) rfl rfl) (aa ?_))))))))))
 by_cases p1 : (h % 2) = 0
 ·
  refine ae rfl (dt p1) (a9 (a8 rfl (mi h (lx (aQ (m := h) (n := 1) rfl rfl (by omega)) (ai (h + 1) (aa (av (vs := [vi (h + 1)]) Try.func27 (.tmp rfl .nil) ?_)))))))
  have e0 : (h + 1 : Int) = (bK h) := by
    rw [bK, if_pos ‹_›]
  exact ⟨(congrArg (a₁ := h + 1) (fun (z0 : Int) => Ending.returned (vi z0)) e0), bH.below⟩
 refine ag rfl (df p1) (aj (a9 (a8 rfl (mi h (lx (eR (m := h) (n := 1) rfl rfl (by omega)) (ai (h - 1) (aa (av (vs := [vi (h - 1)]) Try.func27 (.tmp rfl .nil) ?_))))))))
 have e0 : (h - 1 : Int) = (bK h) := by
   rw [bK, if_neg ‹_›]
 exact ⟨(congrArg (a₁ := h - 1) (fun (z0 : Int) => Ending.returned (vi z0)) e0), bH.below⟩
theorem rS (w0 : World) (n : Int) (x : Int) (hn : 0 ≤ n ∧ n ≤ 1000000) :
    Calls Try.prog 78 #[vi n, vi x] w0 (fun ee w => ∃ xx : aE × Value, ee = .returned ((fun ⟨δ, rv0⟩ => rv0) xx) ∧ (fun (⟨δ, rv0⟩ : aE × Value) (w : World) => cC w0 δ w ∧ Ow δ (is 1) (is 1) w rv0 (List.replicate n.toNat x)) xx w) := by
 refine az Try.func78 rfl (Nat.le_of_ble_eq_true rfl) ?_
 have bH := b9.start w0
 obtain ⟨hn1, hn2⟩ := hn
 have hrep : ((List.replicate n.toNat (0 : Int)).length : Int) = n := by simp; omega
 refine a9 (a8 rfl (ma vn (aa (a9 (a8 rfl (mi n (lo (dE (α := Int) (l := n) (cp := n) c0 (is 1) (is 1) (1, 0) rfl (0 : Int) Try.underlying27 am rfl rfl rfl (by omega) (by omega) (by omega) (by omega) ?_))))))))
 intro g1 w2 v3 ch4 o5 _
 refine ma v3 (aa (a9 (a9 (a8 rfl (ai 0 (aa (ah ?_)))))))
 refine aN (σ := Nat × (List Int) × aE) (fun ⟨i, l, gq⟩ f w => b9 w0 gq w ∧ f 0 = vi n ∧ f 1 = vi x ∧ f 5 = v3 ∧ f 6 = vi (i : Int) ∧ Ow gq (is 1) (is 1) w v3 l ∧ (i : Int) ≤ (n : Int) ∧ (l = List.replicate i x ++ List.replicate (n.toNat - i) 0 ∧ (i : Int) ≤ n)) (fun ⟨i, l, gq⟩ => Int.toNat ((n : Int) - (i : Int))) (0, (List.replicate (Int.toNat n) (0 : Int)), g1) ?_ ?_
 · exact ⟨bH.cn ch4, rfl, rfl, rfl, rfl, o5, by omega, by exact ⟨by simp, by omega⟩⟩
 clear o5 bH
 rintro ⟨i, l, g8⟩ f6 w7 ⟨bH, zs0, zs1, zs5, zs6, o5, hle_i, hinv⟩ back3
 have hll : l.length = n.toNat := by rw [hinv.1]; simp; omega
 refine a9 (a9 (a8 rfl (mz zs6 (mz zs0 (lx (bc (m := (i : Int)) (n := n) rfl rfl) (aa ?_))))))
 by_cases p3 : (i : Int) < n
 ·
  refine ae rfl (dt p3) (aj (a9 (ah (a8 rfl (mz zs5 (mz zs6 (mz zs1 (lx (ab (v := v3) (i := (i : Int)) Try.underlying27 rfl rfl o5.flat rfl (by omega) (by omega)) (lo ?_)))))))))
  refine bP (i := (i : Int)) x am rfl rfl o5 (by omega) (by omega) rfl ?_
  intro w9 ch10 bx11
  clear o5
  refine aa (ao (a8 rfl (mz zs6 (lx (aQ (m := (i : Int)) (n := 1) rfl rfl (by omega)) (ai ((i : Int) + 1) (aa ?_))))))
  refine back3 (i + 1, (List.set l (Int.toNat (i : Int)) x), g8) _ _ ⟨bH.ce ch10, zs0, zs1, zs5, rfl, bx11, by omega, ?_⟩ ?_
  · show (List.set l (Int.toNat (i : Int)) x) = List.replicate (i + 1) x ++ List.replicate (n.toNat - (i + 1)) 0 ∧ ((i + 1) : Int) ≤ n
    have hk1 : i < n.toNat := by simp at *; omega
    refine ⟨by rw [hinv.1]; exact iG hk1, by omega⟩
  · show Int.toNat ((n : Int) - ((i + 1) : Int)) < Int.toNat ((n : Int) - (i : Int))
    omega
 refine ag rfl (df p3) (aI rfl (a9 (a8 rfl (mz zs5 (ma v3 (aa (av (vs := [v3]) Try.func78 (.tmp rfl .nil) ?_)))))))
 have e0 : (l : List Int) = (List.replicate n.toNat x) := by
   obtain ⟨h1, h2⟩ := hinv
   have hk : i = n.toNat := by simp at *; omega
   subst hk; rw [h1]; simp
 exact ⟨(fin w0 g8 (fun n => if n = 1 then 1 else 0), v3), (congrArg (a₁ := l) (fun (z0 : List Int) => Ending.returned (v3)) e0), bH.fresh _, (e0 ▸ (o5.glue (γ := c0) (ren := (fun n => if n = 1 then 1 else 0)) (k := 1) bH.col rfl rfl))⟩
theorem rQ (w0 : World) (g : (Int) × (List ((Int) × (Int)))) (g_v : Value) (hg_v : Ro w0 g_v g.2) (hmay : bx g) :
    Calls Try.prog 79 #[vg [vi g.1, g_v]] w0 (fun ee w => ∃ xx : aE × Value, ee = .returned ((fun ⟨δ, rv0⟩ => rv0) xx) ∧ (fun (⟨δ, rv0⟩ : aE × Value) (w : World) => cC w0 δ w ∧ cj δ 1 w rv0 (cb g)) xx w) := by
 refine az Try.func79 rfl (Nat.le_of_ble_eq_true rfl) ?_
 have bH := b9.start w0
 have Rg := hg_v.sl
 have hm0 := hmay
 obtain ⟨hm1, hm2, hm3, hm4⟩ := hm0
 refine a9 (a8 rfl (cr rfl (bR c0 (is 1) (1, 0) rfl rfl ?_)))
 intro g4 w1 b3 ch2 bx5
 replace bx5 : Bx g4 (is 1) w1 b3 [vi g.1, g_v] := bx5
 refine ma vn (aa (a9 (a8 rfl (lx (ad Try.underlying24 rfl rfl rfl rfl) (lx (af am rfl bx5 rfl) (lo (dB (α := Int) (n := g.1) (cp := g.1) g4 2 Try.underlying25 eU rfl rfl rfl (by omega) (by omega) (by omega) (by omega) ?_)))))))
 intro g6 w7 v8 ch9 o10
 refine ma v8 (aa (a9 (a9 (a8 rfl (ai 0 (aa (ah ?_)))))))
 refine aN (σ := Nat × bj × aE) (fun ⟨h, O, gq⟩ f w => b9 w0 gq w ∧ f 1 = vp b3 0 ∧ f 3 = v8 ∧ f 4 = vi (h : Int) ∧ Sl gq (is 0) w g_v g.2 ∧ Bx gq (is 1) w b3 [vi g.1, g_v] ∧ cj gq 2 w v8 O ∧ (h : Int) ≤ (2 * (g.2.length : Int) : Int) ∧ (ed O g h)) (fun ⟨h, O, gq⟩ => Int.toNat ((2 * (g.2.length : Int) : Int) - (h : Int))) (0, (List.replicate (Int.toNat g.1) []), g6) ?_ ?_
 replace bH := bH.cn ch2
 · exact ⟨bH.cn ch9, rfl, rfl, rfl, (Rg.cn ch2).cn ch9, bx5.cn ch9, o10, by omega, by exact ed.start hm1⟩
 clear Rg bx5 o10 bH
 rintro ⟨h, O, g13⟩ f11 w12 ⟨bH, zs1, zs3, zs4, Rg, bx5, o10, hle_h, hov⟩ back3
 have hol := hov.len
 refine a9 (a9 (a8 rfl (mz zs4 (lx (ad Try.underlying24 rfl rfl zs1 rfl) (lx (af bo rfl bx5 rfl) ?_)))))
 have len14 := (Rg).small
 refine lx (aO Try.underlying22 rfl Rg) (lx (du (m := 2) (n := (g.2.length : Int)) rfl rfl (by omega)) (lx (bc (m := (h : Int)) (n := 2 * (g.2.length : Int)) rfl rfl) (aa ?_)))
 by_cases p3 : (h : Int) < (2 * (g.2.length : Int))
 ·
  refine ae rfl (dt p3) ?_
  obtain ⟨hf1, hf2⟩ := nV hmay (h := (h : Int)) (by omega) (by omega)
  have hbd := hov.bd hf1 hf2
  refine aj (a9 (ah ?_))
  refine dS (σ := aE) (fun gq f w => b9 w0 gq w ∧ f 1 = vp b3 0 ∧ f 3 = v8 ∧ f 4 = vi (h : Int) ∧ Sl gq (is 0) w g_v g.2 ∧ Bx gq (is 1) w b3 [vi g.1, g_v] ∧ cj gq 2 w v8 (List.set O (Int.toNat (bp g (h : Int))) (gI O (bp g (h : Int)) ++ [(h : Int)]))) g13 (bW [2]) pp ?_ ?_
  ·
   intro mid
   intro w16 ch15
   refine ht (v := v8) 0 rfl (bq.refl _ _ _) (fun w' hw' => au zs3) ?_
   replace bx5 := bx5.cn ch15
   refine ht 1 rfl (bq.refl _ _ _) (fun w' hw' => aq (ds := [vi g.1, g_v]) ak zs1 (bx5.chg hw' (bQ rfl)) rfl rfl) (ht (v := vi (h : Int)) 2 rfl (bq.refl _ _ _) (fun w' hw' => au zs4) (ht (v := v8) 4 rfl (bq.refl _ _ _) (fun w' hw' => au zs3) (ht 5 rfl (bq.refl _ _ _) (fun w' hw' => aq (ds := [vi g.1, g_v]) ak zs1 (bx5.chg hw' (bQ rfl)) rfl rfl) (ht (v := vi (h : Int)) 6 rfl (bq.refl _ _ _) (fun w' hw' => au zs4) (ht (v := vi (h : Int)) 10 rfl (bq.refl _ _ _) (fun w' hw' => au zs4) ?_)))))
   refine d8 3 [11] (by kernel_rfl) ⟨da 3 rfl (by kernel_rfl) rfl ?_, da 11 rfl (by kernel_rfl) rfl ?_, trivial⟩
   ·
    replace Rg := Rg.cn ch15
    refine bO (v := vi (bp g (h : Int))) (aD (vals := [vg [vi g.1, g_v], vi (h : Int)]) Try.func52 lN lL rfl) (gK w16 g g_v (Rg).ro (h : Int) (by omega) (by omega)) ?_
    intro w17 hb18
    replace hb18 := aG hb18 g13
    have hs19 : bq (bW [2]) _ _ _ _ := hb18.n
    refine ⟨hs19.same, ?_⟩
    refine d8 7 [11] (by kernel_rfl) ⟨da 7 rfl (by kernel_rfl) rfl ?_, da 11 rfl (by kernel_rfl) rfl ?_, trivial⟩
    ·
     refine bO (v := vi (bp g (h : Int))) (aD (vals := [vg [vi g.1, g_v], vi (h : Int)]) Try.func52 lN lL rfl) (gK w17 g g_v ((Rg.ca hs19)).ro (h : Int) (by omega) (by omega)) ?_
     intro w20 hb21
     replace hb21 := aG hb21 g13
     have hs22 := hs19.seq (hb21.n)
     refine ⟨hs22.same, ?_⟩
     refine d8 8 [11] (by kernel_rfl) ⟨da 8 rfl (by kernel_rfl) rfl ?_, da 11 rfl (by kernel_rfl) rfl ?_, trivial⟩
     ·
      have C23 := cg [] (ch15.n.seq (hb18.n.seq hb21.n))
      replace o10 := o10.ca C23
      refine aJ (v := Value.pointer (some (ba v8 1 (Int.toNat (bp g (h : Int)))))) (ab (α := List Int) (xs := O) (v := v8) (i := bp g (h : Int)) Try.underlying25 rfl rfl o10.sl rfl (by omega) (by omega)) ?_
      refine ⟨hs22.same, ?_⟩
      refine d8 9 [11] (by kernel_rfl) ⟨da 9 rfl (by kernel_rfl) rfl ?_, da 11 rfl (by kernel_rfl) rfl ?_, trivial⟩
      ·
       obtain ⟨v24, cel25, r26⟩ := bY (r := bp g (h : Int)) o10 (by omega) (by omega)
       refine aJ (v := v24) (aS eU rfl cel25) ?_
       refine ⟨hs22.same, ?_⟩
       refine aW 11 rfl (by kernel_rfl) rfl (aA (α := Int) g13 (is 3) (is 3) (3, 0) rfl [(h : Int)] Try.underlying27 am (by decide) (by decide) (vs := [(0, vi (h : Int))]) rfl rfl (.cons rfl .nil) ?_)
       intro g27 w28 v29 ch30 o31
       have hs32 := hs22.seq (ch30.n)
       refine ⟨hs32.same, ?_⟩
       refine aW 12 rfl (by kernel_rfl) rfl ?_
       replace o10 := o10.cn ch30
       replace r26 := r26.cn ch30
       refine aR (α := Int) (xs := (gI O (bp g (h : Int)))) (ys := ([(h : Int)])) g27 (J := row 2 (Int.toNat (bp g (h : Int)) + 1)) (S := row 2 (Int.toNat (bp g (h : Int)) + 1)) (2, Int.toNat (bp g (h : Int)) + 1) rfl Try.underlying27 am (by decide) rfl rfl rfl r26 o31.flat (by decide) (by (simp; omega)) ?_
       intro g33 w34 v35 ch36 o37
       have o38 := o10.rowchg ch36
       clear o10 cel25 r26
       have hs39 := hs32.seq (ch36.lr rfl)
       refine ⟨hs39.same, ?_⟩
       refine aW 13 rfl (by kernel_rfl) rfl ?_
       obtain ⟨us40, hl41, r42⟩ := o38.vc
       try simp only [List.length_set, List.length_append, List.length_cons, List.length_nil] at hl41
       refine aJ (v := Value.pointer (some (ba v8 1 (Int.toNat (bp g (h : Int)))))) (ab (α := Vc) (xs := us40) (v := v8) (i := bp g (h : Int)) Try.underlying25 rfl rfl r42 rfl (by omega) (by omega)) ?_
       refine ⟨hs39.same, ?_⟩
       refine aW 14 rfl (by kernel_rfl) rfl (bI (r := bp g (h : Int)) eU rfl rfl o38 o37 (by omega) (by omega) ?_)
       intro w46 ch47 o48
       clear o38 o37
       have hs49 := hs39.seq (ch47.l rfl)
       refine ⟨hs49.same, ?_⟩
       refine cA (by kernel_rfl) ?_
       have C50 := cg [2] (ch15.n.seq (hb18.n.seq (hb21.n.seq (ch30.n.seq ((ch36.lr rfl).seq (ch47.l rfl))))))
       exact mid (g33) _ _ ⟨bH.ca C50, zs1, zs3, zs4, (Rg.ca hs49), (bx5.ca hs49), o48⟩
      ·
       refine aA (α := Int) g13 (is 3) (is 3) (3, 0) rfl [(h : Int)] Try.underlying27 am (by decide) (by decide) (vs := [(0, vi (h : Int))]) rfl rfl (.cons rfl .nil) ?_
       intro g51 w52 v53 ch54 o55
       have hs56 := hs22.seq (ch54.n)
       refine ⟨hs56.same, ?_⟩
       refine aW 9 rfl (by kernel_rfl) rfl ?_
       replace o10 := o10.cn ch54
       obtain ⟨v57, cel58, r59⟩ := bY (r := bp g (h : Int)) o10 (by omega) (by omega)
       refine aJ (v := v57) (aS eU rfl cel58) ?_
       refine ⟨hs56.same, ?_⟩
       refine aW 12 rfl (by kernel_rfl) rfl (aR (α := Int) (xs := (gI O (bp g (h : Int)))) (ys := ([(h : Int)])) g51 (J := row 2 (Int.toNat (bp g (h : Int)) + 1)) (S := row 2 (Int.toNat (bp g (h : Int)) + 1)) (2, Int.toNat (bp g (h : Int)) + 1) rfl Try.underlying27 am (by decide) rfl rfl rfl r59 o55.flat (by decide) (by (simp; omega)) ?_)
       intro g60 w61 v62 ch63 o64
       have o65 := o10.rowchg ch63
       clear o10 cel58 r59
       have hs66 := hs56.seq (ch63.lr rfl)
       refine ⟨hs66.same, ?_⟩
       refine aW 13 rfl (by kernel_rfl) rfl ?_
       obtain ⟨us67, hl68, r69⟩ := o65.vc
       try simp only [List.length_set, List.length_append, List.length_cons, List.length_nil] at hl68
       refine aJ (v := Value.pointer (some (ba v8 1 (Int.toNat (bp g (h : Int)))))) (ab (α := Vc) (xs := us67) (v := v8) (i := bp g (h : Int)) Try.underlying25 rfl rfl r69 rfl (by omega) (by omega)) ?_
       refine ⟨hs66.same, ?_⟩
       refine aW 14 rfl (by kernel_rfl) rfl (bI (r := bp g (h : Int)) eU rfl rfl o65 o64 (by omega) (by omega) ?_)
       intro w73 ch74 o75
       clear o65 o64
       have hs76 := hs66.seq (ch74.l rfl)
       refine ⟨hs76.same, ?_⟩
       refine cA (by kernel_rfl) ?_
       have C77 := cg [2] (ch15.n.seq (hb18.n.seq (hb21.n.seq (ch54.n.seq ((ch63.lr rfl).seq (ch74.l rfl))))))
       exact mid (g60) _ _ ⟨bH.ca C77, zs1, zs3, zs4, (Rg.ca hs76), (bx5.ca hs76), o75⟩
     ·
      refine aA (α := Int) g13 (is 3) (is 3) (3, 0) rfl [(h : Int)] Try.underlying27 am (by decide) (by decide) (vs := [(0, vi (h : Int))]) rfl rfl (.cons rfl .nil) ?_
      intro g78 w79 v80 ch81 o82
      have hs83 := hs22.seq (ch81.n)
      refine ⟨hs83.same, ?_⟩
      refine aW 8 rfl (by kernel_rfl) rfl ?_
      have C84 := cg [] (ch15.n.seq (hb18.n.seq (hb21.n.seq ch81.n)))
      replace o10 := o10.ca C84
      refine aJ (v := Value.pointer (some (ba v8 1 (Int.toNat (bp g (h : Int)))))) (ab (α := List Int) (xs := O) (v := v8) (i := bp g (h : Int)) Try.underlying25 rfl rfl o10.sl rfl (by omega) (by omega)) ?_
      refine ⟨hs83.same, ?_⟩
      refine aW 9 rfl (by kernel_rfl) rfl ?_
      obtain ⟨v85, cel86, r87⟩ := bY (r := bp g (h : Int)) o10 (by omega) (by omega)
      refine aJ (v := v85) (aS eU rfl cel86) ?_
      refine ⟨hs83.same, ?_⟩
      refine aW 12 rfl (by kernel_rfl) rfl (aR (α := Int) (xs := (gI O (bp g (h : Int)))) (ys := ([(h : Int)])) g78 (J := row 2 (Int.toNat (bp g (h : Int)) + 1)) (S := row 2 (Int.toNat (bp g (h : Int)) + 1)) (2, Int.toNat (bp g (h : Int)) + 1) rfl Try.underlying27 am (by decide) rfl rfl rfl r87 o82.flat (by decide) (by (simp; omega)) ?_)
      intro g88 w89 v90 ch91 o92
      have o93 := o10.rowchg ch91
      clear o10 cel86 r87
      have hs94 := hs83.seq (ch91.lr rfl)
      refine ⟨hs94.same, ?_⟩
      refine aW 13 rfl (by kernel_rfl) rfl ?_
      obtain ⟨us95, hl96, r97⟩ := o93.vc
      try simp only [List.length_set, List.length_append, List.length_cons, List.length_nil] at hl96
      refine aJ (v := Value.pointer (some (ba v8 1 (Int.toNat (bp g (h : Int)))))) (ab (α := Vc) (xs := us95) (v := v8) (i := bp g (h : Int)) Try.underlying25 rfl rfl r97 rfl (by omega) (by omega)) ?_
      refine ⟨hs94.same, ?_⟩
      refine aW 14 rfl (by kernel_rfl) rfl (bI (r := bp g (h : Int)) eU rfl rfl o93 o92 (by omega) (by omega) ?_)
      intro w101 ch102 o103
      clear o93 o92
      have hs104 := hs94.seq (ch102.l rfl)
      refine ⟨hs104.same, ?_⟩
      refine cA (by kernel_rfl) ?_
      have C105 := cg [2] (ch15.n.seq (hb18.n.seq (hb21.n.seq (ch81.n.seq ((ch91.lr rfl).seq (ch102.l rfl))))))
      exact mid (g88) _ _ ⟨bH.ca C105, zs1, zs3, zs4, (Rg.ca hs104), (bx5.ca hs104), o103⟩
    ·
     refine aA (α := Int) g13 (is 3) (is 3) (3, 0) rfl [(h : Int)] Try.underlying27 am (by decide) (by decide) (vs := [(0, vi (h : Int))]) rfl rfl (.cons rfl .nil) ?_
     intro g106 w107 v108 ch109 o110
     have hs111 := hs19.seq (ch109.n)
     refine ⟨hs111.same, ?_⟩
     refine aW 7 rfl (by kernel_rfl) rfl (bO (v := vi (bp g (h : Int))) (aD (vals := [vg [vi g.1, g_v], vi (h : Int)]) Try.func52 lN lL rfl) (gK w107 g g_v ((Rg.ca hs111)).ro (h : Int) (by omega) (by omega)) ?_)
     intro w112 hb113
     replace hb113 := aG hb113 g106
     have hs114 := hs111.seq (hb113.n)
     refine ⟨hs114.same, ?_⟩
     refine aW 8 rfl (by kernel_rfl) rfl ?_
     have C115 := cg [] (ch15.n.seq (hb18.n.seq (ch109.n.seq hb113.n)))
     replace o10 := o10.ca C115
     refine aJ (v := Value.pointer (some (ba v8 1 (Int.toNat (bp g (h : Int)))))) (ab (α := List Int) (xs := O) (v := v8) (i := bp g (h : Int)) Try.underlying25 rfl rfl o10.sl rfl (by omega) (by omega)) ?_
     refine ⟨hs114.same, ?_⟩
     refine aW 9 rfl (by kernel_rfl) rfl ?_
     obtain ⟨v116, cel117, r118⟩ := bY (r := bp g (h : Int)) o10 (by omega) (by omega)
     refine aJ (v := v116) (aS eU rfl cel117) ?_
     refine ⟨hs114.same, ?_⟩
     refine aW 12 rfl (by kernel_rfl) rfl ?_
     replace o110 := o110.cn hb113
     refine aR (α := Int) (xs := (gI O (bp g (h : Int)))) (ys := ([(h : Int)])) g106 (J := row 2 (Int.toNat (bp g (h : Int)) + 1)) (S := row 2 (Int.toNat (bp g (h : Int)) + 1)) (2, Int.toNat (bp g (h : Int)) + 1) rfl Try.underlying27 am (by decide) rfl rfl rfl r118 o110.flat (by decide) (by (simp; omega)) ?_
     intro g119 w120 v121 ch122 o123
     have o124 := o10.rowchg ch122
     clear o10 cel117 r118
     have hs125 := hs114.seq (ch122.lr rfl)
     refine ⟨hs125.same, ?_⟩
     refine aW 13 rfl (by kernel_rfl) rfl ?_
     obtain ⟨us126, hl127, r128⟩ := o124.vc
     try simp only [List.length_set, List.length_append, List.length_cons, List.length_nil] at hl127
     refine aJ (v := Value.pointer (some (ba v8 1 (Int.toNat (bp g (h : Int)))))) (ab (α := Vc) (xs := us126) (v := v8) (i := bp g (h : Int)) Try.underlying25 rfl rfl r128 rfl (by omega) (by omega)) ?_
     refine ⟨hs125.same, ?_⟩
     refine aW 14 rfl (by kernel_rfl) rfl (bI (r := bp g (h : Int)) eU rfl rfl o124 o123 (by omega) (by omega) ?_)
     intro w132 ch133 o134
     clear o124 o123
     have hs135 := hs125.seq (ch133.l rfl)
     refine ⟨hs135.same, ?_⟩
     refine cA (by kernel_rfl) ?_
     have C136 := cg [2] (ch15.n.seq (hb18.n.seq (ch109.n.seq (hb113.n.seq ((ch122.lr rfl).seq (ch133.l rfl))))))
     exact mid (g119) _ _ ⟨bH.ca C136, zs1, zs3, zs4, (Rg.ca hs135), (bx5.ca hs135), o134⟩
   ·
    refine aA (α := Int) g13 (is 3) (is 3) (3, 0) rfl [(h : Int)] Try.underlying27 am (by decide) (by decide) (vs := [(0, vi (h : Int))]) rfl rfl (.cons rfl .nil) ?_
    intro g137 w138 v139 ch140 o141
    have hs142 : bq (bW [2]) _ _ _ _ := ch140.n
    refine ⟨hs142.same, ?_⟩
    refine aW 3 rfl (by kernel_rfl) rfl ?_
    replace Rg := Rg.cn ch15
    refine bO (v := vi (bp g (h : Int))) (aD (vals := [vg [vi g.1, g_v], vi (h : Int)]) Try.func52 lN lL rfl) (gK w138 g g_v ((Rg.ca hs142)).ro (h : Int) (by omega) (by omega)) ?_
    intro w143 hb144
    replace hb144 := aG hb144 g137
    have hs145 := hs142.seq (hb144.n)
    refine ⟨hs145.same, ?_⟩
    refine aW 7 rfl (by kernel_rfl) rfl (bO (v := vi (bp g (h : Int))) (aD (vals := [vg [vi g.1, g_v], vi (h : Int)]) Try.func52 lN lL rfl) (gK w143 g g_v ((Rg.ca hs145)).ro (h : Int) (by omega) (by omega)) ?_)
    intro w146 hb147
    replace hb147 := aG hb147 g137
    have hs148 := hs145.seq (hb147.n)
    refine ⟨hs148.same, ?_⟩
    refine aW 8 rfl (by kernel_rfl) rfl ?_
    have C149 := cg [] (ch15.n.seq (ch140.n.seq (hb144.n.seq hb147.n)))
    replace o10 := o10.ca C149
    refine aJ (v := Value.pointer (some (ba v8 1 (Int.toNat (bp g (h : Int)))))) (ab (α := List Int) (xs := O) (v := v8) (i := bp g (h : Int)) Try.underlying25 rfl rfl o10.sl rfl (by omega) (by omega)) ?_
    refine ⟨hs148.same, ?_⟩
    refine aW 9 rfl (by kernel_rfl) rfl ?_
    obtain ⟨v150, cel151, r152⟩ := bY (r := bp g (h : Int)) o10 (by omega) (by omega)
    refine aJ (v := v150) (aS eU rfl cel151) ?_
    refine ⟨hs148.same, ?_⟩
    refine aW 12 rfl (by kernel_rfl) rfl ?_
    replace o141 := (o141.cn hb144).cn hb147
    refine aR (α := Int) (xs := (gI O (bp g (h : Int)))) (ys := ([(h : Int)])) g137 (J := row 2 (Int.toNat (bp g (h : Int)) + 1)) (S := row 2 (Int.toNat (bp g (h : Int)) + 1)) (2, Int.toNat (bp g (h : Int)) + 1) rfl Try.underlying27 am (by decide) rfl rfl rfl r152 o141.flat (by decide) (by (simp; omega)) ?_
    intro g153 w154 v155 ch156 o157
    have o158 := o10.rowchg ch156
    clear o10 cel151 r152
    have hs159 := hs148.seq (ch156.lr rfl)
    refine ⟨hs159.same, ?_⟩
    refine aW 13 rfl (by kernel_rfl) rfl ?_
    obtain ⟨us160, hl161, r162⟩ := o158.vc
    try simp only [List.length_set, List.length_append, List.length_cons, List.length_nil] at hl161
    refine aJ (v := Value.pointer (some (ba v8 1 (Int.toNat (bp g (h : Int)))))) (ab (α := Vc) (xs := us160) (v := v8) (i := bp g (h : Int)) Try.underlying25 rfl rfl r162 rfl (by omega) (by omega)) ?_
    refine ⟨hs159.same, ?_⟩
    refine aW 14 rfl (by kernel_rfl) rfl (bI (r := bp g (h : Int)) eU rfl rfl o158 o157 (by omega) (by omega) ?_)
    intro w166 ch167 o168
    clear o158 o157
    have hs169 := hs159.seq (ch167.l rfl)
    refine ⟨hs169.same, ?_⟩
    refine cA (by kernel_rfl) ?_
    have C170 := cg [2] (ch15.n.seq (ch140.n.seq (hb144.n.seq (hb147.n.seq ((ch156.lr rfl).seq (ch167.l rfl))))))
    exact mid (g153) _ _ ⟨bH.ca C170, zs1, zs3, zs4, (Rg.ca hs169), (bx5.ca hs169), o168⟩
  clear Rg bx5 o10 bH
  rintro g173 f171 w172 ⟨bH, zs1, zs3, zs4, Rg, bx5, o48⟩
  refine ao (a8 rfl (mz zs4 (lx (aQ (m := (h : Int)) (n := 1) rfl rfl (by omega)) (ai ((h : Int) + 1) (aa ?_)))))
  refine back3 (h + 1, (List.set O (Int.toNat (bp g (h : Int))) (gI O (bp g (h : Int)) ++ [(h : Int)])), g173) _ _ ⟨bH, zs1, zs3, rfl, Rg, bx5, o48, by omega, ?_⟩ ?_
  · show ed (List.set O (Int.toNat (bp g (h : Int))) (gI O (bp g (h : Int)) ++ [(h : Int)])) g (h + 1)
    exact hov.next hf1 hf2
  · show Int.toNat ((2 * (g.2.length : Int) : Int) - ((h + 1) : Int)) < Int.toNat ((2 * (g.2.length : Int) : Int) - (h : Int))
    omega
 refine ag rfl (df p3) (aI rfl (a9 ?_))
 clear bx5
 refine a8 rfl (mz zs3 (ma v8 (aa (av (vs := [v8]) Try.func79 (.tmp rfl .nil) ?_))))
 have e0 : (O : bj) = (cb g) := by
   exact hov.done (by omega)
 exact ⟨(fin w0 g13 (fun n => if n = 2 then 1 else 0), v8), (congrArg (a₁ := O) (fun (z0 : bj) => Ending.returned (v8)) e0), bH.fresh _, (e0 ▸ (o10.glue (γ := c0) (ren := (fun n => if n = 2 then 1 else 0)) (k := 1) bH.col rfl rfl))⟩
set_option maxHeartbeats 2000000 in
theorem qI (w0 : World) (g : (Int) × (List ((Int) × (Int)))) (g_v : Value) (hg_v : Ro w0 g_v g.2) (hmay : bx g) :
    Calls Try.prog 31 #[vg [vi g.1, g_v], vn, vn] w0 (fun ee w => ∃ xx : aE × Value, ee = .returned ((fun ⟨δ, rv0⟩ => vt [rv0, vi ((bC g).2.1)]) xx) ∧ (fun (⟨δ, rv0⟩ : aE × Value) (w : World) => cC w0 δ w ∧ Ow δ (is 1) (is 1) w rv0 ((bC g).1)) xx w) := by
 refine az Try.func31 rfl (Nat.le_of_ble_eq_true rfl) ?_
 have bH := b9.start w0
 have Rg := hg_v.sl
 have hm0 := hmay
 obtain ⟨hm1, hm2, hm3, hm4⟩ := hm0
 have hfl := qP g hm1
 refine a9 (a8 rfl (cr rfl (bR c0 (is 1) (1, 0) rfl rfl ?_)))
 intro g4 w1 b3 ch2 bx5
 replace bx5 : Bx g4 (is 1) w1 b3 [vi g.1, g_v] := bx5
 refine ma vn (ai 0 (aa (a9 (a8 rfl (lx (ad Try.underlying24 rfl rfl rfl rfl) (lx (af am rfl bx5 rfl) (lo (aV (aD (vals := [vi g.1, vi (-1)]) Try.func78 vS ws rfl) (rS w1 g.1 (-1) (by omega)) ?_))))))))
 rintro ⟨d7, v9⟩ w6 ⟨fr8, o10⟩
 obtain ⟨g11, ch12, G11⟩ := dw g4 fr8 (fun n => if n = 1 then 2 else 0)
 replace o10 := o10.gl G11 2
 refine ma v9 (aa (a9 (a8 rfl (ai 0 (aa (a9 (a8 rfl ?_)))))))
 replace bx5 := bx5.cn ch12
 refine lx (aq (ds := [vi g.1, g_v]) ak rfl bx5 rfl rfl) ?_
 replace Rg := (Rg.cn ch2).cn ch12
 refine lo (aV (aD (vals := [vg [vi g.1, g_v]]) Try.func79 vU vM rfl) (rQ w6 g g_v (Rg).ro ‹_›) ?_)
 rintro ⟨d14, v16⟩ w13 ⟨fr15, o17⟩
 obtain ⟨g18, ch19, G18⟩ := dw g11 fr15 (fun n => if n = 1 then 3 else 0)
 replace o17 := o17.gl G18 3
 refine ma v16 (aa (a9 (a9 (a8 rfl (ai 0 (aa (ah ?_)))))))
 refine aN (σ := Nat × Nat × (List Int) × aE) (fun ⟨q, n, c, gq⟩ f w => b9 w0 gq w ∧ f 1 = vn ∧ f 2 = vn ∧ f 3 = vp b3 0 ∧ f 8 = v9 ∧ f 9 = vi (n : Int) ∧ f 10 = v16 ∧ f 11 = vi (q : Int) ∧ Sl gq (is 0) w g_v g.2 ∧ Bx gq (is 1) w b3 [vi g.1, g_v] ∧ Ow gq (is 2) (is 2) w v9 c ∧ cj gq 3 w v16 (cb g) ∧ (q : Int) ≤ (g.1 : Int) ∧ (c = (bJ g q).1 ∧ n = (bJ g q).2)) (fun ⟨q, n, c, gq⟩ => Int.toNat ((g.1 : Int) - (q : Int))) (0, 0, List.replicate g.1.toNat (-1), g18) ?_ ?_
 have C20 := cg [] (ch2.n.seq (ch12.n.seq ch19.n))
 · exact ⟨bH.ca C20, rfl, rfl, rfl, rfl, rfl, rfl, rfl, Rg.cn ch19, bx5.cn ch19, o10.cn ch19, o17, by omega, by exact ⟨rfl, rfl⟩⟩
 clear Rg bx5 o10 o17 bH
 rintro ⟨q, n, c, g23⟩ f21 w22 ⟨bH, zs1, zs2, zs3, zs8, zs9, zs10, zs11, Rg, bx5, o10, o17, hle_q, hinv⟩ back5
 have hpl := iH g q
 have hcl : (c.length : Int) = g.1 := by rw [hinv.1, hpl.1]; omega
 have hi2 := hinv.2
 refine a9 (a9 (a8 rfl (mz zs11 (lx (ad Try.underlying24 rfl rfl zs3 rfl) (lx (af am rfl bx5 rfl) (lx (bc (m := (q : Int)) (n := g.1) rfl rfl) (aa ?_)))))))
 by_cases p5 : (q : Int) < g.1
 ·
  refine ae rfl (dt p5) (aj (a9 (ah (a9 (a9 (a8 rfl (mz zs8 (mz zs11 (lx (ab (v := v9) (i := (q : Int)) Try.underlying27 rfl rfl o10.flat rfl (by omega) (by omega)) (lx (ay (v := v9) (i := (q : Int)) am rfl o10.flat (by omega) (by omega) (by decide) rfl) (lx (dy (m := (gI c (q : Int))) (n := 0) rfl rfl) ?_)))))))))))
  refine mv (Value.bool (decide (0 ≤ (gI c (q : Int))))) ?_
  by_cases q32 : 0 ≤ (gI c (q : Int))
  ·
   refine al (wn (dt q32)) (al (wn (dt q32)) (al (wn (dt q32)) (al (dc rfl rfl rfl) (al (dc rfl rfl rfl) (al (dc rfl rfl rfl) (al (dc rfl rfl rfl) (al (wn (dt q32)) (lw (Value.bool true) (aY rfl (dt q32) rfl) (aa ?_)))))))))
   refine ae rfl rfl (aI rfl (a8 rfl (mz zs11 (lx (aQ (m := (q : Int)) (n := 1) rfl rfl (by omega)) (ai ((q : Int) + 1) (aa ?_))))))
   refine back5 (q + 1, n, c, g23) _ _ ⟨bH, zs1, zs2, zs3, zs8, zs9, zs10, rfl, Rg, bx5, o10, o17, by omega, ?_⟩ ?_
   · show c = (bJ g (q + 1)).1 ∧ n = (bJ g (q + 1)).2
     exact la hinv ‹_›
   · show Int.toNat ((g.1 : Int) - ((q + 1) : Int)) < Int.toNat ((g.1 : Int) - (q : Int))
     omega
  refine lv vn (wy (df q32)) (au zs1) (lv (Value.bool false) (wy (df q32)) (iR Try.underlying75 rfl rfl) (lv (Value.bool false) (wy (df q32)) (au rfl) (al (wn rfl) (al (wn rfl) (al (wn rfl) (al (wn rfl) (lv (Value.bool false) (wy (df q32)) (b7 rfl rfl rfl) (lw (Value.bool false) (b7 rfl (df q32) rfl) (aa (ag rfl rfl (aj (a9 (a8 rfl ?_)))))))))))))
  refine mz zs11 (lo (aA (α := Int) g23 (is 4) (is 4) (4, 0) rfl [(q : Int)] Try.underlying27 am (by decide) (by decide) (vs := [(0, vi (q : Int))]) rfl rfl (.cons rfl .nil) ?_))
  intro g24 w25 v26 ch27 o28
  refine ma v26 (aa (a9 (a8 rfl (mz zs8 (mz zs11 (mz zs9 ?_))))))
  replace o10 := o10.cn ch27
  refine lx (ab (v := v9) (i := (q : Int)) Try.underlying27 rfl rfl o10.flat rfl (by omega) (by omega)) (lo (bP (i := (q : Int)) (n : Int) am rfl rfl o10 (by omega) (by omega) rfl ?_))
  intro w29 ch30 bx31
  clear o10
  refine aa (a9 (ah ?_))
  refine aN (σ := Value × (List Int) × (List Int) × aE) (fun ⟨todo1_v, todo1, c1, gq⟩ f w => b9 w0 gq w ∧ f 1 = vn ∧ f 2 = vn ∧ f 3 = vp b3 0 ∧ f 8 = v9 ∧ f 9 = vi (n : Int) ∧ f 10 = v16 ∧ f 11 = vi (q : Int) ∧ f 12 = todo1_v ∧ Sl gq (is 0) w g_v g.2 ∧ Bx gq (is 1) w b3 [vi g.1, g_v] ∧ cj gq 3 w v16 (cb g) ∧ Ow gq (is 2) (is 2) w v9 c1 ∧ Ow gq (is 4) (is 4) w todo1_v todo1 ∧ (eF g c c1 todo1 [] n (q : Int))) (fun ⟨todo1_v, todo1, c1, gq⟩ => List.length todo1 + 2 * jF c1) (v26, [(q : Int)], (List.set c (Int.toNat (q : Int)) (n : Int)), g24) ?_ ?_
  replace bH := bH.cn ch27
  · exact ⟨bH.ce ch30, zs1, zs2, zs3, zs8, zs9, zs10, zs11, rfl, (Rg.cn ch27).ce ch30, (bx5.cn ch27).ce ch30, (o17.cn ch27).ce ch30, bx31, o28.ce ch30, by exact eF.start hmay (by omega) hinv ‹_›⟩
  clear Rg bx5 o17 o28 bx31 bH
  rintro ⟨todo1_v, todo1, c1, g34⟩ f32 w33 ⟨bH, zs1, zs2, zs3, zs8, zs9, zs10, zs11, zs12, Rg, bx5, o17, bx31, o_todo1, hdf⟩ back10
  have hcl1 := hdf.len
  have htb := hdf.bd
  refine a9 (a9 (a8 rfl (mz zs12 ?_)))
  have len35 := (o_todo1.flat).small
  refine lx (aO Try.underlying27 rfl o_todo1.flat) (lx (fW (m := (todo1.length : Int)) (n := 0) rfl rfl) (aa ?_))
  by_cases p10 : 0 < (todo1.length : Int)
  ·
   refine ae rfl (dt p10) (aj (ah (a9 (a8 rfl (mz zs12 (mz zs12 (lx (aO Try.underlying27 rfl o_todo1.flat) (lx (eR (m := (todo1.length : Int)) (n := 1) rfl rfl (by omega)) (lx (ab (v := todo1_v) (i := (todo1.length : Int) - 1) Try.underlying27 rfl rfl o_todo1.flat rfl (by omega) (by omega)) (lx (ay (v := todo1_v) (i := (todo1.length : Int) - 1) am rfl o_todo1.flat (by omega) (by omega) (by decide) rfl) ?_))))))))))
   refine ai (gI todo1 ((todo1.length : Int) - 1)) (aa (a9 (a8 rfl (mz zs12 (mz zs12 (lx (aO Try.underlying27 rfl o_todo1.flat) (lx (eR (m := (todo1.length : Int)) (n := 1) rfl rfl (by omega)) (lw ((db todo1_v 1 (Int.toNat 0) (Int.toNat ((todo1.length : Int) - 1)))) (eI (v := todo1_v) (l := 0) (h := (todo1.length : Int) - 1) Try.underlying27 rfl rfl o_todo1.flat (.inr ⟨rfl, rfl⟩) (.inl (congrArg some rfl)) (by omega) (by omega) (by omega)) ?_))))))))
   have r37 := wx o_todo1 (show Int.toNat ((todo1.length : Int) - 1) ≤ List.length _ by omega)
   refine ma ((db todo1_v 1 (Int.toNat 0) (Int.toNat ((todo1.length : Int) - 1)))) (aa (a9 ?_))
   clear o_todo1
   refine a8 rfl (ai 0 (aa (ah ?_)))
   refine aN (σ := Nat × Value × (List Int) × (List Int) × aE) (fun ⟨k, todo2_v, todo2, c2, gq⟩ f w => b9 w0 gq w ∧ f 1 = vn ∧ f 2 = vn ∧ f 3 = vp b3 0 ∧ f 8 = v9 ∧ f 9 = vi (n : Int) ∧ f 10 = v16 ∧ f 11 = vi (q : Int) ∧ f 12 = todo2_v ∧ f 13 = vi (gI todo1 ((todo1.length : Int) - 1)) ∧ f 14 = vi (k : Int) ∧ Sl gq (is 0) w g_v g.2 ∧ Bx gq (is 1) w b3 [vi g.1, g_v] ∧ cj gq 3 w v16 (cb g) ∧ Ow gq (is 2) (is 2) w v9 c2 ∧ Ow gq (is 4) (is 4) w todo2_v todo2 ∧ (k : Int) ≤ ((List.length (gI (cb g) (gI todo1 ((todo1.length : Int) - 1))) : Int) : Int) ∧ (hH g c c2 todo2 n (q : Int) (gI todo1 ((todo1.length : Int) - 1)) k (List.length todo1 + 2 * jF c1))) (fun ⟨k, todo2_v, todo2, c2, gq⟩ => Int.toNat (((List.length (gI (cb g) (gI todo1 ((todo1.length : Int) - 1))) : Int) : Int) - (k : Int))) (0, (db todo1_v 1 (Int.toNat 0) (Int.toNat ((todo1.length : Int) - 1))), (List.take (Int.toNat ((todo1.length : Int) - 1)) todo1), c1, g34) ?_ ?_
   · exact ⟨bH, zs1, zs2, zs3, zs8, zs9, zs10, zs11, rfl, rfl, rfl, Rg, bx5, o17, bx31, r37, by omega, by (have h0 := hdf.row (by omega); rwa [show List.length todo1 - 1 = ((todo1.length : Int) - 1).toNat by omega] at h0)⟩
   clear Rg bx5 o17 bx31 r37 bH
   rintro ⟨k, todo2_v, todo2, c2, g40⟩ f38 w39 ⟨bH, zs1, zs2, zs3, zs8, zs9, zs10, zs11, zs12, zs13, zs14, Rg, bx5, o17, bx31, o_todo2, hle_k, hrow⟩ back14
   have hcl2 := hrow.inv.len
   have htb2 := hrow.inv.bd
   obtain ⟨hvd1, hvd2⟩ := hrow.vd
   have hfg := s3 (g := g) hvd1 hvd2
   refine a9 (a9 (a8 rfl (mz zs14 (mz zs10 (mz zs13 (lx (ab (v := v16) (i := (gI todo1 ((todo1.length : Int) - 1))) Try.underlying25 rfl rfl o17.sl rfl (by omega) (by omega)) ?_))))))
   obtain ⟨v41, cel42, r43⟩ := bY (r := (gI todo1 ((todo1.length : Int) - 1))) o17 (by omega) (by omega)
   refine lx (aS eU rfl cel42) ?_
   have len44 := (r43.row_sl).small
   refine lx (aO Try.underlying27 rfl r43.row_sl) (lx (bc (m := (k : Int)) (n := (List.length (gI (cb g) (gI todo1 ((todo1.length : Int) - 1))) : Int)) rfl rfl) (aa ?_))
   by_cases p14 : (k : Int) < (List.length (gI (cb g) (gI todo1 ((todo1.length : Int) - 1))) : Int)
   ·
    refine ae rfl (dt p14) ?_
    have hkl : (k : Int) < (cZ g (gI todo1 ((todo1.length : Int) - 1))).length := by rw [← hfg]; assumption
    obtain ⟨hr1, hr2⟩ := (f4 (bu (xs := cZ g (gI todo1 ((todo1.length : Int) - 1))) (i := (k : Int)) (by omega) hkl)).1
    rw [← hfg] at hr1 hr2
    obtain ⟨hto1, hto2⟩ := gj hmay hr1 hr2
    refine aj (a9 (ah (a9 ?_)))
    clear cel42 r43
    refine ck g40 rfl pp (by kernel_rfl) ?_
    intro w46 ch45
    replace bx5 := bx5.cn ch45
    refine qx (fun w' hw' => aq (ds := [vi g.1, g_v]) ak zs3 (bx5.bel hw') rfl rfl) (qz zs10 (qz zs13 ?_))
    replace o17 := o17.cn ch45
    refine qx (fun w' hw' => ab (v := v16) (i := (gI todo1 ((todo1.length : Int) - 1))) Try.underlying25 rfl rfl (o17.sl.bel hw') rfl (by omega) (by omega)) ?_
    obtain ⟨v47, cel48, r49⟩ := bY (r := (gI todo1 ((todo1.length : Int) - 1))) o17 (by omega) (by omega)
    refine qx (fun w' hw' => aS eU rfl (cX cel48 hw')) (qz zs14 (qx (fun w' hw' => ab (v := v47) (i := (k : Int)) Try.underlying27 rfl rfl (r49.row_sl.bel hw') rfl (by omega) (by omega)) (qx (fun w' hw' => ay (v := v47) (i := (k : Int)) am rfl (r49.row_sl.bel hw') (by omega) (by omega) (by decide) rfl) ?_)))
    replace Rg := Rg.cn ch45
    refine eL (v := vi (dO g (gI (gI (cb g) (gI todo1 ((todo1.length : Int) - 1))) (k : Int)))) rfl (fun w' hw' => aD (vals := [vg [vi g.1, g_v], vi (gI (gI (cb g) (gI todo1 ((todo1.length : Int) - 1))) (k : Int))]) Try.func80 wL vG rfl) (fun w' hw' => (wt w' g g_v ((Rg.bel hw')).ro (gI (gI (cb g) (gI todo1 ((todo1.length : Int) - 1))) (k : Int)) (by omega) (by omega)).mono fun e w2 h2 => ⟨h2.1, hw'.trans (h2.2.mono hw'.size)⟩) (qv (vi (dO g (gI (gI (cb g) (gI todo1 ((todo1.length : Int) - 1))) (k : Int)))) (fun w' hw' => bz rfl) (cV ?_))
    intro w50 hc51
    replace hc51 := aG hc51 g40
    refine a9 (a9 ?_)
    clear cel48 r49
    refine a8 rfl (mz zs8 (mi (dO g (gI (gI (cb g) (gI todo1 ((todo1.length : Int) - 1))) (k : Int))) ?_))
    replace bx31 := (bx31.cn ch45).cn hc51
    refine lx (ab (v := v9) (i := dO g (gI (gI (cb g) (gI todo1 ((todo1.length : Int) - 1))) (k : Int))) Try.underlying27 rfl rfl bx31.flat rfl (by omega) (by omega)) (lx (ay (v := v9) (i := dO g (gI (gI (cb g) (gI todo1 ((todo1.length : Int) - 1))) (k : Int))) am rfl bx31.flat (by omega) (by omega) (by decide) rfl) (lx (dy (m := (gI c2 (dO g (gI (gI (cb g) (gI todo1 ((todo1.length : Int) - 1))) (k : Int))))) (n := 0) rfl rfl) (mv (Value.bool (decide (0 ≤ (gI c2 (dO g (gI (gI (cb g) (gI todo1 ((todo1.length : Int) - 1))) (k : Int))))))) ?_)))
    by_cases q85 : 0 ≤ (gI c2 (dO g (gI (gI (cb g) (gI todo1 ((todo1.length : Int) - 1))) (k : Int))))
    ·
     refine al (wn (dt q85)) (al (wn (dt q85)) (al (wn (dt q85)) (al (dc rfl rfl rfl) (al (dc rfl rfl rfl) (al (dc rfl rfl rfl) (al (dc rfl rfl rfl) (al (wn (dt q85)) (lw (Value.bool true) (aY rfl (dt q85) rfl) (mv (Value.bool true) ?_)))))))))
     refine al (wn rfl) (al (wn rfl) (al (wn rfl) (al (dc rfl rfl rfl) (al (dc rfl rfl rfl) (al (dc rfl rfl rfl) (al (dc rfl rfl rfl) (al (dc rfl rfl rfl) (al (dc rfl rfl rfl) (al (dc rfl rfl rfl) (al (dc rfl rfl rfl) (al (dc rfl rfl rfl) ?_)))))))))))
     refine al (dc rfl rfl rfl) (al (dc rfl rfl rfl) (al (wn rfl) (lw (Value.bool true) (aY rfl rfl rfl) (aa (ae rfl rfl (aI rfl (a8 rfl (mz zs14 (lx (aQ (m := (k : Int)) (n := 1) rfl rfl (by omega)) ?_)))))))))
     refine ai ((k : Int) + 1) (aa ?_)
     replace bH := bH.cn ch45
     refine back14 (k + 1, todo2_v, todo2, c2, g40) _ _ ⟨bH.cn hc51, zs1, zs2, zs3, zs8, zs9, zs10, zs11, zs12, zs13, rfl, Rg.cn hc51, bx5.cn hc51, o17.cn hc51, bx31, (o_todo2.cn ch45).cn hc51, by omega, ?_⟩ ?_
     · show hH g c c2 todo2 n (q : Int) (gI todo1 ((todo1.length : Int) - 1)) (k + 1) (List.length todo1 + 2 * jF c1)
       exact hrow.skip (by rw [← hfg]; assumption)
     · show Int.toNat (((List.length (gI (cb g) (gI todo1 ((todo1.length : Int) - 1))) : Int) : Int) - ((k + 1) : Int)) < Int.toNat (((List.length (gI (cb g) (gI todo1 ((todo1.length : Int) - 1))) : Int) : Int) - (k : Int))
       omega
    refine lv vn (wy (df q85)) (au zs1) (lv (Value.bool false) (wy (df q85)) (iR Try.underlying75 rfl rfl) (lv (Value.bool false) (wy (df q85)) (au rfl) (al (wn rfl) (al (wn rfl) (al (wn rfl) (al (wn rfl) (lv (Value.bool false) (wy (df q85)) (b7 rfl rfl rfl) (lw (Value.bool false) (b7 rfl (df q85) rfl) (mv (Value.bool false) (lv vn (wy rfl) (au zs2) (lv (Value.bool false) (wy rfl) (iR Try.underlying75 rfl rfl) (lv (Value.bool false) (wy rfl) (au rfl) ?_))))))))))))
    refine al (wn rfl) (al (wn rfl) (al (wn rfl) (al (wn rfl) (al (wn rfl) (al (wn rfl) (al (wn rfl) (al (wn rfl) (al (wn rfl) (al (wn rfl) (al (wn rfl) (lv (Value.bool false) (wy rfl) (b7 rfl rfl rfl) (lw (Value.bool false) (b7 rfl rfl rfl) (aa (ag rfl rfl (aj (a9 (a8 rfl (mz zs8 (mi (dO g (gI (gI (cb g) (gI todo1 ((todo1.length : Int) - 1))) (k : Int))) (mz zs9 ?_))))))))))))))))))))
    refine lx (ab (v := v9) (i := dO g (gI (gI (cb g) (gI todo1 ((todo1.length : Int) - 1))) (k : Int))) Try.underlying27 rfl rfl bx31.flat rfl (by omega) (by omega)) (lo (bP (i := dO g (gI (gI (cb g) (gI todo1 ((todo1.length : Int) - 1))) (k : Int))) (n : Int) am rfl rfl bx31 (by omega) (by omega) rfl ?_))
    intro w52 ch53 bx54
    clear bx31
    refine aa (a8 rfl (mz zs12 (mi (dO g (gI (gI (cb g) (gI todo1 ((todo1.length : Int) - 1))) (k : Int))) (lo (aA (α := Int) g40 (is 5) (is 5) (5, 0) rfl [dO g (gI (gI (cb g) (gI todo1 ((todo1.length : Int) - 1))) (k : Int))] Try.underlying27 am (by decide) (by decide) (vs := [(0, vi (dO g (gI (gI (cb g) (gI todo1 ((todo1.length : Int) - 1))) (k : Int))))]) rfl rfl (.cons rfl .nil) ?_)))))
    intro g55 w56 v57 ch58 o59
    refine lo ?_
    have C60 := cg [2] (ch45.n.seq (hc51.n.seq ((ch53.l rfl).seq ch58.n)))
    replace o_todo2 := o_todo2.ca C60
    refine aR (α := Int) (xs := todo2) (ys := ([dO g (gI (gI (cb g) (gI todo1 ((todo1.length : Int) - 1))) (k : Int))])) g55 (J := is 4) (S := is 4) (4, 0) rfl Try.underlying27 am (by decide) rfl rfl rfl o_todo2 o59.flat (by decide) (by (simp; omega)) ?_
    intro g61 w62 v63 ch64 o65
    clear o_todo2
    refine ma v63 (aa (ao ?_))
    clear o59
    refine a8 rfl (mz zs14 (lx (aQ (m := (k : Int)) (n := 1) rfl rfl (by omega)) (ai ((k : Int) + 1) (aa ?_))))
    have C67 := cg [2, 4] (hc51.n.seq ((ch53.l rfl).seq (ch58.n.seq (ch64.l rfl))))
    have C66 := ch45.n.seq C67
    refine back14 (k + 1, v63, (todo2 ++ [dO g (gI (gI (cb g) (gI todo1 ((todo1.length : Int) - 1))) (k : Int))]), (List.set c2 (Int.toNat (dO g (gI (gI (cb g) (gI todo1 ((todo1.length : Int) - 1))) (k : Int)))) (n : Int)), g61) _ _ ⟨bH.ca C66, zs1, zs2, zs3, zs8, zs9, zs10, zs11, rfl, zs13, rfl, Rg.ca C67, bx5.ca C67, o17.ca C67, (bx54.cn ch58).ce ch64, o65, by omega, ?_⟩ ?_
    · show hH g c (List.set c2 (Int.toNat (dO g (gI (gI (cb g) (gI todo1 ((todo1.length : Int) - 1))) (k : Int)))) (n : Int)) (todo2 ++ [dO g (gI (gI (cb g) (gI todo1 ((todo1.length : Int) - 1))) (k : Int))]) n (q : Int) (gI todo1 ((todo1.length : Int) - 1)) (k + 1) (List.length todo1 + 2 * jF c1)
      (rw [hfg]; exact hrow.push hmay hkl (by rw [← hfg]; assumption))
    · show Int.toNat (((List.length (gI (cb g) (gI todo1 ((todo1.length : Int) - 1))) : Int) : Int) - ((k + 1) : Int)) < Int.toNat (((List.length (gI (cb g) (gI todo1 ((todo1.length : Int) - 1))) : Int) : Int) - (k : Int))
      omega
   refine ag rfl (df p14) (aI rfl (ao ?_))
   refine back10 (todo2_v, todo2, c2, g40) _ _ ⟨bH, zs1, zs2, zs3, zs8, zs9, zs10, zs11, zs12, Rg, bx5, o17, bx31, o_todo2, ?_⟩ ?_
   · show eF g c c2 todo2 [] n (q : Int)
     exact hrow.done (by rw [← hfg]; assumption)
   · show List.length todo2 + 2 * jF c2 < List.length todo1 + 2 * jF c1
     (have h1 := hrow.meas; omega)
  refine ag rfl (df p10) (aI rfl ?_)
  clear o_todo1
  refine a8 rfl (mz zs9 (lx (aQ (m := (n : Int)) (n := 1) rfl rfl (by omega)) (ai ((n : Int) + 1) (aa (ao (a8 rfl (mz zs11 (lx (aQ (m := (q : Int)) (n := 1) rfl rfl (by omega)) (ai ((q : Int) + 1) ?_)))))))))
  refine aa ?_
  refine back5 (q + 1, n + 1, c1, g34) _ _ ⟨bH, zs1, zs2, zs3, zs8, rfl, zs10, rfl, Rg, bx5, bx31, o17, by omega, ?_⟩ ?_
  · show c1 = (bJ g (q + 1)).1 ∧ (n + 1) = (bJ g (q + 1)).2
    exact hdf.done hmay (by omega) hinv ‹_›
  · show Int.toNat ((g.1 : Int) - ((q + 1) : Int)) < Int.toNat ((g.1 : Int) - (q : Int))
    omega
 refine ag rfl (df p5) (aI rfl (a9 ?_))
 clear bx5 o17
 refine a8 rfl (mz zs8 (mz zs9 (ma v9 (ai (n : Int) (aa (av (vs := [v9, vi (n : Int)]) Try.func31 (.tmp rfl (.tmp rfl .nil)) ?_))))))
 have e0 : (c : List Int) = ((bC g).1) := by
   exact (fQ hmay (by omega) hinv).1
 have e1 : ((n : Int) : Int) = ((bC g).2.1) := by
   exact (fQ hmay (by omega) hinv).2.1
 exact ⟨(fin w0 g23 (fun n => if n = 2 then 1 else 0), v9), (ci (a := c) (b := (n : Int)) (fun (z0 : List Int) (z1 : Int) => Ending.returned (vt [v9, vi z1])) e0 e1), bH.fresh _, (e0 ▸ (o10.glue (γ := c0) (ren := (fun n => if n = 2 then 1 else 0)) (k := 1) bH.col rfl rfl))⟩
end TL
