import Derived.Test.YtilohhkbelkmdaaTlP3
import Derived.Test.YtilohhkbelkmdaaTlGenX
import Derived.Test.YtilohhkbelkmdaaProg
set_option linter.all false
set_option maxRecDepth 20000
namespace TL
open Go Go.Proofs
theorem je : Try.prog.follows .mixedOrders = true := by kernel_rfl
theorem cW : Tp Try.prog 25 false 1 24 (.slice none 0 0) := Tp.of (by kernel_rfl)
theorem ef : Tp Try.prog 109 true 4 96 (.agg #[.slice none 0 0, .slice none 0 0, .slice none 0 0, .slice none 0 0]) := Tp.of (by kernel_rfl)
theorem vH : Try.f97.body.isNone = false := rfl
theorem wJ : (Try.f97.name == "runtime.NumGoroutine") = false := by decide +kernel
theorem pf : Try.f98.body.isNone = false := rfl
theorem oD : (Try.f98.name == "runtime.NumGoroutine") = false := by decide +kernel
theorem wN : Try.f99.body.isNone = false := rfl
theorem vE : (Try.f99.name == "runtime.NumGoroutine") = false := by decide +kernel
theorem tq : Try.f107.body.isNone = false := rfl
theorem u4 : (Try.f107.name == "runtime.NumGoroutine") = false := by decide +kernel
theorem mO : Try.f108.body.isNone = false := rfl
theorem nm : (Try.f108.name == "runtime.NumGoroutine") = false := by decide +kernel
theorem uT : Try.f109.body.isNone = false := rfl
theorem ug : (Try.f109.name == "runtime.NumGoroutine") = false := by decide +kernel
theorem jL (w0 : World) (n : Int) (x : Int) (hn : 0 ≤ n ∧ n ≤ 1000000) :
    Calls Try.prog 98 #[vi n, vi x] w0 (fun ee w => ∃ xx : aE × Value, ee = .returned ((fun ⟨δ, rv0⟩ => rv0) xx) ∧ (fun (⟨δ, rv0⟩ : aE × Value) (w : World) => cC w0 δ w ∧ Ow δ (is 1) (is 1) w rv0 (List.replicate n.toNat x)) xx w) := by
 refine az Try.func98 rfl (Nat.le_of_ble_eq_true rfl) ?_
 have bH := b9.start w0
 obtain ⟨hn1, hn2⟩ := hn
 have hrep : ((List.replicate n.toNat (0 : Int)).length : Int) = n := by simp; omega
 refine a9 (a8 rfl (ma vn (aa (a9 (a8 rfl (mi n (lo (dE (α := Int) (l := n) (cp := n) c0 (is 1) (is 1) (1, 0) rfl (0 : Int) Try.underlying27 am rfl rfl rfl (by omega) (by omega) (by omega) (by omega) ?_))))))))
 intro g1 w2 v3 ch4 o5 _
 refine ma v3 (aa (a9 (a9 (a8 rfl (mv v3 ?_)))))
 have len6 := (o5.flat).small
 refine lx (aO Try.underlying27 rfl o5.flat) (mi 0 (aa (ah ?_)))
 refine aN (σ := Nat × (List Int) × aE) (fun ⟨k, l, gq⟩ f w => b9 w0 gq w ∧ f 1 = vi x ∧ f 5 = v3 ∧ f 10 = vi (List.length (List.replicate (Int.toNat n) (0 : Int)) : Int) ∧ f 11 = vi (k : Int) ∧ Ow gq (is 1) (is 1) w v3 l ∧ (k : Int) ≤ ((List.length (List.replicate (Int.toNat n) (0 : Int)) : Int) : Int) ∧ (l = List.replicate k x ++ List.replicate (n.toNat - k) 0 ∧ (k : Int) ≤ n)) (fun ⟨k, l, gq⟩ => Int.toNat (((List.length (List.replicate (Int.toNat n) (0 : Int)) : Int) : Int) - (k : Int))) (0, (List.replicate (Int.toNat n) (0 : Int)), g1) ?_ ?_
 · exact ⟨bH.cn ch4, rfl, rfl, rfl, rfl, o5, by omega, by exact ⟨by simp, by omega⟩⟩
 clear o5 bH
 rintro ⟨k, l, g9⟩ f7 w8 ⟨bH, zs1, zs5, zs10, zs11, o5, hle_k, hinv⟩ back3
 have hll : l.length = n.toNat := by rw [hinv.1]; simp; omega
 refine a9 (a8 rfl (lx (bc (m := (k : Int)) (n := (List.length (List.replicate (Int.toNat n) (0 : Int)) : Int)) zs11 zs10) (aa (a9 ?_))))
 by_cases p3 : (k : Int) < (List.length (List.replicate (Int.toNat n) (0 : Int)) : Int)
 ·
  refine ae rfl (dt p3) (aj (a9 (ah (a9 (a8 rfl (mz zs11 (ai (k : Int) (aa (a8 rfl (mz zs5 (mi (k : Int) ?_)))))))))))
  refine mz zs1 (lx (ab (v := v3) (i := (k : Int)) Try.underlying27 rfl rfl o5.flat rfl (by omega) (by omega)) (lo (bP (i := (k : Int)) x am rfl rfl o5 (by omega) (by omega) rfl ?_)))
  intro w10 ch11 bx12
  clear o5
  refine aa (ao (a8 rfl (lx (aQ (m := (k : Int)) (n := 1) zs11 rfl (by omega)) (mi ((k : Int) + 1) (aa ?_)))))
  refine back3 (k + 1, (List.set l (Int.toNat (k : Int)) x), g9) _ _ ⟨bH.ce ch11, zs1, zs5, zs10, rfl, bx12, by omega, ?_⟩ ?_
  · show (List.set l (Int.toNat (k : Int)) x) = List.replicate (k + 1) x ++ List.replicate (n.toNat - (k + 1)) 0 ∧ ((k + 1) : Int) ≤ n
    have hk1 : k < n.toNat := by simp at *; omega
    refine ⟨by rw [hinv.1]; exact iG hk1, by omega⟩
  · show Int.toNat (((List.length (List.replicate (Int.toNat n) (0 : Int)) : Int) : Int) - ((k + 1) : Int)) < Int.toNat (((List.length (List.replicate (Int.toNat n) (0 : Int)) : Int) : Int) - (k : Int))
    omega
 refine ag rfl (df p3) (aI rfl (a9 (a8 rfl (mz zs5 (ma v3 (aa (av (vs := [v3]) Try.func98 (.tmp rfl .nil) ?_)))))))
 have e0 : (l : List Int) = (List.replicate n.toNat x) := by
   obtain ⟨h1, h2⟩ := hinv
   have hk : k = n.toNat := by simp at *; omega
   subst hk; rw [h1]; simp
 exact ⟨(fin w0 g9 (fun n => if n = 1 then 1 else 0), v3), (congrArg (a₁ := l) (fun (z0 : List Int) => Ending.returned (v3)) e0), bH.fresh _, (e0 ▸ (o5.glue (γ := c0) (ren := (fun n => if n = 1 then 1 else 0)) (k := 1) bH.col rfl rfl))⟩
set_option maxHeartbeats 1000000 in
theorem rL (w0 : World) (g : (Int) × (List ((Int) × (Int)))) (g_v : Value) (hg_v : Ro w0 g_v g.2) :
    Calls Try.prog 74 #[vg [vi g.1, g_v]] w0 (fun ee w => ∃ xx : aE × Value, ee = .returned ((fun ⟨δ, rv0⟩ => vt [rv0, vi ((bC g).2.1), vi ((bC g).2.2)]) xx) ∧ (fun (⟨δ, rv0⟩ : aE × Value) (w : World) => cC w0 δ w ∧ Ow δ (is 1) (is 1) w rv0 ((bC g).1)) xx w) := by
 refine az Try.func74 rfl (Nat.le_of_ble_eq_true rfl) ?_
 have bH := b9.start w0
 have Rg := hg_v.sl
 refine a9 (a8 rfl (cr rfl (bR c0 (is 1) (1, 0) rfl rfl ?_)))
 intro g4 w1 b3 ch2 bx5
 replace bx5 : Bx g4 (is 1) w1 b3 [vi g.1, g_v] := bx5
 refine ma vn (ai 0 (ai 0 (aa (a9 (a9 (a8 rfl (lx (aq (ds := [vi g.1, g_v]) ak rfl bx5 rfl rfl) ?_)))))))
 replace Rg := Rg.cn ch2
 refine lo (bO (v := Value.bool (cD g)) (aD (vals := [vg [vi g.1, g_v]]) Try.func53 ll l5 rfl) (ld w1 g g_v (Rg).ro) ?_)
 intro w6 hb7
 replace hb7 := aG hb7 g4
 refine lx (dr (b := (cD g)) rfl) (aa ?_)
 by_cases p1 : (cD g) = true
 ·
  have hm := of_decide_eq_true p1
  have hm0 := hm
  obtain ⟨hm1, hm2, hm3, hm4⟩ := hm0
  refine ag rfl (congrArg Bool.not p1) (aj (a9 (a8 rfl ?_)))
  replace bx5 := bx5.cn hb7
  refine lx (aq (ds := [vi g.1, g_v]) ak rfl bx5 rfl rfl) (lo (dv (aD (vals := [vg [vi g.1, g_v]]) Try.func97 vH wJ rfl) (az Try.func97 rfl (Nat.le_of_ble_eq_true rfl) ?_)))
  replace Rg := Rg.cn hb7
  refine a9 (a8 rfl (cr rfl (bR g4 (is 2) (2, 0) rfl rfl ?_)))
  intro g11 w8 b10 ch9 bx12
  replace bx12 : Bx g11 (is 2) w8 b10 [vi g.1, g_v] := bx12
  refine ma ((Value.pointer none)) (aa (a9 (ch g11 [0, 1, 2, 4, 6] je ?_)))
  intro w14 ch13
  replace bx12 := bx12.cn ch13
  refine xh 0 [1, 2, 3] rfl (fun w' hw' => aq (ds := [vi g.1, g_v]) ak rfl (bx12.bel hw') rfl rfl) (xp 1 rfl (fun w => ad Try.underlying24 rfl rfl rfl rfl) (xv 2 [1, 0] rfl (af am rfl bx12 rfl) (bM 3 rfl (by kernel_rfl) rfl (dB (α := Int) (n := g.1) (cp := g.1) g11 3 Try.underlying25 aL rfl rfl rfl (by omega) (by omega) (by omega) (by omega) ?_))))
  intro g15 w16 v17 ch18 o19
  have C20 := cg [] (ch9.n.seq (ch13.n.seq ch18.n))
  replace Rg := Rg.ca C20
  refine xp (v := vg [vi g.1, g_v, v17]) 4 rfl (fun w => bn (vs := [(0, vg [vi g.1, g_v]), (1, v17)]) rfl (by rw [Sl.form Rg, Sl.form o19.sl]; kernel_rfl)) (bM 5 rfl (by kernel_rfl) rfl (bR g15 (is 4) (4, 0) rfl rfl ?_))
  intro g24 w21 b23 ch22 bx25
  replace bx25 : Bx g24 (is 4) w21 b23 [vi g.1, g_v, v17] := bx25
  refine xp (v := vp b23 0) 6 rfl (fun w => bz rfl) (cO (by kernel_rfl) (a9 (a9 (a8 rfl (lx (ad Try.underlying24 rfl rfl rfl rfl) ?_)))))
  replace bx12 := (bx12.cn ch18).cn ch22
  refine lx (af bo rfl bx12 rfl) ?_
  replace Rg := Rg.cn ch22
  have len26 := (Rg).small
  refine lx (aO Try.underlying22 rfl Rg) (mi 0 (aa (ah ?_)))
  clear bx12
  refine aN (σ := Nat × bj × aE) (fun ⟨e_c1, O_c1, gq⟩ f w => b9 w0 gq w ∧ f 3 = vp b23 0 ∧ f 15 = g_v ∧ f 16 = vi (g.2.length : Int) ∧ f 17 = vi (e_c1 : Int) ∧ Sl gq (is 0) w g_v g.2 ∧ Bx gq (is 1) w b3 [vi g.1, g_v] ∧ cj gq 3 w v17 O_c1 ∧ Bx gq (is 4) w b23 [vi g.1, g_v, v17] ∧ (e_c1 : Int) ≤ ((g.2.length : Int) : Int) ∧ (dZ O_c1 g e_c1)) (fun ⟨e_c1, O_c1, gq⟩ => Int.toNat (((g.2.length : Int) : Int) - (e_c1 : Int))) (0, (List.replicate (Int.toNat g.1) []), g24) ?_ ?_
  have C28 := cg [] (ch9.n.seq (ch13.n.seq (ch18.n.seq ch22.n)))
  have C27 := ch2.n.seq (hb7.n.seq C28)
  · exact ⟨bH.ca C27, rfl, rfl, rfl, rfl, Rg, bx5.ca C28, o19.cn ch22, bx25, by omega, by exact dZ.start hm1⟩
  clear Rg bx5 o19 bx25 bH
  rintro ⟨e_c1, O_c1, g31⟩ f29 w30 ⟨bH, zs3_c1, zs15_c1, zs16_c1, zs17_c1, Rg, bx5, o19, bx25, hle_e_c1, hov_c1⟩ back3_c1
  have hol_c1 := hov_c1.len
  refine a9 (a8 rfl (lx (bc (m := (e_c1 : Int)) (n := (g.2.length : Int)) zs17_c1 zs16_c1) (aa (a9 ?_))))
  by_cases p3_c1 : (e_c1 : Int) < (g.2.length : Int)
  ·
   refine ae rfl (dt p3_c1) ?_
   obtain ⟨⟨he1, he2⟩, he3, he4⟩ := hm4 _ (bu (xs := g.2) (i := (e_c1 : Int)) (by omega) (by omega))
   have hq1 := hov_c1.rl he1 he2
   have hq2 := hov_c1.rl2 he1 he2 he3 he4 (2 * (e_c1 : Int))
   refine aj (a9 (ah (a9 (a8 rfl (mz zs17_c1 (lx (ab (v := g_v) (i := (e_c1 : Int)) Try.underlying22 rfl zs15_c1 Rg zs17_c1 (by omega) (by omega)) (lw (vg [vi ((gI g.2 (e_c1 : Int)).1), vi ((gI g.2 (e_c1 : Int)).2)]) (ep (v := g_v) (i := (e_c1 : Int)) bD rfl Rg (by omega) (by omega) rfl) (lo (bw g31 (is 5) (5, 0) rfl bD ?_)))))))))
   intro g35 w32 b34 ch33 bx36
   replace bx36 : Bx g35 (is 5) w32 b34 [vi 0, vi 0] := bx36
   refine ai (e_c1 : Int) (lo (aC (cs' := [vi ((gI g.2 (e_c1 : Int)).1), vi ((gI g.2 (e_c1 : Int)).2)]) bD rfl rfl bx36 rfl (Nat.le_of_ble_eq_true rfl) (AllOne.all (.cons rfl (.cons rfl .nil))) rfl ?_))
   intro w37 ch38 bx39
   clear bx36
   refine aa (a9 (a8 rfl (lx (aq (ds := [vi ((gI g.2 (e_c1 : Int)).1), vi ((gI g.2 (e_c1 : Int)).2)]) bD rfl bx39 rfl rfl) (mi 0 (aa (ah (fB (a9 ?_))))))))
   clear bx39
   refine a8 rfl (lx (bc (m := 0) (n := 2) rfl rfl) (aa (a9 (ae rfl rfl (aj (a9 (ah (a9 (a8 rfl (mi 0 (lw (vi ((gI g.2 (e_c1 : Int)).1)) (fV Try.underlying60 am rfl rfl (by decide) (by decide) rfl) ?_)))))))))))
   refine ai 0 (ai ((gI g.2 (e_c1 : Int)).1) (aa ?_))
   refine el (σ := aE) (fun gq f w => b9 w0 gq w ∧ f 3 = vp b23 0 ∧ f 4 = vi (e_c1 : Int) ∧ f 15 = g_v ∧ f 16 = vi (g.2.length : Int) ∧ f 17 = vi (e_c1 : Int) ∧ f 22 = vg [vi ((gI g.2 (e_c1 : Int)).1), vi ((gI g.2 (e_c1 : Int)).2)] ∧ f 23 = vi 0 ∧ Sl gq (is 0) w g_v g.2 ∧ Bx gq (is 1) w b3 [vi g.1, g_v] ∧ Bx gq (is 4) w b23 [vi g.1, g_v, v17] ∧ cj gq 3 w v17 (List.set O_c1 (Int.toNat ((gI g.2 (e_c1 : Int)).1)) (gI O_c1 ((gI g.2 (e_c1 : Int)).1) ++ [(2 * (e_c1 : Int)) + 0]))) g35 [0, 1, 2, 4, 5, 6, 7, 8, 9, 10, 11, 12, 13, 14, 15, 18] je ?_ ?_
   ·
    intro mid
    intro w41 ch40
    refine xp (v := vp b23 0) 0 rfl (fun w => au zs3_c1) (xp (v := vp b23 0) 1 rfl (fun w => bA rfl) (xp 2 rfl (fun w => ad Try.underlying116 rfl rfl rfl rfl) (xp (v := vi ((gI g.2 (e_c1 : Int)).1)) 4 rfl (fun w => au rfl) (xp (v := vp b23 0) 5 rfl (fun w => au zs3_c1) (xp (v := vp b23 0) 6 rfl (fun w => bA rfl) (xp 7 rfl (fun w => ad Try.underlying116 rfl rfl rfl rfl) ?_))))))
    have C42 := cg [5] (ch33.n.seq ((ch38.l rfl).seq ch40.n))
    replace bx25 := bx25.ca C42
    refine xh 8 [7, 6, 5, 4, 2, 1, 0, 3, 9, 12, 14, 13, 15, 16] rfl (fun w' hw' => af cW rfl (bx25.bel hw') rfl) (xp (v := vi ((gI g.2 (e_c1 : Int)).1)) 9 rfl (fun w => au rfl) ?_)
    replace o19 := o19.ca C42
    refine xh 10 [9, 8, 7, 6, 5, 4, 2, 1, 0, 3, 12, 14, 13, 15, 16] rfl (fun w' hw' => ab (v := v17) (i := (gI g.2 (e_c1 : Int)).1) Try.underlying25 rfl rfl (o19.sl.bel hw') rfl (by omega) (by omega)) ?_
    obtain ⟨v43, cel44, r45⟩ := bY (r := (gI g.2 (e_c1 : Int)).1) o19 (by omega) (by omega)
    refine xh 11 [10, 9, 8, 7, 6, 5, 4, 2, 1, 0, 3, 12, 14, 13, 15, 16] rfl (fun w' hw' => aS aL rfl (cX cel44 hw')) (xp (v := vi (e_c1 : Int)) 12 rfl (fun w => au rfl) (xp 13 rfl (fun w => du (m := 2) (n := (e_c1 : Int)) rfl rfl (by omega)) (xp (v := vi 0) 14 rfl (fun w => au rfl) (xp 15 rfl (fun w => aQ (m := 2 * (e_c1 : Int)) (n := 0) rfl rfl (by omega)) ?_))))
    refine gB 3 16 rfl rfl (by kernel_rfl) rfl rfl ?_ ?_
    ·
     refine aJ (v := v17) (af cW rfl bx25 rfl) (bM 16 rfl (by kernel_rfl) rfl (aA (α := Int) g35 (is 6) (is 6) (6, 0) rfl [(2 * (e_c1 : Int)) + 0] Try.underlying27 am (by decide) (by decide) (vs := [(0, vi ((2 * (e_c1 : Int)) + 0))]) rfl rfl (.cons rfl .nil) ?_))
     intro g46 w47 v48 ch49 o50
     refine bM 17 rfl (by kernel_rfl) rfl ?_
     replace o19 := o19.cn ch49
     replace r45 := r45.cn ch49
     refine aR (α := Int) (xs := (gI O_c1 ((gI g.2 (e_c1 : Int)).1))) (ys := ([(2 * (e_c1 : Int)) + 0])) g46 (J := row 3 (Int.toNat ((gI g.2 (e_c1 : Int)).1) + 1)) (S := row 3 (Int.toNat ((gI g.2 (e_c1 : Int)).1) + 1)) (3, Int.toNat ((gI g.2 (e_c1 : Int)).1) + 1) rfl Try.underlying27 am (by decide) rfl rfl rfl r45 o50.flat (by decide) (by (simp; omega)) ?_
     intro g51 w52 v53 ch54 o55
     have o56 := o19.rowchg ch54
     clear o19 cel44 r45
     obtain ⟨us57, hl58, r59⟩ := o56.vc
     try simp only [List.length_set, List.length_append, List.length_cons, List.length_nil] at hl58
     refine xv 18 [17, 16, 3, 15, 14, 13, 12, 11, 10, 9, 8, 7, 6, 5, 4, 2, 1, 0] rfl (ab (v := v17) (i := (gI g.2 (e_c1 : Int)).1) Try.underlying25 rfl rfl r59 rfl (by omega) (by omega)) (bM 19 rfl (by kernel_rfl) rfl (bI (r := (gI g.2 (e_c1 : Int)).1) aL rfl rfl o56 o55 (by omega) (by omega) ?_))
     intro w63 ch64 o65
     clear o56 o55
     refine cO (by kernel_rfl) ?_
     have C66 := cg [3, 5] (ch33.n.seq ((ch38.l rfl).seq (ch40.n.seq (ch49.n.seq ((ch54.lr rfl).seq (ch64.l rfl))))))
     have C67 := cg [3] (ch49.n.seq ((ch54.lr rfl).seq (ch64.l rfl)))
     exact mid (g51) _ _ ⟨bH.ca C66, zs3_c1, rfl, zs15_c1, zs16_c1, zs17_c1, rfl, rfl, Rg.ca C66, bx5.ca C66, bx25.ca C67, o65⟩
    ·
     refine aA (α := Int) g35 (is 6) (is 6) (6, 0) rfl [(2 * (e_c1 : Int)) + 0] Try.underlying27 am (by decide) (by decide) (vs := [(0, vi ((2 * (e_c1 : Int)) + 0))]) rfl rfl (.cons rfl .nil) ?_
     intro g68 w69 v70 ch71 o72
     refine gB 3 17 rfl rfl (by kernel_rfl) rfl rfl ?_ ?_
     ·
      replace bx25 := bx25.cn ch71
      refine aJ (v := v17) (af cW rfl bx25 rfl) (bM 17 rfl (by kernel_rfl) rfl ?_)
      replace o19 := o19.cn ch71
      replace r45 := r45.cn ch71
      refine aR (α := Int) (xs := (gI O_c1 ((gI g.2 (e_c1 : Int)).1))) (ys := ([(2 * (e_c1 : Int)) + 0])) g68 (J := row 3 (Int.toNat ((gI g.2 (e_c1 : Int)).1) + 1)) (S := row 3 (Int.toNat ((gI g.2 (e_c1 : Int)).1) + 1)) (3, Int.toNat ((gI g.2 (e_c1 : Int)).1) + 1) rfl Try.underlying27 am (by decide) rfl rfl rfl r45 o72.flat (by decide) (by (simp; omega)) ?_
      intro g73 w74 v75 ch76 o77
      have o78 := o19.rowchg ch76
      clear o19 cel44 r45
      obtain ⟨us79, hl80, r81⟩ := o78.vc
      try simp only [List.length_set, List.length_append, List.length_cons, List.length_nil] at hl80
      refine xv 18 [17, 3, 16, 15, 14, 13, 12, 11, 10, 9, 8, 7, 6, 5, 4, 2, 1, 0] rfl (ab (v := v17) (i := (gI g.2 (e_c1 : Int)).1) Try.underlying25 rfl rfl r81 rfl (by omega) (by omega)) (bM 19 rfl (by kernel_rfl) rfl (bI (r := (gI g.2 (e_c1 : Int)).1) aL rfl rfl o78 o77 (by omega) (by omega) ?_))
      intro w85 ch86 o87
      clear o78 o77
      refine cO (by kernel_rfl) ?_
      have C88 := cg [3, 5] (ch33.n.seq ((ch38.l rfl).seq (ch40.n.seq (ch71.n.seq ((ch76.lr rfl).seq (ch86.l rfl))))))
      exact mid (g73) _ _ ⟨bH.ca C88, zs3_c1, rfl, zs15_c1, zs16_c1, zs17_c1, rfl, rfl, Rg.ca C88, bx5.ca C88, (bx25.chg ch76 (dC rfl)).ce ch86, o87⟩
     ·
      replace o19 := o19.cn ch71
      replace r45 := r45.cn ch71
      refine aR (α := Int) (xs := (gI O_c1 ((gI g.2 (e_c1 : Int)).1))) (ys := ([(2 * (e_c1 : Int)) + 0])) g68 (J := row 3 (Int.toNat ((gI g.2 (e_c1 : Int)).1) + 1)) (S := row 3 (Int.toNat ((gI g.2 (e_c1 : Int)).1) + 1)) (3, Int.toNat ((gI g.2 (e_c1 : Int)).1) + 1) rfl Try.underlying27 am (by decide) rfl rfl rfl r45 o72.flat (by decide) (by (simp; omega)) ?_
      intro g89 w90 v91 ch92 o93
      have o94 := o19.rowchg ch92
      clear o19 cel44 r45
      replace bx25 := (bx25.cn ch71).chg ch92 (dC rfl)
      refine bM 3 rfl (by kernel_rfl) rfl (aJ (v := v17) (af cW rfl bx25 rfl) ?_)
      obtain ⟨us95, hl96, r97⟩ := o94.vc
      try simp only [List.length_set, List.length_append, List.length_cons, List.length_nil] at hl96
      refine xv 18 [3, 17, 16, 15, 14, 13, 12, 11, 10, 9, 8, 7, 6, 5, 4, 2, 1, 0] rfl (ab (v := v17) (i := (gI g.2 (e_c1 : Int)).1) Try.underlying25 rfl rfl r97 rfl (by omega) (by omega)) (bM 19 rfl (by kernel_rfl) rfl (bI (r := (gI g.2 (e_c1 : Int)).1) aL rfl rfl o94 o93 (by omega) (by omega) ?_))
      intro w101 ch102 o103
      clear o94 o93
      refine cO (by kernel_rfl) ?_
      have C104 := cg [3, 5] (ch33.n.seq ((ch38.l rfl).seq (ch40.n.seq (ch71.n.seq ((ch92.lr rfl).seq (ch102.l rfl))))))
      exact mid (g89) _ _ ⟨bH.ca C104, zs3_c1, rfl, zs15_c1, zs16_c1, zs17_c1, rfl, rfl, Rg.ca C104, bx5.ca C104, bx25.ce ch102, o103⟩
   clear Rg bx5 o19 bx25 bH
   rintro g107 f105 w106 ⟨bH, zs3_c1, zs4_c1, zs15_c1, zs16_c1, zs17_c1, zs22_c1, zs23_c1, Rg, bx5, bx25, o62⟩
   refine ao (a8 rfl (lx (aQ (m := 0) (n := 1) zs23_c1 rfl (by omega)) (mi 1 (aa (dF (a9 (a8 rfl (lx (bc (m := 1) (n := 2) rfl rfl) (aa (a9 (ae rfl rfl ?_)))))))))))
   refine aj (a9 (ah (a9 (a8 rfl (mi 1 (lw (vi ((gI g.2 (e_c1 : Int)).2)) (fV Try.underlying60 am zs22_c1 rfl (by decide) (by decide) rfl) (ai 1 (ai ((gI g.2 (e_c1 : Int)).2) (aa ?_)))))))))
   refine el (σ := aE) (fun gq f w => b9 w0 gq w ∧ f 3 = vp b23 0 ∧ f 4 = vi (e_c1 : Int) ∧ f 15 = g_v ∧ f 16 = vi (g.2.length : Int) ∧ f 17 = vi (e_c1 : Int) ∧ f 22 = vg [vi ((gI g.2 (e_c1 : Int)).1), vi ((gI g.2 (e_c1 : Int)).2)] ∧ f 23 = vi 1 ∧ Sl gq (is 0) w g_v g.2 ∧ Bx gq (is 1) w b3 [vi g.1, g_v] ∧ Bx gq (is 4) w b23 [vi g.1, g_v, v17] ∧ cj gq 3 w v17 (List.set (List.set O_c1 (Int.toNat ((gI g.2 (e_c1 : Int)).1)) (gI O_c1 ((gI g.2 (e_c1 : Int)).1) ++ [(2 * (e_c1 : Int)) + 0])) (Int.toNat ((gI g.2 (e_c1 : Int)).2)) (gI (List.set O_c1 (Int.toNat ((gI g.2 (e_c1 : Int)).1)) (gI O_c1 ((gI g.2 (e_c1 : Int)).1) ++ [(2 * (e_c1 : Int)) + 0])) ((gI g.2 (e_c1 : Int)).2) ++ [(2 * (e_c1 : Int)) + 1]))) g107 [0, 1, 2, 4, 5, 6, 7, 8, 9, 10, 11, 12, 13, 14, 15, 18] je ?_ ?_
   ·
    intro mid
    intro w109 ch108
    refine xp (v := vp b23 0) 0 rfl (fun w => au zs3_c1) (xp (v := vp b23 0) 1 rfl (fun w => bA rfl) (xp 2 rfl (fun w => ad Try.underlying116 rfl rfl rfl rfl) (xp (v := vi ((gI g.2 (e_c1 : Int)).2)) 4 rfl (fun w => au rfl) (xp (v := vp b23 0) 5 rfl (fun w => au zs3_c1) (xp (v := vp b23 0) 6 rfl (fun w => bA rfl) (xp 7 rfl (fun w => ad Try.underlying116 rfl rfl rfl rfl) ?_))))))
    replace bx25 := bx25.cn ch108
    refine xh 8 [7, 6, 5, 4, 2, 1, 0, 3, 9, 12, 14, 13, 15, 16] rfl (fun w' hw' => af cW rfl (bx25.bel hw') rfl) (xp (v := vi ((gI g.2 (e_c1 : Int)).2)) 9 rfl (fun w => au rfl) ?_)
    replace o62 := o62.cn ch108
    refine xh 10 [9, 8, 7, 6, 5, 4, 2, 1, 0, 3, 12, 14, 13, 15, 16] rfl (fun w' hw' => ab (v := v17) (i := (gI g.2 (e_c1 : Int)).2) Try.underlying25 rfl rfl (o62.sl.bel hw') rfl (by omega) (by (simp only [List.length_set, List.length_append, List.length_cons, List.length_nil, List.length_replicate, List.length_map, List.length_take, List.length_drop]; omega))) ?_
    obtain ⟨v110, cel111, r112⟩ := bY (r := (gI g.2 (e_c1 : Int)).2) o62 (by omega) (by (simp only [List.length_set, List.length_append, List.length_cons, List.length_nil, List.length_replicate, List.length_map, List.length_take, List.length_drop]; omega))
    refine xh 11 [10, 9, 8, 7, 6, 5, 4, 2, 1, 0, 3, 12, 14, 13, 15, 16] rfl (fun w' hw' => aS aL rfl (cX cel111 hw')) (xp (v := vi (e_c1 : Int)) 12 rfl (fun w => au zs4_c1) (xp 13 rfl (fun w => du (m := 2) (n := (e_c1 : Int)) rfl rfl (by omega)) (xp (v := vi 1) 14 rfl (fun w => au rfl) (xp 15 rfl (fun w => aQ (m := 2 * (e_c1 : Int)) (n := 1) rfl rfl (by omega)) ?_))))
    refine gB 3 16 rfl rfl (by kernel_rfl) rfl rfl ?_ ?_
    ·
     refine aJ (v := v17) (af cW rfl bx25 rfl) (bM 16 rfl (by kernel_rfl) rfl (aA (α := Int) g107 (is 6) (is 6) (6, 0) rfl [(2 * (e_c1 : Int)) + 1] Try.underlying27 am (by decide) (by decide) (vs := [(0, vi ((2 * (e_c1 : Int)) + 1))]) rfl rfl (.cons rfl .nil) ?_))
     intro g113 w114 v115 ch116 o117
     refine bM 17 rfl (by kernel_rfl) rfl ?_
     replace o62 := o62.cn ch116
     replace r112 := r112.cn ch116
     refine aR (α := Int) (xs := (gI (List.set O_c1 (Int.toNat ((gI g.2 (e_c1 : Int)).1)) (gI O_c1 ((gI g.2 (e_c1 : Int)).1) ++ [(2 * (e_c1 : Int)) + 0])) ((gI g.2 (e_c1 : Int)).2))) (ys := ([(2 * (e_c1 : Int)) + 1])) g113 (J := row 3 (Int.toNat ((gI g.2 (e_c1 : Int)).2) + 1)) (S := row 3 (Int.toNat ((gI g.2 (e_c1 : Int)).2) + 1)) (3, Int.toNat ((gI g.2 (e_c1 : Int)).2) + 1) rfl Try.underlying27 am (by decide) rfl rfl rfl r112 o117.flat (by decide) (by (simp; omega)) ?_
     intro g118 w119 v120 ch121 o122
     have o123 := o62.rowchg ch121
     clear o62 cel111 r112
     obtain ⟨us124, hl125, r126⟩ := o123.vc
     try simp only [List.length_set, List.length_append, List.length_cons, List.length_nil] at hl125
     refine xv 18 [17, 16, 3, 15, 14, 13, 12, 11, 10, 9, 8, 7, 6, 5, 4, 2, 1, 0] rfl (ab (v := v17) (i := (gI g.2 (e_c1 : Int)).2) Try.underlying25 rfl rfl r126 rfl (by omega) (by omega)) (bM 19 rfl (by kernel_rfl) rfl (bI (r := (gI g.2 (e_c1 : Int)).2) aL rfl rfl o123 o122 (by omega) (by (simp only [List.length_set, List.length_append, List.length_cons, List.length_nil, List.length_replicate, List.length_map, List.length_take, List.length_drop]; omega)) ?_))
     intro w130 ch131 o132
     clear o123 o122
     refine cO (by kernel_rfl) ?_
     have C134 := cg [3] (ch116.n.seq ((ch121.lr rfl).seq (ch131.l rfl)))
     have C133 := ch108.n.seq C134
     exact mid (g118) _ _ ⟨bH.ca C133, zs3_c1, zs4_c1, zs15_c1, zs16_c1, zs17_c1, zs22_c1, rfl, Rg.ca C133, bx5.ca C133, bx25.ca C134, o132⟩
    ·
     refine aA (α := Int) g107 (is 6) (is 6) (6, 0) rfl [(2 * (e_c1 : Int)) + 1] Try.underlying27 am (by decide) (by decide) (vs := [(0, vi ((2 * (e_c1 : Int)) + 1))]) rfl rfl (.cons rfl .nil) ?_
     intro g135 w136 v137 ch138 o139
     refine gB 3 17 rfl rfl (by kernel_rfl) rfl rfl ?_ ?_
     ·
      replace bx25 := bx25.cn ch138
      refine aJ (v := v17) (af cW rfl bx25 rfl) (bM 17 rfl (by kernel_rfl) rfl ?_)
      replace o62 := o62.cn ch138
      replace r112 := r112.cn ch138
      refine aR (α := Int) (xs := (gI (List.set O_c1 (Int.toNat ((gI g.2 (e_c1 : Int)).1)) (gI O_c1 ((gI g.2 (e_c1 : Int)).1) ++ [(2 * (e_c1 : Int)) + 0])) ((gI g.2 (e_c1 : Int)).2))) (ys := ([(2 * (e_c1 : Int)) + 1])) g135 (J := row 3 (Int.toNat ((gI g.2 (e_c1 : Int)).2) + 1)) (S := row 3 (Int.toNat ((gI g.2 (e_c1 : Int)).2) + 1)) (3, Int.toNat ((gI g.2 (e_c1 : Int)).2) + 1) rfl Try.underlying27 am (by decide) rfl rfl rfl r112 o139.flat (by decide) (by (simp; omega)) ?_
      intro g140 w141 v142 ch143 o144
      have o145 := o62.rowchg ch143
      clear o62 cel111 r112
      obtain ⟨us146, hl147, r148⟩ := o145.vc
      try simp only [List.length_set, List.length_append, List.length_cons, List.length_nil] at hl147
      refine xv 18 [17, 3, 16, 15, 14, 13, 12, 11, 10, 9, 8, 7, 6, 5, 4, 2, 1, 0] rfl (ab (v := v17) (i := (gI g.2 (e_c1 : Int)).2) Try.underlying25 rfl rfl r148 rfl (by omega) (by omega)) (bM 19 rfl (by kernel_rfl) rfl (bI (r := (gI g.2 (e_c1 : Int)).2) aL rfl rfl o145 o144 (by omega) (by (simp only [List.length_set, List.length_append, List.length_cons, List.length_nil, List.length_replicate, List.length_map, List.length_take, List.length_drop]; omega)) ?_))
      intro w152 ch153 o154
      clear o145 o144
      refine cO (by kernel_rfl) ?_
      have C155 := cg [3] (ch108.n.seq (ch138.n.seq ((ch143.lr rfl).seq (ch153.l rfl))))
      exact mid (g140) _ _ ⟨bH.ca C155, zs3_c1, zs4_c1, zs15_c1, zs16_c1, zs17_c1, zs22_c1, rfl, Rg.ca C155, bx5.ca C155, (bx25.chg ch143 (dC rfl)).ce ch153, o154⟩
     ·
      replace o62 := o62.cn ch138
      replace r112 := r112.cn ch138
      refine aR (α := Int) (xs := (gI (List.set O_c1 (Int.toNat ((gI g.2 (e_c1 : Int)).1)) (gI O_c1 ((gI g.2 (e_c1 : Int)).1) ++ [(2 * (e_c1 : Int)) + 0])) ((gI g.2 (e_c1 : Int)).2))) (ys := ([(2 * (e_c1 : Int)) + 1])) g135 (J := row 3 (Int.toNat ((gI g.2 (e_c1 : Int)).2) + 1)) (S := row 3 (Int.toNat ((gI g.2 (e_c1 : Int)).2) + 1)) (3, Int.toNat ((gI g.2 (e_c1 : Int)).2) + 1) rfl Try.underlying27 am (by decide) rfl rfl rfl r112 o139.flat (by decide) (by (simp; omega)) ?_
      intro g156 w157 v158 ch159 o160
      have o161 := o62.rowchg ch159
      clear o62 cel111 r112
      replace bx25 := (bx25.cn ch138).chg ch159 (dC rfl)
      refine bM 3 rfl (by kernel_rfl) rfl (aJ (v := v17) (af cW rfl bx25 rfl) ?_)
      obtain ⟨us162, hl163, r164⟩ := o161.vc
      try simp only [List.length_set, List.length_append, List.length_cons, List.length_nil] at hl163
      refine xv 18 [3, 17, 16, 15, 14, 13, 12, 11, 10, 9, 8, 7, 6, 5, 4, 2, 1, 0] rfl (ab (v := v17) (i := (gI g.2 (e_c1 : Int)).2) Try.underlying25 rfl rfl r164 rfl (by omega) (by omega)) (bM 19 rfl (by kernel_rfl) rfl (bI (r := (gI g.2 (e_c1 : Int)).2) aL rfl rfl o161 o160 (by omega) (by (simp only [List.length_set, List.length_append, List.length_cons, List.length_nil, List.length_replicate, List.length_map, List.length_take, List.length_drop]; omega)) ?_))
      intro w168 ch169 o170
      clear o161 o160
      refine cO (by kernel_rfl) ?_
      have C171 := cg [3] (ch108.n.seq (ch138.n.seq ((ch159.lr rfl).seq (ch169.l rfl))))
      exact mid (g156) _ _ ⟨bH.ca C171, zs3_c1, zs4_c1, zs15_c1, zs16_c1, zs17_c1, zs22_c1, rfl, Rg.ca C171, bx5.ca C171, bx25.ce ch169, o170⟩
   clear Rg bx5 bx25 o62 bH
   rintro g174 f172 w173 ⟨bH, zs3_c1, zs4_c1, zs15_c1, zs16_c1, zs17_c1, zs22_c1, zs23_c1, Rg, bx5, bx25, o130⟩
   refine ao (a8 rfl (lx (aQ (m := 1) (n := 1) zs23_c1 rfl (by omega)) (mi 2 (aa (dF (a9 (a8 rfl (lx (bc (m := 2) (n := 2) rfl rfl) (aa (a9 (ag rfl rfl ?_)))))))))))
   refine aI rfl (ao (a8 rfl (lx (aQ (m := (e_c1 : Int)) (n := 1) zs17_c1 rfl (by omega)) (mi ((e_c1 : Int) + 1) (aa ?_)))))
   refine back3_c1 (e_c1 + 1, (List.set (List.set O_c1 (Int.toNat ((gI g.2 (e_c1 : Int)).1)) (gI O_c1 ((gI g.2 (e_c1 : Int)).1) ++ [(2 * (e_c1 : Int)) + 0])) (Int.toNat ((gI g.2 (e_c1 : Int)).2)) (gI (List.set O_c1 (Int.toNat ((gI g.2 (e_c1 : Int)).1)) (gI O_c1 ((gI g.2 (e_c1 : Int)).1) ++ [(2 * (e_c1 : Int)) + 0])) ((gI g.2 (e_c1 : Int)).2) ++ [(2 * (e_c1 : Int)) + 1])), g174) _ _ ⟨bH, zs3_c1, zs15_c1, zs16_c1, rfl, Rg, bx5, o130, bx25, by omega, ?_⟩ ?_
   · show dZ (List.set (List.set O_c1 (Int.toNat ((gI g.2 (e_c1 : Int)).1)) (gI O_c1 ((gI g.2 (e_c1 : Int)).1) ++ [(2 * (e_c1 : Int)) + 0])) (Int.toNat ((gI g.2 (e_c1 : Int)).2)) (gI (List.set O_c1 (Int.toNat ((gI g.2 (e_c1 : Int)).1)) (gI O_c1 ((gI g.2 (e_c1 : Int)).1) ++ [(2 * (e_c1 : Int)) + 0])) ((gI g.2 (e_c1 : Int)).2) ++ [(2 * (e_c1 : Int)) + 1])) g (e_c1 + 1)
     exact hov_c1.next he1 he2 he3 he4 (by omega) (by omega)
   · show Int.toNat (((g.2.length : Int) : Int) - ((e_c1 + 1) : Int)) < Int.toNat (((g.2.length : Int) : Int) - (e_c1 : Int))
     omega
  refine ag rfl (df p3_c1) (aI rfl (a9 (a8 rfl (mz zs3_c1 (ma (vp b23 0) (aa (av (vs := [vp b23 0]) Try.func97 (.tmp rfl .nil) ?_)))))))
  refine ⟨vp b23 0, rfl, ?_⟩
  refine ma (vp b23 0) (aa (a9 ?_))
  have hOut := hov_c1.done (by omega)
  refine a8 rfl (lx (ad Try.underlying24 rfl rfl rfl rfl) (lx (af am rfl bx5 rfl) (lo (aV (aD (vals := [vi g.1, vi (-1)]) Try.func98 pf oD rfl) (jL w30 g.1 (-1) (by omega)) ?_))))
  rintro ⟨d176, v178⟩ w175 ⟨fr177, o179⟩
  obtain ⟨g180, ch181, G180⟩ := dw g31 fr177 (fun n => if n = 1 then 7 else 0)
  replace o179 := o179.gl G180 7
  refine ma v178 (aa (a9 ?_))
  clear bx5
  refine a8 rfl (ai 0 (aa (a9 (a9 (a8 rfl (mv v178 ?_))))))
  have len182 := (o179.flat).small
  refine lx (aO Try.underlying27 rfl o179.flat) (mi 0 (aa (ah ?_)))
  refine aN (σ := Nat × Int × (List Int) × aE) (fun ⟨q, n, part, gq⟩ f w => b9 w0 gq w ∧ f 5 = vp b23 0 ∧ f 6 = v178 ∧ f 7 = vi n ∧ f 20 = vi (List.length (List.replicate g.1.toNat (-1)) : Int) ∧ f 21 = vi (q : Int) ∧ Sl gq (is 0) w g_v g.2 ∧ cj gq 3 w v17 O_c1 ∧ Bx gq (is 4) w b23 [vi g.1, g_v, v17] ∧ Ow gq (is 7) (is 7) w v178 part ∧ (q : Int) ≤ ((List.length (List.replicate g.1.toNat (-1)) : Int) : Int) ∧ (part = (bJ g q).1 ∧ n = (bJ g q).2)) (fun ⟨q, n, part, gq⟩ => Int.toNat (((List.length (List.replicate g.1.toNat (-1)) : Int) : Int) - (q : Int))) (0, 0, List.replicate g.1.toNat (-1), g180) ?_ ?_
  · exact ⟨bH.cn ch181, rfl, rfl, rfl, rfl, rfl, Rg.cn ch181, o19.cn ch181, bx25.cn ch181, o179, by omega, by exact ⟨rfl, rfl⟩⟩
  clear Rg o19 bx25 o179 bH
  rintro ⟨q, n, part, g185⟩ f183 w184 ⟨bH, zs5, zs6, zs7, zs20, zs21, Rg, o19, bx25, o179, hle_q, hinv⟩ back7
  have hpl := iH g q
  have hpart : (part.length : Int) = g.1 := by rw [hinv.1, hpl.1]; omega
  have hi2 := hinv.2
  have hrep : ((List.replicate g.1.toNat (-1 : Int)).length : Int) = g.1 := by simp; omega
  refine a9 (a8 rfl (lx (bc (m := (q : Int)) (n := (List.length (List.replicate g.1.toNat (-1)) : Int)) zs21 zs20) (aa (a9 ?_))))
  by_cases p7 : (q : Int) < (List.length (List.replicate g.1.toNat (-1)) : Int)
  ·
   refine ae rfl (dt p7) (aj (a9 (ah (a9 (a8 rfl (mz zs21 (ai (q : Int) (aa (a9 (a9 (a8 rfl (mz zs6 (mi (q : Int) ?_)))))))))))))
   refine lx (ab (v := v178) (i := (q : Int)) Try.underlying27 rfl rfl o179.flat rfl (by omega) (by omega)) (lx (ay (v := v178) (i := (q : Int)) am rfl o179.flat (by omega) (by omega) (by decide) rfl) (lx (dy (m := (gI part (q : Int))) (n := 0) rfl rfl) (aa ?_)))
   by_cases p9 : 0 ≤ (gI part (q : Int))
   ·
    refine ae rfl (dt p9) (aI rfl (a8 rfl (lx (aQ (m := (q : Int)) (n := 1) zs21 rfl (by omega)) (mi ((q : Int) + 1) (aa ?_)))))
    refine back7 (q + 1, n, part, g185) _ _ ⟨bH, zs5, zs6, zs7, zs20, rfl, Rg, o19, bx25, o179, by omega, ?_⟩ ?_
    · show part = (bJ g (q + 1)).1 ∧ n = (bJ g (q + 1)).2
      exact la hinv ‹_›
    · show Int.toNat (((List.length (List.replicate g.1.toNat (-1)) : Int) : Int) - ((q + 1) : Int)) < Int.toNat (((List.length (List.replicate g.1.toNat (-1)) : Int) : Int) - (q : Int))
      omega
   refine ag rfl (df p9) (aj (a9 (a9 (a8 rfl (mz zs5 (mi (q : Int) (lo (dv (aD (vals := [vp b23 0, vi (q : Int)]) Try.func99 wN vE rfl) (az Try.func99 rfl (Nat.le_of_ble_eq_true rfl) (a9 (a8 rfl (cr rfl (bw g185 (is 8) (8, 0) rfl ef ?_)))))))))))))
   intro g189 w186 b188 ch187 bx190
   replace bx190 : Bx g189 (is 8) w186 b188 [vn, vn, vn, vn] := bx190
   refine aa (a9 (a8 rfl (mv (vp b23 0) (lw (vp b23 0) (bA rfl) (lx (ad Try.underlying116 rfl rfl rfl rfl) (lx (ad Try.underlying24 rfl rfl rfl rfl) ?_))))))
   replace bx25 := bx25.cn ch187
   refine lx (af am rfl bx25 rfl) (mi (q : Int) (lo (dv (aD (vals := [vi g.1, vi (q : Int)]) Try.func107 tq u4 rfl) (az Try.func107 rfl (Nat.le_of_ble_eq_true rfl) (a9 (a8 rfl (cr rfl (bw g189 (is 9) (9, 0) rfl ef ?_))))))))
   intro g194 w191 b193 ch192 bx195
   replace bx195 : Bx g194 (is 9) w191 b193 [vn, vn, vn, vn] := bx195
   refine aa (a9 (a8 rfl (mi (q : Int) (lo (aA (α := Int) g194 (is 10) (is 10) (10, 0) rfl [(q : Int)] Try.underlying27 am (by decide) (by decide) (vs := [(0, vi (q : Int))]) rfl rfl (.cons rfl .nil) ?_)))))
   intro g196 w197 v198 ch199 o200
   refine mi g.1 (lo (aV (aD (vals := [vi g.1, vi (-1)]) Try.func98 pf oD rfl) (jL w197 g.1 (-1) (by omega)) ?_))
   rintro ⟨d202, v204⟩ w201 ⟨fr203, o205⟩
   obtain ⟨g206, ch207, G206⟩ := dw g196 fr203 (fun n => if n = 1 then 11 else 0)
   replace o205 := o205.gl G206 11
   refine mi g.1 (lo (aV (aD (vals := [vi g.1, vi (-1)]) Try.func98 pf oD rfl) (jL w201 g.1 (-1) (by omega)) ?_))
   rintro ⟨d209, v211⟩ w208 ⟨fr210, o212⟩
   obtain ⟨g213, ch214, G213⟩ := dw g206 fr210 (fun n => if n = 1 then 12 else 0)
   replace o212 := o212.gl G213 12
   replace o200 := (o200.cn ch207).cn ch214
   replace o205 := o205.cn ch214
   refine lw (vg [v198, v204, v211, vn]) (bn (vs := [(0, v198), (1, v204), (2, v211)]) rfl (by rw [Sl.form o200.flat, Sl.form o205.flat, Sl.form o212.flat]; kernel_rfl)) (lo (bw g213 (is 13) (13, 0) rfl ef ?_))
   intro g218 w215 b217 ch216 bx219
   replace bx219 : Bx g218 (is 13) w215 b217 [vn, vn, vn, vn] := bx219
   refine lo ?_
   replace o212 := o212.cn ch216
   replace o205 := o205.cn ch216
   replace o200 := o200.cn ch216
   refine aC (cs' := [v198, v204, v211, vn]) ef rfl rfl bx219 rfl (Nat.le_of_ble_eq_true rfl) (AllOne.all (.cons (bm o200.flat) (.cons (bm o205.flat) (.cons (bm o212.flat) (.cons rfl .nil))))) rfl ?_
   intro w220 ch221 bx222
   clear bx219
   refine aa (a9 (a8 rfl (lx (ad Try.underlying109 rfl rfl rfl rfl) (lx (af aL rfl bx222 rfl) (mi (q : Int) ?_)))))
   replace o212 := o212.ce ch221
   refine lx (ab (v := v211) (i := (q : Int)) Try.underlying27 rfl rfl o212.flat rfl (by omega) (by omega)) (lo (bP (i := (q : Int)) 0 am rfl rfl o212 (by omega) (by omega) rfl ?_))
   intro w223 ch224 bx225
   clear o212
   refine aa (a9 (a8 rfl ?_))
   replace bx222 := bx222.ce ch224
   refine lx (aq (ds := [v198, v204, v211, vn]) ef rfl bx222 rfl rfl) (lo ?_)
   have C229 := cg [12, 13] (ch199.n.seq (ch207.n.seq (ch214.n.seq (ch216.n.seq ((ch221.l rfl).seq (ch224.l rfl))))))
   replace bx195 := bx195.ca C229
   replace o205 := (o205.ce ch221).ce ch224
   replace o200 := (o200.ce ch221).ce ch224
   refine aC (cs' := [v198, v204, v211, vn]) ef rfl rfl bx195 rfl (Nat.le_of_ble_eq_true rfl) (AllOne.all (.cons (bm o200.flat) (.cons (bm o205.flat) (.cons (bm bx225.flat) (.cons rfl .nil))))) rfl ?_
   intro w226 ch227 bx228
   clear bx195
   refine aa (av (vs := [vg [v198, v204, v211, vn]]) Try.func107 (.cell rfl (bk (ds := [v198, v204, v211, vn]) ef bx228 rfl rfl) .nil) ?_)
   refine ⟨vg [v198, v204, v211, vn], rfl, ?_⟩
   refine lo (bw g218 (is 14) (14, 0) rfl ef ?_)
   intro g233 w230 b232 ch231 bx234
   replace bx234 : Bx g233 (is 14) w230 b232 [vn, vn, vn, vn] := bx234
   refine lo ?_
   replace bx225 := (bx225.ce ch227).cn ch231
   replace o205 := (o205.ce ch227).cn ch231
   replace o200 := (o200.ce ch227).cn ch231
   refine aC (cs' := [v198, v204, v211, vn]) ef rfl rfl bx234 rfl (Nat.le_of_ble_eq_true rfl) (AllOne.all (.cons (bm o200.flat) (.cons (bm o205.flat) (.cons (bm bx225.flat) (.cons rfl .nil))))) rfl ?_
   intro w235 ch236 bx237
   clear bx234
   refine aa (a9 (a9 ?_))
   clear bx222 bx228
   refine a8 rfl (ai 0 (aa (ah ?_)))
   refine aN (σ := Value × (List Int) × Nat × (List Int) × (List Int) × aE) (fun ⟨Or_c2_v, Or_c2, i_c2, By_c2, Fa_c2, gq⟩ f w => b9 w0 gq w ∧ f 0 = vp b23 0 ∧ f 4 = vp b188 0 ∧ f 5 = vp b232 0 ∧ f 6 = vi (i_c2 : Int) ∧ Sl gq (is 0) w g_v g.2 ∧ cj gq 3 w v17 O_c1 ∧ Bx gq (is 4) w b23 [vi g.1, g_v, v17] ∧ Ow gq (is 7) (is 7) w v178 part ∧ Bx gq (is 8) w b188 [vn, vn, vn, vn] ∧ Ow gq (is 11) (is 11) w v204 By_c2 ∧ Ow gq (is 12) (is 12) w v211 Fa_c2 ∧ Bx gq (is 14) w b232 [Or_c2_v, v204, v211, vn] ∧ Ow gq (is 10) (is 10) w Or_c2_v Or_c2 ∧ (fi ⟨Or_c2, By_c2, Fa_c2⟩ g (q : Int) i_c2)) (fun ⟨Or_c2_v, Or_c2, i_c2, By_c2, Fa_c2, gq⟩ => Int.toNat g.1 - i_c2) (v198, [(q : Int)], 0, List.replicate g.1.toNat (-1), (List.set (List.replicate g.1.toNat (-1)) (Int.toNat (q : Int)) 0), g233) ?_ ?_
   have C239 := cg [9, 12, 13, 14] (ch192.n.seq (ch199.n.seq (ch207.n.seq (ch214.n.seq (ch216.n.seq ((ch221.l rfl).seq ((ch224.l rfl).seq ((ch227.l rfl).seq (ch231.n.seq (ch236.l rfl))))))))))
   have C238 := ch187.n.seq C239
   · exact ⟨bH.ca C238, rfl, rfl, rfl, rfl, Rg.ca C238, o19.ca C238, bx25.ca C239, o179.ca C238, bx190.ca C239, o205.ce ch236, bx225.ce ch236, bx237, o200.ce ch236, by exact fi.start (by omega) (by omega)⟩
   clear Rg o19 bx25 o179 bx190 o200 o205 bx225 bx237 bH
   rintro ⟨Or_c2_v, Or_c2, i_c2, By_c2, Fa_c2, g242⟩ f240 w241 ⟨bH, zs0_c2, zs4_c2, zs5_c2, zs6_c2, Rg, o19, bx25, o179, bx190, o205, bx225, bx237, o_Or_c2, hgo_c2⟩ back3_c2
   obtain ⟨hgf, hgb, hgl, hgi⟩ := hgo_c2.facts hm1
   refine a9 (a9 (a8 rfl (mz zs6_c2 (lx (ad Try.underlying109 rfl rfl zs5_c2 rfl) (lx (af aL rfl bx237 rfl) ?_)))))
   have len243 := (o_Or_c2.flat).small
   refine lx (aO Try.underlying27 rfl o_Or_c2.flat) (lx (bc (m := (i_c2 : Int)) (n := (Or_c2.length : Int)) rfl rfl) (aa ?_))
   by_cases p3_c2 : (i_c2 : Int) < (Or_c2.length : Int)
   ·
    refine ae rfl (dt p3_c2) ?_
    have hnode := hgo_c2.node ‹_›
    have hO1 := hov_c1.len
    refine aj (a9 (ah (a9 (a8 rfl (lx (ad Try.underlying109 rfl rfl zs5_c2 rfl) (lx (af aL rfl bx237 rfl) (mz zs6_c2 (lx (ab (v := Or_c2_v) (i := (i_c2 : Int)) Try.underlying27 rfl rfl o_Or_c2.flat rfl (by omega) (by omega)) (lx (ay (v := Or_c2_v) (i := (i_c2 : Int)) am rfl o_Or_c2.flat (by omega) (by omega) (by decide) rfl) (ai (gI Or_c2 (i_c2 : Int)) ?_))))))))))
    refine aa (a9 (a8 rfl (mz zs0_c2 (lw (vp b23 0) (bA rfl) (lx (ad Try.underlying116 rfl rfl rfl rfl) (lx (af cW rfl bx25 rfl) (mi (gI Or_c2 (i_c2 : Int)) (lx (ab (v := v17) (i := (gI Or_c2 (i_c2 : Int))) Try.underlying25 rfl rfl o19.sl rfl (by omega) (by omega)) ?_))))))))
    obtain ⟨v244, cel245, r246⟩ := bY (r := (gI Or_c2 (i_c2 : Int))) o19 (by omega) (by omega)
    refine lx (aS aL rfl cel245) ?_
    have len247 := (r246.row_sl).small
    refine lx (aO Try.underlying27 rfl r246.row_sl) (mi 0 (aa (ah ?_)))
    refine aN (σ := Value × (List Int) × Nat × (List Int) × (List Int) × aE) (fun ⟨Os_c2_v, Os_c2, j_c2, Bs_c2, Fs_c2, gq⟩ f w => b9 w0 gq w ∧ f 0 = vp b23 0 ∧ f 4 = vp b188 0 ∧ f 5 = vp b232 0 ∧ f 6 = vi (i_c2 : Int) ∧ f 7 = vi (gI Or_c2 (i_c2 : Int)) ∧ f 35 = v244 ∧ f 36 = vi (List.length (gI O_c1 (gI Or_c2 (i_c2 : Int))) : Int) ∧ f 37 = vi (j_c2 : Int) ∧ Sl gq (is 0) w g_v g.2 ∧ cj gq 3 w v17 O_c1 ∧ Bx gq (is 4) w b23 [vi g.1, g_v, v17] ∧ Ow gq (is 7) (is 7) w v178 part ∧ Bx gq (is 8) w b188 [vn, vn, vn, vn] ∧ Ow gq (is 11) (is 11) w v204 Bs_c2 ∧ Ow gq (is 12) (is 12) w v211 Fs_c2 ∧ Bx gq (is 14) w b232 [Os_c2_v, v204, v211, vn] ∧ Ow gq (row 3 (Int.toNat (gI Or_c2 (i_c2 : Int)) + 1)) (row 3 (Int.toNat (gI Or_c2 (i_c2 : Int)) + 1)) w v244 (gI O_c1 (gI Or_c2 (i_c2 : Int))) ∧ Ow gq (is 10) (is 10) w Os_c2_v Os_c2 ∧ (j_c2 : Int) ≤ ((List.length (gI O_c1 (gI Or_c2 (i_c2 : Int))) : Int) : Int) ∧ (dn ⟨Os_c2, Bs_c2, Fs_c2⟩ g ⟨Or_c2, By_c2, Fa_c2⟩ (gI Or_c2 (i_c2 : Int)) j_c2)) (fun ⟨Os_c2_v, Os_c2, j_c2, Bs_c2, Fs_c2, gq⟩ => Int.toNat (((List.length (gI O_c1 (gI Or_c2 (i_c2 : Int))) : Int) : Int) - (j_c2 : Int))) (Or_c2_v, Or_c2, 0, By_c2, Fa_c2, g242) ?_ ?_
    · exact ⟨bH, zs0_c2, zs4_c2, zs5_c2, zs6_c2, rfl, rfl, rfl, rfl, Rg, o19, bx25, o179, bx190, o205, bx225, bx237, r246, o_Or_c2, by omega, by exact hgo_c2.row ‹_›⟩
    clear Rg o19 bx25 o179 bx190 o205 bx225 bx237 o_Or_c2 cel245 r246 bH
    rintro ⟨Os_c2_v, Os_c2, j_c2, Bs_c2, Fs_c2, g250⟩ f248 w249 ⟨bH, zs0_c2, zs4_c2, zs5_c2, zs6_c2, zs7_c2, zs35_c2, zs36_c2, zs37_c2, Rg, o19, bx25, o179, bx190, o205, bx225, bx237, r246, o_Os_c2, hle_j_c2, hrw⟩ back7_c2
    obtain ⟨hr1, hr2, hr3, hr4, hr5, hr6⟩ := hrw.facts hm1
    have hrow := hOut _ hr4.1 hr4.2
    refine a9 (a8 rfl (lx (bc (m := (j_c2 : Int)) (n := (List.length (gI O_c1 (gI Or_c2 (i_c2 : Int))) : Int)) zs37_c2 zs36_c2) (aa (a9 ?_))))
    by_cases p7_c2 : (j_c2 : Int) < (List.length (gI O_c1 (gI Or_c2 (i_c2 : Int))) : Int)
    ·
     refine ae rfl (dt p7_c2) ?_
     have hjl : (j_c2 : Int) < (cZ g (gI Or_c2 (i_c2 : Int))).length := by rw [← hrow]; assumption
     have hhe : gI (gI O_c1 (gI Or_c2 (i_c2 : Int))) (j_c2 : Int) = gI (cZ g (gI Or_c2 (i_c2 : Int))) (j_c2 : Int) := by rw [hrow]
     have hhr := (f4 (bu (xs := cZ g (gI Or_c2 (i_c2 : Int))) (i := (j_c2 : Int)) (by omega) hjl)).1
     rw [← hhe] at hhr
     have hti := gj hm hhr.1 hhr.2
     unfold dO at hti
     refine aj (a9 (ah (a9 (a8 rfl (lx (ab (v := v244) (i := (j_c2 : Int)) Try.underlying27 rfl zs35_c2 r246.row_sl zs37_c2 (by omega) (by omega)) (lx (ay (v := v244) (i := (j_c2 : Int)) am rfl r246.row_sl (by omega) (by omega) (by decide) rfl) (ai (gI (gI O_c1 (gI Or_c2 (i_c2 : Int))) (j_c2 : Int)) (aa (a9 ?_)))))))))
     refine el (σ := aE) (fun gq f w => b9 w0 gq w ∧ f 0 = vp b23 0 ∧ f 4 = vp b188 0 ∧ f 5 = vp b232 0 ∧ f 6 = vi (i_c2 : Int) ∧ f 7 = vi (gI Or_c2 (i_c2 : Int)) ∧ f 9 = vi (gI (gI O_c1 (gI Or_c2 (i_c2 : Int))) (j_c2 : Int)) ∧ f 35 = v244 ∧ f 36 = vi (List.length (gI O_c1 (gI Or_c2 (i_c2 : Int))) : Int) ∧ f 37 = vi (j_c2 : Int) ∧ f 48 = Value.bool (decide ((gI Fs_c2 (pI (gI g.2 ((gI (gI O_c1 (gI Or_c2 (i_c2 : Int))) (j_c2 : Int)) / 2)) (1 - ((gI (gI O_c1 (gI Or_c2 (i_c2 : Int))) (j_c2 : Int)) % 2)))) < 0)) ∧ Sl gq (is 0) w g_v g.2 ∧ cj gq 3 w v17 O_c1 ∧ Bx gq (is 4) w b23 [vi g.1, g_v, v17] ∧ Ow gq (is 7) (is 7) w v178 part ∧ Bx gq (is 8) w b188 [vn, vn, vn, vn] ∧ Ow gq (is 11) (is 11) w v204 Bs_c2 ∧ Ow gq (is 12) (is 12) w v211 Fs_c2 ∧ Bx gq (is 14) w b232 [Os_c2_v, v204, v211, vn] ∧ Ow gq (row 3 (Int.toNat (gI Or_c2 (i_c2 : Int)) + 1)) (row 3 (Int.toNat (gI Or_c2 (i_c2 : Int)) + 1)) w v244 (gI O_c1 (gI Or_c2 (i_c2 : Int))) ∧ Ow gq (is 10) (is 10) w Os_c2_v Os_c2) g250 [0, 2, 3, 5, 6, 7] je ?_ ?_
     ·
      intro mid
      intro w252 ch251
      refine xp 0 rfl (fun w => ad Try.underlying109 rfl rfl zs5_c2 rfl) (xp (v := vp b23 0) 2 rfl (fun w => au zs0_c2) (xp (v := vi (gI (gI O_c1 (gI Or_c2 (i_c2 : Int))) (j_c2 : Int))) 3 rfl (fun w => au rfl) ?_))
      refine gB 1 4 rfl rfl (by kernel_rfl) rfl rfl ?_ ?_
      ·
       replace bx237 := bx237.cn ch251
       refine aJ (v := v211) (af aL rfl bx237 rfl) (bM 4 rfl (by kernel_rfl) rfl (dv (aD (vals := [vp b23 0, vi (gI (gI O_c1 (gI Or_c2 (i_c2 : Int))) (j_c2 : Int))]) Try.func108 mO nm rfl) (az Try.func108 rfl (Nat.le_of_ble_eq_true rfl) ?_)))
       replace Rg := Rg.cn ch251
       replace o19 := o19.cn ch251
       refine a9 (a8 rfl (ai 0 (aa (a9 (a8 rfl (mv (vp b23 0) (lw (vp b23 0) (bA rfl) (lx (ad Try.underlying116 rfl rfl rfl rfl) (lx (ad Try.underlying24 rfl rfl rfl rfl) ?_)))))))))
       replace bx25 := bx25.cn ch251
       refine lx (af bo rfl bx25 rfl) (mi (gI (gI O_c1 (gI Or_c2 (i_c2 : Int))) (j_c2 : Int)) (lx (hU (m := (gI (gI O_c1 (gI Or_c2 (i_c2 : Int))) (j_c2 : Int))) (n := 2) rfl rfl (by omega) (by omega) (by omega)) (mi (gI (gI O_c1 (gI Or_c2 (i_c2 : Int))) (j_c2 : Int)) (lx (eT (m := (gI (gI O_c1 (gI Or_c2 (i_c2 : Int))) (j_c2 : Int))) (n := 2) rfl rfl (by omega) (by omega)) (lx (eR (m := 1) (n := (gI (gI O_c1 (gI Or_c2 (i_c2 : Int))) (j_c2 : Int)) % 2) rfl rfl (by omega)) (lx (ab (v := g_v) (i := (gI (gI O_c1 (gI Or_c2 (i_c2 : Int))) (j_c2 : Int)) / 2) Try.underlying22 rfl rfl Rg rfl (by omega) (by omega)) (lx (bV (i := 1 - ((gI (gI O_c1 (gI Or_c2 (i_c2 : Int))) (j_c2 : Int)) % 2)) Try.underlying60 rfl rfl rfl (by omega) (by omega) (Nat.mul_one _)) ?_)))))))
       refine lx (cF (v := g_v) (i := (gI (gI O_c1 (gI Or_c2 (i_c2 : Int))) (j_c2 : Int)) / 2) am rfl Rg (by omega) (by omega) (show Int.toNat (1 - ((gI (gI O_c1 (gI Or_c2 (i_c2 : Int))) (j_c2 : Int)) % 2)) < 2 by omega) (fH _ (by omega) (by omega))) (ai (pI (gI g.2 ((gI (gI O_c1 (gI Or_c2 (i_c2 : Int))) (j_c2 : Int)) / 2)) (1 - ((gI (gI O_c1 (gI Or_c2 (i_c2 : Int))) (j_c2 : Int)) % 2))) (aa (av (vs := [vi (pI (gI g.2 ((gI (gI O_c1 (gI Or_c2 (i_c2 : Int))) (j_c2 : Int)) / 2)) (1 - ((gI (gI O_c1 (gI Or_c2 (i_c2 : Int))) (j_c2 : Int)) % 2)))]) Try.func108 (.tmp rfl .nil) ?_)))
       refine ⟨vi (pI (gI g.2 ((gI (gI O_c1 (gI Or_c2 (i_c2 : Int))) (j_c2 : Int)) / 2)) (1 - ((gI (gI O_c1 (gI Or_c2 (i_c2 : Int))) (j_c2 : Int)) % 2))), rfl, ?_⟩
       replace bx225 := bx225.cn ch251
       refine xv 5 [4, 1, 3, 2, 0] rfl (ab (v := v211) (i := pI (gI g.2 ((gI (gI O_c1 (gI Or_c2 (i_c2 : Int))) (j_c2 : Int)) / 2)) (1 - ((gI (gI O_c1 (gI Or_c2 (i_c2 : Int))) (j_c2 : Int)) % 2))) Try.underlying27 rfl rfl bx225.flat rfl (by omega) (by omega)) (xv 6 [5, 4, 1, 3, 2, 0] rfl (ay (v := v211) (i := pI (gI g.2 ((gI (gI O_c1 (gI Or_c2 (i_c2 : Int))) (j_c2 : Int)) / 2)) (1 - ((gI (gI O_c1 (gI Or_c2 (i_c2 : Int))) (j_c2 : Int)) % 2))) am rfl bx225.flat (by omega) (by omega) (by decide) rfl) (xp 7 rfl (fun w => bc (m := (gI Fs_c2 (pI (gI g.2 ((gI (gI O_c1 (gI Or_c2 (i_c2 : Int))) (j_c2 : Int)) / 2)) (1 - ((gI (gI O_c1 (gI Or_c2 (i_c2 : Int))) (j_c2 : Int)) % 2))))) (n := 0) rfl rfl) (cO (by kernel_rfl) ?_)))
       exact mid (g250) _ _ ⟨bH.cn ch251, zs0_c2, zs4_c2, zs5_c2, zs6_c2, zs7_c2, rfl, zs35_c2, zs36_c2, zs37_c2, rfl, Rg, o19, bx25, o179.cn ch251, bx190.cn ch251, o205.cn ch251, bx225, bx237, r246.cn ch251, o_Os_c2.cn ch251⟩
      ·
       refine dv (aD (vals := [vp b23 0, vi (gI (gI O_c1 (gI Or_c2 (i_c2 : Int))) (j_c2 : Int))]) Try.func108 mO nm rfl) (az Try.func108 rfl (Nat.le_of_ble_eq_true rfl) ?_)
       replace Rg := Rg.cn ch251
       replace o19 := o19.cn ch251
       refine a9 (a8 rfl (ai 0 (aa (a9 (a8 rfl (mv (vp b23 0) (lw (vp b23 0) (bA rfl) (lx (ad Try.underlying116 rfl rfl rfl rfl) (lx (ad Try.underlying24 rfl rfl rfl rfl) ?_)))))))))
       replace bx25 := bx25.cn ch251
       refine lx (af bo rfl bx25 rfl) (mi (gI (gI O_c1 (gI Or_c2 (i_c2 : Int))) (j_c2 : Int)) (lx (hU (m := (gI (gI O_c1 (gI Or_c2 (i_c2 : Int))) (j_c2 : Int))) (n := 2) rfl rfl (by omega) (by omega) (by omega)) (mi (gI (gI O_c1 (gI Or_c2 (i_c2 : Int))) (j_c2 : Int)) (lx (eT (m := (gI (gI O_c1 (gI Or_c2 (i_c2 : Int))) (j_c2 : Int))) (n := 2) rfl rfl (by omega) (by omega)) (lx (eR (m := 1) (n := (gI (gI O_c1 (gI Or_c2 (i_c2 : Int))) (j_c2 : Int)) % 2) rfl rfl (by omega)) (lx (ab (v := g_v) (i := (gI (gI O_c1 (gI Or_c2 (i_c2 : Int))) (j_c2 : Int)) / 2) Try.underlying22 rfl rfl Rg rfl (by omega) (by omega)) (lx (bV (i := 1 - ((gI (gI O_c1 (gI Or_c2 (i_c2 : Int))) (j_c2 : Int)) % 2)) Try.underlying60 rfl rfl rfl (by omega) (by omega) (Nat.mul_one _)) ?_)))))))
       refine lx (cF (v := g_v) (i := (gI (gI O_c1 (gI Or_c2 (i_c2 : Int))) (j_c2 : Int)) / 2) am rfl Rg (by omega) (by omega) (show Int.toNat (1 - ((gI (gI O_c1 (gI Or_c2 (i_c2 : Int))) (j_c2 : Int)) % 2)) < 2 by omega) (fH _ (by omega) (by omega))) (ai (pI (gI g.2 ((gI (gI O_c1 (gI Or_c2 (i_c2 : Int))) (j_c2 : Int)) / 2)) (1 - ((gI (gI O_c1 (gI Or_c2 (i_c2 : Int))) (j_c2 : Int)) % 2))) (aa (av (vs := [vi (pI (gI g.2 ((gI (gI O_c1 (gI Or_c2 (i_c2 : Int))) (j_c2 : Int)) / 2)) (1 - ((gI (gI O_c1 (gI Or_c2 (i_c2 : Int))) (j_c2 : Int)) % 2)))]) Try.func108 (.tmp rfl .nil) ?_)))
       refine ⟨vi (pI (gI g.2 ((gI (gI O_c1 (gI Or_c2 (i_c2 : Int))) (j_c2 : Int)) / 2)) (1 - ((gI (gI O_c1 (gI Or_c2 (i_c2 : Int))) (j_c2 : Int)) % 2))), rfl, ?_⟩
       replace bx237 := bx237.cn ch251
       refine bM 1 rfl (by kernel_rfl) rfl (aJ (v := v211) (af aL rfl bx237 rfl) ?_)
       replace bx225 := bx225.cn ch251
       refine xv 5 [1, 4, 3, 2, 0] rfl (ab (v := v211) (i := pI (gI g.2 ((gI (gI O_c1 (gI Or_c2 (i_c2 : Int))) (j_c2 : Int)) / 2)) (1 - ((gI (gI O_c1 (gI Or_c2 (i_c2 : Int))) (j_c2 : Int)) % 2))) Try.underlying27 rfl rfl bx225.flat rfl (by omega) (by omega)) (xv 6 [5, 1, 4, 3, 2, 0] rfl (ay (v := v211) (i := pI (gI g.2 ((gI (gI O_c1 (gI Or_c2 (i_c2 : Int))) (j_c2 : Int)) / 2)) (1 - ((gI (gI O_c1 (gI Or_c2 (i_c2 : Int))) (j_c2 : Int)) % 2))) am rfl bx225.flat (by omega) (by omega) (by decide) rfl) (xp 7 rfl (fun w => bc (m := (gI Fs_c2 (pI (gI g.2 ((gI (gI O_c1 (gI Or_c2 (i_c2 : Int))) (j_c2 : Int)) / 2)) (1 - ((gI (gI O_c1 (gI Or_c2 (i_c2 : Int))) (j_c2 : Int)) % 2))))) (n := 0) rfl rfl) (cO (by kernel_rfl) ?_)))
       exact mid (g250) _ _ ⟨bH.cn ch251, zs0_c2, zs4_c2, zs5_c2, zs6_c2, zs7_c2, rfl, zs35_c2, zs36_c2, zs37_c2, rfl, Rg, o19, bx25, o179.cn ch251, bx190.cn ch251, o205.cn ch251, bx225, bx237, r246.cn ch251, o_Os_c2.cn ch251⟩
     clear Rg o19 bx25 o179 bx190 o205 bx225 bx237 r246 o_Os_c2 bH
     rintro g255 f253 w254 ⟨bH, zs0_c2, zs4_c2, zs5_c2, zs6_c2, zs7_c2, zs9_c2, zs35_c2, zs36_c2, zs37_c2, zs48_c2, Rg, o19, bx25, o179, bx190, o205, bx225, bx237, r246, o_Os_c2⟩
     by_cases p9_c2 : (gI Fs_c2 (pI (gI g.2 ((gI (gI O_c1 (gI Or_c2 (i_c2 : Int))) (j_c2 : Int)) / 2)) (1 - ((gI (gI O_c1 (gI Or_c2 (i_c2 : Int))) (j_c2 : Int)) % 2)))) < 0
     ·
      refine ae zs48_c2 (dt p9_c2) (a8 rfl (mz zs0_c2 (mz zs9_c2 (lx (ad Try.underlying109 rfl rfl zs5_c2 rfl) (lx (af aL rfl bx237 rfl) (mz zs7_c2 (lx (ab (v := v211) (i := (gI Or_c2 (i_c2 : Int))) Try.underlying27 rfl rfl bx225.flat rfl (by omega) (by omega)) (lx (ay (v := v211) (i := (gI Or_c2 (i_c2 : Int))) am rfl bx225.flat (by omega) (by omega) (by decide) rfl) (lx (aQ (m := (gI Fs_c2 (gI Or_c2 (i_c2 : Int)))) (n := 1) rfl rfl (by omega)) ?_)))))))))
      refine lo (dv (aD (vals := [vp b23 0, vp b232 0, vi (gI (gI O_c1 (gI Or_c2 (i_c2 : Int))) (j_c2 : Int)), vi ((gI Fs_c2 (gI Or_c2 (i_c2 : Int))) + 1)]) Try.func109 uT ug (sY rfl (sY zs5_c2 (sY rfl (sY rfl rfl))))) (az Try.func109 rfl (Nat.le_of_ble_eq_true rfl) (a9 (a8 rfl (mv (vp b23 0) (mi (gI (gI O_c1 (gI Or_c2 (i_c2 : Int))) (j_c2 : Int)) (lo (dv (aD (vals := [vp b23 0, vi (gI (gI O_c1 (gI Or_c2 (i_c2 : Int))) (j_c2 : Int))]) Try.func108 mO nm rfl) (az Try.func108 rfl (Nat.le_of_ble_eq_true rfl) (a9 (a8 rfl ?_)))))))))))
      refine ai 0 (aa (a9 (a8 rfl (mv (vp b23 0) (lw (vp b23 0) (bA rfl) (lx (ad Try.underlying116 rfl rfl rfl rfl) (lx (ad Try.underlying24 rfl rfl rfl rfl) (lx (af bo rfl bx25 rfl) (mi (gI (gI O_c1 (gI Or_c2 (i_c2 : Int))) (j_c2 : Int)) (lx (hU (m := (gI (gI O_c1 (gI Or_c2 (i_c2 : Int))) (j_c2 : Int))) (n := 2) rfl rfl (by omega) (by omega) (by omega)) (mi (gI (gI O_c1 (gI Or_c2 (i_c2 : Int))) (j_c2 : Int)) ?_)))))))))))
      refine lx (eT (m := (gI (gI O_c1 (gI Or_c2 (i_c2 : Int))) (j_c2 : Int))) (n := 2) rfl rfl (by omega) (by omega)) (lx (eR (m := 1) (n := (gI (gI O_c1 (gI Or_c2 (i_c2 : Int))) (j_c2 : Int)) % 2) rfl rfl (by omega)) (lx (ab (v := g_v) (i := (gI (gI O_c1 (gI Or_c2 (i_c2 : Int))) (j_c2 : Int)) / 2) Try.underlying22 rfl rfl Rg rfl (by omega) (by omega)) (lx (bV (i := 1 - ((gI (gI O_c1 (gI Or_c2 (i_c2 : Int))) (j_c2 : Int)) % 2)) Try.underlying60 rfl rfl rfl (by omega) (by omega) (Nat.mul_one _)) (lx (cF (v := g_v) (i := (gI (gI O_c1 (gI Or_c2 (i_c2 : Int))) (j_c2 : Int)) / 2) am rfl Rg (by omega) (by omega) (show Int.toNat (1 - ((gI (gI O_c1 (gI Or_c2 (i_c2 : Int))) (j_c2 : Int)) % 2)) < 2 by omega) (fH _ (by omega) (by omega))) ?_))))
      refine ai (pI (gI g.2 ((gI (gI O_c1 (gI Or_c2 (i_c2 : Int))) (j_c2 : Int)) / 2)) (1 - ((gI (gI O_c1 (gI Or_c2 (i_c2 : Int))) (j_c2 : Int)) % 2))) (aa (av (vs := [vi (pI (gI g.2 ((gI (gI O_c1 (gI Or_c2 (i_c2 : Int))) (j_c2 : Int)) / 2)) (1 - ((gI (gI O_c1 (gI Or_c2 (i_c2 : Int))) (j_c2 : Int)) % 2)))]) Try.func108 (.tmp rfl .nil) ?_))
      refine ⟨vi (pI (gI g.2 ((gI (gI O_c1 (gI Or_c2 (i_c2 : Int))) (j_c2 : Int)) / 2)) (1 - ((gI (gI O_c1 (gI Or_c2 (i_c2 : Int))) (j_c2 : Int)) % 2))), rfl, ?_⟩
      refine ai (pI (gI g.2 ((gI (gI O_c1 (gI Or_c2 (i_c2 : Int))) (j_c2 : Int)) / 2)) (1 - ((gI (gI O_c1 (gI Or_c2 (i_c2 : Int))) (j_c2 : Int)) % 2))) (aa (a9 (a8 rfl (mv (vp b232 0) (mv (vp b232 0) (lw (vp b232 0) (bA rfl) (lx (ad Try.underlying109 rfl rfl rfl rfl) (lx (af aL rfl bx237 rfl) (mi (pI (gI g.2 ((gI (gI O_c1 (gI Or_c2 (i_c2 : Int))) (j_c2 : Int)) / 2)) (1 - ((gI (gI O_c1 (gI Or_c2 (i_c2 : Int))) (j_c2 : Int)) % 2))) (lo ?_))))))))))
      refine aA (α := Int) g255 (is 17) (is 17) (17, 0) rfl [pI (gI g.2 ((gI (gI O_c1 (gI Or_c2 (i_c2 : Int))) (j_c2 : Int)) / 2)) (1 - ((gI (gI O_c1 (gI Or_c2 (i_c2 : Int))) (j_c2 : Int)) % 2))] Try.underlying27 am (by decide) (by decide) (vs := [(0, vi (pI (gI g.2 ((gI (gI O_c1 (gI Or_c2 (i_c2 : Int))) (j_c2 : Int)) / 2)) (1 - ((gI (gI O_c1 (gI Or_c2 (i_c2 : Int))) (j_c2 : Int)) % 2))))]) rfl rfl (.cons rfl .nil) ?_
      intro g256 w257 v258 ch259 o260
      refine lo ?_
      replace o_Os_c2 := o_Os_c2.cn ch259
      refine aR (α := Int) (xs := Os_c2) (ys := ([pI (gI g.2 ((gI (gI O_c1 (gI Or_c2 (i_c2 : Int))) (j_c2 : Int)) / 2)) (1 - ((gI (gI O_c1 (gI Or_c2 (i_c2 : Int))) (j_c2 : Int)) % 2))])) g256 (J := is 10) (S := is 10) (10, 0) rfl Try.underlying27 am (by decide) rfl rfl rfl o_Os_c2 o260.flat (by decide) (by (simp; omega)) ?_
      intro g261 w262 v263 ch264 o265
      clear o_Os_c2
      refine lw (vp b232 0) (bA rfl) (lx (ad Try.underlying109 rfl rfl rfl rfl) (lo ?_))
      replace bx237 := (bx237.cn ch259).ce ch264
      refine cK (cs' := [v263, v204, v211, vn]) aL rfl rfl bx237 (c6 o265.flat) (Nat.le_of_ble_eq_true rfl) (bm o265.flat) rfl ?_
      intro w266 ch267 bx268
      clear bx237
      refine aa ?_
      clear o260
      refine ch g261 [0, 1, 2, 3, 4, 5, 6, 7, 8, 9, 10, 11, 12, 14] je ?_
      intro w270 ch269
      refine xp (v := vp b232 0) 0 rfl (fun w => au rfl) (xp (v := vp b232 0) 1 rfl (fun w => bA rfl) (xp 2 rfl (fun w => ad Try.underlying109 rfl rfl rfl rfl) ?_))
      replace bx268 := bx268.cn ch269
      refine xv 3 [2, 1, 0, 4, 5, 9, 10, 11, 6, 7, 8] rfl (af aL rfl bx268 rfl) (xp (v := vi (pI (gI g.2 ((gI (gI O_c1 (gI Or_c2 (i_c2 : Int))) (j_c2 : Int)) / 2)) (1 - ((gI (gI O_c1 (gI Or_c2 (i_c2 : Int))) (j_c2 : Int)) % 2)))) 4 rfl (fun w => au rfl) (xp (v := vp b232 0) 5 rfl (fun w => au rfl) (xp (v := vp b232 0) 6 rfl (fun w => bA rfl) (xp 7 rfl (fun w => ad Try.underlying109 rfl rfl rfl rfl) (xv 8 [7, 6, 5, 4, 3, 2, 1, 0, 9, 10, 11] rfl (af aL rfl bx268 rfl) (xp (v := vi (pI (gI g.2 ((gI (gI O_c1 (gI Or_c2 (i_c2 : Int))) (j_c2 : Int)) / 2)) (1 - ((gI (gI O_c1 (gI Or_c2 (i_c2 : Int))) (j_c2 : Int)) % 2)))) 9 rfl (fun w => au rfl) (xp (v := vi (gI (gI O_c1 (gI Or_c2 (i_c2 : Int))) (j_c2 : Int))) 10 rfl (fun w => au rfl) ?_)))))))
      refine xp (v := vi ((gI Fs_c2 (gI Or_c2 (i_c2 : Int))) + 1)) 11 rfl (fun w => au rfl) ?_
      have C271 := cg [10, 14] (ch259.n.seq ((ch264.l rfl).seq ((ch267.l rfl).seq ch269.n)))
      replace o205 := o205.ca C271
      refine xv 12 [11, 10, 9, 8, 7, 6, 5, 4, 3, 2, 1, 0] rfl (ab (v := v204) (i := pI (gI g.2 ((gI (gI O_c1 (gI Or_c2 (i_c2 : Int))) (j_c2 : Int)) / 2)) (1 - ((gI (gI O_c1 (gI Or_c2 (i_c2 : Int))) (j_c2 : Int)) % 2))) Try.underlying27 rfl rfl o205.flat rfl (by omega) (by omega)) (bM 13 rfl (by kernel_rfl) rfl (bP (i := pI (gI g.2 ((gI (gI O_c1 (gI Or_c2 (i_c2 : Int))) (j_c2 : Int)) / 2)) (1 - ((gI (gI O_c1 (gI Or_c2 (i_c2 : Int))) (j_c2 : Int)) % 2))) (gI (gI O_c1 (gI Or_c2 (i_c2 : Int))) (j_c2 : Int)) am rfl rfl o205 (by omega) (by omega) rfl ?_))
      intro w272 ch273 bx274
      clear o205
      have C275 := cg [10, 11, 14] (ch259.n.seq ((ch264.l rfl).seq ((ch267.l rfl).seq (ch269.n.seq (ch273.l rfl)))))
      replace bx225 := bx225.ca C275
      refine xv 14 [13, 12, 11, 10, 9, 8, 7, 6, 5, 4, 3, 2, 1, 0] rfl (ab (v := v211) (i := pI (gI g.2 ((gI (gI O_c1 (gI Or_c2 (i_c2 : Int))) (j_c2 : Int)) / 2)) (1 - ((gI (gI O_c1 (gI Or_c2 (i_c2 : Int))) (j_c2 : Int)) % 2))) Try.underlying27 rfl rfl bx225.flat rfl (by omega) (by omega)) (bM 15 rfl (by kernel_rfl) rfl (bP (i := pI (gI g.2 ((gI (gI O_c1 (gI Or_c2 (i_c2 : Int))) (j_c2 : Int)) / 2)) (1 - ((gI (gI O_c1 (gI Or_c2 (i_c2 : Int))) (j_c2 : Int)) % 2))) ((gI Fs_c2 (gI Or_c2 (i_c2 : Int))) + 1) am rfl rfl bx225 (by omega) (by omega) rfl ?_))
      intro w276 ch277 bx278
      clear bx225
      refine cO (by kernel_rfl) (gN (vs := []) Try.func109 .nil ?_)
      refine ⟨vt [], rfl, ?_⟩
      refine aa (ao (a8 rfl (lx (aQ (m := (j_c2 : Int)) (n := 1) zs37_c2 rfl (by omega)) (mi ((j_c2 : Int) + 1) (aa ?_)))))
      have C279 := cg [10, 11, 12, 14] (ch259.n.seq ((ch264.l rfl).seq ((ch267.l rfl).seq (ch269.n.seq ((ch273.l rfl).seq (ch277.l rfl))))))
      have C280 := cg [11, 12, 14] ((ch267.l rfl).seq (ch269.n.seq ((ch273.l rfl).seq (ch277.l rfl))))
      refine back7_c2 (v263, (Os_c2 ++ [pI (gI g.2 ((gI (gI O_c1 (gI Or_c2 (i_c2 : Int))) (j_c2 : Int)) / 2)) (1 - ((gI (gI O_c1 (gI Or_c2 (i_c2 : Int))) (j_c2 : Int)) % 2))]), j_c2 + 1, (List.set Bs_c2 (Int.toNat (pI (gI g.2 ((gI (gI O_c1 (gI Or_c2 (i_c2 : Int))) (j_c2 : Int)) / 2)) (1 - ((gI (gI O_c1 (gI Or_c2 (i_c2 : Int))) (j_c2 : Int)) % 2)))) (gI (gI O_c1 (gI Or_c2 (i_c2 : Int))) (j_c2 : Int))), (List.set Fs_c2 (Int.toNat (pI (gI g.2 ((gI (gI O_c1 (gI Or_c2 (i_c2 : Int))) (j_c2 : Int)) / 2)) (1 - ((gI (gI O_c1 (gI Or_c2 (i_c2 : Int))) (j_c2 : Int)) % 2)))) ((gI Fs_c2 (gI Or_c2 (i_c2 : Int))) + 1)), g261) _ _ ⟨bH.ca C279, zs0_c2, zs4_c2, zs5_c2, zs6_c2, zs7_c2, zs35_c2, zs36_c2, rfl, Rg.ca C279, o19.ca C279, bx25.ca C279, o179.ca C279, bx190.ca C279, bx274.ce ch277, bx278, (bx268.ce ch273).ce ch277, r246.chg C279 (mM rfl) (mM rfl), o265.ca C280, by omega, ?_⟩ ?_
      · show dn ⟨(Os_c2 ++ [pI (gI g.2 ((gI (gI O_c1 (gI Or_c2 (i_c2 : Int))) (j_c2 : Int)) / 2)) (1 - ((gI (gI O_c1 (gI Or_c2 (i_c2 : Int))) (j_c2 : Int)) % 2))]), (List.set Bs_c2 (Int.toNat (pI (gI g.2 ((gI (gI O_c1 (gI Or_c2 (i_c2 : Int))) (j_c2 : Int)) / 2)) (1 - ((gI (gI O_c1 (gI Or_c2 (i_c2 : Int))) (j_c2 : Int)) % 2)))) (gI (gI O_c1 (gI Or_c2 (i_c2 : Int))) (j_c2 : Int))), (List.set Fs_c2 (Int.toNat (pI (gI g.2 ((gI (gI O_c1 (gI Or_c2 (i_c2 : Int))) (j_c2 : Int)) / 2)) (1 - ((gI (gI O_c1 (gI Or_c2 (i_c2 : Int))) (j_c2 : Int)) % 2)))) ((gI Fs_c2 (gI Or_c2 (i_c2 : Int))) + 1))⟩ g ⟨Or_c2, By_c2, Fa_c2⟩ (gI Or_c2 (i_c2 : Int)) (j_c2 + 1)
        exact hrw.yes hm hjl hhe ‹_›
      · show Int.toNat (((List.length (gI O_c1 (gI Or_c2 (i_c2 : Int))) : Int) : Int) - ((j_c2 + 1) : Int)) < Int.toNat (((List.length (gI O_c1 (gI Or_c2 (i_c2 : Int))) : Int) : Int) - (j_c2 : Int))
        omega
     refine ag zs48_c2 (df p9_c2) (aj (ao (a8 rfl (lx (aQ (m := (j_c2 : Int)) (n := 1) zs37_c2 rfl (by omega)) (mi ((j_c2 : Int) + 1) (aa ?_))))))
     refine back7_c2 (Os_c2_v, Os_c2, j_c2 + 1, Bs_c2, Fs_c2, g255) _ _ ⟨bH, zs0_c2, zs4_c2, zs5_c2, zs6_c2, zs7_c2, zs35_c2, zs36_c2, rfl, Rg, o19, bx25, o179, bx190, o205, bx225, bx237, r246, o_Os_c2, by omega, ?_⟩ ?_
     · show dn ⟨Os_c2, Bs_c2, Fs_c2⟩ g ⟨Or_c2, By_c2, Fa_c2⟩ (gI Or_c2 (i_c2 : Int)) (j_c2 + 1)
       exact hrw.no hm hjl hhe ‹_›
     · show Int.toNat (((List.length (gI O_c1 (gI Or_c2 (i_c2 : Int))) : Int) : Int) - ((j_c2 + 1) : Int)) < Int.toNat (((List.length (gI O_c1 (gI Or_c2 (i_c2 : Int))) : Int) : Int) - (j_c2 : Int))
       omega
    refine ag rfl (df p7_c2) (aI rfl (ao ?_))
    clear r246
    refine a8 rfl (mz zs6_c2 (lx (aQ (m := (i_c2 : Int)) (n := 1) rfl rfl (by omega)) (ai ((i_c2 : Int) + 1) (aa ?_))))
    refine back3_c2 (Os_c2_v, Os_c2, i_c2 + 1, Bs_c2, Fs_c2, g250) _ _ ⟨bH, zs0_c2, zs4_c2, zs5_c2, rfl, Rg, o19, bx25, o179, bx190, o205, bx225, bx237, o_Os_c2, ?_⟩ ?_
    · show fi ⟨Os_c2, Bs_c2, Fs_c2⟩ g (q : Int) (i_c2 + 1)
      exact hgo_c2.next hm1 ‹_› hrw (by rw [← hrow]; assumption)
    · show Int.toNat g.1 - (i_c2 + 1) < Int.toNat g.1 - i_c2
      omega
   refine ag rfl (df p3_c2) (aI rfl (a9 (a8 rfl (lx (aq (ds := [Or_c2_v, v204, v211, vn]) ef zs5_c2 bx237 rfl rfl) (lo (aC (cs' := [Or_c2_v, v204, v211, vn]) ef zs4_c2 rfl bx190 rfl (Nat.le_of_ble_eq_true rfl) (AllOne.all (.cons (bm o_Or_c2.flat) (.cons (bm o205.flat) (.cons (bm bx225.flat) (.cons rfl .nil))))) rfl ?_))))))
   intro w281 ch282 bx283
   clear bx190
   refine aa (av (vs := [vg [Or_c2_v, v204, v211, vn]]) Try.func99 (.cell zs4_c2 (bk (ds := [Or_c2_v, v204, v211, vn]) ef bx283 rfl rfl) .nil) ?_)
   refine ⟨vg [Or_c2_v, v204, v211, vn], rfl, ?_⟩
   refine lw (Or_c2_v) (rI Try.underlying109 rfl aL rfl rfl) ?_
   replace o_Or_c2 := o_Or_c2.ce ch282
   refine lx (aO Try.underlying27 rfl o_Or_c2.flat) (mi 0 (aa (ah ?_)))
   clear o205 bx225 bx237 bx283
   refine aN (σ := Nat × (List Int) × aE) (fun ⟨j, part2, gq⟩ f w => b9 w0 gq w ∧ f 5 = vp b23 0 ∧ f 6 = v178 ∧ f 7 = vi n ∧ f 20 = vi (List.length (List.replicate g.1.toNat (-1)) : Int) ∧ f 21 = vi (q : Int) ∧ f 32 = Or_c2_v ∧ f 33 = vi (Or_c2.length : Int) ∧ f 34 = vi (j : Int) ∧ Sl gq (is 0) w g_v g.2 ∧ cj gq 3 w v17 O_c1 ∧ Bx gq (is 4) w b23 [vi g.1, g_v, v17] ∧ Ow gq (is 7) (is 7) w v178 part2 ∧ Ow gq (is 10) (is 10) w Or_c2_v Or_c2 ∧ (j : Int) ≤ ((Or_c2.length : Int) : Int) ∧ (part2 = (List.take j Or_c2).foldl (fun l_ w_ => l_.set w_.toNat n) part)) (fun ⟨j, part2, gq⟩ => Int.toNat (((Or_c2.length : Int) : Int) - (j : Int))) (0, part, g242) ?_ ?_
   · exact ⟨bH.ce ch282, zs5, zs6, zs7, zs20, zs21, rfl, rfl, rfl, Rg.ce ch282, o19.ce ch282, bx25.ce ch282, o179.ce ch282, o_Or_c2, by omega, by simp⟩
   clear Rg o19 bx25 o179 o_Or_c2 bH
   rintro ⟨j, part2, g286⟩ f284 w285 ⟨bH, zs5, zs6, zs7, zs20, zs21, zs32, zs33, zs34, Rg, o19, bx25, o179, o_Or_c2, hle_j, hpa⟩ back11
   obtain ⟨hbo1, hbo2⟩ := pb hgo_c2 ‹_›
   have hp2 : part2.length = part.length := by rw [hpa]; exact dg _ _ _
   refine a9 (a8 rfl (lx (bc (m := (j : Int)) (n := (Or_c2.length : Int)) zs34 zs33) (aa (a9 ?_))))
   by_cases p11 : (j : Int) < (Or_c2.length : Int)
   ·
    refine ae rfl (dt p11) ?_
    have hwr := hbo2 _ (bu (xs := Or_c2) (i := (j : Int)) (by omega) ‹_›)
    refine aj (a9 (ah (a9 (a8 rfl (lx (ab (v := Or_c2_v) (i := (j : Int)) Try.underlying27 rfl zs32 o_Or_c2.flat zs34 (by omega) (by omega)) (lx (ay (v := Or_c2_v) (i := (j : Int)) am rfl o_Or_c2.flat (by omega) (by omega) (by decide) rfl) (ai (gI Or_c2 (j : Int)) (aa (a8 rfl (mz zs6 (mi (gI Or_c2 (j : Int)) ?_)))))))))))
    refine mz zs7 (lx (ab (v := v178) (i := (gI Or_c2 (j : Int))) Try.underlying27 rfl rfl o179.flat rfl (by omega) (by omega)) (lo (bP (i := (gI Or_c2 (j : Int))) n am rfl rfl o179 (by omega) (by omega) rfl ?_)))
    intro w287 ch288 bx289
    clear o179
    refine aa (ao (a8 rfl (lx (aQ (m := (j : Int)) (n := 1) zs34 rfl (by omega)) (mi ((j : Int) + 1) (aa ?_)))))
    refine back11 (j + 1, (List.set part2 (Int.toNat (gI Or_c2 (j : Int))) n), g286) _ _ ⟨bH.ce ch288, zs5, zs6, zs7, zs20, zs21, zs32, zs33, rfl, Rg.ce ch288, o19.ce ch288, bx25.ce ch288, bx289, o_Or_c2.ce ch288, by omega, ?_⟩ ?_
    · show (List.set part2 (Int.toNat (gI Or_c2 (j : Int))) n) = (List.take (j + 1) Or_c2).foldl (fun l_ w_ => l_.set w_.toNat n) part
      rw [gm ‹_›, ← hpa]
    · show Int.toNat (((Or_c2.length : Int) : Int) - ((j + 1) : Int)) < Int.toNat (((Or_c2.length : Int) : Int) - (j : Int))
      omega
   refine ag rfl (df p11) (aI rfl ?_)
   clear o_Or_c2
   refine a8 rfl (mz zs7 (lx (aQ (m := n) (n := 1) rfl rfl (by omega)) (ai (n + 1) (aa (ao (a8 rfl (lx (aQ (m := (q : Int)) (n := 1) zs21 rfl (by omega)) (mi ((q : Int) + 1) (aa ?_)))))))))
   refine back7 (q + 1, n + 1, part2, g286) _ _ ⟨bH, zs5, zs6, rfl, zs20, rfl, Rg, o19, bx25, o179, by omega, ?_⟩ ?_
   · show part2 = (bJ g (q + 1)).1 ∧ (n + 1) = (bJ g (q + 1)).2
     exact rF hinv ‹_› hbo1 hpa ‹_›
   · show Int.toNat (((List.length (List.replicate g.1.toNat (-1)) : Int) : Int) - ((q + 1) : Int)) < Int.toNat (((List.length (List.replicate g.1.toNat (-1)) : Int) : Int) - (q : Int))
     omega
  refine ag rfl (df p7) (aI rfl (a9 ?_))
  clear o19 bx25
  refine a8 rfl (mz zs6 (mz zs7 (ma v178 (ai n (ai 0 (aa (av (vs := [v178, vi n, vi 0]) Try.func74 (.tmp rfl (.tmp rfl (.tmp rfl .nil))) ?_)))))))
  have e0 : (part : List Int) = ((bC g).1) := by
    exact (fQ hm (by omega) hinv).1
  have e1 : (n : Int) = ((bC g).2.1) := by
    exact (fQ hm (by omega) hinv).2.1
  have e2 : (0 : Int) = ((bC g).2.2) := by
    exact (fQ hm (by omega) hinv).2.2
  exact ⟨(fin w0 g185 (fun n => if n = 7 then 1 else 0), v178), (cq (a := part) (b := n) (c := 0) (fun (z0 : List Int) (z1 : Int) (z2 : Int) => Ending.returned (vt [v178, vi z1, vi z2])) e0 e1 e2), bH.fresh _, (e0 ▸ (o179.glue (γ := c0) (ren := (fun n => if n = 7 then 1 else 0)) (k := 1) bH.col rfl rfl))⟩
 refine ae rfl (congrArg Bool.not (Bool.eq_false_iff.2 p1)) (a9 ?_)
 clear bx5
 refine a8 rfl (ma vn (ai 0 (ai 1 (aa (av (vs := [vn, vi 0, vi 1]) Try.func74 (.tmp rfl (.tmp rfl (.tmp rfl .nil))) ?_)))))
 replace bH := bH.cn ch2
 replace bH := bH.cn hb7
 have e0 : ([] : List Int) = ((bC g).1) := by
   (have hn : ¬ bx g := fun h => p1 (dt h)
    unfold bC; rw [if_neg hn]; done)
 have e1 : (0 : Int) = ((bC g).2.1) := by
   (have hn : ¬ bx g := fun h => p1 (dt h)
    unfold bC; rw [if_neg hn]; done)
 have e2 : (1 : Int) = ((bC g).2.2) := by
   (have hn : ¬ bx g := fun h => p1 (dt h)
    unfold bC; rw [if_neg hn]; done)
 exact ⟨(fin w0 g4 (fun n => 0), vn), (cq (a := []) (b := 0) (c := 1) (fun (z0 : List Int) (z1 : Int) (z2 : Int) => Ending.returned (vt [vn, vi z1, vi z2])) e0 e1 e2), bH.fresh _, (e0 ▸ Ow.nil)⟩
end TL
