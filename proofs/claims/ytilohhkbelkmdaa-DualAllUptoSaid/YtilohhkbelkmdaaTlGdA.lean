import Derived.Test.YtilohhkbelkmdaaTlP3
import Derived.Test.YtilohhkbelkmdaaTlGenX
import Derived.Test.YtilohhkbelkmdaaTlGenY
import Derived.Test.YtilohhkbelkmdaaTlGenO
import Derived.Test.YtilohhkbelkmdaaProg
set_option linter.all false
set_option maxRecDepth 20000
namespace TL
open Go Go.Proofs
theorem lJ : Try.prog.follows .mixedOrders = true := by kernel_rfl
theorem kI : Try.f47.body.isNone = false := rfl
theorem kL : (Try.f47.name == "runtime.NumGoroutine") = false := by decide +kernel
theorem kJ : Try.f54.body.isNone = false := rfl
theorem kH : (Try.f54.name == "runtime.NumGoroutine") = false := by decide +kernel
theorem kN : Try.f55.body.isNone = false := rfl
theorem kt : (Try.f55.name == "runtime.NumGoroutine") = false := by decide +kernel
theorem kC : Try.f67.body.isNone = false := rfl
theorem kM : (Try.f67.name == "runtime.NumGoroutine") = false := by decide +kernel
theorem uA : Try.f96.body.isNone = false := rfl
theorem t9 : (Try.f96.name == "runtime.NumGoroutine") = false := by decide +kernel
theorem kO (w0 : World) (of : List Int) (of_v : Value) (hof_v : Ro w0 of_v of) (e : Int) (he : 0 ≤ e ∧ 2 * e + 1 < (of.length : Int)) (hl : of.length ≤ 1000000) :
    Calls Try.prog 67 #[of_v, vi e] w0 (fun ee w => ee = .returned (vg [vi ((aB of e).1), vi ((aB of e).2)]) ∧ dH w0.heap.size w0 w) := by
 refine az Try.func67 rfl (Nat.le_of_ble_eq_true rfl) ?_
 have bH := b9.start w0
 have Rof := hof_v.sl
 obtain ⟨he1, he2⟩ := he
 refine a9 (a8 rfl (cr rfl (bw c0 (is 1) (1, 0) rfl bD ?_)))
 intro g4 w1 b3 ch2 bx5
 replace bx5 : Bx g4 (is 1) w1 b3 [vi 0, vi 0] := bx5
 refine aa (a9 (ch g4 [0, 1, 2, 3, 4, 5, 6, 7, 8, 9, 10, 11] lJ ?_))
 intro w7 ch6
 refine xp (v := of_v) 0 rfl (fun w => au rfl) (xp (v := vi e) 1 rfl (fun w => au rfl) (xp 2 rfl (fun w => du (m := 2) (n := e) rfl rfl (by omega)) ?_))
 replace Rof := (Rof.cn ch2).cn ch6
 refine xv 3 [2, 1, 0, 5, 6, 7, 8, 9, 10] rfl (ab (v := of_v) (i := 2 * e) Try.underlying27 rfl rfl Rof rfl (by omega) (by omega)) (xv 4 [3, 2, 1, 0, 5, 6, 7, 8, 9, 10] rfl (ay (v := of_v) (i := 2 * e) am rfl Rof (by omega) (by omega) (by decide) rfl) (xp (v := of_v) 5 rfl (fun w => au rfl) (xp (v := vi e) 6 rfl (fun w => au rfl) (xp 7 rfl (fun w => du (m := 2) (n := e) rfl rfl (by omega)) (xp 8 rfl (fun w => aQ (m := 2 * e) (n := 1) rfl rfl (by omega)) (xv 9 [8, 7, 6, 5, 4, 3, 2, 1, 0] rfl (ab (v := of_v) (i := (2 * e) + 1) Try.underlying27 rfl rfl Rof rfl (by omega) (by omega)) (xv 10 [9, 8, 7, 6, 5, 4, 3, 2, 1, 0] rfl (ay (v := of_v) (i := (2 * e) + 1) am rfl Rof (by omega) (by omega) (by decide) rfl) ?_)))))))
 refine xp (v := vg [vi (gI of (2 * e)), vi (gI of ((2 * e) + 1))]) 11 rfl (fun w => bn (vs := [(0, vi (gI of (2 * e))), (1, vi (gI of ((2 * e) + 1)))]) rfl (by kernel_rfl)) (bM 12 rfl (by kernel_rfl) rfl ?_)
 replace bx5 := bx5.cn ch6
 refine aC (cs' := [vi (gI of (2 * e)), vi (gI of ((2 * e) + 1))]) bD rfl rfl bx5 rfl (Nat.le_of_ble_eq_true rfl) (AllOne.all (.cons rfl (.cons rfl .nil))) rfl ?_
 intro w8 ch9 bx10
 clear bx5
 refine cO (by kernel_rfl) (av (vs := [vg [vi (gI of (2 * e)), vi (gI of ((2 * e) + 1))]]) Try.func67 (.cell rfl (bk (ds := [vi (gI of (2 * e)), vi (gI of ((2 * e) + 1))]) bD bx10 rfl rfl) .nil) ?_)
 have e0 : (((gI of (2 * e)), (gI of ((2 * e) + 1))) : (Int) × (Int)) = (aB of e) := by
   rfl
 have C11 := cg [1] (ch2.n.seq (ch6.n.seq (ch9.l rfl)))
 replace bH := bH.ca C11
 exact ⟨(congrArg (a₁ := ((gI of (2 * e)), (gI of ((2 * e) + 1)))) (fun (z0 : (Int) × (Int)) => Ending.returned (vg [vi z0.1, vi z0.2])) e0), bH.below⟩
theorem rX (w0 : World) (g : (Int) × (List ((Int) × (Int)))) (g_v : Value) (hg_v : Ro w0 g_v g.2) (r : bj) (r_v : Value) (hr_v : Ro w0 r_v r) :
    Calls Try.prog 22 #[vg [vi g.1, g_v], r_v] w0 (fun ee w => ∃ xx : aE × Value × Value, ee = .returned ((fun ⟨δ, rv0, rv1⟩ => vt [vg [vi (((aT g r).1).1), rv0], rv1, vi ((aT g r).2.2)]) xx) ∧ (fun (⟨δ, rv0, rv1⟩ : aE × Value × Value) (w : World) => cC w0 δ w ∧ Ow δ (is 1) (is 1) w rv0 (((aT g r).1).2) ∧ cj δ 2 w rv1 ((aT g r).2.1)) xx w) := by
 refine az Try.func22 rfl (Nat.le_of_ble_eq_true rfl) ?_
 have bH := b9.start w0
 have Rg := hg_v.sl
 have Rr := hr_v.sl
 refine a9 (a8 rfl (cr rfl (bR c0 (is 1) (1, 0) rfl rfl ?_)))
 intro g4 w1 b3 ch2 bx5
 replace bx5 : Bx g4 (is 1) w1 b3 [vi g.1, g_v] := bx5
 refine lo (bw g4 (is 2) (2, 0) rfl ak ?_)
 intro g9 w6 b8 ch7 bx10
 replace bx10 : Bx g9 (is 2) w6 b8 [vi 0, vn] := bx10
 refine ma vn (ai 0 (aa (a9 (a8 rfl ?_))))
 replace bx5 := bx5.cn ch7
 refine lx (aq (ds := [vi g.1, g_v]) ak rfl bx5 rfl rfl) (mv r_v ?_)
 replace Rg := (Rg.cn ch2).cn ch7
 replace Rr := (Rr.cn ch2).cn ch7
 refine lo (aV (aD (vals := [vg [vi g.1, g_v], r_v]) Try.func47 kI kL rfl) (jh w6 g g_v (Rg).ro r r_v (Rr).ro) ?_)
 rintro ⟨d12, v14⟩ w11 ⟨fr13, o15⟩
 obtain ⟨g16, ch17, G16⟩ := dw g9 fr13 (fun n => if n = 1 then 3 else 0)
 replace o15 := o15.gl G16 3
 refine mv (vt [v14, vi ((ar g r).2)]) (lx (aH rfl rfl) (lx (aH rfl rfl) (ma v14 (ai ((ar g r).2) (aa (a9 (a9 (a8 rfl (mi ((ar g r).2) (lx (cl (m := (ar g r).2) (n := 0) rfl rfl) (aa ?_)))))))))))
 by_cases p2 : ((ar g r).2) = 0
 ·
  obtain ⟨hm, hrp⟩ := dD (fL p2)
  have hm0 := hm
  obtain ⟨hm1, hm2, hm3, hm4⟩ := hm0
  have hrl := hrp.1
  have hFe := bG (br hm hrp)
  have hOe := eN (br hm hrp)
  have hFl := cT g r hm hrp
  have hol0 : ((bU g r).1.length : Int) = 2 * (g.2.length : Int) := by rw [hOe]; exact ec g r
  refine ag rfl (congrArg Bool.not (dt p2)) (aj (a9 (a8 rfl ?_)))
  replace bx5 := bx5.cn ch17
  refine lx (aq (ds := [vi g.1, g_v]) ak rfl bx5 rfl rfl) (mv r_v ?_)
  replace Rg := Rg.cn ch17
  replace Rr := Rr.cn ch17
  refine lo (aV (aD (vals := [vg [vi g.1, g_v], r_v]) Try.func54 kJ kH rfl) (mE w11 g g_v (Rg).ro r r_v (Rr).ro) ?_)
  rintro ⟨d19, v21⟩ w18 ⟨fr20, o22⟩
  obtain ⟨g23, ch24, G23⟩ := dw g16 fr20 (fun n => if n = 1 then 4 else 0)
  replace o22 := o22.gl G23 4
  refine mv (vt [v21, vi ((bU g r).2)]) (lx (aH rfl rfl) (lx (aH rfl rfl) (ma v21 (ai ((bU g r).2) (aa (a9 (a8 rfl (mv v14 ?_))))))))
  replace o15 := o15.cn ch24
  have len25 := (o15.sl).small
  refine lx (aO Try.underlying25 rfl o15.sl) (lw (vg [vi (List.length ((ar g r).1) : Int), vn]) (bn (vs := [(0, vi (List.length ((ar g r).1) : Int))]) rfl (by kernel_rfl)) (lo (bw g23 (is 5) (5, 0) rfl ak ?_)))
  intro g29 w26 b28 ch27 bx30
  replace bx30 : Bx g29 (is 5) w26 b28 [vi 0, vn] := bx30
  refine lo (aC (cs' := [vi (List.length ((ar g r).1) : Int), vn]) ak rfl rfl bx30 rfl (Nat.le_of_ble_eq_true rfl) (AllOne.all (.cons rfl (.cons rfl .nil))) rfl ?_)
  intro w31 ch32 bx33
  clear bx30
  refine aa (a9 (a9 (a8 rfl (lx (ad Try.underlying24 rfl rfl rfl rfl) ?_))))
  have C34 := cg [5] (ch24.n.seq (ch27.n.seq (ch32.l rfl)))
  replace bx5 := bx5.ca C34
  refine lx (af bo rfl bx5 rfl) ?_
  replace Rg := Rg.ca C34
  have len35 := (Rg).small
  refine lx (aO Try.underlying22 rfl Rg) (mi 0 (aa (ah ?_)))
  clear bx5
  refine aN (σ := Value × (List ((Int) × (Int))) × Nat × aE) (fun ⟨d_1_v, d_1, k, gq⟩ f w => b9 w0 gq w ∧ f 4 = vp b8 0 ∧ f 7 = v14 ∧ f 9 = v21 ∧ f 11 = vp b28 0 ∧ f 36 = vi (g.2.length : Int) ∧ f 37 = vi (k : Int) ∧ Sl gq (is 0) w g_v g.2 ∧ Sl gq (is 0) w r_v r ∧ Bx gq (is 2) w b8 [vi 0, vn] ∧ cj gq 3 w v14 ((ar g r).1) ∧ Ow gq (is 4) (is 4) w v21 ((bU g r).1) ∧ Bx gq (is 5) w b28 [vi (List.length ((ar g r).1) : Int), d_1_v] ∧ Ow gq (is 7) (is 7) w d_1_v d_1 ∧ (k : Int) ≤ ((g.2.length : Int) : Int) ∧ (d_1 = (c7 k).map (aB (bU g r).1))) (fun ⟨d_1_v, d_1, k, gq⟩ => Int.toNat (((g.2.length : Int) : Int) - (k : Int))) (vn, [], 0, g29) ?_ ?_
  have C37 := cg [5] (ch17.n.seq (ch24.n.seq (ch27.n.seq (ch32.l rfl))))
  have C36 := ch2.n.seq (ch7.n.seq C37)
  · exact ⟨bH.ca C36, rfl, rfl, rfl, rfl, rfl, rfl, Rg, Rr.ca C34, bx10.ca C37, (o15.cn ch27).ce ch32, (o22.cn ch27).ce ch32, bx33, Ow.nil, by omega, by rfl⟩
  clear Rg Rr bx10 o15 o22 bx33 bH
  rintro ⟨d_1_v, d_1, k, g40⟩ f38 w39 ⟨bH, zs4, zs7, zs9, zs11, zs36, zs37, Rg, Rr, bx10, o15, o22, bx33, o_d_1, hle_k, hinv⟩ back7
  have hdl : d_1.length = k := by rw [hinv, List.length_map, cP]
  refine a9 (a8 rfl (lx (bc (m := (k : Int)) (n := (g.2.length : Int)) zs37 zs36) (aa (a9 ?_))))
  by_cases p7 : (k : Int) < (g.2.length : Int)
  ·
   refine ae rfl (dt p7) (aj (a9 (ah (a9 (a8 rfl (mz zs37 (ai (k : Int) (aa ?_))))))))
   refine el (σ := Value × aE) (fun ⟨v50, gq⟩ f w => b9 w0 gq w ∧ f 4 = vp b8 0 ∧ f 7 = v14 ∧ f 9 = v21 ∧ f 11 = vp b28 0 ∧ f 36 = vi (g.2.length : Int) ∧ f 37 = vi (k : Int) ∧ Sl gq (is 0) w g_v g.2 ∧ Sl gq (is 0) w r_v r ∧ Bx gq (is 2) w b8 [vi 0, vn] ∧ cj gq 3 w v14 ((ar g r).1) ∧ Ow gq (is 4) (is 4) w v21 ((bU g r).1) ∧ Ow gq (is 7) (is 7) w v50 (d_1 ++ [(aB ((bU g r).1) (k : Int))]) ∧ Bx gq (is 5) w b28 [vi (List.length ((ar g r).1) : Int), v50]) g40 [0, 2, 3, 7] lJ ?_ ?_
   ·
    intro mid
    intro w42 ch41
    refine xp 0 rfl (fun w => ad Try.underlying24 rfl rfl zs11 rfl) (xp (v := v21) 2 rfl (fun w => au zs9) (xp (v := vi (k : Int)) 3 rfl (fun w => au rfl) ?_))
    refine gB 1 4 rfl rfl (by kernel_rfl) rfl rfl ?_ ?_
    ·
     replace bx33 := bx33.cn ch41
     refine aJ (v := d_1_v) (af bo rfl bx33 rfl) ?_
     replace o22 := o22.cn ch41
     refine bM 4 rfl (by kernel_rfl) rfl (bO (v := vg [vi ((aB ((bU g r).1) (k : Int)).1), vi ((aB ((bU g r).1) (k : Int)).2)]) (aD (vals := [v21, vi (k : Int)]) Try.func67 kC kM rfl) (kO w42 ((bU g r).1) v21 (o22.flat).ro (k : Int) (by omega) (by omega)) ?_)
     intro w43 hb44
     replace hb44 := aG hb44 g40
     refine bM 5 rfl (by kernel_rfl) rfl (aA (α := (Int) × (Int)) g40 (is 6) (is 6) (6, 0) rfl [(aB ((bU g r).1) (k : Int))] Try.underlying22 bD (by decide) (by decide) (vs := [(0, vg [vi ((aB ((bU g r).1) (k : Int)).1), vi ((aB ((bU g r).1) (k : Int)).2)])]) rfl rfl (.cons rfl .nil) ?_)
     intro g45 w46 v47 ch48 o49
     refine bM 6 rfl (by kernel_rfl) rfl ?_
     have C50 := cg [] (ch41.n.seq (hb44.n.seq ch48.n))
     replace o_d_1 := o_d_1.ca C50
     refine aR (α := (Int) × (Int)) (xs := d_1) (ys := ([(aB ((bU g r).1) (k : Int))])) g45 (J := is 7) (S := is 7) (7, 0) rfl Try.underlying22 bD (by decide) rfl rfl rfl o_d_1 o49.flat (by decide) (by (simp; omega)) ?_
     intro g51 w52 v53 ch54 o55
     clear o_d_1
     refine xp 7 rfl (fun w => ad Try.underlying24 rfl rfl zs11 rfl) (bM 8 rfl (by kernel_rfl) rfl ?_)
     have C59 := cg [7] (hb44.n.seq (ch48.n.seq (ch54.l rfl)))
     replace bx33 := bx33.ca C59
     refine cK (cs' := [vi (List.length ((ar g r).1) : Int), v53]) bo rfl rfl bx33 (c6 o55.flat) (Nat.le_of_ble_eq_true rfl) (bm o55.flat) rfl ?_
     intro w56 ch57 bx58
     clear bx33
     refine cO (by kernel_rfl) ?_
     have C61 := cg [5, 7] (hb44.n.seq (ch48.n.seq ((ch54.l rfl).seq (ch57.l rfl))))
     have C60 := ch41.n.seq C61
     exact mid (v53, g51) _ _ ⟨bH.ca C60, zs4, zs7, zs9, zs11, zs36, zs37, Rg.ca C60, Rr.ca C60, bx10.ca C60, o15.ca C60, o22.ca C61, o55.ce ch57, bx58⟩
    ·
     replace o22 := o22.cn ch41
     refine bO (v := vg [vi ((aB ((bU g r).1) (k : Int)).1), vi ((aB ((bU g r).1) (k : Int)).2)]) (aD (vals := [v21, vi (k : Int)]) Try.func67 kC kM rfl) (kO w42 ((bU g r).1) v21 (o22.flat).ro (k : Int) (by omega) (by omega)) ?_
     intro w62 hb63
     replace hb63 := aG hb63 g40
     refine gB 1 5 rfl rfl (by kernel_rfl) rfl rfl ?_ ?_
     ·
      replace bx33 := (bx33.cn ch41).cn hb63
      refine aJ (v := d_1_v) (af bo rfl bx33 rfl) (bM 5 rfl (by kernel_rfl) rfl (aA (α := (Int) × (Int)) g40 (is 6) (is 6) (6, 0) rfl [(aB ((bU g r).1) (k : Int))] Try.underlying22 bD (by decide) (by decide) (vs := [(0, vg [vi ((aB ((bU g r).1) (k : Int)).1), vi ((aB ((bU g r).1) (k : Int)).2)])]) rfl rfl (.cons rfl .nil) ?_))
      intro g64 w65 v66 ch67 o68
      refine bM 6 rfl (by kernel_rfl) rfl ?_
      have C69 := cg [] (ch41.n.seq (hb63.n.seq ch67.n))
      replace o_d_1 := o_d_1.ca C69
      refine aR (α := (Int) × (Int)) (xs := d_1) (ys := ([(aB ((bU g r).1) (k : Int))])) g64 (J := is 7) (S := is 7) (7, 0) rfl Try.underlying22 bD (by decide) rfl rfl rfl o_d_1 o68.flat (by decide) (by (simp; omega)) ?_
      intro g70 w71 v72 ch73 o74
      clear o_d_1
      refine xp 7 rfl (fun w => ad Try.underlying24 rfl rfl zs11 rfl) (bM 8 rfl (by kernel_rfl) rfl ?_)
      replace bx33 := (bx33.cn ch67).ce ch73
      refine cK (cs' := [vi (List.length ((ar g r).1) : Int), v72]) bo rfl rfl bx33 (c6 o74.flat) (Nat.le_of_ble_eq_true rfl) (bm o74.flat) rfl ?_
      intro w75 ch76 bx77
      clear bx33
      refine cO (by kernel_rfl) ?_
      have C79 := cg [5, 7] (hb63.n.seq (ch67.n.seq ((ch73.l rfl).seq (ch76.l rfl))))
      have C78 := ch41.n.seq C79
      exact mid (v72, g70) _ _ ⟨bH.ca C78, zs4, zs7, zs9, zs11, zs36, zs37, Rg.ca C78, Rr.ca C78, bx10.ca C78, o15.ca C78, o22.ca C79, o74.ce ch76, bx77⟩
     ·
      refine aA (α := (Int) × (Int)) g40 (is 6) (is 6) (6, 0) rfl [(aB ((bU g r).1) (k : Int))] Try.underlying22 bD (by decide) (by decide) (vs := [(0, vg [vi ((aB ((bU g r).1) (k : Int)).1), vi ((aB ((bU g r).1) (k : Int)).2)])]) rfl rfl (.cons rfl .nil) ?_
      intro g80 w81 v82 ch83 o84
      have C85 := cg [] (ch41.n.seq (hb63.n.seq ch83.n))
      replace bx33 := bx33.ca C85
      refine bM 1 rfl (by kernel_rfl) rfl (aJ (v := d_1_v) (af bo rfl bx33 rfl) (bM 6 rfl (by kernel_rfl) rfl ?_))
      replace o_d_1 := o_d_1.ca C85
      refine aR (α := (Int) × (Int)) (xs := d_1) (ys := ([(aB ((bU g r).1) (k : Int))])) g80 (J := is 7) (S := is 7) (7, 0) rfl Try.underlying22 bD (by decide) rfl rfl rfl o_d_1 o84.flat (by decide) (by (simp; omega)) ?_
      intro g86 w87 v88 ch89 o90
      clear o_d_1
      refine xp 7 rfl (fun w => ad Try.underlying24 rfl rfl zs11 rfl) (bM 8 rfl (by kernel_rfl) rfl ?_)
      replace bx33 := bx33.ce ch89
      refine cK (cs' := [vi (List.length ((ar g r).1) : Int), v88]) bo rfl rfl bx33 (c6 o90.flat) (Nat.le_of_ble_eq_true rfl) (bm o90.flat) rfl ?_
      intro w91 ch92 bx93
      clear bx33
      refine cO (by kernel_rfl) ?_
      have C95 := cg [5, 7] (hb63.n.seq (ch83.n.seq ((ch89.l rfl).seq (ch92.l rfl))))
      have C94 := ch41.n.seq C95
      exact mid (v88, g86) _ _ ⟨bH.ca C94, zs4, zs7, zs9, zs11, zs36, zs37, Rg.ca C94, Rr.ca C94, bx10.ca C94, o15.ca C94, o22.ca C95, o90.ce ch92, bx93⟩
   clear Rg Rr bx10 o15 o22 bx33 o_d_1 bH
   rintro ⟨v50, g98⟩ f96 w97 ⟨bH, zs4, zs7, zs9, zs11, zs36, zs37, Rg, Rr, bx10, o15, o22, o52, bx55⟩
   refine ao (a8 rfl (lx (aQ (m := (k : Int)) (n := 1) zs37 rfl (by omega)) (mi ((k : Int) + 1) (aa ?_))))
   refine back7 (v50, (d_1 ++ [(aB ((bU g r).1) (k : Int))]), k + 1, g98) _ _ ⟨bH, zs4, zs7, zs9, zs11, zs36, rfl, Rg, Rr, bx10, o15, o22, bx55, o52, by omega, ?_⟩ ?_
   · show (d_1 ++ [(aB ((bU g r).1) (k : Int))]) = (c7 (k + 1)).map (aB (bU g r).1)
     rw [ew, List.map_append, ← hinv]; rfl
   · show Int.toNat (((g.2.length : Int) : Int) - ((k + 1) : Int)) < Int.toNat (((g.2.length : Int) : Int) - (k : Int))
     omega
  refine ag rfl (df p7) (aI rfl (a9 (a9 ?_)))
  clear o22
  have hdn : ((List.length (ar g r).1 : Int), d_1) = fo g r := by rw [hinv, show k = g.2.length by omega]; rfl
  refine a8 rfl (lx (aq (ds := [vi (List.length ((ar g r).1) : Int), d_1_v]) ak zs11 bx33 rfl rfl) (lo (bO (v := Value.bool (cD ((List.length ((ar g r).1) : Int), d_1))) (aD (vals := [vg [vi (List.length ((ar g r).1) : Int), d_1_v]]) Try.func53 ll l5 rfl) (ld w39 ((List.length ((ar g r).1) : Int), d_1) d_1_v (o_d_1.flat).ro) ?_)))
  intro w99 hb100
  replace hb100 := aG hb100 g40
  refine lx (dr (b := (cD ((List.length ((ar g r).1) : Int), d_1))) rfl) (aa ?_)
  by_cases p11 : (cD ((List.length ((ar g r).1) : Int), d_1)) = true
  ·
   have p11d := p11
   rw [hdn] at p11d
   have hdm := of_decide_eq_true p11d
   refine ag rfl (congrArg Bool.not p11) (aj (a9 (a8 rfl ?_)))
   replace bx33 := bx33.cn hb100
   refine lx (aq (ds := [vi (List.length ((ar g r).1) : Int), d_1_v]) ak zs11 bx33 rfl rfl) (mz zs7 ?_)
   replace o_d_1 := o_d_1.cn hb100
   replace o15 := o15.cn hb100
   refine lo (aV (aD (vals := [vg [vi (List.length ((ar g r).1) : Int), d_1_v], v14]) Try.func55 kN kt rfl) (iw w99 ((List.length ((ar g r).1) : Int), d_1) d_1_v (o_d_1.flat).ro ((ar g r).1) v14 (o15.sl).ro) ?_)
   rintro ⟨d102, v104⟩ w101 ⟨fr103, o105⟩
   obtain ⟨g106, ch107, G106⟩ := dw g40 fr103 (fun n => if n = 1 then 8 else 0)
   replace o105 := o105.gl G106 8
   refine mv (vt [v104, vi ((cH ((List.length ((ar g r).1) : Int), d_1) ((ar g r).1)).2)]) (lx (aH rfl rfl) (lx (aH rfl rfl) (ma v104 (ai ((cH ((List.length ((ar g r).1) : Int), d_1) ((ar g r).1)).2) (aa (a9 ?_))))))
   clear o15
   refine a8 rfl ?_
   replace bx33 := bx33.cn ch107
   refine lx (aq (ds := [vi (List.length ((ar g r).1) : Int), d_1_v]) ak zs11 bx33 rfl rfl) (mv v104 (lo ?_))
   replace bx10 := (bx10.cn hb100).cn ch107
   replace o_d_1 := o_d_1.cn ch107
   refine aC (cs' := [vi (List.length ((ar g r).1) : Int), d_1_v]) ak zs4 rfl bx10 rfl (Nat.le_of_ble_eq_true rfl) (AllOne.all (.cons rfl (.cons (bm o_d_1.flat) .nil))) rfl ?_
   intro w108 ch109 bx110
   clear bx10
   refine ma v104 (ai 0 (aa (av (vs := [vg [vi (List.length ((ar g r).1) : Int), d_1_v], v104, vi 0]) Try.func22 (.cell zs4 (bk (ds := [vi (List.length ((ar g r).1) : Int), d_1_v]) ak bx110 rfl rfl) (.tmp rfl (.tmp rfl .nil))) ?_)))
   have C111 := cg [2] (hb100.n.seq (ch107.n.seq (ch109.l rfl)))
   replace bH := bH.ca C111
   replace o_d_1 := o_d_1.ce ch109
   replace o105 := o105.ce ch109
   have e0 : (((List.length ((ar g r).1) : Int), d_1) : (Int) × (List ((Int) × (Int)))) = ((aT g r).1) := by
     simp only [aT, if_pos (show (ar g r).2 = 0 by assumption), if_pos hdm, hdn]
   have e1 : ((cH ((List.length ((ar g r).1) : Int), d_1) ((ar g r).1)).1 : bj) = ((aT g r).2.1) := by
     simp only [aT, if_pos (show (ar g r).2 = 0 by assumption), if_pos hdm, hdn]
   have e2 : (0 : Int) = ((aT g r).2.2) := by
     simp only [aT, if_pos (show (ar g r).2 = 0 by assumption), if_pos hdm, hdn]
   exact ⟨(fin w0 g106 (fun n => if n = 7 then 1 else if n = 8 then 2 else 0), d_1_v, v104), (cq (a := ((List.length ((ar g r).1) : Int), d_1)) (b := (cH ((List.length ((ar g r).1) : Int), d_1) ((ar g r).1)).1) (c := 0) (fun (z0 : (Int) × (List ((Int) × (Int)))) (z1 : bj) (z2 : Int) => Ending.returned (vt [vg [vi z0.1, d_1_v], v104, vi z2])) e0 e1 e2), bH.fresh _, ((congrArg (fun (z : (Int) × (List ((Int) × (Int)))) => z.2) e0) ▸ (o_d_1.glue (γ := c0) (ren := (fun n => if n = 7 then 1 else if n = 8 then 2 else 0)) (k := 1) bH.col rfl rfl)), (e1 ▸ (o105.glue (γ := c0) (ren := (fun n => if n = 7 then 1 else if n = 8 then 2 else 0)) (k := 2) bH.col rfl rfl))⟩
  have p11d := p11
  rw [hdn] at p11d
  have hdm : ¬ bx (fo g r) := fun h => p11d (dt h)
  refine ae rfl (congrArg Bool.not (Bool.eq_false_iff.2 p11)) (a9 ?_)
  clear o15 bx33 o_d_1
  refine a8 rfl (lw (vg [vi 0, vn]) (bn (vs := []) rfl (by kernel_rfl)) (lo ?_))
  replace bx10 := bx10.cn hb100
  refine aC (cs' := [vi 0, vn]) ak zs4 rfl bx10 rfl (Nat.le_of_ble_eq_true rfl) (AllOne.all (.cons rfl (.cons rfl .nil))) rfl ?_
  intro w112 ch113 bx114
  clear bx10
  refine ma vn (ai 3 (aa (av (vs := [vg [vi 0, vn], vn, vi 3]) Try.func22 (.cell zs4 (bk (ds := [vi 0, vn]) ak bx114 rfl rfl) (.tmp rfl (.tmp rfl .nil))) ?_)))
  replace bH := bH.cn hb100
  replace bH := bH.ce ch113
  have e0 : ((0, []) : (Int) × (List ((Int) × (Int)))) = ((aT g r).1) := by
    simp only [aT, if_pos (show (ar g r).2 = 0 by assumption), if_neg hdm]
  have e1 : ([] : bj) = ((aT g r).2.1) := by
    simp only [aT, if_pos (show (ar g r).2 = 0 by assumption), if_neg hdm]
  have e2 : (3 : Int) = ((aT g r).2.2) := by
    simp only [aT, if_pos (show (ar g r).2 = 0 by assumption), if_neg hdm]
  exact ⟨(fin w0 g40 (fun n => 0), vn, vn), (cq (a := (0, [])) (b := []) (c := 3) (fun (z0 : (Int) × (List ((Int) × (Int)))) (z1 : bj) (z2 : Int) => Ending.returned (vt [vg [vi z0.1, vn], vn, vi z2])) e0 e1 e2), bH.fresh _, ((congrArg (fun (z : (Int) × (List ((Int) × (Int)))) => z.2) e0) ▸ Ow.nil), (e1 ▸ cj.nil)⟩
 refine ae rfl (congrArg Bool.not (df p2)) (a9 ?_)
 clear bx5 o15
 refine a8 rfl (lw (vg [vi 0, vn]) (bn (vs := []) rfl (by kernel_rfl)) (mi ((ar g r).2) (lo ?_)))
 replace bx10 := bx10.cn ch17
 refine aC (cs' := [vi 0, vn]) ak rfl rfl bx10 rfl (Nat.le_of_ble_eq_true rfl) (AllOne.all (.cons rfl (.cons rfl .nil))) rfl ?_
 intro w115 ch116 bx117
 clear bx10
 refine ma vn (ai ((ar g r).2) (aa (av (vs := [vg [vi 0, vn], vn, vi ((ar g r).2)]) Try.func22 (.cell rfl (bk (ds := [vi 0, vn]) ak bx117 rfl rfl) (.tmp rfl (.tmp rfl .nil))) ?_)))
 have C118 := cg [2] (ch2.n.seq (ch7.n.seq (ch17.n.seq (ch116.l rfl))))
 replace bH := bH.ca C118
 have e0 : ((0, []) : (Int) × (List ((Int) × (Int)))) = ((aT g r).1) := by
   simp only [aT, if_neg (show ¬ (ar g r).2 = 0 by assumption)]
 have e1 : ([] : bj) = ((aT g r).2.1) := by
   simp only [aT, if_neg (show ¬ (ar g r).2 = 0 by assumption)]
 have e2 : ((ar g r).2 : Int) = ((aT g r).2.2) := by
   simp only [aT, if_neg (show ¬ (ar g r).2 = 0 by assumption)]
 exact ⟨(fin w0 g16 (fun n => 0), vn, vn), (cq (a := (0, [])) (b := []) (c := (ar g r).2) (fun (z0 : (Int) × (List ((Int) × (Int)))) (z1 : bj) (z2 : Int) => Ending.returned (vt [vg [vi z0.1, vn], vn, vi z2])) e0 e1 e2), bH.fresh _, ((congrArg (fun (z : (Int) × (List ((Int) × (Int)))) => z.2) e0) ▸ Ow.nil), (e1 ▸ cj.nil)⟩
theorem o8 (w0 : World) (s : List Int) (s_v : Value) (hs_v : Ro w0 s_v s) (v : Int) :
    Calls Try.prog 96 #[s_v, vi v] w0 (fun ee w => ee = .returned (Value.bool (decide (v ∈ s))) ∧ dH w0.heap.size w0 w) := by
 refine az Try.func96 rfl (Nat.le_of_ble_eq_true rfl) ?_
 have bH := b9.start w0
 have Rs := hs_v.sl
 refine a9 (a8 rfl (ma (Value.bool false) (aa (a9 (a8 rfl (mv s_v (mi v (lo (bO (v := vi (bf s v)) (aD (vals := [s_v, vi v]) Try.func71 j2 iX rfl) (fN w0 s s_v (Rs).ro v) ?_)))))))))
 intro w1 hb2
 replace hb2 := aG hb2 c0
 refine lx (dy (m := bf s v) (n := 0) rfl rfl) (ma (Value.bool (decide (0 ≤ (bf s v)))) (aa (av (vs := [Value.bool (decide (0 ≤ (bf s v)))]) Try.func96 (.tmp rfl .nil) ?_)))
 have e0 : (decide (0 ≤ (bf s v)) : Bool) = (decide (v ∈ s)) := by
   exact rR
 replace bH := bH.cn hb2
 exact ⟨(congrArg (a₁ := decide (0 ≤ (bf s v))) (fun (z0 : Bool) => Ending.returned (Value.bool z0)) e0), bH.below⟩
theorem jK (w0 : World) (g : (Int) × (List ((Int) × (Int)))) (g_v : Value) (hg_v : Ro w0 g_v g.2) (r : bj) (r_v : Value) (hr_v : Ro w0 r_v r) (c : (Int) × (Int)) (hmay : bx g) (hr : cf g r) :
    Calls Try.prog 73 #[vg [vi g.1, g_v], r_v, vg [vi c.1, vi c.2]] w0 (fun ee w => ee = .returned (Value.bool (decide (c9 g r c))) ∧ dH w0.heap.size w0 w) := by
 refine az Try.func73 rfl (Nat.le_of_ble_eq_true rfl) ?_
 have bH := b9.start w0
 have Rg := hg_v.sl
 have Rr := hr_v.sl
 have hm0 := hmay
 obtain ⟨hm1, hm2, hm3, hm4⟩ := hm0
 have hrl := hr.1
 refine a9 (a8 rfl (cr rfl (bR c0 (is 1) (1, 0) rfl rfl ?_)))
 intro g4 w1 b3 ch2 bx5
 replace bx5 : Bx g4 (is 1) w1 b3 [vi g.1, g_v] := bx5
 refine lo (bR g4 (is 2) (2, 0) rfl rfl ?_)
 intro g9 w6 b8 ch7 bx10
 replace bx10 : Bx g9 (is 2) w6 b8 [vi c.1, vi c.2] := bx10
 refine ma (Value.bool false) (aa (a9 (a9 (a8 rfl (lx (ad Try.underlying55 rfl rfl rfl rfl) (lx (af am rfl bx10 rfl) (lx (bc (m := c.1) (n := 0) rfl rfl) (mv (Value.bool (decide (c.1 < 0))) ?_))))))))
 by_cases q10 : c.1 < 0
 ·
  refine al (wn (dt q10)) (al (wn (dt q10)) (al (wn (dt q10)) (al (wn (dt q10)) (al (wn (dt q10)) (lw (Value.bool true) (aY rfl (dt q10) rfl) (aa (ae rfl rfl (a9 ?_))))))))
  clear bx5 bx10
  refine a8 rfl (ma (Value.bool false) (aa (av (vs := [Value.bool false]) Try.func73 (.tmp rfl .nil) ?_)))
  have e0 : (false : Bool) = (decide (c9 g r c)) := by
    exact qa (by omega)
  replace bH := bH.cn ch2
  replace bH := bH.cn ch7
  exact ⟨(congrArg (a₁ := false) (fun (z0 : Bool) => Ending.returned (Value.bool z0)) e0), bH.below⟩
 refine lv (vp b8 0) (wy (df q10)) (ad Try.underlying55 rfl rfl rfl rfl) (lv (vi c.1) (wy (df q10)) (af am rfl bx10 rfl) (lv (vp b3 0) (wy (df q10)) (ad Try.underlying24 rfl rfl rfl rfl) ?_))
 replace bx5 := bx5.cn ch7
 refine lv (vi g.1) (wy (df q10)) (af am rfl bx5 rfl) (lv (Value.bool (decide (g.1 ≤ c.1))) (wy (df q10)) (dy (m := c.1) (n := g.1) rfl rfl) (lw (Value.bool (decide (g.1 ≤ c.1))) (b7 rfl (df q10) rfl) (aa ?_)))
 by_cases p1 : g.1 ≤ c.1
 ·
  refine ae rfl (dt p1) (a9 ?_)
  clear bx5 bx10
  refine a8 rfl (ma (Value.bool false) (aa (av (vs := [Value.bool false]) Try.func73 (.tmp rfl .nil) ?_)))
  have e0 : (false : Bool) = (decide (c9 g r c)) := by
    exact qa (by omega)
  replace bH := bH.cn ch2
  replace bH := bH.cn ch7
  exact ⟨(congrArg (a₁ := false) (fun (z0 : Bool) => Ending.returned (Value.bool z0)) e0), bH.below⟩
 refine ag rfl (df p1) (aj (a9 (a9 ?_)))
 clear bx5
 refine a8 rfl (mv r_v (lx (ad Try.underlying55 rfl rfl rfl rfl) (lx (af am rfl bx10 rfl) ?_)))
 replace Rr := (Rr.cn ch2).cn ch7
 refine lx (ab (v := r_v) (i := c.1) Try.underlying26 rfl rfl Rr rfl (by omega) (by omega)) ?_
 obtain ⟨v11, cel12, r13⟩ := co (r := c.1) Rr (by omega) (by omega)
 refine lx (aS aL rfl cel12) ?_
 have len14 := (r13).small
 refine lx (aO Try.underlying27 rfl r13) (lx (cR (m := (List.length (gI r c.1) : Int)) (n := 0) rfl rfl) (aa ?_))
 by_cases p3 : (List.length (gI r c.1) : Int) = 0
 ·
  refine ae rfl (dt p3) (a9 ?_)
  clear r13
  refine a8 rfl (lx (ad Try.underlying55 rfl rfl rfl rfl) (lx (af am rfl bx10 rfl) (lx (cR (m := c.2) (n := -1) rfl rfl) (ma (Value.bool (decide (c.2 = (-1)))) (aa (av (vs := [Value.bool (decide (c.2 = (-1)))]) Try.func73 (.tmp rfl .nil) ?_))))))
  have e0 : (decide (c.2 = (-1)) : Bool) = (decide (c9 g r c)) := by
    exact oN (by omega) ‹_›
  replace bH := bH.cn ch2
  replace bH := bH.cn ch7
  exact ⟨(congrArg (a₁ := decide (c.2 = (-1))) (fun (z0 : Bool) => Ending.returned (Value.bool z0)) e0), bH.below⟩
 refine ag rfl (df p3) (aj (a9 ?_))
 clear r13
 refine ck g9 rfl lJ (by kernel_rfl) ?_
 intro w16 ch15
 refine qm r_v (qx (fun w' hw' => ad Try.underlying55 rfl rfl rfl rfl) ?_)
 replace bx10 := bx10.cn ch15
 refine qx (fun w' hw' => af am rfl (bx10.bel hw') rfl) ?_
 replace Rr := Rr.cn ch15
 refine qx (fun w' hw' => ab (v := r_v) (i := c.1) Try.underlying26 rfl rfl (Rr.bel hw') rfl (by omega) (by omega)) ?_
 obtain ⟨v17, cel18, r19⟩ := co (r := c.1) Rr (by omega) (by omega)
 refine qx (fun w' hw' => aS aL rfl (cX cel18 hw')) (qx (fun w' hw' => ad Try.underlying55 rfl rfl rfl rfl) (qx (fun w' hw' => af am rfl (bx10.bel hw') rfl) (eL (v := Value.bool (decide (c.2 ∈ (gI r c.1)))) rfl (fun w' hw' => aD (vals := [v17, vi c.2]) Try.func96 uA t9 rfl) (fun w' hw' => (o8 w' (gI r c.1) v17 ((r19.bel hw')).ro c.2).mono fun e w2 h2 => ⟨h2.1, hw'.trans (h2.2.mono hw'.size)⟩) (qv (Value.bool (decide (c.2 ∈ (gI r c.1)))) (fun w' hw' => bz rfl) (cV ?_)))))
 intro w20 hc21
 replace hc21 := aG hc21 g9
 refine av (vs := [Value.bool (decide (c.2 ∈ (gI r c.1)))]) Try.func73 (.tmp rfl .nil) ?_
 have e0 : ((decide (c.2 ∈ (gI r c.1))) : Bool) = (decide (c9 g r c)) := by
   exact ta (by omega) ‹_›
 have C22 := cg [] (ch2.n.seq (ch7.n.seq (ch15.n.seq hc21.n)))
 replace bH := bH.ca C22
 exact ⟨(congrArg (a₁ := (decide (c.2 ∈ (gI r c.1)))) (fun (z0 : Bool) => Ending.returned (Value.bool z0)) e0), bH.below⟩
theorem mD (w0 : World) (r : bj) (r_v : Value) (hr_v : Ro w0 r_v r) (of : List Int) (of_v : Value) (hof_v : Ro w0 of_v of) (sm : Int) (c : (Int) × (Int)) (hc : 0 ≤ c.1 ∧ c.1 < (r.length : Int)) (hin : 0 < ((gI r c.1).length : Int) → c.2 ∈ gI r c.1) (hrow : ∀ h ∈ gI r c.1, 0 ≤ h ∧ h < (of.length : Int)) (hsome : 0 ≤ sm ∧ sm ≤ 1000000) (hrl : (r.length : Int) ≤ 1000000) :
    Calls Try.prog 76 #[r_v, of_v, vi sm, vg [vi c.1, vi c.2]] w0 (fun ee w => ee = .returned (vi (cd r of sm c)) ∧ dH w0.heap.size w0 w) := by
 refine az Try.func76 rfl (Nat.le_of_ble_eq_true rfl) ?_
 have bH := b9.start w0
 have Rr := hr_v.sl
 have Rof := hof_v.sl
 obtain ⟨hc1, hc2⟩ := hc
 obtain ⟨hs1, hs2⟩ := hsome
 refine a9 (a8 rfl (cr rfl (bR c0 (is 1) (1, 0) rfl rfl ?_)))
 intro g4 w1 b3 ch2 bx5
 replace bx5 : Bx g4 (is 1) w1 b3 [vi c.1, vi c.2] := bx5
 refine ai 0 (aa (a9 (a8 rfl (mv r_v (lx (ad Try.underlying55 rfl rfl rfl rfl) (lx (af am rfl bx5 rfl) ?_))))))
 replace Rr := Rr.cn ch2
 refine lx (ab (v := r_v) (i := c.1) Try.underlying26 rfl rfl Rr rfl (by omega) (by omega)) ?_
 obtain ⟨v6, cel7, r8⟩ := co (r := c.1) Rr (by omega) (by omega)
 refine lx (aS aL rfl cel7) (ma v6 (aa (a9 (a9 (a8 rfl (mv v6 ?_))))))
 have len9 := (r8).small
 refine lx (aO Try.underlying27 rfl r8) (lx (fW (m := (List.length (gI r c.1) : Int)) (n := 0) rfl rfl) (aa ?_))
 by_cases p2 : 0 < (List.length (gI r c.1) : Int)
 ·
  have hix := lM (hin p2)
  have hmod : 0 ≤ (bf (gI r c.1) c.2 + 1) % ((gI r c.1).length : Int) ∧ (bf (gI r c.1) c.2 + 1) % ((gI r c.1).length : Int) < ((gI r c.1).length : Int) := ⟨Int.emod_nonneg _ (by omega), Int.emod_lt_of_pos _ p2⟩
  have hat := hrow _ (bu hmod.1 hmod.2)
  refine ae rfl (dt p2) (a9 (a8 rfl (mv of_v (mv v6 (mv v6 (lx (ad Try.underlying55 rfl rfl rfl rfl) (lx (af am rfl bx5 rfl) (lo (bO (v := vi (bf (gI r c.1) c.2)) (aD (vals := [v6, vi c.2]) Try.func71 j2 iX rfl) (fN w1 (gI r c.1) v6 (r8).ro c.2) ?_)))))))))
  intro w10 hb11
  replace hb11 := aG hb11 g4
  refine lx (aQ (m := bf (gI r c.1) c.2) (n := 1) rfl rfl (by omega)) (mv v6 ?_)
  replace r8 := r8.cn hb11
  refine lx (aO Try.underlying27 rfl r8) (lx (eT (m := (bf (gI r c.1) c.2) + 1) (n := (List.length (gI r c.1) : Int)) rfl rfl (by omega) (by omega)) (lx (ab (v := v6) (i := ((bf (gI r c.1) c.2) + 1) % (List.length (gI r c.1) : Int)) Try.underlying27 rfl rfl r8 rfl (by omega) (by omega)) (lx (ay (v := v6) (i := ((bf (gI r c.1) c.2) + 1) % (List.length (gI r c.1) : Int)) am rfl r8 (by omega) (by omega) (by decide) rfl) ?_)))
  replace Rof := (Rof.cn ch2).cn hb11
  refine lx (ab (v := of_v) (i := (gI (gI r c.1) (((bf (gI r c.1) c.2) + 1) % (List.length (gI r c.1) : Int)))) Try.underlying27 rfl rfl Rof rfl (by omega) (by omega)) (lx (ay (v := of_v) (i := (gI (gI r c.1) (((bf (gI r c.1) c.2) + 1) % (List.length (gI r c.1) : Int)))) am rfl Rof (by omega) (by omega) (by decide) rfl) (ai (gI of (gI (gI r c.1) (((bf (gI r c.1) c.2) + 1) % (List.length (gI r c.1) : Int)))) (aa (av (vs := [vi (gI of (gI (gI r c.1) (((bf (gI r c.1) c.2) + 1) % (List.length (gI r c.1) : Int))))]) Try.func76 (.tmp rfl .nil) ?_))))
  have e0 : ((gI of (gI (gI r c.1) (((bf (gI r c.1) c.2) + 1) % (List.length (gI r c.1) : Int)))) : Int) = (cd r of sm c) := by
    (unfold cd; rw [if_pos p2]; done)
  replace bH := bH.cn ch2
  replace bH := bH.cn hb11
  exact ⟨(congrArg (a₁ := (gI of (gI (gI r c.1) (((bf (gI r c.1) c.2) + 1) % (List.length (gI r c.1) : Int))))) (fun (z0 : Int) => Ending.returned (vi z0)) e0), bH.below⟩
 refine ag rfl (df p2) (aj (a9 (a9 ?_)))
 clear r8
 refine a8 rfl (mv r_v (lx (ad Try.underlying55 rfl rfl rfl rfl) (lx (af am rfl bx5 rfl) (lw ((db r_v 1 (Int.toNat 0) (Int.toNat c.1))) (eI (v := r_v) (l := 0) (h := c.1) Try.underlying26 rfl rfl Rr (.inr ⟨rfl, rfl⟩) (.inl (congrArg some rfl)) (by omega) (by omega) (by omega)) ?_))))
 have r13 := gJ Rr (show Int.toNat 0 ≤ Int.toNat c.1 by omega) (show Int.toNat c.1 ≤ List.length _ by omega)
 rw [show (List.drop (Int.toNat 0) (List.take (Int.toNat c.1) r)) = (List.take (Int.toNat c.1) r) by simp] at r13
 have len14 := (r13).small
 refine lx (aO Try.underlying26 rfl r13) (mi 0 (aa (ah ?_)))
 clear bx5
 refine aN (σ := Int × Nat × aE) (fun ⟨n, k, gq⟩ f w => b9 w0 gq w ∧ f 2 = vi n ∧ f 37 = (db r_v 1 (Int.toNat 0) (Int.toNat c.1)) ∧ f 38 = vi (List.length (List.take (Int.toNat c.1) r) : Int) ∧ f 39 = vi (k : Int) ∧ Sl gq (is 0) w r_v r ∧ Sl gq (is 0) w of_v of ∧ Sl gq (is 0) w (db r_v 1 (Int.toNat 0) (Int.toNat c.1)) (List.take (Int.toNat c.1) r) ∧ (k : Int) ≤ ((List.length (List.take (Int.toNat c.1) r) : Int) : Int) ∧ (n = sm + en r k ∧ (k : Int) ≤ c.1)) (fun ⟨n, k, gq⟩ => Int.toNat (((List.length (List.take (Int.toNat c.1) r) : Int) : Int) - (k : Int))) (sm, 0, g4) ?_ ?_
 · exact ⟨bH.cn ch2, rfl, rfl, rfl, rfl, Rr, Rof.cn ch2, r13, by omega, by exact ⟨by simp [en], by omega⟩⟩
 clear Rr Rof r13 bH
 rintro ⟨n, k, g17⟩ f15 w16 ⟨bH, zs2, zs37, zs38, zs39, Rr, Rof, r13, hle_k, hinv⟩ back5
 have htk : ((List.take (Int.toNat c.1) r).length : Int) = c.1 := by rw [List.length_take]; omega
 have hek := nf r k
 have hi1 := hinv.1
 refine a9 (a8 rfl (lx (bc (m := (k : Int)) (n := (List.length (List.take (Int.toNat c.1) r) : Int)) zs39 zs38) (aa (a9 ?_))))
 by_cases p5 : (k : Int) < (List.length (List.take (Int.toNat c.1) r) : Int)
 ·
  refine ae rfl (dt p5) (aj (a9 (ah (a9 (a8 rfl (lx (ab (v := (db r_v 1 (Int.toNat 0) (Int.toNat c.1))) (i := (k : Int)) Try.underlying26 rfl zs37 r13 zs39 (by omega) (by omega)) ?_))))))
  obtain ⟨v18, cel19, r20⟩ := co (r := (k : Int)) r13 (by omega) (by omega)
  refine lx (aS aL rfl cel19) (ma v18 (aa (a9 (a8 rfl (mv v18 ?_)))))
  have len21 := (r20).small
  refine lx (aO Try.underlying27 rfl r20) (lx (cR (m := (List.length (gI (List.take (Int.toNat c.1) r) (k : Int)) : Int)) (n := 0) rfl rfl) (aa ?_))
  by_cases p7 : (List.length (gI (List.take (Int.toNat c.1) r) (k : Int)) : Int) = 0
  ·
   refine ae rfl (dt p7) ?_
   clear r20
   refine a8 rfl (mz zs2 (lx (aQ (m := n) (n := 1) rfl rfl (by omega)) (ai (n + 1) (aa (ao (a8 rfl (lx (aQ (m := (k : Int)) (n := 1) zs39 rfl (by omega)) (mi ((k : Int) + 1) (aa ?_)))))))))
   refine back5 (n + 1, k + 1, g17) _ _ ⟨bH, rfl, zs37, zs38, rfl, Rr, Rof, r13, by omega, ?_⟩ ?_
   · show (n + 1) = sm + en r (k + 1) ∧ ((k + 1) : Int) ≤ c.1
     exact ⟨by rw [nJ (by omega) (by rw [← qf (xs := r) (n := Int.toNat c.1) (by omega)]; assumption), hinv.1]; omega, by omega⟩
   · show Int.toNat (((List.length (List.take (Int.toNat c.1) r) : Int) : Int) - ((k + 1) : Int)) < Int.toNat (((List.length (List.take (Int.toNat c.1) r) : Int) : Int) - (k : Int))
     omega
  refine ag rfl (df p7) (aj (ao ?_))
  clear r20
  refine a8 rfl (lx (aQ (m := (k : Int)) (n := 1) zs39 rfl (by omega)) (mi ((k : Int) + 1) (aa ?_)))
  refine back5 (n, k + 1, g17) _ _ ⟨bH, zs2, zs37, zs38, rfl, Rr, Rof, r13, by omega, ?_⟩ ?_
  · show n = sm + en r (k + 1) ∧ ((k + 1) : Int) ≤ c.1
    exact ⟨by rw [pH (by omega) (by rw [← qf (xs := r) (n := Int.toNat c.1) (by omega)]; assumption)]; exact hinv.1, by omega⟩
  · show Int.toNat (((List.length (List.take (Int.toNat c.1) r) : Int) : Int) - ((k + 1) : Int)) < Int.toNat (((List.length (List.take (Int.toNat c.1) r) : Int) : Int) - (k : Int))
    omega
 refine ag rfl (df p5) (aI rfl (a9 ?_))
 clear r13
 refine a8 rfl (mz zs2 (ai n (aa (av (vs := [vi n]) Try.func76 (.tmp rfl .nil) ?_))))
 have e0 : (n : Int) = (cd r of sm c) := by
   (unfold cd; rw [if_neg p2, hinv.1, show k = c.1.toNat by omega]; done)
 exact ⟨(congrArg (a₁ := n) (fun (z0 : Int) => Ending.returned (vi z0)) e0), bH.below⟩
theorem lz (w0 : World) (faces : bj) (faces_v : Value) (hfaces_v : Ro w0 faces_v faces) (hl : faces.length ≤ 1000000) :
    Calls Try.prog 75 #[faces_v] w0 (fun ee w => ee = .returned (vi (bt faces)) ∧ dH w0.heap.size w0 w) := by
 refine az Try.func75 rfl (Nat.le_of_ble_eq_true rfl) ?_
 have bH := b9.start w0
 have Rfaces := hfaces_v.sl
 refine a9 (a8 rfl (ai 0 (aa (a9 (a8 rfl (ai 0 (aa (a9 (a9 (a8 rfl (mv faces_v ?_)))))))))))
 have len1 := (Rfaces).small
 refine lx (aO Try.underlying25 rfl Rfaces) (mi 0 (aa (ah ?_)))
 refine aN (σ := Int × Nat × aE) (fun ⟨n, k, gq⟩ f w => b9 w0 gq w ∧ f 3 = vi n ∧ f 6 = faces_v ∧ f 7 = vi (faces.length : Int) ∧ f 8 = vi (k : Int) ∧ Sl gq (is 0) w faces_v faces ∧ (k : Int) ≤ ((faces.length : Int) : Int) ∧ (n = bt (faces.take k))) (fun ⟨n, k, gq⟩ => Int.toNat (((faces.length : Int) : Int) - (k : Int))) (0, 0, c0) ?_ ?_
 · exact ⟨bH, rfl, rfl, rfl, rfl, Rfaces, by omega, by rfl⟩
 clear Rfaces bH
 rintro ⟨n, k, g4⟩ f2 w3 ⟨bH, zs3, zs6, zs7, zs8, Rfaces, hle_k, hinv⟩ back3
 have hfl := iD (faces.take k)
 have htl := List.length_take_le k faces
 refine a9 (a8 rfl (lx (bc (m := (k : Int)) (n := (faces.length : Int)) zs8 zs7) (aa (a9 ?_))))
 by_cases p3 : (k : Int) < (faces.length : Int)
 ·
  refine ae rfl (dt p3) (aj (a9 (ah (a9 (a8 rfl (lx (ab (v := faces_v) (i := (k : Int)) Try.underlying25 rfl zs6 Rfaces zs8 (by omega) (by omega)) ?_))))))
  obtain ⟨v5, cel6, r7⟩ := co (r := (k : Int)) Rfaces (by omega) (by omega)
  refine lx (aS aL rfl cel6) (ma v5 (aa (a9 (a8 rfl (mv v5 ?_)))))
  have len8 := (r7).small
  refine lx (aO Try.underlying27 rfl r7) (lx (fW (m := (List.length (gI faces (k : Int)) : Int)) (n := 0) rfl rfl) (aa ?_))
  by_cases p5 : 0 < (List.length (gI faces (k : Int)) : Int)
  ·
   refine ae rfl (dt p5) ?_
   clear r7
   refine a8 rfl (mz zs3 (lx (aQ (m := n) (n := 1) rfl rfl (by omega)) (ai (n + 1) (aa (ao (a8 rfl (lx (aQ (m := (k : Int)) (n := 1) zs8 rfl (by omega)) (mi ((k : Int) + 1) (aa ?_)))))))))
   refine back3 (n + 1, k + 1, g4) _ _ ⟨bH, rfl, zs6, zs7, rfl, Rfaces, by omega, ?_⟩ ?_
   · show (n + 1) = bt (faces.take (k + 1))
     rw [oF ‹_› ‹_›, hinv]
   · show Int.toNat (((faces.length : Int) : Int) - ((k + 1) : Int)) < Int.toNat (((faces.length : Int) : Int) - (k : Int))
     omega
  refine ag rfl (df p5) (aj (ao ?_))
  clear r7
  refine a8 rfl (lx (aQ (m := (k : Int)) (n := 1) zs8 rfl (by omega)) (mi ((k : Int) + 1) (aa ?_)))
  refine back3 (n, k + 1, g4) _ _ ⟨bH, zs3, zs6, zs7, rfl, Rfaces, by omega, ?_⟩ ?_
  · show n = bt (faces.take (k + 1))
    rw [qw ‹_› ‹_›, hinv]
  · show Int.toNat (((faces.length : Int) : Int) - ((k + 1) : Int)) < Int.toNat (((faces.length : Int) : Int) - (k : Int))
    omega
 refine ag rfl (df p3) (aI rfl (a9 (a8 rfl (mz zs3 (ai n (aa (av (vs := [vi n]) Try.func75 (.tmp rfl .nil) ?_)))))))
 have e0 : (n : Int) = (bt faces) := by
   rw [hinv, List.take_of_length_le (by omega)]
 exact ⟨(congrArg (a₁ := n) (fun (z0 : Int) => Ending.returned (vi z0)) e0), bH.below⟩
theorem lu (w0 : World) (r : bj) (r_v : Value) (hr_v : Ro w0 r_v r) (hl : r.length ≤ 1000000) (hb : ∀ l_ ∈ r, l_.length ≤ 1000000) :
    Calls Try.prog 70 #[r_v] w0 (fun ee w => ∃ xx : aE × Value, ee = .returned ((fun ⟨δ, rv0⟩ => rv0) xx) ∧ (fun (⟨δ, rv0⟩ : aE × Value) (w : World) => cC w0 δ w ∧ cj δ 1 w rv0 r) xx w) := by
 refine az Try.func70 rfl (Nat.le_of_ble_eq_true rfl) ?_
 have bH := b9.start w0
 have Rr := hr_v.sl
 refine a9 (a8 rfl (ma vn (aa (a9 (a8 rfl (mv r_v ?_))))))
 have len1 := (Rr).small
 refine lx (aO Try.underlying26 rfl Rr) (lo (dB (α := Int) (n := (r.length : Int)) (cp := (r.length : Int)) c0 1 Try.underlying26 aL rfl rfl rfl (by omega) (by omega) (by omega) (by omega) ?_))
 intro g2 w3 v4 ch5 o6
 refine ma v4 (aa (a9 (a9 (a8 rfl (mv r_v ?_)))))
 replace Rr := Rr.cn ch5
 refine lx (aO Try.underlying26 rfl Rr) (mi 0 (aa (ah ?_)))
 refine aN (σ := Nat × bj × aE) (fun ⟨k, out, gq⟩ f w => b9 w0 gq w ∧ f 3 = v4 ∧ f 9 = r_v ∧ f 10 = vi (r.length : Int) ∧ f 11 = vi (k : Int) ∧ Sl gq (is 0) w r_v r ∧ cj gq 1 w v4 out ∧ (k : Int) ≤ ((r.length : Int) : Int) ∧ (out = List.map (fun l_ => l_) (List.take k r) ++ List.replicate (r.length - k) [])) (fun ⟨k, out, gq⟩ => Int.toNat (((r.length : Int) : Int) - (k : Int))) (0, (List.replicate (Int.toNat (r.length : Int)) []), g2) ?_ ?_
 · exact ⟨bH.cn ch5, rfl, rfl, rfl, rfl, Rr, o6, by omega, by simp⟩
 clear Rr o6 bH
 rintro ⟨k, out, g9⟩ f7 w8 ⟨bH, zs3, zs9, zs10, zs11, Rr, o6, hle_k, hinv⟩ back3
 have hol : out.length = r.length := by rw [hinv]; simp; omega
 refine a9 (a8 rfl (lx (bc (m := (k : Int)) (n := (r.length : Int)) zs11 zs10) (aa (a9 ?_))))
 by_cases p3 : (k : Int) < (r.length : Int)
 ·
  refine ae rfl (dt p3) ?_
  have hbk := hb _ (bu (xs := r) (i := (k : Int)) (by omega) ‹_›)
  refine aj (a9 (ah (a9 (a8 rfl (mz zs11 (lx (ab (v := r_v) (i := (k : Int)) Try.underlying26 rfl zs9 Rr zs11 (by omega) (by omega)) ?_))))))
  obtain ⟨v10, cel11, r12⟩ := co (r := (k : Int)) Rr (by omega) (by omega)
  refine lx (aS aL rfl cel11) (ai (k : Int) (ma v10 (aa (a8 rfl (mz zs3 (mi (k : Int) (mv v10 (lo (aR (α := Int) (xs := ([])) (ys := (gI r (k : Int))) g9 (J := is 2) (S := is 2) (2, 0) rfl Try.underlying27 am (by decide) rfl rfl rfl Ow.nil r12 (by decide) (by (simp; omega)) ?_)))))))))
  intro g13 w14 v15 ch16 o17
  replace o17 : Ow g13 (is 2) (is 2) w14 v15 (gI r (k : Int)) := o17
  replace o6 := o6.ce ch16
  refine lx (ab (v := v4) (i := (k : Int)) Try.underlying26 rfl rfl o6.sl rfl (by omega) (by omega)) (lo (fb (r := (k : Int)) aL rfl rfl o6 o17 rfl (by omega) (by omega) ?_))
  intro g24 w21 ch22 o23
  clear o6 o17
  refine aa (ao ?_)
  clear r12
  refine a8 rfl (lx (aQ (m := (k : Int)) (n := 1) zs11 rfl (by omega)) (mi ((k : Int) + 1) (aa ?_)))
  replace bH := bH.ce ch16
  refine back3 (k + 1, (List.set out (Int.toNat (k : Int)) (gI r (k : Int))), g24) _ _ ⟨bH.chg ch22 (n8 rfl rfl), zs3, zs9, zs10, rfl, (Rr.ce ch16).chg ch22 (n8 rfl rfl), o23, by omega, ?_⟩ ?_
  · show (List.set out (Int.toNat (k : Int)) (gI r (k : Int))) = List.map (fun l_ => l_) (List.take (k + 1) r) ++ List.replicate (r.length - (k + 1)) []
    rw [hinv]; exact j6 ‹_› rfl
  · show Int.toNat (((r.length : Int) : Int) - ((k + 1) : Int)) < Int.toNat (((r.length : Int) : Int) - (k : Int))
    omega
 refine ag rfl (df p3) (aI rfl (a9 (a8 rfl (mz zs3 (ma v4 (aa (av (vs := [v4]) Try.func70 (.tmp rfl .nil) ?_)))))))
 have e0 : (out : bj) = (r) := by
   rw [hinv, show k = r.length by omega]; simp
 exact ⟨(fin w0 g9 (fun n => if n = 1 then 1 else 0), v4), (congrArg (a₁ := out) (fun (z0 : bj) => Ending.returned (v4)) e0), bH.fresh _, (e0 ▸ (o6.glue (γ := c0) (ren := (fun n => if n = 1 then 1 else 0)) (k := 1) bH.col rfl rfl))⟩
end TL
