import Derived.Test.YtilohhkbelkmdaaTlP3
import Derived.Test.YtilohhkbelkmdaaTlGenA
import Derived.Test.YtilohhkbelkmdaaTlGenC
import Derived.Test.YtilohhkbelkmdaaTlGenX
import Derived.Test.YtilohhkbelkmdaaTlGenY
import Derived.Test.YtilohhkbelkmdaaProg
set_option linter.all false
set_option maxRecDepth 20000
namespace TL
open Go Go.Proofs
theorem uv : Try.prog.follows .mixedOrders = true := by kernel_rfl
theorem vF : Try.f91.body.isNone = false := rfl
theorem wk : (Try.f91.name == "runtime.NumGoroutine") = false := by decide +kernel
theorem mE (w0 : World) (g : (Int) × (List ((Int) × (Int)))) (g_v : Value) (hg_v : Ro w0 g_v g.2) (r : bj) (r_v : Value) (hr_v : Ro w0 r_v r) :
    Calls Try.prog 54 #[vg [vi g.1, g_v], r_v] w0 (fun ee w => ∃ xx : aE × Value, ee = .returned ((fun ⟨δ, rv0⟩ => vt [rv0, vi ((bU g r).2)]) xx) ∧ (fun (⟨δ, rv0⟩ : aE × Value) (w : World) => cC w0 δ w ∧ Ow δ (is 1) (is 1) w rv0 ((bU g r).1)) xx w) := by
 refine az Try.func54 rfl (Nat.le_of_ble_eq_true rfl) ?_
 have bH := b9.start w0
 have Rg := hg_v.sl
 have Rr := hr_v.sl
 refine a9 (a8 rfl (cr rfl (bR c0 (is 1) (1, 0) rfl rfl ?_)))
 intro g4 w1 b3 ch2 bx5
 replace bx5 : Bx g4 (is 1) w1 b3 [vi g.1, g_v] := bx5
 refine ma vn (ai 0 (aa (a9 (a9 (a8 rfl (lx (aq (ds := [vi g.1, g_v]) ak rfl bx5 rfl rfl) (mv r_v ?_)))))))
 replace Rg := Rg.cn ch2
 replace Rr := Rr.cn ch2
 refine lo (bO (v := vi (aK g r)) (aD (vals := [vg [vi g.1, g_v], r_v]) Try.func15 jP jV rfl) (iq w1 g g_v (Rg).ro r r_v (Rr).ro) ?_)
 intro w6 hb7
 replace hb7 := aG hb7 g4
 refine ai (aK g r) (aa (a9 (a8 rfl (mi (aK g r) (lx (cl (m := aK g r) (n := 0) rfl rfl) (aa ?_))))))
 by_cases p2 : (aK g r) = 0
 ·
  obtain ⟨hm, hrp⟩ := dD ‹_›
  have hm0 := hm
  obtain ⟨hm1, hm2, hm3, hm4⟩ := hm0
  refine ag rfl (congrArg Bool.not (dt p2)) (aj (a9 (a8 rfl (lx (ad Try.underlying24 rfl rfl rfl rfl) ?_))))
  replace bx5 := bx5.cn hb7
  refine lx (af bo rfl bx5 rfl) ?_
  replace Rg := Rg.cn hb7
  have len8 := (Rg).small
  refine lx (aO Try.underlying22 rfl Rg) (lx (du (m := 2) (n := (g.2.length : Int)) rfl rfl (by omega)) (lo (dE (α := Int) (l := 2 * (g.2.length : Int)) (cp := 2 * (g.2.length : Int)) g4 (is 2) (is 2) (2, 0) rfl (0 : Int) Try.underlying27 am rfl rfl rfl (by omega) (by omega) (by omega) (by omega) ?_)))
  intro g9 w10 v11 ch12 o13 _
  refine ma v11 (aa (a9 (a9 (a8 rfl ?_))))
  replace bx5 := bx5.cn ch12
  refine lx (aq (ds := [vi g.1, g_v]) ak rfl bx5 rfl rfl) (mv r_v ?_)
  replace Rg := Rg.cn ch12
  replace Rr := (Rr.cn hb7).cn ch12
  refine lo (aV (aD (vals := [vg [vi g.1, g_v], r_v]) Try.func87 rh rn rfl) (nH w10 g g_v (Rg).ro r r_v (Rr).ro ‹_› ‹_›) ?_)
  rintro ⟨d15, v17⟩ w14 ⟨fr16, o18⟩
  obtain ⟨g19, ch20, G19⟩ := dw g9 fr16 (fun n => if n = 1 then 3 else 0)
  replace o18 := o18.gl G19 3
  have len21 := (o18.sl).small
  refine lx (aO Try.underlying25 rfl o18.sl) (mi 0 (aa (ah ?_)))
  clear bx5
  refine aN (σ := Nat × (List Int) × aE) (fun ⟨k, l, gq⟩ f w => b9 w0 gq w ∧ f 7 = v11 ∧ f 25 = v17 ∧ f 26 = vi (List.length (ax (aw g r) r) : Int) ∧ f 27 = vi (k : Int) ∧ Sl gq (is 0) w g_v g.2 ∧ Sl gq (is 0) w r_v r ∧ Ow gq (is 2) (is 2) w v11 l ∧ cj gq 3 w v17 (ax (aw g r) r) ∧ (k : Int) ≤ ((List.length (ax (aw g r) r) : Int) : Int) ∧ (l = nU (ax (aw g r) r) (2 * (g.2.length : Int)) k)) (fun ⟨k, l, gq⟩ => Int.toNat (((List.length (ax (aw g r) r) : Int) : Int) - (k : Int))) (0, (List.replicate (Int.toNat (2 * (g.2.length : Int))) (0 : Int)), g19) ?_ ?_
  have C22 := cg [] (ch2.n.seq (hb7.n.seq (ch12.n.seq ch20.n)))
  · exact ⟨bH.ca C22, rfl, rfl, rfl, rfl, Rg.cn ch20, Rr.cn ch20, o13.cn ch20, o18, by omega, by rfl⟩
  clear Rg Rr o13 o18 bH
  rintro ⟨k, l, g25⟩ f23 w24 ⟨bH, zs7, zs25, zs26, zs27, Rg, Rr, o13, o18, hle_k, hinv⟩ back6
  have hll : (l.length : Int) = 2 * (g.2.length : Int) := by rw [hinv, jA]; omega
  refine a9 (a8 rfl (lx (bc (m := (k : Int)) (n := (List.length (ax (aw g r) r) : Int)) zs27 zs26) (aa (a9 ?_))))
  by_cases p6 : (k : Int) < (List.length (ax (aw g r) r) : Int)
  ·
   refine ae rfl (dt p6) (aj (a9 (ah (a9 (a8 rfl (mz zs27 (lx (ab (v := v17) (i := (k : Int)) Try.underlying25 rfl zs25 o18.sl zs27 (by omega) (by omega)) ?_)))))))
   obtain ⟨v26, cel27, r28⟩ := bY (r := (k : Int)) o18 (by omega) (by omega)
   refine lx (aS aL rfl cel27) (ai (k : Int) (ma v26 (aa (a9 (a8 rfl (mv v26 ?_))))))
   have len29 := (r28.row_sl).small
   refine lx (aO Try.underlying27 rfl r28.row_sl) (mi 0 (aa (ah ?_)))
   refine aN (σ := Nat × (List Int) × aE) (fun ⟨i, l, gq⟩ f w => b9 w0 gq w ∧ f 7 = v11 ∧ f 8 = vi (k : Int) ∧ f 25 = v17 ∧ f 26 = vi (List.length (ax (aw g r) r) : Int) ∧ f 27 = vi (k : Int) ∧ f 32 = v26 ∧ f 33 = vi (List.length (gI (ax (aw g r) r) (k : Int)) : Int) ∧ f 34 = vi (i : Int) ∧ Sl gq (is 0) w g_v g.2 ∧ Sl gq (is 0) w r_v r ∧ Ow gq (is 2) (is 2) w v11 l ∧ cj gq 3 w v17 (ax (aw g r) r) ∧ Ow gq (row 3 (Int.toNat (k : Int) + 1)) (row 3 (Int.toNat (k : Int) + 1)) w v26 (gI (ax (aw g r) r) (k : Int)) ∧ (i : Int) ≤ ((List.length (gI (ax (aw g r) r) (k : Int)) : Int) : Int) ∧ (l = k8 (ax (aw g r) r) (2 * (g.2.length : Int)) k i)) (fun ⟨i, l, gq⟩ => Int.toNat (((List.length (gI (ax (aw g r) r) (k : Int)) : Int) : Int) - (i : Int))) (0, l, g25) ?_ ?_
   · exact ⟨bH, zs7, rfl, zs25, zs26, zs27, rfl, rfl, rfl, Rg, Rr, o13, o18, r28, by omega, by rw [m0]; exact hinv⟩
   clear Rg Rr o13 o18 cel27 r28 bH
   rintro ⟨i, l, g32⟩ f30 w31 ⟨bH, zs7, zs8, zs25, zs26, zs27, zs32, zs33, zs34, Rg, Rr, o13, o18, r28, hle_i, hin⟩ back9
   have hll : (l.length : Int) = 2 * (g.2.length : Int) := by rw [hin, o7]; omega
   refine a9 (a8 rfl (lx (bc (m := (i : Int)) (n := (List.length (gI (ax (aw g r) r) (k : Int)) : Int)) zs34 zs33) (aa (a9 ?_))))
   by_cases p9 : (i : Int) < (List.length (gI (ax (aw g r) r) (k : Int)) : Int)
   ·
    refine ae rfl (dt p9) ?_
    obtain ⟨hh1, hh2⟩ := pB hrp (k := k) (i := i) ‹_› ‹_›
    refine aj (a9 (ah (a9 (a8 rfl (lx (ab (v := v26) (i := (i : Int)) Try.underlying27 rfl zs32 r28.row_sl zs34 (by omega) (by omega)) (lx (ay (v := v26) (i := (i : Int)) am rfl r28.row_sl (by omega) (by omega) (by decide) rfl) (ai (gI (gI (ax (aw g r) r) (k : Int)) (i : Int)) (aa (a8 rfl (mz zs7 (mi (gI (gI (ax (aw g r) r) (k : Int)) (i : Int)) ?_)))))))))))
    refine mz zs8 (lx (ab (v := v11) (i := (gI (gI (ax (aw g r) r) (k : Int)) (i : Int))) Try.underlying27 rfl rfl o13.flat rfl (by omega) (by omega)) (lo (bP (i := (gI (gI (ax (aw g r) r) (k : Int)) (i : Int))) (k : Int) am rfl rfl o13 (by omega) (by omega) rfl ?_)))
    intro w33 ch34 bx35
    clear o13
    refine aa (ao (a8 rfl (lx (aQ (m := (i : Int)) (n := 1) zs34 rfl (by omega)) (mi ((i : Int) + 1) (aa ?_)))))
    refine back9 (i + 1, (List.set l (Int.toNat (gI (gI (ax (aw g r) r) (k : Int)) (i : Int))) (k : Int)), g32) _ _ ⟨bH.ce ch34, zs7, zs8, zs25, zs26, zs27, zs32, zs33, rfl, Rg.ce ch34, Rr.ce ch34, bx35, o18.ce ch34, r28.chg ch34 (iS rfl) (iS rfl), by omega, ?_⟩ ?_
    · show (List.set l (Int.toNat (gI (gI (ax (aw g r) r) (k : Int)) (i : Int))) (k : Int)) = k8 (ax (aw g r) r) (2 * (g.2.length : Int)) k (i + 1)
      rw [mt _ _ _ _ ‹_›, hin]
    · show Int.toNat (((List.length (gI (ax (aw g r) r) (k : Int)) : Int) : Int) - ((i + 1) : Int)) < Int.toNat (((List.length (gI (ax (aw g r) r) (k : Int)) : Int) : Int) - (i : Int))
      omega
   refine ag rfl (df p9) (aI rfl (ao ?_))
   clear r28
   refine a8 rfl (lx (aQ (m := (k : Int)) (n := 1) zs27 rfl (by omega)) (mi ((k : Int) + 1) (aa ?_)))
   refine back6 (k + 1, l, g32) _ _ ⟨bH, zs7, zs25, zs26, rfl, Rg, Rr, o13, o18, by omega, ?_⟩ ?_
   · show l = nU (ax (aw g r) r) (2 * (g.2.length : Int)) (k + 1)
     rw [hin]; exact jG _ _ _ _ ‹_›
   · show Int.toNat (((List.length (ax (aw g r) r) : Int) : Int) - ((k + 1) : Int)) < Int.toNat (((List.length (ax (aw g r) r) : Int) : Int) - (k : Int))
     omega
  refine ag rfl (df p6) (aI rfl (a9 ?_))
  clear o18
  refine a8 rfl (mz zs7 (ma v11 (ai 0 (aa (av (vs := [v11, vi 0]) Try.func54 (.tmp rfl (.tmp rfl .nil)) ?_)))))
  have e0 : (l : List Int) = ((bU g r).1) := by
    (have hk : k = (ax (aw g r) r).length := by omega
     simp only [bU, if_pos (show aK g r = 0 by assumption), bX]
     rw [hinv, hk])
  have e1 : (0 : Int) = ((bU g r).2) := by
    simp only [bU, if_pos (show aK g r = 0 by assumption)]
  exact ⟨(fin w0 g25 (fun n => if n = 2 then 1 else 0), v11), (ci (a := l) (b := 0) (fun (z0 : List Int) (z1 : Int) => Ending.returned (vt [v11, vi z1])) e0 e1), bH.fresh _, (e0 ▸ (o13.glue (γ := c0) (ren := (fun n => if n = 2 then 1 else 0)) (k := 1) bH.col rfl rfl))⟩
 refine ae rfl (congrArg Bool.not (df p2)) (a9 ?_)
 clear bx5
 refine a8 rfl (mi (aK g r) (ma vn (ai (aK g r) (aa (av (vs := [vn, vi (aK g r)]) Try.func54 (.tmp rfl (.tmp rfl .nil)) ?_)))))
 replace bH := bH.cn ch2
 replace bH := bH.cn hb7
 have e0 : ([] : List Int) = ((bU g r).1) := by
   simp only [bU, if_neg (show ¬ aK g r = 0 by assumption)]
 have e1 : (aK g r : Int) = ((bU g r).2) := by
   simp only [bU, if_neg (show ¬ aK g r = 0 by assumption)]
 exact ⟨(fin w0 g4 (fun n => 0), vn), (ci (a := []) (b := aK g r) (fun (z0 : List Int) (z1 : Int) => Ending.returned (vt [vn, vi z1])) e0 e1), bH.fresh _, (e0 ▸ Ow.nil)⟩
set_option maxHeartbeats 1000000 in
theorem tM (w0 : World) (g : (Int) × (List ((Int) × (Int)))) (g_v : Value) (hg_v : Ro w0 g_v g.2) (r : bj) (r_v : Value) (hr_v : Ro w0 r_v r) (keep : List Int) (keep_v : Value) (hkeep_v : Ro w0 keep_v keep) :
    Calls Try.prog 61 #[vg [vi g.1, g_v], r_v, keep_v] w0 (fun ee w => ∃ xx : aE × Value × Value, ee = .returned ((fun ⟨δ, rv0, rv1⟩ => vt [vg [vi (((bS g r keep).1).1), rv0], rv1, vi ((bS g r keep).2.2)]) xx) ∧ (fun (⟨δ, rv0, rv1⟩ : aE × Value × Value) (w : World) => cC w0 δ w ∧ Ow δ (is 1) (is 1) w rv0 (((bS g r keep).1).2) ∧ cj δ 2 w rv1 ((bS g r keep).2.1)) xx w) := by
 refine az Try.func61 rfl (Nat.le_of_ble_eq_true rfl) ?_
 have bH := b9.start w0
 have Rg := hg_v.sl
 have Rr := hr_v.sl
 have Rkeep := hkeep_v.sl
 refine a9 (a8 rfl (cr rfl (bR c0 (is 1) (1, 0) rfl rfl ?_)))
 intro g4 w1 b3 ch2 bx5
 replace bx5 : Bx g4 (is 1) w1 b3 [vi g.1, g_v] := bx5
 refine lo (bw g4 (is 2) (2, 0) rfl ak ?_)
 intro g9 w6 b8 ch7 bx10
 replace bx10 : Bx g9 (is 2) w6 b8 [vi 0, vn] := bx10
 refine ma vn (ai 0 (aa (a9 (a9 (a8 rfl ?_)))))
 replace bx5 := bx5.cn ch7
 refine lx (aq (ds := [vi g.1, g_v]) ak rfl bx5 rfl rfl) (mv r_v ?_)
 replace Rg := (Rg.cn ch2).cn ch7
 replace Rr := (Rr.cn ch2).cn ch7
 refine lo (bO (v := vi (aK g r)) (aD (vals := [vg [vi g.1, g_v], r_v]) Try.func15 jP jV rfl) (iq w6 g g_v (Rg).ro r r_v (Rr).ro) ?_)
 intro w11 hb12
 replace hb12 := aG hb12 g9
 refine ai (aK g r) (aa (a9 (a8 rfl (mi (aK g r) (lx (cl (m := aK g r) (n := 0) rfl rfl) (aa ?_))))))
 by_cases p2 : (aK g r) = 0
 ·
  obtain ⟨hm, hrp⟩ := dD ‹_›
  have hm0 := hm
  obtain ⟨hm1, hm2, hm3, hm4⟩ := hm0
  refine ag rfl (congrArg Bool.not (dt p2)) (aj (a9 (a8 rfl ?_)))
  replace bx5 := bx5.cn hb12
  refine lx (aq (ds := [vi g.1, g_v]) ak rfl bx5 rfl rfl) (mv keep_v ?_)
  replace Rg := Rg.cn hb12
  have C13 := cg [] (ch2.n.seq (ch7.n.seq hb12.n))
  replace Rkeep := Rkeep.ca C13
  refine lo (aV (aD (vals := [vg [vi g.1, g_v], keep_v]) Try.func91 vF wk rfl) (wK w11 g g_v (Rg).ro keep keep_v (Rkeep).ro) ?_)
  rintro ⟨d15, v17⟩ w14 ⟨fr16, o18⟩
  obtain ⟨g19, ch20, G19⟩ := dw g9 fr16 (fun n => if n = 1 then 3 else 0)
  replace o18 := o18.gl G19 3
  refine mv (vt [vg [vi (((c8 g keep).1).1), v17], vi ((c8 g keep).2)]) (lx (aH rfl rfl) (lx (aH rfl rfl) (lo (bw g19 (is 4) (4, 0) rfl ak ?_))))
  intro g24 w21 b23 ch22 bx25
  replace bx25 : Bx g24 (is 4) w21 b23 [vi 0, vn] := bx25
  refine lo ?_
  replace o18 := o18.cn ch22
  refine aC (cs' := [vi (((c8 g keep).1).1), v17]) ak rfl rfl bx25 rfl (Nat.le_of_ble_eq_true rfl) (AllOne.all (.cons rfl (.cons (bm o18.flat) .nil))) rfl ?_
  intro w26 ch27 bx28
  clear bx25
  refine ai ((c8 g keep).2) (aa (a9 (a9 (a8 rfl (mi ((c8 g keep).2) (lx (cl (m := (c8 g keep).2) (n := 0) rfl rfl) (aa ?_)))))))
  by_cases p5 : ((c8 g keep).2) = 0
  ·
   obtain ⟨_, hch0, hse⟩ := py ‹_›
   have hch := gU hch0
   refine ag rfl (congrArg Bool.not (dt p5)) (aj (a9 (a8 rfl (lx (ad Try.underlying24 rfl rfl rfl rfl) ?_))))
   have C29 := cg [4] (ch20.n.seq (ch22.n.seq (ch27.l rfl)))
   replace bx5 := bx5.ca C29
   refine lx (af bo rfl bx5 rfl) ?_
   replace Rg := Rg.ca C29
   have len30 := (Rg).small
   refine lx (aO Try.underlying22 rfl Rg) (lo (dE (α := Int) (l := (g.2.length : Int)) (cp := (g.2.length : Int)) g24 (is 5) (is 5) (5, 0) rfl (0 : Int) Try.underlying27 am rfl rfl rfl (by omega) (by omega) (by omega) (by omega) ?_))
   intro g31 w32 v33 ch34 o35 _
   refine ma v33 (aa (a9 (a9 ?_)))
   clear bx5
   refine a8 rfl (mv keep_v ?_)
   have C36 := cg [4] (ch20.n.seq (ch22.n.seq ((ch27.l rfl).seq ch34.n)))
   replace Rkeep := Rkeep.ca C36
   have len37 := (Rkeep).small
   refine lx (aO Try.underlying27 rfl Rkeep) (mi 0 (aa (ah ?_)))
   refine aN (σ := Nat × (List Int) × aE) (fun ⟨i, to, gq⟩ f w => b9 w0 gq w ∧ f 1 = r_v ∧ f 6 = vp b8 0 ∧ f 10 = vp b23 0 ∧ f 12 = v33 ∧ f 42 = keep_v ∧ f 43 = vi (keep.length : Int) ∧ f 44 = vi (i : Int) ∧ Sl gq (is 0) w g_v g.2 ∧ Sl gq (is 0) w r_v r ∧ Sl gq (is 0) w keep_v keep ∧ Bx gq (is 2) w b8 [vi 0, vn] ∧ Ow gq (is 3) (is 3) w v17 (((c8 g keep).1).2) ∧ Bx gq (is 4) w b23 [vi (((c8 g keep).1).1), v17] ∧ Ow gq (is 5) (is 5) w v33 to ∧ (i : Int) ≤ ((keep.length : Int) : Int) ∧ (fC to keep (g.2.length : Int) i)) (fun ⟨i, to, gq⟩ => Int.toNat (((keep.length : Int) : Int) - (i : Int))) (0, (List.replicate (Int.toNat (g.2.length : Int)) (0 : Int)), g31) ?_ ?_
   have C39 := cg [4] (hb12.n.seq (ch20.n.seq (ch22.n.seq ((ch27.l rfl).seq ch34.n))))
   have C38 := ch2.n.seq (ch7.n.seq C39)
   · exact ⟨bH.ca C38, rfl, rfl, rfl, rfl, rfl, rfl, rfl, Rg.cn ch34, Rr.ca C39, Rkeep, bx10.ca C39, (o18.ce ch27).cn ch34, bx28.cn ch34, o35, by omega, by (have h := fC.start keep (g.2.length : Int) (by omega); simpa using h)⟩
   clear Rg Rr Rkeep bx10 o18 bx28 o35 bH
   rintro ⟨i, to, g42⟩ f40 w41 ⟨bH, zs1, zs6, zs10, zs12, zs42, zs43, zs44, Rg, Rr, Rkeep, bx10, o18, bx28, o35, hle_i, hpi⟩ back9
   have htl := hpi.len
   refine a9 (a8 rfl (lx (bc (m := (i : Int)) (n := (keep.length : Int)) zs44 zs43) (aa (a9 ?_))))
   by_cases p9 : (i : Int) < (keep.length : Int)
   ·
    refine ae rfl (dt p9) ?_
    obtain ⟨hk1, hk2⟩ := hch.1 _ (bu (xs := keep) (i := (i : Int)) (by omega) (by omega))
    refine aj (a9 (ah (a9 (a8 rfl (mz zs44 (lx (ab (v := keep_v) (i := (i : Int)) Try.underlying27 rfl zs42 Rkeep zs44 (by omega) (by omega)) (lx (ay (v := keep_v) (i := (i : Int)) am rfl Rkeep (by omega) (by omega) (by decide) rfl) (ai (i : Int) (ai (gI keep (i : Int)) (aa (a8 rfl ?_)))))))))))
    refine mz zs12 (mi (gI keep (i : Int)) (mi (i : Int) (lx (aQ (m := (i : Int)) (n := 1) rfl rfl (by omega)) (lx (ab (v := v33) (i := (gI keep (i : Int))) Try.underlying27 rfl rfl o35.flat rfl (by omega) (by omega)) (lo (bP (i := (gI keep (i : Int))) ((i : Int) + 1) am rfl rfl o35 (by omega) (by omega) rfl ?_))))))
    intro w43 ch44 bx45
    clear o35
    refine aa (ao (a8 rfl (lx (aQ (m := (i : Int)) (n := 1) zs44 rfl (by omega)) (mi ((i : Int) + 1) (aa ?_)))))
    refine back9 (i + 1, (List.set to (Int.toNat (gI keep (i : Int))) ((i : Int) + 1)), g42) _ _ ⟨bH.ce ch44, zs1, zs6, zs10, zs12, zs42, zs43, rfl, Rg.ce ch44, Rr.ce ch44, Rkeep.ce ch44, bx10.ce ch44, o18.ce ch44, bx28.ce ch44, bx45, by omega, ?_⟩ ?_
    · show fC (List.set to (Int.toNat (gI keep (i : Int))) ((i : Int) + 1)) keep (g.2.length : Int) (i + 1)
      exact hpi.next (by omega) hk1 hk2 hch.2
    · show Int.toNat (((keep.length : Int) : Int) - ((i + 1) : Int)) < Int.toNat (((keep.length : Int) : Int) - (i : Int))
      omega
   refine ag rfl (df p9) (aI rfl (a9 (a8 rfl (mz zs1 ?_))))
   have len46 := (Rr).small
   refine lx (aO Try.underlying26 rfl Rr) (lo (dB (α := Int) (n := (r.length : Int)) (cp := (r.length : Int)) g42 6 Try.underlying26 aL rfl rfl rfl (by omega) (by omega) (by omega) (by omega) ?_))
   intro g47 w48 v49 ch50 o51
   refine ma v49 (aa (a9 (a9 (a8 rfl (mz zs1 ?_)))))
   replace Rr := Rr.cn ch50
   refine lx (aO Try.underlying26 rfl Rr) (mi 0 (aa (ah ?_)))
   refine aN (σ := Nat × bj × aE) (fun ⟨v, out, gq⟩ f w => b9 w0 gq w ∧ f 6 = vp b8 0 ∧ f 10 = vp b23 0 ∧ f 12 = v33 ∧ f 15 = v49 ∧ f 58 = r_v ∧ f 59 = vi (r.length : Int) ∧ f 60 = vi (v : Int) ∧ Sl gq (is 0) w g_v g.2 ∧ Sl gq (is 0) w r_v r ∧ Sl gq (is 0) w keep_v keep ∧ Bx gq (is 2) w b8 [vi 0, vn] ∧ Ow gq (is 3) (is 3) w v17 (((c8 g keep).1).2) ∧ Bx gq (is 4) w b23 [vi (((c8 g keep).1).1), v17] ∧ Ow gq (is 5) (is 5) w v33 to ∧ cj gq 6 w v49 out ∧ (v : Int) ≤ ((r.length : Int) : Int) ∧ (cM out keep r v 0)) (fun ⟨v, out, gq⟩ => Int.toNat (((r.length : Int) : Int) - (v : Int))) (0, (List.replicate (Int.toNat (r.length : Int)) []), g47) ?_ ?_
   · exact ⟨bH.cn ch50, zs6, zs10, zs12, rfl, rfl, rfl, rfl, Rg.cn ch50, Rr, Rkeep.cn ch50, bx10.cn ch50, o18.cn ch50, bx28.cn ch50, o35.cn ch50, o51, by omega, by exact cM.start keep r⟩
   clear Rg Rr Rkeep bx10 o18 bx28 o35 o51 bH
   rintro ⟨v, out, g54⟩ f52 w53 ⟨bH, zs6, zs10, zs12, zs15, zs58, zs59, zs60, Rg, Rr, Rkeep, bx10, o18, bx28, o35, o51, hle_v, hinv⟩ back15
   have hol := hinv.len
   have hpk : (List.take i keep) = keep := List.take_of_length_le (by omega)
   refine a9 (a8 rfl (lx (bc (m := (v : Int)) (n := (r.length : Int)) zs60 zs59) (aa (a9 ?_))))
   by_cases p15 : (v : Int) < (r.length : Int)
   ·
    refine ae rfl (dt p15) (aj (a9 (ah (a9 (a8 rfl (mz zs60 (lx (ab (v := r_v) (i := (v : Int)) Try.underlying26 rfl zs58 Rr zs60 (by omega) (by omega)) ?_)))))))
    obtain ⟨v55, cel56, r57⟩ := co (r := (v : Int)) Rr (by omega) (by omega)
    refine lx (aS aL rfl cel56) (ai (v : Int) (ma v55 (aa (a9 (a8 rfl (mv v55 ?_))))))
    have len58 := (r57).small
    refine lx (aO Try.underlying27 rfl r57) (mi 0 (aa (ah ?_)))
    refine aN (σ := Nat × bj × aE) (fun ⟨j, out, gq⟩ f w => b9 w0 gq w ∧ f 6 = vp b8 0 ∧ f 10 = vp b23 0 ∧ f 12 = v33 ∧ f 15 = v49 ∧ f 16 = vi (v : Int) ∧ f 58 = r_v ∧ f 59 = vi (r.length : Int) ∧ f 60 = vi (v : Int) ∧ f 65 = v55 ∧ f 66 = vi (List.length (gI r (v : Int)) : Int) ∧ f 67 = vi (j : Int) ∧ Sl gq (is 0) w g_v g.2 ∧ Sl gq (is 0) w r_v r ∧ Sl gq (is 0) w keep_v keep ∧ Bx gq (is 2) w b8 [vi 0, vn] ∧ Ow gq (is 3) (is 3) w v17 (((c8 g keep).1).2) ∧ Bx gq (is 4) w b23 [vi (((c8 g keep).1).1), v17] ∧ Ow gq (is 5) (is 5) w v33 to ∧ cj gq 6 w v49 out ∧ Sl gq (is 0) w v55 (gI r (v : Int)) ∧ (j : Int) ≤ ((List.length (gI r (v : Int)) : Int) : Int) ∧ (cM out keep r v j)) (fun ⟨j, out, gq⟩ => Int.toNat (((List.length (gI r (v : Int)) : Int) : Int) - (j : Int))) (0, out, g54) ?_ ?_
    · exact ⟨bH, zs6, zs10, zs12, zs15, rfl, zs58, zs59, zs60, rfl, rfl, rfl, Rg, Rr, Rkeep, bx10, o18, bx28, o35, o51, r57, by omega, by exact hinv⟩
    clear Rg Rr Rkeep bx10 o18 bx28 o35 o51 r57 bH
    rintro ⟨j, out, g61⟩ f59 w60 ⟨bH, zs6, zs10, zs12, zs15, zs16, zs58, zs59, zs60, zs65, zs66, zs67, Rg, Rr, Rkeep, bx10, o18, bx28, o35, o51, r57, hle_j, hin⟩ back18
    have hol := hin.len
    have hbd := hin.bd ‹_›
    refine a9 (a8 rfl (lx (bc (m := (j : Int)) (n := (List.length (gI r (v : Int)) : Int)) zs67 zs66) (aa (a9 ?_))))
    by_cases p18 : (j : Int) < (List.length (gI r (v : Int)) : Int)
    ·
     refine ae rfl (dt p18) ?_
     obtain ⟨hh1, hh2⟩ := (hrp.2.1 v (by omega) _ (bu (xs := gI r (v : Int)) (i := (j : Int)) (by omega) ‹_›)).1
     have hto := hpi.pos (gI (gI r (v : Int)) (j : Int) / 2) (by omega) (by omega)
     rw [hpk] at hto
     have hple := pv keep (gI (gI r (v : Int)) (j : Int) / 2)
     have hpnn := kk keep (gI (gI r (v : Int)) (j : Int) / 2)
     have hkl := fk (n := (g.2.length : Int)) (by omega) hch.2 hch.1
     refine aj (a9 (ah (a9 (a8 rfl (lx (ab (v := v55) (i := (j : Int)) Try.underlying27 rfl zs65 r57 zs67 (by omega) (by omega)) (lx (ay (v := v55) (i := (j : Int)) am rfl r57 (by omega) (by omega) (by decide) rfl) (ai (gI (gI r (v : Int)) (j : Int)) (aa (a9 (a8 rfl (mz zs12 (mi (gI (gI r (v : Int)) (j : Int)) ?_))))))))))))
     refine lx (hU (m := (gI (gI r (v : Int)) (j : Int))) (n := 2) rfl rfl (by omega) (by omega) (by omega)) (lx (ab (v := v33) (i := (gI (gI r (v : Int)) (j : Int)) / 2) Try.underlying27 rfl rfl o35.flat rfl (by omega) (by omega)) (lx (ay (v := v33) (i := (gI (gI r (v : Int)) (j : Int)) / 2) am rfl o35.flat (by omega) (by omega) (by decide) rfl) (ai (gI to ((gI (gI r (v : Int)) (j : Int)) / 2)) (aa (a9 (a8 rfl (mi (gI to ((gI (gI r (v : Int)) (j : Int)) / 2)) (lx (fW (m := (gI to ((gI (gI r (v : Int)) (j : Int)) / 2))) (n := 0) rfl rfl) (aa ?_)))))))))
     by_cases p21 : 0 < (gI to ((gI (gI r (v : Int)) (j : Int)) / 2))
     ·
      refine ae rfl (dt p21) (a8 rfl (mz zs15 (mz zs16 (mz zs15 (mz zs16 (lx (ab (v := v49) (i := (v : Int)) Try.underlying26 rfl rfl o51.sl rfl (by omega) (by omega)) ?_))))))
      obtain ⟨v62, cel63, r64⟩ := bY (r := (v : Int)) o51 (by omega) (by omega)
      refine lx (aS aL rfl cel63) (mi (gI to ((gI (gI r (v : Int)) (j : Int)) / 2)) (lx (eR (m := (gI to ((gI (gI r (v : Int)) (j : Int)) / 2))) (n := 1) rfl rfl (by omega)) (lx (du (m := 2) (n := (gI to ((gI (gI r (v : Int)) (j : Int)) / 2)) - 1) rfl rfl (by omega)) (mi (gI (gI r (v : Int)) (j : Int)) (lx (eT (m := (gI (gI r (v : Int)) (j : Int))) (n := 2) rfl rfl (by omega) (by omega)) (lx (aQ (m := 2 * ((gI to ((gI (gI r (v : Int)) (j : Int)) / 2)) - 1)) (n := (gI (gI r (v : Int)) (j : Int)) % 2) rfl rfl (by omega)) (lo ?_)))))))
      refine aA (α := Int) g61 (is 7) (is 7) (7, 0) rfl [(2 * ((gI to ((gI (gI r (v : Int)) (j : Int)) / 2)) - 1)) + ((gI (gI r (v : Int)) (j : Int)) % 2)] Try.underlying27 am (by decide) (by decide) (vs := [(0, vi ((2 * ((gI to ((gI (gI r (v : Int)) (j : Int)) / 2)) - 1)) + ((gI (gI r (v : Int)) (j : Int)) % 2)))]) rfl rfl (.cons rfl .nil) ?_
      intro g65 w66 v67 ch68 o69
      refine lo ?_
      replace o51 := o51.cn ch68
      replace r64 := r64.cn ch68
      refine aR (α := Int) (xs := (gI out (v : Int))) (ys := ([(2 * ((gI to ((gI (gI r (v : Int)) (j : Int)) / 2)) - 1)) + ((gI (gI r (v : Int)) (j : Int)) % 2)])) g65 (J := row 6 (Int.toNat (v : Int) + 1)) (S := row 6 (Int.toNat (v : Int) + 1)) (6, Int.toNat (v : Int) + 1) rfl Try.underlying27 am (by decide) rfl rfl rfl r64 o69.flat (by decide) (by (simp; omega)) ?_
      intro g70 w71 v72 ch73 o74
      have o75 := o51.rowchg ch73
      clear o51 cel63 r64
      obtain ⟨us76, hl77, r78⟩ := o75.vc
      try simp only [List.length_set, List.length_append, List.length_cons, List.length_nil] at hl77
      refine lx (ab (v := v49) (i := (v : Int)) Try.underlying26 rfl rfl r78 rfl (by omega) (by omega)) (lo (bI (r := (v : Int)) aL rfl rfl o75 o74 (by omega) (by omega) ?_))
      intro w82 ch83 o84
      clear o75 o74
      refine aa (ao ?_)
      clear o69
      refine a8 rfl (lx (aQ (m := (j : Int)) (n := 1) zs67 rfl (by omega)) (mi ((j : Int) + 1) (aa ?_)))
      have C85 := cg [6] (ch68.n.seq ((ch73.lr rfl).seq (ch83.l rfl)))
      refine back18 (j + 1, (List.set out (Int.toNat (v : Int)) (gI out (v : Int) ++ [(2 * ((gI to ((gI (gI r (v : Int)) (j : Int)) / 2)) - 1)) + ((gI (gI r (v : Int)) (j : Int)) % 2)])), g70) _ _ ⟨bH.ca C85, zs6, zs10, zs12, zs15, zs16, zs58, zs59, zs60, zs65, zs66, rfl, Rg.ca C85, Rr.ca C85, Rkeep.ca C85, bx10.ca C85, o18.ca C85, bx28.ca C85, o35.ca C85, o84, r57.ca C85, by omega, ?_⟩ ?_
      · show cM (List.set out (Int.toNat (v : Int)) (gI out (v : Int) ++ [(2 * ((gI to ((gI (gI r (v : Int)) (j : Int)) / 2)) - 1)) + ((gI (gI r (v : Int)) (j : Int)) % 2)])) keep r v (j + 1)
        (have h1 := hin.yes ‹_› ‹_› (by rw [← hto]; assumption)
         rw [← hto] at h1
         exact h1)
      · show Int.toNat (((List.length (gI r (v : Int)) : Int) : Int) - ((j + 1) : Int)) < Int.toNat (((List.length (gI r (v : Int)) : Int) : Int) - (j : Int))
        omega
     refine ag rfl (df p21) (aj (ao (a8 rfl (lx (aQ (m := (j : Int)) (n := 1) zs67 rfl (by omega)) (mi ((j : Int) + 1) (aa ?_))))))
     refine back18 (j + 1, out, g61) _ _ ⟨bH, zs6, zs10, zs12, zs15, zs16, zs58, zs59, zs60, zs65, zs66, rfl, Rg, Rr, Rkeep, bx10, o18, bx28, o35, o51, r57, by omega, ?_⟩ ?_
     · show cM out keep r v (j + 1)
       exact hin.no ‹_› (by rw [← hto]; assumption)
     · show Int.toNat (((List.length (gI r (v : Int)) : Int) : Int) - ((j + 1) : Int)) < Int.toNat (((List.length (gI r (v : Int)) : Int) : Int) - (j : Int))
       omega
    refine ag rfl (df p18) (aI rfl (ao ?_))
    clear r57
    refine a8 rfl (lx (aQ (m := (v : Int)) (n := 1) zs60 rfl (by omega)) (mi ((v : Int) + 1) (aa ?_)))
    refine back15 (v + 1, out, g61) _ _ ⟨bH, zs6, zs10, zs12, zs15, zs58, zs59, rfl, Rg, Rr, Rkeep, bx10, o18, bx28, o35, o51, by omega, ?_⟩ ?_
    · show cM out keep r (v + 1) 0
      exact hin.row_done ‹_› ‹_›
    · show Int.toNat (((r.length : Int) : Int) - ((v + 1) : Int)) < Int.toNat (((r.length : Int) : Int) - (v : Int))
      omega
   refine ag rfl (df p15) (aI rfl (a9 ?_))
   clear o35
   refine cx g54 (bW [2]) uv ?_
   intro w87 ch86
   replace bx28 := bx28.cn ch86
   refine ht 0 rfl (bq.refl _ _ _) (fun w' hw' => aq (ds := [vi (((c8 g keep).1).1), v17]) ak zs10 (bx28.chg hw' (bQ rfl)) rfl rfl) (ht (v := v49) 1 rfl (bq.refl _ _ _) (fun w' hw' => au zs15) (aW 2 rfl (by kernel_rfl) rfl ?_))
   replace o51 := o51.cn ch86
   refine aV (aD (vals := [v49]) Try.func89 rj rN rfl) (ov w87 out v49 (o51.sl).ro) ?_
   rintro ⟨d89, v91⟩ w88 ⟨fr90, o92⟩
   obtain ⟨g93, ch94, G93⟩ := dw g54 fr90 (fun n => if n = 1 then 8 else 0)
   replace o92 := o92.gl G93 8
   have hs95 : bq (bW [2]) _ _ _ _ := ch94.n
   refine ⟨hs95.same, ?_⟩
   refine aW 3 rfl (by kernel_rfl) rfl ?_
   replace bx10 := (bx10.cn ch86).cn ch94
   replace o18 := o18.cn ch86
   refine aC (cs' := [vi (((c8 g keep).1).1), v17]) ak zs6 rfl bx10 rfl (Nat.le_of_ble_eq_true rfl) (AllOne.all (.cons rfl (.cons (bm (o18.ca hs95).flat) .nil))) rfl ?_
   intro w96 ch97 bx98
   clear bx10
   have hs99 := hs95.seq (ch97.l rfl)
   refine ⟨hs99.same, ?_⟩
   refine ht (v := v91) 4 rfl hs99.same (fun w' hw' => bz rfl) (ht (v := vi 0) 5 rfl hs99.same (fun w' hw' => bz rfl) (cA (by kernel_rfl) (av (vs := [vg [vi (((c8 g keep).1).1), v17], v91, vi 0]) Try.func61 (.cell zs6 (bk (ds := [vi (((c8 g keep).1).1), v17]) ak bx98 rfl rfl) (.tmp rfl (.tmp rfl .nil))) ?_)))
   have C100 := cg [2] (ch86.n.seq (ch94.n.seq (ch97.l rfl)))
   replace bH := bH.ca C100
   replace o18 := (o18.cn ch94).ce ch97
   replace o92 := o92.ce ch97
   have e0 : (((c8 g keep).1) : (Int) × (List ((Int) × (Int)))) = ((bS g r keep).1) := by
     simp only [bS, if_pos (show aK g r = 0 by assumption), if_pos (show (c8 g keep).2 = 0 by assumption)]
   have e1 : (ct out : bj) = ((bS g r keep).2.1) := by
     simp only [bS, if_pos (show aK g r = 0 by assumption), if_pos (show (c8 g keep).2 = 0 by assumption), hinv.done ‹_›]
   have e2 : (0 : Int) = ((bS g r keep).2.2) := by
     simp only [bS, if_pos (show aK g r = 0 by assumption), if_pos (show (c8 g keep).2 = 0 by assumption)]
   exact ⟨(fin w0 g93 (fun n => if n = 3 then 1 else if n = 8 then 2 else 0), v17, v91), (cq (a := ((c8 g keep).1)) (b := ct out) (c := 0) (fun (z0 : (Int) × (List ((Int) × (Int)))) (z1 : bj) (z2 : Int) => Ending.returned (vt [vg [vi z0.1, v17], v91, vi z2])) e0 e1 e2), bH.fresh _, ((congrArg (fun (z : (Int) × (List ((Int) × (Int)))) => z.2) e0) ▸ (o18.glue (γ := c0) (ren := (fun n => if n = 3 then 1 else if n = 8 then 2 else 0)) (k := 1) bH.col rfl rfl)), (e1 ▸ (o92.glue (γ := c0) (ren := (fun n => if n = 3 then 1 else if n = 8 then 2 else 0)) (k := 2) bH.col rfl rfl))⟩
  refine ae rfl (congrArg Bool.not (df p5)) (a9 ?_)
  clear bx5 o18 bx28
  refine a8 rfl (lw (vg [vi 0, vn]) (bn (vs := []) rfl (by kernel_rfl)) (mi ((c8 g keep).2) (lo ?_)))
  have C104 := cg [4] (hb12.n.seq (ch20.n.seq (ch22.n.seq (ch27.l rfl))))
  replace bx10 := bx10.ca C104
  refine aC (cs' := [vi 0, vn]) ak rfl rfl bx10 rfl (Nat.le_of_ble_eq_true rfl) (AllOne.all (.cons rfl (.cons rfl .nil))) rfl ?_
  intro w101 ch102 bx103
  clear bx10
  refine ma vn (ai ((c8 g keep).2) (aa (av (vs := [vg [vi 0, vn], vn, vi ((c8 g keep).2)]) Try.func61 (.cell rfl (bk (ds := [vi 0, vn]) ak bx103 rfl rfl) (.tmp rfl (.tmp rfl .nil))) ?_)))
  have C105 := cg [2, 4] (ch2.n.seq (ch7.n.seq (hb12.n.seq (ch20.n.seq (ch22.n.seq ((ch27.l rfl).seq (ch102.l rfl)))))))
  replace bH := bH.ca C105
  have e0 : ((0, []) : (Int) × (List ((Int) × (Int)))) = ((bS g r keep).1) := by
    simp only [bS, if_pos (show aK g r = 0 by assumption), if_neg (show ¬ (c8 g keep).2 = 0 by assumption)]
  have e1 : ([] : bj) = ((bS g r keep).2.1) := by
    simp only [bS, if_pos (show aK g r = 0 by assumption), if_neg (show ¬ (c8 g keep).2 = 0 by assumption)]
  have e2 : ((c8 g keep).2 : Int) = ((bS g r keep).2.2) := by
    simp only [bS, if_pos (show aK g r = 0 by assumption), if_neg (show ¬ (c8 g keep).2 = 0 by assumption)]
  exact ⟨(fin w0 g24 (fun n => 0), vn, vn), (cq (a := (0, [])) (b := []) (c := (c8 g keep).2) (fun (z0 : (Int) × (List ((Int) × (Int)))) (z1 : bj) (z2 : Int) => Ending.returned (vt [vg [vi z0.1, vn], vn, vi z2])) e0 e1 e2), bH.fresh _, ((congrArg (fun (z : (Int) × (List ((Int) × (Int)))) => z.2) e0) ▸ Ow.nil), (e1 ▸ cj.nil)⟩
 refine ae rfl (congrArg Bool.not (df p2)) (a9 ?_)
 clear bx5
 refine a8 rfl (lw (vg [vi 0, vn]) (bn (vs := []) rfl (by kernel_rfl)) (mi (aK g r) (lo ?_)))
 replace bx10 := bx10.cn hb12
 refine aC (cs' := [vi 0, vn]) ak rfl rfl bx10 rfl (Nat.le_of_ble_eq_true rfl) (AllOne.all (.cons rfl (.cons rfl .nil))) rfl ?_
 intro w106 ch107 bx108
 clear bx10
 refine ma vn (ai (aK g r) (aa (av (vs := [vg [vi 0, vn], vn, vi (aK g r)]) Try.func61 (.cell rfl (bk (ds := [vi 0, vn]) ak bx108 rfl rfl) (.tmp rfl (.tmp rfl .nil))) ?_)))
 have C109 := cg [2] (ch2.n.seq (ch7.n.seq (hb12.n.seq (ch107.l rfl))))
 replace bH := bH.ca C109
 have e0 : ((0, []) : (Int) × (List ((Int) × (Int)))) = ((bS g r keep).1) := by
   simp only [bS, if_neg (show ¬ aK g r = 0 by assumption)]
 have e1 : ([] : bj) = ((bS g r keep).2.1) := by
   simp only [bS, if_neg (show ¬ aK g r = 0 by assumption)]
 have e2 : (aK g r : Int) = ((bS g r keep).2.2) := by
   simp only [bS, if_neg (show ¬ aK g r = 0 by assumption)]
 exact ⟨(fin w0 g9 (fun n => 0), vn, vn), (cq (a := (0, [])) (b := []) (c := aK g r) (fun (z0 : (Int) × (List ((Int) × (Int)))) (z1 : bj) (z2 : Int) => Ending.returned (vt [vg [vi z0.1, vn], vn, vi z2])) e0 e1 e2), bH.fresh _, ((congrArg (fun (z : (Int) × (List ((Int) × (Int)))) => z.2) e0) ▸ Ow.nil), (e1 ▸ cj.nil)⟩
end TL
