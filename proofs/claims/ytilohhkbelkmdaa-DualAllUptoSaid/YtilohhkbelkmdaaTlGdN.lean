import Derived.Test.YtilohhkbelkmdaaTlP3
import Derived.Test.YtilohhkbelkmdaaTlGdM
import Derived.Test.YtilohhkbelkmdaaTlGdA
import Derived.Test.YtilohhkbelkmdaaProg
set_option linter.all false
set_option maxRecDepth 20000
namespace TL
open Go Go.Proofs
theorem fI : Try.prog.follows .mixedOrders = true := by kernel_rfl
theorem n7 : Try.f40.body.isNone = false := rfl
theorem mH : (Try.f40.name == "runtime.NumGoroutine") = false := by decide +kernel
theorem tu : Try.f73.body.isNone = false := rfl
theorem tc : (Try.f73.name == "runtime.NumGoroutine") = false := by decide +kernel
theorem tR : Try.f75.body.isNone = false := rfl
theorem sO : (Try.f75.name == "runtime.NumGoroutine") = false := by decide +kernel
theorem uW : Try.f76.body.isNone = false := rfl
theorem tE : (Try.f76.name == "runtime.NumGoroutine") = false := by decide +kernel
theorem gS : Try.f83.body.isNone = false := rfl
theorem gX : (Try.f83.name == "runtime.NumGoroutine") = false := by decide +kernel
set_option maxHeartbeats 1000000 in
theorem tZ (w0 : World) (g : (Int) × (List ((Int) × (Int)))) (g_v : Value) (hg_v : Ro w0 g_v g.2) (r : bj) (r_v : Value) (hr_v : Ro w0 r_v r) (a : (Int) × (Int)) (b : (Int) × (Int)) (hmay : bx g) (hr : cf g r) :
    Calls Try.prog 41 #[vg [vi g.1, g_v], r_v, vg [vi a.1, vi a.2], vg [vi b.1, vi b.2]] w0 (fun ee w => ∃ xx : aE × Value × Value, ee = .returned ((fun ⟨δ, rv0, rv1⟩ => vt [vg [vi (((bg g r a b).1).1), rv0], rv1, vi ((bg g r a b).2.2)]) xx) ∧ (fun (⟨δ, rv0, rv1⟩ : aE × Value × Value) (w : World) => cC w0 δ w ∧ Ow δ (is 1) (is 1) w rv0 (((bg g r a b).1).2) ∧ cj δ 2 w rv1 ((bg g r a b).2.1)) xx w) := by
 refine az Try.func41 rfl (Nat.le_of_ble_eq_true rfl) ?_
 have bH := b9.start w0
 have Rg := hg_v.sl
 have Rr := hr_v.sl
 have hm := hmay
 have hrp := hr
 have hm0 := hmay
 obtain ⟨hm1, hm2, hm3, hm4⟩ := hm0
 have hrl := hr.1
 have hFl : (ax (aw g r) r).length ≤ 8000 := by have h := cT g r hmay hr; rw [bG (br hmay hr)] at h; exact h
 have hol0 := ec g r
 refine a9 (a8 rfl (cr rfl (bR c0 (is 1) (1, 0) rfl rfl ?_)))
 intro g4 w1 b3 ch2 bx5
 replace bx5 : Bx g4 (is 1) w1 b3 [vi g.1, g_v] := bx5
 refine lo (bR g4 (is 2) (2, 0) rfl rfl ?_)
 intro g9 w6 b8 ch7 bx10
 replace bx10 : Bx g9 (is 2) w6 b8 [vi a.1, vi a.2] := bx10
 refine lo (bR g9 (is 3) (3, 0) rfl rfl ?_)
 intro g14 w11 b13 ch12 bx15
 replace bx15 : Bx g14 (is 3) w11 b13 [vi b.1, vi b.2] := bx15
 refine lo (bw g14 (is 4) (4, 0) rfl ak ?_)
 intro g19 w16 b18 ch17 bx20
 replace bx20 : Bx g19 (is 4) w16 b18 [vi 0, vn] := bx20
 refine ma vn (ai 0 (aa (a9 (a8 rfl ?_))))
 have C21 := cg [] (ch7.n.seq (ch12.n.seq ch17.n))
 replace bx5 := bx5.ca C21
 refine lx (aq (ds := [vi g.1, g_v]) ak rfl bx5 rfl rfl) (mv r_v ?_)
 replace bx10 := (bx10.cn ch12).cn ch17
 refine lx (aq (ds := [vi a.1, vi a.2]) gQ rfl bx10 rfl rfl) ?_
 have C22 := cg [] (ch2.n.seq (ch7.n.seq (ch12.n.seq ch17.n)))
 replace Rg := Rg.ca C22
 replace Rr := Rr.ca C22
 refine lo (bO (v := vt [vi ((aU g r a).1), vi ((aU g r a).2)]) (aD (vals := [vg [vi g.1, g_v], r_v, vg [vi a.1, vi a.2]]) Try.func40 n7 mH rfl) (jW w16 g g_v (Rg).ro r r_v (Rr).ro a ‹_› ‹_›) ?_)
 intro w23 hb24
 replace hb24 := aG hb24 g19
 refine mv (vt [vi ((aU g r a).1), vi ((aU g r a).2)]) (lx (aH rfl rfl) (lx (aH rfl rfl) (ai ((aU g r a).1) (ai ((aU g r a).2) (aa (a9 (a9 (a8 rfl (mi ((aU g r a).2) (lx (cl (m := (aU g r a).2) (n := 0) rfl rfl) (aa ?_)))))))))))
 by_cases p2 : ((aU g r a).2) = 0
 ·
  refine ag rfl (congrArg Bool.not (dt p2)) (aj (a9 (a8 rfl ?_)))
  replace bx5 := bx5.cn hb24
  refine lx (aq (ds := [vi g.1, g_v]) ak rfl bx5 rfl rfl) (mv r_v ?_)
  replace bx15 := (bx15.cn ch17).cn hb24
  refine lx (aq (ds := [vi b.1, vi b.2]) gQ rfl bx15 rfl rfl) ?_
  replace Rg := Rg.cn hb24
  replace Rr := Rr.cn hb24
  refine lo (bO (v := vt [vi ((aU g r b).1), vi ((aU g r b).2)]) (aD (vals := [vg [vi g.1, g_v], r_v, vg [vi b.1, vi b.2]]) Try.func40 n7 mH rfl) (jW w23 g g_v (Rg).ro r r_v (Rr).ro b ‹_› ‹_›) ?_)
  intro w25 hb26
  replace hb26 := aG hb26 g19
  refine mv (vt [vi ((aU g r b).1), vi ((aU g r b).2)]) (lx (aH rfl rfl) (lx (aH rfl rfl) (ai ((aU g r b).1) (ai ((aU g r b).2) (aa (a9 (a9 (a8 rfl (mi ((aU g r b).2) (lx (cl (m := (aU g r b).2) (n := 0) rfl rfl) (aa ?_)))))))))))
  by_cases p5 : ((aU g r b).2) = 0
  ·
   refine ag rfl (congrArg Bool.not (dt p5)) (aj (a9 (a8 rfl ?_)))
   replace bx5 := bx5.cn hb26
   refine lx (aq (ds := [vi g.1, g_v]) ak rfl bx5 rfl rfl) ?_
   replace Rg := Rg.cn hb26
   refine lo (aV (aD (vals := [vg [vi g.1, g_v]]) Try.func82 sG rt rfl) (nv w25 g g_v (Rg).ro (by omega)) ?_)
   rintro ⟨d28, v30⟩ w27 ⟨fr29, o31⟩
   obtain ⟨g32, ch33, G32⟩ := dw g19 fr29 (fun n => if n = 1 then 5 else 0)
   replace o31 := o31.gl G32 5
   refine lo (bw g32 (is 6) (6, 0) rfl ak ?_)
   intro g37 w34 b36 ch35 bx38
   replace bx38 : Bx g37 (is 6) w34 b36 [vi 0, vn] := bx38
   refine lo ?_
   replace o31 := o31.cn ch35
   refine aC (cs' := [vi g.1, v30]) ak rfl rfl bx38 rfl (Nat.le_of_ble_eq_true rfl) (AllOne.all (.cons rfl (.cons (bm o31.flat) .nil))) rfl ?_
   intro w39 ch40 bx41
   clear bx38
   refine aa (a9 (a8 rfl (lx (ad Try.underlying24 rfl rfl rfl rfl) (lx (af bo rfl bx41 rfl) (lx (ad Try.underlying55 rfl rfl rfl rfl) ?_)))))
   have C42 := cg [6] (hb24.n.seq (hb26.n.seq (ch33.n.seq (ch35.n.seq (ch40.l rfl)))))
   replace bx10 := bx10.ca C42
   refine lx (af am rfl bx10 rfl) (lx (ad Try.underlying55 rfl rfl rfl rfl) ?_)
   have C43 := cg [6] (hb26.n.seq (ch33.n.seq (ch35.n.seq (ch40.l rfl))))
   replace bx15 := bx15.ca C43
   refine lx (af am rfl bx15 rfl) (lw (vg [vi a.1, vi b.1]) (bn (vs := [(0, vi a.1), (1, vi b.1)]) rfl (by kernel_rfl)) (lo (aA (α := (Int) × (Int)) g37 (is 7) (is 7) (7, 0) rfl ([(a.1, b.1)] : List ((Int) × (Int))) Try.underlying22 bD (by decide) (by decide) (vs := [(0, vg [vi a.1, vi b.1])]) rfl rfl (.cons rfl .nil) ?_)))
   intro g44 w45 v46 ch47 o48
   refine lo ?_
   replace o31 := (o31.ce ch40).cn ch47
   refine aR (α := (Int) × (Int)) (xs := g.2) (ys := ([(a.1, b.1)] : List ((Int) × (Int)))) g44 (J := is 5) (S := is 5) (5, 0) rfl Try.underlying22 bD (by decide) rfl rfl rfl o31 o48.flat (by decide) (by (simp; omega)) ?_
   intro g49 w50 v51 ch52 o53
   clear o31
   refine lx (ad Try.underlying24 rfl rfl rfl rfl) (lo ?_)
   replace bx41 := (bx41.cn ch47).ce ch52
   refine cK (cs' := [vi g.1, v51]) bo rfl rfl bx41 (c6 o53.flat) (Nat.le_of_ble_eq_true rfl) (bm o53.flat) rfl ?_
   intro w54 ch55 bx56
   clear bx41
   refine aa (a9 (a9 ?_))
   clear o48
   refine a8 rfl (lx (aq (ds := [vi g.1, v51]) ak rfl bx56 rfl rfl) ?_)
   replace o53 := o53.ce ch55
   refine lo (bO (v := Value.bool (cD (g.1, (g.2 ++ ([(a.1, b.1)] : List ((Int) × (Int))))))) (aD (vals := [vg [vi g.1, v51]]) Try.func35 lK lp rfl) (jo w54 (g.1, (g.2 ++ ([(a.1, b.1)] : List ((Int) × (Int))))) v51 (o53.flat).ro) ?_)
   intro w57 hb58
   replace hb58 := aG hb58 g49
   refine lx (dr (b := (cD (g.1, (g.2 ++ ([(a.1, b.1)] : List ((Int) × (Int))))))) rfl) (aa ?_)
   by_cases p9 : (cD (g.1, (g.2 ++ ([(a.1, b.1)] : List ((Int) × (Int)))))) = true
   ·
    have hlm : bx (dR g a b) := of_decide_eq_true p9
    refine ag rfl (congrArg Bool.not p9) (aj (a9 (a8 rfl ?_)))
    have C59 := cg [5, 6] (ch33.n.seq (ch35.n.seq ((ch40.l rfl).seq (ch47.n.seq ((ch52.l rfl).seq ((ch55.l rfl).seq hb58.n))))))
    replace bx5 := bx5.ca C59
    refine lx (aq (ds := [vi g.1, g_v]) ak rfl bx5 rfl rfl) ?_
    replace Rg := Rg.ca C59
    refine lo (aV (aD (vals := [vg [vi g.1, g_v], vn, vn]) Try.func31 wj vB rfl) (qI w57 g g_v (Rg).ro ‹_›) ?_)
    rintro ⟨d61, v63⟩ w60 ⟨fr62, o64⟩
    obtain ⟨g65, ch66, G65⟩ := dw g49 fr62 (fun n => if n = 1 then 8 else 0)
    replace o64 := o64.gl G65 8
    refine mv (vt [v63, vi ((bC g).2.1)]) (lx (aH rfl rfl) (lx (aH rfl rfl) (ma v63 (ai ((bC g).2.1) (aa (a9 (a9 ?_)))))))
    refine ku [false, false, true] (σ := aE) (fun gq f w => b9 w0 gq w ∧ f 1 = r_v ∧ f 4 = vp b3 0 ∧ f 6 = vp b8 0 ∧ f 7 = vp b13 0 ∧ f 8 = vp b18 0 ∧ f 14 = vp b36 0 ∧ Sl gq (is 0) w g_v g.2 ∧ Sl gq (is 0) w r_v r ∧ Bx gq (is 1) w b3 [vi g.1, g_v] ∧ Bx gq (is 2) w b8 [vi a.1, vi a.2] ∧ Bx gq (is 3) w b13 [vi b.1, vi b.2] ∧ Bx gq (is 4) w b18 [vi 0, vn] ∧ Ow gq (is 5) (is 5) w v51 (g.2 ++ ([(a.1, b.1)] : List ((Int) × (Int)))) ∧ Bx gq (is 6) w b36 [vi g.1, v51] ∧ (¬ gI (bC g).1 a.1 = gI (bC g).1 b.1 ∨ (aU g r a).1 = (aU g r b).1)) ?_ ?_
    ·
     intro mid_j1
     have hca := (dm hm hrp (by assumption : (aU g r a).2 = 0)).1
     have hcb := (dm hm hrp (by assumption : (aU g r b).2 = 0)).1
     obtain ⟨ha1, ha2⟩ := hca.1
     obtain ⟨hb1, hb2⟩ := hcb.1
     have hpl := gG hm
     refine ck g65 rfl fI (by kernel_rfl) ?_
     intro w68 ch67
     refine qm v63 (qx (fun w' hw' => ad Try.underlying55 rfl rfl rfl rfl) ?_)
     have C69 := cg [5, 6] (ch47.n.seq ((ch52.l rfl).seq ((ch55.l rfl).seq (hb58.n.seq (ch66.n.seq ch67.n)))))
     replace bx10 := bx10.ca C69
     refine qx (fun w' hw' => af am rfl (bx10.bel hw') rfl) ?_
     replace o64 := o64.cn ch67
     refine qx (fun w' hw' => ab (v := v63) (i := a.1) Try.underlying27 rfl rfl (o64.flat.bel hw') rfl (by omega) (by omega)) (qx (fun w' hw' => ay (v := v63) (i := a.1) am rfl (o64.flat.bel hw') (by omega) (by omega) (by decide) rfl) (qm v63 (qx (fun w' hw' => ad Try.underlying55 rfl rfl rfl rfl) ?_)))
     replace bx15 := bx15.ca C69
     refine qx (fun w' hw' => af am rfl (bx15.bel hw') rfl) (qx (fun w' hw' => ab (v := v63) (i := b.1) Try.underlying27 rfl rfl (o64.flat.bel hw') rfl (by omega) (by omega)) (qx (fun w' hw' => ay (v := v63) (i := b.1) am rfl (o64.flat.bel hw') (by omega) (by omega) (by decide) rfl) (qx (fun w' hw' => cR (m := (gI ((bC g).1) a.1)) (n := (gI ((bC g).1) b.1)) rfl rfl) (qm (Value.bool (decide ((gI ((bC g).1) a.1) = (gI ((bC g).1) b.1)))) ?_))))
     by_cases q74 : (gI ((bC g).1) a.1) = (gI ((bC g).1) b.1)
     ·
      refine bE (v := vi ((aU g r a).1)) (wy (dt q74)) (fun w' hw' => au rfl) (bE (v := vi ((aU g r b).1)) (wy (dt q74)) (fun w' hw' => au rfl) (bE (v := Value.bool (!(decide (((aU g r a).1) = ((aU g r b).1))))) (wy (dt q74)) (fun w' hw' => cl (m := (aU g r a).1) (n := (aU g r b).1) rfl rfl) (qv (Value.bool (!(decide (((aU g r a).1) = ((aU g r b).1))))) (fun w' hw' => aY rfl (dt q74) rfl) (cV ?_))))
      intro w70 hc71
      replace hc71 := aG hc71 g65
      by_cases p12 : ((aU g r a).1) = ((aU g r b).1)
      ·
       refine ag rfl (congrArg Bool.not (dt p12)) (aj (a9 ?_))
       clear o64
       have C74 := cg [5, 6] (hb26.n.seq (ch33.n.seq (ch35.n.seq ((ch40.l rfl).seq (ch47.n.seq ((ch52.l rfl).seq ((ch55.l rfl).seq (hb58.n.seq (ch66.n.seq (ch67.n.seq hc71.n))))))))))
       have C75 := hb24.n.seq C74
       have C72 := ch2.n.seq (ch7.n.seq (ch12.n.seq (ch17.n.seq C75)))
       have C73 := cg [] (ch66.n.seq (ch67.n.seq hc71.n))
       have C76 := hb58.n.seq C73
       refine mid_j1 (g65) _ _ ⟨bH.ca C72, rfl, rfl, rfl, rfl, rfl, rfl, Rg.ca C73, Rr.ca C74, bx5.ca C73, bx10.cn hc71, bx15.cn hc71, bx20.ca C75, o53.ca C76, bx56.ca C76, ?_⟩
       show ¬ gI (bC g).1 a.1 = gI (bC g).1 b.1 ∨ (aU g r a).1 = (aU g r b).1
       exact .inr ‹_›
      refine ae rfl (congrArg Bool.not (df p12)) (a9 ?_)
      clear bx5 bx10 bx15 o53 bx56 o64
      refine a8 rfl (lw (vg [vi 0, vn]) (bn (vs := []) rfl (by kernel_rfl)) (lo ?_))
      have C80 := cg [5, 6] (hb24.n.seq (hb26.n.seq (ch33.n.seq (ch35.n.seq ((ch40.l rfl).seq (ch47.n.seq ((ch52.l rfl).seq ((ch55.l rfl).seq (hb58.n.seq (ch66.n.seq (ch67.n.seq hc71.n)))))))))))
      replace bx20 := bx20.ca C80
      refine aC (cs' := [vi 0, vn]) ak rfl rfl bx20 rfl (Nat.le_of_ble_eq_true rfl) (AllOne.all (.cons rfl (.cons rfl .nil))) rfl ?_
      intro w77 ch78 bx79
      clear bx20
      refine ma vn (ai 5 (aa (av (vs := [vg [vi 0, vn], vn, vi 5]) Try.func41 (.cell rfl (bk (ds := [vi 0, vn]) ak bx79 rfl rfl) (.tmp rfl (.tmp rfl .nil))) ?_)))
      have C81 := cg [4, 5, 6] (ch2.n.seq (ch7.n.seq (ch12.n.seq (ch17.n.seq (hb24.n.seq (hb26.n.seq (ch33.n.seq (ch35.n.seq ((ch40.l rfl).seq (ch47.n.seq ((ch52.l rfl).seq ((ch55.l rfl).seq (hb58.n.seq (ch66.n.seq (ch67.n.seq (hc71.n.seq (ch78.l rfl)))))))))))))))))
      replace bH := bH.ca C81
      have e0 : ((0, []) : (Int) × (List ((Int) × (Int)))) = ((bg g r a b).1) := by
        rw [lk hm hrp ‹_› ‹_› hlm ‹_› ‹_›]
      have e1 : ([] : bj) = ((bg g r a b).2.1) := by
        rw [lk hm hrp ‹_› ‹_› hlm ‹_› ‹_›]
      have e2 : (5 : Int) = ((bg g r a b).2.2) := by
        rw [lk hm hrp ‹_› ‹_› hlm ‹_› ‹_›]
      exact ⟨(fin w0 g65 (fun n => 0), vn, vn), (cq (a := (0, [])) (b := []) (c := 5) (fun (z0 : (Int) × (List ((Int) × (Int)))) (z1 : bj) (z2 : Int) => Ending.returned (vt [vg [vi z0.1, vn], vn, vi z2])) e0 e1 e2), bH.fresh _, ((congrArg (fun (z : (Int) × (List ((Int) × (Int)))) => z.2) e0) ▸ Ow.nil), (e1 ▸ cj.nil)⟩
     refine bv (wn (df q74)) (bv (wn (df q74)) (bv (wn (df q74)) (qv (Value.bool false) (fun w' hw' => b7 rfl (df q74) rfl) (cV ?_))))
     intro w82 hc83
     replace hc83 := aG hc83 g65
     refine ag rfl rfl (aj (a9 ?_))
     clear o64
     have C86 := cg [5, 6] (hb26.n.seq (ch33.n.seq (ch35.n.seq ((ch40.l rfl).seq (ch47.n.seq ((ch52.l rfl).seq ((ch55.l rfl).seq (hb58.n.seq (ch66.n.seq (ch67.n.seq hc83.n))))))))))
     have C87 := hb24.n.seq C86
     have C84 := ch2.n.seq (ch7.n.seq (ch12.n.seq (ch17.n.seq C87)))
     have C85 := cg [] (ch66.n.seq (ch67.n.seq hc83.n))
     have C88 := hb58.n.seq C85
     refine mid_j1 (g65) _ _ ⟨bH.ca C84, rfl, rfl, rfl, rfl, rfl, rfl, Rg.ca C85, Rr.ca C86, bx5.ca C85, bx10.cn hc83, bx15.cn hc83, bx20.ca C87, o53.ca C88, bx56.ca C88, ?_⟩
     show ¬ gI (bC g).1 a.1 = gI (bC g).1 b.1 ∨ (aU g r a).1 = (aU g r b).1
     exact .inl ‹_›
    clear Rg Rr bx5 bx10 bx15 bx20 o53 bx56 o64 bH
    rintro g91 f89 w90 ⟨bH, z92_1, z92_4, z92_6, z92_7, z92_8, z92_14, Rg, Rr, bx5, bx10, bx15, bx20, o53, bx56, hj_j1⟩
    have hca := (dm hm hrp (by assumption : (aU g r a).2 = 0)).1
    have hcb := (dm hm hrp (by assumption : (aU g r b).2 = 0)).1
    obtain ⟨ha1, ha2⟩ := hca.1
    obtain ⟨hb1, hb2⟩ := hcb.1
    have hpl := gG hm
    refine a8 rfl (lx (ad Try.underlying24 rfl rfl z92_4 rfl) (lx (af bo rfl bx5 rfl) ?_))
    have len93 := (Rg).small
    refine lx (aO Try.underlying22 rfl Rg) (ai (g.2.length : Int) (aa (a9 (a8 rfl (lx (ad Try.underlying24 rfl rfl z92_4 rfl) (lx (af am rfl bx5 rfl) (lo (qL (n := g.1) (cp := g.1) g91 9 Try.underlying26 aL rfl rfl rfl (by omega) (by omega) (by omega) (by omega) ?_))))))))
    intro g94 w95 v96 ch97 o98
    refine ma v96 (aa (a9 (a9 (a8 rfl (ai 0 (aa (ah ?_)))))))
    refine aN (σ := Nat × bj × aE) (fun ⟨v, out, gq⟩ f w => b9 w0 gq w ∧ f 1 = r_v ∧ f 4 = vp b3 0 ∧ f 6 = vp b8 0 ∧ f 7 = vp b13 0 ∧ f 8 = vp b18 0 ∧ f 14 = vp b36 0 ∧ f 17 = vi (g.2.length : Int) ∧ f 18 = v96 ∧ f 19 = vi (v : Int) ∧ Sl gq (is 0) w g_v g.2 ∧ Sl gq (is 0) w r_v r ∧ Bx gq (is 1) w b3 [vi g.1, g_v] ∧ Bx gq (is 2) w b8 [vi a.1, vi a.2] ∧ Bx gq (is 3) w b13 [vi b.1, vi b.2] ∧ Bx gq (is 4) w b18 [vi 0, vn] ∧ Ow gq (is 5) (is 5) w v51 (g.2 ++ ([(a.1, b.1)] : List ((Int) × (Int)))) ∧ Bx gq (is 6) w b36 [vi g.1, v51] ∧ lR gq 9 w v96 out ∧ (v : Int) ≤ (g.1 : Int) ∧ (out = List.map (fun l_ => l_) (List.take v r) ++ List.replicate (r.length - v) [])) (fun ⟨v, out, gq⟩ => Int.toNat ((g.1 : Int) - (v : Int))) (0, (List.replicate (Int.toNat g.1) []), g94) ?_ ?_
    · exact ⟨bH.cn ch97, z92_1, z92_4, z92_6, z92_7, z92_8, z92_14, rfl, rfl, rfl, Rg.cn ch97, Rr.cn ch97, bx5.cn ch97, bx10.cn ch97, bx15.cn ch97, bx20.cn ch97, o53.cn ch97, bx56.cn ch97, o98, by omega, by (rw [show (g.1.toNat) = r.length by omega]; simp)⟩
    clear Rg Rr bx5 bx10 bx15 bx20 o53 bx56 o98 bH
    rintro ⟨v, out, g101⟩ f99 w100 ⟨bH, zs1, zs4, zs6, zs7, zs8, zs14, zs17, zs18, zs19, Rg, Rr, bx5, bx10, bx15, bx20, o53, bx56, o98, hle_v, hinv⟩ back17
    have hol : out.length = r.length := by rw [hinv]; simp; omega
    refine a9 (a9 (a8 rfl (mz zs19 (lx (ad Try.underlying24 rfl rfl zs4 rfl) (lx (af am rfl bx5 rfl) (lx (bc (m := (v : Int)) (n := g.1) rfl rfl) (aa ?_)))))))
    by_cases p17 : (v : Int) < g.1
    ·
     refine ae rfl (dt p17) (aj (a9 (ah (a8 rfl (mz zs18 (mz zs19 (mz zs1 (mz zs19 (lx (ab (v := r_v) (i := (v : Int)) Try.underlying26 rfl rfl Rr rfl (by omega) (by omega)) ?_)))))))))
     obtain ⟨v102, cel103, r104⟩ := co (r := (v : Int)) Rr (by omega) (by omega)
     refine lx (aS aL rfl cel103) (lx (ab (v := v96) (i := (v : Int)) Try.underlying26 rfl rfl o98.sl rfl (by omega) (by omega)) (lo (oP (r := (v : Int)) aL rfl rfl o98 r104 rfl (by omega) (by omega) ?_)))
     intro w108 ch109 o110
     clear o98
     refine aa (ao ?_)
     clear r104
     refine a8 rfl (mz zs19 (lx (aQ (m := (v : Int)) (n := 1) rfl rfl (by omega)) (ai ((v : Int) + 1) (aa ?_))))
     refine back17 (v + 1, (List.set out (Int.toNat (v : Int)) (gI r (v : Int))), g101) _ _ ⟨bH.ce ch109, zs1, zs4, zs6, zs7, zs8, zs14, zs17, zs18, rfl, Rg.ce ch109, Rr.ce ch109, bx5.ce ch109, bx10.ce ch109, bx15.ce ch109, bx20.ce ch109, o53.ce ch109, bx56.ce ch109, o110, by omega, ?_⟩ ?_
     · show (List.set out (Int.toNat (v : Int)) (gI r (v : Int))) = List.map (fun l_ => l_) (List.take (v + 1) r) ++ List.replicate (r.length - (v + 1)) []
       rw [hinv]; exact j6 (by omega) rfl
     · show Int.toNat ((g.1 : Int) - ((v + 1) : Int)) < Int.toNat ((g.1 : Int) - (v : Int))
       omega
    refine ag rfl (df p17) (aI rfl (a9 (a9 ?_)))
    clear bx5
    have hor : out = r := by rw [hinv, show v = r.length by omega]; simp
    have hol : out.length = r.length := by rw [hor]
    refine a8 rfl (lx (aq (ds := [vi a.1, vi a.2]) gQ zs6 bx10 rfl rfl) (lx (aq (ds := [vi b.1, vi b.2]) gQ zs7 bx15 rfl rfl) (lw (Value.bool (decide (a = b))) (ji (bs := [decide (a.1 = b.1), decide (a.2 = b.2)]) Try.underlying55 (by kernel_rfl) (by kernel_rfl) rfl rfl (.cons (by decide +kernel) am rfl rfl (.int Try.underlying3) (.cons (by decide +kernel) am rfl rfl (.int Try.underlying3) .nil)) (by simp [Prod.ext_iff, Bool.decide_and, Bool.and_assoc])) (aa ?_))))
    by_cases p20 : a = b
    ·
     refine ae rfl (dt p20) ?_
     clear bx15
     refine cx g101 (bW [9, 11]) fI ?_
     intro w112 ch111
     refine ht (v := v96) 0 rfl (bq.refl _ _ _) (fun w' hw' => au zs18) (ht 1 rfl (bq.refl _ _ _) (fun w' hw' => ad Try.underlying55 rfl rfl zs6 rfl) ?_)
     replace bx10 := bx10.cn ch111
     refine ht 2 rfl (bq.refl _ _ _) (fun w' hw' => af am rfl (bx10.chg hw' (bQ rfl)) rfl) (ht (v := r_v) 3 rfl (bq.refl _ _ _) (fun w' hw' => au zs1) (ht 4 rfl (bq.refl _ _ _) (fun w' hw' => ad Try.underlying55 rfl rfl zs6 rfl) (ht 5 rfl (bq.refl _ _ _) (fun w' hw' => af am rfl (bx10.chg hw' (bQ rfl)) rfl) ?_)))
     replace Rr := Rr.cn ch111
     refine ht 6 rfl (bq.refl _ _ _) (fun w' hw' => ab (v := r_v) (i := a.1) Try.underlying26 rfl rfl (Rr.chg hw' (bQ rfl)) rfl (by omega) (by omega)) ?_
     obtain ⟨v113, cel114, r115⟩ := eM (r := a.1) Rr (by omega) (by omega)
     refine ht 7 rfl (bq.refl _ _ _) (fun w' hw' => aS aL rfl (cel114 _ w' (bQ rfl) hw')) (ht 8 rfl (bq.refl _ _ _) (fun w' hw' => ad Try.underlying55 rfl rfl zs6 rfl) (ht 9 rfl (bq.refl _ _ _) (fun w' hw' => af am rfl (bx10.chg hw' (bQ rfl)) rfl) (ht (v := vi (g.2.length : Int)) 10 rfl (bq.refl _ _ _) (fun w' hw' => au zs17) (ht 11 rfl (bq.refl _ _ _) (fun w' hw' => du (m := 2) (n := (g.2.length : Int)) rfl rfl (by omega)) (ht (v := vi (g.2.length : Int)) 12 rfl (bq.refl _ _ _) (fun w' hw' => au zs17) (ht 13 rfl (bq.refl _ _ _) (fun w' hw' => du (m := 2) (n := (g.2.length : Int)) rfl rfl (by omega)) (ht 14 rfl (bq.refl _ _ _) (fun w' hw' => aQ (m := 2 * (g.2.length : Int)) (n := 1) rfl rfl (by omega)) (aW 15 rfl (by kernel_rfl) rfl ?_))))))))
     refine aA (α := Int) g101 (is 10) (is 10) (10, 0) rfl ([2 * (g.2.length : Int), (2 * (g.2.length : Int)) + 1] : List Int) Try.underlying27 am (by decide) (by decide) (vs := [(0, vi (2 * (g.2.length : Int))), (1, vi ((2 * (g.2.length : Int)) + 1))]) rfl rfl (.cons rfl (.cons rfl .nil)) ?_
     intro g116 w117 v118 ch119 o120
     have hs121 : bq (bW [9, 11]) _ _ _ _ := ch119.n
     refine ⟨hs121.same, ?_⟩
     refine aW 16 rfl (by kernel_rfl) rfl (aV (aD (vals := [v113, vi a.2, v118]) Try.func83 gS gX rfl) (gV w117 (gI r a.1) v113 ((r115.ca hs121)).ro a.2 ([2 * (g.2.length : Int), (2 * (g.2.length : Int)) + 1] : List Int) v118 (o120.flat).ro (by (have h7 := iz hm hrp ha1 ha2; omega)) (by simp)) ?_)
     rintro ⟨d123, v125⟩ w122 ⟨fr124, o126⟩
     obtain ⟨g127, ch128, G127⟩ := dw g116 fr124 (fun n => if n = 1 then 11 else 0)
     replace o126 := o126.gl G127 11
     have hs129 := hs121.seq (ch128.n)
     refine ⟨hs129.same, ?_⟩
     refine aW 17 rfl (by kernel_rfl) rfl ?_
     have C130 := cg [] (ch111.n.seq (ch119.n.seq ch128.n))
     replace o98 := o98.ca C130
     refine aJ (v := Value.pointer (some (ba v96 1 (Int.toNat a.1)))) (ab (α := List Int) (xs := out) (v := v96) (i := a.1) Try.underlying26 rfl rfl o98.sl rfl (by omega) (by omega)) ?_
     refine ⟨hs129.same, ?_⟩
     refine aW 18 rfl (by kernel_rfl) rfl (dA (r := a.1) aL rfl rfl o98 o126 rfl rfl rfl (by omega) (by omega) ?_)
     intro g137 w134 ch135 o136
     clear o98 o126
     have hs138 := hs129.seq (ch135.l2 rfl rfl)
     refine ⟨hs138.same, ?_⟩
     refine cA (by kernel_rfl) (a9 ?_)
     clear bx10 r115 o120
     refine cx g137 (bW [4]) fI ?_
     intro w140 ch139
     have C141 := cg [9, 11] (ch111.n.seq (ch119.n.seq (ch128.n.seq ((ch135.l2 rfl rfl).seq ch139.n))))
     replace bx56 := bx56.ca C141
     refine ht 0 rfl (bq.refl _ _ _) (fun w' hw' => aq (ds := [vi g.1, v51]) ak zs14 (bx56.chg hw' (bQ rfl)) rfl rfl) (ht (v := v96) 1 rfl (bq.refl _ _ _) (fun w' hw' => au zs18) (aW 2 rfl (by kernel_rfl) rfl ?_))
     replace o136 := o136.cn ch139
     refine aV (aD (vals := [v96]) Try.func60 ln lP rfl) (gw w140 (List.set out (Int.toNat a.1) (ez (gI r a.1) a.2 ([2 * (g.2.length : Int), (2 * (g.2.length : Int)) + 1] : List Int))) v96 (o136.sl).ro) ?_
     rintro ⟨d143, v145⟩ w142 ⟨fr144, o146⟩
     obtain ⟨g147, ch148, G147⟩ := dw g137 fr144 (fun n => if n = 1 then 12 else 0)
     replace o146 := o146.gl G147 12
     have hs149 : bq (bW [4]) _ _ _ _ := ch148.n
     refine ⟨hs149.same, ?_⟩
     refine aW 3 rfl (by kernel_rfl) rfl ?_
     have C153 := cg [9, 11] (ch111.n.seq (ch119.n.seq (ch128.n.seq ((ch135.l2 rfl rfl).seq (ch139.n.seq ch148.n)))))
     replace bx20 := bx20.ca C153
     replace o53 := o53.ca C141
     refine aC (cs' := [vi g.1, v51]) ak zs8 rfl bx20 rfl (Nat.le_of_ble_eq_true rfl) (AllOne.all (.cons rfl (.cons (bm (o53.ca hs149).flat) .nil))) rfl ?_
     intro w150 ch151 bx152
     clear bx20
     have hs154 := hs149.seq (ch151.l rfl)
     refine ⟨hs154.same, ?_⟩
     refine ht (v := v145) 4 rfl hs154.same (fun w' hw' => bz rfl) (ht (v := vi 0) 5 rfl hs154.same (fun w' hw' => bz rfl) (cA (by kernel_rfl) (av (vs := [vg [vi g.1, v51], v145, vi 0]) Try.func41 (.cell zs8 (bk (ds := [vi g.1, v51]) ak bx152 rfl rfl) (.tmp rfl (.tmp rfl .nil))) ?_)))
     have C155 := cg [4, 9, 11] (ch111.n.seq (ch119.n.seq (ch128.n.seq ((ch135.l2 rfl rfl).seq (ch139.n.seq (ch148.n.seq (ch151.l rfl)))))))
     replace bH := bH.ca C155
     replace o53 := (o53.cn ch148).ce ch151
     replace o146 := o146.ce ch151
     have e0 : ((g.1, (g.2 ++ ([(a.1, b.1)] : List ((Int) × (Int))))) : (Int) × (List ((Int) × (Int)))) = ((bg g r a b).1) := by
       (rw [iF hm hrp ‹_› ‹_› hlm ‹_›]
        rfl)
     have e1 : (ct (List.set out (Int.toNat a.1) (ez (gI r a.1) a.2 ([2 * (g.2.length : Int), (2 * (g.2.length : Int)) + 1] : List Int))) : bj) = ((bg g r a b).2.1) := by
       (rw [iF hm hrp ‹_› ‹_› hlm ‹_›]
        (unfold eS; rw [if_pos ‹_›, ← qJ hm hrp hca, hor]; done))
     have e2 : (0 : Int) = ((bg g r a b).2.2) := by
       (rw [iF hm hrp ‹_› ‹_› hlm ‹_›]
        done)
     exact ⟨(fin w0 g147 (fun n => if n = 5 then 1 else if n = 12 then 2 else 0), v51, v145), (cq (a := (g.1, (g.2 ++ ([(a.1, b.1)] : List ((Int) × (Int)))))) (b := ct (List.set out (Int.toNat a.1) (ez (gI r a.1) a.2 ([2 * (g.2.length : Int), (2 * (g.2.length : Int)) + 1] : List Int)))) (c := 0) (fun (z0 : (Int) × (List ((Int) × (Int)))) (z1 : bj) (z2 : Int) => Ending.returned (vt [vg [vi z0.1, v51], v145, vi z2])) e0 e1 e2), bH.fresh _, ((congrArg (fun (z : (Int) × (List ((Int) × (Int)))) => z.2) e0) ▸ (o53.glue (γ := c0) (ren := (fun n => if n = 5 then 1 else if n = 12 then 2 else 0)) (k := 1) bH.col rfl rfl)), (e1 ▸ (o146.glue (γ := c0) (ren := (fun n => if n = 5 then 1 else if n = 12 then 2 else 0)) (k := 2) bH.col rfl rfl))⟩
    refine ag rfl (df p20) (a9 ?_)
    refine el (σ := aE) (fun gq f w => b9 w0 gq w ∧ f 7 = vp b13 0 ∧ f 8 = vp b18 0 ∧ f 14 = vp b36 0 ∧ f 17 = vi (g.2.length : Int) ∧ f 18 = v96 ∧ Sl gq (is 0) w g_v g.2 ∧ Sl gq (is 0) w r_v r ∧ Bx gq (is 3) w b13 [vi b.1, vi b.2] ∧ Bx gq (is 4) w b18 [vi 0, vn] ∧ Ow gq (is 5) (is 5) w v51 (g.2 ++ ([(a.1, b.1)] : List ((Int) × (Int)))) ∧ Bx gq (is 6) w b36 [vi g.1, v51] ∧ lR gq 9 w v96 (List.set out (Int.toNat a.1) (ez (gI out a.1) a.2 ([2 * (g.2.length : Int)] : List Int)))) g101 [0, 1, 3, 4, 5, 6, 7, 8, 9, 10, 11, 14] fI ?_ ?_
    ·
     intro mid
     intro w157 ch156
     refine xp (v := v96) 0 rfl (fun w => au zs18) (xp 1 rfl (fun w => ad Try.underlying55 rfl rfl zs6 rfl) (xp (v := v96) 3 rfl (fun w => au zs18) (xp 4 rfl (fun w => ad Try.underlying55 rfl rfl zs6 rfl) ?_)))
     replace bx10 := bx10.cn ch156
     refine xh 5 [4, 3, 1, 0, 2, 8, 10, 9, 11, 12] rfl (fun w' hw' => af am rfl (bx10.bel hw') rfl) ?_
     replace o98 := o98.cn ch156
     refine xh 6 [5, 4, 3, 1, 0, 2, 8, 10, 9, 11, 12] rfl (fun w' hw' => ab (v := v96) (i := a.1) Try.underlying26 rfl rfl (o98.sl.bel hw') rfl (by omega) (by omega)) ?_
     obtain ⟨v158, cel159, r160⟩ := co (r := a.1) o98.sl (by omega) (by omega)
     refine xh 7 [6, 5, 4, 3, 1, 0, 2, 8, 10, 9, 11, 12] rfl (fun w' hw' => aS aL rfl (cX cel159 hw')) (xp 8 rfl (fun w => ad Try.underlying55 rfl rfl zs6 rfl) (xh 9 [8, 7, 6, 5, 4, 3, 1, 0, 2, 10, 11, 12] rfl (fun w' hw' => af am rfl (bx10.bel hw') rfl) (xp (v := vi (g.2.length : Int)) 10 rfl (fun w => au zs17) (xp 11 rfl (fun w => du (m := 2) (n := (g.2.length : Int)) rfl rfl (by omega)) ?_))))
     refine gB 2 12 rfl rfl (by kernel_rfl) rfl rfl ?_ ?_
     ·
      refine aJ (v := vi a.1) (af am rfl bx10 rfl) (bM 12 rfl (by kernel_rfl) rfl (aA (α := Int) g101 (is 13) (is 13) (13, 0) rfl ([2 * (g.2.length : Int)] : List Int) Try.underlying27 am (by decide) (by decide) (vs := [(0, vi (2 * (g.2.length : Int)))]) rfl rfl (.cons rfl .nil) ?_))
      intro g161 w162 v163 ch164 o165
      replace r160 := r160.cn ch164
      refine bM 13 rfl (by kernel_rfl) rfl (aV (aD (vals := [v158, vi a.2, v163]) Try.func83 gS gX rfl) (gV w162 (gI out a.1) v158 (r160).ro a.2 ([2 * (g.2.length : Int)] : List Int) v163 (o165.flat).ro (by (rw [hor]; have h7 := iz hm hrp ha1 ha2; omega)) (by simp)) ?_)
      rintro ⟨d167, v169⟩ w166 ⟨fr168, o170⟩
      obtain ⟨g171, ch172, G171⟩ := dw g161 fr168 (fun n => if n = 1 then 14 else 0)
      replace o170 := o170.gl G171 14
      replace o98 := (o98.cn ch164).cn ch172
      refine xv 14 [13, 12, 2, 11, 10, 9, 8, 7, 6, 5, 4, 3, 1, 0] rfl (ab (v := v96) (i := a.1) Try.underlying26 rfl rfl o98.sl rfl (by omega) (by omega)) (bM 15 rfl (by kernel_rfl) rfl (dA (r := a.1) aL rfl rfl o98 o170 rfl rfl rfl (by omega) (by omega) ?_))
      intro g179 w176 ch177 o178
      clear o98 r160 o170
      refine cO (by kernel_rfl) ?_
      have C180 := cg [9, 14] (ch156.n.seq (ch164.n.seq (ch172.n.seq (ch177.l2 rfl rfl))))
      exact mid (g179) _ _ ⟨bH.ca C180, zs7, zs8, zs14, zs17, zs18, Rg.ca C180, Rr.ca C180, bx15.ca C180, bx20.ca C180, o53.ca C180, bx56.ca C180, o178⟩
     ·
      refine aA (α := Int) g101 (is 13) (is 13) (13, 0) rfl ([2 * (g.2.length : Int)] : List Int) Try.underlying27 am (by decide) (by decide) (vs := [(0, vi (2 * (g.2.length : Int)))]) rfl rfl (.cons rfl .nil) ?_
      intro g181 w182 v183 ch184 o185
      refine gB 2 13 rfl rfl (by kernel_rfl) rfl rfl ?_ ?_
      ·
       replace bx10 := bx10.cn ch184
       refine aJ (v := vi a.1) (af am rfl bx10 rfl) ?_
       replace r160 := r160.cn ch184
       refine bM 13 rfl (by kernel_rfl) rfl (aV (aD (vals := [v158, vi a.2, v183]) Try.func83 gS gX rfl) (gV w182 (gI out a.1) v158 (r160).ro a.2 ([2 * (g.2.length : Int)] : List Int) v183 (o185.flat).ro (by (rw [hor]; have h7 := iz hm hrp ha1 ha2; omega)) (by simp)) ?_)
       rintro ⟨d187, v189⟩ w186 ⟨fr188, o190⟩
       obtain ⟨g191, ch192, G191⟩ := dw g181 fr188 (fun n => if n = 1 then 14 else 0)
       replace o190 := o190.gl G191 14
       replace o98 := (o98.cn ch184).cn ch192
       refine xv 14 [13, 2, 12, 11, 10, 9, 8, 7, 6, 5, 4, 3, 1, 0] rfl (ab (v := v96) (i := a.1) Try.underlying26 rfl rfl o98.sl rfl (by omega) (by omega)) (bM 15 rfl (by kernel_rfl) rfl (dA (r := a.1) aL rfl rfl o98 o190 rfl rfl rfl (by omega) (by omega) ?_))
       intro g199 w196 ch197 o198
       clear o98 r160 o190
       refine cO (by kernel_rfl) ?_
       have C200 := cg [9, 14] (ch156.n.seq (ch184.n.seq (ch192.n.seq (ch197.l2 rfl rfl))))
       exact mid (g199) _ _ ⟨bH.ca C200, zs7, zs8, zs14, zs17, zs18, Rg.ca C200, Rr.ca C200, bx15.ca C200, bx20.ca C200, o53.ca C200, bx56.ca C200, o198⟩
      ·
       replace r160 := r160.cn ch184
       refine aV (aD (vals := [v158, vi a.2, v183]) Try.func83 gS gX rfl) (gV w182 (gI out a.1) v158 (r160).ro a.2 ([2 * (g.2.length : Int)] : List Int) v183 (o185.flat).ro (by (rw [hor]; have h7 := iz hm hrp ha1 ha2; omega)) (by simp)) ?_
       rintro ⟨d202, v204⟩ w201 ⟨fr203, o205⟩
       obtain ⟨g206, ch207, G206⟩ := dw g181 fr203 (fun n => if n = 1 then 14 else 0)
       replace o205 := o205.gl G206 14
       replace bx10 := (bx10.cn ch184).cn ch207
       refine bM 2 rfl (by kernel_rfl) rfl (aJ (v := vi a.1) (af am rfl bx10 rfl) ?_)
       replace o98 := (o98.cn ch184).cn ch207
       refine xv 14 [2, 13, 12, 11, 10, 9, 8, 7, 6, 5, 4, 3, 1, 0] rfl (ab (v := v96) (i := a.1) Try.underlying26 rfl rfl o98.sl rfl (by omega) (by omega)) (bM 15 rfl (by kernel_rfl) rfl (dA (r := a.1) aL rfl rfl o98 o205 rfl rfl rfl (by omega) (by omega) ?_))
       intro g214 w211 ch212 o213
       clear o98 r160 o205
       refine cO (by kernel_rfl) ?_
       have C215 := cg [9, 14] (ch156.n.seq (ch184.n.seq (ch207.n.seq (ch212.l2 rfl rfl))))
       exact mid (g214) _ _ ⟨bH.ca C215, zs7, zs8, zs14, zs17, zs18, Rg.ca C215, Rr.ca C215, bx15.ca C215, bx20.ca C215, o53.ca C215, bx56.ca C215, o213⟩
    clear Rg Rr bx10 bx15 bx20 o53 bx56 o98 bH
    rintro g218 f216 w217 ⟨bH, zs7, zs8, zs14, zs17, zs18, Rg, Rr, bx15, bx20, o53, bx56, o176⟩
    have e22 : List.set out (Int.toNat a.1) (ez (gI out a.1) a.2 [2 * (g.2.length : Int)]) = eX r a [2 * (g.2.length : Int)] := by rw [hor]; exact rD hm hrp hca
    refine el (σ := aE) (fun gq f w => b9 w0 gq w ∧ f 8 = vp b18 0 ∧ f 14 = vp b36 0 ∧ f 18 = v96 ∧ Sl gq (is 0) w g_v g.2 ∧ Sl gq (is 0) w r_v r ∧ Bx gq (is 4) w b18 [vi 0, vn] ∧ Ow gq (is 5) (is 5) w v51 (g.2 ++ ([(a.1, b.1)] : List ((Int) × (Int)))) ∧ Bx gq (is 6) w b36 [vi g.1, v51] ∧ lR gq 9 w v96 (List.set (List.set out (Int.toNat a.1) (ez (gI out a.1) a.2 ([2 * (g.2.length : Int)] : List Int))) (Int.toNat b.1) (ez (gI (List.set out (Int.toNat a.1) (ez (gI out a.1) a.2 ([2 * (g.2.length : Int)] : List Int))) b.1) b.2 ([(2 * (g.2.length : Int)) + 1] : List Int)))) g218 [0, 1, 3, 4, 5, 6, 7, 8, 9, 10, 11, 12, 15] fI ?_ ?_
    ·
     intro mid
     intro w220 ch219
     refine xp (v := v96) 0 rfl (fun w => au zs18) (xp 1 rfl (fun w => ad Try.underlying55 rfl rfl zs7 rfl) (xp (v := v96) 3 rfl (fun w => au zs18) (xp 4 rfl (fun w => ad Try.underlying55 rfl rfl zs7 rfl) ?_)))
     replace bx15 := bx15.cn ch219
     refine xh 5 [4, 3, 1, 0, 2, 8, 10, 9, 11, 12, 13] rfl (fun w' hw' => af am rfl (bx15.bel hw') rfl) ?_
     replace o176 := o176.cn ch219
     refine xh 6 [5, 4, 3, 1, 0, 2, 8, 10, 9, 11, 12, 13] rfl (fun w' hw' => ab (v := v96) (i := b.1) Try.underlying26 rfl rfl (o176.sl.bel hw') rfl (by omega) (by (simp only [List.length_set, List.length_append, List.length_cons, List.length_nil, List.length_replicate, List.length_map, List.length_take, List.length_drop]; omega))) ?_
     obtain ⟨v221, cel222, r223⟩ := co (r := b.1) o176.sl (by omega) (by (simp only [List.length_set, List.length_append, List.length_cons, List.length_nil, List.length_replicate, List.length_map, List.length_take, List.length_drop]; omega))
     refine xh 7 [6, 5, 4, 3, 1, 0, 2, 8, 10, 9, 11, 12, 13] rfl (fun w' hw' => aS aL rfl (cX cel222 hw')) (xp 8 rfl (fun w => ad Try.underlying55 rfl rfl zs7 rfl) (xh 9 [8, 7, 6, 5, 4, 3, 1, 0, 2, 10, 11, 12, 13] rfl (fun w' hw' => af am rfl (bx15.bel hw') rfl) (xp (v := vi (g.2.length : Int)) 10 rfl (fun w => au zs17) (xp 11 rfl (fun w => du (m := 2) (n := (g.2.length : Int)) rfl rfl (by omega)) (xp 12 rfl (fun w => aQ (m := 2 * (g.2.length : Int)) (n := 1) rfl rfl (by omega)) ?_)))))
     refine gB 2 13 rfl rfl (by kernel_rfl) rfl rfl ?_ ?_
     ·
      refine aJ (v := vi b.1) (af am rfl bx15 rfl) (bM 13 rfl (by kernel_rfl) rfl (aA (α := Int) g218 (is 15) (is 15) (15, 0) rfl ([(2 * (g.2.length : Int)) + 1] : List Int) Try.underlying27 am (by decide) (by decide) (vs := [(0, vi ((2 * (g.2.length : Int)) + 1))]) rfl rfl (.cons rfl .nil) ?_))
      intro g224 w225 v226 ch227 o228
      replace r223 := r223.cn ch227
      refine bM 14 rfl (by kernel_rfl) rfl (aV (aD (vals := [v221, vi b.2, v226]) Try.func83 gS gX rfl) (gV w225 (gI (List.set out (Int.toNat a.1) (ez (gI out a.1) a.2 ([2 * (g.2.length : Int)] : List Int))) b.1) v221 (r223).ro b.2 ([(2 * (g.2.length : Int)) + 1] : List Int) v226 (o228.flat).ro (by (rw [e22]; exact kW hm hrp hca hcb _)) (by simp)) ?_)
      rintro ⟨d230, v232⟩ w229 ⟨fr231, o233⟩
      obtain ⟨g234, ch235, G234⟩ := dw g224 fr231 (fun n => if n = 1 then 16 else 0)
      replace o233 := o233.gl G234 16
      replace o176 := (o176.cn ch227).cn ch235
      refine xv 15 [14, 13, 2, 12, 11, 10, 9, 8, 7, 6, 5, 4, 3, 1, 0] rfl (ab (v := v96) (i := b.1) Try.underlying26 rfl rfl o176.sl rfl (by omega) (by (simp only [List.length_set, List.length_append, List.length_cons, List.length_nil, List.length_replicate, List.length_map, List.length_take, List.length_drop]; omega))) (bM 16 rfl (by kernel_rfl) rfl (dA (r := b.1) aL rfl rfl o176 o233 rfl rfl rfl (by omega) (by (simp only [List.length_set, List.length_append, List.length_cons, List.length_nil, List.length_replicate, List.length_map, List.length_take, List.length_drop]; omega)) ?_))
      intro g242 w239 ch240 o241
      clear o176 r223 o233
      refine cO (by kernel_rfl) ?_
      have C243 := cg [9, 16] (ch219.n.seq (ch227.n.seq (ch235.n.seq (ch240.l2 rfl rfl))))
      exact mid (g242) _ _ ⟨bH.ca C243, zs8, zs14, zs18, Rg.ca C243, Rr.ca C243, bx20.ca C243, o53.ca C243, bx56.ca C243, o241⟩
     ·
      refine aA (α := Int) g218 (is 15) (is 15) (15, 0) rfl ([(2 * (g.2.length : Int)) + 1] : List Int) Try.underlying27 am (by decide) (by decide) (vs := [(0, vi ((2 * (g.2.length : Int)) + 1))]) rfl rfl (.cons rfl .nil) ?_
      intro g244 w245 v246 ch247 o248
      refine gB 2 14 rfl rfl (by kernel_rfl) rfl rfl ?_ ?_
      ·
       replace bx15 := bx15.cn ch247
       refine aJ (v := vi b.1) (af am rfl bx15 rfl) ?_
       replace r223 := r223.cn ch247
       refine bM 14 rfl (by kernel_rfl) rfl (aV (aD (vals := [v221, vi b.2, v246]) Try.func83 gS gX rfl) (gV w245 (gI (List.set out (Int.toNat a.1) (ez (gI out a.1) a.2 ([2 * (g.2.length : Int)] : List Int))) b.1) v221 (r223).ro b.2 ([(2 * (g.2.length : Int)) + 1] : List Int) v246 (o248.flat).ro (by (rw [e22]; exact kW hm hrp hca hcb _)) (by simp)) ?_)
       rintro ⟨d250, v252⟩ w249 ⟨fr251, o253⟩
       obtain ⟨g254, ch255, G254⟩ := dw g244 fr251 (fun n => if n = 1 then 16 else 0)
       replace o253 := o253.gl G254 16
       replace o176 := (o176.cn ch247).cn ch255
       refine xv 15 [14, 2, 13, 12, 11, 10, 9, 8, 7, 6, 5, 4, 3, 1, 0] rfl (ab (v := v96) (i := b.1) Try.underlying26 rfl rfl o176.sl rfl (by omega) (by (simp only [List.length_set, List.length_append, List.length_cons, List.length_nil, List.length_replicate, List.length_map, List.length_take, List.length_drop]; omega))) (bM 16 rfl (by kernel_rfl) rfl (dA (r := b.1) aL rfl rfl o176 o253 rfl rfl rfl (by omega) (by (simp only [List.length_set, List.length_append, List.length_cons, List.length_nil, List.length_replicate, List.length_map, List.length_take, List.length_drop]; omega)) ?_))
       intro g262 w259 ch260 o261
       clear o176 r223 o253
       refine cO (by kernel_rfl) ?_
       have C263 := cg [9, 16] (ch219.n.seq (ch247.n.seq (ch255.n.seq (ch260.l2 rfl rfl))))
       exact mid (g262) _ _ ⟨bH.ca C263, zs8, zs14, zs18, Rg.ca C263, Rr.ca C263, bx20.ca C263, o53.ca C263, bx56.ca C263, o261⟩
      ·
       replace r223 := r223.cn ch247
       refine aV (aD (vals := [v221, vi b.2, v246]) Try.func83 gS gX rfl) (gV w245 (gI (List.set out (Int.toNat a.1) (ez (gI out a.1) a.2 ([2 * (g.2.length : Int)] : List Int))) b.1) v221 (r223).ro b.2 ([(2 * (g.2.length : Int)) + 1] : List Int) v246 (o248.flat).ro (by (rw [e22]; exact kW hm hrp hca hcb _)) (by simp)) ?_
       rintro ⟨d265, v267⟩ w264 ⟨fr266, o268⟩
       obtain ⟨g269, ch270, G269⟩ := dw g244 fr266 (fun n => if n = 1 then 16 else 0)
       replace o268 := o268.gl G269 16
       replace bx15 := (bx15.cn ch247).cn ch270
       refine bM 2 rfl (by kernel_rfl) rfl (aJ (v := vi b.1) (af am rfl bx15 rfl) ?_)
       replace o176 := (o176.cn ch247).cn ch270
       refine xv 15 [2, 14, 13, 12, 11, 10, 9, 8, 7, 6, 5, 4, 3, 1, 0] rfl (ab (v := v96) (i := b.1) Try.underlying26 rfl rfl o176.sl rfl (by omega) (by (simp only [List.length_set, List.length_append, List.length_cons, List.length_nil, List.length_replicate, List.length_map, List.length_take, List.length_drop]; omega))) (bM 16 rfl (by kernel_rfl) rfl (dA (r := b.1) aL rfl rfl o176 o268 rfl rfl rfl (by omega) (by (simp only [List.length_set, List.length_append, List.length_cons, List.length_nil, List.length_replicate, List.length_map, List.length_take, List.length_drop]; omega)) ?_))
       intro g277 w274 ch275 o276
       clear o176 r223 o268
       refine cO (by kernel_rfl) ?_
       have C278 := cg [9, 16] (ch219.n.seq (ch247.n.seq (ch270.n.seq (ch275.l2 rfl rfl))))
       exact mid (g277) _ _ ⟨bH.ca C278, zs8, zs14, zs18, Rg.ca C278, Rr.ca C278, bx20.ca C278, o53.ca C278, bx56.ca C278, o276⟩
    clear Rg Rr bx15 bx20 o53 bx56 o176 bH
    rintro g281 f279 w280 ⟨bH, zs8, zs14, zs18, Rg, Rr, bx20, o53, bx56, o239⟩
    refine a9 (cx g281 (bW [4]) fI ?_)
    intro w283 ch282
    replace bx56 := bx56.cn ch282
    refine ht 0 rfl (bq.refl _ _ _) (fun w' hw' => aq (ds := [vi g.1, v51]) ak zs14 (bx56.chg hw' (bQ rfl)) rfl rfl) (ht (v := v96) 1 rfl (bq.refl _ _ _) (fun w' hw' => au zs18) (aW 2 rfl (by kernel_rfl) rfl ?_))
    replace o239 := o239.cn ch282
    refine aV (aD (vals := [v96]) Try.func60 ln lP rfl) (gw w283 (List.set (List.set out (Int.toNat a.1) (ez (gI out a.1) a.2 ([2 * (g.2.length : Int)] : List Int))) (Int.toNat b.1) (ez (gI (List.set out (Int.toNat a.1) (ez (gI out a.1) a.2 ([2 * (g.2.length : Int)] : List Int))) b.1) b.2 ([(2 * (g.2.length : Int)) + 1] : List Int))) v96 (o239.sl).ro) ?_
    rintro ⟨d285, v287⟩ w284 ⟨fr286, o288⟩
    obtain ⟨g289, ch290, G289⟩ := dw g281 fr286 (fun n => if n = 1 then 12 else 0)
    replace o288 := o288.gl G289 12
    have hs291 : bq (bW [4]) _ _ _ _ := ch290.n
    refine ⟨hs291.same, ?_⟩
    refine aW 3 rfl (by kernel_rfl) rfl ?_
    replace bx20 := (bx20.cn ch282).cn ch290
    replace o53 := o53.cn ch282
    refine aC (cs' := [vi g.1, v51]) ak zs8 rfl bx20 rfl (Nat.le_of_ble_eq_true rfl) (AllOne.all (.cons rfl (.cons (bm (o53.ca hs291).flat) .nil))) rfl ?_
    intro w292 ch293 bx294
    clear bx20
    have hs295 := hs291.seq (ch293.l rfl)
    refine ⟨hs295.same, ?_⟩
    refine ht (v := v287) 4 rfl hs295.same (fun w' hw' => bz rfl) (ht (v := vi 0) 5 rfl hs295.same (fun w' hw' => bz rfl) (cA (by kernel_rfl) (av (vs := [vg [vi g.1, v51], v287, vi 0]) Try.func41 (.cell zs8 (bk (ds := [vi g.1, v51]) ak bx294 rfl rfl) (.tmp rfl (.tmp rfl .nil))) ?_)))
    have C296 := cg [4] (ch282.n.seq (ch290.n.seq (ch293.l rfl)))
    replace bH := bH.ca C296
    replace o53 := (o53.cn ch290).ce ch293
    replace o288 := o288.ce ch293
    have e0 : ((g.1, (g.2 ++ ([(a.1, b.1)] : List ((Int) × (Int))))) : (Int) × (List ((Int) × (Int)))) = ((bg g r a b).1) := by
      (rw [iF hm hrp ‹_› ‹_› hlm ‹_›]
       rfl)
    have e1 : (ct (List.set (List.set out (Int.toNat a.1) (ez (gI out a.1) a.2 ([2 * (g.2.length : Int)] : List Int))) (Int.toNat b.1) (ez (gI (List.set out (Int.toNat a.1) (ez (gI out a.1) a.2 ([2 * (g.2.length : Int)] : List Int))) b.1) b.2 ([(2 * (g.2.length : Int)) + 1] : List Int))) : bj) = ((bg g r a b).2.1) := by
      (rw [iF hm hrp ‹_› ‹_› hlm ‹_›]
       (unfold eS; rw [if_neg ‹_›, ← rG hm hrp hca hcb ‹_›, e22]; done))
    have e2 : (0 : Int) = ((bg g r a b).2.2) := by
      (rw [iF hm hrp ‹_› ‹_› hlm ‹_›]
       done)
    exact ⟨(fin w0 g289 (fun n => if n = 5 then 1 else if n = 12 then 2 else 0), v51, v287), (cq (a := (g.1, (g.2 ++ ([(a.1, b.1)] : List ((Int) × (Int)))))) (b := ct (List.set (List.set out (Int.toNat a.1) (ez (gI out a.1) a.2 ([2 * (g.2.length : Int)] : List Int))) (Int.toNat b.1) (ez (gI (List.set out (Int.toNat a.1) (ez (gI out a.1) a.2 ([2 * (g.2.length : Int)] : List Int))) b.1) b.2 ([(2 * (g.2.length : Int)) + 1] : List Int)))) (c := 0) (fun (z0 : (Int) × (List ((Int) × (Int)))) (z1 : bj) (z2 : Int) => Ending.returned (vt [vg [vi z0.1, v51], v287, vi z2])) e0 e1 e2), bH.fresh _, ((congrArg (fun (z : (Int) × (List ((Int) × (Int)))) => z.2) e0) ▸ (o53.glue (γ := c0) (ren := (fun n => if n = 5 then 1 else if n = 12 then 2 else 0)) (k := 1) bH.col rfl rfl)), (e1 ▸ (o288.glue (γ := c0) (ren := (fun n => if n = 5 then 1 else if n = 12 then 2 else 0)) (k := 2) bH.col rfl rfl))⟩
   have hln : ¬ bx (dR g a b) := fun h => p9 (dt h)
   refine ae rfl (congrArg Bool.not (Bool.eq_false_iff.2 p9)) (a9 ?_)
   clear bx5 bx10 bx15 o53 bx56
   refine a8 rfl (lw (vg [vi 0, vn]) (bn (vs := []) rfl (by kernel_rfl)) (lo ?_))
   have C300 := cg [5, 6] (hb24.n.seq (hb26.n.seq (ch33.n.seq (ch35.n.seq ((ch40.l rfl).seq (ch47.n.seq ((ch52.l rfl).seq ((ch55.l rfl).seq hb58.n))))))))
   replace bx20 := bx20.ca C300
   refine aC (cs' := [vi 0, vn]) ak rfl rfl bx20 rfl (Nat.le_of_ble_eq_true rfl) (AllOne.all (.cons rfl (.cons rfl .nil))) rfl ?_
   intro w297 ch298 bx299
   clear bx20
   refine ma vn (ai 3 (aa (av (vs := [vg [vi 0, vn], vn, vi 3]) Try.func41 (.cell rfl (bk (ds := [vi 0, vn]) ak bx299 rfl rfl) (.tmp rfl (.tmp rfl .nil))) ?_)))
   have C301 := cg [4, 5, 6] (ch2.n.seq (ch7.n.seq (ch12.n.seq (ch17.n.seq (hb24.n.seq (hb26.n.seq (ch33.n.seq (ch35.n.seq ((ch40.l rfl).seq (ch47.n.seq ((ch52.l rfl).seq ((ch55.l rfl).seq (hb58.n.seq (ch298.l rfl))))))))))))))
   replace bH := bH.ca C301
   have e0 : ((0, []) : (Int) × (List ((Int) × (Int)))) = ((bg g r a b).1) := by
     rw [lg hm hrp ‹_› ‹_› hln]
   have e1 : ([] : bj) = ((bg g r a b).2.1) := by
     rw [lg hm hrp ‹_› ‹_› hln]
   have e2 : (3 : Int) = ((bg g r a b).2.2) := by
     rw [lg hm hrp ‹_› ‹_› hln]
   exact ⟨(fin w0 g49 (fun n => 0), vn, vn), (cq (a := (0, [])) (b := []) (c := 3) (fun (z0 : (Int) × (List ((Int) × (Int)))) (z1 : bj) (z2 : Int) => Ending.returned (vt [vg [vi z0.1, vn], vn, vi z2])) e0 e1 e2), bH.fresh _, ((congrArg (fun (z : (Int) × (List ((Int) × (Int)))) => z.2) e0) ▸ Ow.nil), (e1 ▸ cj.nil)⟩
  refine ae rfl (congrArg Bool.not (df p5)) (a9 ?_)
  clear bx5 bx10 bx15
  refine a8 rfl (lw (vg [vi 0, vn]) (bn (vs := []) rfl (by kernel_rfl)) (mi ((aU g r b).2) (lo ?_)))
  replace bx20 := (bx20.cn hb24).cn hb26
  refine aC (cs' := [vi 0, vn]) ak rfl rfl bx20 rfl (Nat.le_of_ble_eq_true rfl) (AllOne.all (.cons rfl (.cons rfl .nil))) rfl ?_
  intro w302 ch303 bx304
  clear bx20
  refine ma vn (ai ((aU g r b).2) (aa (av (vs := [vg [vi 0, vn], vn, vi ((aU g r b).2)]) Try.func41 (.cell rfl (bk (ds := [vi 0, vn]) ak bx304 rfl rfl) (.tmp rfl (.tmp rfl .nil))) ?_)))
  have C305 := cg [4] (ch2.n.seq (ch7.n.seq (ch12.n.seq (ch17.n.seq (hb24.n.seq (hb26.n.seq (ch303.l rfl)))))))
  replace bH := bH.ca C305
  have e0 : ((0, []) : (Int) × (List ((Int) × (Int)))) = ((bg g r a b).1) := by
    rw [lD hm hrp ‹_›]
  have e1 : ([] : bj) = ((bg g r a b).2.1) := by
    rw [lD hm hrp ‹_›]
  have e2 : ((aU g r b).2 : Int) = ((bg g r a b).2.2) := by
    rw [lD hm hrp ‹_›]
  exact ⟨(fin w0 g19 (fun n => 0), vn, vn), (cq (a := (0, [])) (b := []) (c := (aU g r b).2) (fun (z0 : (Int) × (List ((Int) × (Int)))) (z1 : bj) (z2 : Int) => Ending.returned (vt [vg [vi z0.1, vn], vn, vi z2])) e0 e1 e2), bH.fresh _, ((congrArg (fun (z : (Int) × (List ((Int) × (Int)))) => z.2) e0) ▸ Ow.nil), (e1 ▸ cj.nil)⟩
 refine ae rfl (congrArg Bool.not (df p2)) (a9 ?_)
 clear bx5 bx10 bx15
 refine a8 rfl (lw (vg [vi 0, vn]) (bn (vs := []) rfl (by kernel_rfl)) (mi ((aU g r a).2) (lo ?_)))
 replace bx20 := bx20.cn hb24
 refine aC (cs' := [vi 0, vn]) ak rfl rfl bx20 rfl (Nat.le_of_ble_eq_true rfl) (AllOne.all (.cons rfl (.cons rfl .nil))) rfl ?_
 intro w306 ch307 bx308
 clear bx20
 refine ma vn (ai ((aU g r a).2) (aa (av (vs := [vg [vi 0, vn], vn, vi ((aU g r a).2)]) Try.func41 (.cell rfl (bk (ds := [vi 0, vn]) ak bx308 rfl rfl) (.tmp rfl (.tmp rfl .nil))) ?_)))
 have C309 := cg [4] (ch2.n.seq (ch7.n.seq (ch12.n.seq (ch17.n.seq (hb24.n.seq (ch307.l rfl))))))
 replace bH := bH.ca C309
 have e0 : ((0, []) : (Int) × (List ((Int) × (Int)))) = ((bg g r a b).1) := by
   rw [l6 hm hrp ‹_›]
 have e1 : ([] : bj) = ((bg g r a b).2.1) := by
   rw [l6 hm hrp ‹_›]
 have e2 : ((aU g r a).2 : Int) = ((bg g r a b).2.2) := by
   rw [l6 hm hrp ‹_›]
 exact ⟨(fin w0 g19 (fun n => 0), vn, vn), (cq (a := (0, [])) (b := []) (c := (aU g r a).2) (fun (z0 : (Int) × (List ((Int) × (Int)))) (z1 : bj) (z2 : Int) => Ending.returned (vt [vg [vi z0.1, vn], vn, vi z2])) e0 e1 e2), bH.fresh _, ((congrArg (fun (z : (Int) × (List ((Int) × (Int)))) => z.2) e0) ▸ Ow.nil), (e1 ▸ cj.nil)⟩
theorem sg (w0 : World) (g : (Int) × (List ((Int) × (Int)))) (g_v : Value) (hg_v : Ro w0 g_v g.2) (r : bj) (r_v : Value) (hr_v : Ro w0 r_v r) (c : (Int) × (Int)) :
    Calls Try.prog 36 #[vg [vi g.1, g_v], r_v, vg [vi c.1, vi c.2]] w0 (fun ee w => ee = .returned (vt [vi ((aU g r c).1), vi ((aU g r c).2)]) ∧ dH w0.heap.size w0 w) := by
 refine az Try.func36 rfl (Nat.le_of_ble_eq_true rfl) ?_
 have bH := b9.start w0
 have Rg := hg_v.sl
 have Rr := hr_v.sl
 refine a9 (a8 rfl (cr rfl (bR c0 (is 1) (1, 0) rfl rfl ?_)))
 intro g4 w1 b3 ch2 bx5
 replace bx5 : Bx g4 (is 1) w1 b3 [vi g.1, g_v] := bx5
 refine lo (bR g4 (is 2) (2, 0) rfl rfl ?_)
 intro g9 w6 b8 ch7 bx10
 replace bx10 : Bx g9 (is 2) w6 b8 [vi c.1, vi c.2] := bx10
 refine ai 0 (ai 0 (aa (a9 (a8 rfl ?_))))
 replace bx5 := bx5.cn ch7
 refine lx (aq (ds := [vi g.1, g_v]) ak rfl bx5 rfl rfl) (mv r_v ?_)
 replace Rg := (Rg.cn ch2).cn ch7
 replace Rr := (Rr.cn ch2).cn ch7
 refine lo (aV (aD (vals := [vg [vi g.1, g_v], r_v]) Try.func47 kI kL rfl) (jh w6 g g_v (Rg).ro r r_v (Rr).ro) ?_)
 rintro ⟨d12, v14⟩ w11 ⟨fr13, o15⟩
 obtain ⟨g16, ch17, G16⟩ := dw g9 fr13 (fun n => if n = 1 then 3 else 0)
 replace o15 := o15.gl G16 3
 refine mv (vt [v14, vi ((ar g r).2)]) (lx (aH rfl rfl) (lx (aH rfl rfl) (ma v14 (ai ((ar g r).2) (aa (a9 (ah (a9 (a8 rfl (mi ((ar g r).2) (lx (cl (m := (ar g r).2) (n := 0) rfl rfl) ?_)))))))))))
 refine ma (Value.bool (!(decide (((ar g r).2) = 0)))) (aa ?_)
 by_cases p2 : ((ar g r).2) = 0
 ·
  obtain ⟨hm, hrp⟩ := dD (fL p2)
  have hm0 := hm
  obtain ⟨hm1, hm2, hm3, hm4⟩ := hm0
  have hrl := hrp.1
  have hFe := bG (br hm hrp)
  have hOe := eN (br hm hrp)
  have hFl := cT g r hm hrp
  have hol0 : ((bU g r).1.length : Int) = 2 * (g.2.length : Int) := by rw [hOe]; exact ec g r
  refine ag rfl (congrArg Bool.not (dt p2)) (a9 (a8 rfl ?_))
  replace bx5 := bx5.cn ch17
  refine lx (aq (ds := [vi g.1, g_v]) ak rfl bx5 rfl rfl) (mv r_v ?_)
  replace bx10 := bx10.cn ch17
  refine lx (aq (ds := [vi c.1, vi c.2]) gQ rfl bx10 rfl rfl) ?_
  replace Rg := Rg.cn ch17
  replace Rr := Rr.cn ch17
  refine lo (bO (v := Value.bool (decide (c9 g r c))) (aD (vals := [vg [vi g.1, g_v], r_v, vg [vi c.1, vi c.2]]) Try.func73 tu tc rfl) (jK w11 g g_v (Rg).ro r r_v (Rr).ro c (by exact hm) (by exact hrp)) ?_)
  intro w18 hb19
  replace hb19 := aG hb19 g16
  refine lx (dr (b := (decide (c9 g r c))) rfl) (ma (Value.bool (!(decide (c9 g r c)))) (aa ?_))
  by_cases p4 : (decide (c9 g r c)) = true
  ·
   obtain ⟨hca1, hca2, hca3, hca4⟩ := di hm hrp (c := c) (of_decide_eq_true p4)
   have hfb := iD (ar g r).1
   refine ag rfl (congrArg Bool.not p4) (aj (ao (a9 (a8 rfl ?_))))
   replace bx5 := bx5.cn hb19
   refine lx (aq (ds := [vi g.1, g_v]) ak rfl bx5 rfl rfl) (mv r_v ?_)
   replace Rg := Rg.cn hb19
   replace Rr := Rr.cn hb19
   refine lo (aV (aD (vals := [vg [vi g.1, g_v], r_v]) Try.func54 kJ kH rfl) (mE w18 g g_v (Rg).ro r r_v (Rr).ro) ?_)
   rintro ⟨d21, v23⟩ w20 ⟨fr22, o24⟩
   obtain ⟨g25, ch26, G25⟩ := dw g16 fr22 (fun n => if n = 1 then 4 else 0)
   replace o24 := o24.gl G25 4
   refine mv (vt [v23, vi ((bU g r).2)]) (lx (aH rfl rfl) (lx (aH rfl rfl) (ma v23 (ai ((bU g r).2) (aa (a9 ?_))))))
   clear bx5
   refine ck g25 rfl fI (by kernel_rfl) ?_
   intro w28 ch27
   refine qm r_v (qm v23 (qm v14 ?_))
   have C29 := cg [] (hb19.n.seq (ch26.n.seq ch27.n))
   replace o15 := o15.ca C29
   refine eL (v := vi (bt ((ar g r).1))) rfl (fun w' hw' => aD (vals := [v14]) Try.func75 tR sO rfl) (fun w' hw' => (lz w' ((ar g r).1) v14 ((o15.sl.bel hw')).ro (by omega)).mono fun e w2 h2 => ⟨h2.1, hw'.trans (h2.2.mono hw'.size)⟩) ?_
   replace bx10 := bx10.ca C29
   refine qx (fun w' hw' => aq (ds := [vi c.1, vi c.2]) gQ rfl (bx10.bel hw') rfl rfl) ?_
   replace Rr := (Rr.cn ch26).cn ch27
   replace o24 := o24.cn ch27
   refine eL (v := vi (cd r ((bU g r).1) (bt ((ar g r).1)) c)) rfl (fun w' hw' => aD (vals := [r_v, v23, vi (bt ((ar g r).1)), vg [vi c.1, vi c.2]]) Try.func76 uW tE rfl) (fun w' hw' => (mD w' r r_v ((Rr.bel hw')).ro ((bU g r).1) v23 ((o24.flat.bel hw')).ro (bt ((ar g r).1)) c (by exact hca1) (by exact hca2) (by (rw [hol0]; exact hca3)) (by omega) (by omega)).mono fun e w2 h2 => ⟨h2.1, hw'.trans (h2.2.mono hw'.size)⟩) (qv (vi (cd r ((bU g r).1) (bt ((ar g r).1)) c)) (fun w' hw' => bz rfl) (qv (vi 0) (fun w' hw' => bz rfl) (cV ?_)))
   intro w30 hc31
   replace hc31 := aG hc31 g25
   refine av (vs := [vi (cd r ((bU g r).1) (bt ((ar g r).1)) c), vi 0]) Try.func36 (.tmp rfl (.tmp rfl .nil)) ?_
   have e0 : (cd r ((bU g r).1) (bt ((ar g r).1)) c : Int) = ((aU g r c).1) := by
     rw [fO ‹_› ‹_›]
   have e1 : (0 : Int) = ((aU g r c).2) := by
     rw [fO ‹_› ‹_›]
   have C32 := cg [] (ch2.n.seq (ch7.n.seq (ch17.n.seq (hb19.n.seq (ch26.n.seq (ch27.n.seq hc31.n))))))
   replace bH := bH.ca C32
   exact ⟨(ci (a := cd r ((bU g r).1) (bt ((ar g r).1)) c) (b := 0) (fun (z0 : Int) (z1 : Int) => Ending.returned (vt [vi z0, vi z1])) e0 e1), bH.below⟩
  refine ae rfl (congrArg Bool.not (Bool.eq_false_iff.2 p4)) (a9 ?_)
  clear bx5 bx10 o15
  refine a8 rfl (ai 0 (ai 2 (aa (av (vs := [vi 0, vi 2]) Try.func36 (.tmp rfl (.tmp rfl .nil)) ?_))))
  have e0 : (0 : Int) = ((aU g r c).1) := by
    rw [gr ‹_› ‹_›]
  have e1 : (2 : Int) = ((aU g r c).2) := by
    rw [gr ‹_› ‹_›]
  have C33 := cg [] (ch2.n.seq (ch7.n.seq (ch17.n.seq hb19.n)))
  replace bH := bH.ca C33
  exact ⟨(ci (a := 0) (b := 2) (fun (z0 : Int) (z1 : Int) => Ending.returned (vt [vi z0, vi z1])) e0 e1), bH.below⟩
 refine ae rfl (congrArg Bool.not (df p2)) (a9 ?_)
 clear bx5 bx10 o15
 refine a8 rfl (mi ((ar g r).2) (ai 0 (ai ((ar g r).2) (aa (av (vs := [vi 0, vi ((ar g r).2)]) Try.func36 (.tmp rfl (.tmp rfl .nil)) ?_)))))
 have e0 : (0 : Int) = ((aU g r c).1) := by
   rw [l4 ‹_›]
 have e1 : ((ar g r).2 : Int) = ((aU g r c).2) := by
   rw [l4 ‹_›]
 have C34 := cg [] (ch2.n.seq (ch7.n.seq ch17.n))
 replace bH := bH.ca C34
 exact ⟨(ci (a := 0) (b := (ar g r).2) (fun (z0 : Int) (z1 : Int) => Ending.returned (vt [vi z0, vi z1])) e0 e1), bH.below⟩
theorem ky (w0 : World) (g : (Int) × (List ((Int) × (Int)))) (g_v : Value) (hg_v : Ro w0 g_v g.2) (r : bj) (r_v : Value) (hr_v : Ro w0 r_v r) (h : (Int) × (List ((Int) × (Int)))) (h_v : Value) (hh_v : Ro w0 h_v h.2) (q : bj) (q_v : Value) (hq_v : Ro w0 q_v q) :
    Calls Try.prog 45 #[vg [vi g.1, g_v], r_v, vg [vi h.1, h_v], q_v] w0 (fun ee w => ee = .returned (Value.bool (decide (g = h ∧ r = q))) ∧ dH w0.heap.size w0 w) := by
 refine az Try.func45 rfl (Nat.le_of_ble_eq_true rfl) ?_
 have bH := b9.start w0
 have Rg := hg_v.sl
 have Rr := hr_v.sl
 have Rh := hh_v.sl
 have Rq := hq_v.sl
 refine a9 (a8 rfl (cr rfl (bR c0 (is 1) (1, 0) rfl rfl ?_)))
 intro g4 w1 b3 ch2 bx5
 replace bx5 : Bx g4 (is 1) w1 b3 [vi g.1, g_v] := bx5
 refine lo (bR g4 (is 2) (2, 0) rfl rfl ?_)
 intro g9 w6 b8 ch7 bx10
 replace bx10 : Bx g9 (is 2) w6 b8 [vi h.1, h_v] := bx10
 refine ma (Value.bool false) (aa (a9 (a8 rfl ?_)))
 replace bx5 := bx5.cn ch7
 refine lx (aq (ds := [vi g.1, g_v]) ak rfl bx5 rfl rfl) (lx (aq (ds := [vi h.1, h_v]) ak rfl bx10 rfl rfl) ?_)
 replace Rg := (Rg.cn ch2).cn ch7
 replace Rh := (Rh.cn ch2).cn ch7
 refine lo (bO (v := Value.bool (decide (g = h))) (aD (vals := [vg [vi g.1, g_v], vg [vi h.1, h_v]]) Try.func33 sh rW rfl) (oz w6 g g_v (Rg).ro h h_v (Rh).ro) ?_)
 intro w11 hb12
 replace hb12 := aG hb12 g9
 refine mv (Value.bool (decide (g = h))) ?_
 by_cases q12 : (decide (g = h)) = true
 ·
  refine lv (r_v) (wy q12) (au rfl) (lv (q_v) (wy q12) (au rfl) ?_)
  have C13 := cg [] (ch2.n.seq (ch7.n.seq hb12.n))
  replace Rr := Rr.ca C13
  replace Rq := Rq.ca C13
  refine cr (wy q12) (bO (v := Value.bool (decide (r = q))) (aD (vals := [r_v, q_v]) Try.func57 wv vD rfl) (kZ w11 r r_v (Rr).ro q q_v (Rq).ro) ?_)
  intro w14 hb15
  replace hb15 := aG hb15 g9
  refine lw (Value.bool (decide (r = q))) (aY rfl q12 rfl) (ma (Value.bool (decide (r = q))) (aa (av (vs := [Value.bool (decide (r = q))]) Try.func45 (.tmp rfl .nil) ?_)))
  have e0 : ((decide (r = q)) : Bool) = (decide (g = h ∧ r = q)) := by
    (simp_all; done)
  have C16 := cg [] (ch2.n.seq (ch7.n.seq (hb12.n.seq hb15.n)))
  replace bH := bH.ca C16
  exact ⟨(congrArg (a₁ := (decide (r = q))) (fun (z0 : Bool) => Ending.returned (Value.bool z0)) e0), bH.below⟩
 refine al (wn (Bool.eq_false_iff.2 q12)) (al (wn (Bool.eq_false_iff.2 q12)) (al (wn (Bool.eq_false_iff.2 q12)) (lw (Value.bool false) (b7 rfl (Bool.eq_false_iff.2 q12) rfl) (ma (Value.bool false) (aa (av (vs := [Value.bool false]) Try.func45 (.tmp rfl .nil) ?_))))))
 have e0 : (false : Bool) = (decide (g = h ∧ r = q)) := by
   (simp_all; done)
 have C17 := cg [] (ch2.n.seq (ch7.n.seq hb12.n))
 replace bH := bH.ca C17
 exact ⟨(congrArg (a₁ := false) (fun (z0 : Bool) => Ending.returned (Value.bool z0)) e0), bH.below⟩
end TL
