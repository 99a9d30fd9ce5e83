import Derived.Test.YtilohhkbelkmdaaTlP3
import Derived.Test.YtilohhkbelkmdaaTlGdA
import Derived.Test.YtilohhkbelkmdaaTlGenO
import Derived.Test.YtilohhkbelkmdaaTlGenZ
import Derived.Test.YtilohhkbelkmdaaTlInsA
import Derived.Test.YtilohhkbelkmdaaProg
set_option linter.all false
set_option maxRecDepth 20000
namespace TL
open Go Go.Proofs
theorem fp : Try.prog.follows .mixedOrders = true := by kernel_rfl
theorem dG : Tp Try.prog 55 true 2 16 (.agg #[.int .i64 0, .int .i64 0]) := Tp.of (by kernel_rfl)
theorem uM : Try.f70.body.isNone = false := rfl
theorem u1 : (Try.f70.name == "runtime.NumGoroutine") = false := by decide +kernel
theorem pO : Try.f73.body.isNone = false := rfl
theorem pN : (Try.f73.name == "runtime.NumGoroutine") = false := by decide +kernel
theorem uz : Try.f74.body.isNone = false := rfl
theorem uU : (Try.f74.name == "runtime.NumGoroutine") = false := by decide +kernel
theorem uF : Try.f75.body.isNone = false := rfl
theorem t7 : (Try.f75.name == "runtime.NumGoroutine") = false := by decide +kernel
theorem pg : Try.f76.body.isNone = false := rfl
theorem pt : (Try.f76.name == "runtime.NumGoroutine") = false := by decide +kernel
theorem mK : Try.f77.body.isNone = false := rfl
theorem mX : (Try.f77.name == "runtime.NumGoroutine") = false := by decide +kernel
theorem kY : Try.f100.body.isNone = false := rfl
theorem lc : (Try.f100.name == "runtime.NumGoroutine") = false := by decide +kernel
set_option maxHeartbeats 1000000 in
theorem sA (w0 : World) (g : (Int) × (List ((Int) × (Int)))) (g_v : Value) (hg_v : Ro w0 g_v g.2) (r : bj) (r_v : Value) (hr_v : Ro w0 r_v r) (a : (Int) × (Int)) (b : (Int) × (Int)) :
    Calls Try.prog 30 #[vg [vi g.1, g_v], r_v, vg [vi a.1, vi a.2], vg [vi b.1, vi b.2]] w0 (fun ee w => ∃ xx : aE × Value × Value, ee = .returned ((fun ⟨δ, rv0, rv1⟩ => vt [vg [vi (((bg g r a b).1).1), rv0], rv1, vi ((bg g r a b).2.2)]) xx) ∧ (fun (⟨δ, rv0, rv1⟩ : aE × Value × Value) (w : World) => cC w0 δ w ∧ Ow δ (is 1) (is 1) w rv0 (((bg g r a b).1).2) ∧ cj δ 2 w rv1 ((bg g r a b).2.1)) xx w) := by
 refine az Try.func30 rfl (Nat.le_of_ble_eq_true rfl) ?_
 have bH := b9.start w0
 have Rg := hg_v.sl
 have Rr := hr_v.sl
 refine a9 (a8 rfl (cr rfl (bR c0 (is 1) (1, 0) rfl rfl ?_)))
 intro g4 w1 b3 ch2 bx5
 replace bx5 : Bx g4 (is 1) w1 b3 [vi g.1, g_v] := bx5
 refine lo (bR g4 (is 2) (2, 0) rfl rfl ?_)
 intro g9 w6 b8 ch7 bx10
 replace bx10 : Bx g9 (is 2) w6 b8 [vi a.1, vi a.2] := bx10
 refine lo (bR g9 (is 3) (3, 0) rfl rfl ?_)
 intro g14 w11 b13 ch12 bx15
 replace bx15 : Bx g14 (is 3) w11 b13 [vi b.1, vi b.2] := bx15
 refine lo (bw g14 (is 4) (4, 0) rfl ak ?_)
 intro g19 w16 b18 ch17 bx20
 replace bx20 : Bx g19 (is 4) w16 b18 [vi 0, vn] := bx20
 refine ma vn (ai 0 (aa (a9 (a8 rfl ?_))))
 have C21 := cg [] (ch7.n.seq (ch12.n.seq ch17.n))
 replace bx5 := bx5.ca C21
 refine lx (aq (ds := [vi g.1, g_v]) ak rfl bx5 rfl rfl) (mv r_v ?_)
 have C22 := cg [] (ch2.n.seq (ch7.n.seq (ch12.n.seq ch17.n)))
 replace Rg := Rg.ca C22
 replace Rr := Rr.ca C22
 refine lo (aV (aD (vals := [vg [vi g.1, g_v], r_v]) Try.func47 kI kL rfl) (jh w16 g g_v (Rg).ro r r_v (Rr).ro) ?_)
 rintro ⟨d24, v26⟩ w23 ⟨fr25, o27⟩
 obtain ⟨g28, ch29, G28⟩ := dw g19 fr25 (fun n => if n = 1 then 5 else 0)
 replace o27 := o27.gl G28 5
 refine mv (vt [v26, vi ((ar g r).2)]) (lx (aH rfl rfl) (lx (aH rfl rfl) (ma v26 (ai ((ar g r).2) (aa (a9 (ah (a9 (a8 rfl (mi ((ar g r).2) (lx (cl (m := (ar g r).2) (n := 0) rfl rfl) ?_)))))))))))
 refine ma (Value.bool (!(decide (((ar g r).2) = 0)))) (aa ?_)
 by_cases p2 : ((ar g r).2) = 0
 ·
  obtain ⟨hm, hrp⟩ := dD (fL p2)
  have hm0 := hm
  obtain ⟨hm1, hm2, hm3, hm4⟩ := hm0
  have hrl := hrp.1
  have hFe := bG (br hm hrp)
  have hOe := eN (br hm hrp)
  have hFl := cT g r hm hrp
  have hol0 : ((bU g r).1.length : Int) = 2 * (g.2.length : Int) := by rw [hOe]; exact ec g r
  refine ag rfl (congrArg Bool.not (dt p2)) (a9 (a8 rfl ?_))
  replace bx5 := bx5.cn ch29
  refine lx (aq (ds := [vi g.1, g_v]) ak rfl bx5 rfl rfl) (mv r_v ?_)
  have C30 := cg [] (ch12.n.seq (ch17.n.seq ch29.n))
  replace bx10 := bx10.ca C30
  refine lx (aq (ds := [vi a.1, vi a.2]) dG rfl bx10 rfl rfl) ?_
  replace Rg := Rg.cn ch29
  replace Rr := Rr.cn ch29
  refine lo (bO (v := Value.bool (decide (c9 g r a))) (aD (vals := [vg [vi g.1, g_v], r_v, vg [vi a.1, vi a.2]]) Try.func73 pO pN rfl) (jK w23 g g_v (Rg).ro r r_v (Rr).ro a (by exact hm) (by exact hrp)) ?_)
  intro w31 hb32
  replace hb32 := aG hb32 g28
  refine lx (dr (b := (decide (c9 g r a))) rfl) (mv (Value.bool (!(decide (c9 g r a)))) ?_)
  by_cases q39 : (decide (c9 g r a)) = true
  ·
   replace bx5 := bx5.cn hb32
   refine lv (vg [vi g.1, g_v]) (wy (congrArg Bool.not q39)) (aq (ds := [vi g.1, g_v]) ak rfl bx5 rfl rfl) (lv (r_v) (wy (congrArg Bool.not q39)) (au rfl) ?_)
   have C33 := cg [] (ch17.n.seq (ch29.n.seq hb32.n))
   replace bx15 := bx15.ca C33
   refine lv (vg [vi b.1, vi b.2]) (wy (congrArg Bool.not q39)) (aq (ds := [vi b.1, vi b.2]) dG rfl bx15 rfl rfl) ?_
   replace Rg := Rg.cn hb32
   replace Rr := Rr.cn hb32
   refine cr (wy (congrArg Bool.not q39)) (bO (v := Value.bool (decide (c9 g r b))) (aD (vals := [vg [vi g.1, g_v], r_v, vg [vi b.1, vi b.2]]) Try.func73 pO pN rfl) (jK w31 g g_v (Rg).ro r r_v (Rr).ro b (by exact hm) (by exact hrp)) ?_)
   intro w34 hb35
   replace hb35 := aG hb35 g28
   refine lv (Value.bool (!(decide (c9 g r b)))) (wy (congrArg Bool.not q39)) (dr (b := (decide (c9 g r b))) rfl) (lw (Value.bool (!(decide (c9 g r b)))) (b7 rfl (congrArg Bool.not q39) rfl) (ma (Value.bool (!(decide (c9 g r b)))) (aa ?_)))
   by_cases p4 : (decide (c9 g r b)) = true
   ·
    refine ag rfl (congrArg Bool.not p4) (a9 (a8 rfl (lx (ad Try.underlying24 rfl rfl rfl rfl) ?_)))
    replace bx5 := bx5.cn hb35
    refine lx (af bo rfl bx5 rfl) ?_
    replace Rg := Rg.cn hb35
    have len36 := (Rg).small
    refine lx (aO Try.underlying22 rfl Rg) (lx (dy (m := (g.2.length : Int)) (n := 3072) rfl rfl) (ma (Value.bool (decide (3072 ≤ (g.2.length : Int)))) (aa ?_)))
    by_cases p6 : 3072 ≤ (g.2.length : Int)
    ·
     refine ae rfl (dt p6) (a9 ?_)
     clear bx5 bx10 bx15 o27
     refine a8 rfl (lw (vg [vi 0, vn]) (bn (vs := []) rfl (by kernel_rfl)) (lo ?_))
     have C40 := cg [] (ch29.n.seq (hb32.n.seq hb35.n))
     replace bx20 := bx20.ca C40
     refine aC (cs' := [vi 0, vn]) ak rfl rfl bx20 rfl (Nat.le_of_ble_eq_true rfl) (AllOne.all (.cons rfl (.cons rfl .nil))) rfl ?_
     intro w37 ch38 bx39
     clear bx20
     refine ma vn (ai 3 (aa (av (vs := [vg [vi 0, vn], vn, vi 3]) Try.func30 (.cell rfl (bk (ds := [vi 0, vn]) ak bx39 rfl rfl) (.tmp rfl (.tmp rfl .nil))) ?_)))
     have C41 := cg [4] (ch2.n.seq (ch7.n.seq (ch12.n.seq (ch17.n.seq (ch29.n.seq (hb32.n.seq (hb35.n.seq (ch38.l rfl))))))))
     replace bH := bH.ca C41
     have e0 : ((0, []) : (Int) × (List ((Int) × (Int)))) = ((bg g r a b).1) := by
       rw [jt ‹_› ‹_› ‹_› ‹_›]
     have e1 : ([] : bj) = ((bg g r a b).2.1) := by
       rw [jt ‹_› ‹_› ‹_› ‹_›]
     have e2 : (3 : Int) = ((bg g r a b).2.2) := by
       rw [jt ‹_› ‹_› ‹_› ‹_›]
     exact ⟨(fin w0 g28 (fun n => 0), vn, vn), (cq (a := (0, [])) (b := []) (c := 3) (fun (z0 : (Int) × (List ((Int) × (Int)))) (z1 : bj) (z2 : Int) => Ending.returned (vt [vg [vi z0.1, vn], vn, vi z2])) e0 e1 e2), bH.fresh _, ((congrArg (fun (z : (Int) × (List ((Int) × (Int)))) => z.2) e0) ▸ Ow.nil), (e1 ▸ cj.nil)⟩
    refine ag rfl (df p6) (aj (ao (a9 (a8 rfl (lx (aq (ds := [vi g.1, g_v]) ak rfl bx5 rfl rfl) (mv r_v ?_))))))
    replace Rr := Rr.cn hb35
    refine lo (aV (aD (vals := [vg [vi g.1, g_v], r_v]) Try.func54 kJ kH rfl) (mE w34 g g_v (Rg).ro r r_v (Rr).ro) ?_)
    rintro ⟨d43, v45⟩ w42 ⟨fr44, o46⟩
    obtain ⟨g47, ch48, G47⟩ := dw g28 fr44 (fun n => if n = 1 then 6 else 0)
    replace o46 := o46.gl G47 6
    refine mv (vt [v45, vi ((bU g r).2)]) (lx (aH rfl rfl) (lx (aH rfl rfl) (ma v45 (ai ((bU g r).2) (aa (a9 (a8 rfl ?_)))))))
    replace bx5 := bx5.cn ch48
    refine lx (aq (ds := [vi g.1, g_v]) ak rfl bx5 rfl rfl) ?_
    replace Rg := Rg.cn ch48
    refine lo (aV (aD (vals := [vg [vi g.1, g_v]]) Try.func74 uz uU rfl) (rL w42 g g_v (Rg).ro) ?_)
    rintro ⟨d50, v52⟩ w49 ⟨fr51, o53⟩
    obtain ⟨g54, ch55, G54⟩ := dw g47 fr51 (fun n => if n = 1 then 7 else 0)
    replace o53 := o53.gl G54 7
    refine mv (vt [v52, vi ((bC g).2.1), vi ((bC g).2.2)]) (lx (aH rfl rfl) (lx (aH rfl rfl) (lx (aH rfl rfl) (ma v52 (ai ((bC g).2.1) (ai ((bC g).2.2) (aa (a9 (a8 rfl (mv v26 ?_))))))))))
    have C56 := cg [] (hb32.n.seq (hb35.n.seq (ch48.n.seq ch55.n)))
    replace o27 := o27.ca C56
    refine lo (bO (v := vi (bt ((ar g r).1))) (aD (vals := [v26]) Try.func75 uF t7 rfl) (lz w49 ((ar g r).1) v26 (o27.sl).ro (by omega)) ?_)
    intro w57 hb58
    replace hb58 := aG hb58 g54
    refine ai (bt ((ar g r).1)) (aa (a9 (a9 ?_)))
    clear o27
    refine ku [false, false, true] (σ := aE) (fun gq f w => b9 w0 gq w ∧ f 1 = r_v ∧ f 4 = vp b3 0 ∧ f 6 = vp b8 0 ∧ f 7 = vp b13 0 ∧ f 8 = vp b18 0 ∧ Sl gq (is 0) w g_v g.2 ∧ Sl gq (is 0) w r_v r ∧ Bx gq (is 1) w b3 [vi g.1, g_v] ∧ Bx gq (is 2) w b8 [vi a.1, vi a.2] ∧ Bx gq (is 3) w b13 [vi b.1, vi b.2] ∧ Bx gq (is 4) w b18 [vi 0, vn] ∧ (¬ gI (bC g).1 a.1 = gI (bC g).1 b.1 ∨ cd r (bU g r).1 (bt (ar g r).1) a = cd r (bU g r).1 (bt (ar g r).1) b)) ?_ ?_
    ·
     intro mid_j1
     obtain ⟨hca1, hca2, hca3, hca4⟩ := di hm hrp (c := a) (of_decide_eq_true ‹_›)
     obtain ⟨hcb1, hcb2, hcb3, hcb4⟩ := di hm hrp (c := b) (of_decide_eq_true ‹_›)
     have hca0 := hca1.1
     have hca9 := hca1.2
     have hcb0 := hcb1.1
     have hcb9 := hcb1.2
     have hpl := gG hm
     have hfb := iD (ar g r).1
     refine ck g54 rfl fp (by kernel_rfl) ?_
     intro w60 ch59
     refine qm v52 (qx (fun w' hw' => ad Try.underlying55 rfl rfl rfl rfl) ?_)
     have C61 := cg [] (hb32.n.seq (hb35.n.seq (ch48.n.seq (ch55.n.seq (hb58.n.seq ch59.n)))))
     replace bx10 := bx10.ca C61
     refine qx (fun w' hw' => af am rfl (bx10.bel hw') rfl) ?_
     replace o53 := (o53.cn hb58).cn ch59
     refine qx (fun w' hw' => ab (v := v52) (i := a.1) Try.underlying27 rfl rfl (o53.flat.bel hw') rfl (by omega) (by omega)) (qx (fun w' hw' => ay (v := v52) (i := a.1) am rfl (o53.flat.bel hw') (by omega) (by omega) (by decide) rfl) (qm v52 (qx (fun w' hw' => ad Try.underlying55 rfl rfl rfl rfl) ?_)))
     have C62 := cg [] (hb35.n.seq (ch48.n.seq (ch55.n.seq (hb58.n.seq ch59.n))))
     replace bx15 := bx15.ca C62
     refine qx (fun w' hw' => af am rfl (bx15.bel hw') rfl) (qx (fun w' hw' => ab (v := v52) (i := b.1) Try.underlying27 rfl rfl (o53.flat.bel hw') rfl (by omega) (by omega)) (qx (fun w' hw' => ay (v := v52) (i := b.1) am rfl (o53.flat.bel hw') (by omega) (by omega) (by decide) rfl) (qx (fun w' hw' => cR (m := (gI ((bC g).1) a.1)) (n := (gI ((bC g).1) b.1)) rfl rfl) (qm (Value.bool (decide ((gI ((bC g).1) a.1) = (gI ((bC g).1) b.1)))) ?_))))
     by_cases q78 : (gI ((bC g).1) a.1) = (gI ((bC g).1) b.1)
     ·
      refine bE (v := r_v) (wy (dt q78)) (fun w' hw' => au rfl) (bE (v := v45) (wy (dt q78)) (fun w' hw' => au rfl) (bE (v := vi (bt ((ar g r).1))) (wy (dt q78)) (fun w' hw' => au rfl) (bE (v := vg [vi a.1, vi a.2]) (wy (dt q78)) (fun w' hw' => aq (ds := [vi a.1, vi a.2]) dG rfl (bx10.bel hw') rfl rfl) ?_)))
      have C64 := cg [] (ch55.n.seq (hb58.n.seq ch59.n))
      have C63 := ch48.n.seq C64
      replace Rr := Rr.ca C63
      replace o46 := o46.ca C64
      refine eL (v := vi (cd r ((bU g r).1) (bt ((ar g r).1)) a)) (wy (dt q78)) (fun w' hw' => aD (vals := [r_v, v45, vi (bt ((ar g r).1)), vg [vi a.1, vi a.2]]) Try.func76 pg pt rfl) (fun w' hw' => (mD w' r r_v ((Rr.bel hw')).ro ((bU g r).1) v45 ((o46.flat.bel hw')).ro (bt ((ar g r).1)) a (by exact hca1) (by exact hca2) (by (rw [hol0]; exact hca3)) (by omega) (by omega)).mono fun e w2 h2 => ⟨h2.1, hw'.trans (h2.2.mono hw'.size)⟩) (bE (v := r_v) (wy (dt q78)) (fun w' hw' => au rfl) (bE (v := v45) (wy (dt q78)) (fun w' hw' => au rfl) (bE (v := vi (bt ((ar g r).1))) (wy (dt q78)) (fun w' hw' => au rfl) ?_)))
      refine bE (v := vg [vi b.1, vi b.2]) (wy (dt q78)) (fun w' hw' => aq (ds := [vi b.1, vi b.2]) dG rfl (bx15.bel hw') rfl rfl) (eL (v := vi (cd r ((bU g r).1) (bt ((ar g r).1)) b)) (wy (dt q78)) (fun w' hw' => aD (vals := [r_v, v45, vi (bt ((ar g r).1)), vg [vi b.1, vi b.2]]) Try.func76 pg pt rfl) (fun w' hw' => (mD w' r r_v ((Rr.bel hw')).ro ((bU g r).1) v45 ((o46.flat.bel hw')).ro (bt ((ar g r).1)) b (by exact hcb1) (by exact hcb2) (by (rw [hol0]; exact hcb3)) (by omega) (by omega)).mono fun e w2 h2 => ⟨h2.1, hw'.trans (h2.2.mono hw'.size)⟩) ?_)
      refine bE (v := Value.bool (!(decide ((cd r ((bU g r).1) (bt ((ar g r).1)) a) = (cd r ((bU g r).1) (bt ((ar g r).1)) b))))) (wy (dt q78)) (fun w' hw' => cl (m := cd r ((bU g r).1) (bt ((ar g r).1)) a) (n := cd r ((bU g r).1) (bt ((ar g r).1)) b) rfl rfl) (qv (Value.bool (!(decide ((cd r ((bU g r).1) (bt ((ar g r).1)) a) = (cd r ((bU g r).1) (bt ((ar g r).1)) b))))) (fun w' hw' => aY rfl (dt q78) rfl) (cV ?_))
      intro w65 hc66
      replace hc66 := aG hc66 g54
      by_cases p11 : (cd r ((bU g r).1) (bt ((ar g r).1)) a) = (cd r ((bU g r).1) (bt ((ar g r).1)) b)
      ·
       refine ag rfl (congrArg Bool.not (dt p11)) (aj (a9 ?_))
       clear o46 o53
       have C68 := cg [] (ch55.n.seq (hb58.n.seq (ch59.n.seq hc66.n)))
       have C69 := ch29.n.seq (hb32.n.seq (hb35.n.seq (ch48.n.seq C68)))
       have C67 := ch2.n.seq (ch7.n.seq (ch12.n.seq (ch17.n.seq C69)))
       refine mid_j1 (g54) _ _ ⟨bH.ca C67, rfl, rfl, rfl, rfl, rfl, Rg.ca C68, Rr.cn hc66, bx5.ca C68, bx10.cn hc66, bx15.cn hc66, bx20.ca C69, ?_⟩
       show ¬ gI (bC g).1 a.1 = gI (bC g).1 b.1 ∨ cd r (bU g r).1 (bt (ar g r).1) a = cd r (bU g r).1 (bt (ar g r).1) b
       exact .inr ‹_›
      refine ae rfl (congrArg Bool.not (df p11)) (a9 ?_)
      clear bx5 bx10 bx15 o46 o53
      refine a8 rfl (lw (vg [vi 0, vn]) (bn (vs := []) rfl (by kernel_rfl)) (lo ?_))
      have C73 := cg [] (ch29.n.seq (hb32.n.seq (hb35.n.seq (ch48.n.seq (ch55.n.seq (hb58.n.seq (ch59.n.seq hc66.n)))))))
      replace bx20 := bx20.ca C73
      refine aC (cs' := [vi 0, vn]) ak rfl rfl bx20 rfl (Nat.le_of_ble_eq_true rfl) (AllOne.all (.cons rfl (.cons rfl .nil))) rfl ?_
      intro w70 ch71 bx72
      clear bx20
      refine ma vn (ai 5 (aa (av (vs := [vg [vi 0, vn], vn, vi 5]) Try.func30 (.cell rfl (bk (ds := [vi 0, vn]) ak bx72 rfl rfl) (.tmp rfl (.tmp rfl .nil))) ?_)))
      have C74 := cg [4] (ch2.n.seq (ch7.n.seq (ch12.n.seq (ch17.n.seq (ch29.n.seq (hb32.n.seq (hb35.n.seq (ch48.n.seq (ch55.n.seq (hb58.n.seq (ch59.n.seq (hc66.n.seq (ch71.l rfl)))))))))))))
      replace bH := bH.ca C74
      have e0 : ((0, []) : (Int) × (List ((Int) × (Int)))) = ((bg g r a b).1) := by
        rw [jw ‹_› ‹_› ‹_› ‹_› ‹_› ‹_›]
      have e1 : ([] : bj) = ((bg g r a b).2.1) := by
        rw [jw ‹_› ‹_› ‹_› ‹_› ‹_› ‹_›]
      have e2 : (5 : Int) = ((bg g r a b).2.2) := by
        rw [jw ‹_› ‹_› ‹_› ‹_› ‹_› ‹_›]
      exact ⟨(fin w0 g54 (fun n => 0), vn, vn), (cq (a := (0, [])) (b := []) (c := 5) (fun (z0 : (Int) × (List ((Int) × (Int)))) (z1 : bj) (z2 : Int) => Ending.returned (vt [vg [vi z0.1, vn], vn, vi z2])) e0 e1 e2), bH.fresh _, ((congrArg (fun (z : (Int) × (List ((Int) × (Int)))) => z.2) e0) ▸ Ow.nil), (e1 ▸ cj.nil)⟩
     refine bv (wn (df q78)) (bv (wn (df q78)) (bv (wn (df q78)) (bv (wn (df q78)) (bv (wn (df q78)) (bv (wn (df q78)) (bv (wn (df q78)) (bv (wn (df q78)) (bv (wn (df q78)) (bv (wn (df q78)) ?_)))))))))
     refine bv (wn (df q78)) (qv (Value.bool false) (fun w' hw' => b7 rfl (df q78) rfl) (cV ?_))
     intro w75 hc76
     replace hc76 := aG hc76 g54
     refine ag rfl rfl (aj (a9 ?_))
     clear o46 o53
     have C78 := cg [] (ch55.n.seq (hb58.n.seq (ch59.n.seq hc76.n)))
     have C79 := ch48.n.seq C78
     have C80 := ch29.n.seq (hb32.n.seq (hb35.n.seq C79))
     have C77 := ch2.n.seq (ch7.n.seq (ch12.n.seq (ch17.n.seq C80)))
     refine mid_j1 (g54) _ _ ⟨bH.ca C77, rfl, rfl, rfl, rfl, rfl, Rg.ca C78, Rr.ca C79, bx5.ca C78, bx10.cn hc76, bx15.cn hc76, bx20.ca C80, ?_⟩
     show ¬ gI (bC g).1 a.1 = gI (bC g).1 b.1 ∨ cd r (bU g r).1 (bt (ar g r).1) a = cd r (bU g r).1 (bt (ar g r).1) b
     exact .inl ‹_›
    clear Rg Rr bx5 bx10 bx15 bx20 o46 o53 bH
    rintro g83 f81 w82 ⟨bH, z84_1, z84_4, z84_6, z84_7, z84_8, Rg, Rr, bx5, bx10, bx15, bx20, hj_j1⟩
    obtain ⟨hca1, hca2, hca3, hca4⟩ := di hm hrp (c := a) (of_decide_eq_true ‹_›)
    obtain ⟨hcb1, hcb2, hcb3, hcb4⟩ := di hm hrp (c := b) (of_decide_eq_true ‹_›)
    have hca0 := hca1.1
    have hca9 := hca1.2
    have hcb0 := hcb1.1
    have hcb9 := hcb1.2
    have hpl := gG hm
    have hfb := iD (ar g r).1
    refine dS (σ := Nat × Value × aE) (fun ⟨b107, v101, gq⟩ f w => b9 w0 gq w ∧ f 1 = r_v ∧ f 4 = vp b3 0 ∧ f 6 = vp b8 0 ∧ f 7 = vp b13 0 ∧ f 8 = vp b18 0 ∧ f 19 = vp b107 0 ∧ Sl gq (is 0) w g_v g.2 ∧ Sl gq (is 0) w r_v r ∧ Bx gq (is 1) w b3 [vi g.1, g_v] ∧ Bx gq (is 2) w b8 [vi a.1, vi a.2] ∧ Bx gq (is 3) w b13 [vi b.1, vi b.2] ∧ Bx gq (is 4) w b18 [vi 0, vn] ∧ Ow gq (is 8) (is 8) w v101 (g.2 ++ ([(a.1, b.1)] : List ((Int) × (Int)))) ∧ Bx gq (is 10) w b107 [vi g.1, v101]) g83 (bW [8, 10]) fp ?_ ?_
    ·
     intro mid
     intro w86 ch85
     refine ht 0 rfl (bq.refl _ _ _) (fun w' hw' => ad Try.underlying24 rfl rfl z84_4 rfl) ?_
     replace bx5 := bx5.cn ch85
     refine ht 1 rfl (bq.refl _ _ _) (fun w' hw' => af am rfl (bx5.chg hw' (bQ rfl)) rfl) (ht 2 rfl (bq.refl _ _ _) (fun w' hw' => ad Try.underlying24 rfl rfl z84_4 rfl) (ht 3 rfl (bq.refl _ _ _) (fun w' hw' => af bo rfl (bx5.chg hw' (bQ rfl)) rfl) (ht 5 rfl (bq.refl _ _ _) (fun w' hw' => ad Try.underlying55 rfl rfl z84_6 rfl) ?_)))
     replace bx10 := bx10.cn ch85
     refine ht 6 rfl (bq.refl _ _ _) (fun w' hw' => af am rfl (bx10.chg hw' (bQ rfl)) rfl) (ht 7 rfl (bq.refl _ _ _) (fun w' hw' => ad Try.underlying55 rfl rfl z84_7 rfl) ?_)
     replace bx15 := bx15.cn ch85
     refine ht 8 rfl (bq.refl _ _ _) (fun w' hw' => af am rfl (bx15.chg hw' (bQ rfl)) rfl) (ht (v := vg [vi a.1, vi b.1]) 9 rfl (bq.refl _ _ _) (fun w' hw' => bn (vs := [(0, vi a.1), (1, vi b.1)]) rfl (by kernel_rfl)) ?_)
     refine d8 4 [10, 13] (by kernel_rfl) ⟨da 4 rfl (by kernel_rfl) rfl ?_, da 10 rfl (by kernel_rfl) rfl ?_, da 13 rfl (by kernel_rfl) rfl ?_, trivial⟩
     ·
      replace Rg := Rg.cn ch85
      refine aR (α := (Int) × (Int)) (xs := ([])) (ys := g.2) g83 (J := is 8) (S := is 8) (8, 0) rfl Try.underlying22 bD (by decide) rfl rfl rfl Ow.nil Rg (by decide) (by (simp; omega)) ?_
      intro g87 w88 v89 ch90 o91
      replace o91 : Ow g87 (is 8) (is 8) w88 v89 (g.2 : List ((Int) × (Int))) := o91
      have hs92 : bq (bW [8, 10]) _ _ _ _ := ch90.l rfl
      refine ⟨hs92.same, ?_⟩
      refine d8 10 [13] (by kernel_rfl) ⟨da 10 rfl (by kernel_rfl) rfl ?_, da 13 rfl (by kernel_rfl) rfl ?_, trivial⟩
      ·
       refine aA (α := (Int) × (Int)) g87 (is 9) (is 9) (9, 0) rfl ([(a.1, b.1)] : List ((Int) × (Int))) Try.underlying22 bD (by decide) (by decide) (vs := [(0, vg [vi a.1, vi b.1])]) rfl rfl (.cons rfl .nil) ?_
       intro g93 w94 v95 ch96 o97
       have hs98 := hs92.seq (ch96.n)
       refine ⟨hs98.same, ?_⟩
       refine d8 11 [13] (by kernel_rfl) ⟨da 11 rfl (by kernel_rfl) rfl ?_, da 13 rfl (by kernel_rfl) rfl ?_, trivial⟩
       ·
        replace o91 := o91.cn ch96
        refine aR (α := (Int) × (Int)) (xs := g.2) (ys := ([(a.1, b.1)] : List ((Int) × (Int)))) g93 (J := is 8) (S := is 8) (8, 0) rfl Try.underlying22 bD (by decide) rfl rfl rfl o91 o97.flat (by decide) (by (simp; omega)) ?_
        intro g99 w100 v101 ch102 o103
        clear o91
        have hs104 := hs98.seq (ch102.l rfl)
        refine ⟨hs104.same, ?_⟩
        refine ht (v := vg [vi g.1, v101]) 12 rfl hs104.same (fun w' hw' => bn (vs := [(0, vi g.1), (1, v101)]) rfl (by rw [Sl.form o103.flat]; kernel_rfl)) (aW 13 rfl (by kernel_rfl) rfl (bw g99 (is 10) (10, 0) rfl ak ?_))
        intro g108 w105 b107 ch106 bx109
        replace bx109 : Bx g108 (is 10) w105 b107 [vi 0, vn] := bx109
        have hs110 := hs104.seq (ch106.n)
        refine ⟨hs110.same, ?_⟩
        refine aW 14 rfl (by kernel_rfl) rfl ?_
        replace o103 := o103.cn ch106
        refine aC (cs' := [vi g.1, v101]) ak rfl rfl bx109 rfl (Nat.le_of_ble_eq_true rfl) (AllOne.all (.cons rfl (.cons (bm o103.flat) .nil))) rfl ?_
        intro w111 ch112 bx113
        clear bx109
        have hs114 := hs110.seq (ch112.l rfl)
        refine ⟨hs114.same, ?_⟩
        refine cA (by kernel_rfl) ?_
        have C115 := cg [8, 10] (ch85.n.seq ((ch90.l rfl).seq (ch96.n.seq ((ch102.l rfl).seq (ch106.n.seq (ch112.l rfl))))))
        replace Rr := Rr.cn ch85
        replace bx20 := bx20.cn ch85
        exact mid (b107, v101, g108) _ _ ⟨bH.ca C115, z84_1, z84_4, z84_6, z84_7, z84_8, rfl, (Rg.ca hs114), (Rr.ca hs114), (bx5.ca hs114), (bx10.ca hs114), (bx15.ca hs114), (bx20.ca hs114), o103.ce ch112, bx113⟩
       ·
        refine bw g93 (is 10) (10, 0) rfl ak ?_
        intro g119 w116 b118 ch117 bx120
        replace bx120 : Bx g119 (is 10) w116 b118 [vi 0, vn] := bx120
        have hs121 := hs98.seq (ch117.n)
        refine ⟨hs121.same, ?_⟩
        refine aW 11 rfl (by kernel_rfl) rfl ?_
        replace o97 := o97.cn ch117
        replace o91 := (o91.cn ch96).cn ch117
        refine aR (α := (Int) × (Int)) (xs := g.2) (ys := ([(a.1, b.1)] : List ((Int) × (Int)))) g119 (J := is 8) (S := is 8) (8, 0) rfl Try.underlying22 bD (by decide) rfl rfl rfl o91 o97.flat (by decide) (by (simp; omega)) ?_
        intro g122 w123 v124 ch125 o126
        clear o91
        have hs127 := hs121.seq (ch125.l rfl)
        refine ⟨hs127.same, ?_⟩
        refine ht (v := vg [vi g.1, v124]) 12 rfl hs127.same (fun w' hw' => bn (vs := [(0, vi g.1), (1, v124)]) rfl (by rw [Sl.form o126.flat]; kernel_rfl)) (aW 14 rfl (by kernel_rfl) rfl ?_)
        replace bx120 := bx120.ce ch125
        refine aC (cs' := [vi g.1, v124]) ak rfl rfl bx120 rfl (Nat.le_of_ble_eq_true rfl) (AllOne.all (.cons rfl (.cons (bm o126.flat) .nil))) rfl ?_
        intro w128 ch129 bx130
        clear bx120
        have hs131 := hs127.seq (ch129.l rfl)
        refine ⟨hs131.same, ?_⟩
        refine cA (by kernel_rfl) ?_
        have C132 := cg [8, 10] (ch85.n.seq ((ch90.l rfl).seq (ch96.n.seq (ch117.n.seq ((ch125.l rfl).seq (ch129.l rfl))))))
        replace Rr := Rr.cn ch85
        replace bx20 := bx20.cn ch85
        exact mid (b118, v124, g122) _ _ ⟨bH.ca C132, z84_1, z84_4, z84_6, z84_7, z84_8, rfl, (Rg.ca hs131), (Rr.ca hs131), (bx5.ca hs131), (bx10.ca hs131), (bx15.ca hs131), (bx20.ca hs131), o126.ce ch129, bx130⟩
      ·
       refine bw g87 (is 10) (10, 0) rfl ak ?_
       intro g136 w133 b135 ch134 bx137
       replace bx137 : Bx g136 (is 10) w133 b135 [vi 0, vn] := bx137
       have hs138 := hs92.seq (ch134.n)
       refine ⟨hs138.same, ?_⟩
       refine aW 10 rfl (by kernel_rfl) rfl (aA (α := (Int) × (Int)) g136 (is 9) (is 9) (9, 0) rfl ([(a.1, b.1)] : List ((Int) × (Int))) Try.underlying22 bD (by decide) (by decide) (vs := [(0, vg [vi a.1, vi b.1])]) rfl rfl (.cons rfl .nil) ?_)
       intro g139 w140 v141 ch142 o143
       have hs144 := hs138.seq (ch142.n)
       refine ⟨hs144.same, ?_⟩
       refine aW 11 rfl (by kernel_rfl) rfl ?_
       replace o91 := (o91.cn ch134).cn ch142
       refine aR (α := (Int) × (Int)) (xs := g.2) (ys := ([(a.1, b.1)] : List ((Int) × (Int)))) g139 (J := is 8) (S := is 8) (8, 0) rfl Try.underlying22 bD (by decide) rfl rfl rfl o91 o143.flat (by decide) (by (simp; omega)) ?_
       intro g145 w146 v147 ch148 o149
       clear o91
       have hs150 := hs144.seq (ch148.l rfl)
       refine ⟨hs150.same, ?_⟩
       refine ht (v := vg [vi g.1, v147]) 12 rfl hs150.same (fun w' hw' => bn (vs := [(0, vi g.1), (1, v147)]) rfl (by rw [Sl.form o149.flat]; kernel_rfl)) (aW 14 rfl (by kernel_rfl) rfl ?_)
       replace bx137 := (bx137.cn ch142).ce ch148
       refine aC (cs' := [vi g.1, v147]) ak rfl rfl bx137 rfl (Nat.le_of_ble_eq_true rfl) (AllOne.all (.cons rfl (.cons (bm o149.flat) .nil))) rfl ?_
       intro w151 ch152 bx153
       clear bx137
       have hs154 := hs150.seq (ch152.l rfl)
       refine ⟨hs154.same, ?_⟩
       refine cA (by kernel_rfl) ?_
       have C155 := cg [8, 10] (ch85.n.seq ((ch90.l rfl).seq (ch134.n.seq (ch142.n.seq ((ch148.l rfl).seq (ch152.l rfl))))))
       replace Rr := Rr.cn ch85
       replace bx20 := bx20.cn ch85
       exact mid (b135, v147, g145) _ _ ⟨bH.ca C155, z84_1, z84_4, z84_6, z84_7, z84_8, rfl, (Rg.ca hs154), (Rr.ca hs154), (bx5.ca hs154), (bx10.ca hs154), (bx15.ca hs154), (bx20.ca hs154), o149.ce ch152, bx153⟩
     ·
      refine aA (α := (Int) × (Int)) g83 (is 9) (is 9) (9, 0) rfl ([(a.1, b.1)] : List ((Int) × (Int))) Try.underlying22 bD (by decide) (by decide) (vs := [(0, vg [vi a.1, vi b.1])]) rfl rfl (.cons rfl .nil) ?_
      intro g156 w157 v158 ch159 o160
      have hs161 : bq (bW [8, 10]) _ _ _ _ := ch159.n
      refine ⟨hs161.same, ?_⟩
      refine d8 4 [13] (by kernel_rfl) ⟨da 4 rfl (by kernel_rfl) rfl ?_, da 13 rfl (by kernel_rfl) rfl ?_, trivial⟩
      ·
       replace Rg := Rg.cn ch85
       refine aR (α := (Int) × (Int)) (xs := ([])) (ys := g.2) g156 (J := is 8) (S := is 8) (8, 0) rfl Try.underlying22 bD (by decide) rfl rfl rfl Ow.nil (Rg.ca hs161) (by decide) (by (simp; omega)) ?_
       intro g162 w163 v164 ch165 o166
       replace o166 : Ow g162 (is 8) (is 8) w163 v164 (g.2 : List ((Int) × (Int))) := o166
       have hs167 := hs161.seq (ch165.l rfl)
       refine ⟨hs167.same, ?_⟩
       refine d8 11 [13] (by kernel_rfl) ⟨da 11 rfl (by kernel_rfl) rfl ?_, da 13 rfl (by kernel_rfl) rfl ?_, trivial⟩
       ·
        replace o160 := o160.ce ch165
        refine aR (α := (Int) × (Int)) (xs := g.2) (ys := ([(a.1, b.1)] : List ((Int) × (Int)))) g162 (J := is 8) (S := is 8) (8, 0) rfl Try.underlying22 bD (by decide) rfl rfl rfl o166 o160.flat (by decide) (by (simp; omega)) ?_
        intro g168 w169 v170 ch171 o172
        clear o166
        have hs173 := hs167.seq (ch171.l rfl)
        refine ⟨hs173.same, ?_⟩
        refine ht (v := vg [vi g.1, v170]) 12 rfl hs173.same (fun w' hw' => bn (vs := [(0, vi g.1), (1, v170)]) rfl (by rw [Sl.form o172.flat]; kernel_rfl)) (aW 13 rfl (by kernel_rfl) rfl (bw g168 (is 10) (10, 0) rfl ak ?_))
        intro g177 w174 b176 ch175 bx178
        replace bx178 : Bx g177 (is 10) w174 b176 [vi 0, vn] := bx178
        have hs179 := hs173.seq (ch175.n)
        refine ⟨hs179.same, ?_⟩
        refine aW 14 rfl (by kernel_rfl) rfl ?_
        replace o172 := o172.cn ch175
        refine aC (cs' := [vi g.1, v170]) ak rfl rfl bx178 rfl (Nat.le_of_ble_eq_true rfl) (AllOne.all (.cons rfl (.cons (bm o172.flat) .nil))) rfl ?_
        intro w180 ch181 bx182
        clear bx178
        have hs183 := hs179.seq (ch181.l rfl)
        refine ⟨hs183.same, ?_⟩
        refine cA (by kernel_rfl) ?_
        have C184 := cg [8, 10] (ch85.n.seq (ch159.n.seq ((ch165.l rfl).seq ((ch171.l rfl).seq (ch175.n.seq (ch181.l rfl))))))
        replace Rr := Rr.cn ch85
        replace bx20 := bx20.cn ch85
        exact mid (b176, v170, g177) _ _ ⟨bH.ca C184, z84_1, z84_4, z84_6, z84_7, z84_8, rfl, (Rg.ca hs183), (Rr.ca hs183), (bx5.ca hs183), (bx10.ca hs183), (bx15.ca hs183), (bx20.ca hs183), o172.ce ch181, bx182⟩
       ·
        refine bw g162 (is 10) (10, 0) rfl ak ?_
        intro g188 w185 b187 ch186 bx189
        replace bx189 : Bx g188 (is 10) w185 b187 [vi 0, vn] := bx189
        have hs190 := hs167.seq (ch186.n)
        refine ⟨hs190.same, ?_⟩
        refine aW 11 rfl (by kernel_rfl) rfl ?_
        replace o160 := (o160.ce ch165).cn ch186
        replace o166 := o166.cn ch186
        refine aR (α := (Int) × (Int)) (xs := g.2) (ys := ([(a.1, b.1)] : List ((Int) × (Int)))) g188 (J := is 8) (S := is 8) (8, 0) rfl Try.underlying22 bD (by decide) rfl rfl rfl o166 o160.flat (by decide) (by (simp; omega)) ?_
        intro g191 w192 v193 ch194 o195
        clear o166
        have hs196 := hs190.seq (ch194.l rfl)
        refine ⟨hs196.same, ?_⟩
        refine ht (v := vg [vi g.1, v193]) 12 rfl hs196.same (fun w' hw' => bn (vs := [(0, vi g.1), (1, v193)]) rfl (by rw [Sl.form o195.flat]; kernel_rfl)) (aW 14 rfl (by kernel_rfl) rfl ?_)
        replace bx189 := bx189.ce ch194
        refine aC (cs' := [vi g.1, v193]) ak rfl rfl bx189 rfl (Nat.le_of_ble_eq_true rfl) (AllOne.all (.cons rfl (.cons (bm o195.flat) .nil))) rfl ?_
        intro w197 ch198 bx199
        clear bx189
        have hs200 := hs196.seq (ch198.l rfl)
        refine ⟨hs200.same, ?_⟩
        refine cA (by kernel_rfl) ?_
        have C201 := cg [8, 10] (ch85.n.seq (ch159.n.seq ((ch165.l rfl).seq (ch186.n.seq ((ch194.l rfl).seq (ch198.l rfl))))))
        replace Rr := Rr.cn ch85
        replace bx20 := bx20.cn ch85
        exact mid (b187, v193, g191) _ _ ⟨bH.ca C201, z84_1, z84_4, z84_6, z84_7, z84_8, rfl, (Rg.ca hs200), (Rr.ca hs200), (bx5.ca hs200), (bx10.ca hs200), (bx15.ca hs200), (bx20.ca hs200), o195.ce ch198, bx199⟩
      ·
       refine bw g156 (is 10) (10, 0) rfl ak ?_
       intro g205 w202 b204 ch203 bx206
       replace bx206 : Bx g205 (is 10) w202 b204 [vi 0, vn] := bx206
       have hs207 := hs161.seq (ch203.n)
       refine ⟨hs207.same, ?_⟩
       refine aW 4 rfl (by kernel_rfl) rfl ?_
       replace Rg := Rg.cn ch85
       refine aR (α := (Int) × (Int)) (xs := ([])) (ys := g.2) g205 (J := is 8) (S := is 8) (8, 0) rfl Try.underlying22 bD (by decide) rfl rfl rfl Ow.nil (Rg.ca hs207) (by decide) (by (simp; omega)) ?_
       intro g208 w209 v210 ch211 o212
       replace o212 : Ow g208 (is 8) (is 8) w209 v210 (g.2 : List ((Int) × (Int))) := o212
       have hs213 := hs207.seq (ch211.l rfl)
       refine ⟨hs213.same, ?_⟩
       refine aW 11 rfl (by kernel_rfl) rfl ?_
       replace o160 := (o160.cn ch203).ce ch211
       refine aR (α := (Int) × (Int)) (xs := g.2) (ys := ([(a.1, b.1)] : List ((Int) × (Int)))) g208 (J := is 8) (S := is 8) (8, 0) rfl Try.underlying22 bD (by decide) rfl rfl rfl o212 o160.flat (by decide) (by (simp; omega)) ?_
       intro g214 w215 v216 ch217 o218
       clear o212
       have hs219 := hs213.seq (ch217.l rfl)
       refine ⟨hs219.same, ?_⟩
       refine ht (v := vg [vi g.1, v216]) 12 rfl hs219.same (fun w' hw' => bn (vs := [(0, vi g.1), (1, v216)]) rfl (by rw [Sl.form o218.flat]; kernel_rfl)) (aW 14 rfl (by kernel_rfl) rfl ?_)
       replace bx206 := (bx206.ce ch211).ce ch217
       refine aC (cs' := [vi g.1, v216]) ak rfl rfl bx206 rfl (Nat.le_of_ble_eq_true rfl) (AllOne.all (.cons rfl (.cons (bm o218.flat) .nil))) rfl ?_
       intro w220 ch221 bx222
       clear bx206
       have hs223 := hs219.seq (ch221.l rfl)
       refine ⟨hs223.same, ?_⟩
       refine cA (by kernel_rfl) ?_
       have C224 := cg [8, 10] (ch85.n.seq (ch159.n.seq (ch203.n.seq ((ch211.l rfl).seq ((ch217.l rfl).seq (ch221.l rfl))))))
       replace Rr := Rr.cn ch85
       replace bx20 := bx20.cn ch85
       exact mid (b204, v216, g214) _ _ ⟨bH.ca C224, z84_1, z84_4, z84_6, z84_7, z84_8, rfl, (Rg.ca hs223), (Rr.ca hs223), (bx5.ca hs223), (bx10.ca hs223), (bx15.ca hs223), (bx20.ca hs223), o218.ce ch221, bx222⟩
     ·
      refine bw g83 (is 10) (10, 0) rfl ak ?_
      intro g228 w225 b227 ch226 bx229
      replace bx229 : Bx g228 (is 10) w225 b227 [vi 0, vn] := bx229
      have hs230 : bq (bW [8, 10]) _ _ _ _ := ch226.n
      refine ⟨hs230.same, ?_⟩
      refine d8 4 [10] (by kernel_rfl) ⟨da 4 rfl (by kernel_rfl) rfl ?_, da 10 rfl (by kernel_rfl) rfl ?_, trivial⟩
      ·
       replace Rg := Rg.cn ch85
       refine aR (α := (Int) × (Int)) (xs := ([])) (ys := g.2) g228 (J := is 8) (S := is 8) (8, 0) rfl Try.underlying22 bD (by decide) rfl rfl rfl Ow.nil (Rg.ca hs230) (by decide) (by (simp; omega)) ?_
       intro g231 w232 v233 ch234 o235
       replace o235 : Ow g231 (is 8) (is 8) w232 v233 (g.2 : List ((Int) × (Int))) := o235
       have hs236 := hs230.seq (ch234.l rfl)
       refine ⟨hs236.same, ?_⟩
       refine aW 10 rfl (by kernel_rfl) rfl (aA (α := (Int) × (Int)) g231 (is 9) (is 9) (9, 0) rfl ([(a.1, b.1)] : List ((Int) × (Int))) Try.underlying22 bD (by decide) (by decide) (vs := [(0, vg [vi a.1, vi b.1])]) rfl rfl (.cons rfl .nil) ?_)
       intro g237 w238 v239 ch240 o241
       have hs242 := hs236.seq (ch240.n)
       refine ⟨hs242.same, ?_⟩
       refine aW 11 rfl (by kernel_rfl) rfl ?_
       replace o235 := o235.cn ch240
       refine aR (α := (Int) × (Int)) (xs := g.2) (ys := ([(a.1, b.1)] : List ((Int) × (Int)))) g237 (J := is 8) (S := is 8) (8, 0) rfl Try.underlying22 bD (by decide) rfl rfl rfl o235 o241.flat (by decide) (by (simp; omega)) ?_
       intro g243 w244 v245 ch246 o247
       clear o235
       have hs248 := hs242.seq (ch246.l rfl)
       refine ⟨hs248.same, ?_⟩
       refine ht (v := vg [vi g.1, v245]) 12 rfl hs248.same (fun w' hw' => bn (vs := [(0, vi g.1), (1, v245)]) rfl (by rw [Sl.form o247.flat]; kernel_rfl)) (aW 14 rfl (by kernel_rfl) rfl ?_)
       have C252 := cg [8] ((ch234.l rfl).seq (ch240.n.seq (ch246.l rfl)))
       replace bx229 := bx229.ca C252
       refine aC (cs' := [vi g.1, v245]) ak rfl rfl bx229 rfl (Nat.le_of_ble_eq_true rfl) (AllOne.all (.cons rfl (.cons (bm o247.flat) .nil))) rfl ?_
       intro w249 ch250 bx251
       clear bx229
       have hs253 := hs248.seq (ch250.l rfl)
       refine ⟨hs253.same, ?_⟩
       refine cA (by kernel_rfl) ?_
       have C254 := cg [8, 10] (ch85.n.seq (ch226.n.seq ((ch234.l rfl).seq (ch240.n.seq ((ch246.l rfl).seq (ch250.l rfl))))))
       replace Rr := Rr.cn ch85
       replace bx20 := bx20.cn ch85
       exact mid (b227, v245, g243) _ _ ⟨bH.ca C254, z84_1, z84_4, z84_6, z84_7, z84_8, rfl, (Rg.ca hs253), (Rr.ca hs253), (bx5.ca hs253), (bx10.ca hs253), (bx15.ca hs253), (bx20.ca hs253), o247.ce ch250, bx251⟩
      ·
       refine aA (α := (Int) × (Int)) g228 (is 9) (is 9) (9, 0) rfl ([(a.1, b.1)] : List ((Int) × (Int))) Try.underlying22 bD (by decide) (by decide) (vs := [(0, vg [vi a.1, vi b.1])]) rfl rfl (.cons rfl .nil) ?_
       intro g255 w256 v257 ch258 o259
       have hs260 := hs230.seq (ch258.n)
       refine ⟨hs260.same, ?_⟩
       refine aW 4 rfl (by kernel_rfl) rfl ?_
       replace Rg := Rg.cn ch85
       refine aR (α := (Int) × (Int)) (xs := ([])) (ys := g.2) g255 (J := is 8) (S := is 8) (8, 0) rfl Try.underlying22 bD (by decide) rfl rfl rfl Ow.nil (Rg.ca hs260) (by decide) (by (simp; omega)) ?_
       intro g261 w262 v263 ch264 o265
       replace o265 : Ow g261 (is 8) (is 8) w262 v263 (g.2 : List ((Int) × (Int))) := o265
       have hs266 := hs260.seq (ch264.l rfl)
       refine ⟨hs266.same, ?_⟩
       refine aW 11 rfl (by kernel_rfl) rfl ?_
       replace o259 := o259.ce ch264
       refine aR (α := (Int) × (Int)) (xs := g.2) (ys := ([(a.1, b.1)] : List ((Int) × (Int)))) g261 (J := is 8) (S := is 8) (8, 0) rfl Try.underlying22 bD (by decide) rfl rfl rfl o265 o259.flat (by decide) (by (simp; omega)) ?_
       intro g267 w268 v269 ch270 o271
       clear o265
       have hs272 := hs266.seq (ch270.l rfl)
       refine ⟨hs272.same, ?_⟩
       refine ht (v := vg [vi g.1, v269]) 12 rfl hs272.same (fun w' hw' => bn (vs := [(0, vi g.1), (1, v269)]) rfl (by rw [Sl.form o271.flat]; kernel_rfl)) (aW 14 rfl (by kernel_rfl) rfl ?_)
       have C276 := cg [8] (ch258.n.seq ((ch264.l rfl).seq (ch270.l rfl)))
       replace bx229 := bx229.ca C276
       refine aC (cs' := [vi g.1, v269]) ak rfl rfl bx229 rfl (Nat.le_of_ble_eq_true rfl) (AllOne.all (.cons rfl (.cons (bm o271.flat) .nil))) rfl ?_
       intro w273 ch274 bx275
       clear bx229
       have hs277 := hs272.seq (ch274.l rfl)
       refine ⟨hs277.same, ?_⟩
       refine cA (by kernel_rfl) ?_
       have C278 := cg [8, 10] (ch85.n.seq (ch226.n.seq (ch258.n.seq ((ch264.l rfl).seq ((ch270.l rfl).seq (ch274.l rfl))))))
       replace Rr := Rr.cn ch85
       replace bx20 := bx20.cn ch85
       exact mid (b227, v269, g267) _ _ ⟨bH.ca C278, z84_1, z84_4, z84_6, z84_7, z84_8, rfl, (Rg.ca hs277), (Rr.ca hs277), (bx5.ca hs277), (bx10.ca hs277), (bx15.ca hs277), (bx20.ca hs277), o271.ce ch274, bx275⟩
    clear Rg Rr bx5 bx10 bx15 bx20 bH
    rintro ⟨b107, v101, g281⟩ f279 w280 ⟨bH, zs1, zs4, zs6, zs7, zs8, zs19, Rg, Rr, bx5, bx10, bx15, bx20, o103, bx113⟩
    refine a9 (a8 rfl (lx (ad Try.underlying24 rfl rfl zs4 rfl) (lx (af bo rfl bx5 rfl) (lx (aO Try.underlying22 rfl Rg) (lx (du (m := 2) (n := (g.2.length : Int)) rfl rfl (by omega)) (ai (2 * (g.2.length : Int)) (aa (a9 ?_))))))))
    clear bx5
    refine a8 rfl (mz zs1 (lo (aV (aD (vals := [r_v]) Try.func70 uM u1 rfl) (lu w280 r r_v (Rr).ro (by omega) (by exact nT hm hrp)) ?_)))
    rintro ⟨d283, v285⟩ w282 ⟨fr284, o286⟩
    obtain ⟨g287, ch288, G287⟩ := dw g281 fr284 (fun n => if n = 1 then 11 else 0)
    replace o286 := o286.gl G287 11
    refine ma v285 (aa (a9 (a9 (a8 rfl ?_))))
    replace bx10 := bx10.cn ch288
    refine lx (aq (ds := [vi a.1, vi a.2]) dG zs6 bx10 rfl rfl) ?_
    replace bx15 := bx15.cn ch288
    refine lx (aq (ds := [vi b.1, vi b.2]) dG zs7 bx15 rfl rfl) (lw (Value.bool (decide (a = b))) (ji (bs := [decide (a.1 = b.1), decide (a.2 = b.2)]) Try.underlying55 (by kernel_rfl) (by kernel_rfl) rfl rfl (.cons (by decide +kernel) am rfl rfl (.int Try.underlying3) (.cons (by decide +kernel) am rfl rfl (.int Try.underlying3) .nil)) (by simp [Prod.ext_iff, Bool.decide_and, Bool.and_assoc])) (aa ?_))
    by_cases p16 : a = b
    ·
     refine ae rfl (dt p16) ?_
     clear bx15
     refine a8 rfl (mv v285 (lx (aq (ds := [vi a.1, vi a.2]) dG zs6 bx10 rfl rfl) (mi (2 * (g.2.length : Int)) (mi (2 * (g.2.length : Int)) (lx (aQ (m := 2 * (g.2.length : Int)) (n := 1) rfl rfl (by omega)) (lo (aA (α := Int) g287 (is 12) (is 12) (12, 0) rfl ([2 * (g.2.length : Int), (2 * (g.2.length : Int)) + 1] : List Int) Try.underlying27 am (by decide) (by decide) (vs := [(0, vi (2 * (g.2.length : Int))), (1, vi ((2 * (g.2.length : Int)) + 1))]) rfl rfl (.cons rfl (.cons rfl .nil)) ?_)))))))
     intro g289 w290 v291 ch292 o293
     refine lo (dv (aD (vals := [v285, vg [vi a.1, vi a.2], v291]) Try.func77 mK mX rfl) (az Try.func77 rfl (Nat.le_of_ble_eq_true rfl) ?_))
     replace o286 := o286.cn ch292
     have hix_c1 := mZ (gI r a.1) a.2
     refine a9 (a8 rfl (cr rfl (bR g289 (is 13) (13, 0) rfl rfl ?_)))
     intro g297 w294 b296 ch295 bx298
     replace bx298 : Bx g297 (is 13) w294 b296 [vi a.1, vi a.2] := bx298
     refine aa (a9 (ck g297 rfl fp (by kernel_rfl) ?_))
     intro w300 ch299
     refine qm v285 (qx (fun w' hw' => ad Try.underlying55 rfl rfl rfl rfl) ?_)
     replace bx298 := bx298.cn ch299
     refine qx (fun w' hw' => af am rfl (bx298.bel hw') rfl) ?_
     replace o286 := (o286.cn ch295).cn ch299
     refine qx (fun w' hw' => ab (v := v285) (i := a.1) Try.underlying26 rfl rfl (o286.sl.bel hw') rfl (by omega) (by omega)) ?_
     obtain ⟨v301, cel302, r303⟩ := bY (r := a.1) o286 (by omega) (by omega)
     refine qx (fun w' hw' => aS aL rfl (cX cel302 hw')) (qx (fun w' hw' => ad Try.underlying55 rfl rfl rfl rfl) (qx (fun w' hw' => af am rfl (bx298.bel hw') rfl) (eL (v := vi (bf (gI r a.1) a.2)) rfl (fun w' hw' => aD (vals := [v301, vi a.2]) Try.func71 j2 iX rfl) (fun w' hw' => (fN w' (gI r a.1) v301 ((r303.row_sl.bel hw')).ro a.2).mono fun e w2 h2 => ⟨h2.1, hw'.trans (h2.2.mono hw'.size)⟩) (qx (fun w' hw' => aQ (m := bf (gI r a.1) a.2) (n := 1) rfl rfl (by omega)) (qv (vi ((bf (gI r a.1) a.2) + 1)) (fun w' hw' => bz rfl) (cV ?_))))))
     intro w304 hc305
     replace hc305 := aG hc305 g297
     clear cel302 r303
     refine cx g297 (bW [11]) fp ?_
     intro w307 ch306
     refine ht (v := v285) 0 rfl (bq.refl _ _ _) (fun w' hw' => au rfl) (ht 1 rfl (bq.refl _ _ _) (fun w' hw' => ad Try.underlying55 rfl rfl rfl rfl) ?_)
     replace bx298 := (bx298.cn hc305).cn ch306
     refine ht 2 rfl (bq.refl _ _ _) (fun w' hw' => af am rfl (bx298.chg hw' (bQ rfl)) rfl) (ht (v := v285) 3 rfl (bq.refl _ _ _) (fun w' hw' => au rfl) (ht 4 rfl (bq.refl _ _ _) (fun w' hw' => ad Try.underlying55 rfl rfl rfl rfl) (ht 5 rfl (bq.refl _ _ _) (fun w' hw' => af am rfl (bx298.chg hw' (bQ rfl)) rfl) (ht (v := vi ((bf (gI r a.1) a.2) + 1)) 8 rfl (bq.refl _ _ _) (fun w' hw' => au rfl) (ht (v := v291) 9 rfl (bq.refl _ _ _) (fun w' hw' => au rfl) (aW 6 rfl (by kernel_rfl) rfl ?_))))))
     replace o286 := (o286.cn hc305).cn ch306
     refine aJ (v := Value.pointer (some (ba v285 1 (Int.toNat a.1)))) (ab (α := List Int) (xs := r) (v := v285) (i := a.1) Try.underlying26 rfl rfl o286.sl rfl (by omega) (by omega)) ?_
     refine ⟨(bq.refl _ _ _), ?_⟩
     refine aW 7 rfl (by kernel_rfl) rfl ?_
     obtain ⟨v308, cel309, r310⟩ := bY (r := a.1) o286 (by omega) (by omega)
     refine aJ (v := v308) (aS aL rfl cel309) ?_
     refine ⟨(bq.refl _ _ _), ?_⟩
     refine aW 10 rfl (by kernel_rfl) rfl ?_
     have C317 := cg [] (ch295.n.seq (ch299.n.seq (hc305.n.seq ch306.n)))
     replace o293 := o293.ca C317
     refine aV (σ := aE × Value) (V := fun x => x.2) (aD (vals := [v308, vi ((bf (gI r a.1) a.2) + 1), v291]) Try.func100 kY lc rfl) (jM wf (γ := g297) (J := row 11 (Int.toNat a.1 + 1)) (K := is 12) (S := row 11 (Int.toNat a.1 + 1)) (xs := gI r a.1) (ys := ([2 * (g.2.length : Int), (2 * (g.2.length : Int)) + 1] : List Int)) (i := (bf (gI r a.1) a.2) + 1) (11, Int.toNat a.1 + 1) rfl r310 o293 (iS rfl) (by omega) (by omega) (by simp) (by (simp only [List.length_cons, List.length_nil]; omega))) ?_
     rintro ⟨g311, v313⟩ w312 ⟨ch314, o315⟩
     have o316 := o286.rowchg ch314
     clear o286 cel309 r310
     have hs318 : bq (bW [11]) _ _ _ _ := ch314.lr rfl
     refine ⟨hs318.same, ?_⟩
     refine aW 11 rfl (by kernel_rfl) rfl ?_
     obtain ⟨us319, hl320, r321⟩ := o316.vc
     try simp only [List.length_set, List.length_append, List.length_cons, List.length_nil] at hl320
     refine aJ (v := Value.pointer (some (ba v285 1 (Int.toNat a.1)))) (ab (α := Vc) (xs := us319) (v := v285) (i := a.1) Try.underlying26 rfl rfl r321 rfl (by omega) (by omega)) ?_
     refine ⟨hs318.same, ?_⟩
     refine aW 12 rfl (by kernel_rfl) rfl (bI (r := a.1) aL rfl rfl o316 o315 (by omega) (by omega) ?_)
     intro w325 ch326 o327
     clear o316 o315
     have hs328 := hs318.seq (ch326.l rfl)
     refine ⟨hs328.same, ?_⟩
     refine cA (by kernel_rfl) (gN (vs := []) Try.func77 .nil ?_)
     refine ⟨vt [], rfl, ?_⟩
     refine aa (a9 ?_)
     clear bx10 o293 bx298
     refine a8 rfl ?_
     have C329 := cg [11] (ch288.n.seq (ch292.n.seq (ch295.n.seq (ch299.n.seq (hc305.n.seq (ch306.n.seq ((ch314.lr rfl).seq (ch326.l rfl))))))))
     replace bx113 := bx113.ca C329
     refine lx (aq (ds := [vi g.1, v101]) ak zs19 bx113 rfl rfl) (mv v285 ?_)
     replace o103 := o103.ca C329
     refine lo (aV (aD (vals := [vg [vi g.1, v101], v285]) Try.func55 kN kt rfl) (iw w325 (g.1, (g.2 ++ ([(a.1, b.1)] : List ((Int) × (Int))))) v101 (o103.flat).ro (List.set r (Int.toNat a.1) (List.take (Int.toNat ((bf (gI r a.1) a.2) + 1)) (gI r a.1) ++ ([2 * (g.2.length : Int), (2 * (g.2.length : Int)) + 1] : List Int) ++ List.drop (Int.toNat ((bf (gI r a.1) a.2) + 1)) (gI r a.1))) v285 (o327.sl).ro) ?_)
     rintro ⟨d331, v333⟩ w330 ⟨fr332, o334⟩
     obtain ⟨g335, ch336, G335⟩ := dw g311 fr332 (fun n => if n = 1 then 14 else 0)
     replace o334 := o334.gl G335 14
     refine mv (vt [v333, vi ((cH (g.1, (g.2 ++ ([(a.1, b.1)] : List ((Int) × (Int))))) (List.set r (Int.toNat a.1) (List.take (Int.toNat ((bf (gI r a.1) a.2) + 1)) (gI r a.1) ++ ([2 * (g.2.length : Int), (2 * (g.2.length : Int)) + 1] : List Int) ++ List.drop (Int.toNat ((bf (gI r a.1) a.2) + 1)) (gI r a.1)))).2)]) (lx (aH rfl rfl) (lx (aH rfl rfl) (ma v333 (aa (a9 ?_)))))
     clear o327
     refine a8 rfl ?_
     replace bx113 := bx113.cn ch336
     refine lx (aq (ds := [vi g.1, v101]) ak zs19 bx113 rfl rfl) (mv v333 (lo ?_))
     have C340 := cg [11] (ch288.n.seq (ch292.n.seq (ch295.n.seq (ch299.n.seq (hc305.n.seq (ch306.n.seq ((ch314.lr rfl).seq ((ch326.l rfl).seq ch336.n))))))))
     replace bx20 := bx20.ca C340
     replace o103 := o103.cn ch336
     refine aC (cs' := [vi g.1, v101]) ak zs8 rfl bx20 rfl (Nat.le_of_ble_eq_true rfl) (AllOne.all (.cons rfl (.cons (bm o103.flat) .nil))) rfl ?_
     intro w337 ch338 bx339
     clear bx20
     refine ma v333 (ai 0 (aa (av (vs := [vg [vi g.1, v101], v333, vi 0]) Try.func30 (.cell zs8 (bk (ds := [vi g.1, v101]) ak bx339 rfl rfl) (.tmp rfl (.tmp rfl .nil))) ?_)))
     have C341 := cg [4, 11] (ch288.n.seq (ch292.n.seq (ch295.n.seq (ch299.n.seq (hc305.n.seq (ch306.n.seq ((ch314.lr rfl).seq ((ch326.l rfl).seq (ch336.n.seq (ch338.l rfl))))))))))
     replace bH := bH.ca C341
     replace o103 := o103.ce ch338
     replace o334 := o334.ce ch338
     have e0 : ((g.1, (g.2 ++ ([(a.1, b.1)] : List ((Int) × (Int))))) : (Int) × (List ((Int) × (Int)))) = ((bg g r a b).1) := by
       (rw [gE ‹_› ‹_› ‹_› ‹_› ‹_›]
        (unfold eS; rw [if_pos ‹_›]; rfl))
     have e1 : ((cH (g.1, (g.2 ++ ([(a.1, b.1)] : List ((Int) × (Int))))) (List.set r (Int.toNat a.1) (List.take (Int.toNat ((bf (gI r a.1) a.2) + 1)) (gI r a.1) ++ ([2 * (g.2.length : Int), (2 * (g.2.length : Int)) + 1] : List Int) ++ List.drop (Int.toNat ((bf (gI r a.1) a.2) + 1)) (gI r a.1)))).1 : bj) = ((bg g r a b).2.1) := by
       (rw [gE ‹_› ‹_› ‹_› ‹_› ‹_›]
        (unfold eS; rw [if_pos ‹_›]; rfl))
     have e2 : (0 : Int) = ((bg g r a b).2.2) := by
       (rw [gE ‹_› ‹_› ‹_› ‹_› ‹_›]
        done)
     exact ⟨(fin w0 g335 (fun n => if n = 8 then 1 else if n = 14 then 2 else 0), v101, v333), (cq (a := (g.1, (g.2 ++ ([(a.1, b.1)] : List ((Int) × (Int)))))) (b := (cH (g.1, (g.2 ++ ([(a.1, b.1)] : List ((Int) × (Int))))) (List.set r (Int.toNat a.1) (List.take (Int.toNat ((bf (gI r a.1) a.2) + 1)) (gI r a.1) ++ ([2 * (g.2.length : Int), (2 * (g.2.length : Int)) + 1] : List Int) ++ List.drop (Int.toNat ((bf (gI r a.1) a.2) + 1)) (gI r a.1)))).1) (c := 0) (fun (z0 : (Int) × (List ((Int) × (Int)))) (z1 : bj) (z2 : Int) => Ending.returned (vt [vg [vi z0.1, v101], v333, vi z2])) e0 e1 e2), bH.fresh _, ((congrArg (fun (z : (Int) × (List ((Int) × (Int)))) => z.2) e0) ▸ (o103.glue (γ := c0) (ren := (fun n => if n = 8 then 1 else if n = 14 then 2 else 0)) (k := 1) bH.col rfl rfl)), (e1 ▸ (o334.glue (γ := c0) (ren := (fun n => if n = 8 then 1 else if n = 14 then 2 else 0)) (k := 2) bH.col rfl rfl))⟩
    refine ag rfl (df p16) (a9 (a8 rfl (mv v285 (lx (aq (ds := [vi a.1, vi a.2]) dG zs6 bx10 rfl rfl) (mi (2 * (g.2.length : Int)) (lo (aA (α := Int) g287 (is 15) (is 15) (15, 0) rfl ([2 * (g.2.length : Int)] : List Int) Try.underlying27 am (by decide) (by decide) (vs := [(0, vi (2 * (g.2.length : Int)))]) rfl rfl (.cons rfl .nil) ?_)))))))
    intro g342 w343 v344 ch345 o346
    refine lo (dv (aD (vals := [v285, vg [vi a.1, vi a.2], v344]) Try.func77 mK mX rfl) (az Try.func77 rfl (Nat.le_of_ble_eq_true rfl) ?_))
    replace o286 := o286.cn ch345
    have hix_c2 := mZ (gI r a.1) a.2
    refine a9 (a8 rfl (cr rfl (bR g342 (is 16) (16, 0) rfl rfl ?_)))
    intro g350 w347 b349 ch348 bx351
    replace bx351 : Bx g350 (is 16) w347 b349 [vi a.1, vi a.2] := bx351
    refine aa (a9 (ck g350 rfl fp (by kernel_rfl) ?_))
    intro w353 ch352
    refine qm v285 (qx (fun w' hw' => ad Try.underlying55 rfl rfl rfl rfl) ?_)
    replace bx351 := bx351.cn ch352
    refine qx (fun w' hw' => af am rfl (bx351.bel hw') rfl) ?_
    replace o286 := (o286.cn ch348).cn ch352
    refine qx (fun w' hw' => ab (v := v285) (i := a.1) Try.underlying26 rfl rfl (o286.sl.bel hw') rfl (by omega) (by omega)) ?_
    obtain ⟨v354, cel355, r356⟩ := bY (r := a.1) o286 (by omega) (by omega)
    refine qx (fun w' hw' => aS aL rfl (cX cel355 hw')) (qx (fun w' hw' => ad Try.underlying55 rfl rfl rfl rfl) (qx (fun w' hw' => af am rfl (bx351.bel hw') rfl) (eL (v := vi (bf (gI r a.1) a.2)) rfl (fun w' hw' => aD (vals := [v354, vi a.2]) Try.func71 j2 iX rfl) (fun w' hw' => (fN w' (gI r a.1) v354 ((r356.row_sl.bel hw')).ro a.2).mono fun e w2 h2 => ⟨h2.1, hw'.trans (h2.2.mono hw'.size)⟩) (qx (fun w' hw' => aQ (m := bf (gI r a.1) a.2) (n := 1) rfl rfl (by omega)) (qv (vi ((bf (gI r a.1) a.2) + 1)) (fun w' hw' => bz rfl) (cV ?_))))))
    intro w357 hc358
    replace hc358 := aG hc358 g350
    clear cel355 r356
    refine cx g350 (bW [11]) fp ?_
    intro w360 ch359
    refine ht (v := v285) 0 rfl (bq.refl _ _ _) (fun w' hw' => au rfl) (ht 1 rfl (bq.refl _ _ _) (fun w' hw' => ad Try.underlying55 rfl rfl rfl rfl) ?_)
    replace bx351 := (bx351.cn hc358).cn ch359
    refine ht 2 rfl (bq.refl _ _ _) (fun w' hw' => af am rfl (bx351.chg hw' (bQ rfl)) rfl) (ht (v := v285) 3 rfl (bq.refl _ _ _) (fun w' hw' => au rfl) (ht 4 rfl (bq.refl _ _ _) (fun w' hw' => ad Try.underlying55 rfl rfl rfl rfl) (ht 5 rfl (bq.refl _ _ _) (fun w' hw' => af am rfl (bx351.chg hw' (bQ rfl)) rfl) (ht (v := vi ((bf (gI r a.1) a.2) + 1)) 8 rfl (bq.refl _ _ _) (fun w' hw' => au rfl) (ht (v := v344) 9 rfl (bq.refl _ _ _) (fun w' hw' => au rfl) (aW 6 rfl (by kernel_rfl) rfl ?_))))))
    replace o286 := (o286.cn hc358).cn ch359
    refine aJ (v := Value.pointer (some (ba v285 1 (Int.toNat a.1)))) (ab (α := List Int) (xs := r) (v := v285) (i := a.1) Try.underlying26 rfl rfl o286.sl rfl (by omega) (by omega)) ?_
    refine ⟨(bq.refl _ _ _), ?_⟩
    refine aW 7 rfl (by kernel_rfl) rfl ?_
    obtain ⟨v361, cel362, r363⟩ := bY (r := a.1) o286 (by omega) (by omega)
    refine aJ (v := v361) (aS aL rfl cel362) ?_
    refine ⟨(bq.refl _ _ _), ?_⟩
    refine aW 10 rfl (by kernel_rfl) rfl ?_
    have C370 := cg [] (ch348.n.seq (ch352.n.seq (hc358.n.seq ch359.n)))
    replace o346 := o346.ca C370
    refine aV (σ := aE × Value) (V := fun x => x.2) (aD (vals := [v361, vi ((bf (gI r a.1) a.2) + 1), v344]) Try.func100 kY lc rfl) (jM wf (γ := g350) (J := row 11 (Int.toNat a.1 + 1)) (K := is 15) (S := row 11 (Int.toNat a.1 + 1)) (xs := gI r a.1) (ys := ([2 * (g.2.length : Int)] : List Int)) (i := (bf (gI r a.1) a.2) + 1) (11, Int.toNat a.1 + 1) rfl r363 o346 (iS rfl) (by omega) (by omega) (by simp) (by (simp only [List.length_cons, List.length_nil]; omega))) ?_
    rintro ⟨g364, v366⟩ w365 ⟨ch367, o368⟩
    have o369 := o286.rowchg ch367
    clear o286 cel362 r363
    have hs371 : bq (bW [11]) _ _ _ _ := ch367.lr rfl
    refine ⟨hs371.same, ?_⟩
    refine aW 11 rfl (by kernel_rfl) rfl ?_
    obtain ⟨us372, hl373, r374⟩ := o369.vc
    try simp only [List.length_set, List.length_append, List.length_cons, List.length_nil] at hl373
    refine aJ (v := Value.pointer (some (ba v285 1 (Int.toNat a.1)))) (ab (α := Vc) (xs := us372) (v := v285) (i := a.1) Try.underlying26 rfl rfl r374 rfl (by omega) (by omega)) ?_
    refine ⟨hs371.same, ?_⟩
    refine aW 12 rfl (by kernel_rfl) rfl (bI (r := a.1) aL rfl rfl o369 o368 (by omega) (by omega) ?_)
    intro w378 ch379 o380
    clear o369 o368
    have hs381 := hs371.seq (ch379.l rfl)
    refine ⟨hs381.same, ?_⟩
    refine cA (by kernel_rfl) (gN (vs := []) Try.func77 .nil ?_)
    refine ⟨vt [], rfl, ?_⟩
    refine aa ?_
    clear bx10 o346 bx351
    refine a8 rfl (mv v285 ?_)
    have C382 := cg [11] (ch345.n.seq (ch348.n.seq (ch352.n.seq (hc358.n.seq (ch359.n.seq ((ch367.lr rfl).seq (ch379.l rfl)))))))
    replace bx15 := bx15.ca C382
    refine lx (aq (ds := [vi b.1, vi b.2]) dG zs7 bx15 rfl rfl) (mi (2 * (g.2.length : Int)) (lx (aQ (m := 2 * (g.2.length : Int)) (n := 1) rfl rfl (by omega)) (lo (aA (α := Int) g364 (is 17) (is 17) (17, 0) rfl ([(2 * (g.2.length : Int)) + 1] : List Int) Try.underlying27 am (by decide) (by decide) (vs := [(0, vi ((2 * (g.2.length : Int)) + 1))]) rfl rfl (.cons rfl .nil) ?_))))
    intro g383 w384 v385 ch386 o387
    refine lo (dv (aD (vals := [v285, vg [vi b.1, vi b.2], v385]) Try.func77 mK mX rfl) (az Try.func77 rfl (Nat.le_of_ble_eq_true rfl) ?_))
    replace o380 := o380.cn ch386
    have hix_c3 := mZ (gI (List.set r (Int.toNat a.1) (List.take (Int.toNat ((bf (gI r a.1) a.2) + 1)) (gI r a.1) ++ ([2 * (g.2.length : Int)] : List Int) ++ List.drop (Int.toNat ((bf (gI r a.1) a.2) + 1)) (gI r a.1))) b.1) b.2
    refine a9 (a8 rfl (cr rfl (bR g383 (is 18) (18, 0) rfl rfl ?_)))
    intro g391 w388 b390 ch389 bx392
    replace bx392 : Bx g391 (is 18) w388 b390 [vi b.1, vi b.2] := bx392
    refine aa (a9 (ck g391 rfl fp (by kernel_rfl) ?_))
    intro w394 ch393
    refine qm v285 (qx (fun w' hw' => ad Try.underlying55 rfl rfl rfl rfl) ?_)
    replace bx392 := bx392.cn ch393
    refine qx (fun w' hw' => af am rfl (bx392.bel hw') rfl) ?_
    replace o380 := (o380.cn ch389).cn ch393
    refine qx (fun w' hw' => ab (v := v285) (i := b.1) Try.underlying26 rfl rfl (o380.sl.bel hw') rfl (by omega) (by (simp only [List.length_set, List.length_append, List.length_cons, List.length_nil, List.length_replicate, List.length_map, List.length_take, List.length_drop]; omega))) ?_
    obtain ⟨v395, cel396, r397⟩ := bY (r := b.1) o380 (by omega) (by (simp only [List.length_set, List.length_append, List.length_cons, List.length_nil, List.length_replicate, List.length_map, List.length_take, List.length_drop]; omega))
    refine qx (fun w' hw' => aS aL rfl (cX cel396 hw')) (qx (fun w' hw' => ad Try.underlying55 rfl rfl rfl rfl) (qx (fun w' hw' => af am rfl (bx392.bel hw') rfl) (eL (v := vi (bf (gI (List.set r (Int.toNat a.1) (List.take (Int.toNat ((bf (gI r a.1) a.2) + 1)) (gI r a.1) ++ ([2 * (g.2.length : Int)] : List Int) ++ List.drop (Int.toNat ((bf (gI r a.1) a.2) + 1)) (gI r a.1))) b.1) b.2)) rfl (fun w' hw' => aD (vals := [v395, vi b.2]) Try.func71 j2 iX rfl) (fun w' hw' => (fN w' (gI (List.set r (Int.toNat a.1) (List.take (Int.toNat ((bf (gI r a.1) a.2) + 1)) (gI r a.1) ++ ([2 * (g.2.length : Int)] : List Int) ++ List.drop (Int.toNat ((bf (gI r a.1) a.2) + 1)) (gI r a.1))) b.1) v395 ((r397.row_sl.bel hw')).ro b.2).mono fun e w2 h2 => ⟨h2.1, hw'.trans (h2.2.mono hw'.size)⟩) ?_)))
    refine qx (fun w' hw' => aQ (m := bf (gI (List.set r (Int.toNat a.1) (List.take (Int.toNat ((bf (gI r a.1) a.2) + 1)) (gI r a.1) ++ ([2 * (g.2.length : Int)] : List Int) ++ List.drop (Int.toNat ((bf (gI r a.1) a.2) + 1)) (gI r a.1))) b.1) b.2) (n := 1) rfl rfl (by (have h7 := kU (r := r) (c := a) (hs := [2 * (g.2.length : Int)]) hca0 hca9 (v := b.1) hcb0; unfold eX at h7; simp only [List.length_cons, List.length_nil] at h7 ⊢; omega))) (qv (vi ((bf (gI (List.set r (Int.toNat a.1) (List.take (Int.toNat ((bf (gI r a.1) a.2) + 1)) (gI r a.1) ++ ([2 * (g.2.length : Int)] : List Int) ++ List.drop (Int.toNat ((bf (gI r a.1) a.2) + 1)) (gI r a.1))) b.1) b.2) + 1)) (fun w' hw' => bz rfl) (cV ?_))
    intro w398 hc399
    replace hc399 := aG hc399 g391
    clear cel396 r397
    refine cx g391 (bW [11]) fp ?_
    intro w401 ch400
    refine ht (v := v285) 0 rfl (bq.refl _ _ _) (fun w' hw' => au rfl) (ht 1 rfl (bq.refl _ _ _) (fun w' hw' => ad Try.underlying55 rfl rfl rfl rfl) ?_)
    replace bx392 := (bx392.cn hc399).cn ch400
    refine ht 2 rfl (bq.refl _ _ _) (fun w' hw' => af am rfl (bx392.chg hw' (bQ rfl)) rfl) (ht (v := v285) 3 rfl (bq.refl _ _ _) (fun w' hw' => au rfl) (ht 4 rfl (bq.refl _ _ _) (fun w' hw' => ad Try.underlying55 rfl rfl rfl rfl) (ht 5 rfl (bq.refl _ _ _) (fun w' hw' => af am rfl (bx392.chg hw' (bQ rfl)) rfl) (ht (v := vi ((bf (gI (List.set r (Int.toNat a.1) (List.take (Int.toNat ((bf (gI r a.1) a.2) + 1)) (gI r a.1) ++ ([2 * (g.2.length : Int)] : List Int) ++ List.drop (Int.toNat ((bf (gI r a.1) a.2) + 1)) (gI r a.1))) b.1) b.2) + 1)) 8 rfl (bq.refl _ _ _) (fun w' hw' => au rfl) (ht (v := v385) 9 rfl (bq.refl _ _ _) (fun w' hw' => au rfl) (aW 6 rfl (by kernel_rfl) rfl ?_))))))
    replace o380 := (o380.cn hc399).cn ch400
    refine aJ (v := Value.pointer (some (ba v285 1 (Int.toNat b.1)))) (ab (α := List Int) (xs := (List.set r (Int.toNat a.1) (List.take (Int.toNat ((bf (gI r a.1) a.2) + 1)) (gI r a.1) ++ ([2 * (g.2.length : Int)] : List Int) ++ List.drop (Int.toNat ((bf (gI r a.1) a.2) + 1)) (gI r a.1)))) (v := v285) (i := b.1) Try.underlying26 rfl rfl o380.sl rfl (by omega) (by (simp only [List.length_set, List.length_append, List.length_cons, List.length_nil, List.length_replicate, List.length_map, List.length_take, List.length_drop]; omega))) ?_
    refine ⟨(bq.refl _ _ _), ?_⟩
    refine aW 7 rfl (by kernel_rfl) rfl ?_
    obtain ⟨v402, cel403, r404⟩ := bY (r := b.1) o380 (by omega) (by (simp only [List.length_set, List.length_append, List.length_cons, List.length_nil, List.length_replicate, List.length_map, List.length_take, List.length_drop]; omega))
    refine aJ (v := v402) (aS aL rfl cel403) ?_
    refine ⟨(bq.refl _ _ _), ?_⟩
    refine aW 10 rfl (by kernel_rfl) rfl ?_
    have C411 := cg [] (ch389.n.seq (ch393.n.seq (hc399.n.seq ch400.n)))
    replace o387 := o387.ca C411
    refine aV (σ := aE × Value) (V := fun x => x.2) (aD (vals := [v402, vi ((bf (gI (List.set r (Int.toNat a.1) (List.take (Int.toNat ((bf (gI r a.1) a.2) + 1)) (gI r a.1) ++ ([2 * (g.2.length : Int)] : List Int) ++ List.drop (Int.toNat ((bf (gI r a.1) a.2) + 1)) (gI r a.1))) b.1) b.2) + 1), v385]) Try.func100 kY lc rfl) (jM wf (γ := g391) (J := row 11 (Int.toNat b.1 + 1)) (K := is 17) (S := row 11 (Int.toNat b.1 + 1)) (xs := gI (List.set r (Int.toNat a.1) (List.take (Int.toNat ((bf (gI r a.1) a.2) + 1)) (gI r a.1) ++ ([2 * (g.2.length : Int)] : List Int) ++ List.drop (Int.toNat ((bf (gI r a.1) a.2) + 1)) (gI r a.1))) b.1) (ys := ([(2 * (g.2.length : Int)) + 1] : List Int)) (i := (bf (gI (List.set r (Int.toNat a.1) (List.take (Int.toNat ((bf (gI r a.1) a.2) + 1)) (gI r a.1) ++ ([2 * (g.2.length : Int)] : List Int) ++ List.drop (Int.toNat ((bf (gI r a.1) a.2) + 1)) (gI r a.1))) b.1) b.2) + 1) (11, Int.toNat b.1 + 1) rfl r404 o387 (iS rfl) (by omega) (by omega) (by simp) (by (have h7 := kU (r := r) (c := a) (hs := [2 * (g.2.length : Int)]) hca0 hca9 (v := b.1) hcb0; unfold eX at h7; simp only [List.length_cons, List.length_nil] at h7 ⊢; omega))) ?_
    rintro ⟨g405, v407⟩ w406 ⟨ch408, o409⟩
    have o410 := o380.rowchg ch408
    clear o380 cel403 r404
    have hs412 : bq (bW [11]) _ _ _ _ := ch408.lr rfl
    refine ⟨hs412.same, ?_⟩
    refine aW 11 rfl (by kernel_rfl) rfl ?_
    obtain ⟨us413, hl414, r415⟩ := o410.vc
    try simp only [List.length_set, List.length_append, List.length_cons, List.length_nil] at hl414
    refine aJ (v := Value.pointer (some (ba v285 1 (Int.toNat b.1)))) (ab (α := Vc) (xs := us413) (v := v285) (i := b.1) Try.underlying26 rfl rfl r415 rfl (by omega) (by omega)) ?_
    refine ⟨hs412.same, ?_⟩
    refine aW 12 rfl (by kernel_rfl) rfl (bI (r := b.1) aL rfl rfl o410 o409 (by omega) (by (simp only [List.length_set, List.length_append, List.length_cons, List.length_nil, List.length_replicate, List.length_map, List.length_take, List.length_drop]; omega)) ?_)
    intro w419 ch420 o421
    clear o410 o409
    have hs422 := hs412.seq (ch420.l rfl)
    refine ⟨hs422.same, ?_⟩
    refine cA (by kernel_rfl) (gN (vs := []) Try.func77 .nil ?_)
    refine ⟨vt [], rfl, ?_⟩
    refine aa (a9 ?_)
    clear bx15 o387 bx392
    refine a8 rfl ?_
    have C423 := cg [11] (ch288.n.seq (ch345.n.seq (ch348.n.seq (ch352.n.seq (hc358.n.seq (ch359.n.seq ((ch367.lr rfl).seq ((ch379.l rfl).seq (ch386.n.seq (ch389.n.seq (ch393.n.seq (hc399.n.seq (ch400.n.seq ((ch408.lr rfl).seq (ch420.l rfl)))))))))))))))
    replace bx113 := bx113.ca C423
    refine lx (aq (ds := [vi g.1, v101]) ak zs19 bx113 rfl rfl) (mv v285 ?_)
    replace o103 := o103.ca C423
    refine lo ?_
    refine aV (aD (vals := [vg [vi g.1, v101], v285]) Try.func55 kN kt rfl) (iw w419 (g.1, (g.2 ++ ([(a.1, b.1)] : List ((Int) × (Int))))) v101 (o103.flat).ro (List.set (List.set r (Int.toNat a.1) (List.take (Int.toNat ((bf (gI r a.1) a.2) + 1)) (gI r a.1) ++ ([2 * (g.2.length : Int)] : List Int) ++ List.drop (Int.toNat ((bf (gI r a.1) a.2) + 1)) (gI r a.1))) (Int.toNat b.1) (List.take (Int.toNat ((bf (gI (List.set r (Int.toNat a.1) (List.take (Int.toNat ((bf (gI r a.1) a.2) + 1)) (gI r a.1) ++ ([2 * (g.2.length : Int)] : List Int) ++ List.drop (Int.toNat ((bf (gI r a.1) a.2) + 1)) (gI r a.1))) b.1) b.2) + 1)) (gI (List.set r (Int.toNat a.1) (List.take (Int.toNat ((bf (gI r a.1) a.2) + 1)) (gI r a.1) ++ ([2 * (g.2.length : Int)] : List Int) ++ List.drop (Int.toNat ((bf (gI r a.1) a.2) + 1)) (gI r a.1))) b.1) ++ ([(2 * (g.2.length : Int)) + 1] : List Int) ++ List.drop (Int.toNat ((bf (gI (List.set r (Int.toNat a.1) (List.take (Int.toNat ((bf (gI r a.1) a.2) + 1)) (gI r a.1) ++ ([2 * (g.2.length : Int)] : List Int) ++ List.drop (Int.toNat ((bf (gI r a.1) a.2) + 1)) (gI r a.1))) b.1) b.2) + 1)) (gI (List.set r (Int.toNat a.1) (List.take (Int.toNat ((bf (gI r a.1) a.2) + 1)) (gI r a.1) ++ ([2 * (g.2.length : Int)] : List Int) ++ List.drop (Int.toNat ((bf (gI r a.1) a.2) + 1)) (gI r a.1))) b.1))) v285 (o421.sl).ro) ?_
    rintro ⟨d425, v427⟩ w424 ⟨fr426, o428⟩
    obtain ⟨g429, ch430, G429⟩ := dw g405 fr426 (fun n => if n = 1 then 14 else 0)
    replace o428 := o428.gl G429 14
    refine mv (vt [v427, vi ((cH (g.1, (g.2 ++ ([(a.1, b.1)] : List ((Int) × (Int))))) (List.set (List.set r (Int.toNat a.1) (List.take (Int.toNat ((bf (gI r a.1) a.2) + 1)) (gI r a.1) ++ ([2 * (g.2.length : Int)] : List Int) ++ List.drop (Int.toNat ((bf (gI r a.1) a.2) + 1)) (gI r a.1))) (Int.toNat b.1) (List.take (Int.toNat ((bf (gI (List.set r (Int.toNat a.1) (List.take (Int.toNat ((bf (gI r a.1) a.2) + 1)) (gI r a.1) ++ ([2 * (g.2.length : Int)] : List Int) ++ List.drop (Int.toNat ((bf (gI r a.1) a.2) + 1)) (gI r a.1))) b.1) b.2) + 1)) (gI (List.set r (Int.toNat a.1) (List.take (Int.toNat ((bf (gI r a.1) a.2) + 1)) (gI r a.1) ++ ([2 * (g.2.length : Int)] : List Int) ++ List.drop (Int.toNat ((bf (gI r a.1) a.2) + 1)) (gI r a.1))) b.1) ++ ([(2 * (g.2.length : Int)) + 1] : List Int) ++ List.drop (Int.toNat ((bf (gI (List.set r (Int.toNat a.1) (List.take (Int.toNat ((bf (gI r a.1) a.2) + 1)) (gI r a.1) ++ ([2 * (g.2.length : Int)] : List Int) ++ List.drop (Int.toNat ((bf (gI r a.1) a.2) + 1)) (gI r a.1))) b.1) b.2) + 1)) (gI (List.set r (Int.toNat a.1) (List.take (Int.toNat ((bf (gI r a.1) a.2) + 1)) (gI r a.1) ++ ([2 * (g.2.length : Int)] : List Int) ++ List.drop (Int.toNat ((bf (gI r a.1) a.2) + 1)) (gI r a.1))) b.1)))).2)]) ?_
    refine lx (aH rfl rfl) (lx (aH rfl rfl) (ma v427 (aa (a9 ?_))))
    clear o421
    refine a8 rfl ?_
    replace bx113 := bx113.cn ch430
    refine lx (aq (ds := [vi g.1, v101]) ak zs19 bx113 rfl rfl) (mv v427 (lo ?_))
    have C434 := cg [11] (ch288.n.seq (ch345.n.seq (ch348.n.seq (ch352.n.seq (hc358.n.seq (ch359.n.seq ((ch367.lr rfl).seq ((ch379.l rfl).seq (ch386.n.seq (ch389.n.seq (ch393.n.seq (hc399.n.seq (ch400.n.seq ((ch408.lr rfl).seq ((ch420.l rfl).seq ch430.n)))))))))))))))
    replace bx20 := bx20.ca C434
    replace o103 := o103.cn ch430
    refine aC (cs' := [vi g.1, v101]) ak zs8 rfl bx20 rfl (Nat.le_of_ble_eq_true rfl) (AllOne.all (.cons rfl (.cons (bm o103.flat) .nil))) rfl ?_
    intro w431 ch432 bx433
    clear bx20
    refine ma v427 (ai 0 (aa (av (vs := [vg [vi g.1, v101], v427, vi 0]) Try.func30 (.cell zs8 (bk (ds := [vi g.1, v101]) ak bx433 rfl rfl) (.tmp rfl (.tmp rfl .nil))) ?_)))
    have C435 := cg [4, 11] (ch288.n.seq (ch345.n.seq (ch348.n.seq (ch352.n.seq (hc358.n.seq (ch359.n.seq ((ch367.lr rfl).seq ((ch379.l rfl).seq (ch386.n.seq (ch389.n.seq (ch393.n.seq (hc399.n.seq (ch400.n.seq ((ch408.lr rfl).seq ((ch420.l rfl).seq (ch430.n.seq (ch432.l rfl)))))))))))))))))
    replace bH := bH.ca C435
    replace o103 := o103.ce ch432
    replace o428 := o428.ce ch432
    have e0 : ((g.1, (g.2 ++ ([(a.1, b.1)] : List ((Int) × (Int))))) : (Int) × (List ((Int) × (Int)))) = ((bg g r a b).1) := by
      (rw [gE ‹_› ‹_› ‹_› ‹_› ‹_›]
       (unfold eS; rw [if_neg ‹_›]; rfl))
    have e1 : ((cH (g.1, (g.2 ++ ([(a.1, b.1)] : List ((Int) × (Int))))) (List.set (List.set r (Int.toNat a.1) (List.take (Int.toNat ((bf (gI r a.1) a.2) + 1)) (gI r a.1) ++ ([2 * (g.2.length : Int)] : List Int) ++ List.drop (Int.toNat ((bf (gI r a.1) a.2) + 1)) (gI r a.1))) (Int.toNat b.1) (List.take (Int.toNat ((bf (gI (List.set r (Int.toNat a.1) (List.take (Int.toNat ((bf (gI r a.1) a.2) + 1)) (gI r a.1) ++ ([2 * (g.2.length : Int)] : List Int) ++ List.drop (Int.toNat ((bf (gI r a.1) a.2) + 1)) (gI r a.1))) b.1) b.2) + 1)) (gI (List.set r (Int.toNat a.1) (List.take (Int.toNat ((bf (gI r a.1) a.2) + 1)) (gI r a.1) ++ ([2 * (g.2.length : Int)] : List Int) ++ List.drop (Int.toNat ((bf (gI r a.1) a.2) + 1)) (gI r a.1))) b.1) ++ ([(2 * (g.2.length : Int)) + 1] : List Int) ++ List.drop (Int.toNat ((bf (gI (List.set r (Int.toNat a.1) (List.take (Int.toNat ((bf (gI r a.1) a.2) + 1)) (gI r a.1) ++ ([2 * (g.2.length : Int)] : List Int) ++ List.drop (Int.toNat ((bf (gI r a.1) a.2) + 1)) (gI r a.1))) b.1) b.2) + 1)) (gI (List.set r (Int.toNat a.1) (List.take (Int.toNat ((bf (gI r a.1) a.2) + 1)) (gI r a.1) ++ ([2 * (g.2.length : Int)] : List Int) ++ List.drop (Int.toNat ((bf (gI r a.1) a.2) + 1)) (gI r a.1))) b.1)))).1 : bj) = ((bg g r a b).2.1) := by
      (rw [gE ‹_› ‹_› ‹_› ‹_› ‹_›]
       (unfold eS; rw [if_neg ‹_›]; rfl))
    have e2 : (0 : Int) = ((bg g r a b).2.2) := by
      (rw [gE ‹_› ‹_› ‹_› ‹_› ‹_›]
       done)
    exact ⟨(fin w0 g429 (fun n => if n = 8 then 1 else if n = 14 then 2 else 0), v101, v427), (cq (a := (g.1, (g.2 ++ ([(a.1, b.1)] : List ((Int) × (Int)))))) (b := (cH (g.1, (g.2 ++ ([(a.1, b.1)] : List ((Int) × (Int))))) (List.set (List.set r (Int.toNat a.1) (List.take (Int.toNat ((bf (gI r a.1) a.2) + 1)) (gI r a.1) ++ ([2 * (g.2.length : Int)] : List Int) ++ List.drop (Int.toNat ((bf (gI r a.1) a.2) + 1)) (gI r a.1))) (Int.toNat b.1) (List.take (Int.toNat ((bf (gI (List.set r (Int.toNat a.1) (List.take (Int.toNat ((bf (gI r a.1) a.2) + 1)) (gI r a.1) ++ ([2 * (g.2.length : Int)] : List Int) ++ List.drop (Int.toNat ((bf (gI r a.1) a.2) + 1)) (gI r a.1))) b.1) b.2) + 1)) (gI (List.set r (Int.toNat a.1) (List.take (Int.toNat ((bf (gI r a.1) a.2) + 1)) (gI r a.1) ++ ([2 * (g.2.length : Int)] : List Int) ++ List.drop (Int.toNat ((bf (gI r a.1) a.2) + 1)) (gI r a.1))) b.1) ++ ([(2 * (g.2.length : Int)) + 1] : List Int) ++ List.drop (Int.toNat ((bf (gI (List.set r (Int.toNat a.1) (List.take (Int.toNat ((bf (gI r a.1) a.2) + 1)) (gI r a.1) ++ ([2 * (g.2.length : Int)] : List Int) ++ List.drop (Int.toNat ((bf (gI r a.1) a.2) + 1)) (gI r a.1))) b.1) b.2) + 1)) (gI (List.set r (Int.toNat a.1) (List.take (Int.toNat ((bf (gI r a.1) a.2) + 1)) (gI r a.1) ++ ([2 * (g.2.length : Int)] : List Int) ++ List.drop (Int.toNat ((bf (gI r a.1) a.2) + 1)) (gI r a.1))) b.1)))).1) (c := 0) (fun (z0 : (Int) × (List ((Int) × (Int)))) (z1 : bj) (z2 : Int) => Ending.returned (vt [vg [vi z0.1, v101], v427, vi z2])) e0 e1 e2), bH.fresh _, ((congrArg (fun (z : (Int) × (List ((Int) × (Int)))) => z.2) e0) ▸ (o103.glue (γ := c0) (ren := (fun n => if n = 8 then 1 else if n = 14 then 2 else 0)) (k := 1) bH.col rfl rfl)), (e1 ▸ (o428.glue (γ := c0) (ren := (fun n => if n = 8 then 1 else if n = 14 then 2 else 0)) (k := 2) bH.col rfl rfl))⟩
   refine ae rfl (congrArg Bool.not (Bool.eq_false_iff.2 p4)) (a9 ?_)
   clear bx5 bx10 bx15 o27
   refine a8 rfl (lw (vg [vi 0, vn]) (bn (vs := []) rfl (by kernel_rfl)) (lo ?_))
   have C439 := cg [] (ch29.n.seq (hb32.n.seq hb35.n))
   replace bx20 := bx20.ca C439
   refine aC (cs' := [vi 0, vn]) ak rfl rfl bx20 rfl (Nat.le_of_ble_eq_true rfl) (AllOne.all (.cons rfl (.cons rfl .nil))) rfl ?_
   intro w436 ch437 bx438
   clear bx20
   refine ma vn (ai 2 (aa (av (vs := [vg [vi 0, vn], vn, vi 2]) Try.func30 (.cell rfl (bk (ds := [vi 0, vn]) ak bx438 rfl rfl) (.tmp rfl (.tmp rfl .nil))) ?_)))
   have C440 := cg [4] (ch2.n.seq (ch7.n.seq (ch12.n.seq (ch17.n.seq (ch29.n.seq (hb32.n.seq (hb35.n.seq (ch437.l rfl))))))))
   replace bH := bH.ca C440
   have e0 : ((0, []) : (Int) × (List ((Int) × (Int)))) = ((bg g r a b).1) := by
     rw [fY ‹_› (by exact .inr ‹_›)]
   have e1 : ([] : bj) = ((bg g r a b).2.1) := by
     rw [fY ‹_› (by exact .inr ‹_›)]
   have e2 : (2 : Int) = ((bg g r a b).2.2) := by
     rw [fY ‹_› (by exact .inr ‹_›)]
   exact ⟨(fin w0 g28 (fun n => 0), vn, vn), (cq (a := (0, [])) (b := []) (c := 2) (fun (z0 : (Int) × (List ((Int) × (Int)))) (z1 : bj) (z2 : Int) => Ending.returned (vt [vg [vi z0.1, vn], vn, vi z2])) e0 e1 e2), bH.fresh _, ((congrArg (fun (z : (Int) × (List ((Int) × (Int)))) => z.2) e0) ▸ Ow.nil), (e1 ▸ cj.nil)⟩
  refine al (wn (congrArg Bool.not (Bool.eq_false_iff.2 q39))) (al (wn (congrArg Bool.not (Bool.eq_false_iff.2 q39))) (al (wn (congrArg Bool.not (Bool.eq_false_iff.2 q39))) (al (wn (congrArg Bool.not (Bool.eq_false_iff.2 q39))) (al (wn (congrArg Bool.not (Bool.eq_false_iff.2 q39))) (lw (Value.bool true) (aY rfl (congrArg Bool.not (Bool.eq_false_iff.2 q39)) rfl) (ma (Value.bool true) (aa (ae rfl rfl (a9 ?_)))))))))
  clear bx5 bx10 bx15 o27
  refine a8 rfl (lw (vg [vi 0, vn]) (bn (vs := []) rfl (by kernel_rfl)) (lo ?_))
  replace bx20 := (bx20.cn ch29).cn hb32
  refine aC (cs' := [vi 0, vn]) ak rfl rfl bx20 rfl (Nat.le_of_ble_eq_true rfl) (AllOne.all (.cons rfl (.cons rfl .nil))) rfl ?_
  intro w441 ch442 bx443
  clear bx20
  refine ma vn (ai 2 (aa (av (vs := [vg [vi 0, vn], vn, vi 2]) Try.func30 (.cell rfl (bk (ds := [vi 0, vn]) ak bx443 rfl rfl) (.tmp rfl (.tmp rfl .nil))) ?_)))
  have C444 := cg [4] (ch2.n.seq (ch7.n.seq (ch12.n.seq (ch17.n.seq (ch29.n.seq (hb32.n.seq (ch442.l rfl)))))))
  replace bH := bH.ca C444
  have e0 : ((0, []) : (Int) × (List ((Int) × (Int)))) = ((bg g r a b).1) := by
    rw [fY ‹_› (by exact .inl ‹_›)]
  have e1 : ([] : bj) = ((bg g r a b).2.1) := by
    rw [fY ‹_› (by exact .inl ‹_›)]
  have e2 : (2 : Int) = ((bg g r a b).2.2) := by
    rw [fY ‹_› (by exact .inl ‹_›)]
  exact ⟨(fin w0 g28 (fun n => 0), vn, vn), (cq (a := (0, [])) (b := []) (c := 2) (fun (z0 : (Int) × (List ((Int) × (Int)))) (z1 : bj) (z2 : Int) => Ending.returned (vt [vg [vi z0.1, vn], vn, vi z2])) e0 e1 e2), bH.fresh _, ((congrArg (fun (z : (Int) × (List ((Int) × (Int)))) => z.2) e0) ▸ Ow.nil), (e1 ▸ cj.nil)⟩
 refine ae rfl (congrArg Bool.not (df p2)) (a9 ?_)
 clear bx5 bx10 bx15 o27
 refine a8 rfl (lw (vg [vi 0, vn]) (bn (vs := []) rfl (by kernel_rfl)) (mi ((ar g r).2) (lo ?_)))
 replace bx20 := bx20.cn ch29
 refine aC (cs' := [vi 0, vn]) ak rfl rfl bx20 rfl (Nat.le_of_ble_eq_true rfl) (AllOne.all (.cons rfl (.cons rfl .nil))) rfl ?_
 intro w445 ch446 bx447
 clear bx20
 refine ma vn (ai ((ar g r).2) (aa (av (vs := [vg [vi 0, vn], vn, vi ((ar g r).2)]) Try.func30 (.cell rfl (bk (ds := [vi 0, vn]) ak bx447 rfl rfl) (.tmp rfl (.tmp rfl .nil))) ?_)))
 have C448 := cg [4] (ch2.n.seq (ch7.n.seq (ch12.n.seq (ch17.n.seq (ch29.n.seq (ch446.l rfl))))))
 replace bH := bH.ca C448
 have e0 : ((0, []) : (Int) × (List ((Int) × (Int)))) = ((bg g r a b).1) := by
   rw [kB ‹_›]
 have e1 : ([] : bj) = ((bg g r a b).2.1) := by
   rw [kB ‹_›]
 have e2 : ((ar g r).2 : Int) = ((bg g r a b).2.2) := by
   rw [kB ‹_›]
 exact ⟨(fin w0 g28 (fun n => 0), vn, vn), (cq (a := (0, [])) (b := []) (c := (ar g r).2) (fun (z0 : (Int) × (List ((Int) × (Int)))) (z1 : bj) (z2 : Int) => Ending.returned (vt [vg [vi z0.1, vn], vn, vi z2])) e0 e1 e2), bH.fresh _, ((congrArg (fun (z : (Int) × (List ((Int) × (Int)))) => z.2) e0) ▸ Ow.nil), (e1 ▸ cj.nil)⟩
end TL
