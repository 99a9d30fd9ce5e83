import Derived.Test.YtilohhkbelkmdaaTlP3
import Derived.Test.YtilohhkbelkmdaaTlGenA
import Derived.Test.YtilohhkbelkmdaaTlGenC
import Derived.Test.YtilohhkbelkmdaaProg
set_option linter.all false
set_option maxRecDepth 20000
namespace TL
open Go Go.Proofs
theorem tS : Try.prog.follows .mixedOrders = true := by kernel_rfl
theorem re (w0 : World) (g : (Int) × (List ((Int) × (Int)))) (g_v : Value) (hg_v : Ro w0 g_v g.2) (e : Int) :
    Calls Try.prog 69 #[vg [vi g.1, g_v], vi e] w0 (fun ee w => ∃ xx : aE × Value, ee = .returned ((fun ⟨δ, rv0⟩ => vt [vg [vi (((aM g e).1).1), rv0], vi ((aM g e).2)]) xx) ∧ (fun (⟨δ, rv0⟩ : aE × Value) (w : World) => cC w0 δ w ∧ Ow δ (is 1) (is 1) w rv0 (((aM g e).1).2)) xx w) := by
 refine az Try.func69 rfl (Nat.le_of_ble_eq_true rfl) ?_
 have bH := b9.start w0
 have Rg := hg_v.sl
 refine a9 (a8 rfl (cr rfl (bR c0 (is 1) (1, 0) rfl rfl ?_)))
 intro g4 w1 b3 ch2 bx5
 replace bx5 : Bx g4 (is 1) w1 b3 [vi g.1, g_v] := bx5
 refine lo (bw g4 (is 2) (2, 0) rfl ak ?_)
 intro g9 w6 b8 ch7 bx10
 replace bx10 : Bx g9 (is 2) w6 b8 [vi 0, vn] := bx10
 refine ai 0 (aa (a9 (ah (a9 (a8 rfl ?_)))))
 replace bx5 := bx5.cn ch7
 refine lx (aq (ds := [vi g.1, g_v]) ak rfl bx5 rfl rfl) ?_
 replace Rg := (Rg.cn ch2).cn ch7
 refine lo (bO (v := Value.bool (cD g)) (aD (vals := [vg [vi g.1, g_v]]) Try.func53 ll l5 rfl) (ld w6 g g_v (Rg).ro) ?_)
 intro w11 hb12
 replace hb12 := aG hb12 g9
 refine lx (dr (b := (cD g)) rfl) (ma (Value.bool (!(cD g))) (aa ?_))
 by_cases p1 : (cD g) = true
 ·
  have hm := of_decide_eq_true p1
  have hm0 := hm
  obtain ⟨hm1, hm2, hm3, hm4⟩ := hm0
  refine ag rfl (congrArg Bool.not p1) (a9 (a8 rfl (mi e (lx (bc (m := e) (n := 0) rfl rfl) (mv (Value.bool (decide (e < 0))) ?_)))))
  by_cases q16 : e < 0
  ·
   refine al (wn (dt q16)) (al (wn (dt q16)) (al (wn (dt q16)) (al (wn (dt q16)) (al (wn (dt q16)) (lw (Value.bool true) (aY rfl (dt q16) rfl) (ma (Value.bool true) (aa (ae rfl rfl (a9 ?_)))))))))
   clear bx5
   refine a8 rfl (lw (vg [vi 0, vn]) (bn (vs := []) rfl (by kernel_rfl)) (lo ?_))
   replace bx10 := bx10.cn hb12
   refine aC (cs' := [vi 0, vn]) ak rfl rfl bx10 rfl (Nat.le_of_ble_eq_true rfl) (AllOne.all (.cons rfl (.cons rfl .nil))) rfl ?_
   intro w13 ch14 bx15
   clear bx10
   refine ai 2 (aa (av (vs := [vg [vi 0, vn], vi 2]) Try.func69 (.cell rfl (bk (ds := [vi 0, vn]) ak bx15 rfl rfl) (.tmp rfl .nil)) ?_))
   have C16 := cg [2] (ch2.n.seq (ch7.n.seq (hb12.n.seq (ch14.l rfl))))
   replace bH := bH.ca C16
   have e0 : ((0, []) : (Int) × (List ((Int) × (Int)))) = ((aM g e).1) := by
     (have hn : ¬ (0 ≤ e ∧ e < (g.2.length : Int)) := fun h => by omega
      simp only [aM, if_pos hm, if_neg hn]; done)
   have e1 : (2 : Int) = ((aM g e).2) := by
     (have hn : ¬ (0 ≤ e ∧ e < (g.2.length : Int)) := fun h => by omega
      simp only [aM, if_pos hm, if_neg hn]; done)
   exact ⟨(fin w0 g9 (fun n => 0), vn), (ci (a := (0, [])) (b := 2) (fun (z0 : (Int) × (List ((Int) × (Int)))) (z1 : Int) => Ending.returned (vt [vg [vi z0.1, vn], vi z1])) e0 e1), bH.fresh _, ((congrArg (fun (z : (Int) × (List ((Int) × (Int)))) => z.2) e0) ▸ Ow.nil)⟩
  refine lv (vi e) (wy (df q16)) (au rfl) (lv (vp b3 1) (wy (df q16)) (ad Try.underlying24 rfl rfl rfl rfl) ?_)
  replace bx5 := bx5.cn hb12
  refine lv (g_v) (wy (df q16)) (af bo rfl bx5 rfl) ?_
  replace Rg := Rg.cn hb12
  have len17 := (Rg).small
  refine lv (vi (g.2.length : Int)) (wy (df q16)) (aO Try.underlying22 rfl Rg) (lv (Value.bool (decide ((g.2.length : Int) ≤ e))) (wy (df q16)) (dy (m := e) (n := (g.2.length : Int)) rfl rfl) (lw (Value.bool (decide ((g.2.length : Int) ≤ e))) (b7 rfl (df q16) rfl) (ma (Value.bool (decide ((g.2.length : Int) ≤ e))) (aa ?_))))
  by_cases p3 : (g.2.length : Int) ≤ e
  ·
   refine ae rfl (dt p3) (a9 ?_)
   clear bx5
   refine a8 rfl (lw (vg [vi 0, vn]) (bn (vs := []) rfl (by kernel_rfl)) (lo ?_))
   replace bx10 := bx10.cn hb12
   refine aC (cs' := [vi 0, vn]) ak rfl rfl bx10 rfl (Nat.le_of_ble_eq_true rfl) (AllOne.all (.cons rfl (.cons rfl .nil))) rfl ?_
   intro w18 ch19 bx20
   clear bx10
   refine ai 2 (aa (av (vs := [vg [vi 0, vn], vi 2]) Try.func69 (.cell rfl (bk (ds := [vi 0, vn]) ak bx20 rfl rfl) (.tmp rfl .nil)) ?_))
   have C21 := cg [2] (ch2.n.seq (ch7.n.seq (hb12.n.seq (ch19.l rfl))))
   replace bH := bH.ca C21
   have e0 : ((0, []) : (Int) × (List ((Int) × (Int)))) = ((aM g e).1) := by
     (have hn : ¬ (0 ≤ e ∧ e < (g.2.length : Int)) := fun h => by omega
      simp only [aM, if_pos hm, if_neg hn]; done)
   have e1 : (2 : Int) = ((aM g e).2) := by
     (have hn : ¬ (0 ≤ e ∧ e < (g.2.length : Int)) := fun h => by omega
      simp only [aM, if_pos hm, if_neg hn]; done)
   exact ⟨(fin w0 g9 (fun n => 0), vn), (ci (a := (0, [])) (b := 2) (fun (z0 : (Int) × (List ((Int) × (Int)))) (z1 : Int) => Ending.returned (vt [vg [vi z0.1, vn], vi z1])) e0 e1), bH.fresh _, ((congrArg (fun (z : (Int) × (List ((Int) × (Int)))) => z.2) e0) ▸ Ow.nil)⟩
  refine ag rfl (df p3) (a9 (a8 rfl (lx (ad Try.underlying24 rfl rfl rfl rfl) (lx (af am rfl bx5 rfl) (lx (dy (m := g.1) (n := 1024) rfl rfl) (mv (Value.bool (decide (1024 ≤ g.1))) ?_))))))
  by_cases q28 : 1024 ≤ g.1
  ·
   refine al (wn (dt q28)) (al (wn (dt q28)) (al (wn (dt q28)) (al (wn (dt q28)) (lw (Value.bool true) (aY rfl (dt q28) rfl) (ma (Value.bool true) (aa (ae rfl rfl (a9 ?_))))))))
   clear bx5
   refine a8 rfl (lw (vg [vi 0, vn]) (bn (vs := []) rfl (by kernel_rfl)) (lo ?_))
   replace bx10 := bx10.cn hb12
   refine aC (cs' := [vi 0, vn]) ak rfl rfl bx10 rfl (Nat.le_of_ble_eq_true rfl) (AllOne.all (.cons rfl (.cons rfl .nil))) rfl ?_
   intro w22 ch23 bx24
   clear bx10
   refine ai 3 (aa (av (vs := [vg [vi 0, vn], vi 3]) Try.func69 (.cell rfl (bk (ds := [vi 0, vn]) ak bx24 rfl rfl) (.tmp rfl .nil)) ?_))
   have C25 := cg [2] (ch2.n.seq (ch7.n.seq (hb12.n.seq (ch23.l rfl))))
   replace bH := bH.ca C25
   have e0 : ((0, []) : (Int) × (List ((Int) × (Int)))) = ((aM g e).1) := by
     (have hn : ¬ (g.1 < 1024 ∧ g.2.length < 3072) := fun h => by omega
      have ha : 0 ≤ e ∧ e < (g.2.length : Int) := by omega
      simp only [aM, if_pos hm, if_pos ha, if_neg hn]; done)
   have e1 : (3 : Int) = ((aM g e).2) := by
     (have hn : ¬ (g.1 < 1024 ∧ g.2.length < 3072) := fun h => by omega
      have ha : 0 ≤ e ∧ e < (g.2.length : Int) := by omega
      simp only [aM, if_pos hm, if_pos ha, if_neg hn]; done)
   exact ⟨(fin w0 g9 (fun n => 0), vn), (ci (a := (0, [])) (b := 3) (fun (z0 : (Int) × (List ((Int) × (Int)))) (z1 : Int) => Ending.returned (vt [vg [vi z0.1, vn], vi z1])) e0 e1), bH.fresh _, ((congrArg (fun (z : (Int) × (List ((Int) × (Int)))) => z.2) e0) ▸ Ow.nil)⟩
  refine lv (vp b3 1) (wy (df q28)) (ad Try.underlying24 rfl rfl rfl rfl) (lv (g_v) (wy (df q28)) (af bo rfl bx5 rfl) (lv (vi (g.2.length : Int)) (wy (df q28)) (aO Try.underlying22 rfl Rg) (lv (Value.bool (decide (3072 ≤ (g.2.length : Int)))) (wy (df q28)) (dy (m := (g.2.length : Int)) (n := 3072) rfl rfl) (lw (Value.bool (decide (3072 ≤ (g.2.length : Int)))) (b7 rfl (df q28) rfl) (ma (Value.bool (decide (3072 ≤ (g.2.length : Int)))) (aa ?_))))))
  by_cases p5 : 3072 ≤ (g.2.length : Int)
  ·
   refine ae rfl (dt p5) (a9 ?_)
   clear bx5
   refine a8 rfl (lw (vg [vi 0, vn]) (bn (vs := []) rfl (by kernel_rfl)) (lo ?_))
   replace bx10 := bx10.cn hb12
   refine aC (cs' := [vi 0, vn]) ak rfl rfl bx10 rfl (Nat.le_of_ble_eq_true rfl) (AllOne.all (.cons rfl (.cons rfl .nil))) rfl ?_
   intro w26 ch27 bx28
   clear bx10
   refine ai 3 (aa (av (vs := [vg [vi 0, vn], vi 3]) Try.func69 (.cell rfl (bk (ds := [vi 0, vn]) ak bx28 rfl rfl) (.tmp rfl .nil)) ?_))
   have C29 := cg [2] (ch2.n.seq (ch7.n.seq (hb12.n.seq (ch27.l rfl))))
   replace bH := bH.ca C29
   have e0 : ((0, []) : (Int) × (List ((Int) × (Int)))) = ((aM g e).1) := by
     (have hn : ¬ (g.1 < 1024 ∧ g.2.length < 3072) := fun h => by omega
      have ha : 0 ≤ e ∧ e < (g.2.length : Int) := by omega
      simp only [aM, if_pos hm, if_pos ha, if_neg hn]; done)
   have e1 : (3 : Int) = ((aM g e).2) := by
     (have hn : ¬ (g.1 < 1024 ∧ g.2.length < 3072) := fun h => by omega
      have ha : 0 ≤ e ∧ e < (g.2.length : Int) := by omega
      simp only [aM, if_pos hm, if_pos ha, if_neg hn]; done)
   exact ⟨(fin w0 g9 (fun n => 0), vn), (ci (a := (0, [])) (b := 3) (fun (z0 : (Int) × (List ((Int) × (Int)))) (z1 : Int) => Ending.returned (vt [vg [vi z0.1, vn], vi z1])) e0 e1), bH.fresh _, ((congrArg (fun (z : (Int) × (List ((Int) × (Int)))) => z.2) e0) ▸ Ow.nil)⟩
  refine ag rfl (df p5) (aj (ao (a9 (a8 rfl (lx (aq (ds := [vi g.1, g_v]) ak rfl bx5 rfl rfl) (lo (aV (aD (vals := [vg [vi g.1, g_v]]) Try.func95 vR vQ rfl) (qH w11 g g_v (Rg).ro (by exact hm)) ?_)))))))
  rintro ⟨d31, v33⟩ w30 ⟨fr32, o34⟩
  obtain ⟨g35, ch36, G35⟩ := dw g9 fr32 (fun n => if n = 1 then 3 else 0)
  replace o34 := o34.gl G35 3
  refine lo (bw g35 (is 4) (4, 0) rfl ak ?_)
  intro g40 w37 b39 ch38 bx41
  replace bx41 : Bx g40 (is 4) w37 b39 [vi 0, vn] := bx41
  refine lo ?_
  replace o34 := o34.cn ch38
  refine aC (cs' := [vi g.1, v33]) ak rfl rfl bx41 rfl (Nat.le_of_ble_eq_true rfl) (AllOne.all (.cons rfl (.cons (bm o34.flat) .nil))) rfl ?_
  intro w42 ch43 bx44
  clear bx41
  refine aa (a9 (a8 rfl (lx (ad Try.underlying24 rfl rfl rfl rfl) (lx (af bo rfl bx44 rfl) (mi e ?_)))))
  replace o34 := o34.ce ch43
  refine lx (ab (v := v33) (i := e) Try.underlying22 rfl rfl o34.flat rfl (by omega) (by omega)) (lx (bV Try.underlying60 rfl rfl rfl (by decide) (by decide) rfl) (lx (cF (v := v33) (i := e) am rfl o34.flat (by omega) (by omega) (by decide) rfl) (ai ((gI g.2 e).2) (aa (a9 (ch g40 [0, 1, 2, 3, 4, 5, 6] tS ?_))))))
  intro w46 ch45
  refine xp 0 rfl (fun w => ad Try.underlying24 rfl rfl rfl rfl) ?_
  replace bx44 := bx44.cn ch45
  refine xv 1 [0, 2, 3, 4] rfl (af bo rfl bx44 rfl) (xp (v := vi e) 2 rfl (fun w => au rfl) (xp 3 rfl (fun w => ad Try.underlying24 rfl rfl rfl rfl) ?_))
  have C47 := cg [4] (ch36.n.seq (ch38.n.seq ((ch43.l rfl).seq ch45.n)))
  replace bx5 := bx5.ca C47
  refine xv 4 [3, 2, 1, 0, 5] rfl (af am rfl bx5 rfl) ?_
  replace o34 := o34.cn ch45
  refine xv 5 [4, 3, 2, 1, 0] rfl (ab (v := v33) (i := e) Try.underlying22 rfl rfl o34.flat rfl (by omega) (by omega)) (xv 6 [5, 4, 3, 2, 1, 0] rfl (bV Try.underlying60 rfl rfl rfl (by decide) (by decide) rfl) (bM 7 rfl (by kernel_rfl) rfl (kf (i := e) (q := 1) ((gI g.2 e).1, g.1) am rfl rfl o34 (by omega) (by omega) (by decide) rfl rfl rfl ?_)))
  intro w48 ch49 bx50
  clear o34
  refine cO (by kernel_rfl) (a9 (a8 rfl (lx (ad Try.underlying24 rfl rfl rfl rfl) ?_)))
  replace bx44 := bx44.ce ch49
  refine lx (af bo rfl bx44 rfl) (lx (ad Try.underlying24 rfl rfl rfl rfl) ?_)
  replace bx5 := bx5.ce ch49
  refine lx (af am rfl bx5 rfl) (mi ((gI g.2 e).2) (lw (vg [vi g.1, vi ((gI g.2 e).2)]) (bn (vs := [(0, vi g.1), (1, vi ((gI g.2 e).2))]) rfl (by kernel_rfl)) (lo (aA (α := (Int) × (Int)) g40 (is 5) (is 5) (5, 0) rfl [(g.1, (gI g.2 e).2)] Try.underlying22 bD (by decide) (by decide) (vs := [(0, vg [vi g.1, vi ((gI g.2 e).2)])]) rfl rfl (.cons rfl .nil) ?_))))
  intro g51 w52 v53 ch54 o55
  refine lo ?_
  replace bx50 := bx50.cn ch54
  refine aR (α := (Int) × (Int)) (xs := (List.set g.2 (Int.toNat e) ((gI g.2 e).1, g.1))) (ys := ([(g.1, (gI g.2 e).2)])) g51 (J := is 3) (S := is 3) (3, 0) rfl Try.underlying22 bD (by decide) rfl rfl rfl bx50 o55.flat (by decide) (by (simp; omega)) ?_
  intro g56 w57 v58 ch59 o60
  clear bx50
  refine lx (ad Try.underlying24 rfl rfl rfl rfl) (lo ?_)
  replace bx44 := (bx44.cn ch54).ce ch59
  refine cK (cs' := [vi g.1, v58]) bo rfl rfl bx44 (c6 o60.flat) (Nat.le_of_ble_eq_true rfl) (bm o60.flat) rfl ?_
  intro w61 ch62 bx63
  clear bx44
  refine aa (a9 ?_)
  clear bx5 o55
  refine a8 rfl (lx (ad Try.underlying24 rfl rfl rfl rfl) (lx (af am rfl bx63 rfl) (lx (aQ (m := g.1) (n := 1) rfl rfl (by omega)) (lx (ad Try.underlying24 rfl rfl rfl rfl) (lo (aC (cs' := [vi (g.1 + 1), v58]) am rfl rfl bx63 rfl (Nat.le_of_ble_eq_true rfl) (AllOne.all (.cons rfl .nil)) rfl ?_))))))
  intro w64 ch65 bx66
  clear bx63
  refine aa (a9 (a8 rfl (lx (aq (ds := [vi (g.1 + 1), v58]) ak rfl bx66 rfl rfl) (lo ?_))))
  have C70 := cg [3, 4] (hb12.n.seq (ch36.n.seq (ch38.n.seq ((ch43.l rfl).seq (ch45.n.seq ((ch49.l rfl).seq (ch54.n.seq ((ch59.l rfl).seq ((ch62.l rfl).seq (ch65.l rfl))))))))))
  replace bx10 := bx10.ca C70
  replace o60 := (o60.ce ch62).ce ch65
  refine aC (cs' := [vi (g.1 + 1), v58]) ak rfl rfl bx10 rfl (Nat.le_of_ble_eq_true rfl) (AllOne.all (.cons rfl (.cons (bm o60.flat) .nil))) rfl ?_
  intro w67 ch68 bx69
  clear bx10
  refine ai 0 (aa (av (vs := [vg [vi (g.1 + 1), v58], vi 0]) Try.func69 (.cell rfl (bk (ds := [vi (g.1 + 1), v58]) ak bx69 rfl rfl) (.tmp rfl .nil)) ?_))
  have C71 := cg [2, 3, 4] (ch2.n.seq (ch7.n.seq (hb12.n.seq (ch36.n.seq (ch38.n.seq ((ch43.l rfl).seq (ch45.n.seq ((ch49.l rfl).seq (ch54.n.seq ((ch59.l rfl).seq ((ch62.l rfl).seq ((ch65.l rfl).seq (ch68.l rfl)))))))))))))
  replace bH := bH.ca C71
  replace o60 := o60.ce ch68
  have e0 : ((g.1 + 1, ((List.set g.2 (Int.toNat e) ((gI g.2 e).1, g.1)) ++ [(g.1, (gI g.2 e).2)])) : (Int) × (List ((Int) × (Int)))) = ((aM g e).1) := by
    (have hn : g.1 < 1024 ∧ g.2.length < 3072 := by omega
     have ha : 0 ≤ e ∧ e < (g.2.length : Int) := by omega
     simp only [aM, if_pos hm, if_pos ha, if_pos hn]; done)
  have e1 : (0 : Int) = ((aM g e).2) := by
    (have hn : g.1 < 1024 ∧ g.2.length < 3072 := by omega
     have ha : 0 ≤ e ∧ e < (g.2.length : Int) := by omega
     simp only [aM, if_pos hm, if_pos ha, if_pos hn]; done)
  exact ⟨(fin w0 g56 (fun n => if n = 3 then 1 else 0), v58), (ci (a := (g.1 + 1, ((List.set g.2 (Int.toNat e) ((gI g.2 e).1, g.1)) ++ [(g.1, (gI g.2 e).2)]))) (b := 0) (fun (z0 : (Int) × (List ((Int) × (Int)))) (z1 : Int) => Ending.returned (vt [vg [vi z0.1, v58], vi z1])) e0 e1), bH.fresh _, ((congrArg (fun (z : (Int) × (List ((Int) × (Int)))) => z.2) e0) ▸ (o60.glue (γ := c0) (ren := (fun n => if n = 3 then 1 else 0)) (k := 1) bH.col rfl rfl))⟩
 refine ae rfl (congrArg Bool.not (Bool.eq_false_iff.2 p1)) (a9 ?_)
 clear bx5
 refine a8 rfl (lw (vg [vi 0, vn]) (bn (vs := []) rfl (by kernel_rfl)) (lo ?_))
 replace bx10 := bx10.cn hb12
 refine aC (cs' := [vi 0, vn]) ak rfl rfl bx10 rfl (Nat.le_of_ble_eq_true rfl) (AllOne.all (.cons rfl (.cons rfl .nil))) rfl ?_
 intro w72 ch73 bx74
 clear bx10
 refine ai 1 (aa (av (vs := [vg [vi 0, vn], vi 1]) Try.func69 (.cell rfl (bk (ds := [vi 0, vn]) ak bx74 rfl rfl) (.tmp rfl .nil)) ?_))
 have C75 := cg [2] (ch2.n.seq (ch7.n.seq (hb12.n.seq (ch73.l rfl))))
 replace bH := bH.ca C75
 have e0 : ((0, []) : (Int) × (List ((Int) × (Int)))) = ((aM g e).1) := by
   (have hn : ¬ bx g := fun h => p1 (dt h)
    simp only [aM, if_neg hn]; done)
 have e1 : (1 : Int) = ((aM g e).2) := by
   (have hn : ¬ bx g := fun h => p1 (dt h)
    simp only [aM, if_neg hn]; done)
 exact ⟨(fin w0 g9 (fun n => 0), vn), (ci (a := (0, [])) (b := 1) (fun (z0 : (Int) × (List ((Int) × (Int)))) (z1 : Int) => Ending.returned (vt [vg [vi z0.1, vn], vi z1])) e0 e1), bH.fresh _, ((congrArg (fun (z : (Int) × (List ((Int) × (Int)))) => z.2) e0) ▸ Ow.nil)⟩
end TL
