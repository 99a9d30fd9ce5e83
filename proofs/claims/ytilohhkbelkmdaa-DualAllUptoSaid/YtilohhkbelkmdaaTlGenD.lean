import Derived.Test.YtilohhkbelkmdaaTlP3
import Derived.Test.YtilohhkbelkmdaaTlGenA
import Derived.Test.YtilohhkbelkmdaaProg
set_option linter.all false
set_option maxRecDepth 20000
namespace TL
open Go Go.Proofs
theorem ni : Try.prog.follows .mixedOrders = true := by kernel_rfl
theorem sh : Try.f33.body.isNone = false := rfl
theorem rW : (Try.f33.name == "runtime.NumGoroutine") = false := by decide +kernel
theorem u8 (w0 : World) (g : (Int) × (List ((Int) × (Int)))) (g_v : Value) (hg_v : Ro w0 g_v g.2) (hlen : g.2.length ≤ 1000000) :
    Calls Try.prog 13 #[vg [vi g.1, g_v]] w0 (fun ee w => ∃ xx : aE × Value, ee = .returned ((fun ⟨δ, rv0⟩ => vg [vi g.1, rv0]) xx) ∧ (fun (⟨δ, rv0⟩ : aE × Value) (w : World) => cC w0 δ w ∧ Ow δ (is 1) (is 1) w (ft rv0) (g.2 ++ [((-7 : Int), (7 : Int))])) xx w) := by
 refine az Try.func13 rfl (Nat.le_of_ble_eq_true rfl) ?_
 have bH := b9.start w0
 have Rg := hg_v.sl
 refine a9 (a8 rfl (cr rfl (bR c0 (is 1) (1, 0) rfl rfl ?_)))
 intro g4 w1 b3 ch2 bx5
 replace bx5 : Bx g4 (is 1) w1 b3 [vi g.1, g_v] := bx5
 refine lo (bw g4 (is 2) (2, 0) rfl ak ?_)
 intro g9 w6 b8 ch7 bx10
 replace bx10 : Bx g9 (is 2) w6 b8 [vi 0, vn] := bx10
 refine aa (a9 ?_)
 refine dS (σ := Value × aE) (fun ⟨v29, gq⟩ f w => b9 w0 gq w ∧ f 2 = vp b8 0 ∧ Sl gq (is 0) w g_v g.2 ∧ Ow gq (is 3) (is 3) w v29 (g.2 ++ [(-7, 7)]) ∧ Sl gq (is 3) w (db v29 2 (Int.toNat 0) (Int.toNat (g.2.length : Int))) (List.drop (Int.toNat 0) (List.take (Int.toNat (g.2.length : Int)) (g.2 ++ [(-7, 7)]))) ∧ Bx gq (is 2) w b8 [vi g.1, (db v29 2 (Int.toNat 0) (Int.toNat (g.2.length : Int)))]) g9 (bW [2, 3]) ni ?_ ?_
 ·
  intro mid
  intro w12 ch11
  refine ht 0 rfl (bq.refl _ _ _) (fun w' hw' => ad Try.underlying24 rfl rfl rfl rfl) ?_
  replace bx5 := (bx5.cn ch7).cn ch11
  refine ht 1 rfl (bq.refl _ _ _) (fun w' hw' => af am rfl (bx5.chg hw' (bQ rfl)) rfl) (ht 2 rfl (bq.refl _ _ _) (fun w' hw' => ad Try.underlying24 rfl rfl rfl rfl) (ht 3 rfl (bq.refl _ _ _) (fun w' hw' => af bo rfl (bx5.chg hw' (bQ rfl)) rfl) (ht (v := vg [vi (-7), vi 7]) 5 rfl (bq.refl _ _ _) (fun w' hw' => bn (vs := [(0, vi (-7)), (1, vi 7)]) rfl (by kernel_rfl)) (ht 8 rfl (bq.refl _ _ _) (fun w' hw' => ad Try.underlying24 rfl rfl rfl rfl) (ht 9 rfl (bq.refl _ _ _) (fun w' hw' => af bo rfl (bx5.chg hw' (bQ rfl)) rfl) ?_)))))
  have C13 := cg [] (ch2.n.seq (ch7.n.seq ch11.n))
  replace Rg := Rg.ca C13
  have len14 := (Rg).small
  refine ht 10 rfl (bq.refl _ _ _) (fun w' hw' => aO Try.underlying22 rfl Rg) ?_
  refine d8 4 [6] (by kernel_rfl) ⟨da 4 rfl (by kernel_rfl) rfl ?_, da 6 rfl (by kernel_rfl) rfl ?_, trivial⟩
  ·
   refine aR (α := (Int) × (Int)) (xs := ([])) (ys := g.2) g9 (J := is 3) (S := is 3) (3, 0) rfl Try.underlying22 bD (by decide) rfl rfl rfl Ow.nil Rg (by decide) (by (simp; omega)) ?_
   intro g15 w16 v17 ch18 o19
   replace o19 : Ow g15 (is 3) (is 3) w16 v17 g.2 := o19
   have hs20 : bq (bW [2, 3]) _ _ _ _ := ch18.l rfl
   refine ⟨hs20.same, ?_⟩
   refine aW 6 rfl (by kernel_rfl) rfl (aA (α := (Int) × (Int)) g15 (is 4) (is 4) (4, 0) rfl [(-7, 7)] Try.underlying22 bD (by decide) (by decide) (vs := [(0, vg [vi (-7), vi 7])]) rfl rfl (.cons rfl .nil) ?_)
   intro g21 w22 v23 ch24 o25
   have hs26 := hs20.seq (ch24.n)
   refine ⟨hs26.same, ?_⟩
   refine aW 7 rfl (by kernel_rfl) rfl ?_
   replace o19 := o19.cn ch24
   refine aR (α := (Int) × (Int)) (xs := g.2) (ys := ([(-7, 7)])) g21 (J := is 3) (S := is 3) (3, 0) rfl Try.underlying22 bD (by decide) rfl rfl rfl o19 o25.flat (by decide) (by (simp; omega)) ?_
   intro g27 w28 v29 ch30 o31
   clear o19
   have hs32 := hs26.seq (ch30.l rfl)
   refine ⟨hs32.same, ?_⟩
   refine ht (v := (db v29 2 (Int.toNat 0) (Int.toNat (g.2.length : Int)))) 11 rfl hs32.same (fun w' hw' => eI (v := v29) (l := 0) (h := (g.2.length : Int)) Try.underlying22 rfl rfl o31.flat (.inr ⟨rfl, rfl⟩) (.inl (congrArg some rfl)) (by omega) (by omega) (by (simp only [List.length_append, List.length_cons, List.length_nil]; omega))) ?_
   have r34 := gJ o31.flat (show Int.toNat 0 ≤ Int.toNat (g.2.length : Int) by omega) (show Int.toNat (g.2.length : Int) ≤ List.length _ by (simp only [List.length_append, List.length_cons, List.length_nil]; omega))
   refine ht (v := vg [vi g.1, (db v29 2 (Int.toNat 0) (Int.toNat (g.2.length : Int)))]) 12 rfl hs32.same (fun w' hw' => bn (vs := [(0, vi g.1), (1, (db v29 2 (Int.toNat 0) (Int.toNat (g.2.length : Int))))]) rfl (by erw [Sl.form r34]; kernel_rfl)) (aW 13 rfl (by kernel_rfl) rfl ?_)
   have C38 := cg [3] (ch11.n.seq ((ch18.l rfl).seq (ch24.n.seq (ch30.l rfl))))
   replace bx10 := bx10.ca C38
   refine aC (cs' := [vi g.1, (db v29 2 (Int.toNat 0) (Int.toNat (g.2.length : Int)))]) ak rfl rfl bx10 rfl (Nat.le_of_ble_eq_true rfl) (AllOne.all (.cons rfl (.cons (bm r34) .nil))) rfl ?_
   intro w35 ch36 bx37
   clear bx10
   have hs39 := hs32.seq (ch36.l rfl)
   refine ⟨hs39.same, ?_⟩
   refine cA (by kernel_rfl) ?_
   have C40 := cg [2, 3] (ch2.n.seq (ch7.n.seq (ch11.n.seq ((ch18.l rfl).seq (ch24.n.seq ((ch30.l rfl).seq (ch36.l rfl)))))))
   exact mid (v29, g27) _ _ ⟨bH.ca C40, rfl, (Rg.ca hs39), o31.ce ch36, r34.ce ch36, bx37⟩
  ·
   refine aA (α := (Int) × (Int)) g9 (is 4) (is 4) (4, 0) rfl [(-7, 7)] Try.underlying22 bD (by decide) (by decide) (vs := [(0, vg [vi (-7), vi 7])]) rfl rfl (.cons rfl .nil) ?_
   intro g41 w42 v43 ch44 o45
   have hs46 : bq (bW [2, 3]) _ _ _ _ := ch44.n
   refine ⟨hs46.same, ?_⟩
   refine aW 4 rfl (by kernel_rfl) rfl (aR (α := (Int) × (Int)) (xs := ([])) (ys := g.2) g41 (J := is 3) (S := is 3) (3, 0) rfl Try.underlying22 bD (by decide) rfl rfl rfl Ow.nil (Rg.ca hs46) (by decide) (by (simp; omega)) ?_)
   intro g47 w48 v49 ch50 o51
   replace o51 : Ow g47 (is 3) (is 3) w48 v49 g.2 := o51
   have hs52 := hs46.seq (ch50.l rfl)
   refine ⟨hs52.same, ?_⟩
   refine aW 7 rfl (by kernel_rfl) rfl ?_
   replace o45 := o45.ce ch50
   refine aR (α := (Int) × (Int)) (xs := g.2) (ys := ([(-7, 7)])) g47 (J := is 3) (S := is 3) (3, 0) rfl Try.underlying22 bD (by decide) rfl rfl rfl o51 o45.flat (by decide) (by (simp; omega)) ?_
   intro g53 w54 v55 ch56 o57
   clear o51
   have hs58 := hs52.seq (ch56.l rfl)
   refine ⟨hs58.same, ?_⟩
   refine ht (v := (db v55 2 (Int.toNat 0) (Int.toNat (g.2.length : Int)))) 11 rfl hs58.same (fun w' hw' => eI (v := v55) (l := 0) (h := (g.2.length : Int)) Try.underlying22 rfl rfl o57.flat (.inr ⟨rfl, rfl⟩) (.inl (congrArg some rfl)) (by omega) (by omega) (by (simp only [List.length_append, List.length_cons, List.length_nil]; omega))) ?_
   have r60 := gJ o57.flat (show Int.toNat 0 ≤ Int.toNat (g.2.length : Int) by omega) (show Int.toNat (g.2.length : Int) ≤ List.length _ by (simp only [List.length_append, List.length_cons, List.length_nil]; omega))
   refine ht (v := vg [vi g.1, (db v55 2 (Int.toNat 0) (Int.toNat (g.2.length : Int)))]) 12 rfl hs58.same (fun w' hw' => bn (vs := [(0, vi g.1), (1, (db v55 2 (Int.toNat 0) (Int.toNat (g.2.length : Int))))]) rfl (by erw [Sl.form r60]; kernel_rfl)) (aW 13 rfl (by kernel_rfl) rfl ?_)
   have C64 := cg [3] (ch11.n.seq (ch44.n.seq ((ch50.l rfl).seq (ch56.l rfl))))
   replace bx10 := bx10.ca C64
   refine aC (cs' := [vi g.1, (db v55 2 (Int.toNat 0) (Int.toNat (g.2.length : Int)))]) ak rfl rfl bx10 rfl (Nat.le_of_ble_eq_true rfl) (AllOne.all (.cons rfl (.cons (bm r60) .nil))) rfl ?_
   intro w61 ch62 bx63
   clear bx10
   have hs65 := hs58.seq (ch62.l rfl)
   refine ⟨hs65.same, ?_⟩
   refine cA (by kernel_rfl) ?_
   have C66 := cg [2, 3] (ch2.n.seq (ch7.n.seq (ch11.n.seq (ch44.n.seq ((ch50.l rfl).seq ((ch56.l rfl).seq (ch62.l rfl)))))))
   exact mid (v55, g53) _ _ ⟨bH.ca C66, rfl, (Rg.ca hs65), o57.ce ch62, r60.ce ch62, bx63⟩
 clear Rg bx5 bx10 bH
 rintro ⟨v29, g69⟩ f67 w68 ⟨bH, zs2, Rg, o31, r34, bx37⟩
 refine av (vs := [vg [vi g.1, (db v29 2 (Int.toNat 0) (Int.toNat (g.2.length : Int)))]]) Try.func13 (.cell zs2 (bk (ds := [vi g.1, (db v29 2 (Int.toNat 0) (Int.toNat (g.2.length : Int)))]) ak bx37 rfl rfl) .nil) ?_
 have e0 : ((g.1, (List.drop (Int.toNat 0) (List.take (Int.toNat (g.2.length : Int)) (g.2 ++ [(-7, 7)])))) : (Int) × (List ((Int) × (Int)))) = (g) := by
   simp
 exact ⟨(fin w0 g69 (fun n => if n = 3 then 1 else 0), (db v29 2 (Int.toNat 0) (Int.toNat (g.2.length : Int)))), (congrArg (a₁ := (g.1, (List.drop (Int.toNat 0) (List.take (Int.toNat (g.2.length : Int)) (g.2 ++ [(-7, 7)]))))) (fun (z0 : (Int) × (List ((Int) × (Int)))) => Ending.returned (vg [vi z0.1, (db v29 2 (Int.toNat 0) (Int.toNat (g.2.length : Int)))])) e0), bH.fresh _, (mW (o31.glue (γ := c0) (ren := (fun n => if n = 3 then 1 else 0)) (k := 1) bH.col rfl rfl) (by simp))⟩
theorem oz (w0 : World) (a : (Int) × (List ((Int) × (Int)))) (a_v : Value) (ha_v : Ro w0 a_v a.2) (b : (Int) × (List ((Int) × (Int)))) (b_v : Value) (hb_v : Ro w0 b_v b.2) :
    Calls Try.prog 33 #[vg [vi a.1, a_v], vg [vi b.1, b_v]] w0 (fun ee w => ee = .returned (Value.bool (decide (a = b))) ∧ dH w0.heap.size w0 w) := by
 refine az Try.func33 rfl (Nat.le_of_ble_eq_true rfl) ?_
 have bH := b9.start w0
 have Ra := ha_v.sl
 have Rb := hb_v.sl
 refine a9 (a8 rfl (cr rfl (bR c0 (is 1) (1, 0) rfl rfl ?_)))
 intro g4 w1 b3 ch2 bx5
 replace bx5 : Bx g4 (is 1) w1 b3 [vi a.1, a_v] := bx5
 refine lo (bR g4 (is 2) (2, 0) rfl rfl ?_)
 intro g9 w6 b8 ch7 bx10
 replace bx10 : Bx g9 (is 2) w6 b8 [vi b.1, b_v] := bx10
 refine ma (Value.bool false) (aa (a9 (a9 (a8 rfl (lx (ad Try.underlying24 rfl rfl rfl rfl) ?_)))))
 replace bx5 := bx5.cn ch7
 refine lx (af am rfl bx5 rfl) (lx (ad Try.underlying24 rfl rfl rfl rfl) (lx (af am rfl bx10 rfl) (lx (cl (m := a.1) (n := b.1) rfl rfl) (mv (Value.bool (!(decide (a.1 = b.1)))) ?_))))
 by_cases q11 : a.1 = b.1
 ·
  refine lv (vp b3 1) (wy (congrArg Bool.not (dt q11))) (ad Try.underlying24 rfl rfl rfl rfl) (lv (a_v) (wy (congrArg Bool.not (dt q11))) (af bo rfl bx5 rfl) ?_)
  replace Ra := (Ra.cn ch2).cn ch7
  have len11 := (Ra).small
  refine lv (vi (a.2.length : Int)) (wy (congrArg Bool.not (dt q11))) (aO Try.underlying22 rfl Ra) (lv (vp b8 1) (wy (congrArg Bool.not (dt q11))) (ad Try.underlying24 rfl rfl rfl rfl) (lv (b_v) (wy (congrArg Bool.not (dt q11))) (af bo rfl bx10 rfl) ?_))
  replace Rb := (Rb.cn ch2).cn ch7
  have len12 := (Rb).small
  refine lv (vi (b.2.length : Int)) (wy (congrArg Bool.not (dt q11))) (aO Try.underlying22 rfl Rb) (lv (Value.bool (!(decide ((a.2.length : Int) = (b.2.length : Int))))) (wy (congrArg Bool.not (dt q11))) (cl (m := (a.2.length : Int)) (n := (b.2.length : Int)) rfl rfl) (lw (Value.bool (!(decide ((a.2.length : Int) = (b.2.length : Int))))) (b7 rfl (congrArg Bool.not (dt q11)) rfl) (aa ?_)))
  by_cases p1 : (a.2.length : Int) = (b.2.length : Int)
  ·
   refine ag rfl (congrArg Bool.not (dt p1)) (aj (a9 (a9 (a8 rfl (ai 0 (aa (ah ?_)))))))
   refine aN (σ := Nat × aE) (fun ⟨k, gq⟩ f w => b9 w0 gq w ∧ f 2 = vp b3 0 ∧ f 3 = vp b8 0 ∧ f 5 = vi (k : Int) ∧ Sl gq (is 0) w a_v a.2 ∧ Sl gq (is 0) w b_v b.2 ∧ Bx gq (is 1) w b3 [vi a.1, a_v] ∧ Bx gq (is 2) w b8 [vi b.1, b_v] ∧ (k : Int) ≤ ((a.2.length : Int) : Int) ∧ (List.take k a.2 = List.take k b.2)) (fun ⟨k, gq⟩ => Int.toNat (((a.2.length : Int) : Int) - (k : Int))) (0, g9) ?_ ?_
   replace bH := bH.cn ch2
   · exact ⟨bH.cn ch7, rfl, rfl, rfl, Ra, Rb, bx5, bx10, by omega, by simp⟩
   clear Ra Rb bx5 bx10 bH
   rintro ⟨k, g15⟩ f13 w14 ⟨bH, zs2, zs3, zs5, Ra, Rb, bx5, bx10, hle_k, hinv⟩ back4
   refine a9 (a9 (a8 rfl (mz zs5 (lx (ad Try.underlying24 rfl rfl zs2 rfl) (lx (af bo rfl bx5 rfl) (lx (aO Try.underlying22 rfl Ra) (lx (bc (m := (k : Int)) (n := (a.2.length : Int)) rfl rfl) (aa ?_))))))))
   by_cases p4 : (k : Int) < (a.2.length : Int)
   ·
    refine ae rfl (dt p4) (aj (a9 (ah (a9 (ck g15 rfl ni (by kernel_rfl) ?_)))))
    intro w17 ch16
    refine qx (fun w' hw' => ad Try.underlying24 rfl rfl zs2 rfl) ?_
    replace bx5 := bx5.cn ch16
    refine qx (fun w' hw' => af bo rfl (bx5.bel hw') rfl) (qz zs5 ?_)
    replace Ra := Ra.cn ch16
    refine qx (fun w' hw' => ab (v := a_v) (i := (k : Int)) Try.underlying22 rfl rfl (Ra.bel hw') rfl (by omega) (by omega)) (qv (vg [vi ((gI a.2 (k : Int)).1), vi ((gI a.2 (k : Int)).2)]) (fun w' hw' => ep (v := a_v) (i := (k : Int)) bD rfl (Ra.bel hw') (by omega) (by omega) rfl) (qx (fun w' hw' => ad Try.underlying24 rfl rfl zs3 rfl) ?_))
    replace bx10 := bx10.cn ch16
    refine qx (fun w' hw' => af bo rfl (bx10.bel hw') rfl) (qz zs5 ?_)
    replace Rb := Rb.cn ch16
    refine qx (fun w' hw' => ab (v := b_v) (i := (k : Int)) Try.underlying22 rfl rfl (Rb.bel hw') rfl (by omega) (by omega)) (qv (vg [vi ((gI b.2 (k : Int)).1), vi ((gI b.2 (k : Int)).2)]) (fun w' hw' => ep (v := b_v) (i := (k : Int)) bD rfl (Rb.bel hw') (by omega) (by omega) rfl) (qv (Value.bool (!(decide ((gI a.2 (k : Int)) = (gI b.2 (k : Int)))))) (fun w' hw' => oJ (a := (gI a.2 (k : Int))) (b := (gI b.2 (k : Int))) Try.underlying60 Try.underlying3 am (by kernel_rfl) rfl rfl) (cV ?_)))
    intro w18 hc19
    replace hc19 := aG hc19 g15
    by_cases p6 : (gI a.2 (k : Int)) = (gI b.2 (k : Int))
    ·
     refine ag rfl (congrArg Bool.not (dt p6)) (aj (ao (a8 rfl (mz zs5 (lx (aQ (m := (k : Int)) (n := 1) rfl rfl (by omega)) (ai ((k : Int) + 1) (aa ?_)))))))
     replace bH := bH.cn ch16
     refine back4 (k + 1, g15) _ _ ⟨bH.cn hc19, zs2, zs3, rfl, Ra.cn hc19, Rb.cn hc19, bx5.cn hc19, bx10.cn hc19, by omega, ?_⟩ ?_
     · show List.take (k + 1) a.2 = List.take (k + 1) b.2
       rw [bh ‹_›, bh (by omega), hinv]; simp_all
     · show Int.toNat (((a.2.length : Int) : Int) - ((k + 1) : Int)) < Int.toNat (((a.2.length : Int) : Int) - (k : Int))
       omega
    refine ae rfl (congrArg Bool.not (df p6)) (a9 ?_)
    clear bx5 bx10
    refine a8 rfl (ma (Value.bool false) (aa (av (vs := [Value.bool false]) Try.func33 (.tmp rfl .nil) ?_)))
    have e0 : (false : Bool) = (decide (a = b)) := by
      (refine (df fun h => ?_).symm; subst h; simp_all; done)
    replace bH := bH.cn ch16
    replace bH := bH.cn hc19
    exact ⟨(congrArg (a₁ := false) (fun (z0 : Bool) => Ending.returned (Value.bool z0)) e0), bH.below⟩
   refine ag rfl (df p4) (aI rfl (a9 ?_))
   clear bx5 bx10
   refine a8 rfl (ma (Value.bool true) (aa (av (vs := [Value.bool true]) Try.func33 (.tmp rfl .nil) ?_)))
   have e0 : (true : Bool) = (decide (a = b)) := by
     (have e := hinv; rw [List.take_of_length_le (by omega), List.take_of_length_le (by omega)] at e; exact (dt (Prod.ext ‹_› e)).symm)
   exact ⟨(congrArg (a₁ := true) (fun (z0 : Bool) => Ending.returned (Value.bool z0)) e0), bH.below⟩
  refine ae rfl (congrArg Bool.not (df p1)) (a9 ?_)
  clear bx5 bx10
  refine a8 rfl (ma (Value.bool false) (aa (av (vs := [Value.bool false]) Try.func33 (.tmp rfl .nil) ?_)))
  have e0 : (false : Bool) = (decide (a = b)) := by
    (refine (df fun h => ?_).symm; subst h; simp_all; done)
  replace bH := bH.cn ch2
  replace bH := bH.cn ch7
  exact ⟨(congrArg (a₁ := false) (fun (z0 : Bool) => Ending.returned (Value.bool z0)) e0), bH.below⟩
 refine al (wn (congrArg Bool.not (df q11))) (al (wn (congrArg Bool.not (df q11))) (al (wn (congrArg Bool.not (df q11))) (al (wn (congrArg Bool.not (df q11))) (al (wn (congrArg Bool.not (df q11))) (al (wn (congrArg Bool.not (df q11))) (al (wn (congrArg Bool.not (df q11))) (lw (Value.bool true) (aY rfl (congrArg Bool.not (df q11)) rfl) (aa (ae rfl rfl ?_)))))))))
 refine a9 ?_
 clear bx5 bx10
 refine a8 rfl (ma (Value.bool false) (aa (av (vs := [Value.bool false]) Try.func33 (.tmp rfl .nil) ?_)))
 have e0 : (false : Bool) = (decide (a = b)) := by
   (refine (df fun h => ?_).symm; subst h; simp_all; done)
 replace bH := bH.cn ch2
 replace bH := bH.cn ch7
 exact ⟨(congrArg (a₁ := false) (fun (z0 : Bool) => Ending.returned (Value.bool z0)) e0), bH.below⟩
theorem uO (w0 : World) (t : (Int) × (List ((Int) × (Int)))) (t_v : Value) (ht_v : Ro w0 t_v t.2) (g : (Int) × (List ((Int) × (Int)))) (g_v : Value) (hg_v : Ro w0 g_v g.2) (hmark : Ro w0 (ft t_v) (t.2 ++ [((-7 : Int), (7 : Int))])) :
    Calls Try.prog 18 #[vg [vi t.1, t_v], vg [vi g.1, g_v]] w0 (fun ee w => ee = .returned (Value.bool (decide (t = g))) ∧ dH w0.heap.size w0 w) := by
 refine az Try.func18 rfl (Nat.le_of_ble_eq_true rfl) ?_
 have bH := b9.start w0
 have Rt := ht_v.sl
 have Rg := hg_v.sl
 have r_up := hmark.sl
 refine a9 (a8 rfl (cr rfl (bR c0 (is 1) (1, 0) rfl rfl ?_)))
 intro g4 w1 b3 ch2 bx5
 replace bx5 : Bx g4 (is 1) w1 b3 [vi t.1, t_v] := bx5
 refine lo (bR g4 (is 2) (2, 0) rfl rfl ?_)
 intro g9 w6 b8 ch7 bx10
 replace bx10 : Bx g9 (is 2) w6 b8 [vi g.1, g_v] := bx10
 refine ma (Value.bool false) (aa (a9 (ck g9 rfl ni (by kernel_rfl) ?_)))
 intro w12 ch11
 replace bx5 := (bx5.cn ch7).cn ch11
 refine qx (fun w' hw' => aq (ds := [vi t.1, t_v]) ak rfl (bx5.bel hw') rfl rfl) ?_
 replace bx10 := bx10.cn ch11
 refine qx (fun w' hw' => aq (ds := [vi g.1, g_v]) ak rfl (bx10.bel hw') rfl rfl) ?_
 have C13 := cg [] (ch2.n.seq (ch7.n.seq ch11.n))
 replace Rt := Rt.ca C13
 replace Rg := Rg.ca C13
 refine eL (v := Value.bool (decide (t = g))) rfl (fun w' hw' => aD (vals := [vg [vi t.1, t_v], vg [vi g.1, g_v]]) Try.func33 sh rW rfl) (fun w' hw' => (oz w' t t_v ((Rt.bel hw')).ro g g_v ((Rg.bel hw')).ro).mono fun e w2 h2 => ⟨h2.1, hw'.trans (h2.2.mono hw'.size)⟩) (qm (Value.bool (decide (t = g))) ?_)
 by_cases q8 : (decide (t = g)) = true
 ·
  refine bE (v := vp b3 1) (wy q8) (fun w' hw' => ad Try.underlying24 rfl rfl rfl rfl) (bE (v := t_v) (wy q8) (fun w' hw' => af bo rfl (bx5.bel hw') rfl) (bE (v := vp b8 1) (wy q8) (fun w' hw' => ad Try.underlying24 rfl rfl rfl rfl) (bE (v := g_v) (wy q8) (fun w' hw' => af bo rfl (bx10.bel hw') rfl) ?_)))
  have len14 := (Rg).small
  refine bE (v := vi (g.2.length : Int)) (wy q8) (fun w' hw' => aO Try.underlying22 rfl (Rg.bel hw')) (bE (v := vi ((g.2.length : Int) + 1)) (wy q8) (fun w' hw' => aQ (m := (g.2.length : Int)) (n := 1) rfl rfl (by omega)) ?_)
  replace r_up := r_up.ca C13
  refine bE (v := (ft t_v)) (wy q8) (fun w' hw' => iW (α := Int × Int) Try.underlying22 rfl rfl (r_up.bel hw') rfl (by rw [show t.2.length = g.2.length from congrArg (fun z => z.2.length) (of_decide_eq_true q8)])) (bE (v := vp b8 1) (wy q8) (fun w' hw' => ad Try.underlying24 rfl rfl rfl rfl) (bE (v := g_v) (wy q8) (fun w' hw' => af bo rfl (bx10.bel hw') rfl) (bE (v := vi (g.2.length : Int)) (wy q8) (fun w' hw' => aO Try.underlying22 rfl (Rg.bel hw')) ?_)))
  refine bE (v := Value.pointer (some (ba (ft t_v) 2 (Int.toNat (g.2.length : Int))))) (wy q8) (fun w' hw' => ab (α := (Int) × (Int)) (xs := t.2 ++ [((-7 : Int), (7 : Int))]) (v := (ft t_v)) (i := (g.2.length : Int)) Try.underlying22 rfl rfl (r_up.bel hw') rfl (by (have hl : t.2.length = g.2.length := congrArg (fun z => z.2.length) (of_decide_eq_true q8)); (omega)) (by (have hl : t.2.length = g.2.length := congrArg (fun z => z.2.length) (of_decide_eq_true q8)); ((simp only [List.length_append, List.length_cons, List.length_nil]; omega)))) ?_
  refine bE (v := vg [vi ((gI (t.2 ++ [((-7 : Int), (7 : Int))]) (g.2.length : Int)).1), vi ((gI (t.2 ++ [((-7 : Int), (7 : Int))]) (g.2.length : Int)).2)]) (wy q8) (fun w' hw' => ep (α := (Int) × (Int)) (xs := t.2 ++ [((-7 : Int), (7 : Int))]) (v := (ft t_v)) (i := (g.2.length : Int)) bD rfl (r_up.bel hw') (by (have hl : t.2.length = g.2.length := congrArg (fun z => z.2.length) (of_decide_eq_true q8)); (omega)) (by (have hl : t.2.length = g.2.length := congrArg (fun z => z.2.length) (of_decide_eq_true q8)); ((simp only [List.length_append, List.length_cons, List.length_nil]; omega))) rfl) (bE (v := vg [vi (-7), vi 7]) (wy q8) (fun w' hw' => bn (vs := [(0, vi (-7)), (1, vi 7)]) rfl (by kernel_rfl)) ?_)
  refine bE (v := Value.bool (decide ((gI (t.2 ++ [((-7 : Int), (7 : Int))]) (g.2.length : Int)) = (-7, 7)))) (wy q8) (fun w' hw' => oM (a := (gI (t.2 ++ [((-7 : Int), (7 : Int))]) (g.2.length : Int))) (b := (-7, 7)) Try.underlying60 Try.underlying3 am (by kernel_rfl) rfl rfl) (qv (Value.bool (decide ((gI (t.2 ++ [((-7 : Int), (7 : Int))]) (g.2.length : Int)) = (-7, 7)))) (fun w' hw' => aY rfl q8 rfl) (qv (Value.bool (decide ((gI (t.2 ++ [((-7 : Int), (7 : Int))]) (g.2.length : Int)) = (-7, 7)))) (fun w' hw' => bz rfl) (cV ?_)))
  intro w15 hc16
  replace hc16 := aG hc16 g9
  refine av (vs := [Value.bool (decide ((gI (t.2 ++ [((-7 : Int), (7 : Int))]) (g.2.length : Int)) = (-7, 7)))]) Try.func18 (.tmp rfl .nil) ?_
  have e0 : (decide ((gI (t.2 ++ [((-7 : Int), (7 : Int))]) (g.2.length : Int)) = (-7, 7)) : Bool) = (decide (t = g)) := by
    (have hh := of_decide_eq_true q8
     subst hh
     simp [gI]; done)
  have C17 := cg [] (ch2.n.seq (ch7.n.seq (ch11.n.seq hc16.n)))
  replace bH := bH.ca C17
  exact ⟨(congrArg (a₁ := decide ((gI (t.2 ++ [((-7 : Int), (7 : Int))]) (g.2.length : Int)) = (-7, 7))) (fun (z0 : Bool) => Ending.returned (Value.bool z0)) e0), bH.below⟩
 refine bv (wn (Bool.eq_false_iff.2 q8)) (bv (wn (Bool.eq_false_iff.2 q8)) (bv (wn (Bool.eq_false_iff.2 q8)) (bv (wn (Bool.eq_false_iff.2 q8)) (bv (wn (Bool.eq_false_iff.2 q8)) (bv (wn (Bool.eq_false_iff.2 q8)) (bv (wn (Bool.eq_false_iff.2 q8)) (bv (wn (Bool.eq_false_iff.2 q8)) (bv (wn (Bool.eq_false_iff.2 q8)) (bv (wn (Bool.eq_false_iff.2 q8)) ?_)))))))))
 refine bv (wn (Bool.eq_false_iff.2 q8)) (bv (wn (Bool.eq_false_iff.2 q8)) (bv (wn (Bool.eq_false_iff.2 q8)) (bv (wn (Bool.eq_false_iff.2 q8)) (qv (Value.bool false) (fun w' hw' => b7 rfl (Bool.eq_false_iff.2 q8) rfl) (qv (Value.bool false) (fun w' hw' => bz rfl) (cV ?_))))))
 intro w18 hc19
 replace hc19 := aG hc19 g9
 refine av (vs := [Value.bool false]) Try.func18 (.tmp rfl .nil) ?_
 have e0 : (false : Bool) = (decide (t = g)) := by
   simp_all
 have C20 := cg [] (ch2.n.seq (ch7.n.seq (ch11.n.seq hc19.n)))
 replace bH := bH.ca C20
 exact ⟨(congrArg (a₁ := false) (fun (z0 : Bool) => Ending.returned (Value.bool z0)) e0), bH.below⟩
end TL
