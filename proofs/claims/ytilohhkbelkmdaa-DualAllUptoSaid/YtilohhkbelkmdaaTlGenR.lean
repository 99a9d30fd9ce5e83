import Derived.Test.YtilohhkbelkmdaaTlP3
import Derived.Test.YtilohhkbelkmdaaTlGenA
import Derived.Test.YtilohhkbelkmdaaProg
set_option linter.all false
set_option maxRecDepth 20000
namespace TL
open Go Go.Proofs
theorem j9 : Try.prog.follows .mixedOrders = true := by kernel_rfl
theorem sG : Try.f82.body.isNone = false := rfl
theorem rt : (Try.f82.name == "runtime.NumGoroutine") = false := by decide +kernel
theorem uL : Try.f106.body.isNone = false := rfl
theorem v7 : (Try.f106.name == "runtime.NumGoroutine") = false := by decide +kernel
theorem nv (w0 : World) (g : (Int) × (List ((Int) × (Int)))) (g_v : Value) (hg_v : Ro w0 g_v g.2) (hlen : g.2.length ≤ 1000000) :
    Calls Try.prog 82 #[vg [vi g.1, g_v]] w0 (fun ee w => ∃ xx : aE × Value, ee = .returned ((fun ⟨δ, rv0⟩ => vg [vi g.1, rv0]) xx) ∧ (fun (⟨δ, rv0⟩ : aE × Value) (w : World) => cC w0 δ w ∧ Ow δ (is 1) (is 1) w rv0 g.2) xx w) := by
 refine az Try.func82 rfl (Nat.le_of_ble_eq_true rfl) ?_
 have bH := b9.start w0
 have Rg := hg_v.sl
 refine a9 (a8 rfl (cr rfl (bR c0 (is 1) (1, 0) rfl rfl ?_)))
 intro g4 w1 b3 ch2 bx5
 replace bx5 : Bx g4 (is 1) w1 b3 [vi g.1, g_v] := bx5
 refine lo (bw g4 (is 2) (2, 0) rfl ak ?_)
 intro g9 w6 b8 ch7 bx10
 replace bx10 : Bx g9 (is 2) w6 b8 [vi 0, vn] := bx10
 refine aa (a9 (cx g9 (bW [2, 3]) j9 ?_))
 intro w12 ch11
 refine ht 0 rfl (bq.refl _ _ _) (fun w' hw' => ad Try.underlying24 rfl rfl rfl rfl) ?_
 replace bx5 := (bx5.cn ch7).cn ch11
 refine ht 1 rfl (bq.refl _ _ _) (fun w' hw' => af am rfl (bx5.chg hw' (bQ rfl)) rfl) (ht 2 rfl (bq.refl _ _ _) (fun w' hw' => ad Try.underlying24 rfl rfl rfl rfl) (ht 3 rfl (bq.refl _ _ _) (fun w' hw' => af bo rfl (bx5.chg hw' (bQ rfl)) rfl) (aW 4 rfl (by kernel_rfl) rfl ?_)))
 have C13 := cg [] (ch2.n.seq (ch7.n.seq ch11.n))
 replace Rg := Rg.ca C13
 refine aR (α := (Int) × (Int)) (xs := ([])) (ys := g.2) g9 (J := is 3) (S := is 3) (3, 0) rfl Try.underlying22 bD (by decide) rfl rfl rfl Ow.nil Rg (by decide) (by (simp; omega)) ?_
 intro g14 w15 v16 ch17 o18
 replace o18 : Ow g14 (is 3) (is 3) w15 v16 g.2 := o18
 have hs19 : bq (bW [2, 3]) _ _ _ _ := ch17.l rfl
 refine ⟨hs19.same, ?_⟩
 refine ht (v := vg [vi g.1, v16]) 5 rfl hs19.same (fun w' hw' => bn (vs := [(0, vi g.1), (1, v16)]) rfl (by rw [Sl.form o18.flat]; kernel_rfl)) (aW 6 rfl (by kernel_rfl) rfl ?_)
 replace bx10 := (bx10.cn ch11).ce ch17
 refine aC (cs' := [vi g.1, v16]) ak rfl rfl bx10 rfl (Nat.le_of_ble_eq_true rfl) (AllOne.all (.cons rfl (.cons (bm o18.flat) .nil))) rfl ?_
 intro w20 ch21 bx22
 clear bx10
 have hs23 := hs19.seq (ch21.l rfl)
 refine ⟨hs23.same, ?_⟩
 refine cA (by kernel_rfl) (av (vs := [vg [vi g.1, v16]]) Try.func82 (.cell rfl (bk (ds := [vi g.1, v16]) ak bx22 rfl rfl) .nil) ?_)
 have C24 := cg [2, 3] (ch2.n.seq (ch7.n.seq (ch11.n.seq ((ch17.l rfl).seq (ch21.l rfl)))))
 replace bH := bH.ca C24
 replace o18 := o18.ce ch21
 have e0 : (g : (Int) × (List ((Int) × (Int)))) = (g) := by
   rfl
 exact ⟨(fin w0 g14 (fun n => if n = 3 then 1 else 0), v16), (congrArg (a₁ := g) (fun (z0 : (Int) × (List ((Int) × (Int)))) => Ending.returned (vg [vi z0.1, v16])) e0), bH.fresh _, ((congrArg (fun (z : (Int) × (List ((Int) × (Int)))) => z.2) e0) ▸ (o18.glue (γ := c0) (ren := (fun n => if n = 3 then 1 else 0)) (k := 1) bH.col rfl rfl))⟩
theorem pa (w0 : World) (l : List Int) (l_v : Value) (hl_v : Ro w0 l_v l) (n : Int) :
    Calls Try.prog 106 #[l_v, vi n] w0 (fun ee w => ee = .returned (vi (bN l n)) ∧ dH w0.heap.size w0 w) := by
 refine az Try.func106 rfl (Nat.le_of_ble_eq_true rfl) ?_
 have bH := b9.start w0
 have Rl := hl_v.sl
 refine a9 (a8 rfl (ai 0 (aa (a9 (a9 (a8 rfl (ai 0 (aa (ah ?_)))))))))
 refine aN (σ := Nat × aE) (fun ⟨i, gq⟩ f w => b9 w0 gq w ∧ f 0 = l_v ∧ f 1 = vi n ∧ f 5 = vi (i : Int) ∧ Sl gq (is 0) w l_v l ∧ (i : Int) ≤ ((l.length : Int) : Int) ∧ (eG l n i)) (fun ⟨i, gq⟩ => Int.toNat (((l.length : Int) : Int) - (i : Int))) (0, c0) ?_ ?_
 · exact ⟨bH, rfl, rfl, rfl, Rl, by omega, by exact eG.start l n⟩
 clear Rl bH
 rintro ⟨i, g3⟩ f1 w2 ⟨bH, zs0, zs1, zs5, Rl, hle_i, hinv⟩ back2
 refine a9 (a9 (a8 rfl (mz zs5 (mz zs0 ?_))))
 have len4 := (Rl).small
 refine lx (aO Try.underlying27 rfl Rl) (lx (bc (m := (i : Int)) (n := (l.length : Int)) rfl rfl) (aa ?_))
 by_cases p2 : (i : Int) < (l.length : Int)
 ·
  refine ae rfl (dt p2) (aj (a9 (ah (a9 (a9 (a8 rfl (mz zs0 (mz zs5 (lx (ab (v := l_v) (i := (i : Int)) Try.underlying27 rfl rfl Rl rfl (by omega) (by omega)) (lx (ay (v := l_v) (i := (i : Int)) am rfl Rl (by omega) (by omega) (by decide) rfl) (lx (bc (m := (gI l (i : Int))) (n := 0) rfl rfl) ?_)))))))))))
  refine mv (Value.bool (decide ((gI l (i : Int)) < 0))) ?_
  by_cases q18 : (gI l (i : Int)) < 0
  ·
   refine al (wn (dt q18)) (al (wn (dt q18)) (al (wn (dt q18)) (al (wn (dt q18)) (al (wn (dt q18)) (al (wn (dt q18)) (lw (Value.bool true) (aY rfl (dt q18) rfl) (aa (ae rfl rfl (a9 (a8 rfl ?_))))))))))
   refine ai 2 (aa (av (vs := [vi 2]) Try.func106 (.tmp rfl .nil) ?_))
   have e0 : (2 : Int) = (bN l n) := by
     exact hinv.bad ‹_› (by omega)
   exact ⟨(congrArg (a₁ := 2) (fun (z0 : Int) => Ending.returned (vi z0)) e0), bH.below⟩
  refine lv (l_v) (wy (df q18)) (au zs0) (lv (vi (i : Int)) (wy (df q18)) (au zs5) (lv (Value.pointer (some (ba l_v 1 (Int.toNat (i : Int))))) (wy (df q18)) (ab (α := Int) (xs := l) (v := l_v) (i := (i : Int)) Try.underlying27 rfl rfl Rl rfl (by omega) (by omega)) (lv (vi (gI l (i : Int))) (wy (df q18)) (ay (α := Int) (xs := l) (v := l_v) (i := (i : Int)) am rfl Rl (by omega) (by omega) (by decide) rfl) (lv (vi n) (wy (df q18)) (au zs1) (lv (Value.bool (decide (n ≤ (gI l (i : Int))))) (wy (df q18)) (dy (m := (gI l (i : Int))) (n := n) rfl rfl) ?_)))))
  refine lw (Value.bool (decide (n ≤ (gI l (i : Int))))) (b7 rfl (df q18) rfl) (aa ?_)
  by_cases p4 : n ≤ (gI l (i : Int))
  ·
   refine ae rfl (dt p4) (a9 (a8 rfl (ai 2 (aa (av (vs := [vi 2]) Try.func106 (.tmp rfl .nil) ?_)))))
   have e0 : (2 : Int) = (bN l n) := by
     exact hinv.bad ‹_› (by omega)
   exact ⟨(congrArg (a₁ := 2) (fun (z0 : Int) => Ending.returned (vi z0)) e0), bH.below⟩
  refine ag rfl (df p4) (aj (a9 (a8 rfl (ai 0 (aa (ah ?_))))))
  refine aN (σ := Nat × aE) (fun ⟨k, gq⟩ f w => b9 w0 gq w ∧ f 0 = l_v ∧ f 1 = vi n ∧ f 5 = vi (i : Int) ∧ f 6 = vi (k : Int) ∧ Sl gq (is 0) w l_v l ∧ (k : Int) ≤ ((i : Int) : Int) ∧ (∀ q : Nat, q < k → ¬ gI l (q : Int) = gI l (i : Int))) (fun ⟨k, gq⟩ => Int.toNat (((i : Int) : Int) - (k : Int))) (0, g3) ?_ ?_
  · exact ⟨bH, zs0, zs1, zs5, rfl, Rl, by omega, by intro q hq; omega⟩
  clear Rl bH
  rintro ⟨k, g7⟩ f5 w6 ⟨bH, zs0, zs1, zs5, zs6, Rl, hle_k, hin⟩ back7
  refine a9 (a9 (a8 rfl (mz zs6 (mz zs5 (lx (bc (m := (k : Int)) (n := (i : Int)) rfl rfl) (aa ?_))))))
  by_cases p7 : (k : Int) < (i : Int)
  ·
   refine ae rfl (dt p7) (aj (a9 (ah (a9 (ck g7 rfl j9 (by kernel_rfl) ?_)))))
   intro w9 ch8
   refine qz zs0 (qz zs6 ?_)
   replace Rl := Rl.cn ch8
   refine qx (fun w' hw' => ab (v := l_v) (i := (k : Int)) Try.underlying27 rfl rfl (Rl.bel hw') rfl (by omega) (by omega)) (qx (fun w' hw' => ay (v := l_v) (i := (k : Int)) am rfl (Rl.bel hw') (by omega) (by omega) (by decide) rfl) (qz zs0 (qz zs5 (qx (fun w' hw' => ab (v := l_v) (i := (i : Int)) Try.underlying27 rfl rfl (Rl.bel hw') rfl (by omega) (by omega)) (qx (fun w' hw' => ay (v := l_v) (i := (i : Int)) am rfl (Rl.bel hw') (by omega) (by omega) (by decide) rfl) (qx (fun w' hw' => cR (m := (gI l (k : Int))) (n := (gI l (i : Int))) rfl rfl) (cV ?_)))))))
   intro w10 hc11
   replace hc11 := aG hc11 g7
   by_cases p9 : (gI l (k : Int)) = (gI l (i : Int))
   ·
    refine ae rfl (dt p9) (a9 (a8 rfl (ai 18 (aa (av (vs := [vi 18]) Try.func106 (.tmp rfl .nil) ?_)))))
    have e0 : (18 : Int) = (bN l n) := by
      exact hinv.twice ‹_› (by omega) (by omega) (by rw [← p9]; exact nz (by omega) (by omega))
    replace bH := bH.cn ch8
    replace bH := bH.cn hc11
    exact ⟨(congrArg (a₁ := 18) (fun (z0 : Int) => Ending.returned (vi z0)) e0), bH.below⟩
   refine ag rfl (df p9) (aj (ao (a8 rfl (mz zs6 (lx (aQ (m := (k : Int)) (n := 1) rfl rfl (by omega)) (ai ((k : Int) + 1) (aa ?_)))))))
   replace bH := bH.cn ch8
   refine back7 (k + 1, g7) _ _ ⟨bH.cn hc11, zs0, zs1, zs5, rfl, Rl.cn hc11, by omega, ?_⟩ ?_
   · show ∀ q : Nat, q < (k + 1) → ¬ gI l (q : Int) = gI l (i : Int)
     intro q hq
     by_cases e : q = k
     · subst e; assumption
     · exact hin q (by omega)
   · show Int.toNat (((i : Int) : Int) - ((k + 1) : Int)) < Int.toNat (((i : Int) : Int) - (k : Int))
     omega
  refine ag rfl (df p7) (aI rfl (ao (a8 rfl (mz zs5 (lx (aQ (m := (i : Int)) (n := 1) rfl rfl (by omega)) (ai ((i : Int) + 1) (aa ?_)))))))
  refine back2 (i + 1, g7) _ _ ⟨bH, zs0, zs1, rfl, Rl, by omega, ?_⟩ ?_
  · show eG l n (i + 1)
    exact hinv.next ‹_› (by omega) (by omega) (fun hm => by
      obtain ⟨q, hq, e⟩ := List.mem_take_iff_getElem.1 hm
      have := hin q (by omega)
      apply this
      rw [← e]
      simp [gI, show q < l.length by omega])
  · show Int.toNat (((l.length : Int) : Int) - ((i + 1) : Int)) < Int.toNat (((l.length : Int) : Int) - (i : Int))
    omega
 refine ag rfl (df p2) (aI rfl (a9 (a8 rfl (ai 0 (aa (av (vs := [vi 0]) Try.func106 (.tmp rfl .nil) ?_))))))
 have e0 : (0 : Int) = (bN l n) := by
   exact hinv.done ‹_›
 exact ⟨(congrArg (a₁ := 0) (fun (z0 : Int) => Ending.returned (vi z0)) e0), bH.below⟩
theorem mC (w0 : World) (n : Int) (all : Int) (hn : 0 ≤ n ∧ n ≤ 1099511627776) :
    Calls Try.prog 65 #[vi n, vi all] w0 (fun ee w => ee = .returned (vi (min all (n + 2000))) ∧ dH w0.heap.size w0 w) := by
 refine az Try.func65 rfl (Nat.le_of_ble_eq_true rfl) ?_
 have bH := b9.start w0
 obtain ⟨hn1, hn2⟩ := hn
 refine a9 (a8 rfl (ai 0 (aa (a9 (a8 rfl (mi all (mi n (lx (aQ (m := n) (n := 2000) rfl rfl (by omega)) (lw (vi (min all (n + 2000))) (vx rfl rfl) (ai (min all (n + 2000)) (aa (av (vs := [vi (min all (n + 2000))]) Try.func65 (.tmp rfl .nil) ?_))))))))))))
 have e0 : (min all (n + 2000) : Int) = (min all (n + 2000)) := by
   rfl
 exact ⟨(congrArg (a₁ := min all (n + 2000)) (fun (z0 : Int) => Ending.returned (vi z0)) e0), bH.below⟩
theorem gK (w0 : World) (g : (Int) × (List ((Int) × (Int)))) (g_v : Value) (hg_v : Ro w0 g_v g.2) (h : Int) (hh : 0 ≤ h ∧ h < 2 * (g.2.length : Int)) (hlen : g.2.length ≤ 1000000) :
    Calls Try.prog 52 #[vg [vi g.1, g_v], vi h] w0 (fun ee w => ee = .returned (vi (bp g h)) ∧ dH w0.heap.size w0 w) := by
 refine az Try.func52 rfl (Nat.le_of_ble_eq_true rfl) ?_
 have bH := b9.start w0
 have Rg := hg_v.sl
 obtain ⟨hh1, hh2⟩ := hh
 refine a9 (a8 rfl (cr rfl (bR c0 (is 1) (1, 0) rfl rfl ?_)))
 intro g4 w1 b3 ch2 bx5
 replace bx5 : Bx g4 (is 1) w1 b3 [vi g.1, g_v] := bx5
 refine ai 0 (aa (a9 (a8 rfl (lx (ad Try.underlying24 rfl rfl rfl rfl) (lx (af bo rfl bx5 rfl) (mi h (lx (hU (m := h) (n := 2) rfl rfl (by omega) (by omega) (by omega)) (mi h (lx (eT (m := h) (n := 2) rfl rfl (by omega) (by omega)) ?_)))))))))
 replace Rg := Rg.cn ch2
 refine lx (ab (v := g_v) (i := h / 2) Try.underlying22 rfl rfl Rg rfl (by omega) (by omega)) (lx (bV (i := h % 2) Try.underlying60 rfl rfl rfl (by omega) (by omega) (Nat.mul_one _)) (lx (cF (v := g_v) (i := h / 2) am rfl Rg (by omega) (by omega) (show Int.toNat (h % 2) < 2 by omega) (fH _ (by omega) (by omega))) (ai (pI (gI g.2 (h / 2)) (h % 2)) (aa (av (vs := [vi (pI (gI g.2 (h / 2)) (h % 2))]) Try.func52 (.tmp rfl .nil) ?_)))))
 have e0 : (pI (gI g.2 (h / 2)) (h % 2) : Int) = (bp g h) := by
   rfl
 replace bH := bH.cn ch2
 exact ⟨(congrArg (a₁ := pI (gI g.2 (h / 2)) (h % 2)) (fun (z0 : Int) => Ending.returned (vi z0)) e0), bH.below⟩
theorem tB (w0 : World) (g : (Int) × (List ((Int) × (Int)))) (g_v : Value) (hg_v : Ro w0 g_v g.2) (keep : List Int) (keep_v : Value) (hkeep_v : Ro w0 keep_v keep) (hmay : bx g) :
    Calls Try.prog 93 #[vg [vi g.1, g_v], keep_v] w0 (fun ee w => ∃ xx : aE × Value, ee = .returned ((fun ⟨δ, rv0⟩ => vt [vg [vi (((c8 g keep).1).1), rv0], vi ((c8 g keep).2)]) xx) ∧ (fun (⟨δ, rv0⟩ : aE × Value) (w : World) => cC w0 δ w ∧ Ow δ (is 1) (is 1) w rv0 (((c8 g keep).1).2)) xx w) := by
 refine az Try.func93 rfl (Nat.le_of_ble_eq_true rfl) ?_
 have bH := b9.start w0
 have Rg := hg_v.sl
 have Rkeep := hkeep_v.sl
 have hm0 := hmay
 obtain ⟨hm1, hm2, hm3, hm4⟩ := hm0
 refine a9 (a8 rfl (cr rfl (bR c0 (is 1) (1, 0) rfl rfl ?_)))
 intro g4 w1 b3 ch2 bx5
 replace bx5 : Bx g4 (is 1) w1 b3 [vi g.1, g_v] := bx5
 refine lo (bw g4 (is 2) (2, 0) rfl ak ?_)
 intro g9 w6 b8 ch7 bx10
 replace bx10 : Bx g9 (is 2) w6 b8 [vi 0, vn] := bx10
 refine ai 0 (aa (a9 (a8 rfl (mv keep_v (lx (ad Try.underlying24 rfl rfl rfl rfl) ?_)))))
 replace bx5 := bx5.cn ch7
 refine lx (af bo rfl bx5 rfl) ?_
 replace Rg := (Rg.cn ch2).cn ch7
 have len11 := (Rg).small
 refine lx (aO Try.underlying22 rfl Rg) ?_
 replace Rkeep := (Rkeep.cn ch2).cn ch7
 refine lo (bO (v := vi (bN keep (g.2.length : Int))) (aD (vals := [keep_v, vi (g.2.length : Int)]) Try.func106 uL v7 rfl) (pa w6 keep keep_v (Rkeep).ro (g.2.length : Int)) ?_)
 intro w12 hb13
 replace hb13 := aG hb13 g9
 refine ai (bN keep (g.2.length : Int)) (aa (a9 (a9 (a8 rfl (mi (bN keep (g.2.length : Int)) (lx (cl (m := bN keep (g.2.length : Int)) (n := 0) rfl rfl) (aa ?_)))))))
 by_cases p2 : (bN keep (g.2.length : Int)) = 0
 ·
  have hch := gU p2
  refine ag rfl (congrArg Bool.not (dt p2)) (aj (a9 (a8 rfl (lx (ad Try.underlying24 rfl rfl rfl rfl) ?_))))
  replace bx5 := bx5.cn hb13
  refine lx (af am rfl bx5 rfl) (lw (vg [vi g.1, vn]) (bn (vs := [(0, vi g.1)]) rfl (by kernel_rfl)) (lo (bw g9 (is 3) (3, 0) rfl ak ?_)))
  intro g17 w14 b16 ch15 bx18
  replace bx18 : Bx g17 (is 3) w14 b16 [vi 0, vn] := bx18
  refine lo (aC (cs' := [vi g.1, vn]) ak rfl rfl bx18 rfl (Nat.le_of_ble_eq_true rfl) (AllOne.all (.cons rfl (.cons rfl .nil))) rfl ?_)
  intro w19 ch20 bx21
  clear bx18
  refine aa (a9 (a9 (a8 rfl (ai 0 (aa (ah ?_))))))
  refine aN (σ := Value × (List ((Int) × (Int))) × Nat × aE) (fun ⟨s_1_v, s_1, i, gq⟩ f w => b9 w0 gq w ∧ f 1 = keep_v ∧ f 2 = vp b3 0 ∧ f 4 = vp b8 0 ∧ f 7 = vp b16 0 ∧ f 8 = vi (i : Int) ∧ Sl gq (is 0) w g_v g.2 ∧ Sl gq (is 0) w keep_v keep ∧ Bx gq (is 1) w b3 [vi g.1, g_v] ∧ Bx gq (is 2) w b8 [vi 0, vn] ∧ Bx gq (is 3) w b16 [vi g.1, s_1_v] ∧ Ow gq (is 5) (is 5) w s_1_v s_1 ∧ (i : Int) ≤ ((keep.length : Int) : Int) ∧ (s_1 = (List.take i keep).map (gI g.2))) (fun ⟨s_1_v, s_1, i, gq⟩ => Int.toNat (((keep.length : Int) : Int) - (i : Int))) (vn, [], 0, g17) ?_ ?_
  have C23 := cg [3] (hb13.n.seq (ch15.n.seq (ch20.l rfl)))
  have C22 := ch2.n.seq (ch7.n.seq C23)
  · exact ⟨bH.ca C22, rfl, rfl, rfl, rfl, rfl, Rg.ca C23, Rkeep.ca C23, (bx5.cn ch15).ce ch20, bx10.ca C23, bx21, Ow.nil, by omega, by rfl⟩
  clear Rg Rkeep bx5 bx10 bx21 bH
  rintro ⟨s_1_v, s_1, i, g26⟩ f24 w25 ⟨bH, zs1, zs2, zs4, zs7, zs8, Rg, Rkeep, bx5, bx10, bx21, o_s_1, hle_i, hinv⟩ back6
  have hlo : s_1.length ≤ i := by rw [hinv]; simp; omega
  refine a9 (a9 (a8 rfl (mz zs8 (mz zs1 ?_))))
  have len27 := (Rkeep).small
  refine lx (aO Try.underlying27 rfl Rkeep) (lx (bc (m := (i : Int)) (n := (keep.length : Int)) rfl rfl) (aa ?_))
  by_cases p6 : (i : Int) < (keep.length : Int)
  ·
   refine ae rfl (dt p6) ?_
   obtain ⟨hk1, hk2⟩ := hch.1 _ (bu (xs := keep) (i := (i : Int)) (by omega) (by omega))
   refine aj (a9 (ah (ch g26 [0, 1, 2, 3, 4, 5, 6, 7, 8, 9, 12] j9 ?_)))
   intro w29 ch28
   refine xp 0 rfl (fun w => ad Try.underlying24 rfl rfl zs7 rfl) ?_
   replace bx21 := bx21.cn ch28
   refine xh 1 [0, 2, 4, 5, 3, 6, 7, 8, 9, 10] rfl (fun w' hw' => af bo rfl (bx21.bel hw') rfl) (xp 2 rfl (fun w => ad Try.underlying24 rfl rfl zs2 rfl) ?_)
   replace bx5 := bx5.cn ch28
   refine xv 3 [2, 1, 0, 4, 5, 6, 7] rfl (af bo rfl bx5 rfl) (xp (v := keep_v) 4 rfl (fun w => au zs1) (xp (v := vi (i : Int)) 5 rfl (fun w => au zs8) ?_))
   replace Rkeep := Rkeep.cn ch28
   refine xv 6 [5, 4, 3, 2, 1, 0] rfl (ab (v := keep_v) (i := (i : Int)) Try.underlying27 rfl rfl Rkeep rfl (by omega) (by omega)) (xv 7 [6, 5, 4, 3, 2, 1, 0] rfl (ay (v := keep_v) (i := (i : Int)) am rfl Rkeep (by omega) (by omega) (by decide) rfl) ?_)
   replace Rg := Rg.cn ch28
   refine xv 8 [7, 6, 5, 4, 3, 2, 1, 0] rfl (ab (v := g_v) (i := (gI keep (i : Int))) Try.underlying22 rfl rfl Rg rfl (by omega) (by omega)) (xv (v := vg [vi ((gI g.2 (gI keep (i : Int))).1), vi ((gI g.2 (gI keep (i : Int))).2)]) 9 [8, 7, 6, 5, 4, 3, 2, 1, 0] rfl (ep (v := g_v) (i := (gI keep (i : Int))) bD rfl Rg (by omega) (by omega) rfl) (bM 10 rfl (by kernel_rfl) rfl (aA (α := (Int) × (Int)) g26 (is 4) (is 4) (4, 0) rfl [(gI g.2 (gI keep (i : Int)))] Try.underlying22 bD (by decide) (by decide) (vs := [(0, vg [vi ((gI g.2 (gI keep (i : Int))).1), vi ((gI g.2 (gI keep (i : Int))).2)])]) rfl rfl (.cons rfl .nil) ?_)))
   intro g30 w31 v32 ch33 o34
   refine bM 11 rfl (by kernel_rfl) rfl ?_
   replace o_s_1 := (o_s_1.cn ch28).cn ch33
   refine aR (α := (Int) × (Int)) (xs := s_1) (ys := ([(gI g.2 (gI keep (i : Int)))])) g30 (J := is 5) (S := is 5) (5, 0) rfl Try.underlying22 bD (by decide) rfl rfl rfl o_s_1 o34.flat (by decide) (by (simp; omega)) ?_
   intro g35 w36 v37 ch38 o39
   clear o_s_1
   refine xp 12 rfl (fun w => ad Try.underlying24 rfl rfl zs7 rfl) (bM 13 rfl (by kernel_rfl) rfl ?_)
   replace bx21 := (bx21.cn ch33).ce ch38
   refine cK (cs' := [vi g.1, v37]) bo rfl rfl bx21 (c6 o39.flat) (Nat.le_of_ble_eq_true rfl) (bm o39.flat) rfl ?_
   intro w40 ch41 bx42
   clear bx21
   refine cO (by kernel_rfl) (ao ?_)
   clear o34
   refine a8 rfl (mz zs8 (lx (aQ (m := (i : Int)) (n := 1) rfl rfl (by omega)) (ai ((i : Int) + 1) (aa ?_))))
   have C44 := cg [3, 5] (ch33.n.seq ((ch38.l rfl).seq (ch41.l rfl)))
   have C43 := ch28.n.seq C44
   refine back6 (v37, (s_1 ++ [(gI g.2 (gI keep (i : Int)))]), i + 1, g35) _ _ ⟨bH.ca C43, zs1, zs2, zs4, zs7, rfl, Rg.ca C44, Rkeep.ca C44, bx5.ca C44, bx10.ca C43, bx42, o39.ce ch41, by omega, ?_⟩ ?_
   · show (s_1 ++ [(gI g.2 (gI keep (i : Int)))]) = (List.take (i + 1) keep).map (gI g.2)
     rw [bh ‹_›, hinv]; simp
   · show Int.toNat (((keep.length : Int) : Int) - ((i + 1) : Int)) < Int.toNat (((keep.length : Int) : Int) - (i : Int))
     omega
  refine ag rfl (df p6) (aI rfl (a9 ?_))
  clear bx5
  refine a8 rfl (lx (aq (ds := [vi g.1, s_1_v]) ak zs7 bx21 rfl rfl) (lo (aC (cs' := [vi g.1, s_1_v]) ak zs4 rfl bx10 rfl (Nat.le_of_ble_eq_true rfl) (AllOne.all (.cons rfl (.cons (bm o_s_1.flat) .nil))) rfl ?_)))
  intro w45 ch46 bx47
  clear bx10
  refine ai 0 (aa (av (vs := [vg [vi g.1, s_1_v], vi 0]) Try.func93 (.cell zs4 (bk (ds := [vi g.1, s_1_v]) ak bx47 rfl rfl) (.tmp rfl .nil)) ?_))
  replace bH := bH.ce ch46
  replace o_s_1 := o_s_1.ce ch46
  have e0 : ((g.1, s_1) : (Int) × (List ((Int) × (Int)))) = ((c8 g keep).1) := by
    (have hk : List.take i keep = keep := List.take_of_length_le (by omega)
     simp only [c8, if_pos hmay, if_pos p2, hinv, hk]; done)
  have e1 : (0 : Int) = ((c8 g keep).2) := by
    (have hk : List.take i keep = keep := List.take_of_length_le (by omega)
     simp only [c8, if_pos hmay, if_pos p2, hinv, hk]; done)
  exact ⟨(fin w0 g26 (fun n => if n = 5 then 1 else 0), s_1_v), (ci (a := (g.1, s_1)) (b := 0) (fun (z0 : (Int) × (List ((Int) × (Int)))) (z1 : Int) => Ending.returned (vt [vg [vi z0.1, s_1_v], vi z1])) e0 e1), bH.fresh _, ((congrArg (fun (z : (Int) × (List ((Int) × (Int)))) => z.2) e0) ▸ (o_s_1.glue (γ := c0) (ren := (fun n => if n = 5 then 1 else 0)) (k := 1) bH.col rfl rfl))⟩
 refine ae rfl (congrArg Bool.not (df p2)) (a9 ?_)
 clear bx5
 refine a8 rfl (lw (vg [vi 0, vn]) (bn (vs := []) rfl (by kernel_rfl)) (mi (bN keep (g.2.length : Int)) (lo ?_)))
 replace bx10 := bx10.cn hb13
 refine aC (cs' := [vi 0, vn]) ak rfl rfl bx10 rfl (Nat.le_of_ble_eq_true rfl) (AllOne.all (.cons rfl (.cons rfl .nil))) rfl ?_
 intro w48 ch49 bx50
 clear bx10
 refine ai (bN keep (g.2.length : Int)) (aa (av (vs := [vg [vi 0, vn], vi (bN keep (g.2.length : Int))]) Try.func93 (.cell rfl (bk (ds := [vi 0, vn]) ak bx50 rfl rfl) (.tmp rfl .nil)) ?_))
 have C51 := cg [2] (ch2.n.seq (ch7.n.seq (hb13.n.seq (ch49.l rfl))))
 replace bH := bH.ca C51
 have e0 : ((0, []) : (Int) × (List ((Int) × (Int)))) = ((c8 g keep).1) := by
   simp only [c8, if_pos hmay, if_neg p2]
 have e1 : (bN keep (g.2.length : Int) : Int) = ((c8 g keep).2) := by
   simp only [c8, if_pos hmay, if_neg p2]
 exact ⟨(fin w0 g9 (fun n => 0), vn), (ci (a := (0, [])) (b := bN keep (g.2.length : Int)) (fun (z0 : (Int) × (List ((Int) × (Int)))) (z1 : Int) => Ending.returned (vt [vg [vi z0.1, vn], vi z1])) e0 e1), bH.fresh _, ((congrArg (fun (z : (Int) × (List ((Int) × (Int)))) => z.2) e0) ▸ Ow.nil)⟩
theorem qQ (w0 : World) (g : (Int) × (List ((Int) × (Int)))) (g_v : Value) (hg_v : Ro w0 g_v g.2) (e : Int) (hmay : bx g) :
    Calls Try.prog 84 #[vg [vi g.1, g_v], vi e] w0 (fun ee w => ∃ xx : aE × Value, ee = .returned ((fun ⟨δ, rv0⟩ => vt [vg [vi (((aM g e).1).1), rv0], vi ((aM g e).2)]) xx) ∧ (fun (⟨δ, rv0⟩ : aE × Value) (w : World) => cC w0 δ w ∧ Ow δ (is 1) (is 1) w rv0 (((aM g e).1).2)) xx w) := by
 refine az Try.func84 rfl (Nat.le_of_ble_eq_true rfl) ?_
 have bH := b9.start w0
 have Rg := hg_v.sl
 have hm0 := hmay
 obtain ⟨hm1, hm2, hm3, hm4⟩ := hm0
 refine a9 (a8 rfl (cr rfl (bR c0 (is 1) (1, 0) rfl rfl ?_)))
 intro g4 w1 b3 ch2 bx5
 replace bx5 : Bx g4 (is 1) w1 b3 [vi g.1, g_v] := bx5
 refine lo (bw g4 (is 2) (2, 0) rfl ak ?_)
 intro g9 w6 b8 ch7 bx10
 replace bx10 : Bx g9 (is 2) w6 b8 [vi 0, vn] := bx10
 refine ai 0 (aa (a9 (a9 (a8 rfl (mi e (lx (bc (m := e) (n := 0) rfl rfl) (mv (Value.bool (decide (e < 0))) ?_)))))))
 by_cases q9 : e < 0
 ·
  refine al (wn (dt q9)) (al (wn (dt q9)) (al (wn (dt q9)) (al (wn (dt q9)) (al (wn (dt q9)) (lw (Value.bool true) (aY rfl (dt q9) rfl) (aa (ae rfl rfl (a9 ?_))))))))
  clear bx5
  refine a8 rfl (lw (vg [vi 0, vn]) (bn (vs := []) rfl (by kernel_rfl)) (lo (aC (cs' := [vi 0, vn]) ak rfl rfl bx10 rfl (Nat.le_of_ble_eq_true rfl) (AllOne.all (.cons rfl (.cons rfl .nil))) rfl ?_)))
  intro w11 ch12 bx13
  clear bx10
  refine ai 2 (aa (av (vs := [vg [vi 0, vn], vi 2]) Try.func84 (.cell rfl (bk (ds := [vi 0, vn]) ak bx13 rfl rfl) (.tmp rfl .nil)) ?_))
  have C14 := cg [2] (ch2.n.seq (ch7.n.seq (ch12.l rfl)))
  replace bH := bH.ca C14
  have e0 : ((0, []) : (Int) × (List ((Int) × (Int)))) = ((aM g e).1) := by
    (have hn : ¬ (0 ≤ e ∧ e < (g.2.length : Int)) := fun h => by omega
     simp only [aM, if_pos hmay, if_neg hn]; done)
  have e1 : (2 : Int) = ((aM g e).2) := by
    (have hn : ¬ (0 ≤ e ∧ e < (g.2.length : Int)) := fun h => by omega
     simp only [aM, if_pos hmay, if_neg hn]; done)
  exact ⟨(fin w0 g9 (fun n => 0), vn), (ci (a := (0, [])) (b := 2) (fun (z0 : (Int) × (List ((Int) × (Int)))) (z1 : Int) => Ending.returned (vt [vg [vi z0.1, vn], vi z1])) e0 e1), bH.fresh _, ((congrArg (fun (z : (Int) × (List ((Int) × (Int)))) => z.2) e0) ▸ Ow.nil)⟩
 refine lv (vi e) (wy (df q9)) (au rfl) (lv (vp b3 1) (wy (df q9)) (ad Try.underlying24 rfl rfl rfl rfl) ?_)
 replace bx5 := bx5.cn ch7
 refine lv (g_v) (wy (df q9)) (af bo rfl bx5 rfl) ?_
 replace Rg := (Rg.cn ch2).cn ch7
 have len15 := (Rg).small
 refine lv (vi (g.2.length : Int)) (wy (df q9)) (aO Try.underlying22 rfl Rg) (lv (Value.bool (decide ((g.2.length : Int) ≤ e))) (wy (df q9)) (dy (m := e) (n := (g.2.length : Int)) rfl rfl) (lw (Value.bool (decide ((g.2.length : Int) ≤ e))) (b7 rfl (df q9) rfl) (aa ?_)))
 by_cases p1 : (g.2.length : Int) ≤ e
 ·
  refine ae rfl (dt p1) (a9 ?_)
  clear bx5
  refine a8 rfl (lw (vg [vi 0, vn]) (bn (vs := []) rfl (by kernel_rfl)) (lo (aC (cs' := [vi 0, vn]) ak rfl rfl bx10 rfl (Nat.le_of_ble_eq_true rfl) (AllOne.all (.cons rfl (.cons rfl .nil))) rfl ?_)))
  intro w16 ch17 bx18
  clear bx10
  refine ai 2 (aa (av (vs := [vg [vi 0, vn], vi 2]) Try.func84 (.cell rfl (bk (ds := [vi 0, vn]) ak bx18 rfl rfl) (.tmp rfl .nil)) ?_))
  have C19 := cg [2] (ch2.n.seq (ch7.n.seq (ch17.l rfl)))
  replace bH := bH.ca C19
  have e0 : ((0, []) : (Int) × (List ((Int) × (Int)))) = ((aM g e).1) := by
    (have hn : ¬ (0 ≤ e ∧ e < (g.2.length : Int)) := fun h => by omega
     simp only [aM, if_pos hmay, if_neg hn]; done)
  have e1 : (2 : Int) = ((aM g e).2) := by
    (have hn : ¬ (0 ≤ e ∧ e < (g.2.length : Int)) := fun h => by omega
     simp only [aM, if_pos hmay, if_neg hn]; done)
  exact ⟨(fin w0 g9 (fun n => 0), vn), (ci (a := (0, [])) (b := 2) (fun (z0 : (Int) × (List ((Int) × (Int)))) (z1 : Int) => Ending.returned (vt [vg [vi z0.1, vn], vi z1])) e0 e1), bH.fresh _, ((congrArg (fun (z : (Int) × (List ((Int) × (Int)))) => z.2) e0) ▸ Ow.nil)⟩
 refine ag rfl (df p1) (aj (a9 (a8 rfl (lx (aq (ds := [vi g.1, g_v]) ak rfl bx5 rfl rfl) (lo (aV (aD (vals := [vg [vi g.1, g_v]]) Try.func82 sG rt rfl) (nv w6 g g_v (Rg).ro (by omega)) ?_))))))
 rintro ⟨d21, v23⟩ w20 ⟨fr22, o24⟩
 obtain ⟨g25, ch26, G25⟩ := dw g9 fr22 (fun n => if n = 1 then 3 else 0)
 replace o24 := o24.gl G25 3
 refine lo (bw g25 (is 4) (4, 0) rfl ak ?_)
 intro g30 w27 b29 ch28 bx31
 replace bx31 : Bx g30 (is 4) w27 b29 [vi 0, vn] := bx31
 refine lo ?_
 replace o24 := o24.cn ch28
 refine aC (cs' := [vi g.1, v23]) ak rfl rfl bx31 rfl (Nat.le_of_ble_eq_true rfl) (AllOne.all (.cons rfl (.cons (bm o24.flat) .nil))) rfl ?_
 intro w32 ch33 bx34
 clear bx31
 refine aa (a9 (ch g30 [0, 1, 2, 3, 4, 5, 6] j9 ?_))
 intro w36 ch35
 refine xp 0 rfl (fun w => ad Try.underlying24 rfl rfl rfl rfl) ?_
 replace bx34 := bx34.cn ch35
 refine xv 1 [0, 2, 3, 4] rfl (af bo rfl bx34 rfl) (xp (v := vi e) 2 rfl (fun w => au rfl) (xp 3 rfl (fun w => ad Try.underlying24 rfl rfl rfl rfl) ?_))
 have C37 := cg [4] (ch26.n.seq (ch28.n.seq ((ch33.l rfl).seq ch35.n)))
 replace bx5 := bx5.ca C37
 refine xv 4 [3, 2, 1, 0, 5] rfl (af am rfl bx5 rfl) ?_
 replace o24 := (o24.ce ch33).cn ch35
 refine xv 5 [4, 3, 2, 1, 0] rfl (ab (v := v23) (i := e) Try.underlying22 rfl rfl o24.flat rfl (by omega) (by omega)) (xv 6 [5, 4, 3, 2, 1, 0] rfl (bV Try.underlying60 rfl rfl rfl (by decide) (by decide) rfl) (bM 7 rfl (by kernel_rfl) rfl (kf (i := e) (q := 1) ((gI g.2 e).1, g.1) am rfl rfl o24 (by omega) (by omega) (by decide) rfl rfl rfl ?_)))
 intro w38 ch39 bx40
 clear o24
 refine cO (by kernel_rfl) (a9 (ch g30 [0, 1, 2, 3, 4, 5, 6, 7, 8, 9, 10, 13] j9 ?_))
 intro w42 ch41
 refine xp 0 rfl (fun w => ad Try.underlying24 rfl rfl rfl rfl) ?_
 replace bx34 := (bx34.ce ch39).cn ch41
 refine xh 1 [0, 2, 4, 6, 3, 5, 7, 8, 9, 10, 11] rfl (fun w' hw' => af bo rfl (bx34.bel hw') rfl) (xp 2 rfl (fun w => ad Try.underlying24 rfl rfl rfl rfl) ?_)
 replace bx5 := (bx5.ce ch39).cn ch41
 refine xv 3 [2, 1, 0, 4, 6, 5, 7, 8, 9] rfl (af am rfl bx5 rfl) (xp 4 rfl (fun w => ad Try.underlying24 rfl rfl rfl rfl) (xv 5 [4, 3, 2, 1, 0, 6] rfl (af bo rfl bx5 rfl) (xp (v := vi e) 6 rfl (fun w => au rfl) ?_)))
 have C43 := cg [3, 4] (ch26.n.seq (ch28.n.seq ((ch33.l rfl).seq (ch35.n.seq ((ch39.l rfl).seq ch41.n)))))
 replace Rg := Rg.ca C43
 refine xv 7 [6, 5, 4, 3, 2, 1, 0] rfl (ab (v := g_v) (i := e) Try.underlying22 rfl rfl Rg rfl (by omega) (by omega)) (xv 8 [7, 6, 5, 4, 3, 2, 1, 0] rfl (bV Try.underlying60 rfl rfl rfl (by decide) (by decide) rfl) (xv 9 [8, 7, 6, 5, 4, 3, 2, 1, 0] rfl (cF (v := g_v) (i := e) am rfl Rg (by omega) (by omega) (by decide) rfl) (xp (v := vg [vi g.1, vi ((gI g.2 e).2)]) 10 rfl (fun w => bn (vs := [(0, vi g.1), (1, vi ((gI g.2 e).2))]) rfl (by kernel_rfl)) (bM 11 rfl (by kernel_rfl) rfl (aA (α := (Int) × (Int)) g30 (is 5) (is 5) (5, 0) rfl [(g.1, (gI g.2 e).2)] Try.underlying22 bD (by decide) (by decide) (vs := [(0, vg [vi g.1, vi ((gI g.2 e).2)])]) rfl rfl (.cons rfl .nil) ?_)))))
 intro g44 w45 v46 ch47 o48
 refine bM 12 rfl (by kernel_rfl) rfl ?_
 replace bx40 := (bx40.cn ch41).cn ch47
 refine aR (α := (Int) × (Int)) (xs := (List.set g.2 (Int.toNat e) ((gI g.2 e).1, g.1))) (ys := ([(g.1, (gI g.2 e).2)])) g44 (J := is 3) (S := is 3) (3, 0) rfl Try.underlying22 bD (by decide) rfl rfl rfl bx40 o48.flat (by decide) (by (simp; omega)) ?_
 intro g49 w50 v51 ch52 o53
 clear bx40
 refine xp 13 rfl (fun w => ad Try.underlying24 rfl rfl rfl rfl) (bM 14 rfl (by kernel_rfl) rfl ?_)
 replace bx34 := (bx34.cn ch47).ce ch52
 refine cK (cs' := [vi g.1, v51]) bo rfl rfl bx34 (c6 o53.flat) (Nat.le_of_ble_eq_true rfl) (bm o53.flat) rfl ?_
 intro w54 ch55 bx56
 clear bx34
 refine cO (by kernel_rfl) (a9 ?_)
 clear bx5 o48
 refine a8 rfl (lx (ad Try.underlying24 rfl rfl rfl rfl) (lx (af am rfl bx56 rfl) (lx (aQ (m := g.1) (n := 1) rfl rfl (by omega)) (lx (ad Try.underlying24 rfl rfl rfl rfl) (lo (aC (cs' := [vi (g.1 + 1), v51]) am rfl rfl bx56 rfl (Nat.le_of_ble_eq_true rfl) (AllOne.all (.cons rfl .nil)) rfl ?_))))))
 intro w57 ch58 bx59
 clear bx56
 refine aa (a9 (a9 (a8 rfl (lx (aq (ds := [vi (g.1 + 1), v51]) ak rfl bx59 rfl rfl) ?_))))
 replace o53 := (o53.ce ch55).ce ch58
 refine lo (bO (v := Value.bool (cD (g.1 + 1, ((List.set g.2 (Int.toNat e) ((gI g.2 e).1, g.1)) ++ [(g.1, (gI g.2 e).2)])))) (aD (vals := [vg [vi (g.1 + 1), v51]]) Try.func35 lK lp rfl) (jo w57 (g.1 + 1, ((List.set g.2 (Int.toNat e) ((gI g.2 e).1, g.1)) ++ [(g.1, (gI g.2 e).2)])) v51 (o53.flat).ro) ?_)
 intro w60 hb61
 replace hb61 := aG hb61 g49
 refine lx (dr (b := (cD (g.1 + 1, ((List.set g.2 (Int.toNat e) ((gI g.2 e).1, g.1)) ++ [(g.1, (gI g.2 e).2)])))) rfl) (aa ?_)
 by_cases p7 : (cD (g.1 + 1, ((List.set g.2 (Int.toNat e) ((gI g.2 e).1, g.1)) ++ [(g.1, (gI g.2 e).2)]))) = true
 ·
  refine ag rfl (congrArg Bool.not p7) (aj (a9 (a8 rfl ?_)))
  replace bx59 := bx59.cn hb61
  refine lx (aq (ds := [vi (g.1 + 1), v51]) ak rfl bx59 rfl rfl) (lo ?_)
  have C65 := cg [3, 4] (ch26.n.seq (ch28.n.seq ((ch33.l rfl).seq (ch35.n.seq ((ch39.l rfl).seq (ch41.n.seq (ch47.n.seq ((ch52.l rfl).seq ((ch55.l rfl).seq ((ch58.l rfl).seq hb61.n))))))))))
  replace bx10 := bx10.ca C65
  replace o53 := o53.cn hb61
  refine aC (cs' := [vi (g.1 + 1), v51]) ak rfl rfl bx10 rfl (Nat.le_of_ble_eq_true rfl) (AllOne.all (.cons rfl (.cons (bm o53.flat) .nil))) rfl ?_
  intro w62 ch63 bx64
  clear bx10
  refine ai 0 (aa (av (vs := [vg [vi (g.1 + 1), v51], vi 0]) Try.func84 (.cell rfl (bk (ds := [vi (g.1 + 1), v51]) ak bx64 rfl rfl) (.tmp rfl .nil)) ?_))
  have C66 := cg [2, 3, 4] (ch2.n.seq (ch7.n.seq (ch26.n.seq (ch28.n.seq ((ch33.l rfl).seq (ch35.n.seq ((ch39.l rfl).seq (ch41.n.seq (ch47.n.seq ((ch52.l rfl).seq ((ch55.l rfl).seq ((ch58.l rfl).seq (hb61.n.seq (ch63.l rfl))))))))))))))
  replace bH := bH.ca C66
  replace o53 := o53.ce ch63
  have e0 : ((g.1 + 1, ((List.set g.2 (Int.toNat e) ((gI g.2 e).1, g.1)) ++ [(g.1, (gI g.2 e).2)])) : (Int) × (List ((Int) × (Int)))) = ((aM g e).1) := by
    (have ha : 0 ≤ e ∧ e < (g.2.length : Int) := by omega
     have hs := iv hmay ha
     have hs2 := hs.1 (of_decide_eq_true p7)
     simp only [aM, if_pos hmay, if_pos ha, if_pos hs2]; done)
  have e1 : (0 : Int) = ((aM g e).2) := by
    (have ha : 0 ≤ e ∧ e < (g.2.length : Int) := by omega
     have hs := iv hmay ha
     have hs2 := hs.1 (of_decide_eq_true p7)
     simp only [aM, if_pos hmay, if_pos ha, if_pos hs2]; done)
  exact ⟨(fin w0 g49 (fun n => if n = 3 then 1 else 0), v51), (ci (a := (g.1 + 1, ((List.set g.2 (Int.toNat e) ((gI g.2 e).1, g.1)) ++ [(g.1, (gI g.2 e).2)]))) (b := 0) (fun (z0 : (Int) × (List ((Int) × (Int)))) (z1 : Int) => Ending.returned (vt [vg [vi z0.1, v51], vi z1])) e0 e1), bH.fresh _, ((congrArg (fun (z : (Int) × (List ((Int) × (Int)))) => z.2) e0) ▸ (o53.glue (γ := c0) (ren := (fun n => if n = 3 then 1 else 0)) (k := 1) bH.col rfl rfl))⟩
 refine ae rfl (congrArg Bool.not (Bool.eq_false_iff.2 p7)) (a9 ?_)
 clear o53 bx59
 refine a8 rfl (lw (vg [vi 0, vn]) (bn (vs := []) rfl (by kernel_rfl)) (lo ?_))
 have C70 := cg [3, 4] (ch26.n.seq (ch28.n.seq ((ch33.l rfl).seq (ch35.n.seq ((ch39.l rfl).seq (ch41.n.seq (ch47.n.seq ((ch52.l rfl).seq ((ch55.l rfl).seq ((ch58.l rfl).seq hb61.n))))))))))
 replace bx10 := bx10.ca C70
 refine aC (cs' := [vi 0, vn]) ak rfl rfl bx10 rfl (Nat.le_of_ble_eq_true rfl) (AllOne.all (.cons rfl (.cons rfl .nil))) rfl ?_
 intro w67 ch68 bx69
 clear bx10
 refine ai 3 (aa (av (vs := [vg [vi 0, vn], vi 3]) Try.func84 (.cell rfl (bk (ds := [vi 0, vn]) ak bx69 rfl rfl) (.tmp rfl .nil)) ?_))
 have C71 := cg [2, 3, 4] (ch2.n.seq (ch7.n.seq (ch26.n.seq (ch28.n.seq ((ch33.l rfl).seq (ch35.n.seq ((ch39.l rfl).seq (ch41.n.seq (ch47.n.seq ((ch52.l rfl).seq ((ch55.l rfl).seq ((ch58.l rfl).seq (hb61.n.seq (ch68.l rfl))))))))))))))
 replace bH := bH.ca C71
 have e0 : ((0, []) : (Int) × (List ((Int) × (Int)))) = ((aM g e).1) := by
   (have ha : 0 ≤ e ∧ e < (g.2.length : Int) := by omega
    have hs := iv hmay ha
    have hs2 : ¬ (g.1 < 1024 ∧ g.2.length < 3072) := fun h => p7 (dt (hs.2 h))
    simp only [aM, if_pos hmay, if_pos ha, if_neg hs2]; done)
 have e1 : (3 : Int) = ((aM g e).2) := by
   (have ha : 0 ≤ e ∧ e < (g.2.length : Int) := by omega
    have hs := iv hmay ha
    have hs2 : ¬ (g.1 < 1024 ∧ g.2.length < 3072) := fun h => p7 (dt (hs.2 h))
    simp only [aM, if_pos hmay, if_pos ha, if_neg hs2]; done)
 exact ⟨(fin w0 g49 (fun n => 0), vn), (ci (a := (0, [])) (b := 3) (fun (z0 : (Int) × (List ((Int) × (Int)))) (z1 : Int) => Ending.returned (vt [vg [vi z0.1, vn], vi z1])) e0 e1), bH.fresh _, ((congrArg (fun (z : (Int) × (List ((Int) × (Int)))) => z.2) e0) ▸ Ow.nil)⟩
end TL
