import Derived.Test.YtilohhkbelkmdaaTlP3
import Derived.Test.YtilohhkbelkmdaaTlGenA
import Derived.Test.YtilohhkbelkmdaaTlGenD
import Derived.Test.YtilohhkbelkmdaaTlGenE
import Derived.Test.YtilohhkbelkmdaaTlGenR
import Derived.Test.YtilohhkbelkmdaaTlGenX
import Derived.Test.YtilohhkbelkmdaaTlGenI
import Derived.Test.YtilohhkbelkmdaaTlGenJ
import Derived.Test.YtilohhkbelkmdaaTlGenK
import Derived.Test.YtilohhkbelkmdaaProg
set_option linter.all false
set_option maxRecDepth 20000
namespace TL
open Go Go.Proofs
theorem fM : Try.prog.follows .mixedOrders = true := by kernel_rfl
theorem gQ : Tp Try.prog 55 true 2 16 (.agg #[.int .i64 0, .int .i64 0]) := Tp.of (by kernel_rfl)
theorem fc : Try.f26.body.isNone = false := rfl
theorem fe : (Try.f26.name == "runtime.NumGoroutine") = false := by decide +kernel
theorem uR : Try.f63.body.isNone = false := rfl
theorem ti : (Try.f63.name == "runtime.NumGoroutine") = false := by decide +kernel
theorem td : Try.f81.body.isNone = false := rfl
theorem sU : (Try.f81.name == "runtime.NumGoroutine") = false := by decide +kernel
theorem tz : Try.f84.body.isNone = false := rfl
theorem uP : (Try.f84.name == "runtime.NumGoroutine") = false := by decide +kernel
theorem uc : Try.f85.body.isNone = false := rfl
theorem sR : (Try.f85.name == "runtime.NumGoroutine") = false := by decide +kernel
theorem uj : Try.f86.body.isNone = false := rfl
theorem uB : (Try.f86.name == "runtime.NumGoroutine") = false := by decide +kernel
theorem tG (w0 : World) (g : (Int) × (List ((Int) × (Int)))) (g_v : Value) (hg_v : Ro w0 g_v g.2) (r : bj) (r_v : Value) (hr_v : Ro w0 r_v r) (hmay : bx g) (hr : cf g r) :
    Calls Try.prog 39 #[vg [vi g.1, g_v], r_v] w0 (fun ee w => ∃ xx : aE × Value × Value, ee = .returned ((fun ⟨δ, rv0, rv1⟩ => vt [vg [vi (((aT g r).1).1), rv0], rv1, vi ((aT g r).2.2)]) xx) ∧ (fun (⟨δ, rv0, rv1⟩ : aE × Value × Value) (w : World) => cC w0 δ w ∧ Ow δ (is 1) (is 1) w rv0 (((aT g r).1).2) ∧ cj δ 2 w rv1 ((aT g r).2.1)) xx w) := by
 refine az Try.func39 rfl (Nat.le_of_ble_eq_true rfl) ?_
 have bH := b9.start w0
 have Rg := hg_v.sl
 have Rr := hr_v.sl
 have hm := hmay
 have hrp := hr
 have hm0 := hmay
 obtain ⟨hm1, hm2, hm3, hm4⟩ := hm0
 have hrl := hr.1
 have hFl : (ax (aw g r) r).length ≤ 8000 := by have h := cT g r hmay hr; rw [bG (br hmay hr)] at h; exact h
 have hol0 := ec g r
 refine a9 (a8 rfl (cr rfl (bR c0 (is 1) (1, 0) rfl rfl ?_)))
 intro g4 w1 b3 ch2 bx5
 replace bx5 : Bx g4 (is 1) w1 b3 [vi g.1, g_v] := bx5
 refine lo (bw g4 (is 2) (2, 0) rfl ak ?_)
 intro g9 w6 b8 ch7 bx10
 replace bx10 : Bx g9 (is 2) w6 b8 [vi 0, vn] := bx10
 refine ma vn (ai 0 (aa (a9 (a8 rfl ?_))))
 replace bx5 := bx5.cn ch7
 refine lx (aq (ds := [vi g.1, g_v]) ak rfl bx5 rfl rfl) (mv r_v ?_)
 replace Rg := (Rg.cn ch2).cn ch7
 replace Rr := (Rr.cn ch2).cn ch7
 refine lo (aV (aD (vals := [vg [vi g.1, g_v], r_v]) Try.func29 kR lB rfl) (gy w6 g g_v (Rg).ro r r_v (Rr).ro ‹_› ‹_›) ?_)
 rintro ⟨d12, v14⟩ w11 ⟨fr13, o15⟩
 obtain ⟨g16, ch17, G16⟩ := dw g9 fr13 (fun n => if n = 1 then 3 else 0)
 replace o15 := o15.gl G16 3
 refine ma v14 (aa (a9 (a8 rfl ?_)))
 replace bx5 := bx5.cn ch17
 refine lx (aq (ds := [vi g.1, g_v]) ak rfl bx5 rfl rfl) (mv r_v ?_)
 replace Rg := Rg.cn ch17
 replace Rr := Rr.cn ch17
 refine lo (aV (aD (vals := [vg [vi g.1, g_v], r_v]) Try.func26 fc fe rfl) (gi w11 g g_v (Rg).ro r r_v (Rr).ro ‹_› ‹_›) ?_)
 rintro ⟨d19, v21⟩ w18 ⟨fr20, o22⟩
 obtain ⟨g23, ch24, G23⟩ := dw g16 fr20 (fun n => if n = 1 then 4 else 0)
 replace o22 := o22.gl G23 4
 refine ma v21 (aa (a9 (a8 rfl (mv v14 ?_))))
 replace o15 := o15.cn ch24
 have len25 := (o15.sl).small
 refine lx (aO Try.underlying25 rfl o15.sl) (lw (vg [vi (List.length (ax (aw g r) r) : Int), vn]) (bn (vs := [(0, vi (List.length (ax (aw g r) r) : Int))]) rfl (by kernel_rfl)) (lo (bw g23 (is 5) (5, 0) rfl ak ?_)))
 intro g29 w26 b28 ch27 bx30
 replace bx30 : Bx g29 (is 5) w26 b28 [vi 0, vn] := bx30
 refine lo (aC (cs' := [vi (List.length (ax (aw g r) r) : Int), vn]) ak rfl rfl bx30 rfl (Nat.le_of_ble_eq_true rfl) (AllOne.all (.cons rfl (.cons rfl .nil))) rfl ?_)
 intro w31 ch32 bx33
 clear bx30
 refine aa (a9 (a9 (a8 rfl (ai 0 (aa (ah ?_))))))
 refine aN (σ := Value × (List ((Int) × (Int))) × Nat × aE) (fun ⟨d_1_v, d_1, k, gq⟩ f w => b9 w0 gq w ∧ f 2 = vp b3 0 ∧ f 4 = vp b8 0 ∧ f 7 = v14 ∧ f 8 = v21 ∧ f 9 = vp b28 0 ∧ f 10 = vi (k : Int) ∧ Sl gq (is 0) w g_v g.2 ∧ Sl gq (is 0) w r_v r ∧ Bx gq (is 1) w b3 [vi g.1, g_v] ∧ Bx gq (is 2) w b8 [vi 0, vn] ∧ cj gq 3 w v14 (ax (aw g r) r) ∧ Ow gq (is 4) (is 4) w v21 (bX g r) ∧ Bx gq (is 5) w b28 [vi (List.length (ax (aw g r) r) : Int), d_1_v] ∧ Ow gq (is 7) (is 7) w d_1_v d_1 ∧ (k : Int) ≤ ((g.2.length : Int) : Int) ∧ (d_1 = (c7 k).map (aB (bX g r)))) (fun ⟨d_1_v, d_1, k, gq⟩ => Int.toNat (((g.2.length : Int) : Int) - (k : Int))) (vn, [], 0, g29) ?_ ?_
 have C35 := cg [5] (ch24.n.seq (ch27.n.seq (ch32.l rfl)))
 have C36 := ch17.n.seq C35
 have C34 := ch2.n.seq (ch7.n.seq C36)
 · exact ⟨bH.ca C34, rfl, rfl, rfl, rfl, rfl, rfl, Rg.ca C35, Rr.ca C35, bx5.ca C35, bx10.ca C36, (o15.cn ch27).ce ch32, (o22.cn ch27).ce ch32, bx33, Ow.nil, by omega, by rfl⟩
 clear Rg Rr bx5 bx10 o15 o22 bx33 bH
 rintro ⟨d_1_v, d_1, k, g39⟩ f37 w38 ⟨bH, zs2, zs4, zs7, zs8, zs9, zs10, Rg, Rr, bx5, bx10, o15, o22, bx33, o_d_1, hle_k, hinv⟩ back5
 have hdl : d_1.length = k := by rw [hinv, List.length_map, cP]
 refine a9 (a9 (a8 rfl (mz zs10 (lx (ad Try.underlying24 rfl rfl zs2 rfl) (lx (af bo rfl bx5 rfl) ?_)))))
 have len40 := (Rg).small
 refine lx (aO Try.underlying22 rfl Rg) (lx (bc (m := (k : Int)) (n := (g.2.length : Int)) rfl rfl) (aa ?_))
 by_cases p5 : (k : Int) < (g.2.length : Int)
 ·
  refine ae rfl (dt p5) (aj (a9 (ah (ch g39 [0, 1, 2, 3, 4, 5, 6, 7, 8, 9, 10, 11, 12, 13, 16] fM ?_))))
  intro w42 ch41
  refine xp 0 rfl (fun w => ad Try.underlying24 rfl rfl zs9 rfl) ?_
  replace bx33 := bx33.cn ch41
  refine xh 1 [0, 2, 3, 7, 8, 4, 9, 5, 10, 6, 11, 12, 13, 14] rfl (fun w' hw' => af bo rfl (bx33.bel hw') rfl) (xp (v := v21) 2 rfl (fun w => au zs8) (xp (v := vi (k : Int)) 3 rfl (fun w => au zs10) (xp 4 rfl (fun w => du (m := 2) (n := (k : Int)) rfl rfl (by omega)) ?_)))
  replace o22 := o22.cn ch41
  refine xv 5 [4, 3, 2, 1, 0, 7, 8, 9, 10, 11, 12] rfl (ab (v := v21) (i := 2 * (k : Int)) Try.underlying27 rfl rfl o22.flat rfl (by omega) (by omega)) (xv 6 [5, 4, 3, 2, 1, 0, 7, 8, 9, 10, 11, 12] rfl (ay (v := v21) (i := 2 * (k : Int)) am rfl o22.flat (by omega) (by omega) (by decide) rfl) (xp (v := v21) 7 rfl (fun w => au zs8) (xp (v := vi (k : Int)) 8 rfl (fun w => au zs10) (xp 9 rfl (fun w => du (m := 2) (n := (k : Int)) rfl rfl (by omega)) (xp 10 rfl (fun w => aQ (m := 2 * (k : Int)) (n := 1) rfl rfl (by omega)) (xv 11 [10, 9, 8, 7, 6, 5, 4, 3, 2, 1, 0] rfl (ab (v := v21) (i := (2 * (k : Int)) + 1) Try.underlying27 rfl rfl o22.flat rfl (by omega) (by omega)) ?_))))))
  refine xv 12 [11, 10, 9, 8, 7, 6, 5, 4, 3, 2, 1, 0] rfl (ay (v := v21) (i := (2 * (k : Int)) + 1) am rfl o22.flat (by omega) (by omega) (by decide) rfl) (xp (v := vg [vi (gI (bX g r) (2 * (k : Int))), vi (gI (bX g r) ((2 * (k : Int)) + 1))]) 13 rfl (fun w => bn (vs := [(0, vi (gI (bX g r) (2 * (k : Int)))), (1, vi (gI (bX g r) ((2 * (k : Int)) + 1)))]) rfl (by kernel_rfl)) (bM 14 rfl (by kernel_rfl) rfl (aA (α := (Int) × (Int)) g39 (is 6) (is 6) (6, 0) rfl [((gI (bX g r) (2 * (k : Int))), (gI (bX g r) ((2 * (k : Int)) + 1)))] Try.underlying22 bD (by decide) (by decide) (vs := [(0, vg [vi (gI (bX g r) (2 * (k : Int))), vi (gI (bX g r) ((2 * (k : Int)) + 1))])]) rfl rfl (.cons rfl .nil) ?_)))
  intro g43 w44 v45 ch46 o47
  refine bM 15 rfl (by kernel_rfl) rfl ?_
  replace o_d_1 := (o_d_1.cn ch41).cn ch46
  refine aR (α := (Int) × (Int)) (xs := d_1) (ys := ([((gI (bX g r) (2 * (k : Int))), (gI (bX g r) ((2 * (k : Int)) + 1)))])) g43 (J := is 7) (S := is 7) (7, 0) rfl Try.underlying22 bD (by decide) rfl rfl rfl o_d_1 o47.flat (by decide) (by (simp; omega)) ?_
  intro g48 w49 v50 ch51 o52
  clear o_d_1
  refine xp 16 rfl (fun w => ad Try.underlying24 rfl rfl zs9 rfl) (bM 17 rfl (by kernel_rfl) rfl ?_)
  replace bx33 := (bx33.cn ch46).ce ch51
  refine cK (cs' := [vi (List.length (ax (aw g r) r) : Int), v50]) bo rfl rfl bx33 (c6 o52.flat) (Nat.le_of_ble_eq_true rfl) (bm o52.flat) rfl ?_
  intro w53 ch54 bx55
  clear bx33
  refine cO (by kernel_rfl) (ao ?_)
  clear o47
  refine a8 rfl (mz zs10 (lx (aQ (m := (k : Int)) (n := 1) rfl rfl (by omega)) (ai ((k : Int) + 1) (aa ?_))))
  have C57 := cg [5, 7] (ch46.n.seq ((ch51.l rfl).seq (ch54.l rfl)))
  have C56 := ch41.n.seq C57
  refine back5 (v50, (d_1 ++ [((gI (bX g r) (2 * (k : Int))), (gI (bX g r) ((2 * (k : Int)) + 1)))]), k + 1, g48) _ _ ⟨bH.ca C56, zs2, zs4, zs7, zs8, zs9, rfl, Rg.ca C56, Rr.ca C56, bx5.ca C56, bx10.ca C56, o15.ca C56, o22.ca C57, bx55, o52.ce ch54, by omega, ?_⟩ ?_
  · show (d_1 ++ [((gI (bX g r) (2 * (k : Int))), (gI (bX g r) ((2 * (k : Int)) + 1)))]) = (c7 (k + 1)).map (aB (bX g r))
    rw [ew, List.map_append, ← hinv]; rfl
  · show Int.toNat (((g.2.length : Int) : Int) - ((k + 1) : Int)) < Int.toNat (((g.2.length : Int) : Int) - (k : Int))
    omega
 refine ag rfl (df p5) (aI rfl (a9 (a9 ?_)))
 clear bx5 o22
 have hdn : ((List.length (ax (aw g r) r) : Int), d_1) = fo g r := by rw [li hm hrp, hinv, show k = g.2.length by omega]
 refine a8 rfl (lx (aq (ds := [vi (List.length (ax (aw g r) r) : Int), d_1_v]) ak zs9 bx33 rfl rfl) (lo (bO (v := Value.bool (cD ((List.length (ax (aw g r) r) : Int), d_1))) (aD (vals := [vg [vi (List.length (ax (aw g r) r) : Int), d_1_v]]) Try.func35 lK lp rfl) (jo w38 ((List.length (ax (aw g r) r) : Int), d_1) d_1_v (o_d_1.flat).ro) ?_)))
 intro w58 hb59
 replace hb59 := aG hb59 g39
 refine lx (dr (b := (cD ((List.length (ax (aw g r) r) : Int), d_1))) rfl) (aa ?_)
 by_cases p8 : (cD ((List.length (ax (aw g r) r) : Int), d_1)) = true
 ·
  have p8d := p8
  rw [hdn] at p8d
  have hdm := of_decide_eq_true p8d
  refine ag rfl (congrArg Bool.not p8) (aj (a9 (cx g39 (bW [2]) fM ?_)))
  intro w61 ch60
  replace bx33 := (bx33.cn hb59).cn ch60
  refine ht 0 rfl (bq.refl _ _ _) (fun w' hw' => aq (ds := [vi (List.length (ax (aw g r) r) : Int), d_1_v]) ak zs9 (bx33.chg hw' (bQ rfl)) rfl rfl) (ht (v := v14) 1 rfl (bq.refl _ _ _) (fun w' hw' => au zs7) (aW 2 rfl (by kernel_rfl) rfl ?_))
  replace o15 := (o15.cn hb59).cn ch60
  refine aV (aD (vals := [v14]) Try.func60 ln lP rfl) (gw w61 (ax (aw g r) r) v14 (o15.sl).ro) ?_
  rintro ⟨d63, v65⟩ w62 ⟨fr64, o66⟩
  obtain ⟨g67, ch68, G67⟩ := dw g39 fr64 (fun n => if n = 1 then 8 else 0)
  replace o66 := o66.gl G67 8
  have hs69 : bq (bW [2]) _ _ _ _ := ch68.n
  refine ⟨hs69.same, ?_⟩
  refine aW 3 rfl (by kernel_rfl) rfl ?_
  have C73 := cg [] (hb59.n.seq (ch60.n.seq ch68.n))
  replace bx10 := bx10.ca C73
  replace o_d_1 := (o_d_1.cn hb59).cn ch60
  refine aC (cs' := [vi (List.length (ax (aw g r) r) : Int), d_1_v]) ak zs4 rfl bx10 rfl (Nat.le_of_ble_eq_true rfl) (AllOne.all (.cons rfl (.cons (bm (o_d_1.ca hs69).flat) .nil))) rfl ?_
  intro w70 ch71 bx72
  clear bx10
  have hs74 := hs69.seq (ch71.l rfl)
  refine ⟨hs74.same, ?_⟩
  refine ht (v := v65) 4 rfl hs74.same (fun w' hw' => bz rfl) (ht (v := vi 0) 5 rfl hs74.same (fun w' hw' => bz rfl) (cA (by kernel_rfl) (av (vs := [vg [vi (List.length (ax (aw g r) r) : Int), d_1_v], v65, vi 0]) Try.func39 (.cell zs4 (bk (ds := [vi (List.length (ax (aw g r) r) : Int), d_1_v]) ak bx72 rfl rfl) (.tmp rfl (.tmp rfl .nil))) ?_)))
  have C75 := cg [2] (hb59.n.seq (ch60.n.seq (ch68.n.seq (ch71.l rfl))))
  replace bH := bH.ca C75
  replace o_d_1 := (o_d_1.cn ch68).ce ch71
  replace o66 := o66.ce ch71
  have e0 : (((List.length (ax (aw g r) r) : Int), d_1) : (Int) × (List ((Int) × (Int)))) = ((aT g r).1) := by
    rw [im hm hrp hdm, ← hdn]
  have e1 : (ct (ax (aw g r) r) : bj) = ((aT g r).2.1) := by
    rw [im hm hrp hdm]
  have e2 : (0 : Int) = ((aT g r).2.2) := by
    rw [im hm hrp hdm]
  exact ⟨(fin w0 g67 (fun n => if n = 7 then 1 else if n = 8 then 2 else 0), d_1_v, v65), (cq (a := ((List.length (ax (aw g r) r) : Int), d_1)) (b := ct (ax (aw g r) r)) (c := 0) (fun (z0 : (Int) × (List ((Int) × (Int)))) (z1 : bj) (z2 : Int) => Ending.returned (vt [vg [vi z0.1, d_1_v], v65, vi z2])) e0 e1 e2), bH.fresh _, ((congrArg (fun (z : (Int) × (List ((Int) × (Int)))) => z.2) e0) ▸ (o_d_1.glue (γ := c0) (ren := (fun n => if n = 7 then 1 else if n = 8 then 2 else 0)) (k := 1) bH.col rfl rfl)), (e1 ▸ (o66.glue (γ := c0) (ren := (fun n => if n = 7 then 1 else if n = 8 then 2 else 0)) (k := 2) bH.col rfl rfl))⟩
 have p8d := p8
 rw [hdn] at p8d
 have hdm : ¬ bx (fo g r) := fun h => p8d (dt h)
 refine ae rfl (congrArg Bool.not (Bool.eq_false_iff.2 p8)) (a9 ?_)
 clear o15 bx33 o_d_1
 refine a8 rfl (lw (vg [vi 0, vn]) (bn (vs := []) rfl (by kernel_rfl)) (lo ?_))
 replace bx10 := bx10.cn hb59
 refine aC (cs' := [vi 0, vn]) ak zs4 rfl bx10 rfl (Nat.le_of_ble_eq_true rfl) (AllOne.all (.cons rfl (.cons rfl .nil))) rfl ?_
 intro w76 ch77 bx78
 clear bx10
 refine ma vn (ai 3 (aa (av (vs := [vg [vi 0, vn], vn, vi 3]) Try.func39 (.cell zs4 (bk (ds := [vi 0, vn]) ak bx78 rfl rfl) (.tmp rfl (.tmp rfl .nil))) ?_)))
 replace bH := bH.cn hb59
 replace bH := bH.ce ch77
 have e0 : ((0, []) : (Int) × (List ((Int) × (Int)))) = ((aT g r).1) := by
   rw [js hm hrp hdm]
 have e1 : ([] : bj) = ((aT g r).2.1) := by
   rw [js hm hrp hdm]
 have e2 : (3 : Int) = ((aT g r).2.2) := by
   rw [js hm hrp hdm]
 exact ⟨(fin w0 g39 (fun n => 0), vn, vn), (cq (a := (0, [])) (b := []) (c := 3) (fun (z0 : (Int) × (List ((Int) × (Int)))) (z1 : bj) (z2 : Int) => Ending.returned (vt [vg [vi z0.1, vn], vn, vi z2])) e0 e1 e2), bH.fresh _, ((congrArg (fun (z : (Int) × (List ((Int) × (Int)))) => z.2) e0) ▸ Ow.nil), (e1 ▸ cj.nil)⟩
theorem qA (w0 : World) (g : (Int) × (List ((Int) × (Int)))) (g_v : Value) (hg_v : Ro w0 g_v g.2) (r : bj) (r_v : Value) (hr_v : Ro w0 r_v r) (c : (Int) × (Int)) (hr : cf g r) :
    Calls Try.prog 81 #[vg [vi g.1, g_v], r_v, vg [vi c.1, vi c.2]] w0 (fun ee w => ee = .returned (vi (aZ g r c)) ∧ dH w0.heap.size w0 w) := by
 refine az Try.func81 rfl (Nat.le_of_ble_eq_true rfl) ?_
 have bH := b9.start w0
 have Rg := hg_v.sl
 have Rr := hr_v.sl
 have hrl := hr.1
 refine a9 (a8 rfl (cr rfl (bR c0 (is 1) (1, 0) rfl rfl ?_)))
 intro g4 w1 b3 ch2 bx5
 replace bx5 : Bx g4 (is 1) w1 b3 [vi g.1, g_v] := bx5
 refine lo (bR g4 (is 2) (2, 0) rfl rfl ?_)
 intro g9 w6 b8 ch7 bx10
 replace bx10 : Bx g9 (is 2) w6 b8 [vi c.1, vi c.2] := bx10
 refine ai 0 (aa (a9 (a9 (a8 rfl (lx (ad Try.underlying55 rfl rfl rfl rfl) (lx (af am rfl bx10 rfl) (lx (bc (m := c.1) (n := 0) rfl rfl) (mv (Value.bool (decide (c.1 < 0))) ?_))))))))
 by_cases q11 : c.1 < 0
 ·
  refine al (wn (dt q11)) (al (wn (dt q11)) (al (wn (dt q11)) (al (wn (dt q11)) (al (wn (dt q11)) (lw (Value.bool true) (aY rfl (dt q11) rfl) (aa (ae rfl rfl (a9 ?_))))))))
  clear bx5 bx10
  refine a8 rfl (ai (-1) (aa (av (vs := [vi (-1)]) Try.func81 (.tmp rfl .nil) ?_)))
  have e0 : (-1 : Int) = (aZ g r c) := by
    exact mj (by omega)
  replace bH := bH.cn ch2
  replace bH := bH.cn ch7
  exact ⟨(congrArg (a₁ := -1) (fun (z0 : Int) => Ending.returned (vi z0)) e0), bH.below⟩
 refine lv (vp b8 0) (wy (df q11)) (ad Try.underlying55 rfl rfl rfl rfl) (lv (vi c.1) (wy (df q11)) (af am rfl bx10 rfl) (lv (vp b3 0) (wy (df q11)) (ad Try.underlying24 rfl rfl rfl rfl) ?_))
 replace bx5 := bx5.cn ch7
 refine lv (vi g.1) (wy (df q11)) (af am rfl bx5 rfl) (lv (Value.bool (decide (g.1 ≤ c.1))) (wy (df q11)) (dy (m := c.1) (n := g.1) rfl rfl) (lw (Value.bool (decide (g.1 ≤ c.1))) (b7 rfl (df q11) rfl) (aa ?_)))
 by_cases p1 : g.1 ≤ c.1
 ·
  refine ae rfl (dt p1) (a9 ?_)
  clear bx5 bx10
  refine a8 rfl (ai (-1) (aa (av (vs := [vi (-1)]) Try.func81 (.tmp rfl .nil) ?_)))
  have e0 : (-1 : Int) = (aZ g r c) := by
    exact mj (by omega)
  replace bH := bH.cn ch2
  replace bH := bH.cn ch7
  exact ⟨(congrArg (a₁ := -1) (fun (z0 : Int) => Ending.returned (vi z0)) e0), bH.below⟩
 refine ag rfl (df p1) (aj (a9 (a9 ?_)))
 clear bx5
 refine a8 rfl (mv r_v (lx (ad Try.underlying55 rfl rfl rfl rfl) (lx (af am rfl bx10 rfl) ?_)))
 replace Rr := (Rr.cn ch2).cn ch7
 refine lx (ab (v := r_v) (i := c.1) Try.underlying26 rfl rfl Rr rfl (by omega) (by omega)) ?_
 obtain ⟨v11, cel12, r13⟩ := co (r := c.1) Rr (by omega) (by omega)
 refine lx (aS aL rfl cel12) ?_
 have len14 := (r13).small
 refine lx (aO Try.underlying27 rfl r13) (lx (cR (m := (List.length (gI r c.1) : Int)) (n := 0) rfl rfl) (aa ?_))
 by_cases p3 : (List.length (gI r c.1) : Int) = 0
 ·
  refine ae rfl (dt p3) (a9 (a9 ?_))
  clear r13
  refine a8 rfl (lx (ad Try.underlying55 rfl rfl rfl rfl) (lx (af am rfl bx10 rfl) (lx (cR (m := c.2) (n := -1) rfl rfl) (aa ?_))))
  by_cases p4 : c.2 = (-1)
  ·
   refine ae rfl (dt p4) (a9 ?_)
   clear bx10
   refine a8 rfl (ai 0 (aa (av (vs := [vi 0]) Try.func81 (.tmp rfl .nil) ?_)))
   have e0 : (0 : Int) = (aZ g r c) := by
     exact rp (by omega) ‹_› ‹_›
   replace bH := bH.cn ch2
   replace bH := bH.cn ch7
   exact ⟨(congrArg (a₁ := 0) (fun (z0 : Int) => Ending.returned (vi z0)) e0), bH.below⟩
  refine ag rfl (df p4) (aj (a9 ?_))
  clear bx10
  refine a8 rfl (ai (-1) (aa (av (vs := [vi (-1)]) Try.func81 (.tmp rfl .nil) ?_)))
  have e0 : (-1 : Int) = (aZ g r c) := by
    exact rO (by omega) ‹_› ‹_›
  replace bH := bH.cn ch2
  replace bH := bH.cn ch7
  exact ⟨(congrArg (a₁ := -1) (fun (z0 : Int) => Ending.returned (vi z0)) e0), bH.below⟩
 refine ag rfl (df p3) (aj (a9 (a9 ?_)))
 clear r13
 refine a8 rfl (ai 0 (aa (ah ?_)))
 refine aN (σ := Nat × aE) (fun ⟨k, gq⟩ f w => b9 w0 gq w ∧ f 1 = r_v ∧ f 5 = vp b8 0 ∧ f 7 = vi (k : Int) ∧ Sl gq (is 0) w g_v g.2 ∧ Sl gq (is 0) w r_v r ∧ Bx gq (is 2) w b8 [vi c.1, vi c.2] ∧ (k : Int) ≤ ((List.length (gI r c.1) : Int) : Int) ∧ (∀ j : Nat, j < k → ¬ c.2 = gI (gI r c.1) (j : Int))) (fun ⟨k, gq⟩ => Int.toNat (((List.length (gI r c.1) : Int) : Int) - (k : Int))) (0, g9) ?_ ?_
 replace bH := bH.cn ch2
 · exact ⟨bH.cn ch7, rfl, rfl, rfl, (Rg.cn ch2).cn ch7, Rr, bx10, by omega, by intro j hj; omega⟩
 clear Rg Rr bx10 bH
 rintro ⟨k, g17⟩ f15 w16 ⟨bH, zs1, zs5, zs7, Rg, Rr, bx10, hle_k, hinv⟩ back8
 refine a9 (a9 (a8 rfl (mz zs7 (mz zs1 (lx (ad Try.underlying55 rfl rfl zs5 rfl) (lx (af am rfl bx10 rfl) (lx (ab (v := r_v) (i := c.1) Try.underlying26 rfl rfl Rr rfl (by omega) (by omega)) ?_)))))))
 obtain ⟨v18, cel19, r20⟩ := co (r := c.1) Rr (by omega) (by omega)
 refine lx (aS aL rfl cel19) (lx (aO Try.underlying27 rfl r20) (lx (bc (m := (k : Int)) (n := (List.length (gI r c.1) : Int)) rfl rfl) (aa ?_)))
 by_cases p8 : (k : Int) < (List.length (gI r c.1) : Int)
 ·
  refine ae rfl (dt p8) (aj (a9 (ah (a9 ?_))))
  clear r20
  refine ck g17 rfl fM (by kernel_rfl) ?_
  intro w22 ch21
  refine qz zs1 (qx (fun w' hw' => ad Try.underlying55 rfl rfl zs5 rfl) ?_)
  replace bx10 := bx10.cn ch21
  refine qx (fun w' hw' => af am rfl (bx10.bel hw') rfl) ?_
  replace Rr := Rr.cn ch21
  refine qx (fun w' hw' => ab (v := r_v) (i := c.1) Try.underlying26 rfl rfl (Rr.bel hw') rfl (by omega) (by omega)) ?_
  obtain ⟨v23, cel24, r25⟩ := co (r := c.1) Rr (by omega) (by omega)
  refine qx (fun w' hw' => aS aL rfl (cX cel24 hw')) (qz zs7 (qx (fun w' hw' => ab (v := v23) (i := (k : Int)) Try.underlying27 rfl rfl (r25.bel hw') rfl (by omega) (by omega)) (qx (fun w' hw' => ay (v := v23) (i := (k : Int)) am rfl (r25.bel hw') (by omega) (by omega) (by decide) rfl) (qx (fun w' hw' => ad Try.underlying55 rfl rfl zs5 rfl) (qx (fun w' hw' => af am rfl (bx10.bel hw') rfl) (qx (fun w' hw' => cR (m := (gI (gI r c.1) (k : Int))) (n := c.2) rfl rfl) (cV ?_)))))))
  intro w26 hc27
  replace hc27 := aG hc27 g17
  by_cases p10 : (gI (gI r c.1) (k : Int)) = c.2
  ·
   refine ae rfl (dt p10) (a9 ?_)
   clear bx10 r25
   refine a8 rfl (mz zs7 (ai (k : Int) (aa (av (vs := [vi (k : Int)]) Try.func81 (.tmp rfl .nil) ?_))))
   have e0 : ((k : Int) : Int) = (aZ g r c) := by
     (rw [ly (by omega) ‹_›]; exact l7 hinv ‹_› (Eq.symm ‹_›))
   replace bH := bH.cn ch21
   replace bH := bH.cn hc27
   exact ⟨(congrArg (a₁ := (k : Int)) (fun (z0 : Int) => Ending.returned (vi z0)) e0), bH.below⟩
  refine ag rfl (df p10) (aj (ao ?_))
  clear r25
  refine a8 rfl (mz zs7 (lx (aQ (m := (k : Int)) (n := 1) rfl rfl (by omega)) (ai ((k : Int) + 1) (aa ?_))))
  replace bH := bH.cn ch21
  refine back8 (k + 1, g17) _ _ ⟨bH.cn hc27, zs1, zs5, rfl, (Rg.cn ch21).cn hc27, Rr.cn hc27, bx10.cn hc27, by omega, ?_⟩ ?_
  · show ∀ j : Nat, j < (k + 1) → ¬ c.2 = gI (gI r c.1) (j : Int)
    intro j hj
    by_cases e0 : j = k
    · subst e0; intro h; exact absurd h.symm ‹_›
    · exact hinv j (by omega)
  · show Int.toNat (((List.length (gI r c.1) : Int) : Int) - ((k + 1) : Int)) < Int.toNat (((List.length (gI r c.1) : Int) : Int) - (k : Int))
    omega
 refine ag rfl (df p8) (aI rfl (a9 ?_))
 clear bx10 r20
 refine a8 rfl (ai (-1) (aa (av (vs := [vi (-1)]) Try.func81 (.tmp rfl .nil) ?_)))
 have e0 : (-1 : Int) = (aZ g r c) := by
   (rw [ly (by omega) ‹_›]; exact px hinv ‹_›)
 exact ⟨(congrArg (a₁ := -1) (fun (z0 : Int) => Ending.returned (vi z0)) e0), bH.below⟩
theorem jW (w0 : World) (g : (Int) × (List ((Int) × (Int)))) (g_v : Value) (hg_v : Ro w0 g_v g.2) (r : bj) (r_v : Value) (hr_v : Ro w0 r_v r) (c : (Int) × (Int)) (hmay : bx g) (hr : cf g r) :
    Calls Try.prog 40 #[vg [vi g.1, g_v], r_v, vg [vi c.1, vi c.2]] w0 (fun ee w => ee = .returned (vt [vi ((aU g r c).1), vi ((aU g r c).2)]) ∧ dH w0.heap.size w0 w) := by
 refine az Try.func40 rfl (Nat.le_of_ble_eq_true rfl) ?_
 have bH := b9.start w0
 have Rg := hg_v.sl
 have Rr := hr_v.sl
 have hm := hmay
 have hrp := hr
 have hm0 := hmay
 obtain ⟨hm1, hm2, hm3, hm4⟩ := hm0
 have hrl := hr.1
 have hFl : (ax (aw g r) r).length ≤ 8000 := by have h := cT g r hmay hr; rw [bG (br hmay hr)] at h; exact h
 have hol0 := ec g r
 have hpb := rc (g := g) (r := r) (c := c)
 refine a9 (a8 rfl (cr rfl (bR c0 (is 1) (1, 0) rfl rfl ?_)))
 intro g4 w1 b3 ch2 bx5
 replace bx5 : Bx g4 (is 1) w1 b3 [vi g.1, g_v] := bx5
 refine lo (bR g4 (is 2) (2, 0) rfl rfl ?_)
 intro g9 w6 b8 ch7 bx10
 replace bx10 : Bx g9 (is 2) w6 b8 [vi c.1, vi c.2] := bx10
 refine ai 0 (ai 0 (aa (a9 (a8 rfl ?_))))
 replace bx5 := bx5.cn ch7
 refine lx (aq (ds := [vi g.1, g_v]) ak rfl bx5 rfl rfl) (mv r_v (lx (aq (ds := [vi c.1, vi c.2]) gQ rfl bx10 rfl rfl) ?_))
 replace Rg := (Rg.cn ch2).cn ch7
 replace Rr := (Rr.cn ch2).cn ch7
 refine lo (bO (v := vi (aZ g r c)) (aD (vals := [vg [vi g.1, g_v], r_v, vg [vi c.1, vi c.2]]) Try.func81 td sU rfl) (qA w6 g g_v (Rg).ro r r_v (Rr).ro c ‹_›) ?_)
 intro w11 hb12
 replace hb12 := aG hb12 g9
 refine ai (aZ g r c) (aa (a9 (a9 (a8 rfl (mi (aZ g r c) (lx (bc (m := aZ g r c) (n := 0) rfl rfl) (aa ?_)))))))
 by_cases p2 : (aZ g r c) < 0
 ·
  refine ae rfl (dt p2) (a9 ?_)
  clear bx5 bx10
  refine a8 rfl (ai 0 (ai 2 (aa (av (vs := [vi 0, vi 2]) Try.func40 (.tmp rfl (.tmp rfl .nil)) ?_))))
  have e0 : (0 : Int) = ((aU g r c).1) := by
    rw [nn hm hrp p2]
  have e1 : (2 : Int) = ((aU g r c).2) := by
    rw [nn hm hrp p2]
  have C13 := cg [] (ch2.n.seq (ch7.n.seq hb12.n))
  replace bH := bH.ca C13
  exact ⟨(ci (a := 0) (b := 2) (fun (z0 : Int) (z1 : Int) => Ending.returned (vt [vi z0, vi z1])) e0 e1), bH.below⟩
 have hcp := iC.1 p2
 obtain ⟨hc1, hc2⟩ := hcp.1
 have hrw := di hm hrp hcp
 refine ag rfl (df p2) (aj (a9 (a9 (a8 rfl (mv r_v (lx (ad Try.underlying55 rfl rfl rfl rfl) ?_))))))
 replace bx10 := bx10.cn hb12
 refine lx (af am rfl bx10 rfl) ?_
 replace Rr := Rr.cn hb12
 refine lx (ab (v := r_v) (i := c.1) Try.underlying26 rfl rfl Rr rfl (by omega) (by omega)) ?_
 obtain ⟨v14, cel15, r16⟩ := co (r := c.1) Rr (by omega) (by omega)
 refine lx (aS aL rfl cel15) ?_
 have len17 := (r16).small
 refine lx (aO Try.underlying27 rfl r16) (lx (fW (m := (List.length (gI r c.1) : Int)) (n := 0) rfl rfl) (aa ?_))
 by_cases p4 : 0 < (List.length (gI r c.1) : Int)
 ·
  have he1 := Int.emod_nonneg (aZ g r c + 1) (show ((List.length (gI r c.1) : Nat) : Int) ≠ 0 by omega)
  have he2 := Int.emod_lt_of_pos (aZ g r c + 1) p4
  have hat := hrw.2.2.1 _ (bu he1 he2)
  refine ae rfl (dt p4) (a9 ?_)
  clear r16
  refine dS (σ := aE) (fun gq f w => b9 w0 gq w ∧ f 6 = vi (gI (bX g r) (gI (gI r c.1) (((aZ g r c) + 1) % (List.length (gI r c.1) : Int)))) ∧ f 7 = vi 0 ∧ Sl gq (is 0) w g_v g.2 ∧ Sl gq (is 0) w r_v r) g9 (bW []) fM ?_ ?_
  ·
   intro mid
   intro w19 ch18
   replace bx5 := (bx5.cn hb12).cn ch18
   refine ht 0 rfl (bq.refl _ _ _) (fun w' hw' => aq (ds := [vi g.1, g_v]) ak rfl (bx5.chg hw' (bQ rfl)) rfl rfl) (ht (v := r_v) 1 rfl (bq.refl _ _ _) (fun w' hw' => au rfl) (ht (v := r_v) 3 rfl (bq.refl _ _ _) (fun w' hw' => au rfl) (ht 4 rfl (bq.refl _ _ _) (fun w' hw' => ad Try.underlying55 rfl rfl rfl rfl) ?_)))
   replace bx10 := bx10.cn ch18
   refine ht 5 rfl (bq.refl _ _ _) (fun w' hw' => af am rfl (bx10.chg hw' (bQ rfl)) rfl) (ht (v := vi (aZ g r c)) 8 rfl (bq.refl _ _ _) (fun w' hw' => au rfl) (ht 9 rfl (bq.refl _ _ _) (fun w' hw' => aQ (m := aZ g r c) (n := 1) rfl rfl (by omega)) (ht (v := r_v) 10 rfl (bq.refl _ _ _) (fun w' hw' => au rfl) (ht 11 rfl (bq.refl _ _ _) (fun w' hw' => ad Try.underlying55 rfl rfl rfl rfl) (ht 12 rfl (bq.refl _ _ _) (fun w' hw' => af am rfl (bx10.chg hw' (bQ rfl)) rfl) ?_)))))
   refine d8 2 [6, 13] (by kernel_rfl) ⟨da 2 rfl (by kernel_rfl) rfl ?_, da 6 rfl (by kernel_rfl) rfl ?_, da 13 rfl (by kernel_rfl) rfl ?_, trivial⟩
   ·
    replace Rg := (Rg.cn hb12).cn ch18
    replace Rr := Rr.cn ch18
    refine aV (aD (vals := [vg [vi g.1, g_v], r_v]) Try.func26 fc fe rfl) (gi w19 g g_v (Rg).ro r r_v (Rr).ro ‹_› ‹_›) ?_
    rintro ⟨d21, v23⟩ w20 ⟨fr22, o24⟩
    obtain ⟨g25, ch26, G25⟩ := dw g9 fr22 (fun n => if n = 1 then 3 else 0)
    replace o24 := o24.gl G25 3
    have hs27 : bq (bW []) _ _ _ _ := ch26.n
    refine ⟨hs27.same, ?_⟩
    refine d8 6 [13] (by kernel_rfl) ⟨da 6 rfl (by kernel_rfl) rfl ?_, da 13 rfl (by kernel_rfl) rfl ?_, trivial⟩
    ·
     refine aJ (v := Value.pointer (some (ba r_v 1 (Int.toNat c.1)))) (ab (α := List Int) (xs := r) (v := r_v) (i := c.1) Try.underlying26 rfl rfl (Rr.ca hs27) rfl (by omega) (by omega)) ?_
     refine ⟨hs27.same, ?_⟩
     obtain ⟨v28, cel29, r30⟩ := eM (r := c.1) Rr (by omega) (by omega)
     refine ht 7 rfl hs27.same (fun w' hw' => aS aL rfl (cel29 _ w' (bQ rfl) hw')) (aW 13 rfl (by kernel_rfl) rfl (aJ (v := Value.pointer (some (ba r_v 1 (Int.toNat c.1)))) (ab (α := List Int) (xs := r) (v := r_v) (i := c.1) Try.underlying26 rfl rfl (Rr.ca hs27) rfl (by omega) (by omega)) ?_))
     refine ⟨hs27.same, ?_⟩
     obtain ⟨v31, cel32, r33⟩ := eM (r := c.1) Rr (by omega) (by omega)
     refine ht 14 rfl hs27.same (fun w' hw' => aS aL rfl (cel32 _ w' (bQ rfl) hw')) (ht 15 rfl hs27.same (fun w' hw' => aO Try.underlying27 rfl r33) (ht 16 rfl hs27.same (fun w' hw' => eT (m := (aZ g r c) + 1) (n := (List.length (gI r c.1) : Int)) rfl rfl (by omega) (by omega)) (aW 17 rfl (by kernel_rfl) rfl (aJ (v := Value.pointer (some (ba v28 1 (Int.toNat (((aZ g r c) + 1) % (List.length (gI r c.1) : Int)))))) (ab (α := Int) (xs := gI r c.1) (v := v28) (i := ((aZ g r c) + 1) % (List.length (gI r c.1) : Int)) Try.underlying27 rfl rfl (r30.ca hs27) rfl (by omega) (by omega)) ?_))))
     refine ⟨hs27.same, ?_⟩
     refine ht 18 rfl hs27.same (fun w' hw' => ay (v := v28) (i := ((aZ g r c) + 1) % (List.length (gI r c.1) : Int)) am rfl (r30.chg hw' (bQ rfl)) (by omega) (by omega) (by decide) rfl) (aW 19 rfl (by kernel_rfl) rfl (aJ (v := Value.pointer (some (ba v23 1 (Int.toNat (gI (gI r c.1) (((aZ g r c) + 1) % (List.length (gI r c.1) : Int))))))) (ab (α := Int) (xs := bX g r) (v := v23) (i := (gI (gI r c.1) (((aZ g r c) + 1) % (List.length (gI r c.1) : Int)))) Try.underlying27 rfl rfl o24.flat rfl (by omega) (by omega)) ?_))
     refine ⟨hs27.same, ?_⟩
     refine aW 20 rfl (by kernel_rfl) rfl (aJ (v := vi (gI (bX g r) (gI (gI r c.1) (((aZ g r c) + 1) % (List.length (gI r c.1) : Int))))) (ay (α := Int) (xs := bX g r) (v := v23) (i := (gI (gI r c.1) (((aZ g r c) + 1) % (List.length (gI r c.1) : Int)))) am rfl o24.flat (by omega) (by omega) (by decide) rfl) ?_)
     refine ⟨hs27.same, ?_⟩
     refine ht (v := vi (gI (bX g r) (gI (gI r c.1) (((aZ g r c) + 1) % (List.length (gI r c.1) : Int))))) 21 rfl hs27.same (fun w' hw' => bz rfl) (ht (v := vi 0) 22 rfl hs27.same (fun w' hw' => bz rfl) (cA (by kernel_rfl) ?_))
     have C34 := cg [] (ch2.n.seq (ch7.n.seq (hb12.n.seq (ch18.n.seq ch26.n))))
     exact mid (g25) _ _ ⟨bH.ca C34, rfl, rfl, (Rg.ca hs27), (Rr.ca hs27)⟩
    ·
     refine aJ (v := Value.pointer (some (ba r_v 1 (Int.toNat c.1)))) (ab (α := List Int) (xs := r) (v := r_v) (i := c.1) Try.underlying26 rfl rfl (Rr.ca hs27) rfl (by omega) (by omega)) ?_
     refine ⟨hs27.same, ?_⟩
     obtain ⟨v35, cel36, r37⟩ := eM (r := c.1) Rr (by omega) (by omega)
     refine ht 14 rfl hs27.same (fun w' hw' => aS aL rfl (cel36 _ w' (bQ rfl) hw')) (ht 15 rfl hs27.same (fun w' hw' => aO Try.underlying27 rfl r37) (ht 16 rfl hs27.same (fun w' hw' => eT (m := (aZ g r c) + 1) (n := (List.length (gI r c.1) : Int)) rfl rfl (by omega) (by omega)) (aW 6 rfl (by kernel_rfl) rfl (aJ (v := Value.pointer (some (ba r_v 1 (Int.toNat c.1)))) (ab (α := List Int) (xs := r) (v := r_v) (i := c.1) Try.underlying26 rfl rfl (Rr.ca hs27) rfl (by omega) (by omega)) ?_))))
     refine ⟨hs27.same, ?_⟩
     obtain ⟨v38, cel39, r40⟩ := eM (r := c.1) Rr (by omega) (by omega)
     refine ht 7 rfl hs27.same (fun w' hw' => aS aL rfl (cel39 _ w' (bQ rfl) hw')) (aW 17 rfl (by kernel_rfl) rfl (aJ (v := Value.pointer (some (ba v38 1 (Int.toNat (((aZ g r c) + 1) % (List.length (gI r c.1) : Int)))))) (ab (α := Int) (xs := gI r c.1) (v := v38) (i := ((aZ g r c) + 1) % (List.length (gI r c.1) : Int)) Try.underlying27 rfl rfl (r40.ca hs27) rfl (by omega) (by omega)) ?_))
     refine ⟨hs27.same, ?_⟩
     refine ht 18 rfl hs27.same (fun w' hw' => ay (v := v38) (i := ((aZ g r c) + 1) % (List.length (gI r c.1) : Int)) am rfl (r40.chg hw' (bQ rfl)) (by omega) (by omega) (by decide) rfl) (aW 19 rfl (by kernel_rfl) rfl (aJ (v := Value.pointer (some (ba v23 1 (Int.toNat (gI (gI r c.1) (((aZ g r c) + 1) % (List.length (gI r c.1) : Int))))))) (ab (α := Int) (xs := bX g r) (v := v23) (i := (gI (gI r c.1) (((aZ g r c) + 1) % (List.length (gI r c.1) : Int)))) Try.underlying27 rfl rfl o24.flat rfl (by omega) (by omega)) ?_))
     refine ⟨hs27.same, ?_⟩
     refine aW 20 rfl (by kernel_rfl) rfl (aJ (v := vi (gI (bX g r) (gI (gI r c.1) (((aZ g r c) + 1) % (List.length (gI r c.1) : Int))))) (ay (α := Int) (xs := bX g r) (v := v23) (i := (gI (gI r c.1) (((aZ g r c) + 1) % (List.length (gI r c.1) : Int)))) am rfl o24.flat (by omega) (by omega) (by decide) rfl) ?_)
     refine ⟨hs27.same, ?_⟩
     refine ht (v := vi (gI (bX g r) (gI (gI r c.1) (((aZ g r c) + 1) % (List.length (gI r c.1) : Int))))) 21 rfl hs27.same (fun w' hw' => bz rfl) (ht (v := vi 0) 22 rfl hs27.same (fun w' hw' => bz rfl) (cA (by kernel_rfl) ?_))
     have C41 := cg [] (ch2.n.seq (ch7.n.seq (hb12.n.seq (ch18.n.seq ch26.n))))
     exact mid (g25) _ _ ⟨bH.ca C41, rfl, rfl, (Rg.ca hs27), (Rr.ca hs27)⟩
   ·
    replace Rr := Rr.cn ch18
    refine aJ (v := Value.pointer (some (ba r_v 1 (Int.toNat c.1)))) (ab (α := List Int) (xs := r) (v := r_v) (i := c.1) Try.underlying26 rfl rfl Rr rfl (by omega) (by omega)) ?_
    refine ⟨(bq.refl _ _ _), ?_⟩
    obtain ⟨v42, cel43, r44⟩ := eM (r := c.1) Rr (by omega) (by omega)
    refine ht 7 rfl (bq.refl _ _ _) (fun w' hw' => aS aL rfl (cel43 _ w' (bQ rfl) hw')) ?_
    refine d8 2 [13] (by kernel_rfl) ⟨da 2 rfl (by kernel_rfl) rfl ?_, da 13 rfl (by kernel_rfl) rfl ?_, trivial⟩
    ·
     replace Rg := (Rg.cn hb12).cn ch18
     refine aV (aD (vals := [vg [vi g.1, g_v], r_v]) Try.func26 fc fe rfl) (gi w19 g g_v (Rg).ro r r_v (Rr).ro ‹_› ‹_›) ?_
     rintro ⟨d46, v48⟩ w45 ⟨fr47, o49⟩
     obtain ⟨g50, ch51, G50⟩ := dw g9 fr47 (fun n => if n = 1 then 3 else 0)
     replace o49 := o49.gl G50 3
     have hs52 : bq (bW []) _ _ _ _ := ch51.n
     refine ⟨hs52.same, ?_⟩
     refine aW 13 rfl (by kernel_rfl) rfl (aJ (v := Value.pointer (some (ba r_v 1 (Int.toNat c.1)))) (ab (α := List Int) (xs := r) (v := r_v) (i := c.1) Try.underlying26 rfl rfl (Rr.ca hs52) rfl (by omega) (by omega)) ?_)
     refine ⟨hs52.same, ?_⟩
     obtain ⟨v53, cel54, r55⟩ := eM (r := c.1) Rr (by omega) (by omega)
     refine ht 14 rfl hs52.same (fun w' hw' => aS aL rfl (cel54 _ w' (bQ rfl) hw')) (ht 15 rfl hs52.same (fun w' hw' => aO Try.underlying27 rfl r55) (ht 16 rfl hs52.same (fun w' hw' => eT (m := (aZ g r c) + 1) (n := (List.length (gI r c.1) : Int)) rfl rfl (by omega) (by omega)) (aW 17 rfl (by kernel_rfl) rfl (aJ (v := Value.pointer (some (ba v42 1 (Int.toNat (((aZ g r c) + 1) % (List.length (gI r c.1) : Int)))))) (ab (α := Int) (xs := gI r c.1) (v := v42) (i := ((aZ g r c) + 1) % (List.length (gI r c.1) : Int)) Try.underlying27 rfl rfl (r44.ca hs52) rfl (by omega) (by omega)) ?_))))
     refine ⟨hs52.same, ?_⟩
     refine ht 18 rfl hs52.same (fun w' hw' => ay (v := v42) (i := ((aZ g r c) + 1) % (List.length (gI r c.1) : Int)) am rfl (r44.chg hw' (bQ rfl)) (by omega) (by omega) (by decide) rfl) (aW 19 rfl (by kernel_rfl) rfl (aJ (v := Value.pointer (some (ba v48 1 (Int.toNat (gI (gI r c.1) (((aZ g r c) + 1) % (List.length (gI r c.1) : Int))))))) (ab (α := Int) (xs := bX g r) (v := v48) (i := (gI (gI r c.1) (((aZ g r c) + 1) % (List.length (gI r c.1) : Int)))) Try.underlying27 rfl rfl o49.flat rfl (by omega) (by omega)) ?_))
     refine ⟨hs52.same, ?_⟩
     refine aW 20 rfl (by kernel_rfl) rfl (aJ (v := vi (gI (bX g r) (gI (gI r c.1) (((aZ g r c) + 1) % (List.length (gI r c.1) : Int))))) (ay (α := Int) (xs := bX g r) (v := v48) (i := (gI (gI r c.1) (((aZ g r c) + 1) % (List.length (gI r c.1) : Int)))) am rfl o49.flat (by omega) (by omega) (by decide) rfl) ?_)
     refine ⟨hs52.same, ?_⟩
     refine ht (v := vi (gI (bX g r) (gI (gI r c.1) (((aZ g r c) + 1) % (List.length (gI r c.1) : Int))))) 21 rfl hs52.same (fun w' hw' => bz rfl) (ht (v := vi 0) 22 rfl hs52.same (fun w' hw' => bz rfl) (cA (by kernel_rfl) ?_))
     have C56 := cg [] (ch2.n.seq (ch7.n.seq (hb12.n.seq (ch18.n.seq ch51.n))))
     exact mid (g50) _ _ ⟨bH.ca C56, rfl, rfl, (Rg.ca hs52), (Rr.ca hs52)⟩
    ·
     refine aJ (v := Value.pointer (some (ba r_v 1 (Int.toNat c.1)))) (ab (α := List Int) (xs := r) (v := r_v) (i := c.1) Try.underlying26 rfl rfl Rr rfl (by omega) (by omega)) ?_
     refine ⟨(bq.refl _ _ _), ?_⟩
     obtain ⟨v57, cel58, r59⟩ := eM (r := c.1) Rr (by omega) (by omega)
     refine ht 14 rfl (bq.refl _ _ _) (fun w' hw' => aS aL rfl (cel58 _ w' (bQ rfl) hw')) (ht 15 rfl (bq.refl _ _ _) (fun w' hw' => aO Try.underlying27 rfl r59) (ht 16 rfl (bq.refl _ _ _) (fun w' hw' => eT (m := (aZ g r c) + 1) (n := (List.length (gI r c.1) : Int)) rfl rfl (by omega) (by omega)) ?_))
     refine d8 2 [17] (by kernel_rfl) ⟨da 2 rfl (by kernel_rfl) rfl ?_, da 17 rfl (by kernel_rfl) rfl ?_, trivial⟩
     ·
      replace Rg := (Rg.cn hb12).cn ch18
      refine aV (aD (vals := [vg [vi g.1, g_v], r_v]) Try.func26 fc fe rfl) (gi w19 g g_v (Rg).ro r r_v (Rr).ro ‹_› ‹_›) ?_
      rintro ⟨d61, v63⟩ w60 ⟨fr62, o64⟩
      obtain ⟨g65, ch66, G65⟩ := dw g9 fr62 (fun n => if n = 1 then 3 else 0)
      replace o64 := o64.gl G65 3
      have hs67 : bq (bW []) _ _ _ _ := ch66.n
      refine ⟨hs67.same, ?_⟩
      refine aW 17 rfl (by kernel_rfl) rfl (aJ (v := Value.pointer (some (ba v42 1 (Int.toNat (((aZ g r c) + 1) % (List.length (gI r c.1) : Int)))))) (ab (α := Int) (xs := gI r c.1) (v := v42) (i := ((aZ g r c) + 1) % (List.length (gI r c.1) : Int)) Try.underlying27 rfl rfl (r44.ca hs67) rfl (by omega) (by omega)) ?_)
      refine ⟨hs67.same, ?_⟩
      refine ht 18 rfl hs67.same (fun w' hw' => ay (v := v42) (i := ((aZ g r c) + 1) % (List.length (gI r c.1) : Int)) am rfl (r44.chg hw' (bQ rfl)) (by omega) (by omega) (by decide) rfl) (aW 19 rfl (by kernel_rfl) rfl (aJ (v := Value.pointer (some (ba v63 1 (Int.toNat (gI (gI r c.1) (((aZ g r c) + 1) % (List.length (gI r c.1) : Int))))))) (ab (α := Int) (xs := bX g r) (v := v63) (i := (gI (gI r c.1) (((aZ g r c) + 1) % (List.length (gI r c.1) : Int)))) Try.underlying27 rfl rfl o64.flat rfl (by omega) (by omega)) ?_))
      refine ⟨hs67.same, ?_⟩
      refine aW 20 rfl (by kernel_rfl) rfl (aJ (v := vi (gI (bX g r) (gI (gI r c.1) (((aZ g r c) + 1) % (List.length (gI r c.1) : Int))))) (ay (α := Int) (xs := bX g r) (v := v63) (i := (gI (gI r c.1) (((aZ g r c) + 1) % (List.length (gI r c.1) : Int)))) am rfl o64.flat (by omega) (by omega) (by decide) rfl) ?_)
      refine ⟨hs67.same, ?_⟩
      refine ht (v := vi (gI (bX g r) (gI (gI r c.1) (((aZ g r c) + 1) % (List.length (gI r c.1) : Int))))) 21 rfl hs67.same (fun w' hw' => bz rfl) (ht (v := vi 0) 22 rfl hs67.same (fun w' hw' => bz rfl) (cA (by kernel_rfl) ?_))
      have C68 := cg [] (ch2.n.seq (ch7.n.seq (hb12.n.seq (ch18.n.seq ch66.n))))
      exact mid (g65) _ _ ⟨bH.ca C68, rfl, rfl, (Rg.ca hs67), (Rr.ca hs67)⟩
     ·
      refine aJ (v := Value.pointer (some (ba v42 1 (Int.toNat (((aZ g r c) + 1) % (List.length (gI r c.1) : Int)))))) (ab (α := Int) (xs := gI r c.1) (v := v42) (i := ((aZ g r c) + 1) % (List.length (gI r c.1) : Int)) Try.underlying27 rfl rfl r44 rfl (by omega) (by omega)) ?_
      refine ⟨(bq.refl _ _ _), ?_⟩
      refine ht 18 rfl (bq.refl _ _ _) (fun w' hw' => ay (v := v42) (i := ((aZ g r c) + 1) % (List.length (gI r c.1) : Int)) am rfl (r44.chg hw' (bQ rfl)) (by omega) (by omega) (by decide) rfl) (aW 2 rfl (by kernel_rfl) rfl ?_)
      replace Rg := (Rg.cn hb12).cn ch18
      refine aV (aD (vals := [vg [vi g.1, g_v], r_v]) Try.func26 fc fe rfl) (gi w19 g g_v (Rg).ro r r_v (Rr).ro ‹_› ‹_›) ?_
      rintro ⟨d70, v72⟩ w69 ⟨fr71, o73⟩
      obtain ⟨g74, ch75, G74⟩ := dw g9 fr71 (fun n => if n = 1 then 3 else 0)
      replace o73 := o73.gl G74 3
      have hs76 : bq (bW []) _ _ _ _ := ch75.n
      refine ⟨hs76.same, ?_⟩
      refine aW 19 rfl (by kernel_rfl) rfl (aJ (v := Value.pointer (some (ba v72 1 (Int.toNat (gI (gI r c.1) (((aZ g r c) + 1) % (List.length (gI r c.1) : Int))))))) (ab (α := Int) (xs := bX g r) (v := v72) (i := (gI (gI r c.1) (((aZ g r c) + 1) % (List.length (gI r c.1) : Int)))) Try.underlying27 rfl rfl o73.flat rfl (by omega) (by omega)) ?_)
      refine ⟨hs76.same, ?_⟩
      refine aW 20 rfl (by kernel_rfl) rfl (aJ (v := vi (gI (bX g r) (gI (gI r c.1) (((aZ g r c) + 1) % (List.length (gI r c.1) : Int))))) (ay (α := Int) (xs := bX g r) (v := v72) (i := (gI (gI r c.1) (((aZ g r c) + 1) % (List.length (gI r c.1) : Int)))) am rfl o73.flat (by omega) (by omega) (by decide) rfl) ?_)
      refine ⟨hs76.same, ?_⟩
      refine ht (v := vi (gI (bX g r) (gI (gI r c.1) (((aZ g r c) + 1) % (List.length (gI r c.1) : Int))))) 21 rfl hs76.same (fun w' hw' => bz rfl) (ht (v := vi 0) 22 rfl hs76.same (fun w' hw' => bz rfl) (cA (by kernel_rfl) ?_))
      have C77 := cg [] (ch2.n.seq (ch7.n.seq (hb12.n.seq (ch18.n.seq ch75.n))))
      exact mid (g74) _ _ ⟨bH.ca C77, rfl, rfl, (Rg.ca hs76), (Rr.ca hs76)⟩
   ·
    replace Rr := Rr.cn ch18
    refine aJ (v := Value.pointer (some (ba r_v 1 (Int.toNat c.1)))) (ab (α := List Int) (xs := r) (v := r_v) (i := c.1) Try.underlying26 rfl rfl Rr rfl (by omega) (by omega)) ?_
    refine ⟨(bq.refl _ _ _), ?_⟩
    obtain ⟨v78, cel79, r80⟩ := eM (r := c.1) Rr (by omega) (by omega)
    refine ht 14 rfl (bq.refl _ _ _) (fun w' hw' => aS aL rfl (cel79 _ w' (bQ rfl) hw')) (ht 15 rfl (bq.refl _ _ _) (fun w' hw' => aO Try.underlying27 rfl r80) (ht 16 rfl (bq.refl _ _ _) (fun w' hw' => eT (m := (aZ g r c) + 1) (n := (List.length (gI r c.1) : Int)) rfl rfl (by omega) (by omega)) ?_))
    refine d8 2 [6] (by kernel_rfl) ⟨da 2 rfl (by kernel_rfl) rfl ?_, da 6 rfl (by kernel_rfl) rfl ?_, trivial⟩
    ·
     replace Rg := (Rg.cn hb12).cn ch18
     refine aV (aD (vals := [vg [vi g.1, g_v], r_v]) Try.func26 fc fe rfl) (gi w19 g g_v (Rg).ro r r_v (Rr).ro ‹_› ‹_›) ?_
     rintro ⟨d82, v84⟩ w81 ⟨fr83, o85⟩
     obtain ⟨g86, ch87, G86⟩ := dw g9 fr83 (fun n => if n = 1 then 3 else 0)
     replace o85 := o85.gl G86 3
     have hs88 : bq (bW []) _ _ _ _ := ch87.n
     refine ⟨hs88.same, ?_⟩
     refine aW 6 rfl (by kernel_rfl) rfl (aJ (v := Value.pointer (some (ba r_v 1 (Int.toNat c.1)))) (ab (α := List Int) (xs := r) (v := r_v) (i := c.1) Try.underlying26 rfl rfl (Rr.ca hs88) rfl (by omega) (by omega)) ?_)
     refine ⟨hs88.same, ?_⟩
     obtain ⟨v89, cel90, r91⟩ := eM (r := c.1) Rr (by omega) (by omega)
     refine ht 7 rfl hs88.same (fun w' hw' => aS aL rfl (cel90 _ w' (bQ rfl) hw')) (aW 17 rfl (by kernel_rfl) rfl (aJ (v := Value.pointer (some (ba v89 1 (Int.toNat (((aZ g r c) + 1) % (List.length (gI r c.1) : Int)))))) (ab (α := Int) (xs := gI r c.1) (v := v89) (i := ((aZ g r c) + 1) % (List.length (gI r c.1) : Int)) Try.underlying27 rfl rfl (r91.ca hs88) rfl (by omega) (by omega)) ?_))
     refine ⟨hs88.same, ?_⟩
     refine ht 18 rfl hs88.same (fun w' hw' => ay (v := v89) (i := ((aZ g r c) + 1) % (List.length (gI r c.1) : Int)) am rfl (r91.chg hw' (bQ rfl)) (by omega) (by omega) (by decide) rfl) (aW 19 rfl (by kernel_rfl) rfl (aJ (v := Value.pointer (some (ba v84 1 (Int.toNat (gI (gI r c.1) (((aZ g r c) + 1) % (List.length (gI r c.1) : Int))))))) (ab (α := Int) (xs := bX g r) (v := v84) (i := (gI (gI r c.1) (((aZ g r c) + 1) % (List.length (gI r c.1) : Int)))) Try.underlying27 rfl rfl o85.flat rfl (by omega) (by omega)) ?_))
     refine ⟨hs88.same, ?_⟩
     refine aW 20 rfl (by kernel_rfl) rfl (aJ (v := vi (gI (bX g r) (gI (gI r c.1) (((aZ g r c) + 1) % (List.length (gI r c.1) : Int))))) (ay (α := Int) (xs := bX g r) (v := v84) (i := (gI (gI r c.1) (((aZ g r c) + 1) % (List.length (gI r c.1) : Int)))) am rfl o85.flat (by omega) (by omega) (by decide) rfl) ?_)
     refine ⟨hs88.same, ?_⟩
     refine ht (v := vi (gI (bX g r) (gI (gI r c.1) (((aZ g r c) + 1) % (List.length (gI r c.1) : Int))))) 21 rfl hs88.same (fun w' hw' => bz rfl) (ht (v := vi 0) 22 rfl hs88.same (fun w' hw' => bz rfl) (cA (by kernel_rfl) ?_))
     have C92 := cg [] (ch2.n.seq (ch7.n.seq (hb12.n.seq (ch18.n.seq ch87.n))))
     exact mid (g86) _ _ ⟨bH.ca C92, rfl, rfl, (Rg.ca hs88), (Rr.ca hs88)⟩
    ·
     refine aJ (v := Value.pointer (some (ba r_v 1 (Int.toNat c.1)))) (ab (α := List Int) (xs := r) (v := r_v) (i := c.1) Try.underlying26 rfl rfl Rr rfl (by omega) (by omega)) ?_
     refine ⟨(bq.refl _ _ _), ?_⟩
     obtain ⟨v93, cel94, r95⟩ := eM (r := c.1) Rr (by omega) (by omega)
     refine ht 7 rfl (bq.refl _ _ _) (fun w' hw' => aS aL rfl (cel94 _ w' (bQ rfl) hw')) ?_
     refine d8 2 [17] (by kernel_rfl) ⟨da 2 rfl (by kernel_rfl) rfl ?_, da 17 rfl (by kernel_rfl) rfl ?_, trivial⟩
     ·
      replace Rg := (Rg.cn hb12).cn ch18
      refine aV (aD (vals := [vg [vi g.1, g_v], r_v]) Try.func26 fc fe rfl) (gi w19 g g_v (Rg).ro r r_v (Rr).ro ‹_› ‹_›) ?_
      rintro ⟨d97, v99⟩ w96 ⟨fr98, o100⟩
      obtain ⟨g101, ch102, G101⟩ := dw g9 fr98 (fun n => if n = 1 then 3 else 0)
      replace o100 := o100.gl G101 3
      have hs103 : bq (bW []) _ _ _ _ := ch102.n
      refine ⟨hs103.same, ?_⟩
      refine aW 17 rfl (by kernel_rfl) rfl (aJ (v := Value.pointer (some (ba v93 1 (Int.toNat (((aZ g r c) + 1) % (List.length (gI r c.1) : Int)))))) (ab (α := Int) (xs := gI r c.1) (v := v93) (i := ((aZ g r c) + 1) % (List.length (gI r c.1) : Int)) Try.underlying27 rfl rfl (r95.ca hs103) rfl (by omega) (by omega)) ?_)
      refine ⟨hs103.same, ?_⟩
      refine ht 18 rfl hs103.same (fun w' hw' => ay (v := v93) (i := ((aZ g r c) + 1) % (List.length (gI r c.1) : Int)) am rfl (r95.chg hw' (bQ rfl)) (by omega) (by omega) (by decide) rfl) (aW 19 rfl (by kernel_rfl) rfl (aJ (v := Value.pointer (some (ba v99 1 (Int.toNat (gI (gI r c.1) (((aZ g r c) + 1) % (List.length (gI r c.1) : Int))))))) (ab (α := Int) (xs := bX g r) (v := v99) (i := (gI (gI r c.1) (((aZ g r c) + 1) % (List.length (gI r c.1) : Int)))) Try.underlying27 rfl rfl o100.flat rfl (by omega) (by omega)) ?_))
      refine ⟨hs103.same, ?_⟩
      refine aW 20 rfl (by kernel_rfl) rfl (aJ (v := vi (gI (bX g r) (gI (gI r c.1) (((aZ g r c) + 1) % (List.length (gI r c.1) : Int))))) (ay (α := Int) (xs := bX g r) (v := v99) (i := (gI (gI r c.1) (((aZ g r c) + 1) % (List.length (gI r c.1) : Int)))) am rfl o100.flat (by omega) (by omega) (by decide) rfl) ?_)
      refine ⟨hs103.same, ?_⟩
      refine ht (v := vi (gI (bX g r) (gI (gI r c.1) (((aZ g r c) + 1) % (List.length (gI r c.1) : Int))))) 21 rfl hs103.same (fun w' hw' => bz rfl) (ht (v := vi 0) 22 rfl hs103.same (fun w' hw' => bz rfl) (cA (by kernel_rfl) ?_))
      have C104 := cg [] (ch2.n.seq (ch7.n.seq (hb12.n.seq (ch18.n.seq ch102.n))))
      exact mid (g101) _ _ ⟨bH.ca C104, rfl, rfl, (Rg.ca hs103), (Rr.ca hs103)⟩
     ·
      refine aJ (v := Value.pointer (some (ba v93 1 (Int.toNat (((aZ g r c) + 1) % (List.length (gI r c.1) : Int)))))) (ab (α := Int) (xs := gI r c.1) (v := v93) (i := ((aZ g r c) + 1) % (List.length (gI r c.1) : Int)) Try.underlying27 rfl rfl r95 rfl (by omega) (by omega)) ?_
      refine ⟨(bq.refl _ _ _), ?_⟩
      refine ht 18 rfl (bq.refl _ _ _) (fun w' hw' => ay (v := v93) (i := ((aZ g r c) + 1) % (List.length (gI r c.1) : Int)) am rfl (r95.chg hw' (bQ rfl)) (by omega) (by omega) (by decide) rfl) (aW 2 rfl (by kernel_rfl) rfl ?_)
      replace Rg := (Rg.cn hb12).cn ch18
      refine aV (aD (vals := [vg [vi g.1, g_v], r_v]) Try.func26 fc fe rfl) (gi w19 g g_v (Rg).ro r r_v (Rr).ro ‹_› ‹_›) ?_
      rintro ⟨d106, v108⟩ w105 ⟨fr107, o109⟩
      obtain ⟨g110, ch111, G110⟩ := dw g9 fr107 (fun n => if n = 1 then 3 else 0)
      replace o109 := o109.gl G110 3
      have hs112 : bq (bW []) _ _ _ _ := ch111.n
      refine ⟨hs112.same, ?_⟩
      refine aW 19 rfl (by kernel_rfl) rfl (aJ (v := Value.pointer (some (ba v108 1 (Int.toNat (gI (gI r c.1) (((aZ g r c) + 1) % (List.length (gI r c.1) : Int))))))) (ab (α := Int) (xs := bX g r) (v := v108) (i := (gI (gI r c.1) (((aZ g r c) + 1) % (List.length (gI r c.1) : Int)))) Try.underlying27 rfl rfl o109.flat rfl (by omega) (by omega)) ?_)
      refine ⟨hs112.same, ?_⟩
      refine aW 20 rfl (by kernel_rfl) rfl (aJ (v := vi (gI (bX g r) (gI (gI r c.1) (((aZ g r c) + 1) % (List.length (gI r c.1) : Int))))) (ay (α := Int) (xs := bX g r) (v := v108) (i := (gI (gI r c.1) (((aZ g r c) + 1) % (List.length (gI r c.1) : Int)))) am rfl o109.flat (by omega) (by omega) (by decide) rfl) ?_)
      refine ⟨hs112.same, ?_⟩
      refine ht (v := vi (gI (bX g r) (gI (gI r c.1) (((aZ g r c) + 1) % (List.length (gI r c.1) : Int))))) 21 rfl hs112.same (fun w' hw' => bz rfl) (ht (v := vi 0) 22 rfl hs112.same (fun w' hw' => bz rfl) (cA (by kernel_rfl) ?_))
      have C113 := cg [] (ch2.n.seq (ch7.n.seq (hb12.n.seq (ch18.n.seq ch111.n))))
      exact mid (g110) _ _ ⟨bH.ca C113, rfl, rfl, (Rg.ca hs112), (Rr.ca hs112)⟩
  clear Rg Rr bx5 bx10 bH
  rintro g116 f114 w115 ⟨bH, zs6, zs7, Rg, Rr⟩
  refine av (vs := [vi (gI (bX g r) (gI (gI r c.1) (((aZ g r c) + 1) % (List.length (gI r c.1) : Int)))), vi 0]) Try.func40 (.tmp zs6 (.tmp zs7 .nil)) ?_
  have e0 : ((gI (bX g r) (gI (gI r c.1) (((aZ g r c) + 1) % (List.length (gI r c.1) : Int)))) : Int) = ((aU g r c).1) := by
    rw [oo hm hrp p2 p4]
  have e1 : (0 : Int) = ((aU g r c).2) := by
    rw [oo hm hrp p2 p4]
  exact ⟨(ci (a := (gI (bX g r) (gI (gI r c.1) (((aZ g r c) + 1) % (List.length (gI r c.1) : Int))))) (b := 0) (fun (z0 : Int) (z1 : Int) => Ending.returned (vt [vi z0, vi z1])) e0 e1), bH.below⟩
 refine ag rfl (df p4) (aj (a9 ?_))
 clear r16
 refine a8 rfl ?_
 replace bx5 := bx5.cn hb12
 refine lx (aq (ds := [vi g.1, g_v]) ak rfl bx5 rfl rfl) (mv r_v ?_)
 replace Rg := Rg.cn hb12
 refine lo (aV (aD (vals := [vg [vi g.1, g_v], r_v]) Try.func29 kR lB rfl) (gy w11 g g_v (Rg).ro r r_v (Rr).ro ‹_› ‹_›) ?_)
 rintro ⟨d118, v120⟩ w117 ⟨fr119, o121⟩
 obtain ⟨g122, ch123, G122⟩ := dw g9 fr119 (fun n => if n = 1 then 4 else 0)
 replace o121 := o121.gl G122 4
 refine ma v120 (aa (a9 (a8 rfl (mv v120 ?_))))
 have len124 := (o121.sl).small
 refine lx (aO Try.underlying25 rfl o121.sl) (ai (List.length (ax (aw g r) r) : Int) (aa (a9 (a9 ?_))))
 clear o121
 refine a8 rfl (lx (ad Try.underlying24 rfl rfl rfl rfl) ?_)
 replace bx5 := bx5.cn ch123
 refine lx (af am rfl bx5 rfl) (lx (eR (m := g.1) (n := 1) rfl rfl (by omega)) (ai (g.1 - 1) (aa (ah ?_))))
 clear bx5
 refine aN (σ := Int × Int × aE) (fun ⟨n, v, gq⟩ f w => b9 w0 gq w ∧ f 1 = r_v ∧ f 5 = vp b8 0 ∧ f 10 = vi n ∧ f 11 = vi v ∧ Sl gq (is 0) w g_v g.2 ∧ Sl gq (is 0) w r_v r ∧ Bx gq (is 2) w b8 [vi c.1, vi c.2] ∧ (n = ((ax (aw g r) r).length : Int) - (en r r.length - en r (v + 1).toNat) ∧ c.1 - 1 ≤ v ∧ v < g.1)) (fun ⟨n, v, gq⟩ => Int.toNat (v - c.1 + 1)) ((List.length (ax (aw g r) r) : Int), g.1 - 1, g122) ?_ ?_
 have C125 := cg [] (ch2.n.seq (ch7.n.seq (hb12.n.seq ch123.n)))
 · exact ⟨bH.ca C125, rfl, rfl, rfl, rfl, Rg.cn ch123, Rr.cn ch123, bx10.cn ch123, by exact ⟨by rw [show (g.1 - 1 + 1).toNat = r.length by omega]; omega, by omega, by omega⟩⟩
 clear Rg Rr bx10 bH
 rintro ⟨n, v, g128⟩ f126 w127 ⟨bH, zs1, zs5, zs10, zs11, Rg, Rr, bx10, hinv⟩ back9
 obtain ⟨hi1, hi2, hi3⟩ := hinv
 have hek := nf r r.length
 have hek2 := nf r (v + 1).toNat
 refine a9 (a9 (a8 rfl (mz zs11 (lx (ad Try.underlying55 rfl rfl zs5 rfl) (lx (af am rfl bx10 rfl) (lx (dy (m := v) (n := c.1) rfl rfl) (aa ?_)))))))
 by_cases p9 : c.1 ≤ v
 ·
  refine ae rfl (dt p9) (aj (a9 (ah (a9 (a8 rfl (mz zs1 (mz zs11 (lx (ab (v := r_v) (i := v) Try.underlying26 rfl rfl Rr rfl (by omega) (by omega)) ?_))))))))
  obtain ⟨v129, cel130, r131⟩ := co (r := v) Rr (by omega) (by omega)
  refine lx (aS aL rfl cel130) ?_
  have len132 := (r131).small
  refine lx (aO Try.underlying27 rfl r131) (lx (cR (m := (List.length (gI r v) : Int)) (n := 0) rfl rfl) (aa ?_))
  by_cases p11 : (List.length (gI r v) : Int) = 0
  ·
   refine ae rfl (dt p11) ?_
   clear r131
   refine a8 rfl (mz zs10 (lx (eR (m := n) (n := 1) rfl rfl (by omega)) (ai (n - 1) (aa (ao (a8 rfl (mz zs11 (lx (eR (m := v) (n := 1) rfl rfl (by omega)) (ai (v - 1) ?_)))))))))
   refine aa ?_
   refine back9 (n - 1, v - 1, g128) _ _ ⟨bH, zs1, zs5, rfl, rfl, Rg, Rr, bx10, ?_⟩ ?_
   · show (n - 1) = ((ax (aw g r) r).length : Int) - (en r r.length - en r ((v - 1) + 1).toNat) ∧ c.1 - 1 ≤ (v - 1) ∧ (v - 1) < g.1
     exact ⟨mY hi1 (by omega) (by omega) ‹_›, by omega, by omega⟩
   · show Int.toNat ((v - 1) - c.1 + 1) < Int.toNat (v - c.1 + 1)
     omega
  refine ag rfl (df p11) (aj (ao ?_))
  clear r131
  refine a8 rfl (mz zs11 (lx (eR (m := v) (n := 1) rfl rfl (by omega)) (ai (v - 1) (aa ?_))))
  refine back9 (n, v - 1, g128) _ _ ⟨bH, zs1, zs5, zs10, rfl, Rg, Rr, bx10, ?_⟩ ?_
  · show n = ((ax (aw g r) r).length : Int) - (en r r.length - en r ((v - 1) + 1).toNat) ∧ c.1 - 1 ≤ (v - 1) ∧ (v - 1) < g.1
    exact ⟨ox hi1 (by omega) (by omega) ‹_›, by omega, by omega⟩
  · show Int.toNat ((v - 1) - c.1 + 1) < Int.toNat (v - c.1 + 1)
    omega
 refine ag rfl (df p9) (aI rfl (a9 ?_))
 clear bx10
 refine a8 rfl (mz zs10 (ai n (ai 0 (aa (av (vs := [vi n, vi 0]) Try.func40 (.tmp rfl (.tmp rfl .nil)) ?_)))))
 have e0 : (n : Int) = ((aU g r c).1) := by
   (rw [show (v + 1).toNat = c.1.toNat by omega] at hi1
    rw [mf hm hrp p2 p4 hi1]; done)
 have e1 : (0 : Int) = ((aU g r c).2) := by
   (rw [show (v + 1).toNat = c.1.toNat by omega] at hi1
    rw [mf hm hrp p2 p4 hi1]; done)
 exact ⟨(ci (a := n) (b := 0) (fun (z0 : Int) (z1 : Int) => Ending.returned (vt [vi z0, vi z1])) e0 e1), bH.below⟩
theorem gV (w0 : World) (l : List Int) (l_v : Value) (hl_v : Ro w0 l_v l) (x : Int) (hs : List Int) (hs_v : Value) (hhs_v : Ro w0 hs_v hs) (hl : l.length ≤ 1000000) (hh : hs.length ≤ 10) :
    Calls Try.prog 83 #[l_v, vi x, hs_v] w0 (fun ee w => ∃ xx : aE × Value, ee = .returned ((fun ⟨δ, rv0⟩ => rv0) xx) ∧ (fun (⟨δ, rv0⟩ : aE × Value) (w : World) => cC w0 δ w ∧ Ow δ (is 1) (is 1) w rv0 (ez l x hs)) xx w) := by
 refine az Try.func83 rfl (Nat.le_of_ble_eq_true rfl) ?_
 have bH := b9.start w0
 have Rl := hl_v.sl
 have Rhs := hhs_v.sl
 refine a9 (a8 rfl (ma vn (aa (a9 (a9 (a8 rfl (mv l_v ?_)))))))
 have len1 := (Rl).small
 refine lx (aO Try.underlying27 rfl Rl) (lx (cR (m := (l.length : Int)) (n := 0) rfl rfl) (aa ?_))
 by_cases p1 : (l.length : Int) = 0
 ·
  refine ae rfl (dt p1) (a9 (a8 rfl (mv hs_v (lo (aR (α := Int) (xs := ([])) (ys := hs) c0 (J := is 1) (S := is 1) (1, 0) rfl Try.underlying27 am (by decide) rfl rfl rfl Ow.nil Rhs (by decide) (by (simp; omega)) ?_)))))
  intro g2 w3 v4 ch5 o6
  replace o6 : Ow g2 (is 1) (is 1) w3 v4 hs := o6
  refine ma v4 (aa (av (vs := [v4]) Try.func83 (.tmp rfl .nil) ?_))
  replace bH := bH.ce ch5
  have e0 : (hs : List Int) = (ez l x hs) := by
    (unfold ez; rw [if_pos ‹_›]; done)
  exact ⟨(fin w0 g2 (fun n => if n = 1 then 1 else 0), v4), (congrArg (a₁ := hs) (fun (z0 : List Int) => Ending.returned (v4)) e0), bH.fresh _, (e0 ▸ (o6.glue (γ := c0) (ren := (fun n => if n = 1 then 1 else 0)) (k := 1) bH.col rfl rfl))⟩
 refine ag rfl (df p1) (aj (a9 (a8 rfl (ma vn (aa (a9 (a9 (a8 rfl (ai 0 (aa (ah ?_)))))))))))
 refine aN (σ := Value × (List Int) × Nat × aE) (fun ⟨out_v, out, k, gq⟩ f w => b9 w0 gq w ∧ f 0 = l_v ∧ f 1 = vi x ∧ f 2 = hs_v ∧ f 7 = out_v ∧ f 8 = vi (k : Int) ∧ Sl gq (is 0) w l_v l ∧ Sl gq (is 0) w hs_v hs ∧ Ow gq (is 3) (is 3) w out_v out ∧ (k : Int) ≤ ((l.length : Int) : Int) ∧ (out = eY x hs (l.take k))) (fun ⟨out_v, out, k, gq⟩ => Int.toNat (((l.length : Int) : Int) - (k : Int))) (vn, [], 0, c0) ?_ ?_
 · exact ⟨bH, rfl, rfl, rfl, rfl, rfl, Rl, Rhs, Ow.nil, by omega, by simp [eY]⟩
 clear Rl Rhs bH
 rintro ⟨out_v, out, k, g9⟩ f7 w8 ⟨bH, zs0, zs1, zs2, zs7, zs8, Rl, Rhs, o_out, hle_k, hinv⟩ back5
 have hpl := te (after := x) (hs := hs) k hl hh
 rw [← hinv] at hpl
 refine a9 (a9 (a8 rfl (mz zs8 (mz zs0 (lx (aO Try.underlying27 rfl Rl) (lx (bc (m := (k : Int)) (n := (l.length : Int)) rfl rfl) (aa ?_)))))))
 by_cases p5 : (k : Int) < (l.length : Int)
 ·
  refine ae rfl (dt p5) (aj (a9 (ah (a9 (a8 rfl (mz zs7 (mz zs0 (mz zs8 (lx (ab (v := l_v) (i := (k : Int)) Try.underlying27 rfl rfl Rl rfl (by omega) (by omega)) (lx (ay (v := l_v) (i := (k : Int)) am rfl Rl (by omega) (by omega) (by decide) rfl) ?_))))))))))
  refine lo (aA (α := Int) g9 (is 2) (is 2) (2, 0) rfl [(gI l (k : Int))] Try.underlying27 am (by decide) (by decide) (vs := [(0, vi (gI l (k : Int)))]) rfl rfl (.cons rfl .nil) ?_)
  intro g10 w11 v12 ch13 o14
  refine lo ?_
  replace o_out := o_out.cn ch13
  refine aR (α := Int) (xs := out) (ys := ([(gI l (k : Int))])) g10 (J := is 3) (S := is 3) (3, 0) rfl Try.underlying27 am (by decide) rfl rfl rfl o_out o14.flat (by decide) (by (simp; omega)) ?_
  intro g15 w16 v17 ch18 o19
  clear o_out
  refine ma v17 (aa (a9 ?_))
  clear o14
  refine a8 rfl (mz zs0 (mz zs8 ?_))
  replace Rl := (Rl.cn ch13).ce ch18
  refine lx (ab (v := l_v) (i := (k : Int)) Try.underlying27 rfl rfl Rl rfl (by omega) (by omega)) (lx (ay (v := l_v) (i := (k : Int)) am rfl Rl (by omega) (by omega) (by decide) rfl) (mz zs1 (lx (cR (m := (gI l (k : Int))) (n := x) rfl rfl) (aa ?_))))
  by_cases p8 : (gI l (k : Int)) = x
  ·
   refine ae rfl (dt p8) (a8 rfl (mv v17 (mz zs2 (lo ?_))))
   replace Rhs := (Rhs.cn ch13).ce ch18
   refine aR (α := Int) (xs := (out ++ [(gI l (k : Int))])) (ys := hs) g15 (J := is 3) (S := is 3) (3, 0) rfl Try.underlying27 am (by decide) rfl rfl rfl o19 Rhs (by decide) (by (simp; omega)) ?_
   intro g20 w21 v22 ch23 o24
   clear o19
   refine ma v22 (aa (ao (a8 rfl (mz zs8 (lx (aQ (m := (k : Int)) (n := 1) rfl rfl (by omega)) (ai ((k : Int) + 1) (aa ?_)))))))
   have C25 := cg [3] (ch13.n.seq ((ch18.l rfl).seq (ch23.l rfl)))
   refine back5 (v22, ((out ++ [(gI l (k : Int))]) ++ hs), k + 1, g20) _ _ ⟨bH.ca C25, zs0, zs1, zs2, rfl, rfl, Rl.ce ch23, Rhs.ce ch23, o24, by omega, ?_⟩ ?_
   · show ((out ++ [(gI l (k : Int))]) ++ hs) = eY x hs (l.take (k + 1))
     rw [rd ‹_› ‹_›, ← hinv]
   · show Int.toNat (((l.length : Int) : Int) - ((k + 1) : Int)) < Int.toNat (((l.length : Int) : Int) - (k : Int))
     omega
  refine ag rfl (df p8) (aj (ao (a8 rfl (mz zs8 (lx (aQ (m := (k : Int)) (n := 1) rfl rfl (by omega)) (ai ((k : Int) + 1) (aa ?_)))))))
  replace bH := bH.cn ch13
  refine back5 (v17, (out ++ [(gI l (k : Int))]), k + 1, g15) _ _ ⟨bH.ce ch18, zs0, zs1, zs2, rfl, rfl, Rl, (Rhs.cn ch13).ce ch18, o19, by omega, ?_⟩ ?_
  · show (out ++ [(gI l (k : Int))]) = eY x hs (l.take (k + 1))
    rw [uk ‹_› ‹_›, ← hinv]
  · show Int.toNat (((l.length : Int) : Int) - ((k + 1) : Int)) < Int.toNat (((l.length : Int) : Int) - (k : Int))
    omega
 refine ag rfl (df p5) (aI rfl (a9 (a8 rfl (mz zs7 (ma out_v (aa (av (vs := [out_v]) Try.func83 (.tmp rfl .nil) ?_)))))))
 have e0 : (out : List Int) = (ez l x hs) := by
   (unfold ez; rw [if_neg ‹_›, hinv, List.take_of_length_le (by omega)]; done)
 exact ⟨(fin w0 g9 (fun n => if n = 3 then 1 else 0), out_v), (congrArg (a₁ := out) (fun (z0 : List Int) => Ending.returned (out_v)) e0), bH.fresh _, (e0 ▸ (o_out.glue (γ := c0) (ren := (fun n => if n = 3 then 1 else 0)) (k := 1) bH.col rfl rfl))⟩
theorem rY (w0 : World) (g : (Int) × (List ((Int) × (Int)))) (g_v : Value) (hg_v : Ro w0 g_v g.2) (r : bj) (r_v : Value) (hr_v : Ro w0 r_v r) (e : Int) (hmay : bx g) (hr : cf g r) :
    Calls Try.prog 42 #[vg [vi g.1, g_v], r_v, vi e] w0 (fun ee w => ∃ xx : aE × Value × Value, ee = .returned ((fun ⟨δ, rv0, rv1⟩ => vt [vg [vi (((aX g r e).1).1), rv0], rv1, vi ((aX g r e).2.2)]) xx) ∧ (fun (⟨δ, rv0, rv1⟩ : aE × Value × Value) (w : World) => cC w0 δ w ∧ Ow δ (is 1) (is 1) w rv0 (((aX g r e).1).2) ∧ cj δ 2 w rv1 ((aX g r e).2.1)) xx w) := by
 refine az Try.func42 rfl (Nat.le_of_ble_eq_true rfl) ?_
 have bH := b9.start w0
 have Rg := hg_v.sl
 have Rr := hr_v.sl
 have hm := hmay
 have hrp := hr
 have hm0 := hmay
 obtain ⟨hm1, hm2, hm3, hm4⟩ := hm0
 have hrl := hr.1
 have hFl : (ax (aw g r) r).length ≤ 8000 := by have h := cT g r hmay hr; rw [bG (br hmay hr)] at h; exact h
 have hol0 := ec g r
 refine a9 (a8 rfl (cr rfl (bR c0 (is 1) (1, 0) rfl rfl ?_)))
 intro g4 w1 b3 ch2 bx5
 replace bx5 : Bx g4 (is 1) w1 b3 [vi g.1, g_v] := bx5
 refine lo (bw g4 (is 2) (2, 0) rfl ak ?_)
 intro g9 w6 b8 ch7 bx10
 replace bx10 : Bx g9 (is 2) w6 b8 [vi 0, vn] := bx10
 refine ma vn (ai 0 (aa (a9 (a9 (a8 rfl (mi e (lx (bc (m := e) (n := 0) rfl rfl) (mv (Value.bool (decide (e < 0))) ?_))))))))
 by_cases q13 : e < 0
 ·
  refine al (wn (dt q13)) (al (wn (dt q13)) (al (wn (dt q13)) (al (wn (dt q13)) (al (wn (dt q13)) (lw (Value.bool true) (aY rfl (dt q13) rfl) (aa (ae rfl rfl (a9 ?_))))))))
  clear bx5
  refine a8 rfl (lw (vg [vi 0, vn]) (bn (vs := []) rfl (by kernel_rfl)) (lo (aC (cs' := [vi 0, vn]) ak rfl rfl bx10 rfl (Nat.le_of_ble_eq_true rfl) (AllOne.all (.cons rfl (.cons rfl .nil))) rfl ?_)))
  intro w11 ch12 bx13
  clear bx10
  refine ma vn (ai 2 (aa (av (vs := [vg [vi 0, vn], vn, vi 2]) Try.func42 (.cell rfl (bk (ds := [vi 0, vn]) ak bx13 rfl rfl) (.tmp rfl (.tmp rfl .nil))) ?_)))
  have C14 := cg [2] (ch2.n.seq (ch7.n.seq (ch12.l rfl)))
  replace bH := bH.ca C14
  have e0 : ((0, []) : (Int) × (List ((Int) × (Int)))) = ((aX g r e).1) := by
    rw [gA hm hrp (by omega)]
  have e1 : ([] : bj) = ((aX g r e).2.1) := by
    rw [gA hm hrp (by omega)]
  have e2 : (2 : Int) = ((aX g r e).2.2) := by
    rw [gA hm hrp (by omega)]
  exact ⟨(fin w0 g9 (fun n => 0), vn, vn), (cq (a := (0, [])) (b := []) (c := 2) (fun (z0 : (Int) × (List ((Int) × (Int)))) (z1 : bj) (z2 : Int) => Ending.returned (vt [vg [vi z0.1, vn], vn, vi z2])) e0 e1 e2), bH.fresh _, ((congrArg (fun (z : (Int) × (List ((Int) × (Int)))) => z.2) e0) ▸ Ow.nil), (e1 ▸ cj.nil)⟩
 refine lv (vi e) (wy (df q13)) (au rfl) (lv (vp b3 1) (wy (df q13)) (ad Try.underlying24 rfl rfl rfl rfl) ?_)
 replace bx5 := bx5.cn ch7
 refine lv (g_v) (wy (df q13)) (af bo rfl bx5 rfl) ?_
 replace Rg := (Rg.cn ch2).cn ch7
 have len15 := (Rg).small
 refine lv (vi (g.2.length : Int)) (wy (df q13)) (aO Try.underlying22 rfl Rg) (lv (Value.bool (decide ((g.2.length : Int) ≤ e))) (wy (df q13)) (dy (m := e) (n := (g.2.length : Int)) rfl rfl) (lw (Value.bool (decide ((g.2.length : Int) ≤ e))) (b7 rfl (df q13) rfl) (aa ?_)))
 by_cases p1 : (g.2.length : Int) ≤ e
 ·
  refine ae rfl (dt p1) (a9 ?_)
  clear bx5
  refine a8 rfl (lw (vg [vi 0, vn]) (bn (vs := []) rfl (by kernel_rfl)) (lo (aC (cs' := [vi 0, vn]) ak rfl rfl bx10 rfl (Nat.le_of_ble_eq_true rfl) (AllOne.all (.cons rfl (.cons rfl .nil))) rfl ?_)))
  intro w16 ch17 bx18
  clear bx10
  refine ma vn (ai 2 (aa (av (vs := [vg [vi 0, vn], vn, vi 2]) Try.func42 (.cell rfl (bk (ds := [vi 0, vn]) ak bx18 rfl rfl) (.tmp rfl (.tmp rfl .nil))) ?_)))
  have C19 := cg [2] (ch2.n.seq (ch7.n.seq (ch17.l rfl)))
  replace bH := bH.ca C19
  have e0 : ((0, []) : (Int) × (List ((Int) × (Int)))) = ((aX g r e).1) := by
    rw [gA hm hrp (by omega)]
  have e1 : ([] : bj) = ((aX g r e).2.1) := by
    rw [gA hm hrp (by omega)]
  have e2 : (2 : Int) = ((aX g r e).2.2) := by
    rw [gA hm hrp (by omega)]
  exact ⟨(fin w0 g9 (fun n => 0), vn, vn), (cq (a := (0, [])) (b := []) (c := 2) (fun (z0 : (Int) × (List ((Int) × (Int)))) (z1 : bj) (z2 : Int) => Ending.returned (vt [vg [vi z0.1, vn], vn, vi z2])) e0 e1 e2), bH.fresh _, ((congrArg (fun (z : (Int) × (List ((Int) × (Int)))) => z.2) e0) ▸ Ow.nil), (e1 ▸ cj.nil)⟩
 refine ag rfl (df p1) (aj (a9 (a8 rfl (ma vn (aa (a9 (a9 (a8 rfl (ai 0 (aa (ah ?_)))))))))))
 refine aN (σ := Nat × Value × (List Int) × aE) (fun ⟨k, keep_v, keep, gq⟩ f w => b9 w0 gq w ∧ f 1 = r_v ∧ f 2 = vi e ∧ f 3 = vp b3 0 ∧ f 6 = vp b8 0 ∧ f 9 = keep_v ∧ f 10 = vi (k : Int) ∧ Sl gq (is 0) w g_v g.2 ∧ Sl gq (is 0) w r_v r ∧ Bx gq (is 1) w b3 [vi g.1, g_v] ∧ Bx gq (is 2) w b8 [vi 0, vn] ∧ Ow gq (is 4) (is 4) w keep_v keep ∧ (k : Int) ≤ ((g.2.length : Int) : Int) ∧ (keep = iI e k)) (fun ⟨k, keep_v, keep, gq⟩ => Int.toNat (((g.2.length : Int) : Int) - (k : Int))) (0, vn, [], g9) ?_ ?_
 replace bH := bH.cn ch2
 · exact ⟨bH.cn ch7, rfl, rfl, rfl, rfl, rfl, rfl, Rg, (Rr.cn ch2).cn ch7, bx5, bx10, Ow.nil, by omega, by rfl⟩
 clear Rg Rr bx5 bx10 bH
 rintro ⟨k, keep_v, keep, g22⟩ f20 w21 ⟨bH, zs1, zs2, zs3, zs6, zs9, zs10, Rg, Rr, bx5, bx10, o_keep, hle_k, hinv⟩ back5
 have hkl := nL e k
 have hke : keep.length ≤ k := by rw [hinv]; exact hkl
 refine a9 (a9 (a8 rfl (mz zs10 (lx (ad Try.underlying24 rfl rfl zs3 rfl) (lx (af bo rfl bx5 rfl) (lx (aO Try.underlying22 rfl Rg) (lx (bc (m := (k : Int)) (n := (g.2.length : Int)) rfl rfl) (aa ?_))))))))
 by_cases p5 : (k : Int) < (g.2.length : Int)
 ·
  refine ae rfl (dt p5) (aj (a9 (ah (a9 (a8 rfl (mz zs10 (mz zs2 (lx (cl (m := (k : Int)) (n := e) rfl rfl) (aa ?_)))))))))
  by_cases p7 : (k : Int) = e
  ·
   refine ag rfl (congrArg Bool.not (dt p7)) (aj (ao (a8 rfl (mz zs10 (lx (aQ (m := (k : Int)) (n := 1) rfl rfl (by omega)) (ai ((k : Int) + 1) (aa ?_)))))))
   refine back5 (k + 1, keep_v, keep, g22) _ _ ⟨bH, zs1, zs2, zs3, zs6, zs9, rfl, Rg, Rr, bx5, bx10, o_keep, by omega, ?_⟩ ?_
   · show keep = iI e (k + 1)
     rw [pV ‹_›, hinv]
   · show Int.toNat (((g.2.length : Int) : Int) - ((k + 1) : Int)) < Int.toNat (((g.2.length : Int) : Int) - (k : Int))
     omega
  refine ae rfl (congrArg Bool.not (df p7)) (a8 rfl (mz zs9 (mz zs10 (lo (aA (α := Int) g22 (is 3) (is 3) (3, 0) rfl [(k : Int)] Try.underlying27 am (by decide) (by decide) (vs := [(0, vi (k : Int))]) rfl rfl (.cons rfl .nil) ?_)))))
  intro g23 w24 v25 ch26 o27
  refine lo ?_
  replace o_keep := o_keep.cn ch26
  refine aR (α := Int) (xs := keep) (ys := ([(k : Int)])) g23 (J := is 4) (S := is 4) (4, 0) rfl Try.underlying27 am (by decide) rfl rfl rfl o_keep o27.flat (by decide) (by (simp; omega)) ?_
  intro g28 w29 v30 ch31 o32
  clear o_keep
  refine ma v30 (aa (ao ?_))
  clear o27
  refine a8 rfl (mz zs10 (lx (aQ (m := (k : Int)) (n := 1) rfl rfl (by omega)) (ai ((k : Int) + 1) (aa ?_))))
  replace bH := bH.cn ch26
  refine back5 (k + 1, v30, (keep ++ [(k : Int)]), g28) _ _ ⟨bH.ce ch31, zs1, zs2, zs3, zs6, rfl, rfl, (Rg.cn ch26).ce ch31, (Rr.cn ch26).ce ch31, (bx5.cn ch26).ce ch31, (bx10.cn ch26).ce ch31, o32, by omega, ?_⟩ ?_
  · show (keep ++ [(k : Int)]) = iI e (k + 1)
    rw [nA ‹_›, hinv]
  · show Int.toNat (((g.2.length : Int) : Int) - ((k + 1) : Int)) < Int.toNat (((g.2.length : Int) : Int) - (k : Int))
    omega
 refine ag rfl (df p5) (aI rfl (a9 (a8 rfl (lx (aq (ds := [vi g.1, g_v]) ak zs3 bx5 rfl rfl) (mz zs1 (mz zs9 (lo (aV (aD (vals := [vg [vi g.1, g_v], r_v, keep_v]) Try.func63 uR ti rfl) (rK w21 g g_v (Rg).ro r r_v (Rr).ro keep keep_v (o_keep.flat).ro ‹_› ‹_›) ?_))))))))
 rintro ⟨d34, v36, v38⟩ w33 ⟨fr35, o37, o39⟩
 obtain ⟨g40, ch41, G40⟩ := dw g22 fr35 (fun n => if n = 1 then 5 else if n = 2 then 6 else 0)
 replace o37 := o37.gl G40 5
 replace o39 := o39.gl G40 6
 refine lx (aH rfl rfl) (lx (aH rfl rfl) (lx (aH rfl rfl) (lo ?_)))
 replace bx10 := bx10.cn ch41
 refine aC (cs' := [vi (((bS g r keep).1).1), v36]) ak zs6 rfl bx10 rfl (Nat.le_of_ble_eq_true rfl) (AllOne.all (.cons rfl (.cons (bm o37.flat) .nil))) rfl ?_
 intro w42 ch43 bx44
 clear bx10
 refine ma v38 (ai ((bS g r keep).2.2) (aa (av (vs := [vg [vi (((bS g r keep).1).1), v36], v38, vi ((bS g r keep).2.2)]) Try.func42 (.cell zs6 (bk (ds := [vi (((bS g r keep).1).1), v36]) ak bx44 rfl rfl) (.tmp rfl (.tmp rfl .nil))) ?_)))
 replace bH := bH.cn ch41
 replace bH := bH.ce ch43
 replace o37 := o37.ce ch43
 replace o39 := o39.ce ch43
 have e0 : (((bS g r keep).1) : (Int) × (List ((Int) × (Int)))) = ((aX g r e).1) := by
   (have hk : k = g.2.length := by omega
    subst hk
    rw [jH hm hrp (by omega), hinv]; done)
 have e1 : ((bS g r keep).2.1 : bj) = ((aX g r e).2.1) := by
   (have hk : k = g.2.length := by omega
    subst hk
    rw [jH hm hrp (by omega), hinv]; done)
 have e2 : ((bS g r keep).2.2 : Int) = ((aX g r e).2.2) := by
   (have hk : k = g.2.length := by omega
    subst hk
    rw [jH hm hrp (by omega), hinv]; done)
 exact ⟨(fin w0 g40 (fun n => if n = 5 then 1 else if n = 6 then 2 else 0), v36, v38), (cq (a := ((bS g r keep).1)) (b := (bS g r keep).2.1) (c := (bS g r keep).2.2) (fun (z0 : (Int) × (List ((Int) × (Int)))) (z1 : bj) (z2 : Int) => Ending.returned (vt [vg [vi z0.1, v36], v38, vi z2])) e0 e1 e2), bH.fresh _, ((congrArg (fun (z : (Int) × (List ((Int) × (Int)))) => z.2) e0) ▸ (o37.glue (γ := c0) (ren := (fun n => if n = 5 then 1 else if n = 6 then 2 else 0)) (k := 1) bH.col rfl rfl)), (e1 ▸ (o39.glue (γ := c0) (ren := (fun n => if n = 5 then 1 else if n = 6 then 2 else 0)) (k := 2) bH.col rfl rfl))⟩
set_option maxHeartbeats 1000000 in
theorem oW (w0 : World) (g : (Int) × (List ((Int) × (Int)))) (g_v : Value) (hg_v : Ro w0 g_v g.2) (r : bj) (r_v : Value) (hr_v : Ro w0 r_v r) (e : Int) (hmay : bx g) (hr : cf g r) :
    Calls Try.prog 43 #[vg [vi g.1, g_v], r_v, vi e] w0 (fun ee w => ∃ xx : aE × Value × Value, ee = .returned ((fun ⟨δ, rv0, rv1⟩ => vt [vg [vi (((aF g r e).1).1), rv0], rv1, vi ((aF g r e).2.2)]) xx) ∧ (fun (⟨δ, rv0, rv1⟩ : aE × Value × Value) (w : World) => cC w0 δ w ∧ Ow δ (is 1) (is 1) w rv0 (((aF g r e).1).2) ∧ cj δ 2 w rv1 ((aF g r e).2.1)) xx w) := by
 refine az Try.func43 rfl (Nat.le_of_ble_eq_true rfl) ?_
 have bH := b9.start w0
 have Rg := hg_v.sl
 have Rr := hr_v.sl
 have hm := hmay
 have hrp := hr
 have hm0 := hmay
 obtain ⟨hm1, hm2, hm3, hm4⟩ := hm0
 have hrl := hr.1
 have hFl : (ax (aw g r) r).length ≤ 8000 := by have h := cT g r hmay hr; rw [bG (br hmay hr)] at h; exact h
 have hol0 := ec g r
 refine a9 (a8 rfl (cr rfl (bR c0 (is 1) (1, 0) rfl rfl ?_)))
 intro g4 w1 b3 ch2 bx5
 replace bx5 : Bx g4 (is 1) w1 b3 [vi g.1, g_v] := bx5
 refine lo (bw g4 (is 2) (2, 0) rfl ak ?_)
 intro g9 w6 b8 ch7 bx10
 replace bx10 : Bx g9 (is 2) w6 b8 [vi 0, vn] := bx10
 refine ma vn (ai 0 (aa (a9 (a8 rfl ?_))))
 replace bx5 := bx5.cn ch7
 refine lx (aq (ds := [vi g.1, g_v]) ak rfl bx5 rfl rfl) (mi e ?_)
 replace Rg := (Rg.cn ch2).cn ch7
 refine lo (aV (aD (vals := [vg [vi g.1, g_v], vi e]) Try.func84 tz uP rfl) (qQ w6 g g_v (Rg).ro e ‹_›) ?_)
 rintro ⟨d12, v14⟩ w11 ⟨fr13, o15⟩
 obtain ⟨g16, ch17, G16⟩ := dw g9 fr13 (fun n => if n = 1 then 3 else 0)
 replace o15 := o15.gl G16 3
 refine mv (vt [vg [vi (((aM g e).1).1), v14], vi ((aM g e).2)]) (lx (aH rfl rfl) (lx (aH rfl rfl) (lo (bw g16 (is 4) (4, 0) rfl ak ?_))))
 intro g21 w18 b20 ch19 bx22
 replace bx22 : Bx g21 (is 4) w18 b20 [vi 0, vn] := bx22
 refine lo ?_
 replace o15 := o15.cn ch19
 refine aC (cs' := [vi (((aM g e).1).1), v14]) ak rfl rfl bx22 rfl (Nat.le_of_ble_eq_true rfl) (AllOne.all (.cons rfl (.cons (bm o15.flat) .nil))) rfl ?_
 intro w23 ch24 bx25
 clear bx22
 refine ai ((aM g e).2) (aa (a9 (a9 (a8 rfl (mi ((aM g e).2) (lx (cl (m := (aM g e).2) (n := 0) rfl rfl) (aa ?_)))))))
 by_cases p2 : ((aM g e).2) = 0
 ·
  obtain ⟨_, hse, _⟩ := eW p2
  obtain ⟨hse1, hse2⟩ := hse
  refine ag rfl (congrArg Bool.not (dt p2)) (aj (a9 (a8 rfl (lx (ad Try.underlying24 rfl rfl rfl rfl) ?_))))
  have C26 := cg [4] (ch17.n.seq (ch19.n.seq (ch24.l rfl)))
  replace bx5 := bx5.ca C26
  refine lx (af bo rfl bx5 rfl) ?_
  replace Rg := Rg.ca C26
  have len27 := (Rg).small
  refine lx (aO Try.underlying22 rfl Rg) (ai (g.2.length : Int) (aa (a9 (a8 rfl (lx (ad Try.underlying24 rfl rfl rfl rfl) (lx (af am rfl bx5 rfl) (lx (aQ (m := g.1) (n := 1) rfl rfl (by omega)) (lo (dB (α := Int) (n := g.1 + 1) (cp := g.1 + 1) g21 5 Try.underlying26 aL rfl rfl rfl (by omega) (by omega) (by omega) (by omega) ?_)))))))))
  intro g28 w29 v30 ch31 o32
  refine ma v30 (aa (a9 (a9 (a8 rfl (ai 0 (aa (ah ?_)))))))
  refine aN (σ := Nat × bj × aE) (fun ⟨v, O, gq⟩ f w => b9 w0 gq w ∧ f 1 = r_v ∧ f 2 = vi e ∧ f 3 = vp b3 0 ∧ f 6 = vp b8 0 ∧ f 9 = vp b20 0 ∧ f 11 = vi (g.2.length : Int) ∧ f 12 = v30 ∧ f 13 = vi (v : Int) ∧ Sl gq (is 0) w g_v g.2 ∧ Sl gq (is 0) w r_v r ∧ Bx gq (is 1) w b3 [vi g.1, g_v] ∧ Bx gq (is 2) w b8 [vi 0, vn] ∧ Ow gq (is 3) (is 3) w v14 (((aM g e).1).2) ∧ Bx gq (is 4) w b20 [vi (((aM g e).1).1), v14] ∧ cj gq 5 w v30 O ∧ (v : Int) ≤ (g.1 : Int) ∧ (O = gg r g.2.length e g.1.toNat v 0)) (fun ⟨v, O, gq⟩ => Int.toNat ((g.1 : Int) - (v : Int))) (0, (List.replicate (Int.toNat (g.1 + 1)) []), g28) ?_ ?_
  have C34 := cg [4] (ch17.n.seq (ch19.n.seq ((ch24.l rfl).seq ch31.n)))
  have C33 := ch2.n.seq (ch7.n.seq C34)
  · exact ⟨bH.ca C33, rfl, rfl, rfl, rfl, rfl, rfl, rfl, rfl, Rg.cn ch31, Rr.ca C33, bx5.cn ch31, bx10.ca C34, (o15.ce ch24).cn ch31, bx25.cn ch31, o32, by omega, by (rw [show (g.1 + 1).toNat = g.1.toNat + 1 by omega]; exact qN r _ _ _)⟩
  clear Rg Rr bx5 bx10 o15 bx25 o32 bH
  rintro ⟨v, O, g37⟩ f35 w36 ⟨bH, zs1, zs2, zs3, zs6, zs9, zs11, zs12, zs13, Rg, Rr, bx5, bx10, o15, bx25, o32, hle_v, hinv⟩ back7
  have hol : O.length = g.1.toNat + 1 := by rw [hinv]; exact pU (by omega) (by omega)
  refine a9 (a9 (a8 rfl (mz zs13 (lx (ad Try.underlying24 rfl rfl zs3 rfl) (lx (af am rfl bx5 rfl) (lx (bc (m := (v : Int)) (n := g.1) rfl rfl) (aa ?_)))))))
  by_cases p7 : (v : Int) < g.1
  ·
   refine ae rfl (dt p7) (aj (a9 (ah (a9 (a8 rfl (ai 0 (aa (ah ?_))))))))
   refine aN (σ := Nat × bj × aE) (fun ⟨k, Q, gq⟩ f w => b9 w0 gq w ∧ f 1 = r_v ∧ f 2 = vi e ∧ f 3 = vp b3 0 ∧ f 6 = vp b8 0 ∧ f 9 = vp b20 0 ∧ f 11 = vi (g.2.length : Int) ∧ f 12 = v30 ∧ f 13 = vi (v : Int) ∧ f 14 = vi (k : Int) ∧ Sl gq (is 0) w g_v g.2 ∧ Sl gq (is 0) w r_v r ∧ Bx gq (is 1) w b3 [vi g.1, g_v] ∧ Bx gq (is 2) w b8 [vi 0, vn] ∧ Ow gq (is 3) (is 3) w v14 (((aM g e).1).2) ∧ Bx gq (is 4) w b20 [vi (((aM g e).1).1), v14] ∧ cj gq 5 w v30 Q ∧ (k : Int) ≤ ((List.length (gI r (v : Int)) : Int) : Int) ∧ (Q = gg r g.2.length e g.1.toNat v k)) (fun ⟨k, Q, gq⟩ => Int.toNat (((List.length (gI r (v : Int)) : Int) : Int) - (k : Int))) (0, O, g37) ?_ ?_
   · exact ⟨bH, zs1, zs2, zs3, zs6, zs9, zs11, zs12, zs13, rfl, Rg, Rr, bx5, bx10, o15, bx25, o32, by omega, by exact hinv⟩
   clear Rg Rr bx5 bx10 o15 bx25 o32 bH
   rintro ⟨k, Q, g40⟩ f38 w39 ⟨bH, zs1, zs2, zs3, zs6, zs9, zs11, zs12, zs13, zs14, Rg, Rr, bx5, bx10, o15, bx25, o32, hle_k, hin⟩ back10
   have hql : Q.length = g.1.toNat + 1 := by rw [hin]; exact pU (by omega) (by omega)
   have hrb := iz hm hrp (v := (v : Int)) (by omega) (by omega)
   have hat : gI Q (v : Int) = ((gI r (v : Int)).take k).map (dx g.2.length e) := by rw [hin]; exact rC (by omega)
   have hatl : (gI Q (v : Int)).length ≤ 7000 := by rw [hat]; simp; omega
   refine a9 (a9 (a8 rfl (mz zs14 (mz zs1 (mz zs13 (lx (ab (v := r_v) (i := (v : Int)) Try.underlying26 rfl rfl Rr rfl (by omega) (by omega)) ?_))))))
   obtain ⟨v41, cel42, r43⟩ := co (r := (v : Int)) Rr (by omega) (by omega)
   refine lx (aS aL rfl cel42) ?_
   have len44 := (r43).small
   refine lx (aO Try.underlying27 rfl r43) (lx (bc (m := (k : Int)) (n := (List.length (gI r (v : Int)) : Int)) rfl rfl) (aa ?_))
   by_cases p10 : (k : Int) < (List.length (gI r (v : Int)) : Int)
   ·
    refine ae rfl (dt p10) ?_
    have hh := (hr.2.1 v (by omega) _ (bu (xs := gI r (v : Int)) (i := (k : Int)) (by omega) ‹_›)).1
    refine aj (a9 (ah (a9 ?_)))
    clear r43
    refine a8 rfl (mz zs1 (mz zs13 (lx (ab (v := r_v) (i := (v : Int)) Try.underlying26 rfl rfl Rr rfl (by omega) (by omega)) ?_)))
    obtain ⟨v45, cel46, r47⟩ := co (r := (v : Int)) Rr (by omega) (by omega)
    refine lx (aS aL rfl cel46) (mz zs14 (lx (ab (v := v45) (i := (k : Int)) Try.underlying27 rfl rfl r47 rfl (by omega) (by omega)) (lx (ay (v := v45) (i := (k : Int)) am rfl r47 (by omega) (by omega) (by decide) rfl) (ai (gI (gI r (v : Int)) (k : Int)) (aa (a9 (a9 ?_)))))))
    clear r47
    refine a8 rfl (mi (gI (gI r (v : Int)) (k : Int)) (mz zs2 (lx (du (m := 2) (n := e) rfl rfl (by omega)) (lx (aQ (m := 2 * e) (n := 1) rfl rfl (by omega)) (lx (cR (m := (gI (gI r (v : Int)) (k : Int))) (n := (2 * e) + 1) rfl rfl) (aa ?_))))))
    by_cases p13 : (gI (gI r (v : Int)) (k : Int)) = ((2 * e) + 1)
    ·
     refine ae rfl (dt p13) (a8 rfl (mz zs11 (lx (du (m := 2) (n := (g.2.length : Int)) rfl rfl (by omega)) (lx (aQ (m := 2 * (g.2.length : Int)) (n := 1) rfl rfl (by omega)) (ai ((2 * (g.2.length : Int)) + 1) (aa (a8 rfl (mz zs12 (mz zs13 (mz zs12 ?_))))))))))
     refine mz zs13 (lx (ab (v := v30) (i := (v : Int)) Try.underlying26 rfl rfl o32.sl rfl (by omega) (by omega)) ?_)
     obtain ⟨v48, cel49, r50⟩ := bY (r := (v : Int)) o32 (by omega) (by omega)
     refine lx (aS aL rfl cel49) (mi ((2 * (g.2.length : Int)) + 1) (lo (aA (α := Int) g40 (is 6) (is 6) (6, 0) rfl ([(2 * (g.2.length : Int)) + 1] : List Int) Try.underlying27 am (by decide) (by decide) (vs := [(0, vi ((2 * (g.2.length : Int)) + 1))]) rfl rfl (.cons rfl .nil) ?_)))
     intro g51 w52 v53 ch54 o55
     refine lo ?_
     replace o32 := o32.cn ch54
     replace r50 := r50.cn ch54
     refine aR (α := Int) (xs := (gI Q (v : Int))) (ys := ([(2 * (g.2.length : Int)) + 1] : List Int)) g51 (J := row 5 (Int.toNat (v : Int) + 1)) (S := row 5 (Int.toNat (v : Int) + 1)) (5, Int.toNat (v : Int) + 1) rfl Try.underlying27 am (by decide) rfl rfl rfl r50 o55.flat (by decide) (by (simp; omega)) ?_
     intro g56 w57 v58 ch59 o60
     have o61 := o32.rowchg ch59
     clear o32 cel49 r50
     obtain ⟨us62, hl63, r64⟩ := o61.vc
     try simp only [List.length_set, List.length_append, List.length_cons, List.length_nil] at hl63
     refine lx (ab (v := v30) (i := (v : Int)) Try.underlying26 rfl rfl r64 rfl (by omega) (by omega)) (lo (bI (r := (v : Int)) aL rfl rfl o61 o60 (by omega) (by omega) ?_))
     intro w68 ch69 o70
     clear o61 o60
     refine aa (ao ?_)
     clear o55
     refine a8 rfl (mz zs14 (lx (aQ (m := (k : Int)) (n := 1) rfl rfl (by omega)) (ai ((k : Int) + 1) (aa ?_))))
     have C71 := cg [5] (ch54.n.seq ((ch59.lr rfl).seq (ch69.l rfl)))
     refine back10 (k + 1, (List.set Q (Int.toNat (v : Int)) (gI Q (v : Int) ++ ([(2 * (g.2.length : Int)) + 1] : List Int))), g56) _ _ ⟨bH.ca C71, zs1, zs2, zs3, zs6, zs9, zs11, zs12, zs13, rfl, Rg.ca C71, Rr.ca C71, bx5.ca C71, bx10.ca C71, o15.ca C71, bx25.ca C71, o70, by omega, ?_⟩ ?_
     · show (List.set Q (Int.toNat (v : Int)) (gI Q (v : Int) ++ ([(2 * (g.2.length : Int)) + 1] : List Int))) = gg r g.2.length e g.1.toNat v (k + 1)
       (rw [hin]; exact ou (by omega) ‹_› (sH ‹_›))
     · show Int.toNat (((List.length (gI r (v : Int)) : Int) : Int) - ((k + 1) : Int)) < Int.toNat (((List.length (gI r (v : Int)) : Int) : Int) - (k : Int))
       omega
    refine ag rfl (df p13) (aj (a8 rfl (mz zs12 (mz zs13 (mz zs12 (mz zs13 (lx (ab (v := v30) (i := (v : Int)) Try.underlying26 rfl rfl o32.sl rfl (by omega) (by omega)) ?_)))))))
    obtain ⟨v72, cel73, r74⟩ := bY (r := (v : Int)) o32 (by omega) (by omega)
    refine lx (aS aL rfl cel73) (mi (gI (gI r (v : Int)) (k : Int)) (lo (aA (α := Int) g40 (is 6) (is 6) (6, 0) rfl ([(gI (gI r (v : Int)) (k : Int))] : List Int) Try.underlying27 am (by decide) (by decide) (vs := [(0, vi (gI (gI r (v : Int)) (k : Int)))]) rfl rfl (.cons rfl .nil) ?_)))
    intro g75 w76 v77 ch78 o79
    refine lo ?_
    replace o32 := o32.cn ch78
    replace r74 := r74.cn ch78
    refine aR (α := Int) (xs := (gI Q (v : Int))) (ys := ([(gI (gI r (v : Int)) (k : Int))] : List Int)) g75 (J := row 5 (Int.toNat (v : Int) + 1)) (S := row 5 (Int.toNat (v : Int) + 1)) (5, Int.toNat (v : Int) + 1) rfl Try.underlying27 am (by decide) rfl rfl rfl r74 o79.flat (by decide) (by (simp; omega)) ?_
    intro g80 w81 v82 ch83 o84
    have o85 := o32.rowchg ch83
    clear o32 cel73 r74
    obtain ⟨us86, hl87, r88⟩ := o85.vc
    try simp only [List.length_set, List.length_append, List.length_cons, List.length_nil] at hl87
    refine lx (ab (v := v30) (i := (v : Int)) Try.underlying26 rfl rfl r88 rfl (by omega) (by omega)) (lo (bI (r := (v : Int)) aL rfl rfl o85 o84 (by omega) (by omega) ?_))
    intro w92 ch93 o94
    clear o85 o84
    refine aa (ao ?_)
    clear o79
    refine a8 rfl (mz zs14 (lx (aQ (m := (k : Int)) (n := 1) rfl rfl (by omega)) (ai ((k : Int) + 1) (aa ?_))))
    have C95 := cg [5] (ch78.n.seq ((ch83.lr rfl).seq (ch93.l rfl)))
    refine back10 (k + 1, (List.set Q (Int.toNat (v : Int)) (gI Q (v : Int) ++ ([(gI (gI r (v : Int)) (k : Int))] : List Int))), g80) _ _ ⟨bH.ca C95, zs1, zs2, zs3, zs6, zs9, zs11, zs12, zs13, rfl, Rg.ca C95, Rr.ca C95, bx5.ca C95, bx10.ca C95, o15.ca C95, bx25.ca C95, o94, by omega, ?_⟩ ?_
    · show (List.set Q (Int.toNat (v : Int)) (gI Q (v : Int) ++ ([(gI (gI r (v : Int)) (k : Int))] : List Int))) = gg r g.2.length e g.1.toNat v (k + 1)
      (rw [hin]; exact ou (by omega) ‹_› (uN ‹_›))
    · show Int.toNat (((List.length (gI r (v : Int)) : Int) : Int) - ((k + 1) : Int)) < Int.toNat (((List.length (gI r (v : Int)) : Int) : Int) - (k : Int))
      omega
   refine ag rfl (df p10) (aI rfl (ao ?_))
   clear r43
   refine a8 rfl (mz zs13 (lx (aQ (m := (v : Int)) (n := 1) rfl rfl (by omega)) (ai ((v : Int) + 1) (aa ?_))))
   refine back7 (v + 1, Q, g40) _ _ ⟨bH, zs1, zs2, zs3, zs6, zs9, zs11, zs12, rfl, Rg, Rr, bx5, bx10, o15, bx25, o32, by omega, ?_⟩ ?_
   · show Q = gg r g.2.length e g.1.toNat (v + 1) 0
     rw [hin]; exact sL (by omega) (by omega) ‹_›
   · show Int.toNat ((g.1 : Int) - ((v + 1) : Int)) < Int.toNat ((g.1 : Int) - (v : Int))
     omega
  refine ag rfl (df p7) (aI rfl (a9 (a8 rfl (mz zs12 (lx (ad Try.underlying24 rfl rfl zs3 rfl) (lx (af am rfl bx5 rfl) (mz zs2 (lx (du (m := 2) (n := e) rfl rfl (by omega)) (lx (aQ (m := 2 * e) (n := 1) rfl rfl (by omega)) (mz zs11 ?_))))))))))
  refine lx (du (m := 2) (n := (g.2.length : Int)) rfl rfl (by omega)) (lo (aA (α := Int) g37 (is 7) (is 7) (7, 0) rfl ([(2 * e) + 1, 2 * (g.2.length : Int)] : List Int) Try.underlying27 am (by decide) (by decide) (vs := [(0, vi ((2 * e) + 1)), (1, vi (2 * (g.2.length : Int)))]) rfl rfl (.cons rfl (.cons rfl .nil)) ?_))
  intro g96 w97 v98 ch99 o100
  replace o32 := o32.cn ch99
  refine lx (ab (v := v30) (i := g.1) Try.underlying26 rfl rfl o32.sl rfl (by omega) (by omega)) (lo (fb (r := g.1) aL rfl rfl o32 o100 rfl (by omega) (by omega) ?_))
  intro g107 w104 ch105 o106
  clear o32 o100
  refine aa (a9 ?_)
  clear bx5
  refine cx g107 (bW [2]) fM ?_
  intro w109 ch108
  have C110 := cg [5, 7] (ch99.n.seq ((ch105.l2 rfl rfl).seq ch108.n))
  replace bx25 := bx25.ca C110
  refine ht 0 rfl (bq.refl _ _ _) (fun w' hw' => aq (ds := [vi (((aM g e).1).1), v14]) ak zs9 (bx25.chg hw' (bQ rfl)) rfl rfl) (ht (v := v30) 1 rfl (bq.refl _ _ _) (fun w' hw' => au zs12) (aW 2 rfl (by kernel_rfl) rfl ?_))
  replace o106 := o106.cn ch108
  refine aV (aD (vals := [v30]) Try.func60 ln lP rfl) (gw w109 (List.set O (Int.toNat g.1) ([(2 * e) + 1, 2 * (g.2.length : Int)] : List Int)) v30 (o106.sl).ro) ?_
  rintro ⟨d112, v114⟩ w111 ⟨fr113, o115⟩
  obtain ⟨g116, ch117, G116⟩ := dw g107 fr113 (fun n => if n = 1 then 8 else 0)
  replace o115 := o115.gl G116 8
  have hs118 : bq (bW [2]) _ _ _ _ := ch117.n
  refine ⟨hs118.same, ?_⟩
  refine aW 3 rfl (by kernel_rfl) rfl ?_
  have C122 := cg [5, 7] (ch99.n.seq ((ch105.l2 rfl rfl).seq (ch108.n.seq ch117.n)))
  replace bx10 := bx10.ca C122
  replace o15 := o15.ca C110
  refine aC (cs' := [vi (((aM g e).1).1), v14]) ak zs6 rfl bx10 rfl (Nat.le_of_ble_eq_true rfl) (AllOne.all (.cons rfl (.cons (bm (o15.ca hs118).flat) .nil))) rfl ?_
  intro w119 ch120 bx121
  clear bx10
  have hs123 := hs118.seq (ch120.l rfl)
  refine ⟨hs123.same, ?_⟩
  refine ht (v := v114) 4 rfl hs123.same (fun w' hw' => bz rfl) (ht (v := vi 0) 5 rfl hs123.same (fun w' hw' => bz rfl) (cA (by kernel_rfl) (av (vs := [vg [vi (((aM g e).1).1), v14], v114, vi 0]) Try.func43 (.cell zs6 (bk (ds := [vi (((aM g e).1).1), v14]) ak bx121 rfl rfl) (.tmp rfl (.tmp rfl .nil))) ?_)))
  have C124 := cg [2, 5, 7] (ch99.n.seq ((ch105.l2 rfl rfl).seq (ch108.n.seq (ch117.n.seq (ch120.l rfl)))))
  replace bH := bH.ca C124
  replace o15 := (o15.cn ch117).ce ch120
  replace o115 := o115.ce ch120
  have e0 : (((aM g e).1) : (Int) × (List ((Int) × (Int)))) = ((aF g r e).1) := by
    rw [gO hm hrp ‹_›]
  have e1 : (ct (List.set O (Int.toNat g.1) ([(2 * e) + 1, 2 * (g.2.length : Int)] : List Int)) : bj) = ((aF g r e).2.1) := by
    rw [gO hm hrp ‹_›, ← sE hm hrp ⟨hse1, hse2⟩ (v := v) (by omega) rfl, hinv]
  have e2 : (0 : Int) = ((aF g r e).2.2) := by
    rw [gO hm hrp ‹_›]
  exact ⟨(fin w0 g116 (fun n => if n = 3 then 1 else if n = 8 then 2 else 0), v14, v114), (cq (a := ((aM g e).1)) (b := ct (List.set O (Int.toNat g.1) ([(2 * e) + 1, 2 * (g.2.length : Int)] : List Int))) (c := 0) (fun (z0 : (Int) × (List ((Int) × (Int)))) (z1 : bj) (z2 : Int) => Ending.returned (vt [vg [vi z0.1, v14], v114, vi z2])) e0 e1 e2), bH.fresh _, ((congrArg (fun (z : (Int) × (List ((Int) × (Int)))) => z.2) e0) ▸ (o15.glue (γ := c0) (ren := (fun n => if n = 3 then 1 else if n = 8 then 2 else 0)) (k := 1) bH.col rfl rfl)), (e1 ▸ (o115.glue (γ := c0) (ren := (fun n => if n = 3 then 1 else if n = 8 then 2 else 0)) (k := 2) bH.col rfl rfl))⟩
 refine ae rfl (congrArg Bool.not (df p2)) (a9 ?_)
 clear bx5 o15 bx25
 refine a8 rfl (lw (vg [vi 0, vn]) (bn (vs := []) rfl (by kernel_rfl)) (mi ((aM g e).2) (lo ?_)))
 have C128 := cg [4] (ch17.n.seq (ch19.n.seq (ch24.l rfl)))
 replace bx10 := bx10.ca C128
 refine aC (cs' := [vi 0, vn]) ak rfl rfl bx10 rfl (Nat.le_of_ble_eq_true rfl) (AllOne.all (.cons rfl (.cons rfl .nil))) rfl ?_
 intro w125 ch126 bx127
 clear bx10
 refine ma vn (ai ((aM g e).2) (aa (av (vs := [vg [vi 0, vn], vn, vi ((aM g e).2)]) Try.func43 (.cell rfl (bk (ds := [vi 0, vn]) ak bx127 rfl rfl) (.tmp rfl (.tmp rfl .nil))) ?_)))
 have C129 := cg [2, 4] (ch2.n.seq (ch7.n.seq (ch17.n.seq (ch19.n.seq ((ch24.l rfl).seq (ch126.l rfl))))))
 replace bH := bH.ca C129
 have e0 : ((0, []) : (Int) × (List ((Int) × (Int)))) = ((aF g r e).1) := by
   rw [iE hm hrp ‹_›]
 have e1 : ([] : bj) = ((aF g r e).2.1) := by
   rw [iE hm hrp ‹_›]
 have e2 : ((aM g e).2 : Int) = ((aF g r e).2.2) := by
   rw [iE hm hrp ‹_›]
 exact ⟨(fin w0 g21 (fun n => 0), vn, vn), (cq (a := (0, [])) (b := []) (c := (aM g e).2) (fun (z0 : (Int) × (List ((Int) × (Int)))) (z1 : bj) (z2 : Int) => Ending.returned (vt [vg [vi z0.1, vn], vn, vi z2])) e0 e1 e2), bH.fresh _, ((congrArg (fun (z : (Int) × (List ((Int) × (Int)))) => z.2) e0) ▸ Ow.nil), (e1 ▸ cj.nil)⟩
set_option maxHeartbeats 1000000 in
theorem sN (w0 : World) (g : (Int) × (List ((Int) × (Int)))) (g_v : Value) (hg_v : Ro w0 g_v g.2) (r : bj) (r_v : Value) (hr_v : Ro w0 r_v r) (to : List Int) (to_v : Value) (hto_v : Ro w0 to_v to) (hmay : bx g) (hr : cf g r) (ht1 : to.length = 1) (ht : ∀ x ∈ to, 0 ≤ x ∧ x < ((ax (aw g r) r).length : Int)) :
    Calls Try.prog 85 #[vg [vi g.1, g_v], r_v, to_v] w0 (fun ee w => ∃ xx : aE × Value, ee = .returned ((fun ⟨δ, rv0⟩ => rv0) xx) ∧ (fun (⟨δ, rv0⟩ : aE × Value) (w : World) => cC w0 δ w ∧ Ow δ (is 1) (is 1) w rv0 (bT g.2.length (bX g r) ((ax (aw g r) r).length : Int) to)) xx w) := by
 refine az Try.func85 rfl (Nat.le_of_ble_eq_true rfl) ?_
 have bH := b9.start w0
 have Rg := hg_v.sl
 have Rr := hr_v.sl
 have Rto := hto_v.sl
 have hm := hmay
 have hrp := hr
 have hm0 := hmay
 obtain ⟨hm1, hm2, hm3, hm4⟩ := hm0
 have hrl := hr.1
 have hFl : (ax (aw g r) r).length ≤ 8000 := by have h := cT g r hmay hr; rw [bG (br hmay hr)] at h; exact h
 have hol0 := ec g r
 have hof : hT (bX g r) ((ax (aw g r) r).length : Int) g.2.length := by have h := nE hm hrp; rw [eN (br hm hrp), bG (br hm hrp)] at h; exact h
 have hrep : ((List.replicate (((ax (aw g r) r).length : Int)).toNat (0 : Int)).length : Int) = ((ax (aw g r) r).length : Int) := by simp
 have hto0 := ht _ (bu (xs := to) (i := 0) (by omega) (by omega))
 obtain ⟨hfo1, hfo2⟩ := uQ (F := ((ax (aw g r) r).length : Int)) ht1
 refine a9 (a8 rfl (cr rfl (bR c0 (is 1) (1, 0) rfl rfl ?_)))
 intro g4 w1 b3 ch2 bx5
 replace bx5 : Bx g4 (is 1) w1 b3 [vi g.1, g_v] := bx5
 refine ma vn (aa (a9 (a8 rfl (lx (aq (ds := [vi g.1, g_v]) ak rfl bx5 rfl rfl) (mv r_v ?_)))))
 replace Rg := Rg.cn ch2
 replace Rr := Rr.cn ch2
 refine lo (aV (aD (vals := [vg [vi g.1, g_v], r_v]) Try.func26 fc fe rfl) (gi w1 g g_v (Rg).ro r r_v (Rr).ro ‹_› ‹_›) ?_)
 rintro ⟨d7, v9⟩ w6 ⟨fr8, o10⟩
 obtain ⟨g11, ch12, G11⟩ := dw g4 fr8 (fun n => if n = 1 then 2 else 0)
 replace o10 := o10.gl G11 2
 refine ma v9 (aa (a9 (a8 rfl ?_)))
 replace bx5 := bx5.cn ch12
 refine lx (aq (ds := [vi g.1, g_v]) ak rfl bx5 rfl rfl) (mv r_v ?_)
 replace Rg := Rg.cn ch12
 replace Rr := Rr.cn ch12
 refine lo (aV (aD (vals := [vg [vi g.1, g_v], r_v]) Try.func29 kR lB rfl) (gy w6 g g_v (Rg).ro r r_v (Rr).ro ‹_› ‹_›) ?_)
 rintro ⟨d14, v16⟩ w13 ⟨fr15, o17⟩
 obtain ⟨g18, ch19, G18⟩ := dw g11 fr15 (fun n => if n = 1 then 3 else 0)
 replace o17 := o17.gl G18 3
 have len20 := (o17.sl).small
 refine lx (aO Try.underlying25 rfl o17.sl) (ai (List.length (ax (aw g r) r) : Int) (aa (a9 ?_)))
 clear bx5 o17
 refine a8 rfl (mi (List.length (ax (aw g r) r) : Int) (lo (dE (α := Int) (l := (List.length (ax (aw g r) r) : Int)) (cp := (List.length (ax (aw g r) r) : Int)) g18 (is 4) (is 4) (4, 0) rfl (0 : Int) Try.underlying27 am rfl rfl rfl (by omega) (by omega) (by omega) (by omega) ?_)))
 intro g21 w22 v23 ch24 o25 _
 refine ma v23 (aa (a9 (a9 (a8 rfl (ai 0 (aa (ah ?_)))))))
 refine aN (σ := Nat × (List Int) × aE) (fun ⟨k, far, gq⟩ f w => b9 w0 gq w ∧ f 2 = to_v ∧ f 7 = v9 ∧ f 8 = vi (List.length (ax (aw g r) r) : Int) ∧ f 9 = v23 ∧ f 10 = vi (k : Int) ∧ Sl gq (is 0) w g_v g.2 ∧ Sl gq (is 0) w r_v r ∧ Sl gq (is 0) w to_v to ∧ Ow gq (is 2) (is 2) w v9 (bX g r) ∧ Ow gq (is 4) (is 4) w v23 far ∧ (k : Int) ≤ ((List.length (ax (aw g r) r) : Int) : Int) ∧ (far = List.replicate k (-1) ++ List.replicate ((((ax (aw g r) r).length : Int)).toNat - k) 0 ∧ (k : Int) ≤ ((ax (aw g r) r).length : Int))) (fun ⟨k, far, gq⟩ => Int.toNat (((List.length (ax (aw g r) r) : Int) : Int) - (k : Int))) (0, (List.replicate (Int.toNat (List.length (ax (aw g r) r) : Int)) (0 : Int)), g21) ?_ ?_
 have C26 := cg [] (ch2.n.seq (ch12.n.seq (ch19.n.seq ch24.n)))
 · exact ⟨bH.ca C26, rfl, rfl, rfl, rfl, rfl, (Rg.cn ch19).cn ch24, (Rr.cn ch19).cn ch24, Rto.ca C26, (o10.cn ch19).cn ch24, o25, by omega, by exact ⟨by simp, by omega⟩⟩
 clear Rg Rr Rto o10 o25 bH
 rintro ⟨k, far, g29⟩ f27 w28 ⟨bH, zs2, zs7, zs8, zs9, zs10, Rg, Rr, Rto, o10, o25, hle_k, hinv0⟩ back5
 have hfl : far.length = (((ax (aw g r) r).length : Int)).toNat := by rw [hinv0.1]; simp; omega
 refine a9 (a9 (a8 rfl (mz zs10 (mz zs8 (lx (bc (m := (k : Int)) (n := (List.length (ax (aw g r) r) : Int)) rfl rfl) (aa ?_))))))
 by_cases p5 : (k : Int) < (List.length (ax (aw g r) r) : Int)
 ·
  refine ae rfl (dt p5) (aj (a9 (ah (a8 rfl (mz zs9 (mz zs10 (lx (ab (v := v23) (i := (k : Int)) Try.underlying27 rfl rfl o25.flat rfl (by omega) (by omega)) (lo (bP (i := (k : Int)) (-1) am rfl rfl o25 (by omega) (by omega) rfl ?_)))))))))
  intro w30 ch31 bx32
  clear o25
  refine aa (ao (a8 rfl (mz zs10 (lx (aQ (m := (k : Int)) (n := 1) rfl rfl (by omega)) (ai ((k : Int) + 1) (aa ?_))))))
  refine back5 (k + 1, (List.set far (Int.toNat (k : Int)) (-1)), g29) _ _ ⟨bH.ce ch31, zs2, zs7, zs8, zs9, rfl, Rg.ce ch31, Rr.ce ch31, Rto.ce ch31, o10.ce ch31, bx32, by omega, ?_⟩ ?_
  · show (List.set far (Int.toNat (k : Int)) (-1)) = List.replicate (k + 1) (-1) ++ List.replicate ((((ax (aw g r) r).length : Int)).toNat - (k + 1)) 0 ∧ ((k + 1) : Int) ≤ ((ax (aw g r) r).length : Int)
    exact ⟨by rw [hinv0.1]; exact iG (by omega), by omega⟩
  · show Int.toNat (((List.length (ax (aw g r) r) : Int) : Int) - ((k + 1) : Int)) < Int.toNat (((List.length (ax (aw g r) r) : Int) : Int) - (k : Int))
    omega
 refine ag rfl (df p5) (aI rfl (a9 (a8 rfl (ma vn (aa (a9 (a9 (a8 rfl (ai 0 (aa (ah ?_)))))))))))
 refine aN (σ := Value × (List Int) × Nat × (List Int) × aE) (fun ⟨q1_v, q1, j, far1, gq⟩ f w => b9 w0 gq w ∧ f 2 = to_v ∧ f 7 = v9 ∧ f 9 = v23 ∧ f 11 = q1_v ∧ f 12 = vi (j : Int) ∧ Sl gq (is 0) w g_v g.2 ∧ Sl gq (is 0) w r_v r ∧ Sl gq (is 0) w to_v to ∧ Ow gq (is 2) (is 2) w v9 (bX g r) ∧ Ow gq (is 4) (is 4) w v23 far1 ∧ Ow gq (is 6) (is 6) w q1_v q1 ∧ (j : Int) ≤ ((to.length : Int) : Int) ∧ ((j = 0 ∧ far1 = List.replicate (((ax (aw g r) r).length : Int)).toNat (-1) ∧ q1 = []) ∨ (j = 1 ∧ far1 = dP ((ax (aw g r) r).length : Int) to ∧ q1 = to))) (fun ⟨q1_v, q1, j, far1, gq⟩ => Int.toNat (((to.length : Int) : Int) - (j : Int))) (vn, [], 0, far, g29) ?_ ?_
 · exact ⟨bH, zs2, zs7, zs9, rfl, rfl, Rg, Rr, Rto, o10, o25, Ow.nil, by omega, by (have hk : k = (((ax (aw g r) r).length : Int)).toNat := (by omega); rw [hinv0.1, hk]; simp)⟩
 clear Rg Rr Rto o10 o25 bH
 rintro ⟨q1_v, q1, j, far1, g35⟩ f33 w34 ⟨bH, zs2, zs7, zs9, zs11, zs12, Rg, Rr, Rto, o10, o25, o_q1, hle_j, hinv1⟩ back10
 have hfl1 : far1.length = (((ax (aw g r) r).length : Int)).toNat := by rcases hinv1 with h | h; (rw [h.2.1]; simp); (rw [h.2.1, ff])
 have hq1l : q1.length ≤ 1 := by rcases hinv1 with h | h; (rw [h.2.2]; simp); (rw [h.2.2]; omega)
 refine a9 (a9 (a8 rfl (mz zs12 (mz zs2 ?_))))
 have len36 := (Rto).small
 refine lx (aO Try.underlying27 rfl Rto) (lx (bc (m := (j : Int)) (n := (to.length : Int)) rfl rfl) (aa ?_))
 by_cases p10 : (j : Int) < (to.length : Int)
 ·
  refine ae rfl (dt p10) ?_
  have hj0 : j = 0 := by omega
  have hq0 : far1 = List.replicate (((ax (aw g r) r).length : Int)).toNat (-1) ∧ q1 = [] := by rcases hinv1 with h | h; exact h.2; omega
  have htj := ht _ (bu (xs := to) (i := (j : Int)) (by omega) (by omega))
  refine aj (a9 (ah (a9 (a8 rfl (mz zs9 (mz zs2 (mz zs12 (lx (ab (v := to_v) (i := (j : Int)) Try.underlying27 rfl rfl Rto rfl (by omega) (by omega)) (lx (ay (v := to_v) (i := (j : Int)) am rfl Rto (by omega) (by omega) (by decide) rfl) (lx (ab (v := v23) (i := (gI to (j : Int))) Try.underlying27 rfl rfl o25.flat rfl (by omega) (by omega)) ?_))))))))))
  refine lx (ay (v := v23) (i := (gI to (j : Int))) am rfl o25.flat (by omega) (by omega) (by decide) rfl) (lx (bc (m := (gI far1 (gI to (j : Int)))) (n := 0) rfl rfl) (aa ?_))
  have p12 : (gI far1 (gI to (j : Int))) < 0 := by (rw [hq0.1, eH (by omega) (by omega)]; omega)
  refine ae rfl (dt p12) (a9 (a8 rfl (mz zs9 (mz zs2 (mz zs12 (lx (ab (v := to_v) (i := (j : Int)) Try.underlying27 rfl rfl Rto rfl (by omega) (by omega)) (lx (ay (v := to_v) (i := (j : Int)) am rfl Rto (by omega) (by omega) (by decide) rfl) (lx (ab (v := v23) (i := (gI to (j : Int))) Try.underlying27 rfl rfl o25.flat rfl (by omega) (by omega)) (lo (bP (i := (gI to (j : Int))) 0 am rfl rfl o25 (by omega) (by omega) rfl ?_))))))))))
  intro w37 ch38 bx39
  clear o25
  refine aa (a8 rfl (mz zs11 (mz zs2 (mz zs12 ?_))))
  replace Rto := Rto.ce ch38
  refine lx (ab (v := to_v) (i := (j : Int)) Try.underlying27 rfl rfl Rto rfl (by omega) (by omega)) (lx (ay (v := to_v) (i := (j : Int)) am rfl Rto (by omega) (by omega) (by decide) rfl) (lo (aA (α := Int) g35 (is 5) (is 5) (5, 0) rfl ([(gI to (j : Int))] : List Int) Try.underlying27 am (by decide) (by decide) (vs := [(0, vi (gI to (j : Int)))]) rfl rfl (.cons rfl .nil) ?_)))
  intro g40 w41 v42 ch43 o44
  refine lo ?_
  replace o_q1 := (o_q1.ce ch38).cn ch43
  refine aR (α := Int) (xs := q1) (ys := ([(gI to (j : Int))] : List Int)) g40 (J := is 6) (S := is 6) (6, 0) rfl Try.underlying27 am (by decide) rfl rfl rfl o_q1 o44.flat (by decide) (by (simp; omega)) ?_
  intro g45 w46 v47 ch48 o49
  clear o_q1
  refine ma v47 (aa (ao ?_))
  clear o44
  refine a8 rfl (mz zs12 (lx (aQ (m := (j : Int)) (n := 1) rfl rfl (by omega)) (ai ((j : Int) + 1) (aa ?_))))
  have C50 := cg [4, 6] ((ch38.l rfl).seq (ch43.n.seq (ch48.l rfl)))
  refine back10 (v47, (q1 ++ ([(gI to (j : Int))] : List Int)), j + 1, (List.set far1 (Int.toNat (gI to (j : Int))) 0), g45) _ _ ⟨bH.ca C50, zs2, zs7, zs9, rfl, rfl, Rg.ca C50, Rr.ca C50, (Rto.cn ch43).ce ch48, o10.ca C50, (bx39.cn ch43).ce ch48, o49, by omega, ?_⟩ ?_
  · show ((j + 1) = 0 ∧ (List.set far1 (Int.toNat (gI to (j : Int))) 0) = List.replicate (((ax (aw g r) r).length : Int)).toNat (-1) ∧ (q1 ++ ([(gI to (j : Int))] : List Int)) = []) ∨ ((j + 1) = 1 ∧ (List.set far1 (Int.toNat (gI to (j : Int))) 0) = dP ((ax (aw g r) r).length : Int) to ∧ (q1 ++ ([(gI to (j : Int))] : List Int)) = to)
    exact .inr ⟨by omega, by rw [hq0.1, hj0]; exact hfo1, by rw [hq0.2, hj0]; exact hfo2⟩
  · show Int.toNat (((to.length : Int) : Int) - ((j + 1) : Int)) < Int.toNat (((to.length : Int) : Int) - (j : Int))
    omega
 refine ag rfl (df p10) (aI rfl (a9 (a9 (a8 rfl (ai 0 (aa (ah ?_)))))))
 refine aN (σ := Value × (List Int) × Nat × (List Int) × aE) (fun ⟨q_v, q, i, far2, gq⟩ f w => b9 w0 gq w ∧ f 7 = v9 ∧ f 9 = v23 ∧ f 11 = q_v ∧ f 13 = vi (i : Int) ∧ Sl gq (is 0) w g_v g.2 ∧ Sl gq (is 0) w r_v r ∧ Sl gq (is 0) w to_v to ∧ Ow gq (is 2) (is 2) w v9 (bX g r) ∧ Ow gq (is 4) (is 4) w v23 far2 ∧ Ow gq (is 6) (is 6) w q_v q ∧ (fS (far2, q) (dP ((ax (aw g r) r).length : Int) to, to) (kV (bX g r) ((ax (aw g r) r).length : Int) g.2.length) ((ax (aw g r) r).length : Int) (((ax (aw g r) r).length : Int).toNat + to.length) i)) (fun ⟨q_v, q, i, far2, gq⟩ => (((ax (aw g r) r).length : Int).toNat + to.length) - i) (q1_v, q1, 0, far1, g35) ?_ ?_
 · exact ⟨bH, zs7, zs9, zs11, rfl, Rg, Rr, Rto, o10, o25, o_q1, by (have hjj : far1 = dP ((ax (aw g r) r).length : Int) to ∧ q1 = to := (by rcases hinv1 with h | h; omega; exact h.2); rw [hjj.1, hjj.2]; exact fS.start (iK.start (by omega) ht))⟩
 clear Rg Rr Rto o10 o25 o_q1 bH
 rintro ⟨q_v, q, i, far2, g53⟩ f51 w52 ⟨bH, zs7, zs9, zs11, zs13, Rg, Rr, Rto, o10, o25, o_q, hgo⟩ back16
 obtain ⟨hg1, hg2, hg3⟩ := hgo.facts
 refine a9 (a9 (a8 rfl (mz zs13 (mz zs11 ?_))))
 have len54 := (o_q.flat).small
 refine lx (aO Try.underlying27 rfl o_q.flat) (lx (bc (m := (i : Int)) (n := (q.length : Int)) rfl rfl) (aa ?_))
 by_cases p16 : (i : Int) < (q.length : Int)
 ·
  refine ae rfl (dt p16) ?_
  obtain ⟨hn1, hn2⟩ := hgo.node ‹_›
  refine aj (a9 (ah (a9 (a8 rfl (ai 0 (aa (ah ?_)))))))
  refine aN (σ := Value × (List Int) × Nat × (List Int) × aE) (fun ⟨q3_v, q3, p, far3, gq⟩ f w => b9 w0 gq w ∧ f 7 = v9 ∧ f 9 = v23 ∧ f 11 = q3_v ∧ f 13 = vi (i : Int) ∧ f 14 = vi (p : Int) ∧ Sl gq (is 0) w g_v g.2 ∧ Sl gq (is 0) w r_v r ∧ Sl gq (is 0) w to_v to ∧ Ow gq (is 2) (is 2) w v9 (bX g r) ∧ Ow gq (is 4) (is 4) w v23 far3 ∧ Ow gq (is 6) (is 6) w q3_v q3 ∧ (p : Int) ≤ ((List.length (bX g r) : Int) : Int) ∧ (lU far3 q3 (far2, q) (bX g r) ((ax (aw g r) r).length : Int) g.2.length (((ax (aw g r) r).length : Int).toNat + to.length) i p)) (fun ⟨q3_v, q3, p, far3, gq⟩ => Int.toNat (((List.length (bX g r) : Int) : Int) - (p : Int))) (q_v, q, 0, far2, g53) ?_ ?_
  · exact ⟨bH, zs7, zs9, zs11, zs13, rfl, Rg, Rr, Rto, o10, o25, o_q, by omega, by exact lU.start hgo ‹_›⟩
  clear Rg Rr Rto o10 o25 o_q bH
  rintro ⟨q3_v, q3, p, far3, g57⟩ f55 w56 ⟨bH, zs7, zs9, zs11, zs13, zs14, Rg, Rr, Rto, o10, o25, o_q3, hle_p, hrow⟩ back19
  obtain ⟨hw1, hw2, ⟨hw3, hw4⟩, hw5, hw6, hw7⟩ := hrow.facts
  refine a9 (a9 (a8 rfl (mz zs14 (mz zs7 ?_))))
  have len58 := (o10.flat).small
  refine lx (aO Try.underlying27 rfl o10.flat) (lx (bc (m := (p : Int)) (n := (List.length (bX g r) : Int)) rfl rfl) (aa ?_))
  by_cases p19 : (p : Int) < (List.length (bX g r) : Int)
  ·
   refine ae rfl (dt p19) ?_
   have htw := eJ (n := (g.2.length : Int)) (h := (p : Int)) (by omega) (by omega)
   obtain ⟨hx1, hx2⟩ := hof.2 _ htw.1 htw.2
   refine aj (a9 (ah (a9 (a8 rfl (mz zs7 (mz zs14 (lo (bO (v := vi (bK (p : Int))) (aD (vals := [vi (p : Int)]) Try.func27 oH oC rfl) (kX w56 (p : Int) (by omega)) ?_))))))))
   intro w59 hb60
   replace hb60 := aG hb60 g57
   replace o10 := o10.cn hb60
   refine lx (ab (v := v9) (i := bK (p : Int)) Try.underlying27 rfl rfl o10.flat rfl (by omega) (by omega)) (lx (ay (v := v9) (i := bK (p : Int)) am rfl o10.flat (by omega) (by omega) (by decide) rfl) (ai (gI (bX g r) (bK (p : Int))) (aa (a9 (ck g57 rfl fM (by kernel_rfl) ?_)))))
   intro w62 ch61
   refine qz zs7 (qz zs14 ?_)
   replace o10 := o10.cn ch61
   refine qx (fun w' hw' => ab (v := v9) (i := (p : Int)) Try.underlying27 rfl rfl (o10.flat.bel hw') rfl (by omega) (by omega)) (qx (fun w' hw' => ay (v := v9) (i := (p : Int)) am rfl (o10.flat.bel hw') (by omega) (by omega) (by decide) rfl) (qz zs11 (qz zs13 ?_)))
   replace o_q3 := (o_q3.cn hb60).cn ch61
   refine qx (fun w' hw' => ab (v := q3_v) (i := (i : Int)) Try.underlying27 rfl rfl (o_q3.flat.bel hw') rfl (by omega) (by omega)) (qx (fun w' hw' => ay (v := q3_v) (i := (i : Int)) am rfl (o_q3.flat.bel hw') (by omega) (by omega) (by decide) rfl) (qx (fun w' hw' => cR (m := (gI (bX g r) (p : Int))) (n := (gI q3 (i : Int))) rfl rfl) (qm (Value.bool (decide ((gI (bX g r) (p : Int)) = (gI q3 (i : Int))))) ?_)))
   by_cases q86 : (gI (bX g r) (p : Int)) = (gI q3 (i : Int))
   ·
    refine bE (v := v23) (wy (dt q86)) (fun w' hw' => au zs9) (bE (v := vi (gI (bX g r) (bK (p : Int)))) (wy (dt q86)) (fun w' hw' => au rfl) ?_)
    replace o25 := (o25.cn hb60).cn ch61
    refine bE (v := Value.pointer (some (ba v23 1 (Int.toNat (gI (bX g r) (bK (p : Int))))))) (wy (dt q86)) (fun w' hw' => ab (α := Int) (xs := far3) (v := v23) (i := (gI (bX g r) (bK (p : Int)))) Try.underlying27 rfl rfl (o25.flat.bel hw') rfl (by omega) (by omega)) (bE (v := vi (gI far3 (gI (bX g r) (bK (p : Int))))) (wy (dt q86)) (fun w' hw' => ay (α := Int) (xs := far3) (v := v23) (i := (gI (bX g r) (bK (p : Int)))) am rfl (o25.flat.bel hw') (by omega) (by omega) (by decide) rfl) (bE (v := Value.bool (decide ((gI far3 (gI (bX g r) (bK (p : Int)))) < 0))) (wy (dt q86)) (fun w' hw' => bc (m := (gI far3 (gI (bX g r) (bK (p : Int))))) (n := 0) rfl rfl) ?_))
    refine qv (Value.bool (decide ((gI far3 (gI (bX g r) (bK (p : Int)))) < 0))) (fun w' hw' => aY rfl (dt q86) rfl) (cV ?_)
    intro w63 hc64
    replace hc64 := aG hc64 g57
    by_cases p22 : (gI far3 (gI (bX g r) (bK (p : Int)))) < 0
    ·
     refine ae rfl (dt p22) (a9 (a8 rfl (mz zs9 (mi (gI (bX g r) (bK (p : Int))) (mz zs9 (mz zs11 (mz zs13 ?_)))))))
     replace o_q3 := o_q3.cn hc64
     refine lx (ab (v := q3_v) (i := (i : Int)) Try.underlying27 rfl rfl o_q3.flat rfl (by omega) (by omega)) (lx (ay (v := q3_v) (i := (i : Int)) am rfl o_q3.flat (by omega) (by omega) (by decide) rfl) ?_)
     replace o25 := o25.cn hc64
     refine lx (ab (v := v23) (i := (gI q3 (i : Int))) Try.underlying27 rfl rfl o25.flat rfl (by omega) (by omega)) (lx (ay (v := v23) (i := (gI q3 (i : Int))) am rfl o25.flat (by omega) (by omega) (by decide) rfl) (lx (aQ (m := (gI far3 (gI q3 (i : Int)))) (n := 1) rfl rfl (by omega)) (lx (ab (v := v23) (i := (gI (bX g r) (bK (p : Int)))) Try.underlying27 rfl rfl o25.flat rfl (by omega) (by omega)) (lo (bP (i := (gI (bX g r) (bK (p : Int)))) ((gI far3 (gI q3 (i : Int))) + 1) am rfl rfl o25 (by omega) (by omega) rfl ?_)))))
     intro w65 ch66 bx67
     clear o25
     refine aa (a8 rfl (mz zs11 (mi (gI (bX g r) (bK (p : Int))) (lo (aA (α := Int) g57 (is 7) (is 7) (7, 0) rfl ([(gI (bX g r) (bK (p : Int)))] : List Int) Try.underlying27 am (by decide) (by decide) (vs := [(0, vi (gI (bX g r) (bK (p : Int))))]) rfl rfl (.cons rfl .nil) ?_)))))
     intro g68 w69 v70 ch71 o72
     refine lo ?_
     replace o_q3 := (o_q3.ce ch66).cn ch71
     refine aR (α := Int) (xs := q3) (ys := ([(gI (bX g r) (bK (p : Int)))] : List Int)) g68 (J := is 6) (S := is 6) (6, 0) rfl Try.underlying27 am (by decide) rfl rfl rfl o_q3 o72.flat (by decide) (by (simp; omega)) ?_
     intro g73 w74 v75 ch76 o77
     clear o_q3
     refine ma v75 (aa (ao ?_))
     clear o72
     refine a8 rfl (mz zs14 (lx (aQ (m := (p : Int)) (n := 1) rfl rfl (by omega)) (ai ((p : Int) + 1) (aa ?_))))
     have C79 := cg [4, 6] (hc64.n.seq ((ch66.l rfl).seq (ch71.n.seq (ch76.l rfl))))
     have C78 := hb60.n.seq (ch61.n.seq C79)
     refine back19 (v75, (q3 ++ ([(gI (bX g r) (bK (p : Int)))] : List Int)), p + 1, (List.set far3 (Int.toNat (gI (bX g r) (bK (p : Int)))) ((gI far3 (gI q3 (i : Int))) + 1)), g73) _ _ ⟨bH.ca C78, zs7, zs9, rfl, zs13, rfl, Rg.ca C78, Rr.ca C78, Rto.ca C78, o10.ca C79, (bx67.cn ch71).ce ch76, o77, by omega, ?_⟩ ?_
     · show lU (List.set far3 (Int.toNat (gI (bX g r) (bK (p : Int)))) ((gI far3 (gI q3 (i : Int))) + 1)) (q3 ++ ([(gI (bX g r) (bK (p : Int)))] : List Int)) (far2, q) (bX g r) ((ax (aw g r) r).length : Int) g.2.length (((ax (aw g r) r).length : Int).toNat + to.length) i (p + 1)
       exact hrow.yes hof (by omega) ‹_› ‹_›
     · show Int.toNat (((List.length (bX g r) : Int) : Int) - ((p + 1) : Int)) < Int.toNat (((List.length (bX g r) : Int) : Int) - (p : Int))
       omega
    refine ag rfl (df p22) (aj (ao (a8 rfl (mz zs14 (lx (aQ (m := (p : Int)) (n := 1) rfl rfl (by omega)) (ai ((p : Int) + 1) (aa ?_)))))))
    have C80 := cg [] (hb60.n.seq (ch61.n.seq hc64.n))
    refine back19 (q3_v, q3, p + 1, far3, g57) _ _ ⟨bH.ca C80, zs7, zs9, zs11, zs13, rfl, Rg.ca C80, Rr.ca C80, Rto.ca C80, o10.cn hc64, o25.cn hc64, o_q3.cn hc64, by omega, ?_⟩ ?_
    · show lU far3 q3 (far2, q) (bX g r) ((ax (aw g r) r).length : Int) g.2.length (((ax (aw g r) r).length : Int).toNat + to.length) i (p + 1)
      exact hrow.seen hof (by omega) ‹_› ‹_›
    · show Int.toNat (((List.length (bX g r) : Int) : Int) - ((p + 1) : Int)) < Int.toNat (((List.length (bX g r) : Int) : Int) - (p : Int))
      omega
   refine bv (wn (df q86)) (bv (wn (df q86)) (bv (wn (df q86)) (bv (wn (df q86)) (bv (wn (df q86)) (qv (Value.bool false) (fun w' hw' => b7 rfl (df q86) rfl) (cV ?_))))))
   intro w81 hc82
   replace hc82 := aG hc82 g57
   refine ag rfl rfl (aj (ao (a8 rfl (mz zs14 (lx (aQ (m := (p : Int)) (n := 1) rfl rfl (by omega)) (ai ((p : Int) + 1) (aa ?_)))))))
   have C83 := cg [] (hb60.n.seq (ch61.n.seq hc82.n))
   refine back19 (q3_v, q3, p + 1, far3, g57) _ _ ⟨bH.ca C83, zs7, zs9, zs11, zs13, rfl, Rg.ca C83, Rr.ca C83, Rto.ca C83, o10.cn hc82, o25.ca C83, o_q3.cn hc82, by omega, ?_⟩ ?_
   · show lU far3 q3 (far2, q) (bX g r) ((ax (aw g r) r).length : Int) g.2.length (((ax (aw g r) r).length : Int).toNat + to.length) i (p + 1)
     exact hrow.no ‹_›
   · show Int.toNat (((List.length (bX g r) : Int) : Int) - ((p + 1) : Int)) < Int.toNat (((List.length (bX g r) : Int) : Int) - (p : Int))
     omega
  refine ag rfl (df p19) (aI rfl (ao (a8 rfl (mz zs13 (lx (aQ (m := (i : Int)) (n := 1) rfl rfl (by omega)) (ai ((i : Int) + 1) (aa ?_)))))))
  refine back16 (q3_v, q3, i + 1, far3, g57) _ _ ⟨bH, zs7, zs9, zs11, rfl, Rg, Rr, Rto, o10, o25, o_q3, ?_⟩ ?_
  · show fS (far3, q3) (dP ((ax (aw g r) r).length : Int) to, to) (kV (bX g r) ((ax (aw g r) r).length : Int) g.2.length) ((ax (aw g r) r).length : Int) (((ax (aw g r) r).length : Int).toNat + to.length) (i + 1)
    exact lU.done hgo ‹_› hrow (by omega)
  · show (((ax (aw g r) r).length : Int).toNat + to.length) - (i + 1) < (((ax (aw g r) r).length : Int).toNat + to.length) - i
    omega
 refine ag rfl (df p16) (aI rfl (a9 ?_))
 clear o10 o_q
 refine a8 rfl (mz zs9 (ma v23 (aa (av (vs := [v23]) Try.func85 (.tmp rfl .nil) ?_))))
 have e0 : (far2 : List Int) = (bT g.2.length (bX g r) ((ax (aw g r) r).length : Int) to) := by
   have h9 := congrArg Prod.fst (hgo.done ‹_›)
   rw [← sX (by omega) hof ht]; exact h9
 exact ⟨(fin w0 g53 (fun n => if n = 4 then 1 else 0), v23), (congrArg (a₁ := far2) (fun (z0 : List Int) => Ending.returned (v23)) e0), bH.fresh _, (e0 ▸ (o25.glue (γ := c0) (ren := (fun n => if n = 4 then 1 else 0)) (k := 1) bH.col rfl rfl))⟩
set_option maxHeartbeats 1000000 in
theorem sK (w0 : World) (g : (Int) × (List ((Int) × (Int)))) (g_v : Value) (hg_v : Ro w0 g_v g.2) (r : bj) (r_v : Value) (hr_v : Ro w0 r_v r) (from_ : Int) (to : Int) (hmay : bx g) (hr : cf g r) :
    Calls Try.prog 44 #[vg [vi g.1, g_v], r_v, vi from_, vi to] w0 (fun ee w => ∃ xx : aE × Value, ee = .returned ((fun ⟨δ, rv0⟩ => vt [rv0, vi ((bB g r from_ to).2)]) xx) ∧ (fun (⟨δ, rv0⟩ : aE × Value) (w : World) => cC w0 δ w ∧ Ow δ (is 1) (is 1) w rv0 ((bB g r from_ to).1)) xx w) := by
 refine az Try.func44 rfl (Nat.le_of_ble_eq_true rfl) ?_
 have bH := b9.start w0
 have Rg := hg_v.sl
 have Rr := hr_v.sl
 have hm := hmay
 have hrp := hr
 have hm0 := hmay
 obtain ⟨hm1, hm2, hm3, hm4⟩ := hm0
 have hrl := hr.1
 have hFl : (ax (aw g r) r).length ≤ 8000 := by have h := cT g r hmay hr; rw [bG (br hmay hr)] at h; exact h
 have hol0 := ec g r
 have hFe : (ar g r).2 = 0 := congrArg Prod.snd (bG (br hm hrp))
 have hFe1 : (ar g r).1 = ax (aw g r) r := congrArg Prod.fst (bG (br hm hrp))
 have hOe1 : (bU g r).1 = bX g r := congrArg Prod.fst (eN (br hm hrp))
 have hof : hT (bX g r) ((ax (aw g r) r).length : Int) g.2.length := by have h := nE hm hrp; rw [eN (br hm hrp), bG (br hm hrp)] at h; exact h
 refine a9 (a8 rfl (cr rfl (bR c0 (is 1) (1, 0) rfl rfl ?_)))
 intro g4 w1 b3 ch2 bx5
 replace bx5 : Bx g4 (is 1) w1 b3 [vi g.1, g_v] := bx5
 refine ma vn (ai 0 (aa (a9 (a8 rfl (lx (aq (ds := [vi g.1, g_v]) ak rfl bx5 rfl rfl) (mv r_v ?_))))))
 replace Rg := Rg.cn ch2
 replace Rr := Rr.cn ch2
 refine lo (aV (aD (vals := [vg [vi g.1, g_v], r_v]) Try.func29 kR lB rfl) (gy w1 g g_v (Rg).ro r r_v (Rr).ro ‹_› ‹_›) ?_)
 rintro ⟨d7, v9⟩ w6 ⟨fr8, o10⟩
 obtain ⟨g11, ch12, G11⟩ := dw g4 fr8 (fun n => if n = 1 then 2 else 0)
 replace o10 := o10.gl G11 2
 have len13 := (o10.sl).small
 refine lx (aO Try.underlying25 rfl o10.sl) (ai (List.length (ax (aw g r) r) : Int) (aa (a9 (a9 ?_))))
 clear o10
 refine a8 rfl (mi from_ (lx (bc (m := from_) (n := 0) rfl rfl) (mv (Value.bool (decide (from_ < 0))) ?_)))
 by_cases q20 : from_ < 0
 ·
  refine al (wn (dt q20)) (al (wn (dt q20)) (lw (Value.bool true) (aY rfl (dt q20) rfl) (mv (Value.bool true) (al (wn rfl) (al (wn rfl) (al (wn rfl) (lw (Value.bool true) (aY rfl rfl rfl) (mv (Value.bool true) (al (wn rfl) (al (wn rfl) (al (wn rfl) (lw (Value.bool true) (aY rfl rfl rfl) (aa ?_)))))))))))))
  refine ae rfl rfl (a9 ?_)
  clear bx5
  refine a8 rfl (ma vn (ai 2 (aa (av (vs := [vn, vi 2]) Try.func44 (.tmp rfl (.tmp rfl .nil)) ?_))))
  replace bH := bH.cn ch2
  replace bH := bH.cn ch12
  have e0 : ([] : List Int) = ((bB g r from_ to).1) := by
    rw [dp hFe (by rw [hFe1]; omega)]
  have e1 : (2 : Int) = ((bB g r from_ to).2) := by
    rw [dp hFe (by rw [hFe1]; omega)]
  exact ⟨(fin w0 g11 (fun n => 0), vn), (ci (a := []) (b := 2) (fun (z0 : List Int) (z1 : Int) => Ending.returned (vt [vn, vi z1])) e0 e1), bH.fresh _, (e0 ▸ Ow.nil)⟩
 refine lv (vi to) (wy (df q20)) (au rfl) (lv (Value.bool (decide (to < 0))) (wy (df q20)) (bc (m := to) (n := 0) rfl rfl) (lw (Value.bool (decide (to < 0))) (b7 rfl (df q20) rfl) (mv (Value.bool (decide (to < 0))) ?_)))
 by_cases q24 : to < 0
 ·
  refine al (wn (dt q24)) (al (wn (dt q24)) (al (wn (dt q24)) (lw (Value.bool true) (aY rfl (dt q24) rfl) (mv (Value.bool true) (al (wn rfl) (al (wn rfl) (al (wn rfl) (lw (Value.bool true) (aY rfl rfl rfl) (aa (ae rfl rfl (a9 ?_)))))))))))
  clear bx5
  refine a8 rfl (ma vn (ai 2 (aa (av (vs := [vn, vi 2]) Try.func44 (.tmp rfl (.tmp rfl .nil)) ?_))))
  replace bH := bH.cn ch2
  replace bH := bH.cn ch12
  have e0 : ([] : List Int) = ((bB g r from_ to).1) := by
    rw [dp hFe (by rw [hFe1]; omega)]
  have e1 : (2 : Int) = ((bB g r from_ to).2) := by
    rw [dp hFe (by rw [hFe1]; omega)]
  exact ⟨(fin w0 g11 (fun n => 0), vn), (ci (a := []) (b := 2) (fun (z0 : List Int) (z1 : Int) => Ending.returned (vt [vn, vi z1])) e0 e1), bH.fresh _, (e0 ▸ Ow.nil)⟩
 refine lv (vi from_) (wy (df q24)) (au rfl) (lv (vi (List.length (ax (aw g r) r) : Int)) (wy (df q24)) (au rfl) (lv (Value.bool (decide ((List.length (ax (aw g r) r) : Int) ≤ from_))) (wy (df q24)) (dy (m := from_) (n := (List.length (ax (aw g r) r) : Int)) rfl rfl) (lw (Value.bool (decide ((List.length (ax (aw g r) r) : Int) ≤ from_))) (b7 rfl (df q24) rfl) (mv (Value.bool (decide ((List.length (ax (aw g r) r) : Int) ≤ from_))) ?_))))
 by_cases q29 : (List.length (ax (aw g r) r) : Int) ≤ from_
 ·
  refine al (wn (dt q29)) (al (wn (dt q29)) (al (wn (dt q29)) (lw (Value.bool true) (aY rfl (dt q29) rfl) (aa (ae rfl rfl (a9 ?_))))))
  clear bx5
  refine a8 rfl (ma vn (ai 2 (aa (av (vs := [vn, vi 2]) Try.func44 (.tmp rfl (.tmp rfl .nil)) ?_))))
  replace bH := bH.cn ch2
  replace bH := bH.cn ch12
  have e0 : ([] : List Int) = ((bB g r from_ to).1) := by
    rw [dp hFe (by rw [hFe1]; omega)]
  have e1 : (2 : Int) = ((bB g r from_ to).2) := by
    rw [dp hFe (by rw [hFe1]; omega)]
  exact ⟨(fin w0 g11 (fun n => 0), vn), (ci (a := []) (b := 2) (fun (z0 : List Int) (z1 : Int) => Ending.returned (vt [vn, vi z1])) e0 e1), bH.fresh _, (e0 ▸ Ow.nil)⟩
 refine lv (vi to) (wy (df q29)) (au rfl) (lv (vi (List.length (ax (aw g r) r) : Int)) (wy (df q29)) (au rfl) (lv (Value.bool (decide ((List.length (ax (aw g r) r) : Int) ≤ to))) (wy (df q29)) (dy (m := to) (n := (List.length (ax (aw g r) r) : Int)) rfl rfl) (lw (Value.bool (decide ((List.length (ax (aw g r) r) : Int) ≤ to))) (b7 rfl (df q29) rfl) (aa ?_))))
 by_cases p2 : (List.length (ax (aw g r) r) : Int) ≤ to
 ·
  refine ae rfl (dt p2) (a9 ?_)
  clear bx5
  refine a8 rfl (ma vn (ai 2 (aa (av (vs := [vn, vi 2]) Try.func44 (.tmp rfl (.tmp rfl .nil)) ?_))))
  replace bH := bH.cn ch2
  replace bH := bH.cn ch12
  have e0 : ([] : List Int) = ((bB g r from_ to).1) := by
    rw [dp hFe (by rw [hFe1]; omega)]
  have e1 : (2 : Int) = ((bB g r from_ to).2) := by
    rw [dp hFe (by rw [hFe1]; omega)]
  exact ⟨(fin w0 g11 (fun n => 0), vn), (ci (a := []) (b := 2) (fun (z0 : List Int) (z1 : Int) => Ending.returned (vt [vn, vi z1])) e0 e1), bH.fresh _, (e0 ▸ Ow.nil)⟩
 refine ag rfl (df p2) (aj (a9 (a8 rfl ?_)))
 replace bx5 := bx5.cn ch12
 refine lx (aq (ds := [vi g.1, g_v]) ak rfl bx5 rfl rfl) (mv r_v (mi to (lo (aA (α := Int) g11 (is 3) (is 3) (3, 0) rfl ([to] : List Int) Try.underlying27 am (by decide) (by decide) (vs := [(0, vi to)]) rfl rfl (.cons rfl .nil) ?_))))
 intro g14 w15 v16 ch17 o18
 replace Rg := (Rg.cn ch12).cn ch17
 replace Rr := (Rr.cn ch12).cn ch17
 refine lo (aV (aD (vals := [vg [vi g.1, g_v], r_v, v16]) Try.func85 uc sR rfl) (sN w15 g g_v (Rg).ro r r_v (Rr).ro ([to] : List Int) v16 (o18.flat).ro ‹_› ‹_› (by rfl) (by simpa using ⟨by omega, by omega⟩)) ?_)
 rintro ⟨d20, v22⟩ w19 ⟨fr21, o23⟩
 obtain ⟨g24, ch25, G24⟩ := dw g14 fr21 (fun n => if n = 1 then 4 else 0)
 replace o23 := o23.gl G24 4
 refine ma v22 (aa (a9 (a9 ?_)))
 clear o18
 have hP : gz g.2.length (bX g r) ((ax (aw g r) r).length : Int) [to] (bT g.2.length (bX g r) ((ax (aw g r) r).length : Int) [to]) := oT (by omega) hof (by simpa using ⟨by omega, by omega⟩)
 have hfl := hP.len
 refine a8 rfl (mv v22 (mi from_ (lx (ab (v := v22) (i := from_) Try.underlying27 rfl rfl o23.flat rfl (by omega) (by omega)) (lx (ay (v := v22) (i := from_) am rfl o23.flat (by omega) (by omega) (by decide) rfl) (lx (bc (m := (gI (bT g.2.length (bX g r) ((ax (aw g r) r).length : Int) ([to] : List Int)) from_)) (n := 0) rfl rfl) (aa ?_))))))
 by_cases p5 : (gI (bT g.2.length (bX g r) ((ax (aw g r) r).length : Int) ([to] : List Int)) from_) < 0
 ·
  refine ae rfl (dt p5) (a9 ?_)
  clear bx5 o23
  refine a8 rfl (ma vn (ai 14 (aa (av (vs := [vn, vi 14]) Try.func44 (.tmp rfl (.tmp rfl .nil)) ?_))))
  have C26 := cg [] (ch2.n.seq (ch12.n.seq (ch17.n.seq ch25.n)))
  replace bH := bH.ca C26
  have e0 : ([] : List Int) = ((bB g r from_ to).1) := by
    rw [ir hFe (by rw [hFe1]; omega) (by rw [hFe1, hOe1]; exact p5)]
  have e1 : (14 : Int) = ((bB g r from_ to).2) := by
    rw [ir hFe (by rw [hFe1]; omega) (by rw [hFe1, hOe1]; exact p5)]
  exact ⟨(fin w0 g24 (fun n => 0), vn), (ci (a := []) (b := 14) (fun (z0 : List Int) (z1 : Int) => Ending.returned (vt [vn, vi z1])) e0 e1), bH.fresh _, (e0 ▸ Ow.nil)⟩
 refine ag rfl (df p5) (aj (a9 (a8 rfl ?_)))
 replace bx5 := (bx5.cn ch17).cn ch25
 refine lx (aq (ds := [vi g.1, g_v]) ak rfl bx5 rfl rfl) (mv r_v (mi from_ (mv v22 (lo (dv (aD (vals := [vg [vi g.1, g_v], r_v, vi from_, v22]) Try.func86 uj uB rfl) (az Try.func86 rfl (Nat.le_of_ble_eq_true rfl) ?_))))))
 replace Rg := Rg.cn ch25
 replace Rr := Rr.cn ch25
 refine a9 (a8 rfl (cr rfl (bR g24 (is 5) (5, 0) rfl rfl ?_)))
 intro g30 w27 b29 ch28 bx31
 replace bx31 : Bx g30 (is 5) w27 b29 [vi g.1, g_v] := bx31
 refine ma vn (ma vn (aa (a9 (a8 rfl (lx (aq (ds := [vi g.1, g_v]) ak rfl bx31 rfl rfl) (mv r_v ?_))))))
 replace Rg := Rg.cn ch28
 replace Rr := Rr.cn ch28
 refine lo (aV (aD (vals := [vg [vi g.1, g_v], r_v]) Try.func26 fc fe rfl) (gi w27 g g_v (Rg).ro r r_v (Rr).ro ‹_› ‹_›) ?_)
 rintro ⟨d33, v35⟩ w32 ⟨fr34, o36⟩
 obtain ⟨g37, ch38, G37⟩ := dw g30 fr34 (fun n => if n = 1 then 6 else 0)
 replace o36 := o36.gl G37 6
 refine ma v35 (aa (a9 ?_))
 clear bx31
 refine a8 rfl (ma vn (aa (a9 (a8 rfl (mi from_ (lo (aA (α := Int) g37 (is 7) (is 7) (7, 0) rfl ([from_] : List Int) Try.underlying27 am (by decide) (by decide) (vs := [(0, vi from_)]) rfl rfl (.cons rfl .nil) ?_)))))))
 intro g39 w40 v41 ch42 o43
 refine ma v41 (aa (a9 (a8 rfl (mi from_ (ai from_ (aa (a9 (ah ?_))))))))
 refine aN (σ := Value × (List Int) × Value × (List Int) × Int × aE) (fun ⟨l_v, l, fs_v, fs, f_, gq⟩ f w => b9 w0 gq w ∧ f 3 = v22 ∧ f 10 = v35 ∧ f 11 = l_v ∧ f 12 = fs_v ∧ f 13 = vi f_ ∧ Sl gq (is 0) w g_v g.2 ∧ Sl gq (is 0) w r_v r ∧ Bx gq (is 1) w b3 [vi g.1, g_v] ∧ Ow gq (is 4) (is 4) w v22 (bT g.2.length (bX g r) ((ax (aw g r) r).length : Int) ([to] : List Int)) ∧ Ow gq (is 6) (is 6) w v35 (bX g r) ∧ Ow gq (is 9) (is 9) w l_v l ∧ Ow gq (is 7) (is 7) w fs_v fs ∧ (dk l f_ g.2.length (bX g r) ((ax (aw g r) r).length : Int) (bT g.2.length (bX g r) ((ax (aw g r) r).length : Int) [to]) from_ to ∧ fs.length = l.length + 1)) (fun ⟨l_v, l, fs_v, fs, f_, gq⟩ => Int.toNat (gI (bT g.2.length (bX g r) ((ax (aw g r) r).length : Int) [to]) f_)) (vn, [], v41, ([from_] : List Int), from_, g39) ?_ ?_
 have C45 := cg [] (ch28.n.seq (ch38.n.seq ch42.n))
 have C44 := ch2.n.seq (ch12.n.seq (ch17.n.seq (ch25.n.seq C45)))
 · exact ⟨bH.ca C44, rfl, rfl, rfl, rfl, rfl, (Rg.cn ch38).cn ch42, (Rr.cn ch38).cn ch42, bx5.ca C45, o23.ca C45, o36.cn ch42, Ow.nil, o43, by exact ⟨dk.start (by omega) (by omega) ‹_›, rfl⟩⟩
 clear Rg Rr bx5 o23 o36 o43 bH
 rintro ⟨l_v, l, fs_v, fs, f_, g48⟩ f46 w47 ⟨bH, zs3_c1, zs10_c1, zs11_c1, zs12_c1, zs13_c1, Rg, Rr, bx5, o23, o36, o_l, o_fs, hh0⟩ back5_c1
 obtain ⟨hh, hfs⟩ := hh0
 obtain ⟨hf1, hf2⟩ := hh.rng
 obtain ⟨hf3, hf4⟩ := hh.pos
 have hf5 := hh.len
 have hfb := hP.top (by omega) hf1 hf2
 have hfb2 := hP.top (f := from_) (by omega) (by omega) (by omega)
 refine a9 (a9 (a8 rfl (mz zs3_c1 (mz zs13_c1 (lx (ab (v := v22) (i := f_) Try.underlying27 rfl rfl o23.flat rfl (by omega) (by omega)) (lx (ay (v := v22) (i := f_) am rfl o23.flat (by omega) (by omega) (by decide) rfl) (lx (fW (m := (gI (bT g.2.length (bX g r) ((ax (aw g r) r).length : Int) ([to] : List Int)) f_)) (n := 0) rfl rfl) (aa ?_))))))))
 by_cases p5_c1 : 0 < (gI (bT g.2.length (bX g r) ((ax (aw g r) r).length : Int) ([to] : List Int)) f_)
 ·
  refine ae rfl (dt p5_c1) ?_
  obtain ⟨e0, he0, hst⟩ := t6 hP hf1 hf2 ‹_›
  refine aj (ah (a9 (a8 rfl (ai 0 (aa (ah ?_))))))
  refine aN (σ := Nat × aE) (fun ⟨e, gq⟩ f w => b9 w0 gq w ∧ f 3 = v22 ∧ f 10 = v35 ∧ f 11 = l_v ∧ f 12 = fs_v ∧ f 13 = vi f_ ∧ f 14 = vi (e : Int) ∧ Sl gq (is 0) w g_v g.2 ∧ Sl gq (is 0) w r_v r ∧ Bx gq (is 1) w b3 [vi g.1, g_v] ∧ Ow gq (is 4) (is 4) w v22 (bT g.2.length (bX g r) ((ax (aw g r) r).length : Int) ([to] : List Int)) ∧ Ow gq (is 6) (is 6) w v35 (bX g r) ∧ Ow gq (is 9) (is 9) w l_v l ∧ Ow gq (is 7) (is 7) w fs_v fs ∧ (e : Int) ≤ ((List.length (bX g r) : Int) : Int) ∧ (∀ j : Nat, j < e → ¬ jb (bX g r) (bT g.2.length (bX g r) ((ax (aw g r) r).length : Int) [to]) f_ (j : Int))) (fun ⟨e, gq⟩ => Int.toNat (((List.length (bX g r) : Int) : Int) - (e : Int))) (0, g48) ?_ ?_
  · exact ⟨bH, zs3_c1, zs10_c1, zs11_c1, zs12_c1, zs13_c1, rfl, Rg, Rr, bx5, o23, o36, o_l, o_fs, by omega, by intro j hj; omega⟩
  clear Rg Rr bx5 o23 o36 o_l o_fs bH
  rintro ⟨e, g51⟩ f49 w50 ⟨bH, zs3_c1, zs10_c1, zs11_c1, zs12_c1, zs13_c1, zs14_c1, Rg, Rr, bx5, o23, o36, o_l, o_fs, hle_e, hno⟩ back7_c1
  refine a9 (a9 (a8 rfl (mz zs14_c1 (mz zs10_c1 ?_))))
  have len52 := (o36.flat).small
  refine lx (aO Try.underlying27 rfl o36.flat) (lx (bc (m := (e : Int)) (n := (List.length (bX g r) : Int)) rfl rfl) (aa ?_))
  by_cases p7_c1 : (e : Int) < (List.length (bX g r) : Int)
  ·
   refine ae rfl (dt p7_c1) ?_
   have htw := eJ (n := (g.2.length : Int)) (h := (e : Int)) (by omega) (by omega)
   obtain ⟨hx1, hx2⟩ := hof.2 _ htw.1 htw.2
   have hxb := hP.top (by omega) hx1 hx2
   refine aj (a9 (ah (a9 (a8 rfl (mz zs10_c1 (mz zs14_c1 (lo (bO (v := vi (bK (e : Int))) (aD (vals := [vi (e : Int)]) Try.func27 oH oC rfl) (kX w50 (e : Int) (by omega)) ?_))))))))
   intro w53 hb54
   replace hb54 := aG hb54 g51
   replace o36 := o36.cn hb54
   refine lx (ab (v := v35) (i := bK (e : Int)) Try.underlying27 rfl rfl o36.flat rfl (by omega) (by omega)) (lx (ay (v := v35) (i := bK (e : Int)) am rfl o36.flat (by omega) (by omega) (by decide) rfl) (ai (gI (bX g r) (bK (e : Int))) (aa (a9 (ck g51 rfl fM (by kernel_rfl) ?_)))))
   intro w56 ch55
   refine qz zs10_c1 (qz zs14_c1 ?_)
   replace o36 := o36.cn ch55
   refine qx (fun w' hw' => ab (v := v35) (i := (e : Int)) Try.underlying27 rfl rfl (o36.flat.bel hw') rfl (by omega) (by omega)) (qx (fun w' hw' => ay (v := v35) (i := (e : Int)) am rfl (o36.flat.bel hw') (by omega) (by omega) (by decide) rfl) (qz zs13_c1 (qx (fun w' hw' => cR (m := (gI (bX g r) (e : Int))) (n := f_) rfl rfl) (qm (Value.bool (decide ((gI (bX g r) (e : Int)) = f_))) ?_))))
   by_cases q44_c1 : (gI (bX g r) (e : Int)) = f_
   ·
    refine bE (v := v22) (wy (dt q44_c1)) (fun w' hw' => au zs3_c1) (bE (v := vi (gI (bX g r) (bK (e : Int)))) (wy (dt q44_c1)) (fun w' hw' => au rfl) ?_)
    replace o23 := (o23.cn hb54).cn ch55
    refine bE (v := Value.pointer (some (ba v22 1 (Int.toNat (gI (bX g r) (bK (e : Int))))))) (wy (dt q44_c1)) (fun w' hw' => ab (α := Int) (xs := bT g.2.length (bX g r) ((ax (aw g r) r).length : Int) ([to] : List Int)) (v := v22) (i := (gI (bX g r) (bK (e : Int)))) Try.underlying27 rfl rfl (o23.flat.bel hw') rfl (by omega) (by omega)) (bE (v := vi (gI (bT g.2.length (bX g r) ((ax (aw g r) r).length : Int) ([to] : List Int)) (gI (bX g r) (bK (e : Int))))) (wy (dt q44_c1)) (fun w' hw' => ay (α := Int) (xs := bT g.2.length (bX g r) ((ax (aw g r) r).length : Int) ([to] : List Int)) (v := v22) (i := (gI (bX g r) (bK (e : Int)))) am rfl (o23.flat.bel hw') (by omega) (by omega) (by decide) rfl) ?_)
    refine bE (v := v22) (wy (dt q44_c1)) (fun w' hw' => au zs3_c1) (bE (v := vi f_) (wy (dt q44_c1)) (fun w' hw' => au zs13_c1) (bE (v := Value.pointer (some (ba v22 1 (Int.toNat f_)))) (wy (dt q44_c1)) (fun w' hw' => ab (α := Int) (xs := bT g.2.length (bX g r) ((ax (aw g r) r).length : Int) ([to] : List Int)) (v := v22) (i := f_) Try.underlying27 rfl rfl (o23.flat.bel hw') rfl (by omega) (by omega)) ?_))
    refine bE (v := vi (gI (bT g.2.length (bX g r) ((ax (aw g r) r).length : Int) ([to] : List Int)) f_)) (wy (dt q44_c1)) (fun w' hw' => ay (α := Int) (xs := bT g.2.length (bX g r) ((ax (aw g r) r).length : Int) ([to] : List Int)) (v := v22) (i := f_) am rfl (o23.flat.bel hw') (by omega) (by omega) (by decide) rfl) (bE (v := vi ((gI (bT g.2.length (bX g r) ((ax (aw g r) r).length : Int) ([to] : List Int)) f_) - 1)) (wy (dt q44_c1)) (fun w' hw' => eR (m := (gI (bT g.2.length (bX g r) ((ax (aw g r) r).length : Int) ([to] : List Int)) f_)) (n := 1) rfl rfl (by omega)) ?_)
    refine bE (v := Value.bool (decide ((gI (bT g.2.length (bX g r) ((ax (aw g r) r).length : Int) ([to] : List Int)) (gI (bX g r) (bK (e : Int)))) = ((gI (bT g.2.length (bX g r) ((ax (aw g r) r).length : Int) ([to] : List Int)) f_) - 1)))) (wy (dt q44_c1)) (fun w' hw' => cR (m := (gI (bT g.2.length (bX g r) ((ax (aw g r) r).length : Int) ([to] : List Int)) (gI (bX g r) (bK (e : Int))))) (n := (gI (bT g.2.length (bX g r) ((ax (aw g r) r).length : Int) ([to] : List Int)) f_) - 1) rfl rfl) (qv (Value.bool (decide ((gI (bT g.2.length (bX g r) ((ax (aw g r) r).length : Int) ([to] : List Int)) (gI (bX g r) (bK (e : Int)))) = ((gI (bT g.2.length (bX g r) ((ax (aw g r) r).length : Int) ([to] : List Int)) f_) - 1)))) (fun w' hw' => aY rfl (dt q44_c1) rfl) (cV ?_))
    intro w57 hc58
    replace hc58 := aG hc58 g51
    by_cases p10_c1 : (gI (bT g.2.length (bX g r) ((ax (aw g r) r).length : Int) ([to] : List Int)) (gI (bX g r) (bK (e : Int)))) = ((gI (bT g.2.length (bX g r) ((ax (aw g r) r).length : Int) ([to] : List Int)) f_) - 1)
    ·
     refine ae rfl (dt p10_c1) (a9 (a8 rfl (mz zs11_c1 (mz zs14_c1 (lx (hU (m := (e : Int)) (n := 2) rfl rfl (by omega) (by omega) (by omega)) (lo (aA (α := Int) g51 (is 8) (is 8) (8, 0) rfl ([(e : Int) / 2] : List Int) Try.underlying27 am (by decide) (by decide) (vs := [(0, vi ((e : Int) / 2))]) rfl rfl (.cons rfl .nil) ?_)))))))
     intro g59 w60 v61 ch62 o63
     refine lo ?_
     have C64 := cg [] (hb54.n.seq (ch55.n.seq (hc58.n.seq ch62.n)))
     replace o_l := o_l.ca C64
     refine aR (α := Int) (xs := l) (ys := ([(e : Int) / 2] : List Int)) g59 (J := is 9) (S := is 9) (9, 0) rfl Try.underlying27 am (by decide) rfl rfl rfl o_l o63.flat (by decide) (by (simp; omega)) ?_
     intro g65 w66 v67 ch68 o69
     clear o_l
     refine ma v67 (aa (a9 ?_))
     clear o63
     refine a8 rfl (mz zs12_c1 (mi (gI (bX g r) (bK (e : Int))) (lo (aA (α := Int) g65 (is 10) (is 10) (10, 0) rfl ([(gI (bX g r) (bK (e : Int)))] : List Int) Try.underlying27 am (by decide) (by decide) (vs := [(0, vi (gI (bX g r) (bK (e : Int))))]) rfl rfl (.cons rfl .nil) ?_))))
     intro g70 w71 v72 ch73 o74
     refine lo ?_
     have C75 := cg [9] (hb54.n.seq (ch55.n.seq (hc58.n.seq (ch62.n.seq ((ch68.l rfl).seq ch73.n)))))
     replace o_fs := o_fs.ca C75
     refine aR (α := Int) (xs := fs) (ys := ([(gI (bX g r) (bK (e : Int)))] : List Int)) g70 (J := is 7) (S := is 7) (7, 0) rfl Try.underlying27 am (by decide) rfl rfl rfl o_fs o74.flat (by decide) (by (simp; omega)) ?_
     intro g76 w77 v78 ch79 o80
     clear o_fs
     refine ma v78 (aa (a9 ?_))
     clear o74
     refine a8 rfl (mi (gI (bX g r) (bK (e : Int))) (ai (gI (bX g r) (bK (e : Int))) (aa (aI rfl (ao ?_)))))
     have C82 := cg [7, 9] (hc58.n.seq (ch62.n.seq ((ch68.l rfl).seq (ch73.n.seq (ch79.l rfl)))))
     have C81 := hb54.n.seq (ch55.n.seq C82)
     refine back5_c1 (v67, (l ++ ([(e : Int) / 2] : List Int)), v78, (fs ++ ([(gI (bX g r) (bK (e : Int)))] : List Int)), (gI (bX g r) (bK (e : Int))), g76) _ _ ⟨bH.ca C81, zs3_c1, zs10_c1, rfl, rfl, rfl, Rg.ca C81, Rr.ca C81, bx5.ca C81, o23.ca C82, o36.ca C82, (o69.cn ch73).ce ch79, o80, ?_⟩ ?_
     · show dk (l ++ ([(e : Int) / 2] : List Int)) (gI (bX g r) (bK (e : Int))) g.2.length (bX g r) ((ax (aw g r) r).length : Int) (bT g.2.length (bX g r) ((ax (aw g r) r).length : Int) [to]) from_ to ∧ (fs ++ ([(gI (bX g r) (bK (e : Int)))] : List Int)).length = (l ++ ([(e : Int) / 2] : List Int)).length + 1
       exact ⟨(hh.half hof hP ‹_› (by omega) ⟨by assumption, by assumption⟩ hno).1, by simp; omega⟩
     · show Int.toNat (gI (bT g.2.length (bX g r) ((ax (aw g r) r).length : Int) [to]) (gI (bX g r) (bK (e : Int)))) < Int.toNat (gI (bT g.2.length (bX g r) ((ax (aw g r) r).length : Int) [to]) f_)
       (have h8 := (hh.half hof hP ‹_› (by omega) ⟨by assumption, by assumption⟩ hno).2
        omega)
    refine ag rfl (df p10_c1) (aj (ao (a8 rfl (mz zs14_c1 (lx (aQ (m := (e : Int)) (n := 1) rfl rfl (by omega)) (ai ((e : Int) + 1) (aa ?_)))))))
    have C83 := cg [] (hb54.n.seq (ch55.n.seq hc58.n))
    refine back7_c1 (e + 1, g51) _ _ ⟨bH.ca C83, zs3_c1, zs10_c1, zs11_c1, zs12_c1, zs13_c1, rfl, Rg.ca C83, Rr.ca C83, bx5.ca C83, o23.cn hc58, o36.cn hc58, o_l.ca C83, o_fs.ca C83, by omega, ?_⟩ ?_
    · show ∀ j : Nat, j < (e + 1) → ¬ jb (bX g r) (bT g.2.length (bX g r) ((ax (aw g r) r).length : Int) [to]) f_ (j : Int)
      intro j hj
      by_cases e9 : j = e
      · subst e9
        exact fun h => absurd h.2 ‹_›
      · exact hno j (by omega)
    · show Int.toNat (((List.length (bX g r) : Int) : Int) - ((e + 1) : Int)) < Int.toNat (((List.length (bX g r) : Int) : Int) - (e : Int))
      omega
   refine bv (wn (df q44_c1)) (bv (wn (df q44_c1)) (bv (wn (df q44_c1)) (bv (wn (df q44_c1)) (bv (wn (df q44_c1)) (bv (wn (df q44_c1)) (bv (wn (df q44_c1)) (bv (wn (df q44_c1)) (bv (wn (df q44_c1)) (bv (wn (df q44_c1)) ?_)))))))))
   refine qv (Value.bool false) (fun w' hw' => b7 rfl (df q44_c1) rfl) (cV ?_)
   intro w84 hc85
   replace hc85 := aG hc85 g51
   refine ag rfl rfl (aj (ao (a8 rfl (mz zs14_c1 (lx (aQ (m := (e : Int)) (n := 1) rfl rfl (by omega)) (ai ((e : Int) + 1) (aa ?_)))))))
   have C86 := cg [] (hb54.n.seq (ch55.n.seq hc85.n))
   refine back7_c1 (e + 1, g51) _ _ ⟨bH.ca C86, zs3_c1, zs10_c1, zs11_c1, zs12_c1, zs13_c1, rfl, Rg.ca C86, Rr.ca C86, bx5.ca C86, o23.ca C86, o36.cn hc85, o_l.ca C86, o_fs.ca C86, by omega, ?_⟩ ?_
   · show ∀ j : Nat, j < (e + 1) → ¬ jb (bX g r) (bT g.2.length (bX g r) ((ax (aw g r) r).length : Int) [to]) f_ (j : Int)
     intro j hj
     by_cases e9 : j = e
     · subst e9
       exact fun h => absurd h.1 ‹_›
     · exact hno j (by omega)
   · show Int.toNat (((List.length (bX g r) : Int) : Int) - ((e + 1) : Int)) < Int.toNat (((List.length (bX g r) : Int) : Int) - (e : Int))
     omega
  refine ag rfl (df p7_c1) (aI rfl (ao ?_))
  refine back5_c1 (l_v, l, fs_v, fs, f_, g51) _ _ ⟨bH, zs3_c1, zs10_c1, zs11_c1, zs12_c1, zs13_c1, Rg, Rr, bx5, o23, o36, o_l, o_fs, ?_⟩ ?_
  · show dk l f_ g.2.length (bX g r) ((ax (aw g r) r).length : Int) (bT g.2.length (bX g r) ((ax (aw g r) r).length : Int) [to]) from_ to ∧ fs.length = l.length + 1
    exact absurd hst (hno e0 (by omega))
  · show Int.toNat (gI (bT g.2.length (bX g r) ((ax (aw g r) r).length : Int) [to]) f_) < Int.toNat (gI (bT g.2.length (bX g r) ((ax (aw g r) r).length : Int) [to]) f_)
    exact absurd hst (hno e0 (by omega))
 refine ag rfl (df p5_c1) (aI rfl (a9 ?_))
 clear o36
 refine a8 rfl (mz zs11_c1 (mz zs12_c1 (ma l_v (ma fs_v (aa (av (vs := [l_v, fs_v]) Try.func86 (.tmp rfl (.tmp rfl .nil)) ?_))))))
 refine ⟨vt [l_v, fs_v], rfl, ?_⟩
 refine mv (vt [l_v, fs_v]) (lx (aH rfl rfl) (lx (aH rfl rfl) (ma l_v (ma fs_v (aa (a9 ?_))))))
 clear bx5 o23 o_fs
 refine a8 rfl (mv l_v (ma l_v (ai 0 (aa (av (vs := [l_v, vi 0]) Try.func44 (.tmp rfl (.tmp rfl .nil)) ?_)))))
 have e0 : (l : List Int) = ((bB g r from_ to).1) := by
   (rw [jv hFe (by rw [hFe1]; omega) (by rw [hFe1, hOe1]; exact p5), hFe1, hOe1]; exact hh.end_ hP p5_c1)
 have e1 : (0 : Int) = ((bB g r from_ to).2) := by
   rw [jv hFe (by rw [hFe1]; omega) (by rw [hFe1, hOe1]; exact p5)]
 exact ⟨(fin w0 g48 (fun n => if n = 9 then 1 else 0), l_v), (ci (a := l) (b := 0) (fun (z0 : List Int) (z1 : Int) => Ending.returned (vt [l_v, vi z1])) e0 e1), bH.fresh _, (e0 ▸ (o_l.glue (γ := c0) (ren := (fun n => if n = 9 then 1 else 0)) (k := 1) bH.col rfl rfl))⟩
end TL
