import Derived.Test.YtilohhkbelkmdaaTlP3
import Derived.Test.YtilohhkbelkmdaaTlGenA
import Derived.Test.YtilohhkbelkmdaaTlGenQ
import Derived.Test.YtilohhkbelkmdaaTlGenX
import Derived.Test.YtilohhkbelkmdaaTlGenI
import Derived.Test.YtilohhkbelkmdaaProg
set_option linter.all false
set_option maxRecDepth 20000
namespace TL
open Go Go.Proofs
theorem uJ : Try.prog.follows .mixedOrders = true := by kernel_rfl
theorem oH : Try.f27.body.isNone = false := rfl
theorem oC : (Try.f27.name == "runtime.NumGoroutine") = false := by decide +kernel
theorem kR : Try.f29.body.isNone = false := rfl
theorem lB : (Try.f29.name == "runtime.NumGoroutine") = false := by decide +kernel
theorem wj : Try.f31.body.isNone = false := rfl
theorem vB : (Try.f31.name == "runtime.NumGoroutine") = false := by decide +kernel
theorem vP : Try.f72.body.isNone = false := rfl
theorem wm : (Try.f72.name == "runtime.NumGoroutine") = false := by decide +kernel
theorem s4 (w0 : World) (g : (Int) × (List ((Int) × (Int)))) (g_v : Value) (hg_v : Ro w0 g_v g.2) (r : bj) (r_v : Value) (hr_v : Ro w0 r_v r) (hmay : bx g) (hr : cf g r) :
    Calls Try.prog 72 #[vg [vi g.1, g_v], r_v] w0 (fun ee w => ∃ xx : aE × Value, ee = .returned ((fun ⟨δ, rv0⟩ => rv0) xx) ∧ (fun (⟨δ, rv0⟩ : aE × Value) (w : World) => cC w0 δ w ∧ Ow δ (is 1) (is 1) w rv0 (aw g r)) xx w) := by
 refine az Try.func72 rfl (Nat.le_of_ble_eq_true rfl) ?_
 have bH := b9.start w0
 have Rg := hg_v.sl
 have Rr := hr_v.sl
 have hm0 := hmay
 obtain ⟨hm1, hm2, hm3, hm4⟩ := hm0
 have hrl := hr.1
 refine a9 (a8 rfl (cr rfl (bR c0 (is 1) (1, 0) rfl rfl ?_)))
 intro g4 w1 b3 ch2 bx5
 replace bx5 : Bx g4 (is 1) w1 b3 [vi g.1, g_v] := bx5
 refine ma vn (aa (a9 (a8 rfl (lx (ad Try.underlying24 rfl rfl rfl rfl) (lx (af bo rfl bx5 rfl) ?_)))))
 replace Rg := Rg.cn ch2
 have len6 := (Rg).small
 refine lx (aO Try.underlying22 rfl Rg) (lx (du (m := 2) (n := (g.2.length : Int)) rfl rfl (by omega)) (lo (dE (α := Int) (l := 2 * (g.2.length : Int)) (cp := 2 * (g.2.length : Int)) g4 (is 2) (is 2) (2, 0) rfl (0 : Int) Try.underlying27 am rfl rfl rfl (by omega) (by omega) (by omega) (by omega) ?_)))
 intro g7 w8 v9 ch10 o11 _
 refine ma v9 (aa (a9 (a9 ?_)))
 clear bx5
 refine a8 rfl (ai 0 (aa (ah ?_)))
 refine aN (σ := Nat × (List Int) × aE) (fun ⟨v, behind, gq⟩ f w => b9 w0 gq w ∧ f 1 = r_v ∧ f 5 = v9 ∧ f 6 = vi (v : Int) ∧ Sl gq (is 0) w g_v g.2 ∧ Sl gq (is 0) w r_v r ∧ Ow gq (is 2) (is 2) w v9 behind ∧ (v : Int) ≤ ((r.length : Int) : Int) ∧ (fE behind g r v 0)) (fun ⟨v, behind, gq⟩ => Int.toNat (((r.length : Int) : Int) - (v : Int))) (0, (List.replicate (Int.toNat (2 * (g.2.length : Int))) (0 : Int)), g7) ?_ ?_
 replace bH := bH.cn ch2
 · exact ⟨bH.cn ch10, rfl, rfl, rfl, Rg.cn ch10, (Rr.cn ch2).cn ch10, o11, by omega, by exact fE.start g r⟩
 clear Rg Rr o11 bH
 rintro ⟨v, behind, g14⟩ f12 w13 ⟨bH, zs1, zs5, zs6, Rg, Rr, o11, hle_v, hinv⟩ back3
 have hbl := hinv.len
 refine a9 (a9 (a8 rfl (mz zs6 (mz zs1 ?_))))
 have len15 := (Rr).small
 refine lx (aO Try.underlying26 rfl Rr) (lx (bc (m := (v : Int)) (n := (r.length : Int)) rfl rfl) (aa ?_))
 by_cases p3 : (v : Int) < (r.length : Int)
 ·
  refine ae rfl (dt p3) (aj (a9 (ah (a9 (a8 rfl (ai 0 (aa (ah ?_))))))))
  refine aN (σ := Nat × (List Int) × aE) (fun ⟨k, behind, gq⟩ f w => b9 w0 gq w ∧ f 1 = r_v ∧ f 5 = v9 ∧ f 6 = vi (v : Int) ∧ f 7 = vi (k : Int) ∧ Sl gq (is 0) w g_v g.2 ∧ Sl gq (is 0) w r_v r ∧ Ow gq (is 2) (is 2) w v9 behind ∧ (k : Int) ≤ ((List.length (gI r (v : Int)) : Int) : Int) ∧ (fE behind g r v k)) (fun ⟨k, behind, gq⟩ => List.length (gI r (v : Int)) - k) (0, behind, g14) ?_ ?_
  · exact ⟨bH, zs1, zs5, zs6, rfl, Rg, Rr, o11, by omega, by exact hinv⟩
  clear Rg Rr o11 bH
  rintro ⟨k, behind, g18⟩ f16 w17 ⟨bH, zs1, zs5, zs6, zs7, Rg, Rr, o11, hle_k, hin⟩ back6
  have hbl := hin.len
  refine a9 (a9 (a8 rfl (mz zs7 (mz zs1 (mz zs6 (lx (ab (v := r_v) (i := (v : Int)) Try.underlying26 rfl rfl Rr rfl (by omega) (by omega)) ?_))))))
  obtain ⟨v19, cel20, r21⟩ := co (r := (v : Int)) Rr (by omega) (by omega)
  refine lx (aS aL rfl cel20) ?_
  have len22 := (r21).small
  refine lx (aO Try.underlying27 rfl r21) (lx (bc (m := (k : Int)) (n := (List.length (gI r (v : Int)) : Int)) rfl rfl) (aa ?_))
  by_cases p6 : (k : Int) < (List.length (gI r (v : Int)) : Int)
  ·
   refine ae rfl (dt p6) ?_
   have hh := (hr.2.1 v (by omega) _ (bu (xs := gI r (v : Int)) (i := (k : Int)) (by omega) ‹_›)).1
   have he1 := Int.emod_nonneg ((k : Int) + 1) (show ((gI r (v : Int)).length : Int) ≠ 0 by omega)
   have he2 := Int.emod_lt_of_pos ((k : Int) + 1) (show (0 : Int) < ((gI r (v : Int)).length : Int) by omega)
   have hrw := mU hr (k := v) ‹_›
   refine aj (a9 (ah ?_))
   clear r21
   refine ch g18 [0, 1, 2, 3, 4, 5, 6, 7, 8, 9, 10, 11, 12, 13, 14, 15, 16, 17, 18, 19, 20, 21, 22] uJ ?_
   intro w24 ch23
   refine xp (v := v9) 0 rfl (fun w => au zs5) (xp (v := r_v) 1 rfl (fun w => au zs1) (xp (v := vi (v : Int)) 2 rfl (fun w => au zs6) ?_))
   replace Rr := Rr.cn ch23
   refine xv 3 [2, 1, 0, 5, 8, 9, 12, 14, 15, 10, 13, 16, 11, 17, 18, 19, 20, 21] rfl (ab (v := r_v) (i := (v : Int)) Try.underlying26 rfl rfl Rr rfl (by omega) (by omega)) ?_
   obtain ⟨v25, cel26, r27⟩ := co (r := (v : Int)) Rr (by omega) (by omega)
   refine xv 4 [3, 2, 1, 0, 5, 8, 9, 12, 14, 15, 10, 13, 16, 11, 17, 18, 19, 20, 21] rfl (aS aL rfl cel26) (xp (v := vi (k : Int)) 5 rfl (fun w => au zs7) (xv 6 [5, 4, 3, 2, 1, 0, 8, 9, 12, 14, 15, 10, 13, 16, 11, 17, 18, 19, 20, 21] rfl (ab (v := v25) (i := (k : Int)) Try.underlying27 rfl rfl r27 rfl (by omega) (by omega)) (xv 7 [6, 5, 4, 3, 2, 1, 0, 8, 9, 12, 14, 15, 10, 13, 16, 11, 17, 18, 19, 20, 21] rfl (ay (v := v25) (i := (k : Int)) am rfl r27 (by omega) (by omega) (by decide) rfl) (xp (v := r_v) 8 rfl (fun w => au zs1) (xp (v := vi (v : Int)) 9 rfl (fun w => au zs6) (xv 10 [9, 8, 7, 6, 5, 4, 3, 2, 1, 0, 12, 14, 15, 13, 16, 17, 18, 19] rfl (ab (v := r_v) (i := (v : Int)) Try.underlying26 rfl rfl Rr rfl (by omega) (by omega)) ?_))))))
   obtain ⟨v28, cel29, r30⟩ := co (r := (v : Int)) Rr (by omega) (by omega)
   refine xv 11 [10, 9, 8, 7, 6, 5, 4, 3, 2, 1, 0, 12, 14, 15, 13, 16, 17, 18, 19] rfl (aS aL rfl cel29) (xp (v := vi (k : Int)) 12 rfl (fun w => au zs7) (xp 13 rfl (fun w => aQ (m := (k : Int)) (n := 1) rfl rfl (by omega)) (xp (v := r_v) 14 rfl (fun w => au zs1) (xp (v := vi (v : Int)) 15 rfl (fun w => au zs6) (xv 16 [15, 14, 13, 12, 11, 10, 9, 8, 7, 6, 5, 4, 3, 2, 1, 0] rfl (ab (v := r_v) (i := (v : Int)) Try.underlying26 rfl rfl Rr rfl (by omega) (by omega)) ?_)))))
   obtain ⟨v31, cel32, r33⟩ := co (r := (v : Int)) Rr (by omega) (by omega)
   refine xv 17 [16, 15, 14, 13, 12, 11, 10, 9, 8, 7, 6, 5, 4, 3, 2, 1, 0] rfl (aS aL rfl cel32) (xp 18 rfl (fun w => aO Try.underlying27 rfl r33) (xp 19 rfl (fun w => eT (m := (k : Int) + 1) (n := (List.length (gI r (v : Int)) : Int)) rfl rfl (by omega) (by omega)) (xv 20 [19, 18, 17, 16, 15, 14, 13, 12, 11, 10, 9, 8, 7, 6, 5, 4, 3, 2, 1, 0] rfl (ab (v := v28) (i := ((k : Int) + 1) % (List.length (gI r (v : Int)) : Int)) Try.underlying27 rfl rfl r30 rfl (by omega) (by omega)) (xv 21 [20, 19, 18, 17, 16, 15, 14, 13, 12, 11, 10, 9, 8, 7, 6, 5, 4, 3, 2, 1, 0] rfl (ay (v := v28) (i := ((k : Int) + 1) % (List.length (gI r (v : Int)) : Int)) am rfl r30 (by omega) (by omega) (by decide) rfl) ?_))))
   replace o11 := o11.cn ch23
   refine xv 22 [21, 20, 19, 18, 17, 16, 15, 14, 13, 12, 11, 10, 9, 8, 7, 6, 5, 4, 3, 2, 1, 0] rfl (ab (v := v9) (i := (gI (gI r (v : Int)) (k : Int))) Try.underlying27 rfl rfl o11.flat rfl (by omega) (by omega)) (bM 23 rfl (by kernel_rfl) rfl (bP (i := (gI (gI r (v : Int)) (k : Int))) (gI (gI r (v : Int)) (((k : Int) + 1) % (List.length (gI r (v : Int)) : Int))) am rfl rfl o11 (by omega) (by omega) rfl ?_))
   intro w34 ch35 bx36
   clear o11
   refine cO (by kernel_rfl) (ao ?_)
   clear r27 r30 r33
   refine a8 rfl (mz zs7 (lx (aQ (m := (k : Int)) (n := 1) rfl rfl (by omega)) (ai ((k : Int) + 1) (aa ?_))))
   replace bH := bH.cn ch23
   refine back6 (k + 1, (List.set behind (Int.toNat (gI (gI r (v : Int)) (k : Int))) (gI (gI r (v : Int)) (((k : Int) + 1) % (List.length (gI r (v : Int)) : Int)))), g18) _ _ ⟨bH.ce ch35, zs1, zs5, zs6, rfl, (Rg.cn ch23).ce ch35, Rr.ce ch35, bx36, by omega, ?_⟩ ?_
   · show fE (List.set behind (Int.toNat (gI (gI r (v : Int)) (k : Int))) (gI (gI r (v : Int)) (((k : Int) + 1) % (List.length (gI r (v : Int)) : Int)))) g r v (k + 1)
     exact hin.next hr ‹_› ‹_›
   · show List.length (gI r (v : Int)) - (k + 1) < List.length (gI r (v : Int)) - k
     omega
  refine ag rfl (df p6) (aI rfl (ao ?_))
  clear r21
  refine a8 rfl (mz zs6 (lx (aQ (m := (v : Int)) (n := 1) rfl rfl (by omega)) (ai ((v : Int) + 1) (aa ?_))))
  refine back3 (v + 1, behind, g18) _ _ ⟨bH, zs1, zs5, rfl, Rg, Rr, o11, by omega, ?_⟩ ?_
  · show fE behind g r (v + 1) 0
    exact hin.row_done ‹_›
  · show Int.toNat (((r.length : Int) : Int) - ((v + 1) : Int)) < Int.toNat (((r.length : Int) : Int) - (v : Int))
    omega
 refine ag rfl (df p3) (aI rfl (a9 (a8 rfl (mz zs5 ?_))))
 have len37 := (o11.flat).small
 refine lx (aO Try.underlying27 rfl o11.flat) (lo (dE (α := Int) (l := (behind.length : Int)) (cp := (behind.length : Int)) g14 (is 3) (is 3) (3, 0) rfl (0 : Int) Try.underlying27 am rfl rfl rfl (by omega) (by omega) (by omega) (by omega) ?_))
 intro g38 w39 v40 ch41 o42 _
 refine ma v40 (aa (a9 (a9 (a8 rfl (ai 0 (aa (ah ?_)))))))
 refine aN (σ := Nat × (List Int) × aE) (fun ⟨h, next, gq⟩ f w => b9 w0 gq w ∧ f 5 = v9 ∧ f 8 = v40 ∧ f 9 = vi (h : Int) ∧ Sl gq (is 0) w g_v g.2 ∧ Sl gq (is 0) w r_v r ∧ Ow gq (is 2) (is 2) w v9 behind ∧ Ow gq (is 3) (is 3) w v40 next ∧ (iM next g r h)) (fun ⟨h, next, gq⟩ => 2 * List.length g.2 - h) (0, (List.replicate (Int.toNat (behind.length : Int)) (0 : Int)), g38) ?_ ?_
 · exact ⟨bH.cn ch41, zs5, rfl, rfl, Rg.cn ch41, Rr.cn ch41, o11.cn ch41, o42, by exact iM.start (by omega)⟩
 clear Rg Rr o11 o42 bH
 rintro ⟨h, next, g45⟩ f43 w44 ⟨bH, zs5, zs8, zs9, Rg, Rr, o11, o42, hne⟩ back11
 have hnl := hne.1
 refine a9 (a9 (a8 rfl (mz zs9 (mz zs8 ?_))))
 have len46 := (o42.flat).small
 refine lx (aO Try.underlying27 rfl o42.flat) (lx (bc (m := (h : Int)) (n := (next.length : Int)) rfl rfl) (aa ?_))
 by_cases p11 : (h : Int) < (next.length : Int)
 ·
  refine ae rfl (dt p11) ?_
  obtain ⟨ht1, ht2⟩ := eJ (n := (g.2.length : Int)) (h := (h : Int)) (by omega) (by omega)
  refine aj (a9 (ah (a8 rfl (mz zs8 (mz zs9 (mz zs5 (mz zs9 (lo (bO (v := vi (bK (h : Int))) (aD (vals := [vi (h : Int)]) Try.func27 oH oC rfl) (kX w44 (h : Int) (by omega)) ?_)))))))))
  intro w47 hb48
  replace hb48 := aG hb48 g45
  replace o11 := o11.cn hb48
  refine lx (ab (v := v9) (i := bK (h : Int)) Try.underlying27 rfl rfl o11.flat rfl (by omega) (by omega)) (lx (ay (v := v9) (i := bK (h : Int)) am rfl o11.flat (by omega) (by omega) (by decide) rfl) ?_)
  replace o42 := o42.cn hb48
  refine lx (ab (v := v40) (i := (h : Int)) Try.underlying27 rfl rfl o42.flat rfl (by omega) (by omega)) (lo (bP (i := (h : Int)) (gI behind (bK (h : Int))) am rfl rfl o42 (by omega) (by omega) rfl ?_))
  intro w49 ch50 bx51
  clear o42
  refine aa (ao (a8 rfl (mz zs9 (lx (aQ (m := (h : Int)) (n := 1) rfl rfl (by omega)) (ai ((h : Int) + 1) (aa ?_))))))
  replace bH := bH.cn hb48
  refine back11 (h + 1, (List.set next (Int.toNat (h : Int)) (gI behind (bK (h : Int)))), g45) _ _ ⟨bH.ce ch50, zs5, zs8, rfl, (Rg.cn hb48).ce ch50, (Rr.cn hb48).ce ch50, o11.ce ch50, bx51, ?_⟩ ?_
  · show iM (List.set next (Int.toNat (h : Int)) (gI behind (bK (h : Int)))) g r (h + 1)
    exact hne.next (by omega) (hinv.done hr ‹_› (by omega) (by omega))
  · show 2 * List.length g.2 - (h + 1) < 2 * List.length g.2 - h
    omega
 refine ag rfl (df p11) (aI rfl (a9 ?_))
 clear o11
 refine a8 rfl (mz zs8 (ma v40 (aa (av (vs := [v40]) Try.func72 (.tmp rfl .nil) ?_))))
 have e0 : (next : List Int) = (aw g r) := by
   exact hne.done ‹_›
 exact ⟨(fin w0 g45 (fun n => if n = 3 then 1 else 0), v40), (congrArg (a₁ := next) (fun (z0 : List Int) => Ending.returned (v40)) e0), bH.fresh _, (e0 ▸ (o42.glue (γ := c0) (ren := (fun n => if n = 3 then 1 else 0)) (k := 1) bH.col rfl rfl))⟩
theorem gy (w0 : World) (g : (Int) × (List ((Int) × (Int)))) (g_v : Value) (hg_v : Ro w0 g_v g.2) (r : bj) (r_v : Value) (hr_v : Ro w0 r_v r) (hmay : bx g) (hr : cf g r) :
    Calls Try.prog 29 #[vg [vi g.1, g_v], r_v] w0 (fun ee w => ∃ xx : aE × Value, ee = .returned ((fun ⟨δ, rv0⟩ => rv0) xx) ∧ (fun (⟨δ, rv0⟩ : aE × Value) (w : World) => cC w0 δ w ∧ cj δ 1 w rv0 (ax (aw g r) r)) xx w) := by
 refine az Try.func29 rfl (Nat.le_of_ble_eq_true rfl) ?_
 have bH := b9.start w0
 have Rg := hg_v.sl
 have Rr := hr_v.sl
 have hm0 := hmay
 obtain ⟨hm1, hm2, hm3, hm4⟩ := hm0
 have hrl := hr.1
 have hnx := dW g r
 refine a9 (a8 rfl (cr rfl (bR c0 (is 1) (1, 0) rfl rfl ?_)))
 intro g4 w1 b3 ch2 bx5
 replace bx5 : Bx g4 (is 1) w1 b3 [vi g.1, g_v] := bx5
 refine ma vn (aa (a9 (a8 rfl (lx (aq (ds := [vi g.1, g_v]) ak rfl bx5 rfl rfl) (mv r_v ?_)))))
 replace Rg := Rg.cn ch2
 replace Rr := Rr.cn ch2
 refine lo (aV (aD (vals := [vg [vi g.1, g_v], r_v]) Try.func72 vP wm rfl) (s4 w1 g g_v (Rg).ro r r_v (Rr).ro ‹_› ‹_›) ?_)
 rintro ⟨d7, v9⟩ w6 ⟨fr8, o10⟩
 obtain ⟨g11, ch12, G11⟩ := dw g4 fr8 (fun n => if n = 1 then 2 else 0)
 replace o10 := o10.gl G11 2
 refine ma v9 (aa (a9 (a8 rfl (mv v9 ?_))))
 have len13 := (o10.flat).small
 refine lx (aO Try.underlying27 rfl o10.flat) (lo (dE (α := Bool) (l := (List.length (aw g r) : Int)) (cp := (List.length (aw g r) : Int)) g11 (is 3) (is 3) (3, 0) rfl false Try.underlying75 fu rfl rfl rfl (by omega) (by omega) (by omega) (by omega) ?_))
 intro g14 w15 v16 ch17 o18 _
 refine ma v16 (aa (a9 (a8 rfl (ma vn (aa (a9 (a9 (a8 rfl (ai 0 (aa (ah ?_)))))))))))
 refine aN (σ := Nat × Value × bj × (List Bool) × aE) (fun ⟨h, l_v, l, seen, gq⟩ f w => b9 w0 gq w ∧ f 1 = r_v ∧ f 2 = vp b3 0 ∧ f 5 = v9 ∧ f 6 = v16 ∧ f 7 = l_v ∧ f 8 = vi (h : Int) ∧ Sl gq (is 0) w g_v g.2 ∧ Sl gq (is 0) w r_v r ∧ Bx gq (is 1) w b3 [vi g.1, g_v] ∧ Ow gq (is 2) (is 2) w v9 (aw g r) ∧ Ow gq (is 3) (is 3) w v16 seen ∧ cj gq 7 w l_v l ∧ (h : Int) ≤ ((List.length (aw g r) : Int) : Int) ∧ (∃ S, dX seen l (aw g r) S h)) (fun ⟨h, l_v, l, seen, gq⟩ => Int.toNat (((List.length (aw g r) : Int) : Int) - (h : Int))) (0, vn, [], (List.replicate (Int.toNat (List.length (aw g r) : Int)) false), g14) ?_ ?_
 have C19 := cg [] (ch2.n.seq (ch12.n.seq ch17.n))
 · exact ⟨bH.ca C19, rfl, rfl, rfl, rfl, rfl, rfl, (Rg.cn ch12).cn ch17, (Rr.cn ch12).cn ch17, (bx5.cn ch12).cn ch17, o10.cn ch17, o18, cj.nil, by omega, by exact ⟨[], by have h := dX.start (aw g r); simpa using h⟩⟩
 clear Rg Rr bx5 o10 o18 bH
 rintro ⟨h, l_v, l, seen, g22⟩ f20 w21 ⟨bH, zs1, zs2, zs5, zs6, zs7, zs8, Rg, Rr, bx5, o10, o18, o_l, hle_h, hinv⟩ back5
 obtain ⟨S, hfa⟩ := hinv
 have hsl := hfa.rm.len
 have hll := hfa.le
 refine a9 (a9 (a8 rfl (mz zs8 (mz zs5 (lx (aO Try.underlying27 rfl o10.flat) (lx (bc (m := (h : Int)) (n := (List.length (aw g r) : Int)) rfl rfl) (aa ?_)))))))
 by_cases p5 : (h : Int) < (List.length (aw g r) : Int)
 ·
  refine ae rfl (dt p5) (aj (a9 (ah (a9 (a9 (a8 rfl (mz zs6 (mz zs8 (lx (ab (v := v16) (i := (h : Int)) Try.underlying75 rfl rfl o18.flat rfl (by omega) (by omega)) (lx (ay (v := v16) (i := (h : Int)) fu rfl o18.flat (by omega) (by omega) (by decide) rfl) (aa ?_)))))))))))
  by_cases p7 : (gI seen (h : Int)) = true
  ·
   refine ae rfl p7 (aI rfl (a8 rfl (mz zs8 (lx (aQ (m := (h : Int)) (n := 1) rfl rfl (by omega)) (ai ((h : Int) + 1) (aa ?_))))))
   refine back5 (h + 1, l_v, l, seen, g22) _ _ ⟨bH, zs1, zs2, zs5, zs6, zs7, rfl, Rg, Rr, bx5, o10, o18, o_l, by omega, ?_⟩ ?_
   · show ∃ S, dX seen l (aw g r) S (h + 1)
     exact ⟨_, hfa.no (fh.start hfa (by omega)) ‹_› (by simp) ‹_›⟩
   · show Int.toNat (((List.length (aw g r) : Int) : Int) - ((h + 1) : Int)) < Int.toNat (((List.length (aw g r) : Int) : Int) - (h : Int))
     omega
  refine ag rfl (Bool.eq_false_iff.2 p7) (aj (a9 (a8 rfl (ma vn (aa (a9 (a9 (a8 rfl (mz zs8 (ai (h : Int) (aa (ah ?_))))))))))))
  refine aN (σ := Value × (List Int) × Int × (List Bool) × aE) (fun ⟨f__v, f_, k, seen1, gq⟩ f w => b9 w0 gq w ∧ f 1 = r_v ∧ f 2 = vp b3 0 ∧ f 5 = v9 ∧ f 6 = v16 ∧ f 7 = l_v ∧ f 8 = vi (h : Int) ∧ f 9 = f__v ∧ f 10 = vi k ∧ Sl gq (is 0) w g_v g.2 ∧ Sl gq (is 0) w r_v r ∧ Bx gq (is 1) w b3 [vi g.1, g_v] ∧ Ow gq (is 2) (is 2) w v9 (aw g r) ∧ Ow gq (is 3) (is 3) w v16 seen1 ∧ cj gq 7 w l_v l ∧ Ow gq (is 5) (is 5) w f__v f_ ∧ (fh seen1 f_ (aw g r) S h k)) (fun ⟨f__v, f_, k, seen1, gq⟩ => List.length (aw g r) - List.length f_) (vn, [], (h : Int), seen, g22) ?_ ?_
  · exact ⟨bH, zs1, zs2, zs5, zs6, zs7, zs8, rfl, rfl, Rg, Rr, bx5, o10, o18, o_l, Ow.nil, by exact fh.start hfa ‹_›⟩
  clear Rg Rr bx5 o10 o18 o_l bH
  rintro ⟨f__v, f_, k, seen1, g25⟩ f23 w24 ⟨bH, zs1, zs2, zs5, zs6, zs7, zs8, zs9, zs10, Rg, Rr, bx5, o10, o18, o_l, o_f_, hor⟩ back10
  have hsl2 := hor.rm.len
  have hk0 := hor.k0
  have hk1 := hor.k1
  refine a9 (a9 (a8 rfl (mz zs6 (mz zs10 (lx (ab (v := v16) (i := k) Try.underlying75 rfl rfl o18.flat rfl (by omega) (by omega)) (lx (ay (v := v16) (i := k) fu rfl o18.flat (by omega) (by omega) (by decide) rfl) (lx (dr (b := (gI seen1 k)) rfl) (aa ?_))))))))
  by_cases p10 : (gI seen1 k) = true
  ·
   refine ag rfl (congrArg Bool.not p10) (aI rfl (a8 rfl (mz zs7 (mz zs9 (lo ?_)))))
   obtain ⟨c26, hv27⟩ := gx (u := f__v) (bm o_f_.flat)
   refine aA (α := Vc) g25 (is 6) (is 6) (6, 0) rfl [c26] Try.underlying25 aL (by decide) (by decide) (vs := [(0, f__v)]) rfl rfl (.cons (em hv27 (c6 o_f_.flat)) .nil) ?_
   intro g28 w29 v30 ch31 o32
   refine lo ?_
   replace o_l := o_l.cn ch31
   replace o_f_ := o_f_.cn ch31
   refine fy hv27 (α := Int) (xss := l) (i := 7) (γ := g28) Try.underlying25 aL rfl rfl rfl o_l (o32.flat) o_f_ rfl (by decide) (by omega) ?_
   intro g33 w34 v35 ch36 o37 r38
   clear o_l o_f_
   refine ma v35 (aa (ao ?_))
   clear o32 r38
   refine a8 rfl (mz zs8 (lx (aQ (m := (h : Int)) (n := 1) rfl rfl (by omega)) (ai ((h : Int) + 1) (aa ?_))))
   replace bH := bH.cn ch31
   refine back5 (h + 1, v35, (l ++ [f_]), seen1, g33) _ _ ⟨bH.chg ch36 (dq rfl rfl), zs1, zs2, zs5, zs6, rfl, rfl, (Rg.cn ch31).chg ch36 (dq rfl rfl), (Rr.cn ch31).chg ch36 (dq rfl rfl), (bx5.cn ch31).chg ch36 (dq rfl rfl), (o10.cn ch31).chg ch36 (dq rfl rfl) (dq rfl rfl), (o18.cn ch31).chg ch36 (dq rfl rfl) (dq rfl rfl), o37, by omega, ?_⟩ ?_
   · show ∃ S, dX seen1 (l ++ [f_]) (aw g r) S (h + 1)
     exact ⟨_, hfa.yes' hor ‹_› ‹_› ‹_›⟩
   · show Int.toNat (((List.length (aw g r) : Int) : Int) - ((h + 1) : Int)) < Int.toNat (((List.length (aw g r) : Int) : Int) - (h : Int))
     omega
  refine ae rfl (congrArg Bool.not (Bool.eq_false_iff.2 p10)) ?_
  have hni := lf hr (k := k) (by omega) (by omega)
  have hnxt := hor.next ‹_› (by omega)
  refine aj (a9 (ah (a9 (a8 rfl (mz zs6 (mz zs10 (lx (ab (v := v16) (i := k) Try.underlying75 rfl rfl o18.flat rfl (by omega) (by omega)) (lo (bP (i := k) true fu rfl rfl o18 (by omega) (by omega) rfl ?_)))))))))
  intro w39 ch40 bx41
  clear o18
  refine aa (a8 rfl (mz zs9 (mz zs10 (lo (aA (α := Int) g25 (is 4) (is 4) (4, 0) rfl [k] Try.underlying27 am (by decide) (by decide) (vs := [(0, vi k)]) rfl rfl (.cons rfl .nil) ?_)))))
  intro g42 w43 v44 ch45 o46
  refine lo ?_
  replace o_f_ := (o_f_.ce ch40).cn ch45
  refine aR (α := Int) (xs := f_) (ys := ([k])) g42 (J := is 5) (S := is 5) (5, 0) rfl Try.underlying27 am (by decide) rfl rfl rfl o_f_ o46.flat (by decide) (by (simp; omega)) ?_
  intro g47 w48 v49 ch50 o51
  clear o_f_
  refine ma v49 (aa (ao ?_))
  clear o46
  refine a8 rfl (mz zs5 (mz zs10 ?_))
  have C52 := cg [3, 5] ((ch40.l rfl).seq (ch45.n.seq (ch50.l rfl)))
  replace o10 := o10.ca C52
  refine lx (ab (v := v9) (i := k) Try.underlying27 rfl rfl o10.flat rfl (by omega) (by omega)) (lx (ay (v := v9) (i := k) am rfl o10.flat (by omega) (by omega) (by decide) rfl) (ai (gI (aw g r) k) (aa ?_)))
  refine back10 (v49, (f_ ++ [k]), (gI (aw g r) k), (List.set seen1 (Int.toNat k) true), g47) _ _ ⟨bH.ca C52, zs1, zs2, zs5, zs6, zs7, zs8, rfl, rfl, Rg.ca C52, Rr.ca C52, bx5.ca C52, o10, (bx41.cn ch45).ce ch50, o_l.ca C52, o51, ?_⟩ ?_
  · show fh (List.set seen1 (Int.toNat k) true) (f_ ++ [k]) (aw g r) S h (gI (aw g r) k)
    exact hnxt.1
  · show List.length (aw g r) - List.length (f_ ++ [k]) < List.length (aw g r) - List.length f_
    (have h2 := hnxt.2; simp only [List.length_append, List.length_cons, List.length_nil]; omega)
 refine ag rfl (df p5) (aI rfl (a9 (a9 ?_)))
 clear o10 o18
 refine a8 rfl (ai 0 (aa (ah ?_)))
 refine aN (σ := Value × bj × Nat × aE) (fun ⟨l_v, l, v, gq⟩ f w => b9 w0 gq w ∧ f 1 = r_v ∧ f 2 = vp b3 0 ∧ f 7 = l_v ∧ f 11 = vi (v : Int) ∧ Sl gq (is 0) w g_v g.2 ∧ Sl gq (is 0) w r_v r ∧ Bx gq (is 1) w b3 [vi g.1, g_v] ∧ cj gq 7 w l_v l ∧ (v : Int) ≤ (g.1 : Int) ∧ (l = cm (aw g r) (c7 (List.length (aw g r))) [] ++ ((List.take v r).filter fun z_ => decide (z_.length = 0)).map fun _ => [])) (fun ⟨l_v, l, v, gq⟩ => Int.toNat ((g.1 : Int) - (v : Int))) (l_v, l, 0, g22) ?_ ?_
 · exact ⟨bH, zs1, zs2, zs7, rfl, Rg, Rr, bx5, o_l, by omega, by (simp; exact hfa.done ‹_›)⟩
 clear Rg Rr bx5 o_l bH
 rintro ⟨l_v, l, v, g55⟩ f53 w54 ⟨bH, zs1, zs2, zs7, zs11, Rg, Rr, bx5, o_l, hle_v, hem⟩ back16
 have hel := mw hem
 have hfn := hfa.le
 have hfd := hfa.done ‹_›
 rw [hfd] at hfn
 refine a9 (a9 (a8 rfl (mz zs11 (lx (ad Try.underlying24 rfl rfl zs2 rfl) (lx (af am rfl bx5 rfl) (lx (bc (m := (v : Int)) (n := g.1) rfl rfl) (aa ?_)))))))
 by_cases p16 : (v : Int) < g.1
 ·
  refine ae rfl (dt p16) (aj (a9 (ah (a9 (a8 rfl (mz zs1 (mz zs11 (lx (ab (v := r_v) (i := (v : Int)) Try.underlying26 rfl rfl Rr rfl (by omega) (by omega)) ?_))))))))
  obtain ⟨v56, cel57, r58⟩ := co (r := (v : Int)) Rr (by omega) (by omega)
  refine lx (aS aL rfl cel57) ?_
  have len59 := (r58).small
  refine lx (aO Try.underlying27 rfl r58) (lx (cR (m := (List.length (gI r (v : Int)) : Int)) (n := 0) rfl rfl) (aa ?_))
  by_cases p18 : (List.length (gI r (v : Int)) : Int) = 0
  ·
   refine ae rfl (dt p18) ?_
   clear r58
   refine a8 rfl (mz zs7 (lo ?_))
   obtain ⟨c60, hv61⟩ := gx (u := vn) rfl
   refine aA (α := Vc) g55 (is 8) (is 8) (8, 0) rfl [c60] Try.underlying25 aL (by decide) (by decide) (vs := [(0, vn)]) rfl rfl (.cons (em hv61 rfl) .nil) ?_
   intro g62 w63 v64 ch65 o66
   refine lo ?_
   replace o_l := o_l.cn ch65
   refine gZ hv61 (α := Int) (xss := l) (i := 7) (γ := g62) Try.underlying25 aL rfl rfl rfl o_l (o66.flat) (by decide) (by omega) ?_
   intro g67 w68 v69 ch70 o71 
   clear o_l
   refine ma v69 (aa (ao ?_))
   clear o66
   refine a8 rfl (mz zs11 (lx (aQ (m := (v : Int)) (n := 1) rfl rfl (by omega)) (ai ((v : Int) + 1) (aa ?_))))
   replace bH := bH.cn ch65
   refine back16 (v69, (l ++ [[]]), v + 1, g67) _ _ ⟨bH.ce ch70, zs1, zs2, rfl, rfl, (Rg.cn ch65).ce ch70, (Rr.cn ch65).ce ch70, (bx5.cn ch65).ce ch70, o71, by omega, ?_⟩ ?_
   · show (l ++ [[]]) = cm (aw g r) (c7 (List.length (aw g r))) [] ++ ((List.take (v + 1) r).filter fun z_ => decide (z_.length = 0)).map fun _ => []
     exact mA (by omega) hem ‹_›
   · show Int.toNat ((g.1 : Int) - ((v + 1) : Int)) < Int.toNat ((g.1 : Int) - (v : Int))
     omega
  refine ag rfl (df p18) (aj (ao ?_))
  clear r58
  refine a8 rfl (mz zs11 (lx (aQ (m := (v : Int)) (n := 1) rfl rfl (by omega)) (ai ((v : Int) + 1) (aa ?_))))
  refine back16 (l_v, l, v + 1, g55) _ _ ⟨bH, zs1, zs2, zs7, rfl, Rg, Rr, bx5, o_l, by omega, ?_⟩ ?_
  · show l = cm (aw g r) (c7 (List.length (aw g r))) [] ++ ((List.take (v + 1) r).filter fun z_ => decide (z_.length = 0)).map fun _ => []
    exact nO (by omega) hem ‹_›
  · show Int.toNat ((g.1 : Int) - ((v + 1) : Int)) < Int.toNat ((g.1 : Int) - (v : Int))
    omega
 refine ag rfl (df p16) (aI rfl (a9 ?_))
 clear bx5
 refine a8 rfl (mz zs7 (ma l_v (aa (av (vs := [l_v]) Try.func29 (.tmp rfl .nil) ?_))))
 have e0 : (l : bj) = (ax (aw g r) r) := by
   rw [hem, List.take_of_length_le (by omega)]; rfl
 exact ⟨(fin w0 g55 (fun n => if n = 7 then 1 else 0), l_v), (congrArg (a₁ := l) (fun (z0 : bj) => Ending.returned (l_v)) e0), bH.fresh _, (e0 ▸ (o_l.glue (γ := c0) (ren := (fun n => if n = 7 then 1 else 0)) (k := 1) bH.col rfl rfl))⟩
theorem gi (w0 : World) (g : (Int) × (List ((Int) × (Int)))) (g_v : Value) (hg_v : Ro w0 g_v g.2) (r : bj) (r_v : Value) (hr_v : Ro w0 r_v r) (hmay : bx g) (hr : cf g r) :
    Calls Try.prog 26 #[vg [vi g.1, g_v], r_v] w0 (fun ee w => ∃ xx : aE × Value, ee = .returned ((fun ⟨δ, rv0⟩ => rv0) xx) ∧ (fun (⟨δ, rv0⟩ : aE × Value) (w : World) => cC w0 δ w ∧ Ow δ (is 1) (is 1) w rv0 (bX g r)) xx w) := by
 refine az Try.func26 rfl (Nat.le_of_ble_eq_true rfl) ?_
 have bH := b9.start w0
 have Rg := hg_v.sl
 have Rr := hr_v.sl
 have hm0 := hmay
 obtain ⟨hm1, hm2, hm3, hm4⟩ := hm0
 have hrl := hr.1
 refine a9 (a8 rfl (cr rfl (bR c0 (is 1) (1, 0) rfl rfl ?_)))
 intro g4 w1 b3 ch2 bx5
 replace bx5 : Bx g4 (is 1) w1 b3 [vi g.1, g_v] := bx5
 refine ma vn (aa (a9 (a8 rfl (lx (aq (ds := [vi g.1, g_v]) ak rfl bx5 rfl rfl) (mv r_v ?_)))))
 replace Rg := Rg.cn ch2
 replace Rr := Rr.cn ch2
 refine lo (aV (aD (vals := [vg [vi g.1, g_v], r_v]) Try.func29 kR lB rfl) (gy w1 g g_v (Rg).ro r r_v (Rr).ro ‹_› ‹_›) ?_)
 rintro ⟨d7, v9⟩ w6 ⟨fr8, o10⟩
 obtain ⟨g11, ch12, G11⟩ := dw g4 fr8 (fun n => if n = 1 then 2 else 0)
 replace o10 := o10.gl G11 2
 refine ma v9 (aa (a9 (a8 rfl (lx (ad Try.underlying24 rfl rfl rfl rfl) ?_))))
 replace bx5 := bx5.cn ch12
 refine lx (af bo rfl bx5 rfl) ?_
 replace Rg := Rg.cn ch12
 have len13 := (Rg).small
 refine lx (aO Try.underlying22 rfl Rg) (lx (du (m := 2) (n := (g.2.length : Int)) rfl rfl (by omega)) (lo (dE (α := Int) (l := 2 * (g.2.length : Int)) (cp := 2 * (g.2.length : Int)) g11 (is 3) (is 3) (3, 0) rfl (0 : Int) Try.underlying27 am rfl rfl rfl (by omega) (by omega) (by omega) (by omega) ?_)))
 intro g14 w15 v16 ch17 o18 _
 refine ma v16 (aa (a9 (a9 ?_)))
 clear bx5
 refine a8 rfl (ai 0 (aa (ah ?_)))
 refine aN (σ := Nat × (List Int) × aE) (fun ⟨i, of, gq⟩ f w => b9 w0 gq w ∧ f 5 = v9 ∧ f 6 = v16 ∧ f 7 = vi (i : Int) ∧ Sl gq (is 0) w g_v g.2 ∧ Sl gq (is 0) w r_v r ∧ cj gq 2 w v9 (ax (aw g r) r) ∧ Ow gq (is 3) (is 3) w v16 of ∧ (i : Int) ≤ ((List.length (ax (aw g r) r) : Int) : Int) ∧ (of = nU (ax (aw g r) r) (2 * (g.2.length : Int)) i)) (fun ⟨i, of, gq⟩ => Int.toNat (((List.length (ax (aw g r) r) : Int) : Int) - (i : Int))) (0, (List.replicate (Int.toNat (2 * (g.2.length : Int))) (0 : Int)), g14) ?_ ?_
 have C19 := cg [] (ch2.n.seq (ch12.n.seq ch17.n))
 · exact ⟨bH.ca C19, rfl, rfl, rfl, Rg.cn ch17, (Rr.cn ch12).cn ch17, o10.cn ch17, o18, by omega, by rfl⟩
 clear Rg Rr o10 o18 bH
 rintro ⟨i, of, g22⟩ f20 w21 ⟨bH, zs5, zs6, zs7, Rg, Rr, o10, o18, hle_i, hinv⟩ back4
 have hll : (of.length : Int) = 2 * (g.2.length : Int) := by rw [hinv, jA]; omega
 refine a9 (a9 (a8 rfl (mz zs7 (mz zs5 ?_))))
 have len23 := (o10.sl).small
 refine lx (aO Try.underlying25 rfl o10.sl) (lx (bc (m := (i : Int)) (n := (List.length (ax (aw g r) r) : Int)) rfl rfl) (aa ?_))
 by_cases p4 : (i : Int) < (List.length (ax (aw g r) r) : Int)
 ·
  refine ae rfl (dt p4) (aj (a9 (ah (a9 (a8 rfl (ai 0 (aa (ah ?_))))))))
  refine aN (σ := Nat × (List Int) × aE) (fun ⟨k, of, gq⟩ f w => b9 w0 gq w ∧ f 5 = v9 ∧ f 6 = v16 ∧ f 7 = vi (i : Int) ∧ f 8 = vi (k : Int) ∧ Sl gq (is 0) w g_v g.2 ∧ Sl gq (is 0) w r_v r ∧ cj gq 2 w v9 (ax (aw g r) r) ∧ Ow gq (is 3) (is 3) w v16 of ∧ (k : Int) ≤ ((List.length (gI (ax (aw g r) r) (i : Int)) : Int) : Int) ∧ (of = k8 (ax (aw g r) r) (2 * (g.2.length : Int)) i k)) (fun ⟨k, of, gq⟩ => Int.toNat (((List.length (gI (ax (aw g r) r) (i : Int)) : Int) : Int) - (k : Int))) (0, of, g22) ?_ ?_
  · exact ⟨bH, zs5, zs6, zs7, rfl, Rg, Rr, o10, o18, by omega, by rw [m0]; exact hinv⟩
  clear Rg Rr o10 o18 bH
  rintro ⟨k, of, g26⟩ f24 w25 ⟨bH, zs5, zs6, zs7, zs8, Rg, Rr, o10, o18, hle_k, hin⟩ back7
  have hll : (of.length : Int) = 2 * (g.2.length : Int) := by rw [hin, o7]; omega
  refine a9 (a9 (a8 rfl (mz zs8 (mz zs5 (mz zs7 (lx (ab (v := v9) (i := (i : Int)) Try.underlying25 rfl rfl o10.sl rfl (by omega) (by omega)) ?_))))))
  obtain ⟨v27, cel28, r29⟩ := bY (r := (i : Int)) o10 (by omega) (by omega)
  refine lx (aS aL rfl cel28) ?_
  have len30 := (r29.row_sl).small
  refine lx (aO Try.underlying27 rfl r29.row_sl) (lx (bc (m := (k : Int)) (n := (List.length (gI (ax (aw g r) r) (i : Int)) : Int)) rfl rfl) (aa ?_))
  by_cases p7 : (k : Int) < (List.length (gI (ax (aw g r) r) (i : Int)) : Int)
  ·
   refine ae rfl (dt p7) ?_
   obtain ⟨hh1, hh2⟩ := pB hr (k := i) (i := k) ‹_› ‹_›
   refine aj (a9 (ah ?_))
   clear cel28 r29
   refine a8 rfl (mz zs6 (mz zs5 (mz zs7 (lx (ab (v := v9) (i := (i : Int)) Try.underlying25 rfl rfl o10.sl rfl (by omega) (by omega)) ?_))))
   obtain ⟨v31, cel32, r33⟩ := bY (r := (i : Int)) o10 (by omega) (by omega)
   refine lx (aS aL rfl cel32) (mz zs8 (lx (ab (v := v31) (i := (k : Int)) Try.underlying27 rfl rfl r33.row_sl rfl (by omega) (by omega)) (lx (ay (v := v31) (i := (k : Int)) am rfl r33.row_sl (by omega) (by omega) (by decide) rfl) (mz zs7 (lx (ab (v := v16) (i := (gI (gI (ax (aw g r) r) (i : Int)) (k : Int))) Try.underlying27 rfl rfl o18.flat rfl (by omega) (by omega)) (lo (bP (i := (gI (gI (ax (aw g r) r) (i : Int)) (k : Int))) (i : Int) am rfl rfl o18 (by omega) (by omega) rfl ?_)))))))
   intro w34 ch35 bx36
   clear o18 cel32
   refine aa (ao ?_)
   clear r33
   refine a8 rfl (mz zs8 (lx (aQ (m := (k : Int)) (n := 1) rfl rfl (by omega)) (ai ((k : Int) + 1) (aa ?_))))
   refine back7 (k + 1, (List.set of (Int.toNat (gI (gI (ax (aw g r) r) (i : Int)) (k : Int))) (i : Int)), g26) _ _ ⟨bH.ce ch35, zs5, zs6, zs7, rfl, Rg.ce ch35, Rr.ce ch35, o10.ce ch35, bx36, by omega, ?_⟩ ?_
   · show (List.set of (Int.toNat (gI (gI (ax (aw g r) r) (i : Int)) (k : Int))) (i : Int)) = k8 (ax (aw g r) r) (2 * (g.2.length : Int)) i (k + 1)
     rw [mt _ _ _ _ ‹_›, hin]
   · show Int.toNat (((List.length (gI (ax (aw g r) r) (i : Int)) : Int) : Int) - ((k + 1) : Int)) < Int.toNat (((List.length (gI (ax (aw g r) r) (i : Int)) : Int) : Int) - (k : Int))
     omega
  refine ag rfl (df p7) (aI rfl (ao ?_))
  clear cel28 r29
  refine a8 rfl (mz zs7 (lx (aQ (m := (i : Int)) (n := 1) rfl rfl (by omega)) (ai ((i : Int) + 1) (aa ?_))))
  refine back4 (i + 1, of, g26) _ _ ⟨bH, zs5, zs6, rfl, Rg, Rr, o10, o18, by omega, ?_⟩ ?_
  · show of = nU (ax (aw g r) r) (2 * (g.2.length : Int)) (i + 1)
    rw [hin]; exact jG _ _ _ _ ‹_›
  · show Int.toNat (((List.length (ax (aw g r) r) : Int) : Int) - ((i + 1) : Int)) < Int.toNat (((List.length (ax (aw g r) r) : Int) : Int) - (i : Int))
    omega
 refine ag rfl (df p4) (aI rfl (a9 ?_))
 clear o10
 refine a8 rfl (mz zs6 (ma v16 (aa (av (vs := [v16]) Try.func26 (.tmp rfl .nil) ?_))))
 have e0 : (of : List Int) = (bX g r) := by
   have hk : i = (ax (aw g r) r).length := by omega
   simp only [bX]
   rw [hinv, hk]
 exact ⟨(fin w0 g22 (fun n => if n = 3 then 1 else 0), v16), (congrArg (a₁ := of) (fun (z0 : List Int) => Ending.returned (v16)) e0), bH.fresh _, (e0 ▸ (o18.glue (γ := c0) (ren := (fun n => if n = 3 then 1 else 0)) (k := 1) bH.col rfl rfl))⟩
end TL
