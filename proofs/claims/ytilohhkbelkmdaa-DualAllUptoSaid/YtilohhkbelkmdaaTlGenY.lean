import Derived.Test.YtilohhkbelkmdaaTlP3
import Derived.Test.YtilohhkbelkmdaaTlGenX
import Derived.Test.YtilohhkbelkmdaaProg
set_option linter.all false
set_option maxRecDepth 20000
namespace TL
open Go Go.Proofs
theorem jP : Try.f15.body.isNone = false := rfl
theorem jV : (Try.f15.name == "runtime.NumGoroutine") = false := by decide +kernel
theorem rh : Try.f87.body.isNone = false := rfl
theorem rn : (Try.f87.name == "runtime.NumGoroutine") = false := by decide +kernel
theorem rj : Try.f89.body.isNone = false := rfl
theorem rN : (Try.f89.name == "runtime.NumGoroutine") = false := by decide +kernel
theorem uH : Try.f101.body.isNone = false := rfl
theorem tj : (Try.f101.name == "runtime.NumGoroutine") = false := by decide +kernel
theorem rE (w0 : World) (g : (Int) × (List ((Int) × (Int)))) (g_v : Value) (hg_v : Ro w0 g_v g.2) (r : bj) (r_v : Value) (hr_v : Ro w0 r_v r) (hmay : bx g) (hr : cf g r) :
    Calls Try.prog 101 #[vg [vi g.1, g_v], r_v] w0 (fun ee w => ∃ xx : aE × Value, ee = .returned ((fun ⟨δ, rv0⟩ => rv0) xx) ∧ (fun (⟨δ, rv0⟩ : aE × Value) (w : World) => cC w0 δ w ∧ Ow δ (is 1) (is 1) w rv0 (aw g r)) xx w) := by
 refine az Try.func101 rfl (Nat.le_of_ble_eq_true rfl) ?_
 have bH := b9.start w0
 have Rg := hg_v.sl
 have Rr := hr_v.sl
 have hm0 := hmay
 obtain ⟨hm1, hm2, hm3, hm4⟩ := hm0
 refine a9 (a8 rfl (cr rfl (bR c0 (is 1) (1, 0) rfl rfl ?_)))
 intro g4 w1 b3 ch2 bx5
 replace bx5 : Bx g4 (is 1) w1 b3 [vi g.1, g_v] := bx5
 refine ma vn (aa (a9 (a8 rfl (lx (ad Try.underlying24 rfl rfl rfl rfl) (lx (af bo rfl bx5 rfl) ?_)))))
 replace Rg := Rg.cn ch2
 have len6 := (Rg).small
 refine lx (aO Try.underlying22 rfl Rg) (lx (du (m := 2) (n := (g.2.length : Int)) rfl rfl (by omega)) (lo (dE (α := Int) (l := 2 * (g.2.length : Int)) (cp := 2 * (g.2.length : Int)) g4 (is 2) (is 2) (2, 0) rfl (0 : Int) Try.underlying27 am rfl rfl rfl (by omega) (by omega) (by omega) (by omega) ?_)))
 intro g7 w8 v9 ch10 o11 _
 refine ma v9 (aa (a9 (a9 ?_)))
 clear bx5
 refine a8 rfl (mv r_v ?_)
 replace Rr := (Rr.cn ch2).cn ch10
 have len12 := (Rr).small
 refine lx (aO Try.underlying26 rfl Rr) (mi 0 (aa (ah ?_)))
 refine aN (σ := Nat × (List Int) × aE) (fun ⟨k, l, gq⟩ f w => b9 w0 gq w ∧ f 5 = v9 ∧ f 15 = r_v ∧ f 16 = vi (r.length : Int) ∧ f 17 = vi (k : Int) ∧ Sl gq (is 0) w g_v g.2 ∧ Sl gq (is 0) w r_v r ∧ Ow gq (is 2) (is 2) w v9 l ∧ (k : Int) ≤ ((r.length : Int) : Int) ∧ (fJ l g r k 0)) (fun ⟨k, l, gq⟩ => Int.toNat (((r.length : Int) : Int) - (k : Int))) (0, (List.replicate (Int.toNat (2 * (g.2.length : Int))) (0 : Int)), g7) ?_ ?_
 replace bH := bH.cn ch2
 · exact ⟨bH.cn ch10, rfl, rfl, rfl, rfl, Rg.cn ch10, Rr, o11, by omega, by exact fJ.start g r⟩
 clear Rg Rr o11 bH
 rintro ⟨k, l, g15⟩ f13 w14 ⟨bH, zs5, zs15, zs16, zs17, Rg, Rr, o11, hle_k, hinv⟩ back3
 have hnl := hinv.len
 refine a9 (a8 rfl (lx (bc (m := (k : Int)) (n := (r.length : Int)) zs17 zs16) (aa (a9 ?_))))
 by_cases p3 : (k : Int) < (r.length : Int)
 ·
  refine ae rfl (dt p3) (aj (a9 (ah (a9 (a8 rfl (lx (ab (v := r_v) (i := (k : Int)) Try.underlying26 rfl zs15 Rr zs17 (by omega) (by omega)) ?_))))))
  obtain ⟨v16, cel17, r18⟩ := co (r := (k : Int)) Rr (by omega) (by omega)
  refine lx (aS aL rfl cel17) (ma v16 (aa (a9 (a8 rfl (mv v16 ?_)))))
  have len19 := (r18).small
  refine lx (aO Try.underlying27 rfl r18) (mi 0 (aa (ah ?_)))
  refine aN (σ := Nat × (List Int) × aE) (fun ⟨i, l, gq⟩ f w => b9 w0 gq w ∧ f 5 = v9 ∧ f 7 = v16 ∧ f 15 = r_v ∧ f 16 = vi (r.length : Int) ∧ f 17 = vi (k : Int) ∧ f 21 = v16 ∧ f 22 = vi (List.length (gI r (k : Int)) : Int) ∧ f 23 = vi (i : Int) ∧ Sl gq (is 0) w g_v g.2 ∧ Sl gq (is 0) w r_v r ∧ Ow gq (is 2) (is 2) w v9 l ∧ Sl gq (is 0) w v16 (gI r (k : Int)) ∧ (i : Int) ≤ ((List.length (gI r (k : Int)) : Int) : Int) ∧ (fJ l g r k i)) (fun ⟨i, l, gq⟩ => Int.toNat (((List.length (gI r (k : Int)) : Int) : Int) - (i : Int))) (0, l, g15) ?_ ?_
  · exact ⟨bH, zs5, rfl, zs15, zs16, zs17, rfl, rfl, rfl, Rg, Rr, o11, r18, by omega, by exact hinv⟩
  clear Rg Rr o11 r18 bH
  rintro ⟨i, l, g22⟩ f20 w21 ⟨bH, zs5, zs7, zs15, zs16, zs17, zs21, zs22, zs23, Rg, Rr, o11, r18, hle_i, hin⟩ back6
  have hnl := hin.len
  refine a9 (a8 rfl (lx (bc (m := (i : Int)) (n := (List.length (gI r (k : Int)) : Int)) zs23 zs22) (aa (a9 ?_))))
  by_cases p6 : (i : Int) < (List.length (gI r (k : Int)) : Int)
  ·
   refine ae rfl (dt p6) ?_
   have hh := (hr.2.1 k (by omega) _ (bu (xs := gI r (k : Int)) (i := (i : Int)) (by omega) ‹_›)).1
   have htw := eJ hh.1 hh.2
   have he1 := Int.emod_nonneg ((i : Int) + 1) (show ((gI r (k : Int)).length : Int) ≠ 0 by omega)
   have he2 := Int.emod_lt_of_pos ((i : Int) + 1) (show (0 : Int) < ((gI r (k : Int)).length : Int) by omega)
   refine aj (a9 (ah (a9 (a8 rfl (mz zs23 (lx (ab (v := v16) (i := (i : Int)) Try.underlying27 rfl zs21 r18 zs23 (by omega) (by omega)) (lx (ay (v := v16) (i := (i : Int)) am rfl r18 (by omega) (by omega) (by decide) rfl) (ai (i : Int) (ai (gI (gI r (k : Int)) (i : Int)) (aa (a8 rfl ?_)))))))))))
   refine mz zs5 (mi (gI (gI r (k : Int)) (i : Int)) (lx (wI (m := (gI (gI r (k : Int)) (i : Int))) rfl rfl (by omega) (by omega)) (mz zs7 (mi (i : Int) (lx (aQ (m := (i : Int)) (n := 1) rfl rfl (by omega)) (mz zs7 (lx (aO Try.underlying27 rfl r18) (lx (eT (m := (i : Int) + 1) (n := (List.length (gI r (k : Int)) : Int)) rfl rfl (by omega) (by omega)) (lx (ab (v := v16) (i := ((i : Int) + 1) % (List.length (gI r (k : Int)) : Int)) Try.underlying27 rfl rfl r18 rfl (by omega) (by omega)) ?_)))))))))
   refine lx (ay (v := v16) (i := ((i : Int) + 1) % (List.length (gI r (k : Int)) : Int)) am rfl r18 (by omega) (by omega) (by decide) rfl) (lx (ab (v := v9) (i := bK (gI (gI r (k : Int)) (i : Int))) Try.underlying27 rfl rfl o11.flat rfl (by omega) (by omega)) (lo (bP (i := bK (gI (gI r (k : Int)) (i : Int))) (gI (gI r (k : Int)) (((i : Int) + 1) % (List.length (gI r (k : Int)) : Int))) am rfl rfl o11 (by omega) (by omega) rfl ?_)))
   intro w23 ch24 bx25
   clear o11
   refine aa (ao (a8 rfl (lx (aQ (m := (i : Int)) (n := 1) zs23 rfl (by omega)) (mi ((i : Int) + 1) (aa ?_)))))
   refine back6 (i + 1, (List.set l (Int.toNat (bK (gI (gI r (k : Int)) (i : Int)))) (gI (gI r (k : Int)) (((i : Int) + 1) % (List.length (gI r (k : Int)) : Int)))), g22) _ _ ⟨bH.ce ch24, zs5, zs7, zs15, zs16, zs17, zs21, zs22, rfl, Rg.ce ch24, Rr.ce ch24, bx25, r18.ce ch24, by omega, ?_⟩ ?_
   · show fJ (List.set l (Int.toNat (bK (gI (gI r (k : Int)) (i : Int)))) (gI (gI r (k : Int)) (((i : Int) + 1) % (List.length (gI r (k : Int)) : Int)))) g r k (i + 1)
     exact hin.next hr ‹_› ‹_›
   · show Int.toNat (((List.length (gI r (k : Int)) : Int) : Int) - ((i + 1) : Int)) < Int.toNat (((List.length (gI r (k : Int)) : Int) : Int) - (i : Int))
     omega
  refine ag rfl (df p6) (aI rfl (ao ?_))
  clear r18
  refine a8 rfl (lx (aQ (m := (k : Int)) (n := 1) zs17 rfl (by omega)) (mi ((k : Int) + 1) (aa ?_)))
  refine back3 (k + 1, l, g22) _ _ ⟨bH, zs5, zs15, zs16, rfl, Rg, Rr, o11, by omega, ?_⟩ ?_
  · show fJ l g r (k + 1) 0
    exact hin.row_done ‹_›
  · show Int.toNat (((r.length : Int) : Int) - ((k + 1) : Int)) < Int.toNat (((r.length : Int) : Int) - (k : Int))
    omega
 refine ag rfl (df p3) (aI rfl (a9 (a8 rfl (mz zs5 (ma v9 (aa (av (vs := [v9]) Try.func101 (.tmp rfl .nil) ?_)))))))
 have e0 : (l : List Int) = (aw g r) := by
   exact hinv.done hr ‹_›
 exact ⟨(fin w0 g15 (fun n => if n = 2 then 1 else 0), v9), (congrArg (a₁ := l) (fun (z0 : List Int) => Ending.returned (v9)) e0), bH.fresh _, (e0 ▸ (o11.glue (γ := c0) (ren := (fun n => if n = 2 then 1 else 0)) (k := 1) bH.col rfl rfl))⟩
theorem nH (w0 : World) (g : (Int) × (List ((Int) × (Int)))) (g_v : Value) (hg_v : Ro w0 g_v g.2) (r : bj) (r_v : Value) (hr_v : Ro w0 r_v r) (hmay : bx g) (hr : cf g r) :
    Calls Try.prog 87 #[vg [vi g.1, g_v], r_v] w0 (fun ee w => ∃ xx : aE × Value, ee = .returned ((fun ⟨δ, rv0⟩ => rv0) xx) ∧ (fun (⟨δ, rv0⟩ : aE × Value) (w : World) => cC w0 δ w ∧ cj δ 1 w rv0 (ax (aw g r) r)) xx w) := by
 refine az Try.func87 rfl (Nat.le_of_ble_eq_true rfl) ?_
 have bH := b9.start w0
 have Rg := hg_v.sl
 have Rr := hr_v.sl
 have hm0 := hmay
 obtain ⟨hm1, hm2, hm3, hm4⟩ := hm0
 have hnx := dW g r
 have hrl := hr.1
 refine a9 (a8 rfl (cr rfl (bR c0 (is 1) (1, 0) rfl rfl ?_)))
 intro g4 w1 b3 ch2 bx5
 replace bx5 : Bx g4 (is 1) w1 b3 [vi g.1, g_v] := bx5
 refine ma vn (aa (a9 (a8 rfl (lx (aq (ds := [vi g.1, g_v]) ak rfl bx5 rfl rfl) (mv r_v ?_)))))
 replace Rg := Rg.cn ch2
 replace Rr := Rr.cn ch2
 refine lo (aV (aD (vals := [vg [vi g.1, g_v], r_v]) Try.func101 uH tj rfl) (rE w1 g g_v (Rg).ro r r_v (Rr).ro ‹_› ‹_›) ?_)
 rintro ⟨d7, v9⟩ w6 ⟨fr8, o10⟩
 obtain ⟨g11, ch12, G11⟩ := dw g4 fr8 (fun n => if n = 1 then 2 else 0)
 replace o10 := o10.gl G11 2
 refine ma v9 (aa (a9 ?_))
 clear bx5
 refine a8 rfl (mv v9 ?_)
 have len13 := (o10.flat).small
 refine lx (aO Try.underlying27 rfl o10.flat) (lo (dE (α := Bool) (l := (List.length (aw g r) : Int)) (cp := (List.length (aw g r) : Int)) g11 (is 3) (is 3) (3, 0) rfl false Try.underlying75 fu rfl rfl rfl (by omega) (by omega) (by omega) (by omega) ?_))
 intro g14 w15 v16 ch17 o18 _
 refine ma v16 (aa (a9 (a8 rfl (ma vn (aa (a9 (a9 (a8 rfl (mv v9 ?_)))))))))
 replace o10 := o10.cn ch17
 refine lx (aO Try.underlying27 rfl o10.flat) (mi 0 (aa (ah ?_)))
 refine aN (σ := Value × bj × Nat × (List Bool) × aE) (fun ⟨l_v, l, q, seen, gq⟩ f w => b9 w0 gq w ∧ f 1 = r_v ∧ f 5 = v9 ∧ f 6 = v16 ∧ f 7 = l_v ∧ f 20 = vi (List.length (aw g r) : Int) ∧ f 21 = vi (q : Int) ∧ Sl gq (is 0) w g_v g.2 ∧ Sl gq (is 0) w r_v r ∧ Ow gq (is 2) (is 2) w v9 (aw g r) ∧ Ow gq (is 3) (is 3) w v16 seen ∧ cj gq 7 w l_v l ∧ (q : Int) ≤ ((List.length (aw g r) : Int) : Int) ∧ (∃ S, dX seen l (aw g r) S q)) (fun ⟨l_v, l, q, seen, gq⟩ => Int.toNat (((List.length (aw g r) : Int) : Int) - (q : Int))) (vn, [], 0, (List.replicate (Int.toNat (List.length (aw g r) : Int)) false), g14) ?_ ?_
 have C19 := cg [] (ch2.n.seq (ch12.n.seq ch17.n))
 · exact ⟨bH.ca C19, rfl, rfl, rfl, rfl, rfl, rfl, (Rg.cn ch12).cn ch17, (Rr.cn ch12).cn ch17, o10, o18, cj.nil, by omega, by exact ⟨[], by have h := dX.start (aw g r); simpa using h⟩⟩
 clear Rg Rr o10 o18 bH
 rintro ⟨l_v, l, q, seen, g22⟩ f20 w21 ⟨bH, zs1, zs5, zs6, zs7, zs20, zs21, Rg, Rr, o10, o18, o_l, hle_q, hinv⟩ back5
 obtain ⟨S, hfa⟩ := hinv
 have hsl := hfa.rm.len
 have hll := hfa.le
 refine a9 (a8 rfl (lx (bc (m := (q : Int)) (n := (List.length (aw g r) : Int)) zs21 zs20) (aa (a9 ?_))))
 by_cases p5 : (q : Int) < (List.length (aw g r) : Int)
 ·
  refine ae rfl (dt p5) (aj (a9 (ah (a9 (a8 rfl (mz zs21 (ai (q : Int) (aa (a9 (a8 rfl (ma vn (aa (a9 (a9 (a8 rfl ?_)))))))))))))))
  refine mi (q : Int) (ai (q : Int) (aa (ah ?_)))
  refine aN (σ := Value × (List Int) × Int × (List Bool) × aE) (fun ⟨f__v, f_, k, seen, gq⟩ f w => b9 w0 gq w ∧ f 1 = r_v ∧ f 5 = v9 ∧ f 6 = v16 ∧ f 7 = l_v ∧ f 9 = f__v ∧ f 10 = vi k ∧ f 20 = vi (List.length (aw g r) : Int) ∧ f 21 = vi (q : Int) ∧ Sl gq (is 0) w g_v g.2 ∧ Sl gq (is 0) w r_v r ∧ Ow gq (is 2) (is 2) w v9 (aw g r) ∧ Ow gq (is 3) (is 3) w v16 seen ∧ cj gq 7 w l_v l ∧ Ow gq (is 5) (is 5) w f__v f_ ∧ (fh seen f_ (aw g r) S q k)) (fun ⟨f__v, f_, k, seen, gq⟩ => List.length (aw g r) - List.length f_) (vn, [], (q : Int), seen, g22) ?_ ?_
  · exact ⟨bH, zs1, zs5, zs6, zs7, rfl, rfl, zs20, zs21, Rg, Rr, o10, o18, o_l, Ow.nil, by exact fh.start hfa ‹_›⟩
  clear Rg Rr o10 o18 o_l bH
  rintro ⟨f__v, f_, k, seen, g25⟩ f23 w24 ⟨bH, zs1, zs5, zs6, zs7, zs9, zs10, zs20, zs21, Rg, Rr, o10, o18, o_l, o_f_, hor⟩ back9
  have hsl2 := hor.rm.len
  have hk0 := hor.k0
  have hk1 := hor.k1
  refine a9 (a9 (a8 rfl (mz zs6 (mz zs10 (lx (ab (v := v16) (i := k) Try.underlying75 rfl rfl o18.flat rfl (by omega) (by omega)) (lx (ay (v := v16) (i := k) fu rfl o18.flat (by omega) (by omega) (by decide) rfl) (lx (dr (b := (gI seen k)) rfl) (aa ?_))))))))
  by_cases p9 : (gI seen k) = true
  ·
   refine ag rfl (congrArg Bool.not p9) (aI rfl (a9 (a8 rfl (mz zs9 ?_))))
   have len26 := (o_f_.flat).small
   refine lx (aO Try.underlying27 rfl o_f_.flat) (lx (fW (m := (f_.length : Int)) (n := 0) rfl rfl) (aa ?_))
   by_cases p13 : 0 < (f_.length : Int)
   ·
    refine ae rfl (dt p13) (a8 rfl (mz zs7 (mz zs9 (lo ?_))))
    obtain ⟨c27, hv28⟩ := gx (u := f__v) (bm o_f_.flat)
    refine aA (α := Vc) g25 (is 6) (is 6) (6, 0) rfl [c27] Try.underlying25 aL (by decide) (by decide) (vs := [(0, f__v)]) rfl rfl (.cons (em hv28 (c6 o_f_.flat)) .nil) ?_
    intro g29 w30 v31 ch32 o33
    refine lo ?_
    replace o_l := o_l.cn ch32
    replace o_f_ := o_f_.cn ch32
    refine fy hv28 (α := Int) (xss := l) (i := 7) (γ := g29) Try.underlying25 aL rfl rfl rfl o_l (o33.flat) o_f_ rfl (by decide) (by omega) ?_
    intro g34 w35 v36 ch37 o38 r39
    clear o_l o_f_
    refine ma v36 (aa (ao ?_))
    clear o33 r39
    refine a8 rfl (lx (aQ (m := (q : Int)) (n := 1) zs21 rfl (by omega)) (mi ((q : Int) + 1) (aa ?_)))
    replace bH := bH.cn ch32
    refine back5 (v36, (l ++ [f_]), q + 1, seen, g34) _ _ ⟨bH.chg ch37 (dq rfl rfl), zs1, zs5, zs6, rfl, zs20, rfl, (Rg.cn ch32).chg ch37 (dq rfl rfl), (Rr.cn ch32).chg ch37 (dq rfl rfl), (o10.cn ch32).chg ch37 (dq rfl rfl) (dq rfl rfl), (o18.cn ch32).chg ch37 (dq rfl rfl) (dq rfl rfl), o38, by omega, ?_⟩ ?_
    · show ∃ S, dX seen (l ++ [f_]) (aw g r) S (q + 1)
      exact ⟨_, hfa.yes hor ‹_› ‹_› ‹_›⟩
    · show Int.toNat (((List.length (aw g r) : Int) : Int) - ((q + 1) : Int)) < Int.toNat (((List.length (aw g r) : Int) : Int) - (q : Int))
      omega
   refine ag rfl (df p13) (aj (ao ?_))
   clear o_f_
   refine a8 rfl (lx (aQ (m := (q : Int)) (n := 1) zs21 rfl (by omega)) (mi ((q : Int) + 1) (aa ?_)))
   refine back5 (l_v, l, q + 1, seen, g25) _ _ ⟨bH, zs1, zs5, zs6, zs7, zs20, rfl, Rg, Rr, o10, o18, o_l, by omega, ?_⟩ ?_
   · show ∃ S, dX seen l (aw g r) S (q + 1)
     exact ⟨_, hfa.no hor ‹_› ‹_› ‹_›⟩
   · show Int.toNat (((List.length (aw g r) : Int) : Int) - ((q + 1) : Int)) < Int.toNat (((List.length (aw g r) : Int) : Int) - (q : Int))
     omega
  refine ae rfl (congrArg Bool.not (Bool.eq_false_iff.2 p9)) ?_
  have hni := lf hr (k := k) (by omega) (by omega)
  have hnxt := hor.next ‹_› (by omega)
  refine aj (a9 (ah (a9 (a8 rfl (mz zs6 (mz zs10 (lx (ab (v := v16) (i := k) Try.underlying75 rfl rfl o18.flat rfl (by omega) (by omega)) (lo (bP (i := k) true fu rfl rfl o18 (by omega) (by omega) rfl ?_)))))))))
  intro w40 ch41 bx42
  clear o18
  refine aa (a8 rfl (mz zs9 (mz zs10 (lo (aA (α := Int) g25 (is 4) (is 4) (4, 0) rfl [k] Try.underlying27 am (by decide) (by decide) (vs := [(0, vi k)]) rfl rfl (.cons rfl .nil) ?_)))))
  intro g43 w44 v45 ch46 o47
  refine lo ?_
  replace o_f_ := (o_f_.ce ch41).cn ch46
  refine aR (α := Int) (xs := f_) (ys := ([k])) g43 (J := is 5) (S := is 5) (5, 0) rfl Try.underlying27 am (by decide) rfl rfl rfl o_f_ o47.flat (by decide) (by (simp; omega)) ?_
  intro g48 w49 v50 ch51 o52
  clear o_f_
  refine ma v50 (aa (ao ?_))
  clear o47
  refine a8 rfl (mz zs5 (mz zs10 ?_))
  have C53 := cg [3, 5] ((ch41.l rfl).seq (ch46.n.seq (ch51.l rfl)))
  replace o10 := o10.ca C53
  refine lx (ab (v := v9) (i := k) Try.underlying27 rfl rfl o10.flat rfl (by omega) (by omega)) (lx (ay (v := v9) (i := k) am rfl o10.flat (by omega) (by omega) (by decide) rfl) (ai (gI (aw g r) k) (aa ?_)))
  refine back9 (v50, (f_ ++ [k]), (gI (aw g r) k), (List.set seen (Int.toNat k) true), g48) _ _ ⟨bH.ca C53, zs1, zs5, zs6, zs7, rfl, rfl, zs20, zs21, Rg.ca C53, Rr.ca C53, o10, (bx42.cn ch46).ce ch51, o_l.ca C53, o52, ?_⟩ ?_
  · show fh (List.set seen (Int.toNat k) true) (f_ ++ [k]) (aw g r) S q (gI (aw g r) k)
    exact hnxt.1
  · show List.length (aw g r) - List.length (f_ ++ [k]) < List.length (aw g r) - List.length f_
    (have h2 := hnxt.2; simp only [List.length_append, List.length_cons, List.length_nil]; omega)
 refine ag rfl (df p5) (aI rfl (a9 (a9 ?_)))
 clear o10 o18
 refine a8 rfl (mz zs1 ?_)
 have len54 := (Rr).small
 refine lx (aO Try.underlying26 rfl Rr) (mi 0 (aa (ah ?_)))
 refine aN (σ := Value × bj × Nat × aE) (fun ⟨l_v, l, p, gq⟩ f w => b9 w0 gq w ∧ f 7 = l_v ∧ f 49 = r_v ∧ f 50 = vi (r.length : Int) ∧ f 51 = vi (p : Int) ∧ Sl gq (is 0) w g_v g.2 ∧ Sl gq (is 0) w r_v r ∧ cj gq 7 w l_v l ∧ (p : Int) ≤ ((r.length : Int) : Int) ∧ (l = cm (aw g r) (c7 (List.length (aw g r))) [] ++ ((List.take p r).filter fun z_ => decide (z_.length = 0)).map fun _ => [])) (fun ⟨l_v, l, p, gq⟩ => Int.toNat (((r.length : Int) : Int) - (p : Int))) (l_v, l, 0, g22) ?_ ?_
 · exact ⟨bH, zs7, rfl, rfl, rfl, Rg, Rr, o_l, by omega, by (simp; exact hfa.done ‹_›)⟩
 clear Rg Rr o_l bH
 rintro ⟨l_v, l, p, g57⟩ f55 w56 ⟨bH, zs7, zs49, zs50, zs51, Rg, Rr, o_l, hle_p, hem⟩ back17
 have hel := mw hem
 have hfn := hfa.le
 have hfd := hfa.done ‹_›
 rw [hfd] at hfn
 refine a9 (a8 rfl (lx (bc (m := (p : Int)) (n := (r.length : Int)) zs51 zs50) (aa (a9 ?_))))
 by_cases p17 : (p : Int) < (r.length : Int)
 ·
  refine ae rfl (dt p17) (aj (a9 (ah (a9 (a8 rfl (lx (ab (v := r_v) (i := (p : Int)) Try.underlying26 rfl zs49 Rr zs51 (by omega) (by omega)) ?_))))))
  obtain ⟨v58, cel59, r60⟩ := co (r := (p : Int)) Rr (by omega) (by omega)
  refine lx (aS aL rfl cel59) (ma v58 (aa (a9 (a8 rfl (mv v58 ?_)))))
  have len61 := (r60).small
  refine lx (aO Try.underlying27 rfl r60) (lx (cR (m := (List.length (gI r (p : Int)) : Int)) (n := 0) rfl rfl) (aa ?_))
  by_cases p19 : (List.length (gI r (p : Int)) : Int) = 0
  ·
   refine ae rfl (dt p19) ?_
   clear r60
   refine a8 rfl (mz zs7 (lo ?_))
   obtain ⟨c62, hv63⟩ := gx (u := vn) rfl
   refine aA (α := Vc) g57 (is 8) (is 8) (8, 0) rfl [c62] Try.underlying25 aL (by decide) (by decide) (vs := [(0, vn)]) rfl rfl (.cons (em hv63 rfl) .nil) ?_
   intro g64 w65 v66 ch67 o68
   refine lo ?_
   replace o_l := o_l.cn ch67
   refine gZ hv63 (α := Int) (xss := l) (i := 7) (γ := g64) Try.underlying25 aL rfl rfl rfl o_l (o68.flat) (by decide) (by omega) ?_
   intro g69 w70 v71 ch72 o73 
   clear o_l
   refine ma v71 (aa (ao ?_))
   clear o68
   refine a8 rfl (lx (aQ (m := (p : Int)) (n := 1) zs51 rfl (by omega)) (mi ((p : Int) + 1) (aa ?_)))
   replace bH := bH.cn ch67
   refine back17 (v71, (l ++ [[]]), p + 1, g69) _ _ ⟨bH.ce ch72, rfl, zs49, zs50, rfl, (Rg.cn ch67).ce ch72, (Rr.cn ch67).ce ch72, o73, by omega, ?_⟩ ?_
   · show (l ++ [[]]) = cm (aw g r) (c7 (List.length (aw g r))) [] ++ ((List.take (p + 1) r).filter fun z_ => decide (z_.length = 0)).map fun _ => []
     exact mA ‹_› hem ‹_›
   · show Int.toNat (((r.length : Int) : Int) - ((p + 1) : Int)) < Int.toNat (((r.length : Int) : Int) - (p : Int))
     omega
  refine ag rfl (df p19) (aj (ao ?_))
  clear r60
  refine a8 rfl (lx (aQ (m := (p : Int)) (n := 1) zs51 rfl (by omega)) (mi ((p : Int) + 1) (aa ?_)))
  refine back17 (l_v, l, p + 1, g57) _ _ ⟨bH, zs7, zs49, zs50, rfl, Rg, Rr, o_l, by omega, ?_⟩ ?_
  · show l = cm (aw g r) (c7 (List.length (aw g r))) [] ++ ((List.take (p + 1) r).filter fun z_ => decide (z_.length = 0)).map fun _ => []
    exact nO ‹_› hem ‹_›
  · show Int.toNat (((r.length : Int) : Int) - ((p + 1) : Int)) < Int.toNat (((r.length : Int) : Int) - (p : Int))
    omega
 refine ag rfl (df p17) (aI rfl (a9 (a8 rfl (mz zs7 (ma l_v (aa (av (vs := [l_v]) Try.func87 (.tmp rfl .nil) ?_)))))))
 have e0 : (l : bj) = (ax (aw g r) r) := by
   rw [hem, List.take_of_length_le (by omega)]; rfl
 exact ⟨(fin w0 g57 (fun n => if n = 7 then 1 else 0), l_v), (congrArg (a₁ := l) (fun (z0 : bj) => Ending.returned (l_v)) e0), bH.fresh _, (e0 ▸ (o_l.glue (γ := c0) (ren := (fun n => if n = 7 then 1 else 0)) (k := 1) bH.col rfl rfl))⟩
theorem jh (w0 : World) (g : (Int) × (List ((Int) × (Int)))) (g_v : Value) (hg_v : Ro w0 g_v g.2) (r : bj) (r_v : Value) (hr_v : Ro w0 r_v r) :
    Calls Try.prog 47 #[vg [vi g.1, g_v], r_v] w0 (fun ee w => ∃ xx : aE × Value, ee = .returned ((fun ⟨δ, rv0⟩ => vt [rv0, vi ((ar g r).2)]) xx) ∧ (fun (⟨δ, rv0⟩ : aE × Value) (w : World) => cC w0 δ w ∧ cj δ 1 w rv0 ((ar g r).1)) xx w) := by
 refine az Try.func47 rfl (Nat.le_of_ble_eq_true rfl) ?_
 have bH := b9.start w0
 have Rg := hg_v.sl
 have Rr := hr_v.sl
 refine a9 (a8 rfl (cr rfl (bR c0 (is 1) (1, 0) rfl rfl ?_)))
 intro g4 w1 b3 ch2 bx5
 replace bx5 : Bx g4 (is 1) w1 b3 [vi g.1, g_v] := bx5
 refine ma vn (ai 0 (aa (a9 (a9 (a8 rfl (lx (aq (ds := [vi g.1, g_v]) ak rfl bx5 rfl rfl) (mv r_v ?_)))))))
 replace Rg := Rg.cn ch2
 replace Rr := Rr.cn ch2
 refine lo (bO (v := vi (aK g r)) (aD (vals := [vg [vi g.1, g_v], r_v]) Try.func15 jP jV rfl) (iq w1 g g_v (Rg).ro r r_v (Rr).ro) ?_)
 intro w6 hb7
 replace hb7 := aG hb7 g4
 refine ai (aK g r) (aa (a9 (a8 rfl (mi (aK g r) (lx (cl (m := aK g r) (n := 0) rfl rfl) (aa ?_))))))
 by_cases p2 : (aK g r) = 0
 ·
  obtain ⟨hm, hrp⟩ := dD ‹_›
  have hm0 := hm
  obtain ⟨hm1, hm2, hm3, hm4⟩ := hm0
  refine ag rfl (congrArg Bool.not (dt p2)) (aj (a9 (a8 rfl ?_)))
  replace bx5 := bx5.cn hb7
  refine lx (aq (ds := [vi g.1, g_v]) ak rfl bx5 rfl rfl) (mv r_v ?_)
  replace Rg := Rg.cn hb7
  replace Rr := Rr.cn hb7
  refine lo (aV (aD (vals := [vg [vi g.1, g_v], r_v]) Try.func87 rh rn rfl) (nH w6 g g_v (Rg).ro r r_v (Rr).ro ‹_› ‹_›) ?_)
  rintro ⟨d9, v11⟩ w8 ⟨fr10, o12⟩
  obtain ⟨g13, ch14, G13⟩ := dw g4 fr10 (fun n => if n = 1 then 2 else 0)
  replace o12 := o12.gl G13 2
  refine ma v11 (ai 0 (aa (av (vs := [v11, vi 0]) Try.func47 (.tmp rfl (.tmp rfl .nil)) ?_)))
  have C15 := cg [] (ch2.n.seq (hb7.n.seq ch14.n))
  replace bH := bH.ca C15
  have e0 : (ax (aw g r) r : bj) = ((ar g r).1) := by
    simp only [ar, if_pos (show aK g r = 0 by assumption)]
  have e1 : (0 : Int) = ((ar g r).2) := by
    simp only [ar, if_pos (show aK g r = 0 by assumption)]
  exact ⟨(fin w0 g13 (fun n => if n = 2 then 1 else 0), v11), (ci (a := ax (aw g r) r) (b := 0) (fun (z0 : bj) (z1 : Int) => Ending.returned (vt [v11, vi z1])) e0 e1), bH.fresh _, (e0 ▸ (o12.glue (γ := c0) (ren := (fun n => if n = 2 then 1 else 0)) (k := 1) bH.col rfl rfl))⟩
 refine ae rfl (congrArg Bool.not (df p2)) (a9 ?_)
 clear bx5
 refine a8 rfl (mi (aK g r) (ma vn (ai (aK g r) (aa (av (vs := [vn, vi (aK g r)]) Try.func47 (.tmp rfl (.tmp rfl .nil)) ?_)))))
 replace bH := bH.cn ch2
 replace bH := bH.cn hb7
 have e0 : ([] : bj) = ((ar g r).1) := by
   simp only [ar, if_neg (show ¬ aK g r = 0 by assumption)]
 have e1 : (aK g r : Int) = ((ar g r).2) := by
   simp only [ar, if_neg (show ¬ aK g r = 0 by assumption)]
 exact ⟨(fin w0 g4 (fun n => 0), vn), (ci (a := []) (b := aK g r) (fun (z0 : bj) (z1 : Int) => Ending.returned (vt [vn, vi z1])) e0 e1), bH.fresh _, (e0 ▸ cj.nil)⟩
theorem iw (w0 : World) (g : (Int) × (List ((Int) × (Int)))) (g_v : Value) (hg_v : Ro w0 g_v g.2) (r : bj) (r_v : Value) (hr_v : Ro w0 r_v r) :
    Calls Try.prog 55 #[vg [vi g.1, g_v], r_v] w0 (fun ee w => ∃ xx : aE × Value, ee = .returned ((fun ⟨δ, rv0⟩ => vt [rv0, vi ((cH g r).2)]) xx) ∧ (fun (⟨δ, rv0⟩ : aE × Value) (w : World) => cC w0 δ w ∧ cj δ 1 w rv0 ((cH g r).1)) xx w) := by
 refine az Try.func55 rfl (Nat.le_of_ble_eq_true rfl) ?_
 have bH := b9.start w0
 have Rg := hg_v.sl
 have Rr := hr_v.sl
 refine a9 (a8 rfl (cr rfl (bR c0 (is 1) (1, 0) rfl rfl ?_)))
 intro g4 w1 b3 ch2 bx5
 replace bx5 : Bx g4 (is 1) w1 b3 [vi g.1, g_v] := bx5
 refine ma vn (ai 0 (aa (a9 (a9 (a8 rfl (lx (aq (ds := [vi g.1, g_v]) ak rfl bx5 rfl rfl) (mv r_v ?_)))))))
 replace Rg := Rg.cn ch2
 replace Rr := Rr.cn ch2
 refine lo (bO (v := vi (aK g r)) (aD (vals := [vg [vi g.1, g_v], r_v]) Try.func15 jP jV rfl) (iq w1 g g_v (Rg).ro r r_v (Rr).ro) ?_)
 intro w6 hb7
 replace hb7 := aG hb7 g4
 refine ai (aK g r) (aa (a9 ?_))
 clear bx5
 refine a8 rfl (mi (aK g r) (lx (cl (m := aK g r) (n := 0) rfl rfl) (aa ?_)))
 by_cases p2 : (aK g r) = 0
 ·
  obtain ⟨hm, hrp⟩ := dD ‹_›
  have hm0 := hm
  obtain ⟨hm1, hm2, hm3, hm4⟩ := hm0
  refine ag rfl (congrArg Bool.not (dt p2)) (aj (a9 (a8 rfl (mv r_v ?_))))
  replace Rr := Rr.cn hb7
  refine lo (aV (aD (vals := [r_v]) Try.func89 rj rN rfl) (ov w6 r r_v (Rr).ro) ?_)
  rintro ⟨d9, v11⟩ w8 ⟨fr10, o12⟩
  obtain ⟨g13, ch14, G13⟩ := dw g4 fr10 (fun n => if n = 1 then 2 else 0)
  replace o12 := o12.gl G13 2
  refine ma v11 (ai 0 (aa (av (vs := [v11, vi 0]) Try.func55 (.tmp rfl (.tmp rfl .nil)) ?_)))
  have C15 := cg [] (ch2.n.seq (hb7.n.seq ch14.n))
  replace bH := bH.ca C15
  have e0 : (ct r : bj) = ((cH g r).1) := by
    simp only [cH, if_pos (show aK g r = 0 by assumption)]
  have e1 : (0 : Int) = ((cH g r).2) := by
    simp only [cH, if_pos (show aK g r = 0 by assumption)]
  exact ⟨(fin w0 g13 (fun n => if n = 2 then 1 else 0), v11), (ci (a := ct r) (b := 0) (fun (z0 : bj) (z1 : Int) => Ending.returned (vt [v11, vi z1])) e0 e1), bH.fresh _, (e0 ▸ (o12.glue (γ := c0) (ren := (fun n => if n = 2 then 1 else 0)) (k := 1) bH.col rfl rfl))⟩
 refine ae rfl (congrArg Bool.not (df p2)) (a9 (a8 rfl (mi (aK g r) (ma vn (ai (aK g r) (aa (av (vs := [vn, vi (aK g r)]) Try.func55 (.tmp rfl (.tmp rfl .nil)) ?_)))))))
 replace bH := bH.cn ch2
 replace bH := bH.cn hb7
 have e0 : ([] : bj) = ((cH g r).1) := by
   simp only [cH, if_neg (show ¬ aK g r = 0 by assumption)]
 have e1 : (aK g r : Int) = ((cH g r).2) := by
   simp only [cH, if_neg (show ¬ aK g r = 0 by assumption)]
 exact ⟨(fin w0 g4 (fun n => 0), vn), (ci (a := []) (b := aK g r) (fun (z0 : bj) (z1 : Int) => Ending.returned (vt [vn, vi z1])) e0 e1), bH.fresh _, (e0 ▸ cj.nil)⟩
end TL
