import Derived.Test.YtbadiajeohbpcaaGTlP2
import Derived.Test.YtbadiajeohbpcaaGTlGenA
import Derived.Test.YtbadiajeohbpcaaGTlGjA
import Derived.Test.YtbadiajeohbpcaaGTlGjB
import Derived.Test.YtbadiajeohbpcaaGTlGjC
import Derived.Test.YtbadiajeohbpcaaGTlGjE
import Derived.Test.YtbadiajeohbpcaaGTlGjW
import Derived.Test.YtbadiajeohbpcaaProg
set_option linter.all false
set_option maxRecDepth 20000
namespace TL
open Go Go.Proofs
theorem gK : Try.prog.follows .mixedOrders = true := by kernel_rfl
theorem rA : Try.f8.body.isNone = false := rfl
theorem rQ : (Try.f8.name == "runtime.NumGoroutine") = false := by decide +kernel
theorem pG : Try.f24.body.isNone = false := rfl
theorem qb : (Try.f24.name == "runtime.NumGoroutine") = false := by decide +kernel
set_option maxHeartbeats 4000000 in
theorem iW (w0 : World) (gw : Int) (gh : Int) (dx : Int) (dy : Int) :
    Calls Try.prog 7 #[vi gw, vi gh, vi dx, vi dy] w0 (fun ee w => ee = .returned (Value.bool true) ∧ cQ w0.heap.size w0 w) := by
 refine aC Try.func7 rfl (Nat.le_of_ble_eq_true rfl) ?_
 have bH := bf.start w0
 refine a7 (a6 rfl (ma (Value.bool false) (aa (a7 (a7 (a6 rfl (bY rfl (aF (v := Value.bool true) (aw (vals := []) Try.func8 rA rQ rfl) (l9 w0 ) ?_))))))))
 intro w1 hb2
 replace hb2 := ak hb2 c0
 refine lx (di (b := true) rfl) (aa (aj rfl rfl (am (a7 (a7 (a6 rfl (mi gw (lx (b9 (m := gw) (n := 1) rfl rfl) (mv (Value.bool (decide (gw < 1))) ?_)))))))))
 by_cases q22 : gw < 1
 ·
  refine ae (wn (dt q22)) (ae (wn (dt q22)) (lw (Value.bool true) (au rfl (dt q22) rfl) (mv (Value.bool true) (ae (wn rfl) (ae (wn rfl) (lw (Value.bool true) (au rfl rfl rfl) (mv (Value.bool true) (ae (wn rfl) (ae (wn rfl) (lw (Value.bool true) (au rfl rfl rfl) (mv (Value.bool true) ?_)))))))))))
  refine ae (wn rfl) (ae (wn rfl) (lw (Value.bool true) (au rfl rfl rfl) (mv (Value.bool true) (ae (wn rfl) (ae (wn rfl) (lw (Value.bool true) (au rfl rfl rfl) (mv (Value.bool true) (ae (wn rfl) (ae (wn rfl) (lw (Value.bool true) (au rfl rfl rfl) (mv (Value.bool true) (ae (wn rfl) (ae (wn rfl) ?_)))))))))))))
  refine lw (Value.bool true) (au rfl rfl rfl) (aa (ah rfl rfl (a7 (a6 rfl (ma (Value.bool true) (aa (al (vs := [Value.bool true]) Try.func7 (.tmp rfl .nil) ?_)))))))
  have e0 : (true : Bool) = (true) := by
    rfl
  replace bH := bH.cn hb2
  exact ⟨(congrArg (a₁ := true) (fun (z0 : Bool) => Ending.returned (Value.bool z0)) e0), bH.below⟩
 refine lv (vi gh) (wy (df q22)) (aI rfl) (lv (Value.bool (decide (gh < 1))) (wy (df q22)) (b9 (m := gh) (n := 1) rfl rfl) (lw (Value.bool (decide (gh < 1))) (aD rfl (df q22) rfl) (mv (Value.bool (decide (gh < 1))) ?_)))
 by_cases q26 : gh < 1
 ·
  refine ae (wn (dt q26)) (ae (wn (dt q26)) (lw (Value.bool true) (au rfl (dt q26) rfl) (mv (Value.bool true) (ae (wn rfl) (ae (wn rfl) (lw (Value.bool true) (au rfl rfl rfl) (mv (Value.bool true) (ae (wn rfl) (ae (wn rfl) (lw (Value.bool true) (au rfl rfl rfl) (mv (Value.bool true) ?_)))))))))))
  refine ae (wn rfl) (ae (wn rfl) (lw (Value.bool true) (au rfl rfl rfl) (mv (Value.bool true) (ae (wn rfl) (ae (wn rfl) (lw (Value.bool true) (au rfl rfl rfl) (mv (Value.bool true) (ae (wn rfl) (ae (wn rfl) (lw (Value.bool true) (au rfl rfl rfl) (aa (ah rfl rfl ?_))))))))))))
  refine a7 (a6 rfl (ma (Value.bool true) (aa (al (vs := [Value.bool true]) Try.func7 (.tmp rfl .nil) ?_))))
  have e0 : (true : Bool) = (true) := by
    rfl
  replace bH := bH.cn hb2
  exact ⟨(congrArg (a₁ := true) (fun (z0 : Bool) => Ending.returned (Value.bool z0)) e0), bH.below⟩
 refine lv (vi gw) (wy (df q26)) (aI rfl) (lv (Value.bool (decide (6 < gw))) (wy (df q26)) (bQ (m := gw) (n := 6) rfl rfl) (lw (Value.bool (decide (6 < gw))) (aD rfl (df q26) rfl) (mv (Value.bool (decide (6 < gw))) ?_)))
 by_cases q30 : 6 < gw
 ·
  refine ae (wn (dt q30)) (ae (wn (dt q30)) (lw (Value.bool true) (au rfl (dt q30) rfl) (mv (Value.bool true) (ae (wn rfl) (ae (wn rfl) (lw (Value.bool true) (au rfl rfl rfl) (mv (Value.bool true) (ae (wn rfl) (ae (wn rfl) (lw (Value.bool true) (au rfl rfl rfl) (mv (Value.bool true) ?_)))))))))))
  refine ae (wn rfl) (ae (wn rfl) (lw (Value.bool true) (au rfl rfl rfl) (mv (Value.bool true) (ae (wn rfl) (ae (wn rfl) (lw (Value.bool true) (au rfl rfl rfl) (aa (ah rfl rfl (a7 (a6 rfl (ma (Value.bool true) (aa ?_))))))))))))
  refine al (vs := [Value.bool true]) Try.func7 (.tmp rfl .nil) ?_
  have e0 : (true : Bool) = (true) := by
    rfl
  replace bH := bH.cn hb2
  exact ⟨(congrArg (a₁ := true) (fun (z0 : Bool) => Ending.returned (Value.bool z0)) e0), bH.below⟩
 refine lv (vi gh) (wy (df q30)) (aI rfl) (lv (Value.bool (decide (5 < gh))) (wy (df q30)) (bQ (m := gh) (n := 5) rfl rfl) (lw (Value.bool (decide (5 < gh))) (aD rfl (df q30) rfl) (mv (Value.bool (decide (5 < gh))) ?_)))
 by_cases q34 : 5 < gh
 ·
  refine ae (wn (dt q34)) (ae (wn (dt q34)) (lw (Value.bool true) (au rfl (dt q34) rfl) (mv (Value.bool true) (ae (wn rfl) (ae (wn rfl) (lw (Value.bool true) (au rfl rfl rfl) (mv (Value.bool true) (ae (wn rfl) (ae (wn rfl) (lw (Value.bool true) (au rfl rfl rfl) (mv (Value.bool true) ?_)))))))))))
  refine ae (wn rfl) (ae (wn rfl) (lw (Value.bool true) (au rfl rfl rfl) (aa (ah rfl rfl (a7 (a6 rfl (ma (Value.bool true) (aa (al (vs := [Value.bool true]) Try.func7 (.tmp rfl .nil) ?_)))))))))
  have e0 : (true : Bool) = (true) := by
    rfl
  replace bH := bH.cn hb2
  exact ⟨(congrArg (a₁ := true) (fun (z0 : Bool) => Ending.returned (Value.bool z0)) e0), bH.below⟩
 refine lv (vi dx) (wy (df q34)) (aI rfl) (lv (Value.bool (decide (dx < 1))) (wy (df q34)) (b9 (m := dx) (n := 1) rfl rfl) (lw (Value.bool (decide (dx < 1))) (aD rfl (df q34) rfl) (mv (Value.bool (decide (dx < 1))) ?_)))
 by_cases q38 : dx < 1
 ·
  refine ae (wn (dt q38)) (ae (wn (dt q38)) (lw (Value.bool true) (au rfl (dt q38) rfl) (mv (Value.bool true) (ae (wn rfl) (ae (wn rfl) (lw (Value.bool true) (au rfl rfl rfl) (mv (Value.bool true) (ae (wn rfl) (ae (wn rfl) (lw (Value.bool true) (au rfl rfl rfl) (aa ?_)))))))))))
  refine ah rfl rfl (a7 (a6 rfl (ma (Value.bool true) (aa (al (vs := [Value.bool true]) Try.func7 (.tmp rfl .nil) ?_)))))
  have e0 : (true : Bool) = (true) := by
    rfl
  replace bH := bH.cn hb2
  exact ⟨(congrArg (a₁ := true) (fun (z0 : Bool) => Ending.returned (Value.bool z0)) e0), bH.below⟩
 refine lv (vi dy) (wy (df q38)) (aI rfl) (lv (Value.bool (decide (dy < 1))) (wy (df q38)) (b9 (m := dy) (n := 1) rfl rfl) (lw (Value.bool (decide (dy < 1))) (aD rfl (df q38) rfl) (mv (Value.bool (decide (dy < 1))) ?_)))
 by_cases q42 : dy < 1
 ·
  refine ae (wn (dt q42)) (ae (wn (dt q42)) (lw (Value.bool true) (au rfl (dt q42) rfl) (mv (Value.bool true) (ae (wn rfl) (ae (wn rfl) (lw (Value.bool true) (au rfl rfl rfl) (aa (ah rfl rfl (a7 (a6 rfl (ma (Value.bool true) ?_)))))))))))
  refine aa (al (vs := [Value.bool true]) Try.func7 (.tmp rfl .nil) ?_)
  have e0 : (true : Bool) = (true) := by
    rfl
  replace bH := bH.cn hb2
  exact ⟨(congrArg (a₁ := true) (fun (z0 : Bool) => Ending.returned (Value.bool z0)) e0), bH.below⟩
 refine lv (vi dx) (wy (df q42)) (aI rfl) (lv (Value.bool (decide (1000 < dx))) (wy (df q42)) (bQ (m := dx) (n := 1000) rfl rfl) (lw (Value.bool (decide (1000 < dx))) (aD rfl (df q42) rfl) (mv (Value.bool (decide (1000 < dx))) ?_)))
 by_cases q46 : 1000 < dx
 ·
  refine ae (wn (dt q46)) (ae (wn (dt q46)) (lw (Value.bool true) (au rfl (dt q46) rfl) (aa (ah rfl rfl (a7 (a6 rfl (ma (Value.bool true) (aa (al (vs := [Value.bool true]) Try.func7 (.tmp rfl .nil) ?_)))))))))
  have e0 : (true : Bool) = (true) := by
    rfl
  replace bH := bH.cn hb2
  exact ⟨(congrArg (a₁ := true) (fun (z0 : Bool) => Ending.returned (Value.bool z0)) e0), bH.below⟩
 refine lv (vi dy) (wy (df q46)) (aI rfl) (lv (Value.bool (decide (1000 < dy))) (wy (df q46)) (bQ (m := dy) (n := 1000) rfl rfl) (lw (Value.bool (decide (1000 < dy))) (aD rfl (df q46) rfl) (aa ?_)))
 by_cases p3 : 1000 < dy
 ·
  refine ah rfl (dt p3) (a7 (a6 rfl (ma (Value.bool true) (aa (al (vs := [Value.bool true]) Try.func7 (.tmp rfl .nil) ?_)))))
  have e0 : (true : Bool) = (true) := by
    rfl
  replace bH := bH.cn hb2
  exact ⟨(congrArg (a₁ := true) (fun (z0 : Bool) => Ending.returned (Value.bool z0)) e0), bH.below⟩
 refine aj rfl (df p3) (am (a7 (a6 rfl (mi gw (mi gh (lo (cy (aw (vals := [vi gw, vi gh]) Try.func24 pG qb rfl) (pd w1 gw gh (by omega) (by omega)) ?_)))))))
 rintro ⟨d4, v6⟩ w3 ⟨fr5, o7⟩
 obtain ⟨g8, ch9, G8⟩ := m6 c0 fr5 (fun n => if n = 1 then 1 else 0)
 replace o7 := o7.gl G8 1
 refine mv (vt [vg [vi ((aA gw gh).1), v6], vi 0]) (lx (aW rfl rfl) (lx (aW rfl rfl) (lo (aQ g8 (is 2) (2, 0) rfl cj ?_))))
 intro g13 w10 b12 ch11 bx14
 replace bx14 : Bx g13 (is 2) w10 b12 [vi 0, vn] := bx14
 refine lo ?_
 replace o7 := o7.cn ch11
 refine ag (cs' := [vi ((aA gw gh).1), v6]) cj rfl rfl bx14 rfl (Nat.le_of_ble_eq_true rfl) (AllOne.all (.cons rfl (.cons (bM o7.flat) .nil))) rfl ?_
 intro w15 ch16 bx17
 clear bx14
 refine ai 0 (aa (a7 ?_))
 have hw1 : 1 ≤ gw ∧ gw ≤ 6 := by omega
 have hh1 : 1 ≤ gh ∧ gh ≤ 5 := by omega
 have hdx1 : 0 < dx ∧ dx ≤ 1000 := by omega
 have hdy1 : 0 < dy ∧ dy ≤ 1000 := by omega
 have hNe : (aA gw gh).1 = gw * gh := rfl
 have hNb := fj (A := 6) (B := 5) (a := gw) (b := gh) (by omega) (by omega)
 have hgm := lB hw1 hh1
 have hgl := hgm.2.2.1
 have hwm := fj (A := 6) (B := 1000) (a := gw - 1) (b := dx) (by omega) (by omega)
 have hhm := fj (A := 6) (B := 1000) (a := gh - 1) (b := dy) (by omega) (by omega)
 refine a6 rfl (bY rfl (aQ g13 (is 3) (3, 0) rfl co ?_))
 intro g21 w18 b20 ch19 bx22
 replace bx22 : Bx g21 (is 3) w18 b20 [vn, vn] := bx22
 refine aa (a7 (a7 (a6 rfl (ai 0 (aa (av ?_))))))
 refine ba (σ := Value × (List ((Int) × (Int))) × Nat × aP) (fun ⟨qA_v, qA, v, gq⟩ f w => bf w0 gq w ∧ f 0 = vi gw ∧ f 1 = vi gh ∧ f 2 = vi dx ∧ f 3 = vi dy ∧ f 9 = vp b12 0 ∧ f 11 = vp b20 0 ∧ f 12 = vi (v : Int) ∧ Ow gq (is 1) (is 1) w v6 ((aA gw gh).2) ∧ Bx gq (is 2) w b12 [vi ((aA gw gh).1), v6] ∧ Bx gq (is 3) w b20 [qA_v, vn] ∧ Ow gq (is 5) (is 5) w qA_v qA ∧ (v : Int) ≤ ((aA gw gh).1 : Int) ∧ (qA = (List.range v).map (oR gw dx dy))) (fun ⟨qA_v, qA, v, gq⟩ => Int.toNat (((aA gw gh).1 : Int) - (v : Int))) (vn, [], 0, g21) ?_ ?_
 have C23 := cg [2] (hb2.n.seq (ch9.n.seq (ch11.n.seq ((ch16.l rfl).seq ch19.n))))
 · exact ⟨bH.ca C23, rfl, rfl, rfl, rfl, rfl, rfl, rfl, (o7.ce ch16).cn ch19, bx17.cn ch19, bx22, Ow.nil, by omega, by rfl⟩
 clear o7 bx17 bx22 bH
 rintro ⟨qA_v, qA, v, g26⟩ f24 w25 ⟨bH, zs0, zs1, zs2, zs3, zs9, zs11, zs12, o7, bx17, bx22, o_qA, hle_v, hqa⟩ back8
 have hal : qA.length = v := by rw [hqa]; simp
 refine a7 (a7 (a6 rfl (mz zs12 (lx (a8 Try.underlying24 rfl rfl zs9 rfl) (lx (af aq rfl bx17 rfl) (lx (b9 (m := (v : Int)) (n := (aA gw gh).1) rfl rfl) (aa ?_)))))))
 by_cases p8 : (v : Int) < ((aA gw gh).1)
 ·
  refine ah rfl (dt p8) ?_
  have hv1 := Int.emod_nonneg (v : Int) (show gw ≠ 0 by omega)
  have hv2 := Int.emod_lt_of_pos (v : Int) (show 0 < gw by omega)
  have hv3 := Int.ediv_nonneg (show 0 ≤ (v : Int) by omega) (show 0 ≤ gw by omega)
  have hv4 : (v : Int) / gw ≤ v := Int.ediv_le_self _ (by omega)
  have hv5 := fj (A := 6) (B := 1000) (a := (v : Int) % gw) (b := dx) (by omega) (by omega)
  have hv6 := fj (A := 30) (B := 1000) (a := (v : Int) / gw) (b := dy) (by omega) (by omega)
  refine am (a7 (av ?_))
  refine kQ (σ := Value × aP) (fun ⟨v36, gq⟩ f w => bf w0 gq w ∧ f 0 = vi gw ∧ f 1 = vi gh ∧ f 2 = vi dx ∧ f 3 = vi dy ∧ f 9 = vp b12 0 ∧ f 11 = vp b20 0 ∧ f 12 = vi (v : Int) ∧ Ow gq (is 1) (is 1) w v6 ((aA gw gh).2) ∧ Bx gq (is 2) w b12 [vi ((aA gw gh).1), v6] ∧ Ow gq (is 5) (is 5) w v36 (qA ++ ([((((v : Int) % gw) * dx), (((v : Int) / gw) * dy))] : List ((Int) × (Int)))) ∧ Bx gq (is 3) w b20 [v36, vn]) g26 [0, 2, 3, 4, 5, 6, 7, 8, 9, 10, 11, 15] gK ?_ ?_
  ·
   intro mid
   intro w28 ch27
   refine xp 0 rfl (fun w => a8 Try.underlying28 rfl rfl zs11 rfl) (xp (v := vi (v : Int)) 2 rfl (fun w => aI zs12) (xp (v := vi gw) 3 rfl (fun w => aI zs0) (xp 4 rfl (fun w => oE (m := (v : Int)) (n := gw) rfl rfl (by omega) (by omega)) (xp (v := vi dx) 5 rfl (fun w => aI zs2) (xp 6 rfl (fun w => cP (m := (v : Int) % gw) (n := dx) rfl rfl (by omega)) (xp (v := vi (v : Int)) 7 rfl (fun w => aI zs12) (xp (v := vi gw) 8 rfl (fun w => aI zs0) (xp 9 rfl (fun w => oA (m := (v : Int)) (n := gw) rfl rfl (by omega) (by omega) (by omega)) (xp (v := vi dy) 10 rfl (fun w => aI zs3) ?_)))))))))
   refine xp 11 rfl (fun w => cP (m := (v : Int) / gw) (n := dy) rfl rfl (by omega)) ?_
   refine ra 1 12 rfl rfl (by kernel_rfl) rfl rfl ?_ ?_
   ·
    replace bx22 := bx22.cn ch27
    refine aG (v := qA_v) (af bk rfl bx22 rfl) (dP 12 rfl (by kernel_rfl) rfl (aF (v := vg [vi (((v : Int) % gw) * dx), vi (((v : Int) / gw) * dy)]) (aw (vals := [vi (((v : Int) % gw) * dx), vi (((v : Int) / gw) * dy)]) Try.func18 dw dv rfl) (dz w28 (((v : Int) % gw) * dx) (((v : Int) / gw) * dy)) ?_))
    intro w29 hb30
    replace hb30 := ak hb30 g26
    refine dP 13 rfl (by kernel_rfl) rfl (aJ (α := (Int) × (Int)) g26 (is 4) (is 4) (4, 0) rfl ([((((v : Int) % gw) * dx), (((v : Int) / gw) * dy))] : List ((Int) × (Int))) Try.underlying25 ab (by decide) (by decide) (vs := [(0, vg [vi (((v : Int) % gw) * dx), vi (((v : Int) / gw) * dy)])]) rfl rfl (.cons rfl .nil) ?_)
    intro g31 w32 v33 ch34 o35
    refine dP 14 rfl (by kernel_rfl) rfl ?_
    have C36 := cg [] (ch27.n.seq (hb30.n.seq ch34.n))
    replace o_qA := o_qA.ca C36
    refine bg (α := (Int) × (Int)) (xs := qA) (ys := ([((((v : Int) % gw) * dx), (((v : Int) / gw) * dy))] : List ((Int) × (Int)))) g31 (J := is 5) (S := is 5) (5, 0) rfl Try.underlying25 ab (by decide) rfl rfl rfl o_qA o35.flat (by decide) (by (simp; omega)) ?_
    intro g37 w38 v39 ch40 o41
    clear o_qA
    refine xp 15 rfl (fun w => a8 Try.underlying28 rfl rfl zs11 rfl) (dP 16 rfl (by kernel_rfl) rfl ?_)
    have C45 := cg [5] (hb30.n.seq (ch34.n.seq (ch40.l rfl)))
    replace bx22 := bx22.ca C45
    refine bi (cs' := [v39, vn]) bk rfl rfl bx22 (bj o41.flat) (Nat.le_of_ble_eq_true rfl) (bM o41.flat) rfl ?_
    intro w42 ch43 bx44
    clear bx22
    refine j6 (by kernel_rfl) ?_
    have C46 := cg [3, 5] (ch27.n.seq (hb30.n.seq (ch34.n.seq ((ch40.l rfl).seq (ch43.l rfl)))))
    exact mid (v39, g37) _ _ ⟨bH.ca C46, zs0, zs1, zs2, zs3, zs9, zs11, zs12, o7.ca C46, bx17.ca C46, o41.ce ch43, bx44⟩
   ·
    refine aF (v := vg [vi (((v : Int) % gw) * dx), vi (((v : Int) / gw) * dy)]) (aw (vals := [vi (((v : Int) % gw) * dx), vi (((v : Int) / gw) * dy)]) Try.func18 dw dv rfl) (dz w28 (((v : Int) % gw) * dx) (((v : Int) / gw) * dy)) ?_
    intro w47 hb48
    replace hb48 := ak hb48 g26
    refine ra 1 13 rfl rfl (by kernel_rfl) rfl rfl ?_ ?_
    ·
     replace bx22 := (bx22.cn ch27).cn hb48
     refine aG (v := qA_v) (af bk rfl bx22 rfl) (dP 13 rfl (by kernel_rfl) rfl (aJ (α := (Int) × (Int)) g26 (is 4) (is 4) (4, 0) rfl ([((((v : Int) % gw) * dx), (((v : Int) / gw) * dy))] : List ((Int) × (Int))) Try.underlying25 ab (by decide) (by decide) (vs := [(0, vg [vi (((v : Int) % gw) * dx), vi (((v : Int) / gw) * dy)])]) rfl rfl (.cons rfl .nil) ?_))
     intro g49 w50 v51 ch52 o53
     refine dP 14 rfl (by kernel_rfl) rfl ?_
     have C54 := cg [] (ch27.n.seq (hb48.n.seq ch52.n))
     replace o_qA := o_qA.ca C54
     refine bg (α := (Int) × (Int)) (xs := qA) (ys := ([((((v : Int) % gw) * dx), (((v : Int) / gw) * dy))] : List ((Int) × (Int)))) g49 (J := is 5) (S := is 5) (5, 0) rfl Try.underlying25 ab (by decide) rfl rfl rfl o_qA o53.flat (by decide) (by (simp; omega)) ?_
     intro g55 w56 v57 ch58 o59
     clear o_qA
     refine xp 15 rfl (fun w => a8 Try.underlying28 rfl rfl zs11 rfl) (dP 16 rfl (by kernel_rfl) rfl ?_)
     replace bx22 := (bx22.cn ch52).ce ch58
     refine bi (cs' := [v57, vn]) bk rfl rfl bx22 (bj o59.flat) (Nat.le_of_ble_eq_true rfl) (bM o59.flat) rfl ?_
     intro w60 ch61 bx62
     clear bx22
     refine j6 (by kernel_rfl) ?_
     have C63 := cg [3, 5] (ch27.n.seq (hb48.n.seq (ch52.n.seq ((ch58.l rfl).seq (ch61.l rfl)))))
     exact mid (v57, g55) _ _ ⟨bH.ca C63, zs0, zs1, zs2, zs3, zs9, zs11, zs12, o7.ca C63, bx17.ca C63, o59.ce ch61, bx62⟩
    ·
     refine aJ (α := (Int) × (Int)) g26 (is 4) (is 4) (4, 0) rfl ([((((v : Int) % gw) * dx), (((v : Int) / gw) * dy))] : List ((Int) × (Int))) Try.underlying25 ab (by decide) (by decide) (vs := [(0, vg [vi (((v : Int) % gw) * dx), vi (((v : Int) / gw) * dy)])]) rfl rfl (.cons rfl .nil) ?_
     intro g64 w65 v66 ch67 o68
     have C69 := cg [] (ch27.n.seq (hb48.n.seq ch67.n))
     replace bx22 := bx22.ca C69
     refine dP 1 rfl (by kernel_rfl) rfl (aG (v := qA_v) (af bk rfl bx22 rfl) (dP 14 rfl (by kernel_rfl) rfl ?_))
     replace o_qA := o_qA.ca C69
     refine bg (α := (Int) × (Int)) (xs := qA) (ys := ([((((v : Int) % gw) * dx), (((v : Int) / gw) * dy))] : List ((Int) × (Int)))) g64 (J := is 5) (S := is 5) (5, 0) rfl Try.underlying25 ab (by decide) rfl rfl rfl o_qA o68.flat (by decide) (by (simp; omega)) ?_
     intro g70 w71 v72 ch73 o74
     clear o_qA
     refine xp 15 rfl (fun w => a8 Try.underlying28 rfl rfl zs11 rfl) (dP 16 rfl (by kernel_rfl) rfl ?_)
     replace bx22 := bx22.ce ch73
     refine bi (cs' := [v72, vn]) bk rfl rfl bx22 (bj o74.flat) (Nat.le_of_ble_eq_true rfl) (bM o74.flat) rfl ?_
     intro w75 ch76 bx77
     clear bx22
     refine j6 (by kernel_rfl) ?_
     have C78 := cg [3, 5] (ch27.n.seq (hb48.n.seq (ch67.n.seq ((ch73.l rfl).seq (ch76.l rfl)))))
     exact mid (v72, g70) _ _ ⟨bH.ca C78, zs0, zs1, zs2, zs3, zs9, zs11, zs12, o7.ca C78, bx17.ca C78, o74.ce ch76, bx77⟩
  clear o7 bx17 bx22 o_qA bH
  rintro ⟨v36, g81⟩ f79 w80 ⟨bH, zs0, zs1, zs2, zs3, zs9, zs11, zs12, o7, bx17, o38, bx41⟩
  refine ao (a6 rfl (mz zs12 (lx (aT (m := (v : Int)) (n := 1) rfl rfl (by omega)) (ai ((v : Int) + 1) (aa ?_)))))
  refine back8 (v36, (qA ++ ([((((v : Int) % gw) * dx), (((v : Int) / gw) * dy))] : List ((Int) × (Int)))), v + 1, g81) _ _ ⟨bH, zs0, zs1, zs2, zs3, zs9, zs11, rfl, o7, bx17, bx41, o38, by omega, ?_⟩ ?_
  · show (qA ++ ([((((v : Int) % gw) * dx), (((v : Int) / gw) * dy))] : List ((Int) × (Int)))) = (List.range (v + 1)).map (oR gw dx dy)
    exact oh hqa
  · show Int.toNat (((aA gw gh).1 : Int) - ((v + 1) : Int)) < Int.toNat (((aA gw gh).1 : Int) - (v : Int))
    omega
 refine aj rfl (df p8) (aU rfl (a7 (a7 (a6 rfl (ai 0 (aa (av ?_)))))))
 refine ba (σ := Value × (List (List ((Int) × (Int)))) × Nat × aP) (fun ⟨qL_v, qL, e, gq⟩ f w => bf w0 gq w ∧ f 0 = vi gw ∧ f 1 = vi gh ∧ f 2 = vi dx ∧ f 3 = vi dy ∧ f 9 = vp b12 0 ∧ f 11 = vp b20 0 ∧ f 13 = vi (e : Int) ∧ Ow gq (is 1) (is 1) w v6 ((aA gw gh).2) ∧ Bx gq (is 2) w b12 [vi ((aA gw gh).1), v6] ∧ Bx gq (is 3) w b20 [qA_v, qL_v] ∧ Ow gq (is 5) (is 5) w qA_v qA ∧ dJ gq 8 w qL_v qL ∧ (e : Int) ≤ ((List.length ((aA gw gh).2) : Int) : Int) ∧ (qL = ((aA gw gh).2.take e).map (pO qA))) (fun ⟨qL_v, qL, e, gq⟩ => Int.toNat (((List.length ((aA gw gh).2) : Int) : Int) - (e : Int))) (vn, [], 0, g26) ?_ ?_
 · exact ⟨bH, zs0, zs1, zs2, zs3, zs9, zs11, rfl, o7, bx17, bx22, o_qA, dJ.nil, by omega, by rfl⟩
 clear o7 bx17 bx22 o_qA bH
 rintro ⟨qL_v, qL, e, g84⟩ f82 w83 ⟨bH, zs0, zs1, zs2, zs3, zs9, zs11, zs13, o7, bx17, bx22, o_qA, o_qL, hle_e, hql⟩ back12
 have hbl : qL.length ≤ e := by rw [hql, List.length_map, List.length_take]; omega
 refine a7 (a7 (a6 rfl (mz zs13 (lx (a8 Try.underlying24 rfl rfl zs9 rfl) (lx (af cE rfl bx17 rfl) ?_)))))
 have len85 := (o7.flat).small
 refine lx (bh Try.underlying22 rfl o7.flat) (lx (b9 (m := (e : Int)) (n := (List.length ((aA gw gh).2) : Int)) rfl rfl) (aa ?_))
 by_cases p12 : (e : Int) < (List.length ((aA gw gh).2) : Int)
 ·
  refine ah rfl (dt p12) ?_
  obtain ⟨⟨he1, he2⟩, he3, he4⟩ := gH (e := (e : Int)) hgm (by omega) ‹_›
  refine am (a7 (av (eb g84 [0, 1, 2, 3, 4, 5, 6, 7, 8, 9, 10, 11, 12, 13, 14, 15, 16, 17, 18, 19, 20, 21, 25] gK ?_)))
  intro w87 ch86
  refine xp 0 rfl (fun w => a8 Try.underlying28 rfl rfl zs11 rfl) ?_
  replace bx22 := bx22.cn ch86
  refine xh 1 [0, 2, 4, 6, 12, 14, 16, 3, 5, 13, 15, 7, 17, 8, 18, 9, 19, 10, 20, 11, 21, 22, 23] rfl (fun w' hw' => af cH rfl (bx22.bel hw') rfl) (xp 2 rfl (fun w => a8 Try.underlying28 rfl rfl zs11 rfl) (xv 3 [2, 1, 0, 4, 6, 12, 14, 16, 5, 13, 15, 7, 17, 8, 18, 9, 19, 20, 21] rfl (af bk rfl bx22 rfl) (xp 4 rfl (fun w => a8 Try.underlying24 rfl rfl zs9 rfl) ?_)))
  replace bx17 := bx17.cn ch86
  refine xv 5 [4, 3, 2, 1, 0, 6, 12, 14, 16, 13, 15, 17, 18, 19, 20, 21] rfl (af cE rfl bx17 rfl) (xp (v := vi (e : Int)) 6 rfl (fun w => aI zs13) ?_)
  replace o7 := o7.cn ch86
  refine xv 7 [6, 5, 4, 3, 2, 1, 0, 12, 14, 16, 13, 15, 17, 18, 19, 20, 21] rfl (ar (v := v6) (i := (e : Int)) Try.underlying22 rfl rfl o7.flat rfl (by omega) (by omega)) (xv 8 [7, 6, 5, 4, 3, 2, 1, 0, 12, 14, 16, 13, 15, 17, 18, 19, 20, 21] rfl (ey Try.underlying59 rfl rfl rfl (by decide) (by decide) rfl) (xv 9 [8, 7, 6, 5, 4, 3, 2, 1, 0, 12, 14, 16, 13, 15, 17, 18, 19, 20, 21] rfl (eY (v := v6) (i := (e : Int)) aq rfl o7.flat (by omega) (by omega) (by decide) rfl) ?_))
  replace o_qA := o_qA.cn ch86
  refine xv 10 [9, 8, 7, 6, 5, 4, 3, 2, 1, 0, 12, 14, 16, 13, 15, 17, 18, 19, 20, 21] rfl (ar (v := qA_v) (i := (gI ((aA gw gh).2) (e : Int)).1) Try.underlying25 rfl rfl o_qA.flat rfl (by omega) (by omega)) (xv (v := vg [vi ((gI qA ((gI ((aA gw gh).2) (e : Int)).1)).1), vi ((gI qA ((gI ((aA gw gh).2) (e : Int)).1)).2)]) 11 [10, 9, 8, 7, 6, 5, 4, 3, 2, 1, 0, 12, 14, 16, 13, 15, 17, 18, 19, 20, 21] rfl (aN (v := qA_v) (i := (gI ((aA gw gh).2) (e : Int)).1) ab rfl o_qA.flat (by omega) (by omega) rfl) (xp 12 rfl (fun w => a8 Try.underlying28 rfl rfl zs11 rfl) (xv 13 [12, 11, 10, 9, 8, 7, 6, 5, 4, 3, 2, 1, 0, 14, 16, 15, 17, 18, 19] rfl (af bk rfl bx22 rfl) (xp 14 rfl (fun w => a8 Try.underlying24 rfl rfl zs9 rfl) ?_))))
  refine xv 15 [14, 13, 12, 11, 10, 9, 8, 7, 6, 5, 4, 3, 2, 1, 0, 16] rfl (af cE rfl bx17 rfl) (xp (v := vi (e : Int)) 16 rfl (fun w => aI zs13) (xv 17 [16, 15, 14, 13, 12, 11, 10, 9, 8, 7, 6, 5, 4, 3, 2, 1, 0] rfl (ar (v := v6) (i := (e : Int)) Try.underlying22 rfl rfl o7.flat rfl (by omega) (by omega)) (xv 18 [17, 16, 15, 14, 13, 12, 11, 10, 9, 8, 7, 6, 5, 4, 3, 2, 1, 0] rfl (ey Try.underlying59 rfl rfl rfl (by decide) (by decide) rfl) (xv 19 [18, 17, 16, 15, 14, 13, 12, 11, 10, 9, 8, 7, 6, 5, 4, 3, 2, 1, 0] rfl (eY (v := v6) (i := (e : Int)) aq rfl o7.flat (by omega) (by omega) (by decide) rfl) (xv 20 [19, 18, 17, 16, 15, 14, 13, 12, 11, 10, 9, 8, 7, 6, 5, 4, 3, 2, 1, 0] rfl (ar (v := qA_v) (i := (gI ((aA gw gh).2) (e : Int)).2) Try.underlying25 rfl rfl o_qA.flat rfl (by omega) (by omega)) ?_)))))
  refine xv (v := vg [vi ((gI qA ((gI ((aA gw gh).2) (e : Int)).2)).1), vi ((gI qA ((gI ((aA gw gh).2) (e : Int)).2)).2)]) 21 [20, 19, 18, 17, 16, 15, 14, 13, 12, 11, 10, 9, 8, 7, 6, 5, 4, 3, 2, 1, 0] rfl (aN (v := qA_v) (i := (gI ((aA gw gh).2) (e : Int)).2) ab rfl o_qA.flat (by omega) (by omega) rfl) (dP 22 rfl (by kernel_rfl) rfl ?_)
  refine aJ (α := (Int) × (Int)) g84 (is 6) (is 6) (6, 0) rfl ([(gI qA ((gI ((aA gw gh).2) (e : Int)).1)), (gI qA ((gI ((aA gw gh).2) (e : Int)).2))] : List ((Int) × (Int))) Try.underlying25 ab (by decide) (by decide) (vs := [(0, vg [vi ((gI qA ((gI ((aA gw gh).2) (e : Int)).1)).1), vi ((gI qA ((gI ((aA gw gh).2) (e : Int)).1)).2)]), (1, vg [vi ((gI qA ((gI ((aA gw gh).2) (e : Int)).2)).1), vi ((gI qA ((gI ((aA gw gh).2) (e : Int)).2)).2)])]) rfl rfl (.cons rfl (.cons rfl .nil)) ?_
  intro g88 w89 v90 ch91 o92
  refine dP 23 rfl (by kernel_rfl) rfl ?_
  obtain ⟨c93, hv94⟩ := lk (u := v90) (bM o92.flat)
  refine aJ (α := Vc) g88 (is 7) (is 7) (7, 0) rfl [c93] Try.underlying26 bk (by decide) (by decide) (vs := [(0, v90)]) rfl rfl (.cons (ju hv94 (bj o92.flat)) .nil) ?_
  intro g95 w96 v97 ch98 o99
  refine dP 24 rfl (by kernel_rfl) rfl ?_
  have C100 := cg [] (ch86.n.seq (ch91.n.seq ch98.n))
  replace o_qL := o_qL.ca C100
  replace o92 := o92.cn ch98
  refine jw hv94 (α := (Int) × (Int)) (xss := qL) (i := 8) (γ := g95) Try.underlying26 bk rfl rfl rfl o_qL (o99.flat) o92 rfl (by decide) (by omega) ?_
  intro g101 w102 v103 ch104 o105 r106
  clear o_qL o92
  refine xp 25 rfl (fun w => a8 Try.underlying28 rfl rfl zs11 rfl) (dP 26 rfl (by kernel_rfl) rfl ?_)
  have C110 := cg [6, 8] (ch91.n.seq (ch98.n.seq (ch104.lx rfl rfl)))
  replace bx22 := bx22.ca C110
  refine bi (cs' := [qA_v, v103]) cH rfl rfl bx22 (bj o105.sl) (Nat.le_of_ble_eq_true rfl) (bM o105.sl) rfl ?_
  intro w107 ch108 bx109
  clear bx22
  refine j6 (by kernel_rfl) (ao ?_)
  clear o99 r106
  refine a6 rfl (mz zs13 (lx (aT (m := (e : Int)) (n := 1) rfl rfl (by omega)) (ai ((e : Int) + 1) (aa ?_))))
  have C112 := cg [3, 6, 8] (ch91.n.seq (ch98.n.seq ((ch104.lx rfl rfl).seq (ch108.l rfl))))
  have C111 := ch86.n.seq C112
  refine back12 (v103, (qL ++ [([(gI qA ((gI ((aA gw gh).2) (e : Int)).1)), (gI qA ((gI ((aA gw gh).2) (e : Int)).2))] : List ((Int) × (Int)))]), e + 1, g101) _ _ ⟨bH.ca C111, zs0, zs1, zs2, zs3, zs9, zs11, rfl, o7.ca C112, bx17.ca C112, bx109, o_qA.ca C112, o105.ce ch108, by omega, ?_⟩ ?_
  · show (qL ++ [([(gI qA ((gI ((aA gw gh).2) (e : Int)).1)), (gI qA ((gI ((aA gw gh).2) (e : Int)).2))] : List ((Int) × (Int)))]) = ((aA gw gh).2.take (e + 1)).map (pO qA)
    exact oq hql ‹_›
  · show Int.toNat (((List.length ((aA gw gh).2) : Int) : Int) - ((e + 1) : Int)) < Int.toNat (((List.length ((aA gw gh).2) : Int) : Int) - (e : Int))
    omega
 refine aj rfl (df p12) (aU rfl (a7 ?_))
 have hgp := sf (h := gh) (dx := dx) (dy := dy) hqa (by omega) hql ‹_›
 have hCk : aK (aA gw gh) (qA, qL) = ([], 0) := by rw [hgp]; exact px hw1 hh1 hdx1 hdy1
 have hLk : aL (aA gw gh) (qA, qL) = ((0, (gw - 1) * dx, (gh - 1) * dy, true, true), 0) := by rw [hgp]; exact ry hw1 hh1 hdx1 hdy1
 refine a6 rfl (lx (ad (ds := [vi ((aA gw gh).1), v6]) cj zs9 bx17 rfl rfl) (lx (ad (ds := [qA_v, qL_v]) co zs11 bx22 rfl rfl) (lo (cy (aw (vals := [vg [vi ((aA gw gh).1), v6], vg [qA_v, qL_v]]) Try.func11 ip ib rfl) (gS w83 (aA gw gh) v6 (o7.flat).ro (qA, qL) qA_v qL_v (o_qA.flat).ro (o_qL.sl).ro) ?_))))
 rintro ⟨d114, v116⟩ w113 ⟨fr115, o117⟩
 obtain ⟨g118, ch119, G118⟩ := m6 g84 fr115 (fun n => if n = 1 then 9 else 0)
 replace o117 := o117.gl G118 9
 refine mv (vt [v116, vi ((aK (aA gw gh) (qA, qL)).2)]) (lx (aW rfl rfl) (lx (aW rfl rfl) (ma v116 (ai ((aK (aA gw gh) (qA, qL)).2) (aa (a7 (a6 rfl ?_)))))))
 replace bx17 := bx17.cn ch119
 refine lx (ad (ds := [vi ((aA gw gh).1), v6]) cj zs9 bx17 rfl rfl) ?_
 replace bx22 := bx22.cn ch119
 refine lx (ad (ds := [qA_v, qL_v]) co zs11 bx22 rfl rfl) ?_
 replace o7 := o7.cn ch119
 replace o_qA := o_qA.cn ch119
 replace o_qL := o_qL.cn ch119
 refine lo (aF (v := vt [vg [vi (((aL (aA gw gh) (qA, qL)).1).1), vi ((((aL (aA gw gh) (qA, qL)).1).2).1), vi (((((aL (aA gw gh) (qA, qL)).1).2).2).1), Value.bool ((((((aL (aA gw gh) (qA, qL)).1).2).2).2).1), Value.bool ((((((aL (aA gw gh) (qA, qL)).1).2).2).2).2)], vi ((aL (aA gw gh) (qA, qL)).2)]) (aw (vals := [vg [vi ((aA gw gh).1), v6], vg [qA_v, qL_v]]) Try.func19 lM lb rfl) (jV w113 (aA gw gh) v6 (o7.flat).ro (qA, qL) qA_v qL_v (o_qA.flat).ro (o_qL.sl).ro) ?_)
 intro w120 hb121
 replace hb121 := ak hb121 g118
 refine mv (vt [vg [vi (((aL (aA gw gh) (qA, qL)).1).1), vi ((((aL (aA gw gh) (qA, qL)).1).2).1), vi (((((aL (aA gw gh) (qA, qL)).1).2).2).1), Value.bool ((((((aL (aA gw gh) (qA, qL)).1).2).2).2).1), Value.bool ((((((aL (aA gw gh) (qA, qL)).1).2).2).2).2)], vi ((aL (aA gw gh) (qA, qL)).2)]) (lx (aW rfl rfl) (lx (aW rfl rfl) (lo (aQ g118 (is 10) (10, 0) rfl cz ?_))))
 intro g125 w122 b124 ch123 bx126
 replace bx126 : Bx g125 (is 10) w122 b124 [vi 0, vi 0, vi 0, Value.bool false, Value.bool false] := bx126
 refine lo (ag (cs' := [vi (((aL (aA gw gh) (qA, qL)).1).1), vi ((((aL (aA gw gh) (qA, qL)).1).2).1), vi (((((aL (aA gw gh) (qA, qL)).1).2).2).1), Value.bool ((((((aL (aA gw gh) (qA, qL)).1).2).2).2).1), Value.bool ((((((aL (aA gw gh) (qA, qL)).1).2).2).2).2)]) cz rfl rfl bx126 rfl (Nat.le_of_ble_eq_true rfl) (AllOne.all (.cons rfl (.cons rfl (.cons rfl (.cons rfl (.cons rfl .nil)))))) rfl ?_)
 intro w127 ch128 bx129
 clear bx126
 refine ai ((aL (aA gw gh) (qA, qL)).2) (aa (a7 (a7 (a6 rfl (mv v116 ?_)))))
 have C130 := cg [10] (hb121.n.seq (ch123.n.seq (ch128.l rfl)))
 replace o117 := o117.ca C130
 have len131 := (o117.flat).small
 refine lx (bh Try.underlying36 rfl o117.flat) (lx (dC (m := (List.length ((aK (aA gw gh) (qA, qL)).1) : Int)) (n := 0) rfl rfl) (mv (Value.bool (!(decide ((List.length ((aK (aA gw gh) (qA, qL)).1) : Int) = 0)))) ?_))
 have q126 : (List.length ((aK (aA gw gh) (qA, qL)).1) : Int) = 0 := by (rw [hCk]; rfl)
 refine lv (vi ((aK (aA gw gh) (qA, qL)).2)) (wy (congrArg Bool.not (dt q126))) (aI rfl) (lv (Value.bool (!(decide (((aK (aA gw gh) (qA, qL)).2) = 0)))) (wy (congrArg Bool.not (dt q126))) (dC (m := (aK (aA gw gh) (qA, qL)).2) (n := 0) rfl rfl) (lw (Value.bool (!(decide (((aK (aA gw gh) (qA, qL)).2) = 0)))) (aD rfl (congrArg Bool.not (dt q126)) rfl) (mv (Value.bool (!(decide (((aK (aA gw gh) (qA, qL)).2) = 0)))) ?_)))
 have q130 : ((aK (aA gw gh) (qA, qL)).2) = 0 := by (rw [hCk]; done)
 refine lv (vi ((aL (aA gw gh) (qA, qL)).2)) (wy (congrArg Bool.not (dt q130))) (aI rfl) (lv (Value.bool (!(decide (((aL (aA gw gh) (qA, qL)).2) = 0)))) (wy (congrArg Bool.not (dt q130))) (dC (m := (aL (aA gw gh) (qA, qL)).2) (n := 0) rfl rfl) (lw (Value.bool (!(decide (((aL (aA gw gh) (qA, qL)).2) = 0)))) (aD rfl (congrArg Bool.not (dt q130)) rfl) (mv (Value.bool (!(decide (((aL (aA gw gh) (qA, qL)).2) = 0)))) ?_)))
 have q134 : ((aL (aA gw gh) (qA, qL)).2) = 0 := by (rw [hLk]; done)
 refine lv (vg [vi (((aL (aA gw gh) (qA, qL)).1).1), vi ((((aL (aA gw gh) (qA, qL)).1).2).1), vi (((((aL (aA gw gh) (qA, qL)).1).2).2).1), Value.bool ((((((aL (aA gw gh) (qA, qL)).1).2).2).2).1), Value.bool ((((((aL (aA gw gh) (qA, qL)).1).2).2).2).2)]) (wy (congrArg Bool.not (dt q134))) (ad (ds := [vi (((aL (aA gw gh) (qA, qL)).1).1), vi ((((aL (aA gw gh) (qA, qL)).1).2).1), vi (((((aL (aA gw gh) (qA, qL)).1).2).2).1), Value.bool ((((((aL (aA gw gh) (qA, qL)).1).2).2).2).1), Value.bool ((((((aL (aA gw gh) (qA, qL)).1).2).2).2).2)]) cz rfl bx129 rfl rfl) (lv (vi gw) (wy (congrArg Bool.not (dt q134))) (aI zs0) ?_)
 refine lv (vi (gw - 1)) (wy (congrArg Bool.not (dt q134))) (cZ (m := gw) (n := 1) rfl rfl (by omega)) (lv (vi dx) (wy (congrArg Bool.not (dt q134))) (aI zs2) (lv (vi ((gw - 1) * dx)) (wy (congrArg Bool.not (dt q134))) (cP (m := gw - 1) (n := dx) rfl rfl (by omega)) (lv (vi gh) (wy (congrArg Bool.not (dt q134))) (aI zs1) (lv (vi (gh - 1)) (wy (congrArg Bool.not (dt q134))) (cZ (m := gh) (n := 1) rfl rfl (by omega)) (lv (vi dy) (wy (congrArg Bool.not (dt q134))) (aI zs3) ?_)))))
 refine lv (vi ((gh - 1) * dy)) (wy (congrArg Bool.not (dt q134))) (cP (m := gh - 1) (n := dy) rfl rfl (by omega)) (lv (vg [vi 0, vi ((gw - 1) * dx), vi ((gh - 1) * dy), Value.bool true, Value.bool true]) (wy (congrArg Bool.not (dt q134))) (bz (vs := [(1, vi ((gw - 1) * dx)), (2, vi ((gh - 1) * dy)), (3, Value.bool true), (4, Value.bool true)]) rfl (by kernel_rfl)) ?_)
 refine lv (Value.bool (!(decide ((((aL (aA gw gh) (qA, qL)).1).1, (((aL (aA gw gh) (qA, qL)).1).2).1, ((((aL (aA gw gh) (qA, qL)).1).2).2).1, ((((((aL (aA gw gh) (qA, qL)).1).2).2).2).1), ((((((aL (aA gw gh) (qA, qL)).1).2).2).2).2)) = (0, (gw - 1) * dx, (gh - 1) * dy, true, true))))) (wy (congrArg Bool.not (dt q134))) (fb (bs := [decide ((((aL (aA gw gh) (qA, qL)).1).1) = 0), decide (((((aL (aA gw gh) (qA, qL)).1).2).1) = ((gw - 1) * dx)), decide ((((((aL (aA gw gh) (qA, qL)).1).2).2).1) = ((gh - 1) * dy)), decide (((((((aL (aA gw gh) (qA, qL)).1).2).2).2).1) = true), decide (((((((aL (aA gw gh) (qA, qL)).1).2).2).2).2) = true)]) Try.underlying52 (by kernel_rfl) (by kernel_rfl) rfl rfl (.cons (by decide +kernel) aq rfl rfl (.int Try.underlying3) (.cons (by decide +kernel) aq rfl rfl (.int Try.underlying3) (.cons (by decide +kernel) aq rfl rfl (.int Try.underlying3) (.cons (by decide +kernel) fS rfl rfl (.bool Try.underlying4) (.cons (by decide +kernel) fS rfl rfl (.bool Try.underlying4) .nil))))) (by simp [Prod.ext_iff, Bool.decide_and, Bool.and_assoc])) ?_
 refine lw (Value.bool (!(decide ((((aL (aA gw gh) (qA, qL)).1).1, (((aL (aA gw gh) (qA, qL)).1).2).1, ((((aL (aA gw gh) (qA, qL)).1).2).2).1, ((((((aL (aA gw gh) (qA, qL)).1).2).2).2).1), ((((((aL (aA gw gh) (qA, qL)).1).2).2).2).2)) = (0, (gw - 1) * dx, (gh - 1) * dy, true, true))))) (aD rfl (congrArg Bool.not (dt q134)) rfl) (aa ?_)
 have p17 : (((aL (aA gw gh) (qA, qL)).1).1, (((aL (aA gw gh) (qA, qL)).1).2).1, ((((aL (aA gw gh) (qA, qL)).1).2).2).1, ((((((aL (aA gw gh) (qA, qL)).1).2).2).2).1), ((((((aL (aA gw gh) (qA, qL)).1).2).2).2).2)) = (0, (gw - 1) * dx, (gh - 1) * dy, true, true) := by (rw [hLk]; done)
 refine aj rfl (congrArg Bool.not (dt p17)) (am (a7 (a7 ?_)))
 clear o117 bx129
 refine a6 rfl (lx (a8 Try.underlying24 rfl rfl zs9 rfl) ?_)
 replace bx17 := bx17.ca C130
 refine lx (af aq rfl bx17 rfl) (lx (b9 (m := (aA gw gh).1) (n := 2) rfl rfl) (aa ?_))
 by_cases p19 : ((aA gw gh).1) < 2
 ·
  refine ah rfl (dt p19) (a7 ?_)
  clear o7 bx17 bx22 o_qA o_qL
  refine a6 rfl (ma (Value.bool true) (aa (al (vs := [Value.bool true]) Try.func7 (.tmp rfl .nil) ?_)))
  have e0 : (true : Bool) = (true) := by
    rfl
  have C132 := cg [10] (ch119.n.seq (hb121.n.seq (ch123.n.seq (ch128.l rfl))))
  replace bH := bH.ca C132
  exact ⟨(congrArg (a₁ := true) (fun (z0 : Bool) => Ending.returned (Value.bool z0)) e0), bH.below⟩
 refine aj rfl (df p19) (am (a7 (eb g125 [0, 1, 2, 3, 4, 5, 6, 7, 8, 9] gK ?_)))
 intro w134 ch133
 refine xp 0 rfl (fun w => a8 Try.underlying28 rfl rfl zs11 rfl) ?_
 have C135 := cg [10] (hb121.n.seq (ch123.n.seq ((ch128.l rfl).seq ch133.n)))
 replace bx22 := bx22.ca C135
 refine xv 1 [0, 2, 5, 3, 6, 4, 7, 8] rfl (af bk rfl bx22 rfl) (xp 2 rfl (fun w => a8 Try.underlying24 rfl rfl zs9 rfl) ?_)
 replace bx17 := bx17.cn ch133
 refine xv 3 [2, 1, 0, 5, 6, 7, 8] rfl (af aq rfl bx17 rfl) (xp 4 rfl (fun w => cZ (m := (aA gw gh).1) (n := 1) rfl rfl (by omega)) (xp 5 rfl (fun w => a8 Try.underlying28 rfl rfl zs11 rfl) (xv 6 [5, 4, 3, 2, 1, 0] rfl (af bk rfl bx22 rfl) ?_)))
 replace o_qA := o_qA.ca C135
 refine xv 7 [6, 5, 4, 3, 2, 1, 0] rfl (ar (v := qA_v) (i := 0) Try.underlying25 rfl rfl o_qA.flat rfl (by omega) (by omega)) (xv (v := vg [vi ((gI qA 0).1), vi ((gI qA 0).2)]) 8 [7, 6, 5, 4, 3, 2, 1, 0] rfl (aN (v := qA_v) (i := 0) ab rfl o_qA.flat (by omega) (by omega) rfl) (xv 9 [8, 7, 6, 5, 4, 3, 2, 1, 0] rfl (ar (v := qA_v) (i := ((aA gw gh).1) - 1) Try.underlying25 rfl rfl o_qA.flat rfl (by omega) (by omega)) (dP 10 rfl (by kernel_rfl) rfl (gi (i := ((aA gw gh).1) - 1) (gI qA 0) ab rfl rfl o_qA (by omega) (by omega) rfl ?_))))
 intro w136 ch137 bx138
 clear o_qA
 refine j6 (by kernel_rfl) (a7 ?_)
 have hgp2 := qU hgp
 have hFl := s2 hw1 hh1 hdx1 hdy1 (by omega)
 rw [← hgp2] at hFl
 refine a6 rfl ?_
 replace bx17 := bx17.ce ch137
 refine lx (ad (ds := [vi ((aA gw gh).1), v6]) cj zs9 bx17 rfl rfl) ?_
 replace bx22 := bx22.ce ch137
 refine lx (ad (ds := [qA_v, qL_v]) co zs11 bx22 rfl rfl) ?_
 have C139 := cg [5, 10] (hb121.n.seq (ch123.n.seq ((ch128.l rfl).seq (ch133.n.seq (ch137.l rfl)))))
 replace o7 := o7.ca C139
 replace o_qL := o_qL.ca C139
 refine lo (cy (aw (vals := [vg [vi ((aA gw gh).1), v6], vg [qA_v, qL_v]]) Try.func11 ip ib rfl) (gS w136 (aA gw gh) v6 (o7.flat).ro ((List.set qA (Int.toNat (((aA gw gh).1) - 1)) (gI qA 0)), qL) qA_v qL_v (bx138.flat).ro (o_qL.sl).ro) ?_)
 rintro ⟨d141, v143⟩ w140 ⟨fr142, o144⟩
 obtain ⟨g145, ch146, G145⟩ := m6 g125 fr142 (fun n => if n = 1 then 11 else 0)
 replace o144 := o144.gl G145 11
 refine mv (vt [v143, vi ((aK (aA gw gh) ((List.set qA (Int.toNat (((aA gw gh).1) - 1)) (gI qA 0)), qL)).2)]) (lx (aW rfl rfl) (lx (aW rfl rfl) (ma v143 (aa (a7 ?_)))))
 clear bx22 o_qL bx138
 refine cl g145 rfl gK (by kernel_rfl) ?_
 intro w148 ch147
 refine qm v143 ?_
 replace o144 := o144.cn ch147
 have len149 := (o144.flat).small
 refine qx (fun w' hw' => bh Try.underlying36 rfl (o144.flat.bel hw')) (qx (fun w' hw' => bQ (m := (List.length ((aK (aA gw gh) ((List.set qA (Int.toNat (((aA gw gh).1) - 1)) (gI qA 0)), qL)).1) : Int)) (n := 0) rfl rfl) (qm (Value.bool (decide (0 < (List.length ((aK (aA gw gh) ((List.set qA (Int.toNat (((aA gw gh).1) - 1)) (gI qA 0)), qL)).1) : Int)))) ?_))
 have q169 : 0 < (List.length ((aK (aA gw gh) ((List.set qA (Int.toNat (((aA gw gh).1) - 1)) (gI qA 0)), qL)).1) : Int) := by exact hFl.1.1
 refine b6 (v := v143) (wy (dt q169)) (fun w' hw' => aI rfl) (b6 (v := Value.pointer (some (bF v143 3 (Int.toNat 0)))) (wy (dt q169)) (fun w' hw' => ar (α := (Int) × (Int) × (Int)) (xs := (aK (aA gw gh) ((List.set qA (Int.toNat (((aA gw gh).1) - 1)) (gI qA 0)), qL)).1) (v := v143) (i := 0) Try.underlying36 rfl rfl (o144.flat.bel hw') rfl (by omega) (by omega)) ?_)
 refine b6 (v := vg [vi ((gI ((aK (aA gw gh) ((List.set qA (Int.toNat (((aA gw gh).1) - 1)) (gI qA 0)), qL)).1) 0).1), vi (((gI ((aK (aA gw gh) ((List.set qA (Int.toNat (((aA gw gh).1) - 1)) (gI qA 0)), qL)).1) 0).2).1), vi (((gI ((aK (aA gw gh) ((List.set qA (Int.toNat (((aA gw gh).1) - 1)) (gI qA 0)), qL)).1) 0).2).2)]) (wy (dt q169)) (fun w' hw' => aN (α := (Int) × (Int) × (Int)) (xs := (aK (aA gw gh) ((List.set qA (Int.toNat (((aA gw gh).1) - 1)) (gI qA 0)), qL)).1) (v := v143) (i := 0) bC rfl (o144.flat.bel hw') (by omega) (by omega) rfl) (b6 (v := vp b12 0) (wy (dt q169)) (fun w' hw' => a8 Try.underlying24 rfl rfl zs9 rfl) ?_)
 replace bx17 := (bx17.cn ch146).cn ch147
 refine b6 (v := vi ((aA gw gh).1)) (wy (dt q169)) (fun w' hw' => af aq rfl (bx17.bel hw') rfl) (b6 (v := vi (((aA gw gh).1) - 1)) (wy (dt q169)) (fun w' hw' => cZ (m := (aA gw gh).1) (n := 1) rfl rfl (by omega)) (b6 (v := vg [vi 4, vi 0, vi (((aA gw gh).1) - 1)]) (wy (dt q169)) (fun w' hw' => bz (vs := [(0, vi 4), (1, vi 0), (2, vi (((aA gw gh).1) - 1))]) rfl (by kernel_rfl)) ?_))
 refine b6 (v := Value.bool (decide (((gI ((aK (aA gw gh) ((List.set qA (Int.toNat (((aA gw gh).1) - 1)) (gI qA 0)), qL)).1) 0).1, ((gI ((aK (aA gw gh) ((List.set qA (Int.toNat (((aA gw gh).1) - 1)) (gI qA 0)), qL)).1) 0).2).1, ((gI ((aK (aA gw gh) ((List.set qA (Int.toNat (((aA gw gh).1) - 1)) (gI qA 0)), qL)).1) 0).2).2) = (4, 0, ((aA gw gh).1) - 1)))) (wy (dt q169)) (fun w' hw' => dI (bs := [decide (((gI ((aK (aA gw gh) ((List.set qA (Int.toNat (((aA gw gh).1) - 1)) (gI qA 0)), qL)).1) 0).1) = 4), decide ((((gI ((aK (aA gw gh) ((List.set qA (Int.toNat (((aA gw gh).1) - 1)) (gI qA 0)), qL)).1) 0).2).1) = 0), decide ((((gI ((aK (aA gw gh) ((List.set qA (Int.toNat (((aA gw gh).1) - 1)) (gI qA 0)), qL)).1) 0).2).2) = (((aA gw gh).1) - 1))]) Try.underlying56 (by kernel_rfl) (by kernel_rfl) rfl rfl (.cons (by decide +kernel) aq rfl rfl (.int Try.underlying3) (.cons (by decide +kernel) aq rfl rfl (.int Try.underlying3) (.cons (by decide +kernel) aq rfl rfl (.int Try.underlying3) .nil))) (by simp [Prod.ext_iff, Bool.decide_and, Bool.and_assoc])) ?_
 refine qv (Value.bool (decide (((gI ((aK (aA gw gh) ((List.set qA (Int.toNat (((aA gw gh).1) - 1)) (gI qA 0)), qL)).1) 0).1, ((gI ((aK (aA gw gh) ((List.set qA (Int.toNat (((aA gw gh).1) - 1)) (gI qA 0)), qL)).1) 0).2).1, ((gI ((aK (aA gw gh) ((List.set qA (Int.toNat (((aA gw gh).1) - 1)) (gI qA 0)), qL)).1) 0).2).2) = (4, 0, ((aA gw gh).1) - 1)))) (fun w' hw' => au rfl (dt q169) rfl) (qm (Value.bool (decide (((gI ((aK (aA gw gh) ((List.set qA (Int.toNat (((aA gw gh).1) - 1)) (gI qA 0)), qL)).1) 0).1, ((gI ((aK (aA gw gh) ((List.set qA (Int.toNat (((aA gw gh).1) - 1)) (gI qA 0)), qL)).1) 0).2).1, ((gI ((aK (aA gw gh) ((List.set qA (Int.toNat (((aA gw gh).1) - 1)) (gI qA 0)), qL)).1) 0).2).2) = (4, 0, ((aA gw gh).1) - 1)))) ?_)
 have q179 : ((gI ((aK (aA gw gh) ((List.set qA (Int.toNat (((aA gw gh).1) - 1)) (gI qA 0)), qL)).1) 0).1, ((gI ((aK (aA gw gh) ((List.set qA (Int.toNat (((aA gw gh).1) - 1)) (gI qA 0)), qL)).1) 0).2).1, ((gI ((aK (aA gw gh) ((List.set qA (Int.toNat (((aA gw gh).1) - 1)) (gI qA 0)), qL)).1) 0).2).2) = (4, 0, ((aA gw gh).1) - 1) := by exact hFl.1.2
 refine b6 (v := v143) (wy (dt q179)) (fun w' hw' => aI rfl) (b6 (v := vi (List.length ((aK (aA gw gh) ((List.set qA (Int.toNat (((aA gw gh).1) - 1)) (gI qA 0)), qL)).1) : Int)) (wy (dt q179)) (fun w' hw' => bh Try.underlying36 rfl (o144.flat.bel hw')) (b6 (v := Value.bool (decide ((List.length ((aK (aA gw gh) ((List.set qA (Int.toNat (((aA gw gh).1) - 1)) (gI qA 0)), qL)).1) : Int) = 1))) (wy (dt q179)) (fun w' hw' => bO (m := (List.length ((aK (aA gw gh) ((List.set qA (Int.toNat (((aA gw gh).1) - 1)) (gI qA 0)), qL)).1) : Int)) (n := 1) rfl rfl) ?_))
 refine b6 (v := Value.bool (decide ((List.length ((aK (aA gw gh) ((List.set qA (Int.toNat (((aA gw gh).1) - 1)) (gI qA 0)), qL)).1) : Int) = 1))) (wy (dt q179)) (fun w' hw' => aI rfl) ?_
 by_cases q183 : (List.length ((aK (aA gw gh) ((List.set qA (Int.toNat (((aA gw gh).1) - 1)) (gI qA 0)), qL)).1) : Int) = 1
 ·
  refine aV (wn (dt q183)) (aV (wn (dt q183)) (aV (wn (dt q183)) (aV (wn (dt q183)) (aV (wn (dt q183)) (b6 (v := Value.bool true) (wy (dt q179)) (fun w' hw' => au rfl (dt q183) rfl) (qv (Value.bool true) (fun w' hw' => au rfl (dt q179) rfl) (qv (Value.bool true) (fun w' hw' => bP rfl) (dp ?_))))))))
  intro w150 hc151
  replace hc151 := ak hc151 g145
  refine al (vs := [Value.bool true]) Try.func7 (.tmp rfl .nil) ?_
  have e0 : (true : Bool) = (true) := by
    rfl
  have C152 := cg [5, 10] (ch119.n.seq (hb121.n.seq (ch123.n.seq ((ch128.l rfl).seq (ch133.n.seq ((ch137.l rfl).seq (ch146.n.seq (ch147.n.seq hc151.n))))))))
  replace bH := bH.ca C152
  exact ⟨(congrArg (a₁ := true) (fun (z0 : Bool) => Ending.returned (Value.bool z0)) e0), bH.below⟩
 refine b6 (v := v143) (wy (df q183)) (fun w' hw' => aI rfl) (b6 (v := Value.pointer (some (bF v143 3 (Int.toNat 1)))) (wy (df q183)) (fun w' hw' => ar (α := (Int) × (Int) × (Int)) (xs := (aK (aA gw gh) ((List.set qA (Int.toNat (((aA gw gh).1) - 1)) (gI qA 0)), qL)).1) (v := v143) (i := 1) Try.underlying36 rfl rfl (o144.flat.bel hw') rfl (by omega) (by omega)) (b6 (v := Value.pointer (some ⟨(bF v143 3 (Int.toNat 1)).block, (bF v143 3 (Int.toNat 1)).off + 0, none⟩)) (wy (df q183)) (fun w' hw' => iE Try.underlying56 rfl rfl rfl rfl) ?_))
 refine b6 (v := vi ((gI ((aK (aA gw gh) ((List.set qA (Int.toNat (((aA gw gh).1) - 1)) (gI qA 0)), qL)).1) 1).1)) (wy (df q183)) (fun w' hw' => eY (α := (Int) × (Int) × (Int)) (xs := (aK (aA gw gh) ((List.set qA (Int.toNat (((aA gw gh).1) - 1)) (gI qA 0)), qL)).1) (v := v143) (i := 1) aq rfl (o144.flat.bel hw') (by omega) (by omega) (by decide) rfl) (b6 (v := Value.bool (decide (4 < ((gI ((aK (aA gw gh) ((List.set qA (Int.toNat (((aA gw gh).1) - 1)) (gI qA 0)), qL)).1) 1).1)))) (wy (df q183)) (fun w' hw' => bQ (m := (gI ((aK (aA gw gh) ((List.set qA (Int.toNat (((aA gw gh).1) - 1)) (gI qA 0)), qL)).1) 1).1) (n := 4) rfl rfl) ?_)
 refine b6 (v := Value.bool (decide (4 < ((gI ((aK (aA gw gh) ((List.set qA (Int.toNat (((aA gw gh).1) - 1)) (gI qA 0)), qL)).1) 1).1)))) (wy (dt q179)) (fun w' hw' => aD rfl (df q183) rfl) (qv (Value.bool (decide (4 < ((gI ((aK (aA gw gh) ((List.set qA (Int.toNat (((aA gw gh).1) - 1)) (gI qA 0)), qL)).1) 1).1)))) (fun w' hw' => au rfl (dt q179) rfl) (qv (Value.bool (decide (4 < ((gI ((aK (aA gw gh) ((List.set qA (Int.toNat (((aA gw gh).1) - 1)) (gI qA 0)), qL)).1) 1).1)))) (fun w' hw' => bP rfl) (dp ?_)))
 intro w153 hc154
 replace hc154 := ak hc154 g145
 refine al (vs := [Value.bool (decide (4 < ((gI ((aK (aA gw gh) ((List.set qA (Int.toNat (((aA gw gh).1) - 1)) (gI qA 0)), qL)).1) 1).1)))]) Try.func7 (.tmp rfl .nil) ?_
 have e0 : (decide (4 < ((gI ((aK (aA gw gh) ((List.set qA (Int.toNat (((aA gw gh).1) - 1)) (gI qA 0)), qL)).1) 1).1)) : Bool) = (true) := by
   exact dt (hFl.2.resolve_left ‹_›)
 have C155 := cg [5, 10] (ch119.n.seq (hb121.n.seq (ch123.n.seq ((ch128.l rfl).seq (ch133.n.seq ((ch137.l rfl).seq (ch146.n.seq (ch147.n.seq hc154.n))))))))
 replace bH := bH.ca C155
 exact ⟨(congrArg (a₁ := decide (4 < ((gI ((aK (aA gw gh) ((List.set qA (Int.toNat (((aA gw gh).1) - 1)) (gI qA 0)), qL)).1) 1).1))) (fun (z0 : Bool) => Ending.returned (Value.bool z0)) e0), bH.below⟩
end TL
