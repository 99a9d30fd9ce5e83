import Derived.Test.YtbadiajeohbpcaaGTlP2
import Derived.Test.YtbadiajeohbpcaaGTlGenA
import Derived.Test.YtbadiajeohbpcaaProg
set_option linter.all false
set_option maxRecDepth 20000
namespace TL
open Go Go.Proofs
theorem ob : Try.prog.follows .mixedOrders = true := by kernel_rfl
theorem fg : Tp Try.prog 24 true 2 32 (.agg #[.int .i64 0, .slice none 0 0]) := Tp.of (by kernel_rfl)
theorem js : Try.f45.body.isNone = false := rfl
theorem jj : (Try.f45.name == "runtime.NumGoroutine") = false := by decide +kernel
theorem qM : Try.f46.body.isNone = false := rfl
theorem qk : (Try.f46.name == "runtime.NumGoroutine") = false := by decide +kernel
theorem oP : Try.f47.body.isNone = false := rfl
theorem pj : (Try.f47.name == "runtime.NumGoroutine") = false := by decide +kernel
theorem oY : Try.f48.body.isNone = false := rfl
theorem pz : (Try.f48.name == "runtime.NumGoroutine") = false := by decide +kernel
theorem jB : Try.f49.body.isNone = false := rfl
theorem jv : (Try.f49.name == "runtime.NumGoroutine") = false := by decide +kernel
theorem gb (w0 : World) (a : Int) (b : Int) (ha : 0 ≤ a ∧ a ≤ 10) (hb : 0 ≤ b ∧ b ≤ 10) :
    Calls Try.prog 45 #[vi a, vi b] w0 (fun ee w => ee = .returned (vi (a * b)) ∧ cQ w0.heap.size w0 w) := by
 refine aC Try.func45 rfl (Nat.le_of_ble_eq_true rfl) ?_
 have bH := bf.start w0
 have hab := fj (A := 10) (B := 10) ha hb
 refine a7 (a6 rfl (ai 0 (aa (a7 (a7 (a6 rfl (mi a (lx (b9 (m := a) (n := 0) rfl rfl) (mv (Value.bool (decide (a < 0))) ?_)))))))))
 have q7 : ¬ (a < 0) := by omega
 refine lv (vi b) (wy (df q7)) (aI rfl) (lv (Value.bool (decide (b < 0))) (wy (df q7)) (b9 (m := b) (n := 0) rfl rfl) (lw (Value.bool (decide (b < 0))) (aD rfl (df q7) rfl) (mv (Value.bool (decide (b < 0))) ?_)))
 have q11 : ¬ (b < 0) := by omega
 refine lv (vi a) (wy (df q11)) (aI rfl) (lv (Value.bool (decide (3072 < a))) (wy (df q11)) (bQ (m := a) (n := 3072) rfl rfl) (lw (Value.bool (decide (3072 < a))) (aD rfl (df q11) rfl) (mv (Value.bool (decide (3072 < a))) ?_)))
 have q15 : ¬ (3072 < a) := by omega
 refine lv (vi b) (wy (df q15)) (aI rfl) (lv (Value.bool (decide (3072 < b))) (wy (df q15)) (bQ (m := b) (n := 3072) rfl rfl) (lw (Value.bool (decide (3072 < b))) (aD rfl (df q15) rfl) (aa ?_)))
 have p1 : ¬ (3072 < b) := by omega
 refine aj rfl (df p1) (am (a7 (a6 rfl (mi a (mi b (lx (cP (m := a) (n := b) rfl rfl (by omega)) (ai (a * b) (aa (al (vs := [vi (a * b)]) Try.func45 (.tmp rfl .nil) ?_)))))))))
 have e0 : (a * b : Int) = (a * b) := by
   rfl
 exact ⟨(congrArg (a₁ := a * b) (fun (z0 : Int) => Ending.returned (vi z0)) e0), bH.below⟩
theorem nc (w0 : World) (iI : Int) (numbers : List Int) (numbers_v : Value) (hnumbers_v : Ro w0 numbers_v numbers) (n : Int) (m : Int) (hk : ∀ k ∈ numbers, iI ≤ k ∧ k ≤ 100) (hn : n ≤ 1000) (hm : m ≤ 1000) :
    Calls Try.prog 47 #[vi iI, numbers_v, vi n, vi m] w0 (fun ee w => ee = .returned (vi 0) ∧ cQ w0.heap.size w0 w) := by
 refine aC Try.func47 rfl (Nat.le_of_ble_eq_true rfl) ?_
 have bH := bf.start w0
 have Rnumbers := hnumbers_v.sl
 refine a7 (a6 rfl (ai 0 (aa (a7 (a7 (a6 rfl (mv numbers_v ?_)))))))
 have len1 := (Rnumbers).small
 refine lx (bh Try.underlying39 rfl Rnumbers) (mi 0 (aa (av ?_)))
 refine ba (σ := Nat × aP) (fun ⟨k, gq⟩ f w => bf w0 gq w ∧ f 0 = vi iI ∧ f 1 = numbers_v ∧ f 2 = vi n ∧ f 3 = vi m ∧ f 13 = numbers_v ∧ f 14 = vi (numbers.length : Int) ∧ f 15 = vi (k : Int) ∧ Sl gq (is 0) w numbers_v numbers ∧ (k : Int) ≤ ((numbers.length : Int) : Int) ∧ True) (fun ⟨k, gq⟩ => Int.toNat (((numbers.length : Int) : Int) - (k : Int))) (0, c0) ?_ ?_
 · exact ⟨bH, rfl, rfl, rfl, rfl, rfl, rfl, rfl, Rnumbers, by omega, trivial⟩
 clear Rnumbers bH
 rintro ⟨k, g4⟩ f2 w3 ⟨bH, zs0, zs1, zs2, zs3, zs13, zs14, zs15, Rnumbers, hle_k, hinv2⟩ back2
 refine a7 (a6 rfl (lx (b9 (m := (k : Int)) (n := (numbers.length : Int)) zs15 zs14) (aa (a7 ?_))))
 by_cases p2 : (k : Int) < (numbers.length : Int)
 ·
  refine ah rfl (dt p2) ?_
  have hkk := hk _ (bq (xs := numbers) (i := (k : Int)) (by omega) ‹_›)
  refine am (a7 (av (a7 (a6 rfl (lx (ar (v := numbers_v) (i := (k : Int)) Try.underlying39 rfl zs13 Rnumbers zs15 (by omega) (by omega)) (lx (c5 (v := numbers_v) (i := (k : Int)) aq rfl Rnumbers (by omega) (by omega) (by decide) rfl) (ai (gI numbers (k : Int)) (aa (a7 (a6 rfl (mi (gI numbers (k : Int)) (mz zs0 ?_))))))))))))
  refine lx (b9 (m := (gI numbers (k : Int))) (n := iI) rfl rfl) (aa ?_)
  have p4 : ¬ ((gI numbers (k : Int)) < iI) := by omega
  refine aj rfl (df p4) (am (ao (a6 rfl (lx (aT (m := (k : Int)) (n := 1) zs15 rfl (by omega)) (mi ((k : Int) + 1) (aa ?_))))))
  refine back2 (k + 1, g4) _ _ ⟨bH, zs0, zs1, zs2, zs3, zs13, zs14, rfl, Rnumbers, by omega, ?_⟩ ?_
  · trivial
  · show Int.toNat (((numbers.length : Int) : Int) - ((k + 1) : Int)) < Int.toNat (((numbers.length : Int) : Int) - (k : Int))
    omega
 refine aj rfl (df p2) (aU rfl (a7 (a7 (a6 rfl (mz zs1 (lx (bh Try.underlying39 rfl Rnumbers) (mi 0 (aa (av ?_)))))))))
 refine ba (σ := Nat × aP) (fun ⟨j, gq⟩ f w => bf w0 gq w ∧ f 2 = vi n ∧ f 3 = vi m ∧ f 23 = numbers_v ∧ f 24 = vi (numbers.length : Int) ∧ f 25 = vi (j : Int) ∧ Sl gq (is 0) w numbers_v numbers ∧ (j : Int) ≤ ((numbers.length : Int) : Int) ∧ True) (fun ⟨j, gq⟩ => Int.toNat (((numbers.length : Int) : Int) - (j : Int))) (0, g4) ?_ ?_
 · exact ⟨bH, zs2, zs3, rfl, rfl, rfl, Rnumbers, by omega, trivial⟩
 clear Rnumbers bH
 rintro ⟨j, g7⟩ f5 w6 ⟨bH, zs2, zs3, zs23, zs24, zs25, Rnumbers, hle_j, hinv8⟩ back8
 refine a7 (a6 rfl (lx (b9 (m := (j : Int)) (n := (numbers.length : Int)) zs25 zs24) (aa (a7 ?_))))
 by_cases p8 : (j : Int) < (numbers.length : Int)
 ·
  refine ah rfl (dt p8) ?_
  have hkk := hk _ (bq (xs := numbers) (i := (j : Int)) (by omega) ‹_›)
  refine am (a7 (av (a7 (a6 rfl (lx (ar (v := numbers_v) (i := (j : Int)) Try.underlying39 rfl zs23 Rnumbers zs25 (by omega) (by omega)) (lx (c5 (v := numbers_v) (i := (j : Int)) aq rfl Rnumbers (by omega) (by omega) (by decide) rfl) (ai (gI numbers (j : Int)) (aa (a7 (a6 rfl (mi (gI numbers (j : Int)) (lx (bQ (m := (gI numbers (j : Int))) (n := 3072) rfl rfl) ?_))))))))))))
  refine aa ?_
  have p10 : ¬ (3072 < (gI numbers (j : Int))) := by omega
  refine aj rfl (df p10) (am (ao (a6 rfl (lx (aT (m := (j : Int)) (n := 1) zs25 rfl (by omega)) (mi ((j : Int) + 1) (aa ?_))))))
  refine back8 (j + 1, g7) _ _ ⟨bH, zs2, zs3, zs23, zs24, rfl, Rnumbers, by omega, ?_⟩ ?_
  · trivial
  · show Int.toNat (((numbers.length : Int) : Int) - ((j + 1) : Int)) < Int.toNat (((numbers.length : Int) : Int) - (j : Int))
    omega
 refine aj rfl (df p8) (aU rfl (a7 (a7 (a6 rfl (mz zs2 (lx (bQ (m := n) (n := 1024) rfl rfl) (mv (Value.bool (decide (1024 < n))) ?_)))))))
 have q34 : ¬ (1024 < n) := by omega
 refine lv (vi m) (wy (df q34)) (aI zs3) (lv (Value.bool (decide (3072 < m))) (wy (df q34)) (bQ (m := m) (n := 3072) rfl rfl) (lw (Value.bool (decide (3072 < m))) (aD rfl (df q34) rfl) (aa ?_)))
 have p13 : ¬ (3072 < m) := by omega
 refine aj rfl (df p13) (am (a7 (a6 rfl (ai 0 (aa (al (vs := [vi 0]) Try.func47 (.tmp rfl .nil) ?_))))))
 have e0 : (0 : Int) = (0) := by
   rfl
 exact ⟨(congrArg (a₁ := 0) (fun (z0 : Int) => Ending.returned (vi z0)) e0), bH.below⟩
set_option maxHeartbeats 4000000 in
theorem pd (w0 : World) (gw : Int) (gh : Int) (hw : 1 ≤ gw ∧ gw ≤ 6) (hh : 1 ≤ gh ∧ gh ≤ 5) :
    Calls Try.prog 24 #[vi gw, vi gh] w0 (fun ee w => ∃ xx : aP × Value, ee = .returned ((fun ⟨δ, rv0⟩ => vt [vg [vi ((aA gw gh).1), rv0], vi 0]) xx) ∧ (fun (⟨δ, rv0⟩ : aP × Value) (w : World) => fB w0 δ w ∧ Ow δ (is 1) (is 1) w rv0 ((aA gw gh).2)) xx w) := by
 refine aC Try.func24 rfl (Nat.le_of_ble_eq_true rfl) ?_
 have bH := bf.start w0
 have hm1 := fj (A := 10) (B := 10) (a := gw) (b := gh) (by omega) (by omega)
 have hm2 := fj (A := 10) (B := 10) (a := gw - 1) (b := gh) (by omega) (by omega)
 have hm3 := fj (A := 10) (B := 10) (a := gw) (b := gh - 1) (by omega) (by omega)
 refine a7 (a6 rfl (bY rfl (bA c0 (is 1) (1, 0) rfl rfl ?_)))
 intro g4 w1 b3 ch2 bx5
 replace bx5 : Bx g4 (is 1) w1 b3 [vi gw] := bx5
 refine lo (bA g4 (is 2) (2, 0) rfl rfl ?_)
 intro g9 w6 b8 ch7 bx10
 replace bx10 : Bx g9 (is 2) w6 b8 [vi gh] := bx10
 refine lo (aQ g9 (is 3) (3, 0) rfl fg ?_)
 intro g14 w11 b13 ch12 bx15
 replace bx15 : Bx g14 (is 3) w11 b13 [vi 0, vn] := bx15
 refine ai 0 (aa (a7 (a6 rfl ?_)))
 replace bx5 := (bx5.cn ch7).cn ch12
 refine lx (af aq rfl bx5 rfl) ?_
 replace bx10 := bx10.cn ch12
 refine lx (af aq rfl bx10 rfl) (lo (aF (v := vi (gw * gh)) (aw (vals := [vi gw, vi gh]) Try.func45 js jj rfl) (gb w11 gw gh (by omega) (by omega)) ?_))
 intro w16 hb17
 replace hb17 := ak hb17 g14
 refine ai (gw * gh) (aa (a7 (cl g14 rfl ob (by kernel_rfl) ?_)))
 intro w19 ch18
 replace bx5 := (bx5.cn hb17).cn ch18
 refine qx (fun w' hw' => af aq rfl (bx5.bel hw') rfl) (qx (fun w' hw' => cZ (m := gw) (n := 1) rfl rfl (by omega)) ?_)
 replace bx10 := (bx10.cn hb17).cn ch18
 refine qx (fun w' hw' => af aq rfl (bx10.bel hw') rfl) (dD (v := vi ((gw - 1) * gh)) rfl (fun w' hw' => aw (vals := [vi (gw - 1), vi gh]) Try.func45 js jj rfl) (fun w' hw' => (gb w' (gw - 1) gh (by omega) (by omega)).mono fun e w2 h2 => ⟨h2.1, hw'.trans (h2.2.mono hw'.size)⟩) (qx (fun w' hw' => af aq rfl (bx5.bel hw') rfl) (qx (fun w' hw' => af aq rfl (bx10.bel hw') rfl) (qx (fun w' hw' => cZ (m := gh) (n := 1) rfl rfl (by omega)) (dD (v := vi (gw * (gh - 1))) rfl (fun w' hw' => aw (vals := [vi gw, vi (gh - 1)]) Try.func45 js jj rfl) (fun w' hw' => (gb w' gw (gh - 1) (by omega) (by omega)).mono fun e w2 h2 => ⟨h2.1, hw'.trans (h2.2.mono hw'.size)⟩) ?_)))))
 refine qx (fun w' hw' => aT (m := (gw - 1) * gh) (n := gw * (gh - 1)) rfl rfl (by omega)) (qv (vi (((gw - 1) * gh) + (gw * (gh - 1)))) (fun w' hw' => bP rfl) (dp ?_))
 intro w20 hc21
 replace hc21 := ak hc21 g14
 refine a7 (a6 rfl ?_)
 replace bx5 := bx5.cn hc21
 refine lx (af aq rfl bx5 rfl) ?_
 replace bx10 := bx10.cn hc21
 refine lx (af aq rfl bx10 rfl) (lo (aJ (α := Int) g14 (is 4) (is 4) (4, 0) rfl [gw, gh] Try.underlying39 aq (by decide) (by decide) (vs := [(0, vi gw), (1, vi gh)]) rfl rfl (.cons rfl (.cons rfl .nil)) ?_))
 intro g22 w23 v24 ch25 o26
 refine mi (gw * gh) (mi (((gw - 1) * gh) + (gw * (gh - 1))) (lo (aF (v := vi 0) (aw (vals := [vi 1, v24, vi (gw * gh), vi (((gw - 1) * gh) + (gw * (gh - 1)))]) Try.func47 oP pj rfl) (nc w23 1 ([gw, gh]) v24 (o26.flat).ro (gw * gh) (((gw - 1) * gh) + (gw * (gh - 1))) (by exact (fun k hk => by simp only [List.mem_cons, List.not_mem_nil, or_false] at hk; rcases hk with rfl | rfl <;> omega)) (by omega) (by omega)) ?_)))
 intro w27 hb28
 replace hb28 := ak hb28 g22
 refine mi (gw * gh) (lw (Value.func (.func 48) #[] (List.toArray [vp b8 0, vp b3 0])) (iB (vals := [vp b8 0, vp b3 0]) rfl) (lo (bJ (aw (vals := [vi 0, vi (gw * gh), Value.func (.func 48) #[] (List.toArray [vp b8 0, vp b3 0])]) Try.func46 qM qk rfl) (aC Try.func46 rfl (Nat.le_of_ble_eq_true rfl) (a7 (a6 rfl (bY rfl (aQ g22 (is 5) (5, 0) rfl fg ?_))))))))
 intro g32 w29 b31 ch30 bx33
 replace bx33 : Bx g32 (is 5) w29 b31 [vi 0, vn] := bx33
 refine ai 0 (aa (a7 (a7 (a6 rfl (mi 0 (lx (dC (m := 0) (n := 0) rfl rfl) (aa (aj rfl rfl (am (a7 (a6 rfl (mi (gw * gh) (lw (vg [vi (gw * gh), vn]) (bz (vs := [(0, vi (gw * gh))]) rfl (by kernel_rfl)) ?_)))))))))))))
 refine lw (vg [vi (gw * gh), vn]) (bz (vs := [(0, vg [vi (gw * gh), vn])]) rfl (by kernel_rfl)) (lo (bA g32 (is 6) (6, 0) rfl rfl ?_))
 intro g37 w34 b36 ch35 bx38
 replace bx38 : Bx g37 (is 6) w34 b36 [vi (gw * gh), vn] := bx38
 refine ma (vp b36 0) (aa (a7 (a6 rfl (mv (Value.func (.func 48) #[] (List.toArray [vp b8 0, vp b3 0])) (mv (vp b36 0) (lo (bJ (qp (fid := 48) (vals := [vp b36 0]) (caps := [vp b8 0, vp b3 0]) rfl Try.func48 oY pz rfl) (aC Try.func48 rfl (Nat.le_of_ble_eq_true rfl) (a7 (a6 rfl ?_))))))))))
 have C39 := cg [] (ch25.n.seq (hb28.n.seq (ch30.n.seq ch35.n)))
 replace bx10 := bx10.ca C39
 refine lx (af aq rfl bx10 rfl) (mi 0 (aa (av ?_)))
 refine ba (σ := Value × (List ((Int) × (Int))) × Nat × aP) (fun ⟨E_v, E, y, gq⟩ f w => bf w0 gq w ∧ f 0 = vp b36 0 ∧ f 1 = vp b8 0 ∧ f 2 = vp b3 0 ∧ f 7 = vi gh ∧ f 8 = vi (y : Int) ∧ Bx gq (is 1) w b3 [vi gw] ∧ Bx gq (is 2) w b8 [vi gh] ∧ Bx gq (is 3) w b13 [vi 0, vn] ∧ Ow gq (is 4) (is 4) w v24 ([gw, gh]) ∧ Bx gq (is 5) w b31 [vi 0, vn] ∧ Bx gq (is 6) w b36 [vi (gw * gh), E_v] ∧ Ow gq (is 8) (is 8) w E_v E ∧ (y : Int) ≤ (gh : Int) ∧ (E = bb (fR gw gh) y)) (fun ⟨E_v, E, y, gq⟩ => Int.toNat ((gh : Int) - (y : Int))) (vn, [], 0, g37) ?_ ?_
 have C42 := cg [] (hb28.n.seq (ch30.n.seq ch35.n))
 have C41 := hb17.n.seq (ch18.n.seq (hc21.n.seq (ch25.n.seq C42)))
 have C40 := ch2.n.seq (ch7.n.seq (ch12.n.seq C41))
 · exact ⟨bH.ca C40, rfl, rfl, rfl, rfl, rfl, bx5.ca C39, bx10, bx15.ca C41, o26.ca C42, bx33.cn ch35, bx38, Ow.nil, by omega, by rfl⟩
 clear bx5 bx10 bx15 o26 bx33 bx38 bH
 rintro ⟨E_v, E, y, g45⟩ f43 w44 ⟨bH, zs0_c2, zs1_c2, zs2_c2, zs7_c2, zs8_c2, bx5, bx10, bx15, o26, bx33, bx38, o_E, hle_y, hE⟩ back1_c2
 have hEl := rg (h := gh) (x := 0) (by omega) (by omega) (by omega) (o9 hE)
 refine a7 (a6 rfl (lx (b9 (m := (y : Int)) (n := gh) zs8_c2 zs7_c2) (aa (a7 ?_))))
 by_cases p1_c2 : (y : Int) < gh
 ·
  refine ah rfl (dt p1_c2) ?_
  have hmy := fj (A := 10) (B := 10) (a := (y : Int)) (b := gw) (by omega) (by omega)
  refine am (a7 (av (a7 (a6 rfl (mz zs8_c2 (ai (y : Int) (aa (a7 (a6 rfl (lx (af aq zs2_c2 bx5 rfl) (mi 0 (aa ?_))))))))))))
  refine av ?_
  refine ba (σ := Value × (List ((Int) × (Int))) × Nat × aP) (fun ⟨G_v, G, x, gq⟩ f w => bf w0 gq w ∧ f 0 = vp b36 0 ∧ f 1 = vp b8 0 ∧ f 2 = vp b3 0 ∧ f 4 = vi (y : Int) ∧ f 7 = vi gh ∧ f 8 = vi (y : Int) ∧ f 11 = vi gw ∧ f 12 = vi (x : Int) ∧ Bx gq (is 1) w b3 [vi gw] ∧ Bx gq (is 2) w b8 [vi gh] ∧ Bx gq (is 3) w b13 [vi 0, vn] ∧ Ow gq (is 4) (is 4) w v24 ([gw, gh]) ∧ Bx gq (is 5) w b31 [vi 0, vn] ∧ Bx gq (is 6) w b36 [vi (gw * gh), G_v] ∧ Ow gq (is 8) (is 8) w G_v G ∧ (x : Int) ≤ (gw : Int) ∧ (G = bb (fR gw gh) y ++ bb (d5 gw gh y) x)) (fun ⟨G_v, G, x, gq⟩ => Int.toNat ((gw : Int) - (x : Int))) (E_v, E, 0, g45) ?_ ?_
  · exact ⟨bH, zs0_c2, zs1_c2, zs2_c2, rfl, zs7_c2, zs8_c2, rfl, rfl, bx5, bx10, bx15, o26, bx33, bx38, o_E, by omega, by exact o9 hE⟩
  clear bx5 bx10 bx15 o26 bx33 bx38 o_E bH
  rintro ⟨G_v, G, x, g48⟩ f46 w47 ⟨bH, zs0_c2, zs1_c2, zs2_c2, zs4_c2, zs7_c2, zs8_c2, zs11_c2, zs12_c2, bx5, bx10, bx15, o26, bx33, bx38, o_G, hle_x, hG⟩ back4_c2
  have hGl := rg (by omega) (by omega) (by omega) hG
  refine a7 (a6 rfl (lx (b9 (m := (x : Int)) (n := gw) zs12_c2 zs11_c2) (aa (a7 ?_))))
  by_cases p4_c2 : (x : Int) < gw
  ·
   refine ah rfl (dt p4_c2) (am (a7 (av (a7 (a6 rfl (mz zs12_c2 (ai (x : Int) (aa (a7 (a6 rfl (mz zs4_c2 (lx (af aq zs2_c2 bx5 rfl) ?_))))))))))))
   refine lx (cP (m := (y : Int)) (n := gw) rfl rfl (by omega)) (mi (x : Int) (lx (aT (m := (y : Int) * gw) (n := (x : Int)) rfl rfl (by omega)) (ai (((y : Int) * gw) + (x : Int)) (aa (a7 (a7 (a6 rfl (mi (x : Int) (lx (aT (m := (x : Int)) (n := 1) rfl rfl (by omega)) (lx (af aq zs2_c2 bx5 rfl) (lx (b9 (m := (x : Int) + 1) (n := gw) rfl rfl) (aa ?_))))))))))))
   by_cases p7_c2 : ((x : Int) + 1) < gw
   ·
    refine ah rfl (dt p7_c2) (a6 rfl (mz zs0_c2 (mi (((y : Int) * gw) + (x : Int)) (mi (((y : Int) * gw) + (x : Int)) (lx (aT (m := ((y : Int) * gw) + (x : Int)) (n := 1) rfl rfl (by omega)) (lo (bJ (aw (vals := [vp b36 0, vi (((y : Int) * gw) + (x : Int)), vi ((((y : Int) * gw) + (x : Int)) + 1)]) Try.func49 jB jv rfl) (aC Try.func49 rfl (Nat.le_of_ble_eq_true rfl) (a6 rfl ?_)))))))))
    refine mv (vp b36 0) (mv (vp b36 0) (lw (vp b36 0) (aE rfl) (lx (a8 Try.underlying105 rfl rfl rfl rfl) (lx (a8 Try.underlying24 rfl rfl rfl rfl) (lx (af cE rfl bx38 rfl) (mi (((y : Int) * gw) + (x : Int)) (mi ((((y : Int) * gw) + (x : Int)) + 1) (lw (vg [vi (((y : Int) * gw) + (x : Int)), vi ((((y : Int) * gw) + (x : Int)) + 1)]) (bz (vs := [(0, vi (((y : Int) * gw) + (x : Int))), (1, vi ((((y : Int) * gw) + (x : Int)) + 1))]) rfl (by kernel_rfl)) (lo ?_)))))))))
    refine aJ (α := (Int) × (Int)) g48 (is 7) (is 7) (7, 0) rfl [(((y : Int) * gw) + (x : Int), (((y : Int) * gw) + (x : Int)) + 1)] Try.underlying22 cF (by decide) (by decide) (vs := [(0, vg [vi (((y : Int) * gw) + (x : Int)), vi ((((y : Int) * gw) + (x : Int)) + 1)])]) rfl rfl (.cons rfl .nil) ?_
    intro g49 w50 v51 ch52 o53
    refine lo ?_
    replace o_G := o_G.cn ch52
    refine bg (α := (Int) × (Int)) (xs := G) (ys := ([(((y : Int) * gw) + (x : Int), (((y : Int) * gw) + (x : Int)) + 1)])) g49 (J := is 8) (S := is 8) (8, 0) rfl Try.underlying22 cF (by decide) rfl rfl rfl o_G o53.flat (by decide) (by (simp; omega)) ?_
    intro g54 w55 v56 ch57 o58
    clear o_G
    refine lw (vp b36 0) (aE rfl) (lx (a8 Try.underlying105 rfl rfl rfl rfl) (lx (a8 Try.underlying24 rfl rfl rfl rfl) (lo ?_)))
    replace bx38 := (bx38.cn ch52).ce ch57
    refine bi (cs' := [vi (gw * gh), v56]) cE rfl rfl bx38 (bj o58.flat) (Nat.le_of_ble_eq_true rfl) (bM o58.flat) rfl ?_
    intro w59 ch60 bx61
    clear bx38
    refine aa (bZ (vs := []) Try.func49 .nil ?_)
    refine ⟨vt [], rfl, ?_⟩
    refine aa (a7 ?_)
    clear o53
    refine a6 rfl (mz zs4_c2 (lx (aT (m := (y : Int)) (n := 1) rfl rfl (by omega)) ?_))
    have C62 := cg [6, 8] (ch52.n.seq ((ch57.l rfl).seq (ch60.l rfl)))
    replace bx10 := bx10.ca C62
    refine lx (af aq zs1_c2 bx10 rfl) (lx (b9 (m := (y : Int) + 1) (n := gh) rfl rfl) (aa ?_))
    by_cases p9_c2 : ((y : Int) + 1) < gh
    ·
     refine ah rfl (dt p9_c2) (a6 rfl (mz zs0_c2 (mi (((y : Int) * gw) + (x : Int)) (mi (((y : Int) * gw) + (x : Int)) ?_))))
     replace bx5 := bx5.ca C62
     refine lx (af aq zs2_c2 bx5 rfl) (lx (aT (m := ((y : Int) * gw) + (x : Int)) (n := gw) rfl rfl (by omega)) (lo (bJ (aw (vals := [vp b36 0, vi (((y : Int) * gw) + (x : Int)), vi ((((y : Int) * gw) + (x : Int)) + gw)]) Try.func49 jB jv rfl) (aC Try.func49 rfl (Nat.le_of_ble_eq_true rfl) ?_))))
     replace o58 := o58.ce ch60
     refine a6 rfl (mv (vp b36 0) (mv (vp b36 0) (lw (vp b36 0) (aE rfl) (lx (a8 Try.underlying105 rfl rfl rfl rfl) (lx (a8 Try.underlying24 rfl rfl rfl rfl) (lx (af cE rfl bx61 rfl) (mi (((y : Int) * gw) + (x : Int)) (mi ((((y : Int) * gw) + (x : Int)) + gw) (lw (vg [vi (((y : Int) * gw) + (x : Int)), vi ((((y : Int) * gw) + (x : Int)) + gw)]) (bz (vs := [(0, vi (((y : Int) * gw) + (x : Int))), (1, vi ((((y : Int) * gw) + (x : Int)) + gw))]) rfl (by kernel_rfl)) ?_)))))))))
     refine lo (aJ (α := (Int) × (Int)) g54 (is 9) (is 9) (9, 0) rfl [(((y : Int) * gw) + (x : Int), (((y : Int) * gw) + (x : Int)) + gw)] Try.underlying22 cF (by decide) (by decide) (vs := [(0, vg [vi (((y : Int) * gw) + (x : Int)), vi ((((y : Int) * gw) + (x : Int)) + gw)])]) rfl rfl (.cons rfl .nil) ?_)
     intro g63 w64 v65 ch66 o67
     refine lo ?_
     replace o58 := o58.cn ch66
     refine bg (α := (Int) × (Int)) (xs := (G ++ [(((y : Int) * gw) + (x : Int), (((y : Int) * gw) + (x : Int)) + 1)])) (ys := ([(((y : Int) * gw) + (x : Int), (((y : Int) * gw) + (x : Int)) + gw)])) g63 (J := is 8) (S := is 8) (8, 0) rfl Try.underlying22 cF (by decide) rfl rfl rfl o58 o67.flat (by decide) (by (simp; omega)) ?_
     intro g68 w69 v70 ch71 o72
     clear o58
     refine lw (vp b36 0) (aE rfl) (lx (a8 Try.underlying105 rfl rfl rfl rfl) (lx (a8 Try.underlying24 rfl rfl rfl rfl) (lo ?_)))
     replace bx61 := (bx61.cn ch66).ce ch71
     refine bi (cs' := [vi (gw * gh), v70]) cE rfl rfl bx61 (bj o72.flat) (Nat.le_of_ble_eq_true rfl) (bM o72.flat) rfl ?_
     intro w73 ch74 bx75
     clear bx61
     refine aa (bZ (vs := []) Try.func49 .nil ?_)
     refine ⟨vt [], rfl, ?_⟩
     refine aa (ao ?_)
     clear o67
     refine a6 rfl (lx (aT (m := (x : Int)) (n := 1) zs12_c2 rfl (by omega)) (mi ((x : Int) + 1) (aa ?_)))
     have C77 := cg [6, 8] (ch66.n.seq ((ch71.l rfl).seq (ch74.l rfl)))
     have C76 := ch52.n.seq ((ch57.l rfl).seq ((ch60.l rfl).seq C77))
     refine back4_c2 (v70, ((G ++ [(((y : Int) * gw) + (x : Int), (((y : Int) * gw) + (x : Int)) + 1)]) ++ [(((y : Int) * gw) + (x : Int), (((y : Int) * gw) + (x : Int)) + gw)]), x + 1, g68) _ _ ⟨bH.ca C76, zs0_c2, zs1_c2, zs2_c2, zs4_c2, zs7_c2, zs8_c2, zs11_c2, rfl, bx5.ca C77, bx10.ca C77, bx15.ca C76, o26.ca C76, bx33.ca C76, bx75, o72.ce ch74, by omega, ?_⟩ ?_
     · show ((G ++ [(((y : Int) * gw) + (x : Int), (((y : Int) * gw) + (x : Int)) + 1)]) ++ [(((y : Int) * gw) + (x : Int), (((y : Int) * gw) + (x : Int)) + gw)]) = bb (fR gw gh) y ++ bb (d5 gw gh y) (x + 1)
       exact ta hG ‹_› ‹_›
     · show Int.toNat ((gw : Int) - ((x + 1) : Int)) < Int.toNat ((gw : Int) - (x : Int))
       omega
    refine aj rfl (df p9_c2) (am (ao (a6 rfl (lx (aT (m := (x : Int)) (n := 1) zs12_c2 rfl (by omega)) (mi ((x : Int) + 1) (aa ?_))))))
    refine back4_c2 (v56, (G ++ [(((y : Int) * gw) + (x : Int), (((y : Int) * gw) + (x : Int)) + 1)]), x + 1, g54) _ _ ⟨bH.ca C62, zs0_c2, zs1_c2, zs2_c2, zs4_c2, zs7_c2, zs8_c2, zs11_c2, rfl, bx5.ca C62, bx10, bx15.ca C62, o26.ca C62, bx33.ca C62, bx61, o58.ce ch60, by omega, ?_⟩ ?_
    · show (G ++ [(((y : Int) * gw) + (x : Int), (((y : Int) * gw) + (x : Int)) + 1)]) = bb (fR gw gh) y ++ bb (d5 gw gh y) (x + 1)
      exact t8 hG ‹_› ‹_›
    · show Int.toNat ((gw : Int) - ((x + 1) : Int)) < Int.toNat ((gw : Int) - (x : Int))
      omega
   refine aj rfl (df p7_c2) (am (a7 (a6 rfl (mz zs4_c2 (lx (aT (m := (y : Int)) (n := 1) rfl rfl (by omega)) (lx (af aq zs1_c2 bx10 rfl) (lx (b9 (m := (y : Int) + 1) (n := gh) rfl rfl) (aa ?_))))))))
   by_cases p9_c2 : ((y : Int) + 1) < gh
   ·
    refine ah rfl (dt p9_c2) (a6 rfl (mz zs0_c2 (mi (((y : Int) * gw) + (x : Int)) (mi (((y : Int) * gw) + (x : Int)) (lx (af aq zs2_c2 bx5 rfl) (lx (aT (m := ((y : Int) * gw) + (x : Int)) (n := gw) rfl rfl (by omega)) (lo (bJ (aw (vals := [vp b36 0, vi (((y : Int) * gw) + (x : Int)), vi ((((y : Int) * gw) + (x : Int)) + gw)]) Try.func49 jB jv rfl) (aC Try.func49 rfl (Nat.le_of_ble_eq_true rfl) ?_)))))))))
    refine a6 rfl (mv (vp b36 0) (mv (vp b36 0) (lw (vp b36 0) (aE rfl) (lx (a8 Try.underlying105 rfl rfl rfl rfl) (lx (a8 Try.underlying24 rfl rfl rfl rfl) (lx (af cE rfl bx38 rfl) (mi (((y : Int) * gw) + (x : Int)) (mi ((((y : Int) * gw) + (x : Int)) + gw) (lw (vg [vi (((y : Int) * gw) + (x : Int)), vi ((((y : Int) * gw) + (x : Int)) + gw)]) (bz (vs := [(0, vi (((y : Int) * gw) + (x : Int))), (1, vi ((((y : Int) * gw) + (x : Int)) + gw))]) rfl (by kernel_rfl)) ?_)))))))))
    refine lo (aJ (α := (Int) × (Int)) g48 (is 10) (is 10) (10, 0) rfl [(((y : Int) * gw) + (x : Int), (((y : Int) * gw) + (x : Int)) + gw)] Try.underlying22 cF (by decide) (by decide) (vs := [(0, vg [vi (((y : Int) * gw) + (x : Int)), vi ((((y : Int) * gw) + (x : Int)) + gw)])]) rfl rfl (.cons rfl .nil) ?_)
    intro g78 w79 v80 ch81 o82
    refine lo ?_
    replace o_G := o_G.cn ch81
    refine bg (α := (Int) × (Int)) (xs := G) (ys := ([(((y : Int) * gw) + (x : Int), (((y : Int) * gw) + (x : Int)) + gw)])) g78 (J := is 8) (S := is 8) (8, 0) rfl Try.underlying22 cF (by decide) rfl rfl rfl o_G o82.flat (by decide) (by (simp; omega)) ?_
    intro g83 w84 v85 ch86 o87
    clear o_G
    refine lw (vp b36 0) (aE rfl) (lx (a8 Try.underlying105 rfl rfl rfl rfl) (lx (a8 Try.underlying24 rfl rfl rfl rfl) (lo ?_)))
    replace bx38 := (bx38.cn ch81).ce ch86
    refine bi (cs' := [vi (gw * gh), v85]) cE rfl rfl bx38 (bj o87.flat) (Nat.le_of_ble_eq_true rfl) (bM o87.flat) rfl ?_
    intro w88 ch89 bx90
    clear bx38
    refine aa (bZ (vs := []) Try.func49 .nil ?_)
    refine ⟨vt [], rfl, ?_⟩
    refine aa (ao ?_)
    clear o82
    refine a6 rfl (lx (aT (m := (x : Int)) (n := 1) zs12_c2 rfl (by omega)) (mi ((x : Int) + 1) (aa ?_)))
    have C91 := cg [6, 8] (ch81.n.seq ((ch86.l rfl).seq (ch89.l rfl)))
    refine back4_c2 (v85, (G ++ [(((y : Int) * gw) + (x : Int), (((y : Int) * gw) + (x : Int)) + gw)]), x + 1, g83) _ _ ⟨bH.ca C91, zs0_c2, zs1_c2, zs2_c2, zs4_c2, zs7_c2, zs8_c2, zs11_c2, rfl, bx5.ca C91, bx10.ca C91, bx15.ca C91, o26.ca C91, bx33.ca C91, bx90, o87.ce ch89, by omega, ?_⟩ ?_
    · show (G ++ [(((y : Int) * gw) + (x : Int), (((y : Int) * gw) + (x : Int)) + gw)]) = bb (fR gw gh) y ++ bb (d5 gw gh y) (x + 1)
      exact sX hG ‹_› ‹_›
    · show Int.toNat ((gw : Int) - ((x + 1) : Int)) < Int.toNat ((gw : Int) - (x : Int))
      omega
   refine aj rfl (df p9_c2) (am (ao (a6 rfl (lx (aT (m := (x : Int)) (n := 1) zs12_c2 rfl (by omega)) (mi ((x : Int) + 1) (aa ?_))))))
   refine back4_c2 (G_v, G, x + 1, g48) _ _ ⟨bH, zs0_c2, zs1_c2, zs2_c2, zs4_c2, zs7_c2, zs8_c2, zs11_c2, rfl, bx5, bx10, bx15, o26, bx33, bx38, o_G, by omega, ?_⟩ ?_
   · show G = bb (fR gw gh) y ++ bb (d5 gw gh y) (x + 1)
     exact t6 hG ‹_› ‹_›
   · show Int.toNat ((gw : Int) - ((x + 1) : Int)) < Int.toNat ((gw : Int) - (x : Int))
     omega
  refine aj rfl (df p4_c2) (aU rfl (ao (a6 rfl (lx (aT (m := (y : Int)) (n := 1) zs8_c2 rfl (by omega)) (mi ((y : Int) + 1) (aa ?_))))))
  refine back1_c2 (G_v, G, y + 1, g48) _ _ ⟨bH, zs0_c2, zs1_c2, zs2_c2, zs7_c2, rfl, bx5, bx10, bx15, o26, bx33, bx38, o_G, by omega, ?_⟩ ?_
  · show G = bb (fR gw gh) (y + 1)
    exact sC hG (by omega)
  · show Int.toNat ((gh : Int) - ((y + 1) : Int)) < Int.toNat ((gh : Int) - (y : Int))
    omega
 refine aj rfl (df p1_c2) (aU rfl (bZ (vs := []) Try.func48 .nil ?_))
 refine ⟨vt [], rfl, ?_⟩
 refine aa (a7 (a6 rfl (mv (vp b36 0) (lw (vp b36 0) (aE rfl) (lx (a8 Try.underlying105 rfl rfl rfl rfl) (lx (ad (ds := [vi (gw * gh), E_v]) fg rfl bx38 rfl rfl) (lo (ag (cs' := [vi (gw * gh), E_v]) fg rfl rfl bx33 rfl (Nat.le_of_ble_eq_true rfl) (AllOne.all (.cons rfl (.cons (bM o_E.flat) .nil))) rfl ?_))))))))
 intro w92 ch93 bx94
 clear bx33
 refine ai 0 (aa (al (vs := [vg [vi (gw * gh), E_v], vi 0]) Try.func46 (.cell rfl (d7 (ds := [vi (gw * gh), E_v]) fg bx94 rfl rfl) (.tmp rfl .nil)) ?_))
 refine ⟨vt [vg [vi (gw * gh), E_v], vi 0], rfl, ?_⟩
 refine lx (aW rfl rfl) (lx (aW rfl rfl) (lo ?_))
 replace bx15 := bx15.ce ch93
 replace o_E := o_E.ce ch93
 refine ag (cs' := [vi (gw * gh), E_v]) fg rfl rfl bx15 rfl (Nat.le_of_ble_eq_true rfl) (AllOne.all (.cons rfl (.cons (bM o_E.flat) .nil))) rfl ?_
 intro w95 ch96 bx97
 clear bx15
 refine ai 0 (aa (al (vs := [vg [vi (gw * gh), E_v], vi 0]) Try.func24 (.cell rfl (d7 (ds := [vi (gw * gh), E_v]) fg bx97 rfl rfl) (.tmp rfl .nil)) ?_))
 replace bH := bH.ce ch93
 replace bH := bH.ce ch96
 replace o_E := o_E.ce ch96
 have e0 : ((gw * gh, E) : (Int) × (List ((Int) × (Int)))) = (aA gw gh) := by
   exact sO hE (by omega)
 have e1 : (0 : Int) = (0) := by
   rfl
 exact ⟨(fin w0 g45 (fun n => if n = 8 then 1 else 0), E_v), (bW (a := (gw * gh, E)) (b := 0) (fun (z0 : (Int) × (List ((Int) × (Int)))) (z1 : Int) => Ending.returned (vt [vg [vi z0.1, E_v], vi z1])) e0 e1), bH.fresh _, ((congrArg (fun (z : (Int) × (List ((Int) × (Int)))) => z.2) e0) ▸ (o_E.glue (γ := c0) (ren := (fun n => if n = 8 then 1 else 0)) (k := 1) bH.col rfl rfl))⟩
end TL
