import Derived.Test.YtbadiajeohbpcaaGTlP2
import Derived.Test.YtbadiajeohbpcaaGTlGmA
import Derived.Test.YtbadiajeohbpcaaGTlGmM
import Derived.Test.YtbadiajeohbpcaaGTlGmR
import Derived.Test.YtbadiajeohbpcaaGTlGenA
import Derived.Test.YtbadiajeohbpcaaGTlGdA
import Derived.Test.YtbadiajeohbpcaaGTlGjA
import Derived.Test.YtbadiajeohbpcaaGTlGjB
import Derived.Test.YtbadiajeohbpcaaProg
set_option linter.all false
set_option maxRecDepth 20000
namespace TL
open Go Go.Proofs
theorem fE : Try.prog.follows .mixedOrders = true := by kernel_rfl
theorem cz : Tp Try.prog 52 true 5 32 (.agg #[.int .i64 0, .int .i64 0, .int .i64 0, .bool false, .bool false]) := Tp.of (by kernel_rfl)
theorem qF : Try.f27.body.isNone = false := rfl
theorem qi : (Try.f27.name == "runtime.NumGoroutine") = false := by decide +kernel
theorem pa : Try.f41.body.isNone = false := rfl
theorem oX : (Try.f41.name == "runtime.NumGoroutine") = false := by decide +kernel
theorem gS (w0 : World) (g : (Int) × (List ((Int) × (Int)))) (g_v : Value) (hg_v : Ro w0 g_v g.2) (p : (List ((Int) × (Int))) × (List (List ((Int) × (Int))))) (p_v p_v1 : Value) (hp_v : Ro w0 p_v p.1) (hp_v1 : Ro w0 p_v1 p.2) :
    Calls Try.prog 11 #[vg [vi g.1, g_v], vg [p_v, p_v1]] w0 (fun ee w => ∃ xx : aP × Value, ee = .returned ((fun ⟨δ, rv0⟩ => vt [rv0, vi ((aK g p).2)]) xx) ∧ (fun (⟨δ, rv0⟩ : aP × Value) (w : World) => fB w0 δ w ∧ Ow δ (is 1) (is 1) w rv0 ((aK g p).1)) xx w) := by
 refine aC Try.func11 rfl (Nat.le_of_ble_eq_true rfl) ?_
 have bH := bf.start w0
 have Rg := hg_v.sl
 have Rp := hp_v.sl
 have r_p_v1 := hp_v1.sl
 refine a7 (a6 rfl (bY rfl (bA c0 (is 1) (1, 0) rfl rfl ?_)))
 intro g4 w1 b3 ch2 bx5
 replace bx5 : Bx g4 (is 1) w1 b3 [vi g.1, g_v] := bx5
 refine lo (bA g4 (is 2) (2, 0) rfl rfl ?_)
 intro g9 w6 b8 ch7 bx10
 replace bx10 : Bx g9 (is 2) w6 b8 [p_v, p_v1] := bx10
 refine ma vn (ai 0 (aa (a7 (a7 (a6 rfl ?_)))))
 replace bx5 := bx5.cn ch7
 refine lx (ad (ds := [vi g.1, g_v]) cj rfl bx5 rfl rfl) ?_
 replace Rg := (Rg.cn ch2).cn ch7
 refine lo (aF (v := Value.bool (el g)) (aw (vals := [vg [vi g.1, g_v]]) Try.func32 jo jx rfl) (jG w6 g g_v (Rg).ro) ?_)
 intro w11 hb12
 replace hb12 := ak hb12 g9
 refine lx (di (b := (el g)) rfl) (aa ?_)
 by_cases p1 : (el g) = true
 ·
  have hm := of_decide_eq_true p1
  have hmay := hm
  have hm0 := hm
  obtain ⟨hm1, hm2, hm3, hm4⟩ := hm0
  refine aj rfl (congrArg Bool.not p1) (am (a7 (a6 rfl ?_)))
  replace bx5 := bx5.cn hb12
  refine lx (ad (ds := [vi g.1, g_v]) cj rfl bx5 rfl rfl) ?_
  replace bx10 := bx10.cn hb12
  refine lx (ad (ds := [p_v, p_v1]) co rfl bx10 rfl rfl) ?_
  replace Rg := Rg.cn hb12
  have C13 := cg [] (ch2.n.seq (ch7.n.seq hb12.n))
  replace Rp := Rp.ca C13
  replace r_p_v1 := r_p_v1.ca C13
  refine lo (cy (aw (vals := [vg [vi g.1, g_v], vg [p_v, p_v1]]) Try.func27 qF qi rfl) (ku w11 g g_v (Rg).ro p p_v p_v1 (Rp).ro (r_p_v1).ro ‹_›) ?_)
  rintro ⟨d15, v17⟩ w14 ⟨fr16, o18⟩
  obtain ⟨g19, ch20, G19⟩ := m6 g9 fr16 (fun n => if n = 1 then 3 else 0)
  replace o18 := o18.gl G19 3
  refine ma v17 (ai 0 (aa (al (vs := [v17, vi 0]) Try.func11 (.tmp rfl (.tmp rfl .nil)) ?_)))
  have C21 := cg [] (ch2.n.seq (ch7.n.seq (hb12.n.seq ch20.n)))
  replace bH := bH.ca C21
  have e0 : (bT g p : List ((Int) × (Int) × (Int))) = ((aK g p).1) := by
    simp only [aK, if_pos hm]
  have e1 : (0 : Int) = ((aK g p).2) := by
    simp only [aK, if_pos hm]
  exact ⟨(fin w0 g19 (fun n => if n = 3 then 1 else 0), v17), (bW (a := bT g p) (b := 0) (fun (z0 : List ((Int) × (Int) × (Int))) (z1 : Int) => Ending.returned (vt [v17, vi z1])) e0 e1), bH.fresh _, (e0 ▸ (o18.glue (γ := c0) (ren := (fun n => if n = 3 then 1 else 0)) (k := 1) bH.col rfl rfl))⟩
 have hn : ¬ ci g := fun h => p1 (dt h)
 refine ah rfl (congrArg Bool.not (Bool.eq_false_iff.2 p1)) (a7 ?_)
 clear bx5 bx10
 refine a6 rfl (ma vn (ai 1 (aa (al (vs := [vn, vi 1]) Try.func11 (.tmp rfl (.tmp rfl .nil)) ?_))))
 have C22 := cg [] (ch2.n.seq (ch7.n.seq hb12.n))
 replace bH := bH.ca C22
 have e0 : ([] : List ((Int) × (Int) × (Int))) = ((aK g p).1) := by
   simp only [aK, if_neg hn]
 have e1 : (1 : Int) = ((aK g p).2) := by
   simp only [aK, if_neg hn]
 exact ⟨(fin w0 g9 (fun n => 0), vn), (bW (a := []) (b := 1) (fun (z0 : List ((Int) × (Int) × (Int))) (z1 : Int) => Ending.returned (vt [vn, vi z1])) e0 e1), bH.fresh _, (e0 ▸ Ow.nil)⟩
theorem my (w0 : World) (p : (List ((Int) × (Int))) × (List (List ((Int) × (Int))))) (p_v p_v1 : Value) (hp_v : Ro w0 p_v p.1) (hp_v1 : Ro w0 p_v1 p.2) (hp1 : (p.1.length : Int) ≤ 1024) (hp2 : (p.2.length : Int) ≤ 3072) (hp3 : ∀ e : Int, 0 ≤ e → e < p.2.length → (gI p.2 e).length ≤ 4096) :
    Calls Try.prog 41 #[vg [p_v, p_v1]] w0 (fun ee w => ∃ xx : aP × Value, ee = .returned ((fun ⟨δ, rv0⟩ => rv0) xx) ∧ (fun (⟨δ, rv0⟩ : aP × Value) (w : World) => fB w0 δ w ∧ Ow δ (is 1) (is 1) w rv0 (az p)) xx w) := by
 refine aC Try.func41 rfl (Nat.le_of_ble_eq_true rfl) ?_
 have bH := bf.start w0
 have Rp := hp_v.sl
 have r_p_v1 := hp_v1.sl
 refine a7 (a6 rfl (bY rfl (bA c0 (is 1) (1, 0) rfl rfl ?_)))
 intro g4 w1 b3 ch2 bx5
 replace bx5 : Bx g4 (is 1) w1 b3 [p_v, p_v1] := bx5
 refine ma vn (aa (a7 (a6 rfl (lx (a8 Try.underlying28 rfl rfl rfl rfl) (lx (af bk rfl bx5 rfl) (lo ?_))))))
 replace Rp := Rp.cn ch2
 refine bg (α := (Int) × (Int)) (xs := ([])) (ys := p.1) g4 (J := is 2) (S := is 2) (2, 0) rfl Try.underlying25 ab (by decide) rfl rfl rfl Ow.nil Rp (by decide) (by (simp; omega)) ?_
 intro g6 w7 v8 ch9 o10
 replace o10 : Ow g6 (is 2) (is 2) w7 v8 p.1 := o10
 refine ma v8 (aa (a7 (a7 (a6 rfl (lx (a8 Try.underlying28 rfl rfl rfl rfl) ?_)))))
 replace bx5 := bx5.ce ch9
 refine lx (af cH rfl bx5 rfl) ?_
 replace r_p_v1 := (r_p_v1.cn ch2).ce ch9
 have len11 := (r_p_v1).small
 refine lx (bh Try.underlying26 rfl r_p_v1) (mi 0 (aa (av ?_)))
 clear bx5
 refine ba (σ := Value × (List ((Int) × (Int))) × Nat × aP) (fun ⟨l_v, l, k, gq⟩ f w => bf w0 gq w ∧ f 3 = l_v ∧ f 10 = p_v1 ∧ f 11 = vi (p.2.length : Int) ∧ f 12 = vi (k : Int) ∧ Sl gq (is 0) w p_v p.1 ∧ Sl gq (is 0) w p_v1 p.2 ∧ Ow gq (is 2) (is 2) w l_v l ∧ (k : Int) ≤ ((p.2.length : Int) : Int) ∧ (l = p.1 ++ (p.2.take k).flatten ∧ (l.length : Int) ≤ 1024 + 4096 * (k : Int))) (fun ⟨l_v, l, k, gq⟩ => Int.toNat (((p.2.length : Int) : Int) - (k : Int))) (v8, p.1, 0, g6) ?_ ?_
 replace bH := bH.cn ch2
 · exact ⟨bH.ce ch9, rfl, rfl, rfl, rfl, Rp.ce ch9, r_p_v1, o10, by omega, by exact ⟨by simp, by omega⟩⟩
 clear Rp r_p_v1 o10 bH
 rintro ⟨l_v, l, k, g14⟩ f12 w13 ⟨bH, zs3, zs10, zs11, zs12, Rp, r_p_v1, o_l, hle_k, hinv⟩ back3
 obtain ⟨hi1, hi2⟩ := hinv
 refine a7 (a6 rfl (lx (b9 (m := (k : Int)) (n := (p.2.length : Int)) zs12 zs11) (aa (a7 ?_))))
 by_cases p3 : (k : Int) < (p.2.length : Int)
 ·
  refine ah rfl (dt p3) ?_
  have hll := hp3 (k : Int) (by omega) (by omega)
  refine am (a7 (av (a7 (a6 rfl (lx (ar (v := p_v1) (i := (k : Int)) Try.underlying26 rfl zs10 r_p_v1 zs12 (by omega) (by omega)) ?_)))))
  obtain ⟨v15, cel16, r17⟩ := dZ (r := (k : Int)) r_p_v1 (by omega) (by omega)
  refine lx (cv bk rfl cel16) (ma v15 (aa (a6 rfl (mz zs3 (mv v15 (lo (bg (α := (Int) × (Int)) (xs := l) (ys := (gI p.2 (k : Int))) g14 (J := is 2) (S := is 2) (2, 0) rfl Try.underlying25 ab (by decide) rfl rfl rfl o_l r17 (by decide) (by omega) ?_)))))))
  intro g18 w19 v20 ch21 o22
  clear o_l
  refine ma v20 (aa (ao ?_))
  clear r17
  refine a6 rfl (lx (aT (m := (k : Int)) (n := 1) zs12 rfl (by omega)) (mi ((k : Int) + 1) (aa ?_)))
  refine back3 (v20, (l ++ gI p.2 (k : Int)), k + 1, g18) _ _ ⟨bH.ce ch21, rfl, zs10, zs11, rfl, Rp.ce ch21, r_p_v1.ce ch21, o22, by omega, ?_⟩ ?_
  · show (l ++ gI p.2 (k : Int)) = p.1 ++ (p.2.take (k + 1)).flatten ∧ ((l ++ gI p.2 (k : Int)).length : Int) ≤ 1024 + 4096 * ((k + 1) : Int)
    exact nj ⟨hi1, hi2⟩ ‹_› hll
  · show Int.toNat (((p.2.length : Int) : Int) - ((k + 1) : Int)) < Int.toNat (((p.2.length : Int) : Int) - (k : Int))
    omega
 refine aj rfl (df p3) (aU rfl (a7 (a6 rfl (mz zs3 (ma l_v (aa (al (vs := [l_v]) Try.func41 (.tmp rfl .nil) ?_)))))))
 have e0 : (l : List ((Int) × (Int))) = (az p) := by
   exact oN hi1 ‹_›
 exact ⟨(fin w0 g14 (fun n => if n = 2 then 1 else 0), l_v), (congrArg (a₁ := l) (fun (z0 : List ((Int) × (Int))) => Ending.returned (l_v)) e0), bH.fresh _, (e0 ▸ (o_l.glue (γ := c0) (ren := (fun n => if n = 2 then 1 else 0)) (k := 1) bH.col rfl rfl))⟩
set_option maxHeartbeats 4000000 in
theorem jV (w0 : World) (g : (Int) × (List ((Int) × (Int)))) (g_v : Value) (hg_v : Ro w0 g_v g.2) (p : (List ((Int) × (Int))) × (List (List ((Int) × (Int))))) (p_v p_v1 : Value) (hp_v : Ro w0 p_v p.1) (hp_v1 : Ro w0 p_v1 p.2) :
    Calls Try.prog 19 #[vg [vi g.1, g_v], vg [p_v, p_v1]] w0 (fun ee w => ee = .returned (vt [vg [vi (((aL g p).1).1), vi ((((aL g p).1).2).1), vi (((((aL g p).1).2).2).1), Value.bool ((((((aL g p).1).2).2).2).1), Value.bool ((((((aL g p).1).2).2).2).2)], vi ((aL g p).2)]) ∧ cQ w0.heap.size w0 w) := by
 refine aC Try.func19 rfl (Nat.le_of_ble_eq_true rfl) ?_
 have bH := bf.start w0
 have Rg := hg_v.sl
 have Rp := hp_v.sl
 have r_p_v1 := hp_v1.sl
 refine a7 (a6 rfl (bY rfl (bA c0 (is 1) (1, 0) rfl rfl ?_)))
 intro g4 w1 b3 ch2 bx5
 replace bx5 : Bx g4 (is 1) w1 b3 [vi g.1, g_v] := bx5
 refine lo (bA g4 (is 2) (2, 0) rfl rfl ?_)
 intro g9 w6 b8 ch7 bx10
 replace bx10 : Bx g9 (is 2) w6 b8 [p_v, p_v1] := bx10
 refine lo (aQ g9 (is 3) (3, 0) rfl cz ?_)
 intro g14 w11 b13 ch12 bx15
 replace bx15 : Bx g14 (is 3) w11 b13 [vi 0, vi 0, vi 0, Value.bool false, Value.bool false] := bx15
 refine ai 0 (aa (a7 (a7 (a6 rfl ?_))))
 replace bx5 := (bx5.cn ch7).cn ch12
 refine lx (ad (ds := [vi g.1, g_v]) cj rfl bx5 rfl rfl) ?_
 have C16 := cg [] (ch2.n.seq (ch7.n.seq ch12.n))
 replace Rg := Rg.ca C16
 refine lo (aF (v := Value.bool (el g)) (aw (vals := [vg [vi g.1, g_v]]) Try.func32 jo jx rfl) (jG w11 g g_v (Rg).ro) ?_)
 intro w17 hb18
 replace hb18 := ak hb18 g14
 refine lx (di (b := (el g)) rfl) (aa ?_)
 by_cases p1 : (el g) = true
 ·
  have hm := of_decide_eq_true p1
  have hmay := hm
  have hm0 := hm
  obtain ⟨hm1, hm2, hm3, hm4⟩ := hm0
  refine aj rfl (congrArg Bool.not p1) (am (a7 (a6 rfl ?_)))
  replace bx5 := bx5.cn hb18
  refine lx (ad (ds := [vi g.1, g_v]) cj rfl bx5 rfl rfl) ?_
  replace bx10 := (bx10.cn ch12).cn hb18
  refine lx (ad (ds := [p_v, p_v1]) co rfl bx10 rfl rfl) ?_
  replace Rg := Rg.cn hb18
  have C19 := cg [] (ch2.n.seq (ch7.n.seq (ch12.n.seq hb18.n)))
  replace Rp := Rp.ca C19
  replace r_p_v1 := r_p_v1.ca C19
  refine lw (vg [vi g.1, g_v, p_v, p_v1, vn]) (bz (vs := [(0, vg [vi g.1, g_v]), (1, vg [p_v, p_v1])]) rfl (by rw [Sl.form Rg, Sl.form Rp, Sl.form r_p_v1]; kernel_rfl)) (lo (bA g14 (is 4) (4, 0) rfl rfl ?_))
  intro g23 w20 b22 ch21 bx24
  replace bx24 : Bx g23 (is 4) w20 b22 [vi g.1, g_v, p_v, p_v1, vn] := bx24
  refine ma (vp b22 0) (aa (a7 ?_))
  clear bx5
  refine a6 rfl (mv (vp b22 0) (lo ?_))
  refine cy (σ := Value × (List ((Int) × (Int) × (Int))) × aP) (V := fun ⟨l_4_c1_v, l_4_c1, gq⟩ => vt []) (S := fun ⟨l_4_c1_v, l_4_c1, gq⟩ w => bf w0 gq w ∧ Sl gq (is 0) w g_v g.2 ∧ Sl gq (is 0) w p_v p.1 ∧ Sl gq (is 0) w p_v1 p.2 ∧ Bx gq (is 2) w b8 [p_v, p_v1] ∧ Bx gq (is 3) w b13 [vi 0, vi 0, vi 0, Value.bool false, Value.bool false] ∧ Bx gq (is 4) w b22 [vi g.1, g_v, p_v, p_v1, l_4_c1_v] ∧ Ow gq (is 8) (is 8) w l_4_c1_v l_4_c1 ∧ (l_4_c1 = bL g p)) (aw (vals := [vp b22 0]) Try.func40 ll lG rfl) ?_ ?_
  ·
   refine aC Try.func40 rfl (Nat.le_of_ble_eq_true rfl) ?_
   replace Rg := Rg.cn ch21
   replace Rp := Rp.cn ch21
   replace r_p_v1 := r_p_v1.cn ch21
   refine a7 (a7 (cl g23 rfl fE (by kernel_rfl) ?_))
   intro w26 ch25
   refine qm (vp b22 0) (qv (vp b22 0) (fun w' hw' => aE rfl) (qx (fun w' hw' => a8 Try.underlying84 rfl rfl rfl rfl) (qx (fun w' hw' => a8 Try.underlying28 rfl rfl rfl rfl) ?_)))
   replace bx24 := bx24.cn ch25
   refine qx (fun w' hw' => af bk rfl (bx24.bel hw') rfl) ?_
   replace Rp := Rp.cn ch25
   have len27 := (Rp).small
   refine qx (fun w' hw' => bh Try.underlying25 rfl (Rp.bel hw')) (qm (vp b22 0) (qv (vp b22 0) (fun w' hw' => aE rfl) (qx (fun w' hw' => a8 Try.underlying84 rfl rfl rfl rfl) (qx (fun w' hw' => a8 Try.underlying24 rfl rfl rfl rfl) (qx (fun w' hw' => af aq rfl (bx24.bel hw') rfl) (qx (fun w' hw' => dC (m := (p.1.length : Int)) (n := g.1) rfl rfl) (qm (Value.bool (!(decide ((p.1.length : Int) = g.1)))) ?_)))))))
   by_cases q18_c1 : (p.1.length : Int) = g.1
   ·
    refine b6 (v := vp b22 0) (wy (congrArg Bool.not (dt q18_c1))) (fun w' hw' => aI rfl) (b6 (v := vp b22 0) (wy (congrArg Bool.not (dt q18_c1))) (fun w' hw' => aE rfl) (b6 (v := vp b22 2) (wy (congrArg Bool.not (dt q18_c1))) (fun w' hw' => a8 Try.underlying84 rfl rfl rfl rfl) (b6 (v := vp b22 3) (wy (congrArg Bool.not (dt q18_c1))) (fun w' hw' => a8 Try.underlying28 rfl rfl rfl rfl) (b6 (v := p_v1) (wy (congrArg Bool.not (dt q18_c1))) (fun w' hw' => af cH rfl (bx24.bel hw') rfl) ?_))))
    replace r_p_v1 := r_p_v1.cn ch25
    have len28 := (r_p_v1).small
    refine b6 (v := vi (p.2.length : Int)) (wy (congrArg Bool.not (dt q18_c1))) (fun w' hw' => bh Try.underlying26 rfl (r_p_v1.bel hw')) (b6 (v := vp b22 0) (wy (congrArg Bool.not (dt q18_c1))) (fun w' hw' => aI rfl) (b6 (v := vp b22 0) (wy (congrArg Bool.not (dt q18_c1))) (fun w' hw' => aE rfl) (b6 (v := vp b22 0) (wy (congrArg Bool.not (dt q18_c1))) (fun w' hw' => a8 Try.underlying84 rfl rfl rfl rfl) (b6 (v := vp b22 1) (wy (congrArg Bool.not (dt q18_c1))) (fun w' hw' => a8 Try.underlying24 rfl rfl rfl rfl) ?_))))
    refine b6 (v := g_v) (wy (congrArg Bool.not (dt q18_c1))) (fun w' hw' => af cE rfl (bx24.bel hw') rfl) ?_
    replace Rg := Rg.cn ch25
    have len29 := (Rg).small
    refine b6 (v := vi (g.2.length : Int)) (wy (congrArg Bool.not (dt q18_c1))) (fun w' hw' => bh Try.underlying22 rfl (Rg.bel hw')) (b6 (v := Value.bool (!(decide ((p.2.length : Int) = (g.2.length : Int))))) (wy (congrArg Bool.not (dt q18_c1))) (fun w' hw' => dC (m := (p.2.length : Int)) (n := (g.2.length : Int)) rfl rfl) (qv (Value.bool (!(decide ((p.2.length : Int) = (g.2.length : Int))))) (fun w' hw' => aD rfl (congrArg Bool.not (dt q18_c1)) rfl) (dp ?_)))
    intro w30 hc31
    replace hc31 := ak hc31 g23
    by_cases p0_c1 : (p.2.length : Int) = (g.2.length : Int)
    ·
     refine aj rfl (congrArg Bool.not (dt p0_c1)) (am (a7 (a7 (a6 rfl (mv (vp b22 0) (lw (vp b22 0) (aE rfl) (lx (a8 Try.underlying84 rfl rfl rfl rfl) (lx (a8 Try.underlying28 rfl rfl rfl rfl) ?_))))))))
     replace bx24 := bx24.cn hc31
     refine lx (af bk rfl bx24 rfl) ?_
     replace Rp := Rp.cn hc31
     refine lx (bh Try.underlying25 rfl Rp) (mi 0 (aa (av ?_)))
     refine ba (σ := Nat × Value × (List ((Int) × (Int) × (Int))) × aP) (fun ⟨vS, FS_v, FS, gq⟩ f w => bf w0 gq w ∧ f 0 = vp b22 0 ∧ f 39 = p_v ∧ f 40 = vi (p.1.length : Int) ∧ f 41 = vi (vS : Int) ∧ Sl gq (is 0) w g_v g.2 ∧ Sl gq (is 0) w p_v p.1 ∧ Sl gq (is 0) w p_v1 p.2 ∧ Bx gq (is 2) w b8 [p_v, p_v1] ∧ Bx gq (is 3) w b13 [vi 0, vi 0, vi 0, Value.bool false, Value.bool false] ∧ Bx gq (is 4) w b22 [vi g.1, g_v, p_v, p_v1, FS_v] ∧ Ow gq (is 8) (is 8) w FS_v FS ∧ (vS : Int) ≤ ((p.1.length : Int) : Int) ∧ (FS = bb (h8 p) vS)) (fun ⟨vS, FS_v, FS, gq⟩ => Int.toNat (((p.1.length : Int) : Int) - (vS : Int))) (0, vn, [], g23) ?_ ?_
     have C33 := cg [] (ch21.n.seq (ch25.n.seq hc31.n))
     have C34 := hb18.n.seq C33
     have C32 := ch2.n.seq (ch7.n.seq (ch12.n.seq C34))
     · exact ⟨bH.ca C32, rfl, rfl, rfl, rfl, Rg.cn hc31, Rp, r_p_v1.cn hc31, bx10.ca C33, bx15.ca C34, bx24, Ow.nil, by omega, by rfl⟩
     clear Rg Rp r_p_v1 bx10 bx15 bx24 bH
     rintro ⟨vS, FS_v, FS, g37⟩ f35 w36 ⟨bH, zs0_c1, zs39_c1, zs40_c1, zs41_c1, Rg, Rp, r_p_v1, bx10, bx15, bx24, o_FS, hle_vS, haS⟩ back3_c1
     have halS := lX haS
     refine a7 (a6 rfl (lx (b9 (m := (vS : Int)) (n := (p.1.length : Int)) zs41_c1 zs40_c1) (aa (a7 ?_))))
     by_cases p3_c1 : (vS : Int) < (p.1.length : Int)
     ·
      refine ah rfl (dt p3_c1) (am (a7 (av (a7 (a6 rfl (mz zs41_c1 (lx (ar (v := p_v) (i := (vS : Int)) Try.underlying25 rfl zs39_c1 Rp zs41_c1 (by omega) (by omega)) (lw (vg [vi ((gI p.1 (vS : Int)).1), vi ((gI p.1 (vS : Int)).2)]) (aN (v := p_v) (i := (vS : Int)) ab rfl Rp (by omega) (by omega) rfl) (lo (aQ g37 (is 5) (5, 0) rfl ab ?_))))))))))
      intro g41 w38 b40 ch39 bx42
      replace bx42 : Bx g41 (is 5) w38 b40 [vi 0, vi 0] := bx42
      refine ai (vS : Int) (lo (ag (cs' := [vi ((gI p.1 (vS : Int)).1), vi ((gI p.1 (vS : Int)).2)]) ab rfl rfl bx42 rfl (Nat.le_of_ble_eq_true rfl) (AllOne.all (.cons rfl (.cons rfl .nil))) rfl ?_))
      intro w43 ch44 bx45
      clear bx42
      refine aa (a7 (a6 rfl (lx (ad (ds := [vi ((gI p.1 (vS : Int)).1), vi ((gI p.1 (vS : Int)).2)]) ab rfl bx45 rfl rfl) (lo (aJ (α := (Int) × (Int)) g41 (is 6) (is 6) (6, 0) rfl ([(gI p.1 (vS : Int))] : List ((Int) × (Int))) Try.underlying25 ab (by decide) (by decide) (vs := [(0, vg [vi ((gI p.1 (vS : Int)).1), vi ((gI p.1 (vS : Int)).2)])]) rfl rfl (.cons rfl .nil) ?_)))))
      intro g46 w47 v48 ch49 o50
      refine lo (aF (v := Value.bool (decide (cX ([(gI p.1 (vS : Int))] : List ((Int) × (Int)))))) (aw (vals := [v48]) Try.func54 e9 eh rfl) (ej w47 ([(gI p.1 (vS : Int))] : List ((Int) × (Int))) v48 (o50.flat).ro) ?_)
      intro w51 hb52
      replace hb52 := ak hb52 g46
      refine lx (di (b := (decide (cX ([(gI p.1 (vS : Int))] : List ((Int) × (Int)))))) rfl) (aa ?_)
      by_cases p5_c1 : (decide (cX ([(gI p.1 (vS : Int))] : List ((Int) × (Int))))) = true
      ·
       refine aj rfl (congrArg Bool.not p5_c1) (am (ao ?_))
       clear bx45 o50
       refine a6 rfl (lx (aT (m := (vS : Int)) (n := 1) zs41_c1 rfl (by omega)) (mi ((vS : Int) + 1) (aa ?_)))
       have C53 := cg [5] (ch39.n.seq ((ch44.l rfl).seq (ch49.n.seq hb52.n)))
       refine back3_c1 (vS + 1, FS_v, FS, g46) _ _ ⟨bH.ca C53, zs0_c1, zs39_c1, zs40_c1, rfl, Rg.ca C53, Rp.ca C53, r_p_v1.ca C53, bx10.ca C53, bx15.ca C53, bx24.ca C53, o_FS.ca C53, by omega, ?_⟩ ?_
       · show FS = bb (h8 p) (vS + 1)
         exact lW haS (mV ‹_›)
       · show Int.toNat (((p.1.length : Int) : Int) - ((vS + 1) : Int)) < Int.toNat (((p.1.length : Int) : Int) - (vS : Int))
         omega
      refine ah rfl (congrArg Bool.not (Bool.eq_false_iff.2 p5_c1)) ?_
      clear bx45 o50
      refine a6 rfl (mz zs0_c1 (mi (vS : Int) (lo (bJ (aw (vals := [vp b22 0, vi 2, vi (vS : Int), vi 0]) Try.func65 cL cM rfl) (aC Try.func65 rfl (Nat.le_of_ble_eq_true rfl) ?_)))))
      have C54 := cg [5] (ch39.n.seq ((ch44.l rfl).seq (ch49.n.seq hb52.n)))
      replace Rg := Rg.ca C54
      replace Rp := Rp.ca C54
      replace r_p_v1 := r_p_v1.ca C54
      replace o_FS := o_FS.ca C54
      refine a6 rfl (mv (vp b22 0) (mv (vp b22 0) (lw (vp b22 0) (aE rfl) (lx (a8 Try.underlying84 rfl rfl rfl rfl) ?_))))
      replace bx24 := bx24.ca C54
      refine lx (af bv rfl bx24 rfl) (mi 2 (mi (vS : Int) (mi 0 (lw (vg [vi 2, vi (vS : Int), vi 0]) (bz (vs := [(0, vi 2), (1, vi (vS : Int)), (2, vi 0)]) rfl (by kernel_rfl)) (lo (aJ (α := (Int) × (Int) × (Int)) g46 (is 7) (is 7) (7, 0) rfl ([(2, (vS : Int), 0)] : List ((Int) × (Int) × (Int))) Try.underlying36 bC (by decide) (by decide) (vs := [(0, vg [vi 2, vi (vS : Int), vi 0])]) rfl rfl (.cons rfl .nil) ?_))))))
      intro g55 w56 v57 ch58 o59
      refine lo ?_
      replace o_FS := o_FS.cn ch58
      refine bg (α := (Int) × (Int) × (Int)) (xs := FS) (ys := ([(2, (vS : Int), 0)] : List ((Int) × (Int) × (Int)))) g55 (J := is 8) (S := is 8) (8, 0) rfl Try.underlying36 bC (by decide) rfl rfl rfl o_FS o59.flat (by decide) (by (simp; omega)) ?_
      intro g60 w61 v62 ch63 o64
      clear o_FS
      refine lw (vp b22 0) (aE rfl) (lx (a8 Try.underlying84 rfl rfl rfl rfl) (lo ?_))
      replace bx24 := (bx24.cn ch58).ce ch63
      refine bi (cs' := [vi g.1, g_v, p_v, p_v1, v62]) bv rfl rfl bx24 (bj o64.flat) (Nat.le_of_ble_eq_true rfl) (bM o64.flat) rfl ?_
      intro w65 ch66 bx67
      clear bx24
      refine aa (bZ (vs := []) Try.func65 .nil ?_)
      refine ⟨vt [], rfl, ?_⟩
      refine aa (ao ?_)
      clear o59
      refine a6 rfl (lx (aT (m := (vS : Int)) (n := 1) zs41_c1 rfl (by omega)) (mi ((vS : Int) + 1) (aa ?_)))
      have C68 := cg [4, 5, 8] (ch39.n.seq ((ch44.l rfl).seq (ch49.n.seq (hb52.n.seq (ch58.n.seq ((ch63.l rfl).seq (ch66.l rfl)))))))
      have C69 := cg [4, 8] (ch58.n.seq ((ch63.l rfl).seq (ch66.l rfl)))
      refine back3_c1 (vS + 1, v62, (FS ++ ([(2, (vS : Int), 0)] : List ((Int) × (Int) × (Int)))), g60) _ _ ⟨bH.ca C68, zs0_c1, zs39_c1, zs40_c1, rfl, Rg.ca C69, Rp.ca C69, r_p_v1.ca C69, bx10.ca C68, bx15.ca C68, bx67, o64.ce ch66, by omega, ?_⟩ ?_
      · show (FS ++ ([(2, (vS : Int), 0)] : List ((Int) × (Int) × (Int)))) = bb (h8 p) (vS + 1)
        exact kf haS (mR ‹_›)
      · show Int.toNat (((p.1.length : Int) : Int) - ((vS + 1) : Int)) < Int.toNat (((p.1.length : Int) : Int) - (vS : Int))
        omega
     refine aj rfl (df p3_c1) (aU rfl (a7 (a6 rfl (mz zs0_c1 (lw (vp b22 0) (aE rfl) (lx (a8 Try.underlying84 rfl rfl rfl rfl) (lx (a8 Try.underlying28 rfl rfl rfl rfl) (lx (af cH rfl bx24 rfl) (lx (bh Try.underlying26 rfl r_p_v1) (mi 0 ?_))))))))))
     refine aa (av ?_)
     refine ba (σ := Value × (List ((Int) × (Int) × (Int))) × Nat × aP) (fun ⟨GS_v, GS, eS, gq⟩ f w => bf w0 gq w ∧ f 0 = vp b22 0 ∧ f 58 = p_v1 ∧ f 59 = vi (p.2.length : Int) ∧ f 60 = vi (eS : Int) ∧ Sl gq (is 0) w g_v g.2 ∧ Sl gq (is 0) w p_v p.1 ∧ Sl gq (is 0) w p_v1 p.2 ∧ Bx gq (is 2) w b8 [p_v, p_v1] ∧ Bx gq (is 3) w b13 [vi 0, vi 0, vi 0, Value.bool false, Value.bool false] ∧ Bx gq (is 4) w b22 [vi g.1, g_v, p_v, p_v1, GS_v] ∧ Ow gq (is 8) (is 8) w GS_v GS ∧ (eS : Int) ≤ ((p.2.length : Int) : Int) ∧ (GS = bb (h8 p) p.1.length ++ bb (iT p) eS)) (fun ⟨GS_v, GS, eS, gq⟩ => Int.toNat (((p.2.length : Int) : Int) - (eS : Int))) (FS_v, FS, 0, g37) ?_ ?_
     · exact ⟨bH, zs0_c1, rfl, rfl, rfl, Rg, Rp, r_p_v1, bx10, bx15, bx24, o_FS, by omega, by exact jR haS (by omega)⟩
     clear Rg Rp r_p_v1 bx10 bx15 bx24 o_FS bH
     rintro ⟨GS_v, GS, eS, g72⟩ f70 w71 ⟨bH, zs0_c1, zs58_c1, zs59_c1, zs60_c1, Rg, Rp, r_p_v1, bx10, bx15, bx24, o_GS, hle_eS, hbS⟩ back9_c1
     have hblS := lu hbS
     refine a7 (a6 rfl (lx (b9 (m := (eS : Int)) (n := (p.2.length : Int)) zs60_c1 zs59_c1) (aa (a7 ?_))))
     by_cases p9_c1 : (eS : Int) < (p.2.length : Int)
     ·
      refine ah rfl (dt p9_c1) (am (a7 (av (a7 (a6 rfl (mz zs60_c1 (lx (ar (v := p_v1) (i := (eS : Int)) Try.underlying26 rfl zs58_c1 r_p_v1 zs60_c1 (by omega) (by omega)) ?_)))))))
      obtain ⟨v73, cel74, r75⟩ := dZ (r := (eS : Int)) r_p_v1 (by omega) (by omega)
      refine lx (cv bk rfl cel74) (ai (eS : Int) (ma v73 (aa (a7 (a6 rfl (mv v73 ?_))))))
      have len76 := (r75).small
      refine lx (bh Try.underlying25 rfl r75) (lx (b9 (m := (List.length (gI p.2 (eS : Int)) : Int)) (n := 2) rfl rfl) (mv (Value.bool (decide ((List.length (gI p.2 (eS : Int)) : Int) < 2))) ?_))
      by_cases q68_c1 : (List.length (gI p.2 (eS : Int)) : Int) < 2
      ·
       refine ae (wn (dt q68_c1)) (ae (wn (dt q68_c1)) (ae (wn (dt q68_c1)) (lw (Value.bool true) (au rfl (dt q68_c1) rfl) (aa (ah rfl rfl ?_)))))
       clear r75
       refine a6 rfl (mz zs0_c1 (mi (eS : Int) (lo (bJ (aw (vals := [vp b22 0, vi 3, vi (eS : Int), vi 0]) Try.func65 cL cM rfl) (aC Try.func65 rfl (Nat.le_of_ble_eq_true rfl) (a6 rfl (mv (vp b22 0) (mv (vp b22 0) (lw (vp b22 0) (aE rfl) ?_)))))))))
       refine lx (a8 Try.underlying84 rfl rfl rfl rfl) (lx (af bv rfl bx24 rfl) (mi 3 (mi (eS : Int) (mi 0 (lw (vg [vi 3, vi (eS : Int), vi 0]) (bz (vs := [(0, vi 3), (1, vi (eS : Int)), (2, vi 0)]) rfl (by kernel_rfl)) (lo (aJ (α := (Int) × (Int) × (Int)) g72 (is 9) (is 9) (9, 0) rfl ([(3, (eS : Int), 0)] : List ((Int) × (Int) × (Int))) Try.underlying36 bC (by decide) (by decide) (vs := [(0, vg [vi 3, vi (eS : Int), vi 0])]) rfl rfl (.cons rfl .nil) ?_)))))))
       intro g77 w78 v79 ch80 o81
       refine lo ?_
       replace o_GS := o_GS.cn ch80
       refine bg (α := (Int) × (Int) × (Int)) (xs := GS) (ys := ([(3, (eS : Int), 0)] : List ((Int) × (Int) × (Int)))) g77 (J := is 8) (S := is 8) (8, 0) rfl Try.underlying36 bC (by decide) rfl rfl rfl o_GS o81.flat (by decide) (by (simp; omega)) ?_
       intro g82 w83 v84 ch85 o86
       clear o_GS
       refine lw (vp b22 0) (aE rfl) (lx (a8 Try.underlying84 rfl rfl rfl rfl) (lo ?_))
       replace bx24 := (bx24.cn ch80).ce ch85
       refine bi (cs' := [vi g.1, g_v, p_v, p_v1, v84]) bv rfl rfl bx24 (bj o86.flat) (Nat.le_of_ble_eq_true rfl) (bM o86.flat) rfl ?_
       intro w87 ch88 bx89
       clear bx24
       refine aa (bZ (vs := []) Try.func65 .nil ?_)
       refine ⟨vt [], rfl, ?_⟩
       refine aa (ao ?_)
       clear o81
       refine a6 rfl (lx (aT (m := (eS : Int)) (n := 1) zs60_c1 rfl (by omega)) (mi ((eS : Int) + 1) (aa ?_)))
       have C90 := cg [4, 8] (ch80.n.seq ((ch85.l rfl).seq (ch88.l rfl)))
       refine back9_c1 (v84, (GS ++ ([(3, (eS : Int), 0)] : List ((Int) × (Int) × (Int)))), eS + 1, g82) _ _ ⟨bH.ca C90, zs0_c1, zs58_c1, zs59_c1, rfl, Rg.ca C90, Rp.ca C90, r_p_v1.ca C90, bx10.ca C90, bx15.ca C90, bx89, o86.ce ch88, by omega, ?_⟩ ?_
       · show (GS ++ ([(3, (eS : Int), 0)] : List ((Int) × (Int) × (Int)))) = bb (h8 p) p.1.length ++ bb (iT p) (eS + 1)
         exact f3 hbS (rd ‹_›)
       · show Int.toNat (((p.2.length : Int) : Int) - ((eS + 1) : Int)) < Int.toNat (((p.2.length : Int) : Int) - (eS : Int))
         omega
      refine lv (v73) (wy (df q68_c1)) (aI rfl) (bY (wy (df q68_c1)) (aF (v := Value.bool (decide (cX (gI p.2 (eS : Int))))) (aw (vals := [v73]) Try.func54 e9 eh rfl) (ej w71 (gI p.2 (eS : Int)) v73 (r75).ro) ?_))
      intro w91 hb92
      replace hb92 := ak hb92 g72
      refine lv (Value.bool (!(decide (cX (gI p.2 (eS : Int)))))) (wy (df q68_c1)) (di (b := (decide (cX (gI p.2 (eS : Int))))) rfl) (lw (Value.bool (!(decide (cX (gI p.2 (eS : Int)))))) (aD rfl (df q68_c1) rfl) (aa ?_))
      by_cases p11_c1 : (decide (cX (gI p.2 (eS : Int)))) = true
      ·
       refine aj rfl (congrArg Bool.not p11_c1) (am (ao ?_))
       clear r75
       refine a6 rfl (lx (aT (m := (eS : Int)) (n := 1) zs60_c1 rfl (by omega)) (mi ((eS : Int) + 1) (aa ?_)))
       refine back9_c1 (GS_v, GS, eS + 1, g72) _ _ ⟨bH.cn hb92, zs0_c1, zs58_c1, zs59_c1, rfl, Rg.cn hb92, Rp.cn hb92, r_p_v1.cn hb92, bx10.cn hb92, bx15.cn hb92, bx24.cn hb92, o_GS.cn hb92, by omega, ?_⟩ ?_
       · show GS = bb (h8 p) p.1.length ++ bb (iT p) (eS + 1)
         exact gj hbS (qZ ‹_› ‹_›)
       · show Int.toNat (((p.2.length : Int) : Int) - ((eS + 1) : Int)) < Int.toNat (((p.2.length : Int) : Int) - (eS : Int))
         omega
      refine ah rfl (congrArg Bool.not (Bool.eq_false_iff.2 p11_c1)) ?_
      clear r75
      refine a6 rfl (mz zs0_c1 (mi (eS : Int) (lo (bJ (aw (vals := [vp b22 0, vi 3, vi (eS : Int), vi 0]) Try.func65 cL cM rfl) (aC Try.func65 rfl (Nat.le_of_ble_eq_true rfl) ?_)))))
      replace Rg := Rg.cn hb92
      replace Rp := Rp.cn hb92
      replace r_p_v1 := r_p_v1.cn hb92
      replace o_GS := o_GS.cn hb92
      refine a6 rfl (mv (vp b22 0) (mv (vp b22 0) (lw (vp b22 0) (aE rfl) (lx (a8 Try.underlying84 rfl rfl rfl rfl) ?_))))
      replace bx24 := bx24.cn hb92
      refine lx (af bv rfl bx24 rfl) (mi 3 (mi (eS : Int) (mi 0 (lw (vg [vi 3, vi (eS : Int), vi 0]) (bz (vs := [(0, vi 3), (1, vi (eS : Int)), (2, vi 0)]) rfl (by kernel_rfl)) (lo (aJ (α := (Int) × (Int) × (Int)) g72 (is 10) (is 10) (10, 0) rfl ([(3, (eS : Int), 0)] : List ((Int) × (Int) × (Int))) Try.underlying36 bC (by decide) (by decide) (vs := [(0, vg [vi 3, vi (eS : Int), vi 0])]) rfl rfl (.cons rfl .nil) ?_))))))
      intro g93 w94 v95 ch96 o97
      refine lo ?_
      replace o_GS := o_GS.cn ch96
      refine bg (α := (Int) × (Int) × (Int)) (xs := GS) (ys := ([(3, (eS : Int), 0)] : List ((Int) × (Int) × (Int)))) g93 (J := is 8) (S := is 8) (8, 0) rfl Try.underlying36 bC (by decide) rfl rfl rfl o_GS o97.flat (by decide) (by (simp; omega)) ?_
      intro g98 w99 v100 ch101 o102
      clear o_GS
      refine lw (vp b22 0) (aE rfl) (lx (a8 Try.underlying84 rfl rfl rfl rfl) (lo ?_))
      replace bx24 := (bx24.cn ch96).ce ch101
      refine bi (cs' := [vi g.1, g_v, p_v, p_v1, v100]) bv rfl rfl bx24 (bj o102.flat) (Nat.le_of_ble_eq_true rfl) (bM o102.flat) rfl ?_
      intro w103 ch104 bx105
      clear bx24
      refine aa (bZ (vs := []) Try.func65 .nil ?_)
      refine ⟨vt [], rfl, ?_⟩
      refine aa (ao ?_)
      clear o97
      refine a6 rfl (lx (aT (m := (eS : Int)) (n := 1) zs60_c1 rfl (by omega)) (mi ((eS : Int) + 1) (aa ?_)))
      have C107 := cg [4, 8] (ch96.n.seq ((ch101.l rfl).seq (ch104.l rfl)))
      have C106 := hb92.n.seq C107
      refine back9_c1 (v100, (GS ++ ([(3, (eS : Int), 0)] : List ((Int) × (Int) × (Int)))), eS + 1, g98) _ _ ⟨bH.ca C106, zs0_c1, zs58_c1, zs59_c1, rfl, Rg.ca C107, Rp.ca C107, r_p_v1.ca C107, bx10.ca C106, bx15.ca C106, bx105, o102.ce ch104, by omega, ?_⟩ ?_
      · show (GS ++ ([(3, (eS : Int), 0)] : List ((Int) × (Int) × (Int)))) = bb (h8 p) p.1.length ++ bb (iT p) (eS + 1)
        exact f3 hbS (r4 ‹_›)
      · show Int.toNat (((p.2.length : Int) : Int) - ((eS + 1) : Int)) < Int.toNat (((p.2.length : Int) : Int) - (eS : Int))
        omega
     refine aj rfl (df p9_c1) (aU rfl (bZ (vs := []) Try.func40 .nil ?_))
     refine ⟨(GS_v, GS, g72), rfl, bH, Rg, Rp, r_p_v1, bx10, bx15, bx24, o_GS, ?_⟩
     show GS = bL g p
     exact rh ‹_› ‹_› hbS (by omega)
    refine ah rfl (congrArg Bool.not (df p0_c1)) (a7 (a6 rfl (mv (vp b22 0) (lo (bJ (aw (vals := [vp b22 0, vi 1, vi 0, vi 0]) Try.func65 cL cM rfl) (aC Try.func65 rfl (Nat.le_of_ble_eq_true rfl) ?_))))))
    replace Rg := Rg.cn hc31
    replace Rp := Rp.cn hc31
    replace r_p_v1 := r_p_v1.cn hc31
    refine a6 rfl (mv (vp b22 0) (mv (vp b22 0) (lw (vp b22 0) (aE rfl) (lx (a8 Try.underlying84 rfl rfl rfl rfl) ?_))))
    replace bx24 := bx24.cn hc31
    refine lx (af bv rfl bx24 rfl) (mi 1 (mi 0 (mi 0 (lw (vg [vi 1, vi 0, vi 0]) (bz (vs := [(0, vi 1), (1, vi 0), (2, vi 0)]) rfl (by kernel_rfl)) (lo (aJ (α := (Int) × (Int) × (Int)) g23 (is 11) (is 11) (11, 0) rfl ([(1, 0, 0)] : List ((Int) × (Int) × (Int))) Try.underlying36 bC (by decide) (by decide) (vs := [(0, vg [vi 1, vi 0, vi 0])]) rfl rfl (.cons rfl .nil) ?_))))))
    intro g108 w109 v110 ch111 o112
    refine lo (bg (α := (Int) × (Int) × (Int)) (xs := ([])) (ys := ([(1, 0, 0)] : List ((Int) × (Int) × (Int)))) g108 (J := is 8) (S := is 8) (8, 0) rfl Try.underlying36 bC (by decide) rfl rfl rfl Ow.nil o112.flat (by decide) (by (simp; done)) ?_)
    intro g113 w114 v115 ch116 o117
    replace o117 : Ow g113 (is 8) (is 8) w114 v115 ([(1, 0, 0)] : List ((Int) × (Int) × (Int))) := o117
    replace o117 : Ow g113 (is 8) (is 8) w114 v115 (([(1, 0, 0)] : List ((Int) × (Int) × (Int))) : List ((Int) × (Int) × (Int))) := o117
    refine lw (vp b22 0) (aE rfl) (lx (a8 Try.underlying84 rfl rfl rfl rfl) (lo ?_))
    replace bx24 := (bx24.cn ch111).ce ch116
    refine bi (cs' := [vi g.1, g_v, p_v, p_v1, v115]) bv rfl rfl bx24 (bj o117.flat) (Nat.le_of_ble_eq_true rfl) (bM o117.flat) rfl ?_
    intro w118 ch119 bx120
    clear bx24
    refine aa (bZ (vs := []) Try.func65 .nil ?_)
    refine ⟨vt [], rfl, ?_⟩
    refine aa (al (vs := []) Try.func40 .nil ?_)
    have C122 := cg [4, 8] (ch111.n.seq ((ch116.l rfl).seq (ch119.l rfl)))
    have C123 := ch21.n.seq (ch25.n.seq (hc31.n.seq C122))
    have C124 := hb18.n.seq C123
    have C121 := ch2.n.seq (ch7.n.seq (ch12.n.seq C124))
    replace bH := bH.ca C121
    replace Rg := Rg.ca C122
    replace Rp := Rp.ca C122
    replace r_p_v1 := r_p_v1.ca C122
    replace bx10 := bx10.ca C123
    replace bx15 := bx15.ca C124
    replace o117 := o117.ce ch119
    refine ⟨(v115, ([(1, 0, 0)] : List ((Int) × (Int) × (Int))), g113), rfl, bH, Rg, Rp, r_p_v1, bx10, bx15, bx120, o117, ?_⟩
    show ([(1, 0, 0)] : List ((Int) × (Int) × (Int))) = bL g p
    exact ri ‹_›
   refine aV (wn (congrArg Bool.not (df q18_c1))) (aV (wn (congrArg Bool.not (df q18_c1))) (aV (wn (congrArg Bool.not (df q18_c1))) (aV (wn (congrArg Bool.not (df q18_c1))) (aV (wn (congrArg Bool.not (df q18_c1))) (aV (wn (congrArg Bool.not (df q18_c1))) (aV (wn (congrArg Bool.not (df q18_c1))) (aV (wn (congrArg Bool.not (df q18_c1))) (aV (wn (congrArg Bool.not (df q18_c1))) (aV (wn (congrArg Bool.not (df q18_c1))) ?_)))))))))
   refine aV (wn (congrArg Bool.not (df q18_c1))) (aV (wn (congrArg Bool.not (df q18_c1))) (aV (wn (congrArg Bool.not (df q18_c1))) (qv (Value.bool true) (fun w' hw' => au rfl (congrArg Bool.not (df q18_c1)) rfl) (dp ?_))))
   intro w125 hc126
   replace hc126 := ak hc126 g23
   refine ah rfl rfl (a7 (a6 rfl (mv (vp b22 0) (lo (bJ (aw (vals := [vp b22 0, vi 1, vi 0, vi 0]) Try.func65 cL cM rfl) (aC Try.func65 rfl (Nat.le_of_ble_eq_true rfl) ?_))))))
   replace Rg := (Rg.cn ch25).cn hc126
   replace Rp := Rp.cn hc126
   replace r_p_v1 := (r_p_v1.cn ch25).cn hc126
   refine a6 rfl (mv (vp b22 0) (mv (vp b22 0) (lw (vp b22 0) (aE rfl) (lx (a8 Try.underlying84 rfl rfl rfl rfl) ?_))))
   replace bx24 := bx24.cn hc126
   refine lx (af bv rfl bx24 rfl) (mi 1 (mi 0 (mi 0 (lw (vg [vi 1, vi 0, vi 0]) (bz (vs := [(0, vi 1), (1, vi 0), (2, vi 0)]) rfl (by kernel_rfl)) (lo (aJ (α := (Int) × (Int) × (Int)) g23 (is 12) (is 12) (12, 0) rfl ([(1, 0, 0)] : List ((Int) × (Int) × (Int))) Try.underlying36 bC (by decide) (by decide) (vs := [(0, vg [vi 1, vi 0, vi 0])]) rfl rfl (.cons rfl .nil) ?_))))))
   intro g127 w128 v129 ch130 o131
   refine lo (bg (α := (Int) × (Int) × (Int)) (xs := ([])) (ys := ([(1, 0, 0)] : List ((Int) × (Int) × (Int)))) g127 (J := is 8) (S := is 8) (8, 0) rfl Try.underlying36 bC (by decide) rfl rfl rfl Ow.nil o131.flat (by decide) (by (simp; done)) ?_)
   intro g132 w133 v134 ch135 o136
   replace o136 : Ow g132 (is 8) (is 8) w133 v134 ([(1, 0, 0)] : List ((Int) × (Int) × (Int))) := o136
   replace o136 : Ow g132 (is 8) (is 8) w133 v134 (([(1, 0, 0)] : List ((Int) × (Int) × (Int))) : List ((Int) × (Int) × (Int))) := o136
   refine lw (vp b22 0) (aE rfl) (lx (a8 Try.underlying84 rfl rfl rfl rfl) (lo ?_))
   replace bx24 := (bx24.cn ch130).ce ch135
   refine bi (cs' := [vi g.1, g_v, p_v, p_v1, v134]) bv rfl rfl bx24 (bj o136.flat) (Nat.le_of_ble_eq_true rfl) (bM o136.flat) rfl ?_
   intro w137 ch138 bx139
   clear bx24
   refine aa (bZ (vs := []) Try.func65 .nil ?_)
   refine ⟨vt [], rfl, ?_⟩
   refine aa (al (vs := []) Try.func40 .nil ?_)
   have C141 := cg [4, 8] (ch130.n.seq ((ch135.l rfl).seq (ch138.l rfl)))
   have C142 := ch21.n.seq (ch25.n.seq (hc126.n.seq C141))
   have C143 := hb18.n.seq C142
   have C140 := ch2.n.seq (ch7.n.seq (ch12.n.seq C143))
   replace bH := bH.ca C140
   replace Rg := Rg.ca C141
   replace Rp := Rp.ca C141
   replace r_p_v1 := r_p_v1.ca C141
   replace bx10 := bx10.ca C142
   replace bx15 := bx15.ca C143
   replace o136 := o136.ce ch138
   refine ⟨(v134, ([(1, 0, 0)] : List ((Int) × (Int) × (Int))), g132), rfl, bH, Rg, Rp, r_p_v1, bx10, bx15, bx139, o136, ?_⟩
   show ([(1, 0, 0)] : List ((Int) × (Int) × (Int))) = bL g p
   exact qX ‹_›
  clear Rg Rp r_p_v1 bx10 bx15 bx24 bH
  rintro ⟨l_4_c1_v, l_4_c1, g145⟩ w144 ⟨bH, Rg, Rp, r_p_v1, bx10, bx15, bx24, o_l_4_c1, hsh⟩
  have hshl := iy (p := p) hmay
  rw [← hsh] at hshl
  refine aa (a7 (a7 (a6 rfl (mv (vp b22 0) (lw (vp b22 0) (aE rfl) (lx (a8 Try.underlying84 rfl rfl rfl rfl) (lx (af bv rfl bx24 rfl) ?_)))))))
  have len146 := (o_l_4_c1.flat).small
  refine lx (bh Try.underlying36 rfl o_l_4_c1.flat) (lx (bQ (m := (l_4_c1.length : Int)) (n := 0) rfl rfl) (aa ?_))
  by_cases p5 : 0 < (l_4_c1.length : Int)
  ·
   refine ah rfl (dt p5) (a7 ?_)
   clear bx10 bx24 o_l_4_c1
   refine a6 rfl (lw (vg [vi 0, vi 0, vi 0, Value.bool false, Value.bool false]) (bz (vs := []) rfl (by kernel_rfl)) (lo (ag (cs' := [vi 0, vi 0, vi 0, Value.bool false, Value.bool false]) cz rfl rfl bx15 rfl (Nat.le_of_ble_eq_true rfl) (AllOne.all (.cons rfl (.cons rfl (.cons rfl (.cons rfl (.cons rfl .nil)))))) rfl ?_)))
   intro w147 ch148 bx149
   clear bx15
   refine ai 24 (aa (al (vs := [vg [vi 0, vi 0, vi 0, Value.bool false, Value.bool false], vi 24]) Try.func19 (.cell rfl (d7 (ds := [vi 0, vi 0, vi 0, Value.bool false, Value.bool false]) cz bx149 rfl rfl) (.tmp rfl .nil)) ?_))
   have e0 : ((0, 0, 0, false, false) : (Int) × (Int) × (Int) × (Bool) × (Bool)) = ((aL g p).1) := by
     rw [lQ hm hsh ‹_›]
   have e1 : (24 : Int) = ((aL g p).2) := by
     rw [lQ hm hsh ‹_›]
   replace bH := bH.ce ch148
   exact ⟨(bW (a := (0, 0, 0, false, false)) (b := 24) (fun (z0 : (Int) × (Int) × (Int) × (Bool) × (Bool)) (z1 : Int) => Ending.returned (vt [vg [vi z0.1, vi z0.2.1, vi z0.2.2.1, Value.bool z0.2.2.2.1, Value.bool z0.2.2.2.2], vi z1])) e0 e1), bH.below⟩
  obtain ⟨hF0, hsn, hs⟩ := nn hsh p5
  have hs1 := hs.n
  have hs2 := hs.m
  refine aj rfl (df p5) (am (a7 ?_))
  clear bx24 o_l_4_c1
  refine a6 rfl (lw (vg [vi 0, vi 0, vi 0, Value.bool true, Value.bool true]) (bz (vs := [(3, Value.bool true), (4, Value.bool true)]) rfl (by kernel_rfl)) (lo (aQ g145 (is 13) (13, 0) rfl cz ?_)))
  intro g153 w150 b152 ch151 bx154
  replace bx154 : Bx g153 (is 13) w150 b152 [vi 0, vi 0, vi 0, Value.bool false, Value.bool false] := bx154
  refine lo (ag (cs' := [vi 0, vi 0, vi 0, Value.bool true, Value.bool true]) cz rfl rfl bx154 rfl (Nat.le_of_ble_eq_true rfl) (AllOne.all (.cons rfl (.cons rfl (.cons rfl (.cons rfl (.cons rfl .nil)))))) rfl ?_)
  intro w155 ch156 bx157
  clear bx154
  refine aa (a7 (a7 (a6 rfl (lx (a8 Try.underlying28 rfl rfl rfl rfl) ?_))))
  replace bx10 := (bx10.cn ch151).ce ch156
  refine lx (af cH rfl bx10 rfl) ?_
  replace r_p_v1 := (r_p_v1.cn ch151).ce ch156
  have len158 := (r_p_v1).small
  refine lx (bh Try.underlying26 rfl r_p_v1) (mi 0 (aa (av ?_)))
  refine ba (σ := Int × Bool × Nat × aP) (fun ⟨bn, ax, k, gq⟩ f w => bf w0 gq w ∧ f 3 = vp b8 0 ∧ f 4 = vp b13 0 ∧ f 7 = vp b152 0 ∧ f 37 = p_v1 ∧ f 38 = vi (p.2.length : Int) ∧ f 39 = vi (k : Int) ∧ Sl gq (is 0) w g_v g.2 ∧ Sl gq (is 0) w p_v p.1 ∧ Sl gq (is 0) w p_v1 p.2 ∧ Bx gq (is 2) w b8 [p_v, p_v1] ∧ Bx gq (is 3) w b13 [vi 0, vi 0, vi 0, Value.bool false, Value.bool false] ∧ Bx gq (is 13) w b152 [vi bn, vi 0, vi 0, Value.bool true, Value.bool ax] ∧ (k : Int) ≤ ((p.2.length : Int) : Int) ∧ (bn = eG p k ∧ ax = iO p k)) (fun ⟨bn, ax, k, gq⟩ => Int.toNat (((p.2.length : Int) : Int) - (k : Int))) (0, true, 0, g153) ?_ ?_
  replace bH := bH.cn ch151
  · exact ⟨bH.ce ch156, rfl, rfl, rfl, rfl, rfl, rfl, (Rg.cn ch151).ce ch156, (Rp.cn ch151).ce ch156, r_p_v1, bx10, (bx15.cn ch151).ce ch156, bx157, by omega, by exact ⟨rfl, rfl⟩⟩
  clear Rg Rp r_p_v1 bx10 bx15 bx157 bH
  rintro ⟨bn, ax, k, g161⟩ f159 w160 ⟨bH, zs3, zs4, zs7, zs37, zs38, zs39, Rg, Rp, r_p_v1, bx10, bx15, bx157, hle_k, hbk⟩ back9
  have hbd := kq hs.ln k (by omega)
  refine a7 (a6 rfl (lx (b9 (m := (k : Int)) (n := (p.2.length : Int)) zs39 zs38) (aa (a7 ?_))))
  by_cases p9 : (k : Int) < (p.2.length : Int)
  ·
   refine ah rfl (dt p9) ?_
   obtain ⟨hl1, hl2, hl3⟩ := hs.ln (k : Int) (by omega) (by omega)
   refine am (a7 (av (a7 (a6 rfl (lx (ar (v := p_v1) (i := (k : Int)) Try.underlying26 rfl zs37 r_p_v1 zs39 (by omega) (by omega)) ?_)))))
   obtain ⟨v162, cel163, r164⟩ := dZ (r := (k : Int)) r_p_v1 (by omega) (by omega)
   refine lx (cv bk rfl cel163) (ma v162 (aa (a7 (a6 rfl (lx (a8 Try.underlying52 rfl rfl zs7 rfl) (lx (af aq rfl bx157 rfl) (mv v162 ?_)))))))
   have len165 := (r164).small
   refine lx (bh Try.underlying25 rfl r164) (lx (cZ (m := (List.length (gI p.2 (k : Int)) : Int)) (n := 2) rfl rfl (by omega)) (lx (aT (m := bn) (n := (List.length (gI p.2 (k : Int)) : Int) - 2) rfl rfl (by omega)) (lx (a8 Try.underlying52 rfl rfl zs7 rfl) (lo (ag (cs' := [vi (bn + ((List.length (gI p.2 (k : Int)) : Int) - 2)), vi 0, vi 0, Value.bool true, Value.bool ax]) aq rfl rfl bx157 rfl (Nat.le_of_ble_eq_true rfl) (AllOne.all (.cons rfl .nil)) rfl ?_)))))
   intro w166 ch167 bx168
   clear bx157
   refine aa (a7 (a6 rfl (ai 1 (aa (av ?_)))))
   refine ba (σ := Bool × Nat × aP) (fun ⟨ay, i, gq⟩ f w => bf w0 gq w ∧ f 3 = vp b8 0 ∧ f 4 = vp b13 0 ∧ f 7 = vp b152 0 ∧ f 9 = v162 ∧ f 10 = vi (i : Int) ∧ f 37 = p_v1 ∧ f 38 = vi (p.2.length : Int) ∧ f 39 = vi (k : Int) ∧ Sl gq (is 0) w g_v g.2 ∧ Sl gq (is 0) w p_v p.1 ∧ Sl gq (is 0) w p_v1 p.2 ∧ Bx gq (is 2) w b8 [p_v, p_v1] ∧ Bx gq (is 3) w b13 [vi 0, vi 0, vi 0, Value.bool false, Value.bool false] ∧ Sl gq (is 0) w v162 (gI p.2 (k : Int)) ∧ Bx gq (is 13) w b152 [vi (bn + ((List.length (gI p.2 (k : Int)) : Int) - 2)), vi 0, vi 0, Value.bool true, Value.bool ay] ∧ (i : Int) ≤ ((List.length (gI p.2 (k : Int)) : Int) : Int) ∧ (1 ≤ i ∧ ay = (iO p k && ep (kE (gI p.2 (k : Int))) (i - 1)))) (fun ⟨ay, i, gq⟩ => List.length (gI p.2 (k : Int)) - i) (ax, 1, g161) ?_ ?_
   · exact ⟨bH.ce ch167, zs3, zs4, zs7, rfl, rfl, zs37, zs38, zs39, Rg.ce ch167, Rp.ce ch167, r_p_v1.ce ch167, bx10.ce ch167, bx15.ce ch167, r164.ce ch167, bx168, by omega, by exact pX hbk.2⟩
   clear Rg Rp r_p_v1 bx10 bx15 r164 bx168 bH
   rintro ⟨ay, i, g171⟩ f169 w170 ⟨bH, zs3, zs4, zs7, zs9, zs10, zs37, zs38, zs39, Rg, Rp, r_p_v1, bx10, bx15, r164, bx168, hle_i, hax⟩ back13
   have hi1 := hax.1
   refine a7 (a7 (a6 rfl (mz zs10 (mz zs9 (lx (bh Try.underlying25 rfl r164) (lx (b9 (m := (i : Int)) (n := (List.length (gI p.2 (k : Int)) : Int)) rfl rfl) (aa ?_)))))))
   by_cases p13 : (i : Int) < (List.length (gI p.2 (k : Int)) : Int)
   ·
    refine ah rfl (dt p13) (am (a7 (av (a7 ?_))))
    refine cR (σ := Nat × Nat × aP) (fun ⟨b176, b182, gq⟩ f w => bf w0 gq w ∧ f 3 = vp b8 0 ∧ f 4 = vp b13 0 ∧ f 7 = vp b152 0 ∧ f 9 = v162 ∧ f 10 = vi (i : Int) ∧ f 11 = vp b176 0 ∧ f 12 = vp b182 0 ∧ f 37 = p_v1 ∧ f 38 = vi (p.2.length : Int) ∧ f 39 = vi (k : Int) ∧ Sl gq (is 0) w g_v g.2 ∧ Sl gq (is 0) w p_v p.1 ∧ Sl gq (is 0) w p_v1 p.2 ∧ Bx gq (is 2) w b8 [p_v, p_v1] ∧ Bx gq (is 3) w b13 [vi 0, vi 0, vi 0, Value.bool false, Value.bool false] ∧ Sl gq (is 0) w v162 (gI p.2 (k : Int)) ∧ Bx gq (is 13) w b152 [vi (bn + ((List.length (gI p.2 (k : Int)) : Int) - 2)), vi 0, vi 0, Value.bool true, Value.bool ay] ∧ Bx gq (is 14) w b176 [vi ((gI (gI p.2 (k : Int)) ((i : Int) - 1)).1), vi ((gI (gI p.2 (k : Int)) ((i : Int) - 1)).2)] ∧ Bx gq (is 15) w b182 [vi ((gI (gI p.2 (k : Int)) (i : Int)).1), vi ((gI (gI p.2 (k : Int)) (i : Int)).2)]) g171 (bR [14, 15]) fE ?_ ?_
    ·
     intro mid
     intro w173 ch172
     refine ht (v := v162) 0 rfl (aO.refl _ _ _) (fun w' hw' => aI zs9) (ht (v := vi (i : Int)) 1 rfl (aO.refl _ _ _) (fun w' hw' => aI zs10) (ht 2 rfl (aO.refl _ _ _) (fun w' hw' => cZ (m := (i : Int)) (n := 1) rfl rfl (by omega)) ?_))
     replace r164 := r164.cn ch172
     refine ht 3 rfl (aO.refl _ _ _) (fun w' hw' => ar (v := v162) (i := (i : Int) - 1) Try.underlying25 rfl rfl (r164.chg hw' (bB rfl)) rfl (by omega) (by omega)) (ht (v := vg [vi ((gI (gI p.2 (k : Int)) ((i : Int) - 1)).1), vi ((gI (gI p.2 (k : Int)) ((i : Int) - 1)).2)]) 4 rfl (aO.refl _ _ _) (fun w' hw' => aN (v := v162) (i := (i : Int) - 1) ab rfl (r164.chg hw' (bB rfl)) (by omega) (by omega) rfl) (ht (v := v162) 5 rfl (aO.refl _ _ _) (fun w' hw' => aI zs9) (ht (v := vi (i : Int)) 6 rfl (aO.refl _ _ _) (fun w' hw' => aI zs10) (ht 7 rfl (aO.refl _ _ _) (fun w' hw' => ar (v := v162) (i := (i : Int)) Try.underlying25 rfl rfl (r164.chg hw' (bB rfl)) rfl (by omega) (by omega)) ?_))))
     refine ht (v := vg [vi ((gI (gI p.2 (k : Int)) (i : Int)).1), vi ((gI (gI p.2 (k : Int)) (i : Int)).2)]) 8 rfl (aO.refl _ _ _) (fun w' hw' => aN (v := v162) (i := (i : Int)) ab rfl (r164.chg hw' (bB rfl)) (by omega) (by omega) rfl) ?_
     refine bx 9 [10] (by kernel_rfl) ⟨bl 9 rfl (by kernel_rfl) rfl ?_, bl 10 rfl (by kernel_rfl) rfl ?_, trivial⟩
     ·
      refine aQ g171 (is 14) (14, 0) rfl ab ?_
      intro g177 w174 b176 ch175 bx178
      replace bx178 : Bx g177 (is 14) w174 b176 [vi 0, vi 0] := bx178
      have hs179 : aO (bR [14, 15]) _ _ _ _ := ch175.n
      refine ⟨hs179.same, ?_⟩
      refine aB 10 rfl (by kernel_rfl) rfl (aQ g177 (is 15) (15, 0) rfl ab ?_)
      intro g183 w180 b182 ch181 bx184
      replace bx184 : Bx g183 (is 15) w180 b182 [vi 0, vi 0] := bx184
      have hs185 := hs179.seq (ch181.n)
      refine ⟨hs185.same, ?_⟩
      refine aB 11 rfl (by kernel_rfl) rfl ?_
      replace bx178 := bx178.cn ch181
      refine ag (cs' := [vi ((gI (gI p.2 (k : Int)) ((i : Int) - 1)).1), vi ((gI (gI p.2 (k : Int)) ((i : Int) - 1)).2)]) ab rfl rfl bx178 rfl (Nat.le_of_ble_eq_true rfl) (AllOne.all (.cons rfl (.cons rfl .nil))) rfl ?_
      intro w186 ch187 bx188
      clear bx178
      have hs189 := hs185.seq (ch187.l rfl)
      refine ⟨hs189.same, ?_⟩
      refine aB 12 rfl (by kernel_rfl) rfl ?_
      replace bx184 := bx184.ce ch187
      refine ag (cs' := [vi ((gI (gI p.2 (k : Int)) (i : Int)).1), vi ((gI (gI p.2 (k : Int)) (i : Int)).2)]) ab rfl rfl bx184 rfl (Nat.le_of_ble_eq_true rfl) (AllOne.all (.cons rfl (.cons rfl .nil))) rfl ?_
      intro w190 ch191 bx192
      clear bx184
      have hs193 := hs189.seq (ch191.l rfl)
      refine ⟨hs193.same, ?_⟩
      refine bm (by kernel_rfl) ?_
      have C194 := cg [14, 15] (ch172.n.seq (ch175.n.seq (ch181.n.seq ((ch187.l rfl).seq (ch191.l rfl)))))
      replace Rg := Rg.cn ch172
      replace Rp := Rp.cn ch172
      replace r_p_v1 := r_p_v1.cn ch172
      replace bx10 := bx10.cn ch172
      replace bx15 := bx15.cn ch172
      replace bx168 := bx168.cn ch172
      exact mid (b176, b182, g183) _ _ ⟨bH.ca C194, zs3, zs4, zs7, zs9, zs10, rfl, rfl, zs37, zs38, zs39, (Rg.ca hs193), (Rp.ca hs193), (r_p_v1.ca hs193), (bx10.ca hs193), (bx15.ca hs193), (r164.ca hs193), (bx168.ca hs193), bx188.ce ch191, bx192⟩
     ·
      refine aQ g171 (is 15) (15, 0) rfl ab ?_
      intro g198 w195 b197 ch196 bx199
      replace bx199 : Bx g198 (is 15) w195 b197 [vi 0, vi 0] := bx199
      have hs200 : aO (bR [14, 15]) _ _ _ _ := ch196.n
      refine ⟨hs200.same, ?_⟩
      refine aB 9 rfl (by kernel_rfl) rfl (aQ g198 (is 14) (14, 0) rfl ab ?_)
      intro g204 w201 b203 ch202 bx205
      replace bx205 : Bx g204 (is 14) w201 b203 [vi 0, vi 0] := bx205
      have hs206 := hs200.seq (ch202.n)
      refine ⟨hs206.same, ?_⟩
      refine aB 11 rfl (by kernel_rfl) rfl (ag (cs' := [vi ((gI (gI p.2 (k : Int)) ((i : Int) - 1)).1), vi ((gI (gI p.2 (k : Int)) ((i : Int) - 1)).2)]) ab rfl rfl bx205 rfl (Nat.le_of_ble_eq_true rfl) (AllOne.all (.cons rfl (.cons rfl .nil))) rfl ?_)
      intro w207 ch208 bx209
      clear bx205
      have hs210 := hs206.seq (ch208.l rfl)
      refine ⟨hs210.same, ?_⟩
      refine aB 12 rfl (by kernel_rfl) rfl ?_
      replace bx199 := (bx199.cn ch202).ce ch208
      refine ag (cs' := [vi ((gI (gI p.2 (k : Int)) (i : Int)).1), vi ((gI (gI p.2 (k : Int)) (i : Int)).2)]) ab rfl rfl bx199 rfl (Nat.le_of_ble_eq_true rfl) (AllOne.all (.cons rfl (.cons rfl .nil))) rfl ?_
      intro w211 ch212 bx213
      clear bx199
      have hs214 := hs210.seq (ch212.l rfl)
      refine ⟨hs214.same, ?_⟩
      refine bm (by kernel_rfl) ?_
      have C215 := cg [14, 15] (ch172.n.seq (ch196.n.seq (ch202.n.seq ((ch208.l rfl).seq (ch212.l rfl)))))
      replace Rg := Rg.cn ch172
      replace Rp := Rp.cn ch172
      replace r_p_v1 := r_p_v1.cn ch172
      replace bx10 := bx10.cn ch172
      replace bx15 := bx15.cn ch172
      replace bx168 := bx168.cn ch172
      exact mid (b203, b197, g204) _ _ ⟨bH.ca C215, zs3, zs4, zs7, zs9, zs10, rfl, rfl, zs37, zs38, zs39, (Rg.ca hs214), (Rp.ca hs214), (r_p_v1.ca hs214), (bx10.ca hs214), (bx15.ca hs214), (r164.ca hs214), (bx168.ca hs214), bx209.ce ch212, bx213⟩
    clear Rg Rp r_p_v1 bx10 bx15 r164 bx168 bH
    rintro ⟨b176, b182, g218⟩ f216 w217 ⟨bH, zs3, zs4, zs7, zs9, zs10, zs11, zs12, zs37, zs38, zs39, Rg, Rp, r_p_v1, bx10, bx15, r164, bx168, bx188, bx192⟩
    refine a6 rfl (lx (a8 Try.underlying52 rfl rfl zs7 rfl) (lx (af fS rfl bx168 rfl) (mv (Value.bool ay) ?_)))
    by_cases q67 : ay = true
    ·
     refine lv (vp b176 0) (wy q67) (a8 Try.underlying45 rfl rfl zs11 rfl) (lv (vi ((gI (gI p.2 (k : Int)) ((i : Int) - 1)).1)) (wy q67) (af aq rfl bx188 rfl) (lv (vp b182 0) (wy q67) (a8 Try.underlying45 rfl rfl zs12 rfl) (lv (vi ((gI (gI p.2 (k : Int)) (i : Int)).1)) (wy q67) (af aq rfl bx192 rfl) (lv (Value.bool (decide (((gI (gI p.2 (k : Int)) ((i : Int) - 1)).1) = ((gI (gI p.2 (k : Int)) (i : Int)).1)))) (wy q67) (bO (m := (gI (gI p.2 (k : Int)) ((i : Int) - 1)).1) (n := (gI (gI p.2 (k : Int)) (i : Int)).1) rfl rfl) (lv (Value.bool (decide (((gI (gI p.2 (k : Int)) ((i : Int) - 1)).1) = ((gI (gI p.2 (k : Int)) (i : Int)).1)))) (wy q67) (aI rfl) ?_)))))
     by_cases q73 : ((gI (gI p.2 (k : Int)) ((i : Int) - 1)).1) = ((gI (gI p.2 (k : Int)) (i : Int)).1)
     ·
      refine ae (wn (dt q73)) (ae (wn (dt q73)) (ae (wn (dt q73)) (ae (wn (dt q73)) (ae (wn (dt q73)) (lv (Value.bool true) (wy q67) (au rfl (dt q73) rfl) (lw (Value.bool true) (au rfl q67 rfl) (lx (a8 Try.underlying52 rfl rfl zs7 rfl) (lo (ag (cs' := [vi (bn + ((List.length (gI p.2 (k : Int)) : Int) - 2)), vi 0, vi 0, Value.bool true, Value.bool true]) fS rfl rfl bx168 rfl (Nat.le_of_ble_eq_true rfl) (AllOne.all (.cons rfl .nil)) rfl ?_)))))))))
      intro w219 ch220 bx221
      clear bx168
      refine aa (ao ?_)
      clear bx188 bx192
      refine a6 rfl (mz zs10 (lx (aT (m := (i : Int)) (n := 1) rfl rfl (by omega)) (ai ((i : Int) + 1) (aa ?_))))
      refine back13 (true, i + 1, g218) _ _ ⟨bH.ce ch220, zs3, zs4, zs7, zs9, rfl, zs37, zs38, zs39, Rg.ce ch220, Rp.ce ch220, r_p_v1.ce ch220, bx10.ce ch220, bx15.ce ch220, r164.ce ch220, bx221, by omega, ?_⟩ ?_
      · show 1 ≤ (i + 1) ∧ true = (iO p k && ep (kE (gI p.2 (k : Int))) ((i + 1) - 1))
        exact sZ hax ‹_› ‹_›
      · show List.length (gI p.2 (k : Int)) - (i + 1) < List.length (gI p.2 (k : Int)) - i
        omega
     refine lv (vp b176 1) (wy (df q73)) (a8 Try.underlying45 rfl rfl zs11 rfl) (lv (vi ((gI (gI p.2 (k : Int)) ((i : Int) - 1)).2)) (wy (df q73)) (af aq rfl bx188 rfl) (lv (vp b182 1) (wy (df q73)) (a8 Try.underlying45 rfl rfl zs12 rfl) (lv (vi ((gI (gI p.2 (k : Int)) (i : Int)).2)) (wy (df q73)) (af aq rfl bx192 rfl) (lv (Value.bool (decide (((gI (gI p.2 (k : Int)) ((i : Int) - 1)).2) = ((gI (gI p.2 (k : Int)) (i : Int)).2)))) (wy (df q73)) (bO (m := (gI (gI p.2 (k : Int)) ((i : Int) - 1)).2) (n := (gI (gI p.2 (k : Int)) (i : Int)).2) rfl rfl) ?_))))
     refine lv (Value.bool (decide (((gI (gI p.2 (k : Int)) ((i : Int) - 1)).2) = ((gI (gI p.2 (k : Int)) (i : Int)).2)))) (wy q67) (aD rfl (df q73) rfl) (lw (Value.bool (decide (((gI (gI p.2 (k : Int)) ((i : Int) - 1)).2) = ((gI (gI p.2 (k : Int)) (i : Int)).2)))) (au rfl q67 rfl) (lx (a8 Try.underlying52 rfl rfl zs7 rfl) (lo (ag (cs' := [vi (bn + ((List.length (gI p.2 (k : Int)) : Int) - 2)), vi 0, vi 0, Value.bool true, Value.bool (decide (((gI (gI p.2 (k : Int)) ((i : Int) - 1)).2) = ((gI (gI p.2 (k : Int)) (i : Int)).2)))]) fS rfl rfl bx168 rfl (Nat.le_of_ble_eq_true rfl) (AllOne.all (.cons rfl .nil)) rfl ?_))))
     intro w222 ch223 bx224
     clear bx168
     refine aa (ao ?_)
     clear bx188 bx192
     refine a6 rfl (mz zs10 (lx (aT (m := (i : Int)) (n := 1) rfl rfl (by omega)) (ai ((i : Int) + 1) (aa ?_))))
     refine back13 (decide (((gI (gI p.2 (k : Int)) ((i : Int) - 1)).2) = ((gI (gI p.2 (k : Int)) (i : Int)).2)), i + 1, g218) _ _ ⟨bH.ce ch223, zs3, zs4, zs7, zs9, rfl, zs37, zs38, zs39, Rg.ce ch223, Rp.ce ch223, r_p_v1.ce ch223, bx10.ce ch223, bx15.ce ch223, r164.ce ch223, bx224, by omega, ?_⟩ ?_
     · show 1 ≤ (i + 1) ∧ (decide (((gI (gI p.2 (k : Int)) ((i : Int) - 1)).2) = ((gI (gI p.2 (k : Int)) (i : Int)).2))) = (iO p k && ep (kE (gI p.2 (k : Int))) ((i + 1) - 1))
       exact td hax ‹_› ‹_›
     · show List.length (gI p.2 (k : Int)) - (i + 1) < List.length (gI p.2 (k : Int)) - i
       omega
    refine ae (wn (Bool.eq_false_iff.2 q67)) (ae (wn (Bool.eq_false_iff.2 q67)) (ae (wn (Bool.eq_false_iff.2 q67)) (ae (wn (Bool.eq_false_iff.2 q67)) (ae (wn (Bool.eq_false_iff.2 q67)) (ae (wn (Bool.eq_false_iff.2 q67)) (ae (dd rfl rfl rfl) (ae (dd rfl rfl rfl) (ae (dd rfl rfl rfl) (ae (dd rfl rfl rfl) ?_)))))))))
    refine ae (dd rfl rfl rfl) (ae (wn (Bool.eq_false_iff.2 q67)) (lw (Value.bool false) (aD rfl (Bool.eq_false_iff.2 q67) rfl) (lx (a8 Try.underlying52 rfl rfl zs7 rfl) (lo (ag (cs' := [vi (bn + ((List.length (gI p.2 (k : Int)) : Int) - 2)), vi 0, vi 0, Value.bool true, Value.bool false]) fS rfl rfl bx168 rfl (Nat.le_of_ble_eq_true rfl) (AllOne.all (.cons rfl .nil)) rfl ?_)))))
    intro w225 ch226 bx227
    clear bx168
    refine aa (ao ?_)
    clear bx188 bx192
    refine a6 rfl (mz zs10 (lx (aT (m := (i : Int)) (n := 1) rfl rfl (by omega)) (ai ((i : Int) + 1) (aa ?_))))
    refine back13 (false, i + 1, g218) _ _ ⟨bH.ce ch226, zs3, zs4, zs7, zs9, rfl, zs37, zs38, zs39, Rg.ce ch226, Rp.ce ch226, r_p_v1.ce ch226, bx10.ce ch226, bx15.ce ch226, r164.ce ch226, bx227, by omega, ?_⟩ ?_
    · show 1 ≤ (i + 1) ∧ false = (iO p k && ep (kE (gI p.2 (k : Int))) ((i + 1) - 1))
      exact sY hax ‹_›
    · show List.length (gI p.2 (k : Int)) - (i + 1) < List.length (gI p.2 (k : Int)) - i
      omega
   refine aj rfl (df p13) (aU rfl (ao ?_))
   clear r164
   refine a6 rfl (lx (aT (m := (k : Int)) (n := 1) zs39 rfl (by omega)) (mi ((k : Int) + 1) (aa ?_)))
   refine back9 (bn + ((List.length (gI p.2 (k : Int)) : Int) - 2), ay, k + 1, g171) _ _ ⟨bH, zs3, zs4, zs7, zs37, zs38, rfl, Rg, Rp, r_p_v1, bx10, bx15, bx168, by omega, ?_⟩ ?_
   · show (bn + ((List.length (gI p.2 (k : Int)) : Int) - 2)) = eG p (k + 1) ∧ ay = iO p (k + 1)
     exact ⟨by rw [hbk.1]; rfl, sd hbk.2 hax ‹_› (by omega)⟩
   · show Int.toNat (((p.2.length : Int) : Int) - ((k + 1) : Int)) < Int.toNat (((p.2.length : Int) : Int) - (k : Int))
     omega
  refine aj rfl (df p9) (aU rfl (a7 (a6 rfl (lx (a8 Try.underlying52 rfl rfl zs7 rfl) (lx (af aq rfl bx157 rfl) (lx (bO (m := bn) (n := 0) rfl rfl) (lx (a8 Try.underlying52 rfl rfl zs7 rfl) (lo (ag (cs' := [vi bn, vi 0, vi 0, Value.bool (decide (bn = 0)), Value.bool ax]) fS rfl rfl bx157 rfl (Nat.le_of_ble_eq_true rfl) (AllOne.all (.cons rfl .nil)) rfl ?_)))))))))
  intro w228 ch229 bx230
  clear bx157
  refine aa (a7 (a7 (a6 rfl ?_)))
  replace bx10 := bx10.ce ch229
  refine lx (ad (ds := [p_v, p_v1]) co zs3 bx10 rfl rfl) ?_
  replace Rp := Rp.ce ch229
  replace r_p_v1 := r_p_v1.ce ch229
  refine lo (cy (aw (vals := [vg [p_v, p_v1]]) Try.func41 pa oX rfl) (my w228 p p_v p_v1 (Rp).ro (r_p_v1).ro (by omega) (by omega) (by exact fun e h0 h1 => (hs.ln e h0 h1).2.1)) ?_)
  rintro ⟨d232, v234⟩ w231 ⟨fr233, o235⟩
  obtain ⟨g236, ch237, G236⟩ := m6 g161 fr233 (fun n => if n = 1 then 16 else 0)
  replace o235 := o235.gl G236 16
  refine ma v234 (aa (a7 ?_))
  clear bx10
  refine a6 rfl (mv v234 ?_)
  have len238 := (o235.flat).small
  refine lx (bh Try.underlying25 rfl o235.flat) (lx (bQ (m := (List.length (az p) : Int)) (n := 0) rfl rfl) (aa ?_))
  by_cases p20 : 0 < (List.length (az p) : Int)
  ·
   refine ah rfl (dt p20) (a7 ?_)
   refine cR (σ := Nat × Nat × aP) (fun ⟨b243, b249, gq⟩ f w => bf w0 gq w ∧ f 4 = vp b13 0 ∧ f 7 = vp b152 0 ∧ f 13 = v234 ∧ f 14 = vp b243 0 ∧ f 15 = vp b249 0 ∧ Sl gq (is 0) w g_v g.2 ∧ Sl gq (is 0) w p_v p.1 ∧ Sl gq (is 0) w p_v1 p.2 ∧ Bx gq (is 3) w b13 [vi 0, vi 0, vi 0, Value.bool false, Value.bool false] ∧ Bx gq (is 13) w b152 [vi bn, vi 0, vi 0, Value.bool (decide (bn = 0)), Value.bool ax] ∧ Ow gq (is 16) (is 16) w v234 (az p) ∧ Bx gq (is 17) w b243 [vi ((gI (az p) 0).1), vi ((gI (az p) 0).2)] ∧ Bx gq (is 18) w b249 [vi ((gI (az p) 0).1), vi ((gI (az p) 0).2)]) g236 (bR [17, 18]) fE ?_ ?_
   ·
    intro mid
    intro w240 ch239
    refine ht (v := v234) 0 rfl (aO.refl _ _ _) (fun w' hw' => aI rfl) ?_
    replace o235 := o235.cn ch239
    refine ht 1 rfl (aO.refl _ _ _) (fun w' hw' => ar (v := v234) (i := 0) Try.underlying25 rfl rfl (o235.flat.chg hw' (bB rfl)) rfl (by omega) (by omega)) (ht (v := vg [vi ((gI (az p) 0).1), vi ((gI (az p) 0).2)]) 2 rfl (aO.refl _ _ _) (fun w' hw' => aN (v := v234) (i := 0) ab rfl (o235.flat.chg hw' (bB rfl)) (by omega) (by omega) rfl) (ht (v := v234) 3 rfl (aO.refl _ _ _) (fun w' hw' => aI rfl) (ht 4 rfl (aO.refl _ _ _) (fun w' hw' => ar (v := v234) (i := 0) Try.underlying25 rfl rfl (o235.flat.chg hw' (bB rfl)) rfl (by omega) (by omega)) (ht (v := vg [vi ((gI (az p) 0).1), vi ((gI (az p) 0).2)]) 5 rfl (aO.refl _ _ _) (fun w' hw' => aN (v := v234) (i := 0) ab rfl (o235.flat.chg hw' (bB rfl)) (by omega) (by omega) rfl) ?_))))
    refine bx 6 [7] (by kernel_rfl) ⟨bl 6 rfl (by kernel_rfl) rfl ?_, bl 7 rfl (by kernel_rfl) rfl ?_, trivial⟩
    ·
     refine aQ g236 (is 17) (17, 0) rfl ab ?_
     intro g244 w241 b243 ch242 bx245
     replace bx245 : Bx g244 (is 17) w241 b243 [vi 0, vi 0] := bx245
     have hs246 : aO (bR [17, 18]) _ _ _ _ := ch242.n
     refine ⟨hs246.same, ?_⟩
     refine aB 7 rfl (by kernel_rfl) rfl (aQ g244 (is 18) (18, 0) rfl ab ?_)
     intro g250 w247 b249 ch248 bx251
     replace bx251 : Bx g250 (is 18) w247 b249 [vi 0, vi 0] := bx251
     have hs252 := hs246.seq (ch248.n)
     refine ⟨hs252.same, ?_⟩
     refine aB 8 rfl (by kernel_rfl) rfl ?_
     replace bx245 := bx245.cn ch248
     refine ag (cs' := [vi ((gI (az p) 0).1), vi ((gI (az p) 0).2)]) ab rfl rfl bx245 rfl (Nat.le_of_ble_eq_true rfl) (AllOne.all (.cons rfl (.cons rfl .nil))) rfl ?_
     intro w253 ch254 bx255
     clear bx245
     have hs256 := hs252.seq (ch254.l rfl)
     refine ⟨hs256.same, ?_⟩
     refine aB 9 rfl (by kernel_rfl) rfl ?_
     replace bx251 := bx251.ce ch254
     refine ag (cs' := [vi ((gI (az p) 0).1), vi ((gI (az p) 0).2)]) ab rfl rfl bx251 rfl (Nat.le_of_ble_eq_true rfl) (AllOne.all (.cons rfl (.cons rfl .nil))) rfl ?_
     intro w257 ch258 bx259
     clear bx251
     have hs260 := hs256.seq (ch258.l rfl)
     refine ⟨hs260.same, ?_⟩
     refine bm (by kernel_rfl) ?_
     have C261 := cg [13, 17, 18] ((ch229.l rfl).seq (ch237.n.seq (ch239.n.seq (ch242.n.seq (ch248.n.seq ((ch254.l rfl).seq (ch258.l rfl)))))))
     have C262 := cg [13] ((ch229.l rfl).seq (ch237.n.seq ch239.n))
     replace Rg := Rg.ca C262
     replace Rp := (Rp.cn ch237).cn ch239
     replace r_p_v1 := (r_p_v1.cn ch237).cn ch239
     replace bx15 := bx15.ca C262
     replace bx230 := (bx230.cn ch237).cn ch239
     exact mid (b243, b249, g250) _ _ ⟨bH.ca C261, zs4, zs7, rfl, rfl, rfl, (Rg.ca hs260), (Rp.ca hs260), (r_p_v1.ca hs260), (bx15.ca hs260), (bx230.ca hs260), (o235.ca hs260), bx255.ce ch258, bx259⟩
    ·
     refine aQ g236 (is 18) (18, 0) rfl ab ?_
     intro g266 w263 b265 ch264 bx267
     replace bx267 : Bx g266 (is 18) w263 b265 [vi 0, vi 0] := bx267
     have hs268 : aO (bR [17, 18]) _ _ _ _ := ch264.n
     refine ⟨hs268.same, ?_⟩
     refine aB 6 rfl (by kernel_rfl) rfl (aQ g266 (is 17) (17, 0) rfl ab ?_)
     intro g272 w269 b271 ch270 bx273
     replace bx273 : Bx g272 (is 17) w269 b271 [vi 0, vi 0] := bx273
     have hs274 := hs268.seq (ch270.n)
     refine ⟨hs274.same, ?_⟩
     refine aB 8 rfl (by kernel_rfl) rfl (ag (cs' := [vi ((gI (az p) 0).1), vi ((gI (az p) 0).2)]) ab rfl rfl bx273 rfl (Nat.le_of_ble_eq_true rfl) (AllOne.all (.cons rfl (.cons rfl .nil))) rfl ?_)
     intro w275 ch276 bx277
     clear bx273
     have hs278 := hs274.seq (ch276.l rfl)
     refine ⟨hs278.same, ?_⟩
     refine aB 9 rfl (by kernel_rfl) rfl ?_
     replace bx267 := (bx267.cn ch270).ce ch276
     refine ag (cs' := [vi ((gI (az p) 0).1), vi ((gI (az p) 0).2)]) ab rfl rfl bx267 rfl (Nat.le_of_ble_eq_true rfl) (AllOne.all (.cons rfl (.cons rfl .nil))) rfl ?_
     intro w279 ch280 bx281
     clear bx267
     have hs282 := hs278.seq (ch280.l rfl)
     refine ⟨hs282.same, ?_⟩
     refine bm (by kernel_rfl) ?_
     have C283 := cg [13, 17, 18] ((ch229.l rfl).seq (ch237.n.seq (ch239.n.seq (ch264.n.seq (ch270.n.seq ((ch276.l rfl).seq (ch280.l rfl)))))))
     have C284 := cg [13] ((ch229.l rfl).seq (ch237.n.seq ch239.n))
     replace Rg := Rg.ca C284
     replace Rp := (Rp.cn ch237).cn ch239
     replace r_p_v1 := (r_p_v1.cn ch237).cn ch239
     replace bx15 := bx15.ca C284
     replace bx230 := (bx230.cn ch237).cn ch239
     exact mid (b271, b265, g272) _ _ ⟨bH.ca C283, zs4, zs7, rfl, rfl, rfl, (Rg.ca hs282), (Rp.ca hs282), (r_p_v1.ca hs282), (bx15.ca hs282), (bx230.ca hs282), (o235.ca hs282), bx277.ce ch280, bx281⟩
   clear Rg Rp r_p_v1 bx15 bx230 o235 bH
   rintro ⟨b243, b249, g287⟩ f285 w286 ⟨bH, zs4, zs7, zs13, zs14, zs15, Rg, Rp, r_p_v1, bx15, bx230, o235, bx255, bx259⟩
   refine a7 (a7 (a6 rfl (mz zs13 (lx (bh Try.underlying25 rfl o235.flat) (mi 0 (aa (av ?_)))))))
   refine ba (σ := Int × Int × Int × Int × Nat × aP) (fun ⟨t14_0, t14_1, t15_0, t15_1, q, gq⟩ f w => bf w0 gq w ∧ f 4 = vp b13 0 ∧ f 7 = vp b152 0 ∧ f 14 = vp b243 0 ∧ f 15 = vp b249 0 ∧ f 98 = v234 ∧ f 99 = vi (List.length (az p) : Int) ∧ f 100 = vi (q : Int) ∧ Sl gq (is 0) w g_v g.2 ∧ Sl gq (is 0) w p_v p.1 ∧ Sl gq (is 0) w p_v1 p.2 ∧ Bx gq (is 3) w b13 [vi 0, vi 0, vi 0, Value.bool false, Value.bool false] ∧ Bx gq (is 13) w b152 [vi bn, vi 0, vi 0, Value.bool (decide (bn = 0)), Value.bool ax] ∧ Ow gq (is 16) (is 16) w v234 (az p) ∧ Bx gq (is 17) w b243 [vi t14_0, vi t14_1] ∧ Bx gq (is 18) w b249 [vi t15_0, vi t15_1] ∧ (q : Int) ≤ ((List.length (az p) : Int) : Int) ∧ ((t14_0 = (kF (az p) q).1 ∧ t14_1 = (kF (az p) q).2) ∧ t15_0 = (kG (az p) q).1 ∧ t15_1 = (kG (az p) q).2)) (fun ⟨t14_0, t14_1, t15_0, t15_1, q, gq⟩ => Int.toNat (((List.length (az p) : Int) : Int) - (q : Int))) ((gI (az p) 0).1, (gI (az p) 0).2, (gI (az p) 0).1, (gI (az p) 0).2, 0, g287) ?_ ?_
   · exact ⟨bH, zs4, zs7, zs14, zs15, rfl, rfl, rfl, Rg, Rp, r_p_v1, bx15, bx230, o235, bx255, bx259, by omega, by exact ⟨⟨rfl, rfl⟩, rfl, rfl⟩⟩
   clear Rg Rp r_p_v1 bx15 bx230 o235 bx255 bx259 bH
   rintro ⟨t14_0, t14_1, t15_0, t15_1, q, g290⟩ f288 w289 ⟨bH, zs4, zs7, zs14, zs15, zs98, zs99, zs100, Rg, Rp, r_p_v1, bx15, bx230, o235, bx255, bx259, hle_q, hbx⟩ back23
   refine a7 (a6 rfl (lx (b9 (m := (q : Int)) (n := (List.length (az p) : Int)) zs100 zs99) (aa (a7 ?_))))
   by_cases p23 : (q : Int) < (List.length (az p) : Int)
   ·
    refine ah rfl (dt p23) (am (a7 (av (a7 (a6 rfl (lx (ar (v := v234) (i := (q : Int)) Try.underlying25 rfl zs98 o235.flat zs100 (by omega) (by omega)) (lw (vg [vi ((gI (az p) (q : Int)).1), vi ((gI (az p) (q : Int)).2)]) (aN (v := v234) (i := (q : Int)) ab rfl o235.flat (by omega) (by omega) rfl) (lo (aQ g290 (is 19) (19, 0) rfl ab ?_)))))))))
    intro g294 w291 b293 ch292 bx295
    replace bx295 : Bx g294 (is 19) w291 b293 [vi 0, vi 0] := bx295
    refine lo (ag (cs' := [vi ((gI (az p) (q : Int)).1), vi ((gI (az p) (q : Int)).2)]) ab rfl rfl bx295 rfl (Nat.le_of_ble_eq_true rfl) (AllOne.all (.cons rfl (.cons rfl .nil))) rfl ?_)
    intro w296 ch297 bx298
    clear bx295
    refine aa ?_
    refine cR (σ := aP) (fun gq f w => bf w0 gq w ∧ f 4 = vp b13 0 ∧ f 7 = vp b152 0 ∧ f 14 = vp b243 0 ∧ f 15 = vp b249 0 ∧ f 98 = v234 ∧ f 99 = vi (List.length (az p) : Int) ∧ f 100 = vi (q : Int) ∧ Sl gq (is 0) w g_v g.2 ∧ Sl gq (is 0) w p_v p.1 ∧ Sl gq (is 0) w p_v1 p.2 ∧ Bx gq (is 3) w b13 [vi 0, vi 0, vi 0, Value.bool false, Value.bool false] ∧ Bx gq (is 13) w b152 [vi bn, vi 0, vi 0, Value.bool (decide (bn = 0)), Value.bool ax] ∧ Ow gq (is 16) (is 16) w v234 (az p) ∧ Bx gq (is 17) w b243 [vi (min t14_0 ((gI (az p) (q : Int)).1)), vi (min t14_1 ((gI (az p) (q : Int)).2))] ∧ Bx gq (is 18) w b249 [vi (max t15_0 ((gI (az p) (q : Int)).1)), vi (max t15_1 ((gI (az p) (q : Int)).2))]) g294 (bR [17, 18]) fE ?_ ?_
    ·
     intro mid
     intro w300 ch299
     refine ht 0 rfl (aO.refl _ _ _) (fun w' hw' => a8 Try.underlying45 rfl rfl zs14 rfl) (ht 2 rfl (aO.refl _ _ _) (fun w' hw' => a8 Try.underlying45 rfl rfl rfl rfl) ?_)
     replace bx298 := bx298.cn ch299
     refine ht 3 rfl (aO.refl _ _ _) (fun w' hw' => af aq rfl (bx298.chg hw' (bB rfl)) rfl) (ht 5 rfl (aO.refl _ _ _) (fun w' hw' => a8 Try.underlying45 rfl rfl zs14 rfl) (ht 7 rfl (aO.refl _ _ _) (fun w' hw' => a8 Try.underlying45 rfl rfl rfl rfl) (ht 8 rfl (aO.refl _ _ _) (fun w' hw' => af aq rfl (bx298.chg hw' (bB rfl)) rfl) (ht 10 rfl (aO.refl _ _ _) (fun w' hw' => a8 Try.underlying45 rfl rfl zs15 rfl) (ht 12 rfl (aO.refl _ _ _) (fun w' hw' => a8 Try.underlying45 rfl rfl rfl rfl) (ht 13 rfl (aO.refl _ _ _) (fun w' hw' => af aq rfl (bx298.chg hw' (bB rfl)) rfl) (ht 15 rfl (aO.refl _ _ _) (fun w' hw' => a8 Try.underlying45 rfl rfl zs15 rfl) (ht 17 rfl (aO.refl _ _ _) (fun w' hw' => a8 Try.underlying45 rfl rfl rfl rfl) ?_))))))))
     refine ht 18 rfl (aO.refl _ _ _) (fun w' hw' => af aq rfl (bx298.chg hw' (bB rfl)) rfl) ?_
     refine bx 1 [6, 11, 16] (by kernel_rfl) ⟨bl 1 rfl (by kernel_rfl) rfl ?_, bl 6 rfl (by kernel_rfl) rfl ?_, bl 11 rfl (by kernel_rfl) rfl ?_, bl 16 rfl (by kernel_rfl) rfl ?_, trivial⟩
     ·
      have C301 := cg [19] (ch292.n.seq ((ch297.l rfl).seq ch299.n))
      replace bx255 := bx255.ca C301
      refine aG (v := vi t14_0) (af aq rfl bx255 rfl) ?_
      refine ⟨(aO.refl _ _ _), ?_⟩
      refine ht (v := vi (min t14_0 ((gI (az p) (q : Int)).1))) 4 rfl (aO.refl _ _ _) (fun w' hw' => c9 rfl rfl) ?_
      refine bx 6 [11, 16] (by kernel_rfl) ⟨bl 6 rfl (by kernel_rfl) rfl ?_, bl 11 rfl (by kernel_rfl) rfl ?_, bl 16 rfl (by kernel_rfl) rfl ?_, trivial⟩
      ·
       refine aG (v := vi t14_1) (af aq rfl bx255 rfl) ?_
       refine ⟨(aO.refl _ _ _), ?_⟩
       refine ht (v := vi (min t14_1 ((gI (az p) (q : Int)).2))) 9 rfl (aO.refl _ _ _) (fun w' hw' => c9 rfl rfl) ?_
       refine bx 11 [16] (by kernel_rfl) ⟨bl 11 rfl (by kernel_rfl) rfl ?_, bl 16 rfl (by kernel_rfl) rfl ?_, trivial⟩
       ·
        replace bx259 := bx259.ca C301
        refine aG (v := vi t15_0) (af aq rfl bx259 rfl) ?_
        refine ⟨(aO.refl _ _ _), ?_⟩
        refine ht (v := vi (max t15_0 ((gI (az p) (q : Int)).1))) 14 rfl (aO.refl _ _ _) (fun w' hw' => bS rfl rfl) (aB 16 rfl (by kernel_rfl) rfl (aG (v := vi t15_1) (af aq rfl bx259 rfl) ?_))
        refine ⟨(aO.refl _ _ _), ?_⟩
        refine ht (v := vi (max t15_1 ((gI (az p) (q : Int)).2))) 19 rfl (aO.refl _ _ _) (fun w' hw' => bS rfl rfl) (ht 20 rfl (aO.refl _ _ _) (fun w' hw' => a8 Try.underlying45 rfl rfl zs14 rfl) (aB 21 rfl (by kernel_rfl) rfl (ag (cs' := [vi (min t14_0 ((gI (az p) (q : Int)).1)), vi t14_1]) aq rfl rfl bx255 rfl (Nat.le_of_ble_eq_true rfl) (AllOne.all (.cons rfl .nil)) rfl ?_)))
        intro w302 ch303 bx304
        clear bx255
        have hs305 : aO (bR [17, 18]) _ _ _ _ := ch303.l rfl
        refine ⟨hs305.same, ?_⟩
        refine ht 22 rfl hs305.same (fun w' hw' => a8 Try.underlying45 rfl rfl zs14 rfl) (aB 23 rfl (by kernel_rfl) rfl (ag (cs' := [vi (min t14_0 ((gI (az p) (q : Int)).1)), vi (min t14_1 ((gI (az p) (q : Int)).2))]) aq rfl rfl bx304 rfl (Nat.le_of_ble_eq_true rfl) (AllOne.all (.cons rfl .nil)) rfl ?_))
        intro w306 ch307 bx308
        clear bx304
        have hs309 := hs305.seq (ch307.l rfl)
        refine ⟨hs309.same, ?_⟩
        refine ht 24 rfl hs309.same (fun w' hw' => a8 Try.underlying45 rfl rfl zs15 rfl) (aB 25 rfl (by kernel_rfl) rfl ?_)
        replace bx259 := (bx259.ce ch303).ce ch307
        refine ag (cs' := [vi (max t15_0 ((gI (az p) (q : Int)).1)), vi t15_1]) aq rfl rfl bx259 rfl (Nat.le_of_ble_eq_true rfl) (AllOne.all (.cons rfl .nil)) rfl ?_
        intro w310 ch311 bx312
        clear bx259
        have hs313 := hs309.seq (ch311.l rfl)
        refine ⟨hs313.same, ?_⟩
        refine ht 26 rfl hs313.same (fun w' hw' => a8 Try.underlying45 rfl rfl zs15 rfl) (aB 27 rfl (by kernel_rfl) rfl (ag (cs' := [vi (max t15_0 ((gI (az p) (q : Int)).1)), vi (max t15_1 ((gI (az p) (q : Int)).2))]) aq rfl rfl bx312 rfl (Nat.le_of_ble_eq_true rfl) (AllOne.all (.cons rfl .nil)) rfl ?_))
        intro w314 ch315 bx316
        clear bx312
        have hs317 := hs313.seq (ch315.l rfl)
        refine ⟨hs317.same, ?_⟩
        refine bm (by kernel_rfl) ?_
        have C318 := cg [17, 18, 19] (ch292.n.seq ((ch297.l rfl).seq (ch299.n.seq ((ch303.l rfl).seq ((ch307.l rfl).seq ((ch311.l rfl).seq (ch315.l rfl)))))))
        replace Rg := Rg.ca C301
        replace Rp := Rp.ca C301
        replace r_p_v1 := r_p_v1.ca C301
        replace bx15 := bx15.ca C301
        replace bx230 := bx230.ca C301
        replace o235 := o235.ca C301
        exact mid (g294) _ _ ⟨bH.ca C318, zs4, zs7, zs14, zs15, zs98, zs99, zs100, (Rg.ca hs317), (Rp.ca hs317), (r_p_v1.ca hs317), (bx15.ca hs317), (bx230.ca hs317), (o235.ca hs317), (bx308.ce ch311).ce ch315, bx316⟩
       ·
        replace bx259 := bx259.ca C301
        refine aG (v := vi t15_1) (af aq rfl bx259 rfl) ?_
        refine ⟨(aO.refl _ _ _), ?_⟩
        refine ht (v := vi (max t15_1 ((gI (az p) (q : Int)).2))) 19 rfl (aO.refl _ _ _) (fun w' hw' => bS rfl rfl) (ht 20 rfl (aO.refl _ _ _) (fun w' hw' => a8 Try.underlying45 rfl rfl zs14 rfl) ?_)
        refine bx 11 [21] (by kernel_rfl) ⟨bl 11 rfl (by kernel_rfl) rfl ?_, bl 21 rfl (by kernel_rfl) rfl ?_, trivial⟩
        ·
         refine aG (v := vi t15_0) (af aq rfl bx259 rfl) ?_
         refine ⟨(aO.refl _ _ _), ?_⟩
         refine ht (v := vi (max t15_0 ((gI (az p) (q : Int)).1))) 14 rfl (aO.refl _ _ _) (fun w' hw' => bS rfl rfl) (aB 21 rfl (by kernel_rfl) rfl (ag (cs' := [vi (min t14_0 ((gI (az p) (q : Int)).1)), vi t14_1]) aq rfl rfl bx255 rfl (Nat.le_of_ble_eq_true rfl) (AllOne.all (.cons rfl .nil)) rfl ?_))
         intro w319 ch320 bx321
         clear bx255
         have hs322 : aO (bR [17, 18]) _ _ _ _ := ch320.l rfl
         refine ⟨hs322.same, ?_⟩
         refine ht 22 rfl hs322.same (fun w' hw' => a8 Try.underlying45 rfl rfl zs14 rfl) (aB 23 rfl (by kernel_rfl) rfl (ag (cs' := [vi (min t14_0 ((gI (az p) (q : Int)).1)), vi (min t14_1 ((gI (az p) (q : Int)).2))]) aq rfl rfl bx321 rfl (Nat.le_of_ble_eq_true rfl) (AllOne.all (.cons rfl .nil)) rfl ?_))
         intro w323 ch324 bx325
         clear bx321
         have hs326 := hs322.seq (ch324.l rfl)
         refine ⟨hs326.same, ?_⟩
         refine ht 24 rfl hs326.same (fun w' hw' => a8 Try.underlying45 rfl rfl zs15 rfl) (aB 25 rfl (by kernel_rfl) rfl ?_)
         replace bx259 := (bx259.ce ch320).ce ch324
         refine ag (cs' := [vi (max t15_0 ((gI (az p) (q : Int)).1)), vi t15_1]) aq rfl rfl bx259 rfl (Nat.le_of_ble_eq_true rfl) (AllOne.all (.cons rfl .nil)) rfl ?_
         intro w327 ch328 bx329
         clear bx259
         have hs330 := hs326.seq (ch328.l rfl)
         refine ⟨hs330.same, ?_⟩
         refine ht 26 rfl hs330.same (fun w' hw' => a8 Try.underlying45 rfl rfl zs15 rfl) (aB 27 rfl (by kernel_rfl) rfl (ag (cs' := [vi (max t15_0 ((gI (az p) (q : Int)).1)), vi (max t15_1 ((gI (az p) (q : Int)).2))]) aq rfl rfl bx329 rfl (Nat.le_of_ble_eq_true rfl) (AllOne.all (.cons rfl .nil)) rfl ?_))
         intro w331 ch332 bx333
         clear bx329
         have hs334 := hs330.seq (ch332.l rfl)
         refine ⟨hs334.same, ?_⟩
         refine bm (by kernel_rfl) ?_
         have C335 := cg [17, 18, 19] (ch292.n.seq ((ch297.l rfl).seq (ch299.n.seq ((ch320.l rfl).seq ((ch324.l rfl).seq ((ch328.l rfl).seq (ch332.l rfl)))))))
         replace Rg := Rg.ca C301
         replace Rp := Rp.ca C301
         replace r_p_v1 := r_p_v1.ca C301
         replace bx15 := bx15.ca C301
         replace bx230 := bx230.ca C301
         replace o235 := o235.ca C301
         exact mid (g294) _ _ ⟨bH.ca C335, zs4, zs7, zs14, zs15, zs98, zs99, zs100, (Rg.ca hs334), (Rp.ca hs334), (r_p_v1.ca hs334), (bx15.ca hs334), (bx230.ca hs334), (o235.ca hs334), (bx325.ce ch328).ce ch332, bx333⟩
        ·
         refine ag (cs' := [vi (min t14_0 ((gI (az p) (q : Int)).1)), vi t14_1]) aq rfl rfl bx255 rfl (Nat.le_of_ble_eq_true rfl) (AllOne.all (.cons rfl .nil)) rfl ?_
         intro w336 ch337 bx338
         clear bx255
         have hs339 : aO (bR [17, 18]) _ _ _ _ := ch337.l rfl
         refine ⟨hs339.same, ?_⟩
         refine ht 22 rfl hs339.same (fun w' hw' => a8 Try.underlying45 rfl rfl zs14 rfl) ?_
         refine bx 11 [23] (by kernel_rfl) ⟨bl 11 rfl (by kernel_rfl) rfl ?_, bl 23 rfl (by kernel_rfl) rfl ?_, trivial⟩
         ·
          replace bx259 := bx259.ce ch337
          refine aG (v := vi t15_0) (af aq rfl bx259 rfl) ?_
          refine ⟨hs339.same, ?_⟩
          refine ht (v := vi (max t15_0 ((gI (az p) (q : Int)).1))) 14 rfl hs339.same (fun w' hw' => bS rfl rfl) (aB 23 rfl (by kernel_rfl) rfl (ag (cs' := [vi (min t14_0 ((gI (az p) (q : Int)).1)), vi (min t14_1 ((gI (az p) (q : Int)).2))]) aq rfl rfl bx338 rfl (Nat.le_of_ble_eq_true rfl) (AllOne.all (.cons rfl .nil)) rfl ?_))
          intro w340 ch341 bx342
          clear bx338
          have hs343 := hs339.seq (ch341.l rfl)
          refine ⟨hs343.same, ?_⟩
          refine ht 24 rfl hs343.same (fun w' hw' => a8 Try.underlying45 rfl rfl zs15 rfl) (aB 25 rfl (by kernel_rfl) rfl ?_)
          replace bx259 := bx259.ce ch341
          refine ag (cs' := [vi (max t15_0 ((gI (az p) (q : Int)).1)), vi t15_1]) aq rfl rfl bx259 rfl (Nat.le_of_ble_eq_true rfl) (AllOne.all (.cons rfl .nil)) rfl ?_
          intro w344 ch345 bx346
          clear bx259
          have hs347 := hs343.seq (ch345.l rfl)
          refine ⟨hs347.same, ?_⟩
          refine ht 26 rfl hs347.same (fun w' hw' => a8 Try.underlying45 rfl rfl zs15 rfl) (aB 27 rfl (by kernel_rfl) rfl (ag (cs' := [vi (max t15_0 ((gI (az p) (q : Int)).1)), vi (max t15_1 ((gI (az p) (q : Int)).2))]) aq rfl rfl bx346 rfl (Nat.le_of_ble_eq_true rfl) (AllOne.all (.cons rfl .nil)) rfl ?_))
          intro w348 ch349 bx350
          clear bx346
          have hs351 := hs347.seq (ch349.l rfl)
          refine ⟨hs351.same, ?_⟩
          refine bm (by kernel_rfl) ?_
          have C352 := cg [17, 18, 19] (ch292.n.seq ((ch297.l rfl).seq (ch299.n.seq ((ch337.l rfl).seq ((ch341.l rfl).seq ((ch345.l rfl).seq (ch349.l rfl)))))))
          replace Rg := Rg.ca C301
          replace Rp := Rp.ca C301
          replace r_p_v1 := r_p_v1.ca C301
          replace bx15 := bx15.ca C301
          replace bx230 := bx230.ca C301
          replace o235 := o235.ca C301
          exact mid (g294) _ _ ⟨bH.ca C352, zs4, zs7, zs14, zs15, zs98, zs99, zs100, (Rg.ca hs351), (Rp.ca hs351), (r_p_v1.ca hs351), (bx15.ca hs351), (bx230.ca hs351), (o235.ca hs351), (bx342.ce ch345).ce ch349, bx350⟩
         ·
          refine ag (cs' := [vi (min t14_0 ((gI (az p) (q : Int)).1)), vi (min t14_1 ((gI (az p) (q : Int)).2))]) aq rfl rfl bx338 rfl (Nat.le_of_ble_eq_true rfl) (AllOne.all (.cons rfl .nil)) rfl ?_
          intro w353 ch354 bx355
          clear bx338
          have hs356 := hs339.seq (ch354.l rfl)
          refine ⟨hs356.same, ?_⟩
          refine aB 11 rfl (by kernel_rfl) rfl ?_
          replace bx259 := (bx259.ce ch337).ce ch354
          refine aG (v := vi t15_0) (af aq rfl bx259 rfl) ?_
          refine ⟨hs356.same, ?_⟩
          refine ht (v := vi (max t15_0 ((gI (az p) (q : Int)).1))) 14 rfl hs356.same (fun w' hw' => bS rfl rfl) (ht 24 rfl hs356.same (fun w' hw' => a8 Try.underlying45 rfl rfl zs15 rfl) (aB 25 rfl (by kernel_rfl) rfl (ag (cs' := [vi (max t15_0 ((gI (az p) (q : Int)).1)), vi t15_1]) aq rfl rfl bx259 rfl (Nat.le_of_ble_eq_true rfl) (AllOne.all (.cons rfl .nil)) rfl ?_)))
          intro w357 ch358 bx359
          clear bx259
          have hs360 := hs356.seq (ch358.l rfl)
          refine ⟨hs360.same, ?_⟩
          refine ht 26 rfl hs360.same (fun w' hw' => a8 Try.underlying45 rfl rfl zs15 rfl) (aB 27 rfl (by kernel_rfl) rfl (ag (cs' := [vi (max t15_0 ((gI (az p) (q : Int)).1)), vi (max t15_1 ((gI (az p) (q : Int)).2))]) aq rfl rfl bx359 rfl (Nat.le_of_ble_eq_true rfl) (AllOne.all (.cons rfl .nil)) rfl ?_))
          intro w361 ch362 bx363
          clear bx359
          have hs364 := hs360.seq (ch362.l rfl)
          refine ⟨hs364.same, ?_⟩
          refine bm (by kernel_rfl) ?_
          have C365 := cg [17, 18, 19] (ch292.n.seq ((ch297.l rfl).seq (ch299.n.seq ((ch337.l rfl).seq ((ch354.l rfl).seq ((ch358.l rfl).seq (ch362.l rfl)))))))
          replace Rg := Rg.ca C301
          replace Rp := Rp.ca C301
          replace r_p_v1 := r_p_v1.ca C301
          replace bx15 := bx15.ca C301
          replace bx230 := bx230.ca C301
          replace o235 := o235.ca C301
          exact mid (g294) _ _ ⟨bH.ca C365, zs4, zs7, zs14, zs15, zs98, zs99, zs100, (Rg.ca hs364), (Rp.ca hs364), (r_p_v1.ca hs364), (bx15.ca hs364), (bx230.ca hs364), (o235.ca hs364), (bx355.ce ch358).ce ch362, bx363⟩
      ·
       replace bx259 := bx259.ca C301
       refine aG (v := vi t15_0) (af aq rfl bx259 rfl) ?_
       refine ⟨(aO.refl _ _ _), ?_⟩
       refine ht (v := vi (max t15_0 ((gI (az p) (q : Int)).1))) 14 rfl (aO.refl _ _ _) (fun w' hw' => bS rfl rfl) ?_
       refine bx 6 [16] (by kernel_rfl) ⟨bl 6 rfl (by kernel_rfl) rfl ?_, bl 16 rfl (by kernel_rfl) rfl ?_, trivial⟩
       ·
        refine aG (v := vi t14_1) (af aq rfl bx255 rfl) ?_
        refine ⟨(aO.refl _ _ _), ?_⟩
        refine ht (v := vi (min t14_1 ((gI (az p) (q : Int)).2))) 9 rfl (aO.refl _ _ _) (fun w' hw' => c9 rfl rfl) (aB 16 rfl (by kernel_rfl) rfl (aG (v := vi t15_1) (af aq rfl bx259 rfl) ?_))
        refine ⟨(aO.refl _ _ _), ?_⟩
        refine ht (v := vi (max t15_1 ((gI (az p) (q : Int)).2))) 19 rfl (aO.refl _ _ _) (fun w' hw' => bS rfl rfl) (ht 20 rfl (aO.refl _ _ _) (fun w' hw' => a8 Try.underlying45 rfl rfl zs14 rfl) (aB 21 rfl (by kernel_rfl) rfl (ag (cs' := [vi (min t14_0 ((gI (az p) (q : Int)).1)), vi t14_1]) aq rfl rfl bx255 rfl (Nat.le_of_ble_eq_true rfl) (AllOne.all (.cons rfl .nil)) rfl ?_)))
        intro w366 ch367 bx368
        clear bx255
        have hs369 : aO (bR [17, 18]) _ _ _ _ := ch367.l rfl
        refine ⟨hs369.same, ?_⟩
        refine ht 22 rfl hs369.same (fun w' hw' => a8 Try.underlying45 rfl rfl zs14 rfl) (aB 23 rfl (by kernel_rfl) rfl (ag (cs' := [vi (min t14_0 ((gI (az p) (q : Int)).1)), vi (min t14_1 ((gI (az p) (q : Int)).2))]) aq rfl rfl bx368 rfl (Nat.le_of_ble_eq_true rfl) (AllOne.all (.cons rfl .nil)) rfl ?_))
        intro w370 ch371 bx372
        clear bx368
        have hs373 := hs369.seq (ch371.l rfl)
        refine ⟨hs373.same, ?_⟩
        refine ht 24 rfl hs373.same (fun w' hw' => a8 Try.underlying45 rfl rfl zs15 rfl) (aB 25 rfl (by kernel_rfl) rfl ?_)
        replace bx259 := (bx259.ce ch367).ce ch371
        refine ag (cs' := [vi (max t15_0 ((gI (az p) (q : Int)).1)), vi t15_1]) aq rfl rfl bx259 rfl (Nat.le_of_ble_eq_true rfl) (AllOne.all (.cons rfl .nil)) rfl ?_
        intro w374 ch375 bx376
        clear bx259
        have hs377 := hs373.seq (ch375.l rfl)
        refine ⟨hs377.same, ?_⟩
        refine ht 26 rfl hs377.same (fun w' hw' => a8 Try.underlying45 rfl rfl zs15 rfl) (aB 27 rfl (by kernel_rfl) rfl (ag (cs' := [vi (max t15_0 ((gI (az p) (q : Int)).1)), vi (max t15_1 ((gI (az p) (q : Int)).2))]) aq rfl rfl bx376 rfl (Nat.le_of_ble_eq_true rfl) (AllOne.all (.cons rfl .nil)) rfl ?_))
        intro w378 ch379 bx380
        clear bx376
        have hs381 := hs377.seq (ch379.l rfl)
        refine ⟨hs381.same, ?_⟩
        refine bm (by kernel_rfl) ?_
        have C382 := cg [17, 18, 19] (ch292.n.seq ((ch297.l rfl).seq (ch299.n.seq ((ch367.l rfl).seq ((ch371.l rfl).seq ((ch375.l rfl).seq (ch379.l rfl)))))))
        replace Rg := Rg.ca C301
        replace Rp := Rp.ca C301
        replace r_p_v1 := r_p_v1.ca C301
        replace bx15 := bx15.ca C301
        replace bx230 := bx230.ca C301
        replace o235 := o235.ca C301
        exact mid (g294) _ _ ⟨bH.ca C382, zs4, zs7, zs14, zs15, zs98, zs99, zs100, (Rg.ca hs381), (Rp.ca hs381), (r_p_v1.ca hs381), (bx15.ca hs381), (bx230.ca hs381), (o235.ca hs381), (bx372.ce ch375).ce ch379, bx380⟩
       ·
        refine aG (v := vi t15_1) (af aq rfl bx259 rfl) ?_
        refine ⟨(aO.refl _ _ _), ?_⟩
        refine ht (v := vi (max t15_1 ((gI (az p) (q : Int)).2))) 19 rfl (aO.refl _ _ _) (fun w' hw' => bS rfl rfl) (aB 6 rfl (by kernel_rfl) rfl (aG (v := vi t14_1) (af aq rfl bx255 rfl) ?_))
        refine ⟨(aO.refl _ _ _), ?_⟩
        refine ht (v := vi (min t14_1 ((gI (az p) (q : Int)).2))) 9 rfl (aO.refl _ _ _) (fun w' hw' => c9 rfl rfl) (ht 20 rfl (aO.refl _ _ _) (fun w' hw' => a8 Try.underlying45 rfl rfl zs14 rfl) (aB 21 rfl (by kernel_rfl) rfl (ag (cs' := [vi (min t14_0 ((gI (az p) (q : Int)).1)), vi t14_1]) aq rfl rfl bx255 rfl (Nat.le_of_ble_eq_true rfl) (AllOne.all (.cons rfl .nil)) rfl ?_)))
        intro w383 ch384 bx385
        clear bx255
        have hs386 : aO (bR [17, 18]) _ _ _ _ := ch384.l rfl
        refine ⟨hs386.same, ?_⟩
        refine ht 22 rfl hs386.same (fun w' hw' => a8 Try.underlying45 rfl rfl zs14 rfl) (aB 23 rfl (by kernel_rfl) rfl (ag (cs' := [vi (min t14_0 ((gI (az p) (q : Int)).1)), vi (min t14_1 ((gI (az p) (q : Int)).2))]) aq rfl rfl bx385 rfl (Nat.le_of_ble_eq_true rfl) (AllOne.all (.cons rfl .nil)) rfl ?_))
        intro w387 ch388 bx389
        clear bx385
        have hs390 := hs386.seq (ch388.l rfl)
        refine ⟨hs390.same, ?_⟩
        refine ht 24 rfl hs390.same (fun w' hw' => a8 Try.underlying45 rfl rfl zs15 rfl) (aB 25 rfl (by kernel_rfl) rfl ?_)
        replace bx259 := (bx259.ce ch384).ce ch388
        refine ag (cs' := [vi (max t15_0 ((gI (az p) (q : Int)).1)), vi t15_1]) aq rfl rfl bx259 rfl (Nat.le_of_ble_eq_true rfl) (AllOne.all (.cons rfl .nil)) rfl ?_
        intro w391 ch392 bx393
        clear bx259
        have hs394 := hs390.seq (ch392.l rfl)
        refine ⟨hs394.same, ?_⟩
        refine ht 26 rfl hs394.same (fun w' hw' => a8 Try.underlying45 rfl rfl zs15 rfl) (aB 27 rfl (by kernel_rfl) rfl (ag (cs' := [vi (max t15_0 ((gI (az p) (q : Int)).1)), vi (max t15_1 ((gI (az p) (q : Int)).2))]) aq rfl rfl bx393 rfl (Nat.le_of_ble_eq_true rfl) (AllOne.all (.cons rfl .nil)) rfl ?_))
        intro w395 ch396 bx397
        clear bx393
        have hs398 := hs394.seq (ch396.l rfl)
        refine ⟨hs398.same, ?_⟩
        refine bm (by kernel_rfl) ?_
        have C399 := cg [17, 18, 19] (ch292.n.seq ((ch297.l rfl).seq (ch299.n.seq ((ch384.l rfl).seq ((ch388.l rfl).seq ((ch392.l rfl).seq (ch396.l rfl)))))))
        replace Rg := Rg.ca C301
        replace Rp := Rp.ca C301
        replace r_p_v1 := r_p_v1.ca C301
        replace bx15 := bx15.ca C301
        replace bx230 := bx230.ca C301
        replace o235 := o235.ca C301
        exact mid (g294) _ _ ⟨bH.ca C399, zs4, zs7, zs14, zs15, zs98, zs99, zs100, (Rg.ca hs398), (Rp.ca hs398), (r_p_v1.ca hs398), (bx15.ca hs398), (bx230.ca hs398), (o235.ca hs398), (bx389.ce ch392).ce ch396, bx397⟩
      ·
       replace bx259 := bx259.ca C301
       refine aG (v := vi t15_1) (af aq rfl bx259 rfl) ?_
       refine ⟨(aO.refl _ _ _), ?_⟩
       refine ht (v := vi (max t15_1 ((gI (az p) (q : Int)).2))) 19 rfl (aO.refl _ _ _) (fun w' hw' => bS rfl rfl) ?_
       refine bx 6 [11] (by kernel_rfl) ⟨bl 6 rfl (by kernel_rfl) rfl ?_, bl 11 rfl (by kernel_rfl) rfl ?_, trivial⟩
       ·
        refine aG (v := vi t14_1) (af aq rfl bx255 rfl) ?_
        refine ⟨(aO.refl _ _ _), ?_⟩
        refine ht (v := vi (min t14_1 ((gI (az p) (q : Int)).2))) 9 rfl (aO.refl _ _ _) (fun w' hw' => c9 rfl rfl) (ht 20 rfl (aO.refl _ _ _) (fun w' hw' => a8 Try.underlying45 rfl rfl zs14 rfl) ?_)
        refine bx 11 [21] (by kernel_rfl) ⟨bl 11 rfl (by kernel_rfl) rfl ?_, bl 21 rfl (by kernel_rfl) rfl ?_, trivial⟩
        ·
         refine aG (v := vi t15_0) (af aq rfl bx259 rfl) ?_
         refine ⟨(aO.refl _ _ _), ?_⟩
         refine ht (v := vi (max t15_0 ((gI (az p) (q : Int)).1))) 14 rfl (aO.refl _ _ _) (fun w' hw' => bS rfl rfl) (aB 21 rfl (by kernel_rfl) rfl (ag (cs' := [vi (min t14_0 ((gI (az p) (q : Int)).1)), vi t14_1]) aq rfl rfl bx255 rfl (Nat.le_of_ble_eq_true rfl) (AllOne.all (.cons rfl .nil)) rfl ?_))
         intro w400 ch401 bx402
         clear bx255
         have hs403 : aO (bR [17, 18]) _ _ _ _ := ch401.l rfl
         refine ⟨hs403.same, ?_⟩
         refine ht 22 rfl hs403.same (fun w' hw' => a8 Try.underlying45 rfl rfl zs14 rfl) (aB 23 rfl (by kernel_rfl) rfl (ag (cs' := [vi (min t14_0 ((gI (az p) (q : Int)).1)), vi (min t14_1 ((gI (az p) (q : Int)).2))]) aq rfl rfl bx402 rfl (Nat.le_of_ble_eq_true rfl) (AllOne.all (.cons rfl .nil)) rfl ?_))
         intro w404 ch405 bx406
         clear bx402
         have hs407 := hs403.seq (ch405.l rfl)
         refine ⟨hs407.same, ?_⟩
         refine ht 24 rfl hs407.same (fun w' hw' => a8 Try.underlying45 rfl rfl zs15 rfl) (aB 25 rfl (by kernel_rfl) rfl ?_)
         replace bx259 := (bx259.ce ch401).ce ch405
         refine ag (cs' := [vi (max t15_0 ((gI (az p) (q : Int)).1)), vi t15_1]) aq rfl rfl bx259 rfl (Nat.le_of_ble_eq_true rfl) (AllOne.all (.cons rfl .nil)) rfl ?_
         intro w408 ch409 bx410
         clear bx259
         have hs411 := hs407.seq (ch409.l rfl)
         refine ⟨hs411.same, ?_⟩
         refine ht 26 rfl hs411.same (fun w' hw' => a8 Try.underlying45 rfl rfl zs15 rfl) (aB 27 rfl (by kernel_rfl) rfl (ag (cs' := [vi (max t15_0 ((gI (az p) (q : Int)).1)), vi (max t15_1 ((gI (az p) (q : Int)).2))]) aq rfl rfl bx410 rfl (Nat.le_of_ble_eq_true rfl) (AllOne.all (.cons rfl .nil)) rfl ?_))
         intro w412 ch413 bx414
         clear bx410
         have hs415 := hs411.seq (ch413.l rfl)
         refine ⟨hs415.same, ?_⟩
         refine bm (by kernel_rfl) ?_
         have C416 := cg [17, 18, 19] (ch292.n.seq ((ch297.l rfl).seq (ch299.n.seq ((ch401.l rfl).seq ((ch405.l rfl).seq ((ch409.l rfl).seq (ch413.l rfl)))))))
         replace Rg := Rg.ca C301
         replace Rp := Rp.ca C301
         replace r_p_v1 := r_p_v1.ca C301
         replace bx15 := bx15.ca C301
         replace bx230 := bx230.ca C301
         replace o235 := o235.ca C301
         exact mid (g294) _ _ ⟨bH.ca C416, zs4, zs7, zs14, zs15, zs98, zs99, zs100, (Rg.ca hs415), (Rp.ca hs415), (r_p_v1.ca hs415), (bx15.ca hs415), (bx230.ca hs415), (o235.ca hs415), (bx406.ce ch409).ce ch413, bx414⟩
        ·
         refine ag (cs' := [vi (min t14_0 ((gI (az p) (q : Int)).1)), vi t14_1]) aq rfl rfl bx255 rfl (Nat.le_of_ble_eq_true rfl) (AllOne.all (.cons rfl .nil)) rfl ?_
         intro w417 ch418 bx419
         clear bx255
         have hs420 : aO (bR [17, 18]) _ _ _ _ := ch418.l rfl
         refine ⟨hs420.same, ?_⟩
         refine ht 22 rfl hs420.same (fun w' hw' => a8 Try.underlying45 rfl rfl zs14 rfl) ?_
         refine bx 11 [23] (by kernel_rfl) ⟨bl 11 rfl (by kernel_rfl) rfl ?_, bl 23 rfl (by kernel_rfl) rfl ?_, trivial⟩
         ·
          replace bx259 := bx259.ce ch418
          refine aG (v := vi t15_0) (af aq rfl bx259 rfl) ?_
          refine ⟨hs420.same, ?_⟩
          refine ht (v := vi (max t15_0 ((gI (az p) (q : Int)).1))) 14 rfl hs420.same (fun w' hw' => bS rfl rfl) (aB 23 rfl (by kernel_rfl) rfl (ag (cs' := [vi (min t14_0 ((gI (az p) (q : Int)).1)), vi (min t14_1 ((gI (az p) (q : Int)).2))]) aq rfl rfl bx419 rfl (Nat.le_of_ble_eq_true rfl) (AllOne.all (.cons rfl .nil)) rfl ?_))
          intro w421 ch422 bx423
          clear bx419
          have hs424 := hs420.seq (ch422.l rfl)
          refine ⟨hs424.same, ?_⟩
          refine ht 24 rfl hs424.same (fun w' hw' => a8 Try.underlying45 rfl rfl zs15 rfl) (aB 25 rfl (by kernel_rfl) rfl ?_)
          replace bx259 := bx259.ce ch422
          refine ag (cs' := [vi (max t15_0 ((gI (az p) (q : Int)).1)), vi t15_1]) aq rfl rfl bx259 rfl (Nat.le_of_ble_eq_true rfl) (AllOne.all (.cons rfl .nil)) rfl ?_
          intro w425 ch426 bx427
          clear bx259
          have hs428 := hs424.seq (ch426.l rfl)
          refine ⟨hs428.same, ?_⟩
          refine ht 26 rfl hs428.same (fun w' hw' => a8 Try.underlying45 rfl rfl zs15 rfl) (aB 27 rfl (by kernel_rfl) rfl (ag (cs' := [vi (max t15_0 ((gI (az p) (q : Int)).1)), vi (max t15_1 ((gI (az p) (q : Int)).2))]) aq rfl rfl bx427 rfl (Nat.le_of_ble_eq_true rfl) (AllOne.all (.cons rfl .nil)) rfl ?_))
          intro w429 ch430 bx431
          clear bx427
          have hs432 := hs428.seq (ch430.l rfl)
          refine ⟨hs432.same, ?_⟩
          refine bm (by kernel_rfl) ?_
          have C433 := cg [17, 18, 19] (ch292.n.seq ((ch297.l rfl).seq (ch299.n.seq ((ch418.l rfl).seq ((ch422.l rfl).seq ((ch426.l rfl).seq (ch430.l rfl)))))))
          replace Rg := Rg.ca C301
          replace Rp := Rp.ca C301
          replace r_p_v1 := r_p_v1.ca C301
          replace bx15 := bx15.ca C301
          replace bx230 := bx230.ca C301
          replace o235 := o235.ca C301
          exact mid (g294) _ _ ⟨bH.ca C433, zs4, zs7, zs14, zs15, zs98, zs99, zs100, (Rg.ca hs432), (Rp.ca hs432), (r_p_v1.ca hs432), (bx15.ca hs432), (bx230.ca hs432), (o235.ca hs432), (bx423.ce ch426).ce ch430, bx431⟩
         ·
          refine ag (cs' := [vi (min t14_0 ((gI (az p) (q : Int)).1)), vi (min t14_1 ((gI (az p) (q : Int)).2))]) aq rfl rfl bx419 rfl (Nat.le_of_ble_eq_true rfl) (AllOne.all (.cons rfl .nil)) rfl ?_
          intro w434 ch435 bx436
          clear bx419
          have hs437 := hs420.seq (ch435.l rfl)
          refine ⟨hs437.same, ?_⟩
          refine aB 11 rfl (by kernel_rfl) rfl ?_
          replace bx259 := (bx259.ce ch418).ce ch435
          refine aG (v := vi t15_0) (af aq rfl bx259 rfl) ?_
          refine ⟨hs437.same, ?_⟩
          refine ht (v := vi (max t15_0 ((gI (az p) (q : Int)).1))) 14 rfl hs437.same (fun w' hw' => bS rfl rfl) (ht 24 rfl hs437.same (fun w' hw' => a8 Try.underlying45 rfl rfl zs15 rfl) (aB 25 rfl (by kernel_rfl) rfl (ag (cs' := [vi (max t15_0 ((gI (az p) (q : Int)).1)), vi t15_1]) aq rfl rfl bx259 rfl (Nat.le_of_ble_eq_true rfl) (AllOne.all (.cons rfl .nil)) rfl ?_)))
          intro w438 ch439 bx440
          clear bx259
          have hs441 := hs437.seq (ch439.l rfl)
          refine ⟨hs441.same, ?_⟩
          refine ht 26 rfl hs441.same (fun w' hw' => a8 Try.underlying45 rfl rfl zs15 rfl) (aB 27 rfl (by kernel_rfl) rfl (ag (cs' := [vi (max t15_0 ((gI (az p) (q : Int)).1)), vi (max t15_1 ((gI (az p) (q : Int)).2))]) aq rfl rfl bx440 rfl (Nat.le_of_ble_eq_true rfl) (AllOne.all (.cons rfl .nil)) rfl ?_))
          intro w442 ch443 bx444
          clear bx440
          have hs445 := hs441.seq (ch443.l rfl)
          refine ⟨hs445.same, ?_⟩
          refine bm (by kernel_rfl) ?_
          have C446 := cg [17, 18, 19] (ch292.n.seq ((ch297.l rfl).seq (ch299.n.seq ((ch418.l rfl).seq ((ch435.l rfl).seq ((ch439.l rfl).seq (ch443.l rfl)))))))
          replace Rg := Rg.ca C301
          replace Rp := Rp.ca C301
          replace r_p_v1 := r_p_v1.ca C301
          replace bx15 := bx15.ca C301
          replace bx230 := bx230.ca C301
          replace o235 := o235.ca C301
          exact mid (g294) _ _ ⟨bH.ca C446, zs4, zs7, zs14, zs15, zs98, zs99, zs100, (Rg.ca hs445), (Rp.ca hs445), (r_p_v1.ca hs445), (bx15.ca hs445), (bx230.ca hs445), (o235.ca hs445), (bx436.ce ch439).ce ch443, bx444⟩
       ·
        refine aG (v := vi t15_0) (af aq rfl bx259 rfl) ?_
        refine ⟨(aO.refl _ _ _), ?_⟩
        refine ht (v := vi (max t15_0 ((gI (az p) (q : Int)).1))) 14 rfl (aO.refl _ _ _) (fun w' hw' => bS rfl rfl) (aB 6 rfl (by kernel_rfl) rfl (aG (v := vi t14_1) (af aq rfl bx255 rfl) ?_))
        refine ⟨(aO.refl _ _ _), ?_⟩
        refine ht (v := vi (min t14_1 ((gI (az p) (q : Int)).2))) 9 rfl (aO.refl _ _ _) (fun w' hw' => c9 rfl rfl) (ht 20 rfl (aO.refl _ _ _) (fun w' hw' => a8 Try.underlying45 rfl rfl zs14 rfl) (aB 21 rfl (by kernel_rfl) rfl (ag (cs' := [vi (min t14_0 ((gI (az p) (q : Int)).1)), vi t14_1]) aq rfl rfl bx255 rfl (Nat.le_of_ble_eq_true rfl) (AllOne.all (.cons rfl .nil)) rfl ?_)))
        intro w447 ch448 bx449
        clear bx255
        have hs450 : aO (bR [17, 18]) _ _ _ _ := ch448.l rfl
        refine ⟨hs450.same, ?_⟩
        refine ht 22 rfl hs450.same (fun w' hw' => a8 Try.underlying45 rfl rfl zs14 rfl) (aB 23 rfl (by kernel_rfl) rfl (ag (cs' := [vi (min t14_0 ((gI (az p) (q : Int)).1)), vi (min t14_1 ((gI (az p) (q : Int)).2))]) aq rfl rfl bx449 rfl (Nat.le_of_ble_eq_true rfl) (AllOne.all (.cons rfl .nil)) rfl ?_))
        intro w451 ch452 bx453
        clear bx449
        have hs454 := hs450.seq (ch452.l rfl)
        refine ⟨hs454.same, ?_⟩
        refine ht 24 rfl hs454.same (fun w' hw' => a8 Try.underlying45 rfl rfl zs15 rfl) (aB 25 rfl (by kernel_rfl) rfl ?_)
        replace bx259 := (bx259.ce ch448).ce ch452
        refine ag (cs' := [vi (max t15_0 ((gI (az p) (q : Int)).1)), vi t15_1]) aq rfl rfl bx259 rfl (Nat.le_of_ble_eq_true rfl) (AllOne.all (.cons rfl .nil)) rfl ?_
        intro w455 ch456 bx457
        clear bx259
        have hs458 := hs454.seq (ch456.l rfl)
        refine ⟨hs458.same, ?_⟩
        refine ht 26 rfl hs458.same (fun w' hw' => a8 Try.underlying45 rfl rfl zs15 rfl) (aB 27 rfl (by kernel_rfl) rfl (ag (cs' := [vi (max t15_0 ((gI (az p) (q : Int)).1)), vi (max t15_1 ((gI (az p) (q : Int)).2))]) aq rfl rfl bx457 rfl (Nat.le_of_ble_eq_true rfl) (AllOne.all (.cons rfl .nil)) rfl ?_))
        intro w459 ch460 bx461
        clear bx457
        have hs462 := hs458.seq (ch460.l rfl)
        refine ⟨hs462.same, ?_⟩
        refine bm (by kernel_rfl) ?_
        have C463 := cg [17, 18, 19] (ch292.n.seq ((ch297.l rfl).seq (ch299.n.seq ((ch448.l rfl).seq ((ch452.l rfl).seq ((ch456.l rfl).seq (ch460.l rfl)))))))
        replace Rg := Rg.ca C301
        replace Rp := Rp.ca C301
        replace r_p_v1 := r_p_v1.ca C301
        replace bx15 := bx15.ca C301
        replace bx230 := bx230.ca C301
        replace o235 := o235.ca C301
        exact mid (g294) _ _ ⟨bH.ca C463, zs4, zs7, zs14, zs15, zs98, zs99, zs100, (Rg.ca hs462), (Rp.ca hs462), (r_p_v1.ca hs462), (bx15.ca hs462), (bx230.ca hs462), (o235.ca hs462), (bx453.ce ch456).ce ch460, bx461⟩
     ·
      have C464 := cg [19] (ch292.n.seq ((ch297.l rfl).seq ch299.n))
      replace bx255 := bx255.ca C464
      refine aG (v := vi t14_1) (af aq rfl bx255 rfl) ?_
      refine ⟨(aO.refl _ _ _), ?_⟩
      refine ht (v := vi (min t14_1 ((gI (az p) (q : Int)).2))) 9 rfl (aO.refl _ _ _) (fun w' hw' => c9 rfl rfl) ?_
      refine bx 1 [11, 16] (by kernel_rfl) ⟨bl 1 rfl (by kernel_rfl) rfl ?_, bl 11 rfl (by kernel_rfl) rfl ?_, bl 16 rfl (by kernel_rfl) rfl ?_, trivial⟩
      ·
       refine aG (v := vi t14_0) (af aq rfl bx255 rfl) ?_
       refine ⟨(aO.refl _ _ _), ?_⟩
       refine ht (v := vi (min t14_0 ((gI (az p) (q : Int)).1))) 4 rfl (aO.refl _ _ _) (fun w' hw' => c9 rfl rfl) ?_
       refine bx 11 [16] (by kernel_rfl) ⟨bl 11 rfl (by kernel_rfl) rfl ?_, bl 16 rfl (by kernel_rfl) rfl ?_, trivial⟩
       ·
        replace bx259 := bx259.ca C464
        refine aG (v := vi t15_0) (af aq rfl bx259 rfl) ?_
        refine ⟨(aO.refl _ _ _), ?_⟩
        refine ht (v := vi (max t15_0 ((gI (az p) (q : Int)).1))) 14 rfl (aO.refl _ _ _) (fun w' hw' => bS rfl rfl) (aB 16 rfl (by kernel_rfl) rfl (aG (v := vi t15_1) (af aq rfl bx259 rfl) ?_))
        refine ⟨(aO.refl _ _ _), ?_⟩
        refine ht (v := vi (max t15_1 ((gI (az p) (q : Int)).2))) 19 rfl (aO.refl _ _ _) (fun w' hw' => bS rfl rfl) (ht 20 rfl (aO.refl _ _ _) (fun w' hw' => a8 Try.underlying45 rfl rfl zs14 rfl) (aB 21 rfl (by kernel_rfl) rfl (ag (cs' := [vi (min t14_0 ((gI (az p) (q : Int)).1)), vi t14_1]) aq rfl rfl bx255 rfl (Nat.le_of_ble_eq_true rfl) (AllOne.all (.cons rfl .nil)) rfl ?_)))
        intro w465 ch466 bx467
        clear bx255
        have hs468 : aO (bR [17, 18]) _ _ _ _ := ch466.l rfl
        refine ⟨hs468.same, ?_⟩
        refine ht 22 rfl hs468.same (fun w' hw' => a8 Try.underlying45 rfl rfl zs14 rfl) (aB 23 rfl (by kernel_rfl) rfl (ag (cs' := [vi (min t14_0 ((gI (az p) (q : Int)).1)), vi (min t14_1 ((gI (az p) (q : Int)).2))]) aq rfl rfl bx467 rfl (Nat.le_of_ble_eq_true rfl) (AllOne.all (.cons rfl .nil)) rfl ?_))
        intro w469 ch470 bx471
        clear bx467
        have hs472 := hs468.seq (ch470.l rfl)
        refine ⟨hs472.same, ?_⟩
        refine ht 24 rfl hs472.same (fun w' hw' => a8 Try.underlying45 rfl rfl zs15 rfl) (aB 25 rfl (by kernel_rfl) rfl ?_)
        replace bx259 := (bx259.ce ch466).ce ch470
        refine ag (cs' := [vi (max t15_0 ((gI (az p) (q : Int)).1)), vi t15_1]) aq rfl rfl bx259 rfl (Nat.le_of_ble_eq_true rfl) (AllOne.all (.cons rfl .nil)) rfl ?_
        intro w473 ch474 bx475
        clear bx259
        have hs476 := hs472.seq (ch474.l rfl)
        refine ⟨hs476.same, ?_⟩
        refine ht 26 rfl hs476.same (fun w' hw' => a8 Try.underlying45 rfl rfl zs15 rfl) (aB 27 rfl (by kernel_rfl) rfl (ag (cs' := [vi (max t15_0 ((gI (az p) (q : Int)).1)), vi (max t15_1 ((gI (az p) (q : Int)).2))]) aq rfl rfl bx475 rfl (Nat.le_of_ble_eq_true rfl) (AllOne.all (.cons rfl .nil)) rfl ?_))
        intro w477 ch478 bx479
        clear bx475
        have hs480 := hs476.seq (ch478.l rfl)
        refine ⟨hs480.same, ?_⟩
        refine bm (by kernel_rfl) ?_
        have C481 := cg [17, 18, 19] (ch292.n.seq ((ch297.l rfl).seq (ch299.n.seq ((ch466.l rfl).seq ((ch470.l rfl).seq ((ch474.l rfl).seq (ch478.l rfl)))))))
        replace Rg := Rg.ca C464
        replace Rp := Rp.ca C464
        replace r_p_v1 := r_p_v1.ca C464
        replace bx15 := bx15.ca C464
        replace bx230 := bx230.ca C464
        replace o235 := o235.ca C464
        exact mid (g294) _ _ ⟨bH.ca C481, zs4, zs7, zs14, zs15, zs98, zs99, zs100, (Rg.ca hs480), (Rp.ca hs480), (r_p_v1.ca hs480), (bx15.ca hs480), (bx230.ca hs480), (o235.ca hs480), (bx471.ce ch474).ce ch478, bx479⟩
       ·
        replace bx259 := bx259.ca C464
        refine aG (v := vi t15_1) (af aq rfl bx259 rfl) ?_
        refine ⟨(aO.refl _ _ _), ?_⟩
        refine ht (v := vi (max t15_1 ((gI (az p) (q : Int)).2))) 19 rfl (aO.refl _ _ _) (fun w' hw' => bS rfl rfl) (ht 20 rfl (aO.refl _ _ _) (fun w' hw' => a8 Try.underlying45 rfl rfl zs14 rfl) ?_)
        refine bx 11 [21] (by kernel_rfl) ⟨bl 11 rfl (by kernel_rfl) rfl ?_, bl 21 rfl (by kernel_rfl) rfl ?_, trivial⟩
        ·
         refine aG (v := vi t15_0) (af aq rfl bx259 rfl) ?_
         refine ⟨(aO.refl _ _ _), ?_⟩
         refine ht (v := vi (max t15_0 ((gI (az p) (q : Int)).1))) 14 rfl (aO.refl _ _ _) (fun w' hw' => bS rfl rfl) (aB 21 rfl (by kernel_rfl) rfl (ag (cs' := [vi (min t14_0 ((gI (az p) (q : Int)).1)), vi t14_1]) aq rfl rfl bx255 rfl (Nat.le_of_ble_eq_true rfl) (AllOne.all (.cons rfl .nil)) rfl ?_))
         intro w482 ch483 bx484
         clear bx255
         have hs485 : aO (bR [17, 18]) _ _ _ _ := ch483.l rfl
         refine ⟨hs485.same, ?_⟩
         refine ht 22 rfl hs485.same (fun w' hw' => a8 Try.underlying45 rfl rfl zs14 rfl) (aB 23 rfl (by kernel_rfl) rfl (ag (cs' := [vi (min t14_0 ((gI (az p) (q : Int)).1)), vi (min t14_1 ((gI (az p) (q : Int)).2))]) aq rfl rfl bx484 rfl (Nat.le_of_ble_eq_true rfl) (AllOne.all (.cons rfl .nil)) rfl ?_))
         intro w486 ch487 bx488
         clear bx484
         have hs489 := hs485.seq (ch487.l rfl)
         refine ⟨hs489.same, ?_⟩
         refine ht 24 rfl hs489.same (fun w' hw' => a8 Try.underlying45 rfl rfl zs15 rfl) (aB 25 rfl (by kernel_rfl) rfl ?_)
         replace bx259 := (bx259.ce ch483).ce ch487
         refine ag (cs' := [vi (max t15_0 ((gI (az p) (q : Int)).1)), vi t15_1]) aq rfl rfl bx259 rfl (Nat.le_of_ble_eq_true rfl) (AllOne.all (.cons rfl .nil)) rfl ?_
         intro w490 ch491 bx492
         clear bx259
         have hs493 := hs489.seq (ch491.l rfl)
         refine ⟨hs493.same, ?_⟩
         refine ht 26 rfl hs493.same (fun w' hw' => a8 Try.underlying45 rfl rfl zs15 rfl) (aB 27 rfl (by kernel_rfl) rfl (ag (cs' := [vi (max t15_0 ((gI (az p) (q : Int)).1)), vi (max t15_1 ((gI (az p) (q : Int)).2))]) aq rfl rfl bx492 rfl (Nat.le_of_ble_eq_true rfl) (AllOne.all (.cons rfl .nil)) rfl ?_))
         intro w494 ch495 bx496
         clear bx492
         have hs497 := hs493.seq (ch495.l rfl)
         refine ⟨hs497.same, ?_⟩
         refine bm (by kernel_rfl) ?_
         have C498 := cg [17, 18, 19] (ch292.n.seq ((ch297.l rfl).seq (ch299.n.seq ((ch483.l rfl).seq ((ch487.l rfl).seq ((ch491.l rfl).seq (ch495.l rfl)))))))
         replace Rg := Rg.ca C464
         replace Rp := Rp.ca C464
         replace r_p_v1 := r_p_v1.ca C464
         replace bx15 := bx15.ca C464
         replace bx230 := bx230.ca C464
         replace o235 := o235.ca C464
         exact mid (g294) _ _ ⟨bH.ca C498, zs4, zs7, zs14, zs15, zs98, zs99, zs100, (Rg.ca hs497), (Rp.ca hs497), (r_p_v1.ca hs497), (bx15.ca hs497), (bx230.ca hs497), (o235.ca hs497), (bx488.ce ch491).ce ch495, bx496⟩
        ·
         refine ag (cs' := [vi (min t14_0 ((gI (az p) (q : Int)).1)), vi t14_1]) aq rfl rfl bx255 rfl (Nat.le_of_ble_eq_true rfl) (AllOne.all (.cons rfl .nil)) rfl ?_
         intro w499 ch500 bx501
         clear bx255
         have hs502 : aO (bR [17, 18]) _ _ _ _ := ch500.l rfl
         refine ⟨hs502.same, ?_⟩
         refine ht 22 rfl hs502.same (fun w' hw' => a8 Try.underlying45 rfl rfl zs14 rfl) ?_
         refine bx 11 [23] (by kernel_rfl) ⟨bl 11 rfl (by kernel_rfl) rfl ?_, bl 23 rfl (by kernel_rfl) rfl ?_, trivial⟩
         ·
          replace bx259 := bx259.ce ch500
          refine aG (v := vi t15_0) (af aq rfl bx259 rfl) ?_
          refine ⟨hs502.same, ?_⟩
          refine ht (v := vi (max t15_0 ((gI (az p) (q : Int)).1))) 14 rfl hs502.same (fun w' hw' => bS rfl rfl) (aB 23 rfl (by kernel_rfl) rfl (ag (cs' := [vi (min t14_0 ((gI (az p) (q : Int)).1)), vi (min t14_1 ((gI (az p) (q : Int)).2))]) aq rfl rfl bx501 rfl (Nat.le_of_ble_eq_true rfl) (AllOne.all (.cons rfl .nil)) rfl ?_))
          intro w503 ch504 bx505
          clear bx501
          have hs506 := hs502.seq (ch504.l rfl)
          refine ⟨hs506.same, ?_⟩
          refine ht 24 rfl hs506.same (fun w' hw' => a8 Try.underlying45 rfl rfl zs15 rfl) (aB 25 rfl (by kernel_rfl) rfl ?_)
          replace bx259 := bx259.ce ch504
          refine ag (cs' := [vi (max t15_0 ((gI (az p) (q : Int)).1)), vi t15_1]) aq rfl rfl bx259 rfl (Nat.le_of_ble_eq_true rfl) (AllOne.all (.cons rfl .nil)) rfl ?_
          intro w507 ch508 bx509
          clear bx259
          have hs510 := hs506.seq (ch508.l rfl)
          refine ⟨hs510.same, ?_⟩
          refine ht 26 rfl hs510.same (fun w' hw' => a8 Try.underlying45 rfl rfl zs15 rfl) (aB 27 rfl (by kernel_rfl) rfl (ag (cs' := [vi (max t15_0 ((gI (az p) (q : Int)).1)), vi (max t15_1 ((gI (az p) (q : Int)).2))]) aq rfl rfl bx509 rfl (Nat.le_of_ble_eq_true rfl) (AllOne.all (.cons rfl .nil)) rfl ?_))
          intro w511 ch512 bx513
          clear bx509
          have hs514 := hs510.seq (ch512.l rfl)
          refine ⟨hs514.same, ?_⟩
          refine bm (by kernel_rfl) ?_
          have C515 := cg [17, 18, 19] (ch292.n.seq ((ch297.l rfl).seq (ch299.n.seq ((ch500.l rfl).seq ((ch504.l rfl).seq ((ch508.l rfl).seq (ch512.l rfl)))))))
          replace Rg := Rg.ca C464
          replace Rp := Rp.ca C464
          replace r_p_v1 := r_p_v1.ca C464
          replace bx15 := bx15.ca C464
          replace bx230 := bx230.ca C464
          replace o235 := o235.ca C464
          exact mid (g294) _ _ ⟨bH.ca C515, zs4, zs7, zs14, zs15, zs98, zs99, zs100, (Rg.ca hs514), (Rp.ca hs514), (r_p_v1.ca hs514), (bx15.ca hs514), (bx230.ca hs514), (o235.ca hs514), (bx505.ce ch508).ce ch512, bx513⟩
         ·
          refine ag (cs' := [vi (min t14_0 ((gI (az p) (q : Int)).1)), vi (min t14_1 ((gI (az p) (q : Int)).2))]) aq rfl rfl bx501 rfl (Nat.le_of_ble_eq_true rfl) (AllOne.all (.cons rfl .nil)) rfl ?_
          intro w516 ch517 bx518
          clear bx501
          have hs519 := hs502.seq (ch517.l rfl)
          refine ⟨hs519.same, ?_⟩
          refine aB 11 rfl (by kernel_rfl) rfl ?_
          replace bx259 := (bx259.ce ch500).ce ch517
          refine aG (v := vi t15_0) (af aq rfl bx259 rfl) ?_
          refine ⟨hs519.same, ?_⟩
          refine ht (v := vi (max t15_0 ((gI (az p) (q : Int)).1))) 14 rfl hs519.same (fun w' hw' => bS rfl rfl) (ht 24 rfl hs519.same (fun w' hw' => a8 Try.underlying45 rfl rfl zs15 rfl) (aB 25 rfl (by kernel_rfl) rfl (ag (cs' := [vi (max t15_0 ((gI (az p) (q : Int)).1)), vi t15_1]) aq rfl rfl bx259 rfl (Nat.le_of_ble_eq_true rfl) (AllOne.all (.cons rfl .nil)) rfl ?_)))
          intro w520 ch521 bx522
          clear bx259
          have hs523 := hs519.seq (ch521.l rfl)
          refine ⟨hs523.same, ?_⟩
          refine ht 26 rfl hs523.same (fun w' hw' => a8 Try.underlying45 rfl rfl zs15 rfl) (aB 27 rfl (by kernel_rfl) rfl (ag (cs' := [vi (max t15_0 ((gI (az p) (q : Int)).1)), vi (max t15_1 ((gI (az p) (q : Int)).2))]) aq rfl rfl bx522 rfl (Nat.le_of_ble_eq_true rfl) (AllOne.all (.cons rfl .nil)) rfl ?_))
          intro w524 ch525 bx526
          clear bx522
          have hs527 := hs523.seq (ch525.l rfl)
          refine ⟨hs527.same, ?_⟩
          refine bm (by kernel_rfl) ?_
          have C528 := cg [17, 18, 19] (ch292.n.seq ((ch297.l rfl).seq (ch299.n.seq ((ch500.l rfl).seq ((ch517.l rfl).seq ((ch521.l rfl).seq (ch525.l rfl)))))))
          replace Rg := Rg.ca C464
          replace Rp := Rp.ca C464
          replace r_p_v1 := r_p_v1.ca C464
          replace bx15 := bx15.ca C464
          replace bx230 := bx230.ca C464
          replace o235 := o235.ca C464
          exact mid (g294) _ _ ⟨bH.ca C528, zs4, zs7, zs14, zs15, zs98, zs99, zs100, (Rg.ca hs527), (Rp.ca hs527), (r_p_v1.ca hs527), (bx15.ca hs527), (bx230.ca hs527), (o235.ca hs527), (bx518.ce ch521).ce ch525, bx526⟩
      ·
       replace bx259 := bx259.ca C464
       refine aG (v := vi t15_0) (af aq rfl bx259 rfl) ?_
       refine ⟨(aO.refl _ _ _), ?_⟩
       refine ht (v := vi (max t15_0 ((gI (az p) (q : Int)).1))) 14 rfl (aO.refl _ _ _) (fun w' hw' => bS rfl rfl) ?_
       refine bx 1 [16] (by kernel_rfl) ⟨bl 1 rfl (by kernel_rfl) rfl ?_, bl 16 rfl (by kernel_rfl) rfl ?_, trivial⟩
       ·
        refine aG (v := vi t14_0) (af aq rfl bx255 rfl) ?_
        refine ⟨(aO.refl _ _ _), ?_⟩
        refine ht (v := vi (min t14_0 ((gI (az p) (q : Int)).1))) 4 rfl (aO.refl _ _ _) (fun w' hw' => c9 rfl rfl) (aB 16 rfl (by kernel_rfl) rfl (aG (v := vi t15_1) (af aq rfl bx259 rfl) ?_))
        refine ⟨(aO.refl _ _ _), ?_⟩
        refine ht (v := vi (max t15_1 ((gI (az p) (q : Int)).2))) 19 rfl (aO.refl _ _ _) (fun w' hw' => bS rfl rfl) (ht 20 rfl (aO.refl _ _ _) (fun w' hw' => a8 Try.underlying45 rfl rfl zs14 rfl) (aB 21 rfl (by kernel_rfl) rfl (ag (cs' := [vi (min t14_0 ((gI (az p) (q : Int)).1)), vi t14_1]) aq rfl rfl bx255 rfl (Nat.le_of_ble_eq_true rfl) (AllOne.all (.cons rfl .nil)) rfl ?_)))
        intro w529 ch530 bx531
        clear bx255
        have hs532 : aO (bR [17, 18]) _ _ _ _ := ch530.l rfl
        refine ⟨hs532.same, ?_⟩
        refine ht 22 rfl hs532.same (fun w' hw' => a8 Try.underlying45 rfl rfl zs14 rfl) (aB 23 rfl (by kernel_rfl) rfl (ag (cs' := [vi (min t14_0 ((gI (az p) (q : Int)).1)), vi (min t14_1 ((gI (az p) (q : Int)).2))]) aq rfl rfl bx531 rfl (Nat.le_of_ble_eq_true rfl) (AllOne.all (.cons rfl .nil)) rfl ?_))
        intro w533 ch534 bx535
        clear bx531
        have hs536 := hs532.seq (ch534.l rfl)
        refine ⟨hs536.same, ?_⟩
        refine ht 24 rfl hs536.same (fun w' hw' => a8 Try.underlying45 rfl rfl zs15 rfl) (aB 25 rfl (by kernel_rfl) rfl ?_)
        replace bx259 := (bx259.ce ch530).ce ch534
        refine ag (cs' := [vi (max t15_0 ((gI (az p) (q : Int)).1)), vi t15_1]) aq rfl rfl bx259 rfl (Nat.le_of_ble_eq_true rfl) (AllOne.all (.cons rfl .nil)) rfl ?_
        intro w537 ch538 bx539
        clear bx259
        have hs540 := hs536.seq (ch538.l rfl)
        refine ⟨hs540.same, ?_⟩
        refine ht 26 rfl hs540.same (fun w' hw' => a8 Try.underlying45 rfl rfl zs15 rfl) (aB 27 rfl (by kernel_rfl) rfl (ag (cs' := [vi (max t15_0 ((gI (az p) (q : Int)).1)), vi (max t15_1 ((gI (az p) (q : Int)).2))]) aq rfl rfl bx539 rfl (Nat.le_of_ble_eq_true rfl) (AllOne.all (.cons rfl .nil)) rfl ?_))
        intro w541 ch542 bx543
        clear bx539
        have hs544 := hs540.seq (ch542.l rfl)
        refine ⟨hs544.same, ?_⟩
        refine bm (by kernel_rfl) ?_
        have C545 := cg [17, 18, 19] (ch292.n.seq ((ch297.l rfl).seq (ch299.n.seq ((ch530.l rfl).seq ((ch534.l rfl).seq ((ch538.l rfl).seq (ch542.l rfl)))))))
        replace Rg := Rg.ca C464
        replace Rp := Rp.ca C464
        replace r_p_v1 := r_p_v1.ca C464
        replace bx15 := bx15.ca C464
        replace bx230 := bx230.ca C464
        replace o235 := o235.ca C464
        exact mid (g294) _ _ ⟨bH.ca C545, zs4, zs7, zs14, zs15, zs98, zs99, zs100, (Rg.ca hs544), (Rp.ca hs544), (r_p_v1.ca hs544), (bx15.ca hs544), (bx230.ca hs544), (o235.ca hs544), (bx535.ce ch538).ce ch542, bx543⟩
       ·
        refine aG (v := vi t15_1) (af aq rfl bx259 rfl) ?_
        refine ⟨(aO.refl _ _ _), ?_⟩
        refine ht (v := vi (max t15_1 ((gI (az p) (q : Int)).2))) 19 rfl (aO.refl _ _ _) (fun w' hw' => bS rfl rfl) (aB 1 rfl (by kernel_rfl) rfl (aG (v := vi t14_0) (af aq rfl bx255 rfl) ?_))
        refine ⟨(aO.refl _ _ _), ?_⟩
        refine ht (v := vi (min t14_0 ((gI (az p) (q : Int)).1))) 4 rfl (aO.refl _ _ _) (fun w' hw' => c9 rfl rfl) (ht 20 rfl (aO.refl _ _ _) (fun w' hw' => a8 Try.underlying45 rfl rfl zs14 rfl) (aB 21 rfl (by kernel_rfl) rfl (ag (cs' := [vi (min t14_0 ((gI (az p) (q : Int)).1)), vi t14_1]) aq rfl rfl bx255 rfl (Nat.le_of_ble_eq_true rfl) (AllOne.all (.cons rfl .nil)) rfl ?_)))
        intro w546 ch547 bx548
        clear bx255
        have hs549 : aO (bR [17, 18]) _ _ _ _ := ch547.l rfl
        refine ⟨hs549.same, ?_⟩
        refine ht 22 rfl hs549.same (fun w' hw' => a8 Try.underlying45 rfl rfl zs14 rfl) (aB 23 rfl (by kernel_rfl) rfl (ag (cs' := [vi (min t14_0 ((gI (az p) (q : Int)).1)), vi (min t14_1 ((gI (az p) (q : Int)).2))]) aq rfl rfl bx548 rfl (Nat.le_of_ble_eq_true rfl) (AllOne.all (.cons rfl .nil)) rfl ?_))
        intro w550 ch551 bx552
        clear bx548
        have hs553 := hs549.seq (ch551.l rfl)
        refine ⟨hs553.same, ?_⟩
        refine ht 24 rfl hs553.same (fun w' hw' => a8 Try.underlying45 rfl rfl zs15 rfl) (aB 25 rfl (by kernel_rfl) rfl ?_)
        replace bx259 := (bx259.ce ch547).ce ch551
        refine ag (cs' := [vi (max t15_0 ((gI (az p) (q : Int)).1)), vi t15_1]) aq rfl rfl bx259 rfl (Nat.le_of_ble_eq_true rfl) (AllOne.all (.cons rfl .nil)) rfl ?_
        intro w554 ch555 bx556
        clear bx259
        have hs557 := hs553.seq (ch555.l rfl)
        refine ⟨hs557.same, ?_⟩
        refine ht 26 rfl hs557.same (fun w' hw' => a8 Try.underlying45 rfl rfl zs15 rfl) (aB 27 rfl (by kernel_rfl) rfl (ag (cs' := [vi (max t15_0 ((gI (az p) (q : Int)).1)), vi (max t15_1 ((gI (az p) (q : Int)).2))]) aq rfl rfl bx556 rfl (Nat.le_of_ble_eq_true rfl) (AllOne.all (.cons rfl .nil)) rfl ?_))
        intro w558 ch559 bx560
        clear bx556
        have hs561 := hs557.seq (ch559.l rfl)
        refine ⟨hs561.same, ?_⟩
        refine bm (by kernel_rfl) ?_
        have C562 := cg [17, 18, 19] (ch292.n.seq ((ch297.l rfl).seq (ch299.n.seq ((ch547.l rfl).seq ((ch551.l rfl).seq ((ch555.l rfl).seq (ch559.l rfl)))))))
        replace Rg := Rg.ca C464
        replace Rp := Rp.ca C464
        replace r_p_v1 := r_p_v1.ca C464
        replace bx15 := bx15.ca C464
        replace bx230 := bx230.ca C464
        replace o235 := o235.ca C464
        exact mid (g294) _ _ ⟨bH.ca C562, zs4, zs7, zs14, zs15, zs98, zs99, zs100, (Rg.ca hs561), (Rp.ca hs561), (r_p_v1.ca hs561), (bx15.ca hs561), (bx230.ca hs561), (o235.ca hs561), (bx552.ce ch555).ce ch559, bx560⟩
      ·
       replace bx259 := bx259.ca C464
       refine aG (v := vi t15_1) (af aq rfl bx259 rfl) ?_
       refine ⟨(aO.refl _ _ _), ?_⟩
       refine ht (v := vi (max t15_1 ((gI (az p) (q : Int)).2))) 19 rfl (aO.refl _ _ _) (fun w' hw' => bS rfl rfl) ?_
       refine bx 1 [11] (by kernel_rfl) ⟨bl 1 rfl (by kernel_rfl) rfl ?_, bl 11 rfl (by kernel_rfl) rfl ?_, trivial⟩
       ·
        refine aG (v := vi t14_0) (af aq rfl bx255 rfl) ?_
        refine ⟨(aO.refl _ _ _), ?_⟩
        refine ht (v := vi (min t14_0 ((gI (az p) (q : Int)).1))) 4 rfl (aO.refl _ _ _) (fun w' hw' => c9 rfl rfl) (ht 20 rfl (aO.refl _ _ _) (fun w' hw' => a8 Try.underlying45 rfl rfl zs14 rfl) ?_)
        refine bx 11 [21] (by kernel_rfl) ⟨bl 11 rfl (by kernel_rfl) rfl ?_, bl 21 rfl (by kernel_rfl) rfl ?_, trivial⟩
        ·
         refine aG (v := vi t15_0) (af aq rfl bx259 rfl) ?_
         refine ⟨(aO.refl _ _ _), ?_⟩
         refine ht (v := vi (max t15_0 ((gI (az p) (q : Int)).1))) 14 rfl (aO.refl _ _ _) (fun w' hw' => bS rfl rfl) (aB 21 rfl (by kernel_rfl) rfl (ag (cs' := [vi (min t14_0 ((gI (az p) (q : Int)).1)), vi t14_1]) aq rfl rfl bx255 rfl (Nat.le_of_ble_eq_true rfl) (AllOne.all (.cons rfl .nil)) rfl ?_))
         intro w563 ch564 bx565
         clear bx255
         have hs566 : aO (bR [17, 18]) _ _ _ _ := ch564.l rfl
         refine ⟨hs566.same, ?_⟩
         refine ht 22 rfl hs566.same (fun w' hw' => a8 Try.underlying45 rfl rfl zs14 rfl) (aB 23 rfl (by kernel_rfl) rfl (ag (cs' := [vi (min t14_0 ((gI (az p) (q : Int)).1)), vi (min t14_1 ((gI (az p) (q : Int)).2))]) aq rfl rfl bx565 rfl (Nat.le_of_ble_eq_true rfl) (AllOne.all (.cons rfl .nil)) rfl ?_))
         intro w567 ch568 bx569
         clear bx565
         have hs570 := hs566.seq (ch568.l rfl)
         refine ⟨hs570.same, ?_⟩
         refine ht 24 rfl hs570.same (fun w' hw' => a8 Try.underlying45 rfl rfl zs15 rfl) (aB 25 rfl (by kernel_rfl) rfl ?_)
         replace bx259 := (bx259.ce ch564).ce ch568
         refine ag (cs' := [vi (max t15_0 ((gI (az p) (q : Int)).1)), vi t15_1]) aq rfl rfl bx259 rfl (Nat.le_of_ble_eq_true rfl) (AllOne.all (.cons rfl .nil)) rfl ?_
         intro w571 ch572 bx573
         clear bx259
         have hs574 := hs570.seq (ch572.l rfl)
         refine ⟨hs574.same, ?_⟩
         refine ht 26 rfl hs574.same (fun w' hw' => a8 Try.underlying45 rfl rfl zs15 rfl) (aB 27 rfl (by kernel_rfl) rfl (ag (cs' := [vi (max t15_0 ((gI (az p) (q : Int)).1)), vi (max t15_1 ((gI (az p) (q : Int)).2))]) aq rfl rfl bx573 rfl (Nat.le_of_ble_eq_true rfl) (AllOne.all (.cons rfl .nil)) rfl ?_))
         intro w575 ch576 bx577
         clear bx573
         have hs578 := hs574.seq (ch576.l rfl)
         refine ⟨hs578.same, ?_⟩
         refine bm (by kernel_rfl) ?_
         have C579 := cg [17, 18, 19] (ch292.n.seq ((ch297.l rfl).seq (ch299.n.seq ((ch564.l rfl).seq ((ch568.l rfl).seq ((ch572.l rfl).seq (ch576.l rfl)))))))
         replace Rg := Rg.ca C464
         replace Rp := Rp.ca C464
         replace r_p_v1 := r_p_v1.ca C464
         replace bx15 := bx15.ca C464
         replace bx230 := bx230.ca C464
         replace o235 := o235.ca C464
         exact mid (g294) _ _ ⟨bH.ca C579, zs4, zs7, zs14, zs15, zs98, zs99, zs100, (Rg.ca hs578), (Rp.ca hs578), (r_p_v1.ca hs578), (bx15.ca hs578), (bx230.ca hs578), (o235.ca hs578), (bx569.ce ch572).ce ch576, bx577⟩
        ·
         refine ag (cs' := [vi (min t14_0 ((gI (az p) (q : Int)).1)), vi t14_1]) aq rfl rfl bx255 rfl (Nat.le_of_ble_eq_true rfl) (AllOne.all (.cons rfl .nil)) rfl ?_
         intro w580 ch581 bx582
         clear bx255
         have hs583 : aO (bR [17, 18]) _ _ _ _ := ch581.l rfl
         refine ⟨hs583.same, ?_⟩
         refine ht 22 rfl hs583.same (fun w' hw' => a8 Try.underlying45 rfl rfl zs14 rfl) ?_
         refine bx 11 [23] (by kernel_rfl) ⟨bl 11 rfl (by kernel_rfl) rfl ?_, bl 23 rfl (by kernel_rfl) rfl ?_, trivial⟩
         ·
          replace bx259 := bx259.ce ch581
          refine aG (v := vi t15_0) (af aq rfl bx259 rfl) ?_
          refine ⟨hs583.same, ?_⟩
          refine ht (v := vi (max t15_0 ((gI (az p) (q : Int)).1))) 14 rfl hs583.same (fun w' hw' => bS rfl rfl) (aB 23 rfl (by kernel_rfl) rfl (ag (cs' := [vi (min t14_0 ((gI (az p) (q : Int)).1)), vi (min t14_1 ((gI (az p) (q : Int)).2))]) aq rfl rfl bx582 rfl (Nat.le_of_ble_eq_true rfl) (AllOne.all (.cons rfl .nil)) rfl ?_))
          intro w584 ch585 bx586
          clear bx582
          have hs587 := hs583.seq (ch585.l rfl)
          refine ⟨hs587.same, ?_⟩
          refine ht 24 rfl hs587.same (fun w' hw' => a8 Try.underlying45 rfl rfl zs15 rfl) (aB 25 rfl (by kernel_rfl) rfl ?_)
          replace bx259 := bx259.ce ch585
          refine ag (cs' := [vi (max t15_0 ((gI (az p) (q : Int)).1)), vi t15_1]) aq rfl rfl bx259 rfl (Nat.le_of_ble_eq_true rfl) (AllOne.all (.cons rfl .nil)) rfl ?_
          intro w588 ch589 bx590
          clear bx259
          have hs591 := hs587.seq (ch589.l rfl)
          refine ⟨hs591.same, ?_⟩
          refine ht 26 rfl hs591.same (fun w' hw' => a8 Try.underlying45 rfl rfl zs15 rfl) (aB 27 rfl (by kernel_rfl) rfl (ag (cs' := [vi (max t15_0 ((gI (az p) (q : Int)).1)), vi (max t15_1 ((gI (az p) (q : Int)).2))]) aq rfl rfl bx590 rfl (Nat.le_of_ble_eq_true rfl) (AllOne.all (.cons rfl .nil)) rfl ?_))
          intro w592 ch593 bx594
          clear bx590
          have hs595 := hs591.seq (ch593.l rfl)
          refine ⟨hs595.same, ?_⟩
          refine bm (by kernel_rfl) ?_
          have C596 := cg [17, 18, 19] (ch292.n.seq ((ch297.l rfl).seq (ch299.n.seq ((ch581.l rfl).seq ((ch585.l rfl).seq ((ch589.l rfl).seq (ch593.l rfl)))))))
          replace Rg := Rg.ca C464
          replace Rp := Rp.ca C464
          replace r_p_v1 := r_p_v1.ca C464
          replace bx15 := bx15.ca C464
          replace bx230 := bx230.ca C464
          replace o235 := o235.ca C464
          exact mid (g294) _ _ ⟨bH.ca C596, zs4, zs7, zs14, zs15, zs98, zs99, zs100, (Rg.ca hs595), (Rp.ca hs595), (r_p_v1.ca hs595), (bx15.ca hs595), (bx230.ca hs595), (o235.ca hs595), (bx586.ce ch589).ce ch593, bx594⟩
         ·
          refine ag (cs' := [vi (min t14_0 ((gI (az p) (q : Int)).1)), vi (min t14_1 ((gI (az p) (q : Int)).2))]) aq rfl rfl bx582 rfl (Nat.le_of_ble_eq_true rfl) (AllOne.all (.cons rfl .nil)) rfl ?_
          intro w597 ch598 bx599
          clear bx582
          have hs600 := hs583.seq (ch598.l rfl)
          refine ⟨hs600.same, ?_⟩
          refine aB 11 rfl (by kernel_rfl) rfl ?_
          replace bx259 := (bx259.ce ch581).ce ch598
          refine aG (v := vi t15_0) (af aq rfl bx259 rfl) ?_
          refine ⟨hs600.same, ?_⟩
          refine ht (v := vi (max t15_0 ((gI (az p) (q : Int)).1))) 14 rfl hs600.same (fun w' hw' => bS rfl rfl) (ht 24 rfl hs600.same (fun w' hw' => a8 Try.underlying45 rfl rfl zs15 rfl) (aB 25 rfl (by kernel_rfl) rfl (ag (cs' := [vi (max t15_0 ((gI (az p) (q : Int)).1)), vi t15_1]) aq rfl rfl bx259 rfl (Nat.le_of_ble_eq_true rfl) (AllOne.all (.cons rfl .nil)) rfl ?_)))
          intro w601 ch602 bx603
          clear bx259
          have hs604 := hs600.seq (ch602.l rfl)
          refine ⟨hs604.same, ?_⟩
          refine ht 26 rfl hs604.same (fun w' hw' => a8 Try.underlying45 rfl rfl zs15 rfl) (aB 27 rfl (by kernel_rfl) rfl (ag (cs' := [vi (max t15_0 ((gI (az p) (q : Int)).1)), vi (max t15_1 ((gI (az p) (q : Int)).2))]) aq rfl rfl bx603 rfl (Nat.le_of_ble_eq_true rfl) (AllOne.all (.cons rfl .nil)) rfl ?_))
          intro w605 ch606 bx607
          clear bx603
          have hs608 := hs604.seq (ch606.l rfl)
          refine ⟨hs608.same, ?_⟩
          refine bm (by kernel_rfl) ?_
          have C609 := cg [17, 18, 19] (ch292.n.seq ((ch297.l rfl).seq (ch299.n.seq ((ch581.l rfl).seq ((ch598.l rfl).seq ((ch602.l rfl).seq (ch606.l rfl)))))))
          replace Rg := Rg.ca C464
          replace Rp := Rp.ca C464
          replace r_p_v1 := r_p_v1.ca C464
          replace bx15 := bx15.ca C464
          replace bx230 := bx230.ca C464
          replace o235 := o235.ca C464
          exact mid (g294) _ _ ⟨bH.ca C609, zs4, zs7, zs14, zs15, zs98, zs99, zs100, (Rg.ca hs608), (Rp.ca hs608), (r_p_v1.ca hs608), (bx15.ca hs608), (bx230.ca hs608), (o235.ca hs608), (bx599.ce ch602).ce ch606, bx607⟩
       ·
        refine aG (v := vi t15_0) (af aq rfl bx259 rfl) ?_
        refine ⟨(aO.refl _ _ _), ?_⟩
        refine ht (v := vi (max t15_0 ((gI (az p) (q : Int)).1))) 14 rfl (aO.refl _ _ _) (fun w' hw' => bS rfl rfl) (aB 1 rfl (by kernel_rfl) rfl (aG (v := vi t14_0) (af aq rfl bx255 rfl) ?_))
        refine ⟨(aO.refl _ _ _), ?_⟩
        refine ht (v := vi (min t14_0 ((gI (az p) (q : Int)).1))) 4 rfl (aO.refl _ _ _) (fun w' hw' => c9 rfl rfl) (ht 20 rfl (aO.refl _ _ _) (fun w' hw' => a8 Try.underlying45 rfl rfl zs14 rfl) (aB 21 rfl (by kernel_rfl) rfl (ag (cs' := [vi (min t14_0 ((gI (az p) (q : Int)).1)), vi t14_1]) aq rfl rfl bx255 rfl (Nat.le_of_ble_eq_true rfl) (AllOne.all (.cons rfl .nil)) rfl ?_)))
        intro w610 ch611 bx612
        clear bx255
        have hs613 : aO (bR [17, 18]) _ _ _ _ := ch611.l rfl
        refine ⟨hs613.same, ?_⟩
        refine ht 22 rfl hs613.same (fun w' hw' => a8 Try.underlying45 rfl rfl zs14 rfl) (aB 23 rfl (by kernel_rfl) rfl (ag (cs' := [vi (min t14_0 ((gI (az p) (q : Int)).1)), vi (min t14_1 ((gI (az p) (q : Int)).2))]) aq rfl rfl bx612 rfl (Nat.le_of_ble_eq_true rfl) (AllOne.all (.cons rfl .nil)) rfl ?_))
        intro w614 ch615 bx616
        clear bx612
        have hs617 := hs613.seq (ch615.l rfl)
        refine ⟨hs617.same, ?_⟩
        refine ht 24 rfl hs617.same (fun w' hw' => a8 Try.underlying45 rfl rfl zs15 rfl) (aB 25 rfl (by kernel_rfl) rfl ?_)
        replace bx259 := (bx259.ce ch611).ce ch615
        refine ag (cs' := [vi (max t15_0 ((gI (az p) (q : Int)).1)), vi t15_1]) aq rfl rfl bx259 rfl (Nat.le_of_ble_eq_true rfl) (AllOne.all (.cons rfl .nil)) rfl ?_
        intro w618 ch619 bx620
        clear bx259
        have hs621 := hs617.seq (ch619.l rfl)
        refine ⟨hs621.same, ?_⟩
        refine ht 26 rfl hs621.same (fun w' hw' => a8 Try.underlying45 rfl rfl zs15 rfl) (aB 27 rfl (by kernel_rfl) rfl (ag (cs' := [vi (max t15_0 ((gI (az p) (q : Int)).1)), vi (max t15_1 ((gI (az p) (q : Int)).2))]) aq rfl rfl bx620 rfl (Nat.le_of_ble_eq_true rfl) (AllOne.all (.cons rfl .nil)) rfl ?_))
        intro w622 ch623 bx624
        clear bx620
        have hs625 := hs621.seq (ch623.l rfl)
        refine ⟨hs625.same, ?_⟩
        refine bm (by kernel_rfl) ?_
        have C626 := cg [17, 18, 19] (ch292.n.seq ((ch297.l rfl).seq (ch299.n.seq ((ch611.l rfl).seq ((ch615.l rfl).seq ((ch619.l rfl).seq (ch623.l rfl)))))))
        replace Rg := Rg.ca C464
        replace Rp := Rp.ca C464
        replace r_p_v1 := r_p_v1.ca C464
        replace bx15 := bx15.ca C464
        replace bx230 := bx230.ca C464
        replace o235 := o235.ca C464
        exact mid (g294) _ _ ⟨bH.ca C626, zs4, zs7, zs14, zs15, zs98, zs99, zs100, (Rg.ca hs625), (Rp.ca hs625), (r_p_v1.ca hs625), (bx15.ca hs625), (bx230.ca hs625), (o235.ca hs625), (bx616.ce ch619).ce ch623, bx624⟩
     ·
      have C627 := cg [19] (ch292.n.seq ((ch297.l rfl).seq ch299.n))
      replace bx259 := bx259.ca C627
      refine aG (v := vi t15_0) (af aq rfl bx259 rfl) ?_
      refine ⟨(aO.refl _ _ _), ?_⟩
      refine ht (v := vi (max t15_0 ((gI (az p) (q : Int)).1))) 14 rfl (aO.refl _ _ _) (fun w' hw' => bS rfl rfl) ?_
      refine bx 1 [6, 16] (by kernel_rfl) ⟨bl 1 rfl (by kernel_rfl) rfl ?_, bl 6 rfl (by kernel_rfl) rfl ?_, bl 16 rfl (by kernel_rfl) rfl ?_, trivial⟩
      ·
       replace bx255 := bx255.ca C627
       refine aG (v := vi t14_0) (af aq rfl bx255 rfl) ?_
       refine ⟨(aO.refl _ _ _), ?_⟩
       refine ht (v := vi (min t14_0 ((gI (az p) (q : Int)).1))) 4 rfl (aO.refl _ _ _) (fun w' hw' => c9 rfl rfl) ?_
       refine bx 6 [16] (by kernel_rfl) ⟨bl 6 rfl (by kernel_rfl) rfl ?_, bl 16 rfl (by kernel_rfl) rfl ?_, trivial⟩
       ·
        refine aG (v := vi t14_1) (af aq rfl bx255 rfl) ?_
        refine ⟨(aO.refl _ _ _), ?_⟩
        refine ht (v := vi (min t14_1 ((gI (az p) (q : Int)).2))) 9 rfl (aO.refl _ _ _) (fun w' hw' => c9 rfl rfl) (aB 16 rfl (by kernel_rfl) rfl (aG (v := vi t15_1) (af aq rfl bx259 rfl) ?_))
        refine ⟨(aO.refl _ _ _), ?_⟩
        refine ht (v := vi (max t15_1 ((gI (az p) (q : Int)).2))) 19 rfl (aO.refl _ _ _) (fun w' hw' => bS rfl rfl) (ht 20 rfl (aO.refl _ _ _) (fun w' hw' => a8 Try.underlying45 rfl rfl zs14 rfl) (aB 21 rfl (by kernel_rfl) rfl (ag (cs' := [vi (min t14_0 ((gI (az p) (q : Int)).1)), vi t14_1]) aq rfl rfl bx255 rfl (Nat.le_of_ble_eq_true rfl) (AllOne.all (.cons rfl .nil)) rfl ?_)))
        intro w628 ch629 bx630
        clear bx255
        have hs631 : aO (bR [17, 18]) _ _ _ _ := ch629.l rfl
        refine ⟨hs631.same, ?_⟩
        refine ht 22 rfl hs631.same (fun w' hw' => a8 Try.underlying45 rfl rfl zs14 rfl) (aB 23 rfl (by kernel_rfl) rfl (ag (cs' := [vi (min t14_0 ((gI (az p) (q : Int)).1)), vi (min t14_1 ((gI (az p) (q : Int)).2))]) aq rfl rfl bx630 rfl (Nat.le_of_ble_eq_true rfl) (AllOne.all (.cons rfl .nil)) rfl ?_))
        intro w632 ch633 bx634
        clear bx630
        have hs635 := hs631.seq (ch633.l rfl)
        refine ⟨hs635.same, ?_⟩
        refine ht 24 rfl hs635.same (fun w' hw' => a8 Try.underlying45 rfl rfl zs15 rfl) (aB 25 rfl (by kernel_rfl) rfl ?_)
        replace bx259 := (bx259.ce ch629).ce ch633
        refine ag (cs' := [vi (max t15_0 ((gI (az p) (q : Int)).1)), vi t15_1]) aq rfl rfl bx259 rfl (Nat.le_of_ble_eq_true rfl) (AllOne.all (.cons rfl .nil)) rfl ?_
        intro w636 ch637 bx638
        clear bx259
        have hs639 := hs635.seq (ch637.l rfl)
        refine ⟨hs639.same, ?_⟩
        refine ht 26 rfl hs639.same (fun w' hw' => a8 Try.underlying45 rfl rfl zs15 rfl) (aB 27 rfl (by kernel_rfl) rfl (ag (cs' := [vi (max t15_0 ((gI (az p) (q : Int)).1)), vi (max t15_1 ((gI (az p) (q : Int)).2))]) aq rfl rfl bx638 rfl (Nat.le_of_ble_eq_true rfl) (AllOne.all (.cons rfl .nil)) rfl ?_))
        intro w640 ch641 bx642
        clear bx638
        have hs643 := hs639.seq (ch641.l rfl)
        refine ⟨hs643.same, ?_⟩
        refine bm (by kernel_rfl) ?_
        have C644 := cg [17, 18, 19] (ch292.n.seq ((ch297.l rfl).seq (ch299.n.seq ((ch629.l rfl).seq ((ch633.l rfl).seq ((ch637.l rfl).seq (ch641.l rfl)))))))
        replace Rg := Rg.ca C627
        replace Rp := Rp.ca C627
        replace r_p_v1 := r_p_v1.ca C627
        replace bx15 := bx15.ca C627
        replace bx230 := bx230.ca C627
        replace o235 := o235.ca C627
        exact mid (g294) _ _ ⟨bH.ca C644, zs4, zs7, zs14, zs15, zs98, zs99, zs100, (Rg.ca hs643), (Rp.ca hs643), (r_p_v1.ca hs643), (bx15.ca hs643), (bx230.ca hs643), (o235.ca hs643), (bx634.ce ch637).ce ch641, bx642⟩
       ·
        refine aG (v := vi t15_1) (af aq rfl bx259 rfl) ?_
        refine ⟨(aO.refl _ _ _), ?_⟩
        refine ht (v := vi (max t15_1 ((gI (az p) (q : Int)).2))) 19 rfl (aO.refl _ _ _) (fun w' hw' => bS rfl rfl) (aB 6 rfl (by kernel_rfl) rfl (aG (v := vi t14_1) (af aq rfl bx255 rfl) ?_))
        refine ⟨(aO.refl _ _ _), ?_⟩
        refine ht (v := vi (min t14_1 ((gI (az p) (q : Int)).2))) 9 rfl (aO.refl _ _ _) (fun w' hw' => c9 rfl rfl) (ht 20 rfl (aO.refl _ _ _) (fun w' hw' => a8 Try.underlying45 rfl rfl zs14 rfl) (aB 21 rfl (by kernel_rfl) rfl (ag (cs' := [vi (min t14_0 ((gI (az p) (q : Int)).1)), vi t14_1]) aq rfl rfl bx255 rfl (Nat.le_of_ble_eq_true rfl) (AllOne.all (.cons rfl .nil)) rfl ?_)))
        intro w645 ch646 bx647
        clear bx255
        have hs648 : aO (bR [17, 18]) _ _ _ _ := ch646.l rfl
        refine ⟨hs648.same, ?_⟩
        refine ht 22 rfl hs648.same (fun w' hw' => a8 Try.underlying45 rfl rfl zs14 rfl) (aB 23 rfl (by kernel_rfl) rfl (ag (cs' := [vi (min t14_0 ((gI (az p) (q : Int)).1)), vi (min t14_1 ((gI (az p) (q : Int)).2))]) aq rfl rfl bx647 rfl (Nat.le_of_ble_eq_true rfl) (AllOne.all (.cons rfl .nil)) rfl ?_))
        intro w649 ch650 bx651
        clear bx647
        have hs652 := hs648.seq (ch650.l rfl)
        refine ⟨hs652.same, ?_⟩
        refine ht 24 rfl hs652.same (fun w' hw' => a8 Try.underlying45 rfl rfl zs15 rfl) (aB 25 rfl (by kernel_rfl) rfl ?_)
        replace bx259 := (bx259.ce ch646).ce ch650
        refine ag (cs' := [vi (max t15_0 ((gI (az p) (q : Int)).1)), vi t15_1]) aq rfl rfl bx259 rfl (Nat.le_of_ble_eq_true rfl) (AllOne.all (.cons rfl .nil)) rfl ?_
        intro w653 ch654 bx655
        clear bx259
        have hs656 := hs652.seq (ch654.l rfl)
        refine ⟨hs656.same, ?_⟩
        refine ht 26 rfl hs656.same (fun w' hw' => a8 Try.underlying45 rfl rfl zs15 rfl) (aB 27 rfl (by kernel_rfl) rfl (ag (cs' := [vi (max t15_0 ((gI (az p) (q : Int)).1)), vi (max t15_1 ((gI (az p) (q : Int)).2))]) aq rfl rfl bx655 rfl (Nat.le_of_ble_eq_true rfl) (AllOne.all (.cons rfl .nil)) rfl ?_))
        intro w657 ch658 bx659
        clear bx655
        have hs660 := hs656.seq (ch658.l rfl)
        refine ⟨hs660.same, ?_⟩
        refine bm (by kernel_rfl) ?_
        have C661 := cg [17, 18, 19] (ch292.n.seq ((ch297.l rfl).seq (ch299.n.seq ((ch646.l rfl).seq ((ch650.l rfl).seq ((ch654.l rfl).seq (ch658.l rfl)))))))
        replace Rg := Rg.ca C627
        replace Rp := Rp.ca C627
        replace r_p_v1 := r_p_v1.ca C627
        replace bx15 := bx15.ca C627
        replace bx230 := bx230.ca C627
        replace o235 := o235.ca C627
        exact mid (g294) _ _ ⟨bH.ca C661, zs4, zs7, zs14, zs15, zs98, zs99, zs100, (Rg.ca hs660), (Rp.ca hs660), (r_p_v1.ca hs660), (bx15.ca hs660), (bx230.ca hs660), (o235.ca hs660), (bx651.ce ch654).ce ch658, bx659⟩
      ·
       replace bx255 := bx255.ca C627
       refine aG (v := vi t14_1) (af aq rfl bx255 rfl) ?_
       refine ⟨(aO.refl _ _ _), ?_⟩
       refine ht (v := vi (min t14_1 ((gI (az p) (q : Int)).2))) 9 rfl (aO.refl _ _ _) (fun w' hw' => c9 rfl rfl) ?_
       refine bx 1 [16] (by kernel_rfl) ⟨bl 1 rfl (by kernel_rfl) rfl ?_, bl 16 rfl (by kernel_rfl) rfl ?_, trivial⟩
       ·
        refine aG (v := vi t14_0) (af aq rfl bx255 rfl) ?_
        refine ⟨(aO.refl _ _ _), ?_⟩
        refine ht (v := vi (min t14_0 ((gI (az p) (q : Int)).1))) 4 rfl (aO.refl _ _ _) (fun w' hw' => c9 rfl rfl) (aB 16 rfl (by kernel_rfl) rfl (aG (v := vi t15_1) (af aq rfl bx259 rfl) ?_))
        refine ⟨(aO.refl _ _ _), ?_⟩
        refine ht (v := vi (max t15_1 ((gI (az p) (q : Int)).2))) 19 rfl (aO.refl _ _ _) (fun w' hw' => bS rfl rfl) (ht 20 rfl (aO.refl _ _ _) (fun w' hw' => a8 Try.underlying45 rfl rfl zs14 rfl) (aB 21 rfl (by kernel_rfl) rfl (ag (cs' := [vi (min t14_0 ((gI (az p) (q : Int)).1)), vi t14_1]) aq rfl rfl bx255 rfl (Nat.le_of_ble_eq_true rfl) (AllOne.all (.cons rfl .nil)) rfl ?_)))
        intro w662 ch663 bx664
        clear bx255
        have hs665 : aO (bR [17, 18]) _ _ _ _ := ch663.l rfl
        refine ⟨hs665.same, ?_⟩
        refine ht 22 rfl hs665.same (fun w' hw' => a8 Try.underlying45 rfl rfl zs14 rfl) (aB 23 rfl (by kernel_rfl) rfl (ag (cs' := [vi (min t14_0 ((gI (az p) (q : Int)).1)), vi (min t14_1 ((gI (az p) (q : Int)).2))]) aq rfl rfl bx664 rfl (Nat.le_of_ble_eq_true rfl) (AllOne.all (.cons rfl .nil)) rfl ?_))
        intro w666 ch667 bx668
        clear bx664
        have hs669 := hs665.seq (ch667.l rfl)
        refine ⟨hs669.same, ?_⟩
        refine ht 24 rfl hs669.same (fun w' hw' => a8 Try.underlying45 rfl rfl zs15 rfl) (aB 25 rfl (by kernel_rfl) rfl ?_)
        replace bx259 := (bx259.ce ch663).ce ch667
        refine ag (cs' := [vi (max t15_0 ((gI (az p) (q : Int)).1)), vi t15_1]) aq rfl rfl bx259 rfl (Nat.le_of_ble_eq_true rfl) (AllOne.all (.cons rfl .nil)) rfl ?_
        intro w670 ch671 bx672
        clear bx259
        have hs673 := hs669.seq (ch671.l rfl)
        refine ⟨hs673.same, ?_⟩
        refine ht 26 rfl hs673.same (fun w' hw' => a8 Try.underlying45 rfl rfl zs15 rfl) (aB 27 rfl (by kernel_rfl) rfl (ag (cs' := [vi (max t15_0 ((gI (az p) (q : Int)).1)), vi (max t15_1 ((gI (az p) (q : Int)).2))]) aq rfl rfl bx672 rfl (Nat.le_of_ble_eq_true rfl) (AllOne.all (.cons rfl .nil)) rfl ?_))
        intro w674 ch675 bx676
        clear bx672
        have hs677 := hs673.seq (ch675.l rfl)
        refine ⟨hs677.same, ?_⟩
        refine bm (by kernel_rfl) ?_
        have C678 := cg [17, 18, 19] (ch292.n.seq ((ch297.l rfl).seq (ch299.n.seq ((ch663.l rfl).seq ((ch667.l rfl).seq ((ch671.l rfl).seq (ch675.l rfl)))))))
        replace Rg := Rg.ca C627
        replace Rp := Rp.ca C627
        replace r_p_v1 := r_p_v1.ca C627
        replace bx15 := bx15.ca C627
        replace bx230 := bx230.ca C627
        replace o235 := o235.ca C627
        exact mid (g294) _ _ ⟨bH.ca C678, zs4, zs7, zs14, zs15, zs98, zs99, zs100, (Rg.ca hs677), (Rp.ca hs677), (r_p_v1.ca hs677), (bx15.ca hs677), (bx230.ca hs677), (o235.ca hs677), (bx668.ce ch671).ce ch675, bx676⟩
       ·
        refine aG (v := vi t15_1) (af aq rfl bx259 rfl) ?_
        refine ⟨(aO.refl _ _ _), ?_⟩
        refine ht (v := vi (max t15_1 ((gI (az p) (q : Int)).2))) 19 rfl (aO.refl _ _ _) (fun w' hw' => bS rfl rfl) (aB 1 rfl (by kernel_rfl) rfl (aG (v := vi t14_0) (af aq rfl bx255 rfl) ?_))
        refine ⟨(aO.refl _ _ _), ?_⟩
        refine ht (v := vi (min t14_0 ((gI (az p) (q : Int)).1))) 4 rfl (aO.refl _ _ _) (fun w' hw' => c9 rfl rfl) (ht 20 rfl (aO.refl _ _ _) (fun w' hw' => a8 Try.underlying45 rfl rfl zs14 rfl) (aB 21 rfl (by kernel_rfl) rfl (ag (cs' := [vi (min t14_0 ((gI (az p) (q : Int)).1)), vi t14_1]) aq rfl rfl bx255 rfl (Nat.le_of_ble_eq_true rfl) (AllOne.all (.cons rfl .nil)) rfl ?_)))
        intro w679 ch680 bx681
        clear bx255
        have hs682 : aO (bR [17, 18]) _ _ _ _ := ch680.l rfl
        refine ⟨hs682.same, ?_⟩
        refine ht 22 rfl hs682.same (fun w' hw' => a8 Try.underlying45 rfl rfl zs14 rfl) (aB 23 rfl (by kernel_rfl) rfl (ag (cs' := [vi (min t14_0 ((gI (az p) (q : Int)).1)), vi (min t14_1 ((gI (az p) (q : Int)).2))]) aq rfl rfl bx681 rfl (Nat.le_of_ble_eq_true rfl) (AllOne.all (.cons rfl .nil)) rfl ?_))
        intro w683 ch684 bx685
        clear bx681
        have hs686 := hs682.seq (ch684.l rfl)
        refine ⟨hs686.same, ?_⟩
        refine ht 24 rfl hs686.same (fun w' hw' => a8 Try.underlying45 rfl rfl zs15 rfl) (aB 25 rfl (by kernel_rfl) rfl ?_)
        replace bx259 := (bx259.ce ch680).ce ch684
        refine ag (cs' := [vi (max t15_0 ((gI (az p) (q : Int)).1)), vi t15_1]) aq rfl rfl bx259 rfl (Nat.le_of_ble_eq_true rfl) (AllOne.all (.cons rfl .nil)) rfl ?_
        intro w687 ch688 bx689
        clear bx259
        have hs690 := hs686.seq (ch688.l rfl)
        refine ⟨hs690.same, ?_⟩
        refine ht 26 rfl hs690.same (fun w' hw' => a8 Try.underlying45 rfl rfl zs15 rfl) (aB 27 rfl (by kernel_rfl) rfl (ag (cs' := [vi (max t15_0 ((gI (az p) (q : Int)).1)), vi (max t15_1 ((gI (az p) (q : Int)).2))]) aq rfl rfl bx689 rfl (Nat.le_of_ble_eq_true rfl) (AllOne.all (.cons rfl .nil)) rfl ?_))
        intro w691 ch692 bx693
        clear bx689
        have hs694 := hs690.seq (ch692.l rfl)
        refine ⟨hs694.same, ?_⟩
        refine bm (by kernel_rfl) ?_
        have C695 := cg [17, 18, 19] (ch292.n.seq ((ch297.l rfl).seq (ch299.n.seq ((ch680.l rfl).seq ((ch684.l rfl).seq ((ch688.l rfl).seq (ch692.l rfl)))))))
        replace Rg := Rg.ca C627
        replace Rp := Rp.ca C627
        replace r_p_v1 := r_p_v1.ca C627
        replace bx15 := bx15.ca C627
        replace bx230 := bx230.ca C627
        replace o235 := o235.ca C627
        exact mid (g294) _ _ ⟨bH.ca C695, zs4, zs7, zs14, zs15, zs98, zs99, zs100, (Rg.ca hs694), (Rp.ca hs694), (r_p_v1.ca hs694), (bx15.ca hs694), (bx230.ca hs694), (o235.ca hs694), (bx685.ce ch688).ce ch692, bx693⟩
      ·
       refine aG (v := vi t15_1) (af aq rfl bx259 rfl) ?_
       refine ⟨(aO.refl _ _ _), ?_⟩
       refine ht (v := vi (max t15_1 ((gI (az p) (q : Int)).2))) 19 rfl (aO.refl _ _ _) (fun w' hw' => bS rfl rfl) ?_
       refine bx 1 [6] (by kernel_rfl) ⟨bl 1 rfl (by kernel_rfl) rfl ?_, bl 6 rfl (by kernel_rfl) rfl ?_, trivial⟩
       ·
        replace bx255 := bx255.ca C627
        refine aG (v := vi t14_0) (af aq rfl bx255 rfl) ?_
        refine ⟨(aO.refl _ _ _), ?_⟩
        refine ht (v := vi (min t14_0 ((gI (az p) (q : Int)).1))) 4 rfl (aO.refl _ _ _) (fun w' hw' => c9 rfl rfl) (aB 6 rfl (by kernel_rfl) rfl (aG (v := vi t14_1) (af aq rfl bx255 rfl) ?_))
        refine ⟨(aO.refl _ _ _), ?_⟩
        refine ht (v := vi (min t14_1 ((gI (az p) (q : Int)).2))) 9 rfl (aO.refl _ _ _) (fun w' hw' => c9 rfl rfl) (ht 20 rfl (aO.refl _ _ _) (fun w' hw' => a8 Try.underlying45 rfl rfl zs14 rfl) (aB 21 rfl (by kernel_rfl) rfl (ag (cs' := [vi (min t14_0 ((gI (az p) (q : Int)).1)), vi t14_1]) aq rfl rfl bx255 rfl (Nat.le_of_ble_eq_true rfl) (AllOne.all (.cons rfl .nil)) rfl ?_)))
        intro w696 ch697 bx698
        clear bx255
        have hs699 : aO (bR [17, 18]) _ _ _ _ := ch697.l rfl
        refine ⟨hs699.same, ?_⟩
        refine ht 22 rfl hs699.same (fun w' hw' => a8 Try.underlying45 rfl rfl zs14 rfl) (aB 23 rfl (by kernel_rfl) rfl (ag (cs' := [vi (min t14_0 ((gI (az p) (q : Int)).1)), vi (min t14_1 ((gI (az p) (q : Int)).2))]) aq rfl rfl bx698 rfl (Nat.le_of_ble_eq_true rfl) (AllOne.all (.cons rfl .nil)) rfl ?_))
        intro w700 ch701 bx702
        clear bx698
        have hs703 := hs699.seq (ch701.l rfl)
        refine ⟨hs703.same, ?_⟩
        refine ht 24 rfl hs703.same (fun w' hw' => a8 Try.underlying45 rfl rfl zs15 rfl) (aB 25 rfl (by kernel_rfl) rfl ?_)
        replace bx259 := (bx259.ce ch697).ce ch701
        refine ag (cs' := [vi (max t15_0 ((gI (az p) (q : Int)).1)), vi t15_1]) aq rfl rfl bx259 rfl (Nat.le_of_ble_eq_true rfl) (AllOne.all (.cons rfl .nil)) rfl ?_
        intro w704 ch705 bx706
        clear bx259
        have hs707 := hs703.seq (ch705.l rfl)
        refine ⟨hs707.same, ?_⟩
        refine ht 26 rfl hs707.same (fun w' hw' => a8 Try.underlying45 rfl rfl zs15 rfl) (aB 27 rfl (by kernel_rfl) rfl (ag (cs' := [vi (max t15_0 ((gI (az p) (q : Int)).1)), vi (max t15_1 ((gI (az p) (q : Int)).2))]) aq rfl rfl bx706 rfl (Nat.le_of_ble_eq_true rfl) (AllOne.all (.cons rfl .nil)) rfl ?_))
        intro w708 ch709 bx710
        clear bx706
        have hs711 := hs707.seq (ch709.l rfl)
        refine ⟨hs711.same, ?_⟩
        refine bm (by kernel_rfl) ?_
        have C712 := cg [17, 18, 19] (ch292.n.seq ((ch297.l rfl).seq (ch299.n.seq ((ch697.l rfl).seq ((ch701.l rfl).seq ((ch705.l rfl).seq (ch709.l rfl)))))))
        replace Rg := Rg.ca C627
        replace Rp := Rp.ca C627
        replace r_p_v1 := r_p_v1.ca C627
        replace bx15 := bx15.ca C627
        replace bx230 := bx230.ca C627
        replace o235 := o235.ca C627
        exact mid (g294) _ _ ⟨bH.ca C712, zs4, zs7, zs14, zs15, zs98, zs99, zs100, (Rg.ca hs711), (Rp.ca hs711), (r_p_v1.ca hs711), (bx15.ca hs711), (bx230.ca hs711), (o235.ca hs711), (bx702.ce ch705).ce ch709, bx710⟩
       ·
        replace bx255 := bx255.ca C627
        refine aG (v := vi t14_1) (af aq rfl bx255 rfl) ?_
        refine ⟨(aO.refl _ _ _), ?_⟩
        refine ht (v := vi (min t14_1 ((gI (az p) (q : Int)).2))) 9 rfl (aO.refl _ _ _) (fun w' hw' => c9 rfl rfl) (aB 1 rfl (by kernel_rfl) rfl (aG (v := vi t14_0) (af aq rfl bx255 rfl) ?_))
        refine ⟨(aO.refl _ _ _), ?_⟩
        refine ht (v := vi (min t14_0 ((gI (az p) (q : Int)).1))) 4 rfl (aO.refl _ _ _) (fun w' hw' => c9 rfl rfl) (ht 20 rfl (aO.refl _ _ _) (fun w' hw' => a8 Try.underlying45 rfl rfl zs14 rfl) (aB 21 rfl (by kernel_rfl) rfl (ag (cs' := [vi (min t14_0 ((gI (az p) (q : Int)).1)), vi t14_1]) aq rfl rfl bx255 rfl (Nat.le_of_ble_eq_true rfl) (AllOne.all (.cons rfl .nil)) rfl ?_)))
        intro w713 ch714 bx715
        clear bx255
        have hs716 : aO (bR [17, 18]) _ _ _ _ := ch714.l rfl
        refine ⟨hs716.same, ?_⟩
        refine ht 22 rfl hs716.same (fun w' hw' => a8 Try.underlying45 rfl rfl zs14 rfl) (aB 23 rfl (by kernel_rfl) rfl (ag (cs' := [vi (min t14_0 ((gI (az p) (q : Int)).1)), vi (min t14_1 ((gI (az p) (q : Int)).2))]) aq rfl rfl bx715 rfl (Nat.le_of_ble_eq_true rfl) (AllOne.all (.cons rfl .nil)) rfl ?_))
        intro w717 ch718 bx719
        clear bx715
        have hs720 := hs716.seq (ch718.l rfl)
        refine ⟨hs720.same, ?_⟩
        refine ht 24 rfl hs720.same (fun w' hw' => a8 Try.underlying45 rfl rfl zs15 rfl) (aB 25 rfl (by kernel_rfl) rfl ?_)
        replace bx259 := (bx259.ce ch714).ce ch718
        refine ag (cs' := [vi (max t15_0 ((gI (az p) (q : Int)).1)), vi t15_1]) aq rfl rfl bx259 rfl (Nat.le_of_ble_eq_true rfl) (AllOne.all (.cons rfl .nil)) rfl ?_
        intro w721 ch722 bx723
        clear bx259
        have hs724 := hs720.seq (ch722.l rfl)
        refine ⟨hs724.same, ?_⟩
        refine ht 26 rfl hs724.same (fun w' hw' => a8 Try.underlying45 rfl rfl zs15 rfl) (aB 27 rfl (by kernel_rfl) rfl (ag (cs' := [vi (max t15_0 ((gI (az p) (q : Int)).1)), vi (max t15_1 ((gI (az p) (q : Int)).2))]) aq rfl rfl bx723 rfl (Nat.le_of_ble_eq_true rfl) (AllOne.all (.cons rfl .nil)) rfl ?_))
        intro w725 ch726 bx727
        clear bx723
        have hs728 := hs724.seq (ch726.l rfl)
        refine ⟨hs728.same, ?_⟩
        refine bm (by kernel_rfl) ?_
        have C729 := cg [17, 18, 19] (ch292.n.seq ((ch297.l rfl).seq (ch299.n.seq ((ch714.l rfl).seq ((ch718.l rfl).seq ((ch722.l rfl).seq (ch726.l rfl)))))))
        replace Rg := Rg.ca C627
        replace Rp := Rp.ca C627
        replace r_p_v1 := r_p_v1.ca C627
        replace bx15 := bx15.ca C627
        replace bx230 := bx230.ca C627
        replace o235 := o235.ca C627
        exact mid (g294) _ _ ⟨bH.ca C729, zs4, zs7, zs14, zs15, zs98, zs99, zs100, (Rg.ca hs728), (Rp.ca hs728), (r_p_v1.ca hs728), (bx15.ca hs728), (bx230.ca hs728), (o235.ca hs728), (bx719.ce ch722).ce ch726, bx727⟩
     ·
      have C730 := cg [19] (ch292.n.seq ((ch297.l rfl).seq ch299.n))
      replace bx259 := bx259.ca C730
      refine aG (v := vi t15_1) (af aq rfl bx259 rfl) ?_
      refine ⟨(aO.refl _ _ _), ?_⟩
      refine ht (v := vi (max t15_1 ((gI (az p) (q : Int)).2))) 19 rfl (aO.refl _ _ _) (fun w' hw' => bS rfl rfl) ?_
      refine bx 1 [6, 11] (by kernel_rfl) ⟨bl 1 rfl (by kernel_rfl) rfl ?_, bl 6 rfl (by kernel_rfl) rfl ?_, bl 11 rfl (by kernel_rfl) rfl ?_, trivial⟩
      ·
       replace bx255 := bx255.ca C730
       refine aG (v := vi t14_0) (af aq rfl bx255 rfl) ?_
       refine ⟨(aO.refl _ _ _), ?_⟩
       refine ht (v := vi (min t14_0 ((gI (az p) (q : Int)).1))) 4 rfl (aO.refl _ _ _) (fun w' hw' => c9 rfl rfl) ?_
       refine bx 6 [11] (by kernel_rfl) ⟨bl 6 rfl (by kernel_rfl) rfl ?_, bl 11 rfl (by kernel_rfl) rfl ?_, trivial⟩
       ·
        refine aG (v := vi t14_1) (af aq rfl bx255 rfl) ?_
        refine ⟨(aO.refl _ _ _), ?_⟩
        refine ht (v := vi (min t14_1 ((gI (az p) (q : Int)).2))) 9 rfl (aO.refl _ _ _) (fun w' hw' => c9 rfl rfl) (ht 20 rfl (aO.refl _ _ _) (fun w' hw' => a8 Try.underlying45 rfl rfl zs14 rfl) ?_)
        refine bx 11 [21] (by kernel_rfl) ⟨bl 11 rfl (by kernel_rfl) rfl ?_, bl 21 rfl (by kernel_rfl) rfl ?_, trivial⟩
        ·
         refine aG (v := vi t15_0) (af aq rfl bx259 rfl) ?_
         refine ⟨(aO.refl _ _ _), ?_⟩
         refine ht (v := vi (max t15_0 ((gI (az p) (q : Int)).1))) 14 rfl (aO.refl _ _ _) (fun w' hw' => bS rfl rfl) (aB 21 rfl (by kernel_rfl) rfl (ag (cs' := [vi (min t14_0 ((gI (az p) (q : Int)).1)), vi t14_1]) aq rfl rfl bx255 rfl (Nat.le_of_ble_eq_true rfl) (AllOne.all (.cons rfl .nil)) rfl ?_))
         intro w731 ch732 bx733
         clear bx255
         have hs734 : aO (bR [17, 18]) _ _ _ _ := ch732.l rfl
         refine ⟨hs734.same, ?_⟩
         refine ht 22 rfl hs734.same (fun w' hw' => a8 Try.underlying45 rfl rfl zs14 rfl) (aB 23 rfl (by kernel_rfl) rfl (ag (cs' := [vi (min t14_0 ((gI (az p) (q : Int)).1)), vi (min t14_1 ((gI (az p) (q : Int)).2))]) aq rfl rfl bx733 rfl (Nat.le_of_ble_eq_true rfl) (AllOne.all (.cons rfl .nil)) rfl ?_))
         intro w735 ch736 bx737
         clear bx733
         have hs738 := hs734.seq (ch736.l rfl)
         refine ⟨hs738.same, ?_⟩
         refine ht 24 rfl hs738.same (fun w' hw' => a8 Try.underlying45 rfl rfl zs15 rfl) (aB 25 rfl (by kernel_rfl) rfl ?_)
         replace bx259 := (bx259.ce ch732).ce ch736
         refine ag (cs' := [vi (max t15_0 ((gI (az p) (q : Int)).1)), vi t15_1]) aq rfl rfl bx259 rfl (Nat.le_of_ble_eq_true rfl) (AllOne.all (.cons rfl .nil)) rfl ?_
         intro w739 ch740 bx741
         clear bx259
         have hs742 := hs738.seq (ch740.l rfl)
         refine ⟨hs742.same, ?_⟩
         refine ht 26 rfl hs742.same (fun w' hw' => a8 Try.underlying45 rfl rfl zs15 rfl) (aB 27 rfl (by kernel_rfl) rfl (ag (cs' := [vi (max t15_0 ((gI (az p) (q : Int)).1)), vi (max t15_1 ((gI (az p) (q : Int)).2))]) aq rfl rfl bx741 rfl (Nat.le_of_ble_eq_true rfl) (AllOne.all (.cons rfl .nil)) rfl ?_))
         intro w743 ch744 bx745
         clear bx741
         have hs746 := hs742.seq (ch744.l rfl)
         refine ⟨hs746.same, ?_⟩
         refine bm (by kernel_rfl) ?_
         have C747 := cg [17, 18, 19] (ch292.n.seq ((ch297.l rfl).seq (ch299.n.seq ((ch732.l rfl).seq ((ch736.l rfl).seq ((ch740.l rfl).seq (ch744.l rfl)))))))
         replace Rg := Rg.ca C730
         replace Rp := Rp.ca C730
         replace r_p_v1 := r_p_v1.ca C730
         replace bx15 := bx15.ca C730
         replace bx230 := bx230.ca C730
         replace o235 := o235.ca C730
         exact mid (g294) _ _ ⟨bH.ca C747, zs4, zs7, zs14, zs15, zs98, zs99, zs100, (Rg.ca hs746), (Rp.ca hs746), (r_p_v1.ca hs746), (bx15.ca hs746), (bx230.ca hs746), (o235.ca hs746), (bx737.ce ch740).ce ch744, bx745⟩
        ·
         refine ag (cs' := [vi (min t14_0 ((gI (az p) (q : Int)).1)), vi t14_1]) aq rfl rfl bx255 rfl (Nat.le_of_ble_eq_true rfl) (AllOne.all (.cons rfl .nil)) rfl ?_
         intro w748 ch749 bx750
         clear bx255
         have hs751 : aO (bR [17, 18]) _ _ _ _ := ch749.l rfl
         refine ⟨hs751.same, ?_⟩
         refine ht 22 rfl hs751.same (fun w' hw' => a8 Try.underlying45 rfl rfl zs14 rfl) ?_
         refine bx 11 [23] (by kernel_rfl) ⟨bl 11 rfl (by kernel_rfl) rfl ?_, bl 23 rfl (by kernel_rfl) rfl ?_, trivial⟩
         ·
          replace bx259 := bx259.ce ch749
          refine aG (v := vi t15_0) (af aq rfl bx259 rfl) ?_
          refine ⟨hs751.same, ?_⟩
          refine ht (v := vi (max t15_0 ((gI (az p) (q : Int)).1))) 14 rfl hs751.same (fun w' hw' => bS rfl rfl) (aB 23 rfl (by kernel_rfl) rfl (ag (cs' := [vi (min t14_0 ((gI (az p) (q : Int)).1)), vi (min t14_1 ((gI (az p) (q : Int)).2))]) aq rfl rfl bx750 rfl (Nat.le_of_ble_eq_true rfl) (AllOne.all (.cons rfl .nil)) rfl ?_))
          intro w752 ch753 bx754
          clear bx750
          have hs755 := hs751.seq (ch753.l rfl)
          refine ⟨hs755.same, ?_⟩
          refine ht 24 rfl hs755.same (fun w' hw' => a8 Try.underlying45 rfl rfl zs15 rfl) (aB 25 rfl (by kernel_rfl) rfl ?_)
          replace bx259 := bx259.ce ch753
          refine ag (cs' := [vi (max t15_0 ((gI (az p) (q : Int)).1)), vi t15_1]) aq rfl rfl bx259 rfl (Nat.le_of_ble_eq_true rfl) (AllOne.all (.cons rfl .nil)) rfl ?_
          intro w756 ch757 bx758
          clear bx259
          have hs759 := hs755.seq (ch757.l rfl)
          refine ⟨hs759.same, ?_⟩
          refine ht 26 rfl hs759.same (fun w' hw' => a8 Try.underlying45 rfl rfl zs15 rfl) (aB 27 rfl (by kernel_rfl) rfl (ag (cs' := [vi (max t15_0 ((gI (az p) (q : Int)).1)), vi (max t15_1 ((gI (az p) (q : Int)).2))]) aq rfl rfl bx758 rfl (Nat.le_of_ble_eq_true rfl) (AllOne.all (.cons rfl .nil)) rfl ?_))
          intro w760 ch761 bx762
          clear bx758
          have hs763 := hs759.seq (ch761.l rfl)
          refine ⟨hs763.same, ?_⟩
          refine bm (by kernel_rfl) ?_
          have C764 := cg [17, 18, 19] (ch292.n.seq ((ch297.l rfl).seq (ch299.n.seq ((ch749.l rfl).seq ((ch753.l rfl).seq ((ch757.l rfl).seq (ch761.l rfl)))))))
          replace Rg := Rg.ca C730
          replace Rp := Rp.ca C730
          replace r_p_v1 := r_p_v1.ca C730
          replace bx15 := bx15.ca C730
          replace bx230 := bx230.ca C730
          replace o235 := o235.ca C730
          exact mid (g294) _ _ ⟨bH.ca C764, zs4, zs7, zs14, zs15, zs98, zs99, zs100, (Rg.ca hs763), (Rp.ca hs763), (r_p_v1.ca hs763), (bx15.ca hs763), (bx230.ca hs763), (o235.ca hs763), (bx754.ce ch757).ce ch761, bx762⟩
         ·
          refine ag (cs' := [vi (min t14_0 ((gI (az p) (q : Int)).1)), vi (min t14_1 ((gI (az p) (q : Int)).2))]) aq rfl rfl bx750 rfl (Nat.le_of_ble_eq_true rfl) (AllOne.all (.cons rfl .nil)) rfl ?_
          intro w765 ch766 bx767
          clear bx750
          have hs768 := hs751.seq (ch766.l rfl)
          refine ⟨hs768.same, ?_⟩
          refine aB 11 rfl (by kernel_rfl) rfl ?_
          replace bx259 := (bx259.ce ch749).ce ch766
          refine aG (v := vi t15_0) (af aq rfl bx259 rfl) ?_
          refine ⟨hs768.same, ?_⟩
          refine ht (v := vi (max t15_0 ((gI (az p) (q : Int)).1))) 14 rfl hs768.same (fun w' hw' => bS rfl rfl) (ht 24 rfl hs768.same (fun w' hw' => a8 Try.underlying45 rfl rfl zs15 rfl) (aB 25 rfl (by kernel_rfl) rfl (ag (cs' := [vi (max t15_0 ((gI (az p) (q : Int)).1)), vi t15_1]) aq rfl rfl bx259 rfl (Nat.le_of_ble_eq_true rfl) (AllOne.all (.cons rfl .nil)) rfl ?_)))
          intro w769 ch770 bx771
          clear bx259
          have hs772 := hs768.seq (ch770.l rfl)
          refine ⟨hs772.same, ?_⟩
          refine ht 26 rfl hs772.same (fun w' hw' => a8 Try.underlying45 rfl rfl zs15 rfl) (aB 27 rfl (by kernel_rfl) rfl (ag (cs' := [vi (max t15_0 ((gI (az p) (q : Int)).1)), vi (max t15_1 ((gI (az p) (q : Int)).2))]) aq rfl rfl bx771 rfl (Nat.le_of_ble_eq_true rfl) (AllOne.all (.cons rfl .nil)) rfl ?_))
          intro w773 ch774 bx775
          clear bx771
          have hs776 := hs772.seq (ch774.l rfl)
          refine ⟨hs776.same, ?_⟩
          refine bm (by kernel_rfl) ?_
          have C777 := cg [17, 18, 19] (ch292.n.seq ((ch297.l rfl).seq (ch299.n.seq ((ch749.l rfl).seq ((ch766.l rfl).seq ((ch770.l rfl).seq (ch774.l rfl)))))))
          replace Rg := Rg.ca C730
          replace Rp := Rp.ca C730
          replace r_p_v1 := r_p_v1.ca C730
          replace bx15 := bx15.ca C730
          replace bx230 := bx230.ca C730
          replace o235 := o235.ca C730
          exact mid (g294) _ _ ⟨bH.ca C777, zs4, zs7, zs14, zs15, zs98, zs99, zs100, (Rg.ca hs776), (Rp.ca hs776), (r_p_v1.ca hs776), (bx15.ca hs776), (bx230.ca hs776), (o235.ca hs776), (bx767.ce ch770).ce ch774, bx775⟩
       ·
        refine aG (v := vi t15_0) (af aq rfl bx259 rfl) ?_
        refine ⟨(aO.refl _ _ _), ?_⟩
        refine ht (v := vi (max t15_0 ((gI (az p) (q : Int)).1))) 14 rfl (aO.refl _ _ _) (fun w' hw' => bS rfl rfl) (aB 6 rfl (by kernel_rfl) rfl (aG (v := vi t14_1) (af aq rfl bx255 rfl) ?_))
        refine ⟨(aO.refl _ _ _), ?_⟩
        refine ht (v := vi (min t14_1 ((gI (az p) (q : Int)).2))) 9 rfl (aO.refl _ _ _) (fun w' hw' => c9 rfl rfl) (ht 20 rfl (aO.refl _ _ _) (fun w' hw' => a8 Try.underlying45 rfl rfl zs14 rfl) (aB 21 rfl (by kernel_rfl) rfl (ag (cs' := [vi (min t14_0 ((gI (az p) (q : Int)).1)), vi t14_1]) aq rfl rfl bx255 rfl (Nat.le_of_ble_eq_true rfl) (AllOne.all (.cons rfl .nil)) rfl ?_)))
        intro w778 ch779 bx780
        clear bx255
        have hs781 : aO (bR [17, 18]) _ _ _ _ := ch779.l rfl
        refine ⟨hs781.same, ?_⟩
        refine ht 22 rfl hs781.same (fun w' hw' => a8 Try.underlying45 rfl rfl zs14 rfl) (aB 23 rfl (by kernel_rfl) rfl (ag (cs' := [vi (min t14_0 ((gI (az p) (q : Int)).1)), vi (min t14_1 ((gI (az p) (q : Int)).2))]) aq rfl rfl bx780 rfl (Nat.le_of_ble_eq_true rfl) (AllOne.all (.cons rfl .nil)) rfl ?_))
        intro w782 ch783 bx784
        clear bx780
        have hs785 := hs781.seq (ch783.l rfl)
        refine ⟨hs785.same, ?_⟩
        refine ht 24 rfl hs785.same (fun w' hw' => a8 Try.underlying45 rfl rfl zs15 rfl) (aB 25 rfl (by kernel_rfl) rfl ?_)
        replace bx259 := (bx259.ce ch779).ce ch783
        refine ag (cs' := [vi (max t15_0 ((gI (az p) (q : Int)).1)), vi t15_1]) aq rfl rfl bx259 rfl (Nat.le_of_ble_eq_true rfl) (AllOne.all (.cons rfl .nil)) rfl ?_
        intro w786 ch787 bx788
        clear bx259
        have hs789 := hs785.seq (ch787.l rfl)
        refine ⟨hs789.same, ?_⟩
        refine ht 26 rfl hs789.same (fun w' hw' => a8 Try.underlying45 rfl rfl zs15 rfl) (aB 27 rfl (by kernel_rfl) rfl (ag (cs' := [vi (max t15_0 ((gI (az p) (q : Int)).1)), vi (max t15_1 ((gI (az p) (q : Int)).2))]) aq rfl rfl bx788 rfl (Nat.le_of_ble_eq_true rfl) (AllOne.all (.cons rfl .nil)) rfl ?_))
        intro w790 ch791 bx792
        clear bx788
        have hs793 := hs789.seq (ch791.l rfl)
        refine ⟨hs793.same, ?_⟩
        refine bm (by kernel_rfl) ?_
        have C794 := cg [17, 18, 19] (ch292.n.seq ((ch297.l rfl).seq (ch299.n.seq ((ch779.l rfl).seq ((ch783.l rfl).seq ((ch787.l rfl).seq (ch791.l rfl)))))))
        replace Rg := Rg.ca C730
        replace Rp := Rp.ca C730
        replace r_p_v1 := r_p_v1.ca C730
        replace bx15 := bx15.ca C730
        replace bx230 := bx230.ca C730
        replace o235 := o235.ca C730
        exact mid (g294) _ _ ⟨bH.ca C794, zs4, zs7, zs14, zs15, zs98, zs99, zs100, (Rg.ca hs793), (Rp.ca hs793), (r_p_v1.ca hs793), (bx15.ca hs793), (bx230.ca hs793), (o235.ca hs793), (bx784.ce ch787).ce ch791, bx792⟩
      ·
       replace bx255 := bx255.ca C730
       refine aG (v := vi t14_1) (af aq rfl bx255 rfl) ?_
       refine ⟨(aO.refl _ _ _), ?_⟩
       refine ht (v := vi (min t14_1 ((gI (az p) (q : Int)).2))) 9 rfl (aO.refl _ _ _) (fun w' hw' => c9 rfl rfl) ?_
       refine bx 1 [11] (by kernel_rfl) ⟨bl 1 rfl (by kernel_rfl) rfl ?_, bl 11 rfl (by kernel_rfl) rfl ?_, trivial⟩
       ·
        refine aG (v := vi t14_0) (af aq rfl bx255 rfl) ?_
        refine ⟨(aO.refl _ _ _), ?_⟩
        refine ht (v := vi (min t14_0 ((gI (az p) (q : Int)).1))) 4 rfl (aO.refl _ _ _) (fun w' hw' => c9 rfl rfl) (ht 20 rfl (aO.refl _ _ _) (fun w' hw' => a8 Try.underlying45 rfl rfl zs14 rfl) ?_)
        refine bx 11 [21] (by kernel_rfl) ⟨bl 11 rfl (by kernel_rfl) rfl ?_, bl 21 rfl (by kernel_rfl) rfl ?_, trivial⟩
        ·
         refine aG (v := vi t15_0) (af aq rfl bx259 rfl) ?_
         refine ⟨(aO.refl _ _ _), ?_⟩
         refine ht (v := vi (max t15_0 ((gI (az p) (q : Int)).1))) 14 rfl (aO.refl _ _ _) (fun w' hw' => bS rfl rfl) (aB 21 rfl (by kernel_rfl) rfl (ag (cs' := [vi (min t14_0 ((gI (az p) (q : Int)).1)), vi t14_1]) aq rfl rfl bx255 rfl (Nat.le_of_ble_eq_true rfl) (AllOne.all (.cons rfl .nil)) rfl ?_))
         intro w795 ch796 bx797
         clear bx255
         have hs798 : aO (bR [17, 18]) _ _ _ _ := ch796.l rfl
         refine ⟨hs798.same, ?_⟩
         refine ht 22 rfl hs798.same (fun w' hw' => a8 Try.underlying45 rfl rfl zs14 rfl) (aB 23 rfl (by kernel_rfl) rfl (ag (cs' := [vi (min t14_0 ((gI (az p) (q : Int)).1)), vi (min t14_1 ((gI (az p) (q : Int)).2))]) aq rfl rfl bx797 rfl (Nat.le_of_ble_eq_true rfl) (AllOne.all (.cons rfl .nil)) rfl ?_))
         intro w799 ch800 bx801
         clear bx797
         have hs802 := hs798.seq (ch800.l rfl)
         refine ⟨hs802.same, ?_⟩
         refine ht 24 rfl hs802.same (fun w' hw' => a8 Try.underlying45 rfl rfl zs15 rfl) (aB 25 rfl (by kernel_rfl) rfl ?_)
         replace bx259 := (bx259.ce ch796).ce ch800
         refine ag (cs' := [vi (max t15_0 ((gI (az p) (q : Int)).1)), vi t15_1]) aq rfl rfl bx259 rfl (Nat.le_of_ble_eq_true rfl) (AllOne.all (.cons rfl .nil)) rfl ?_
         intro w803 ch804 bx805
         clear bx259
         have hs806 := hs802.seq (ch804.l rfl)
         refine ⟨hs806.same, ?_⟩
         refine ht 26 rfl hs806.same (fun w' hw' => a8 Try.underlying45 rfl rfl zs15 rfl) (aB 27 rfl (by kernel_rfl) rfl (ag (cs' := [vi (max t15_0 ((gI (az p) (q : Int)).1)), vi (max t15_1 ((gI (az p) (q : Int)).2))]) aq rfl rfl bx805 rfl (Nat.le_of_ble_eq_true rfl) (AllOne.all (.cons rfl .nil)) rfl ?_))
         intro w807 ch808 bx809
         clear bx805
         have hs810 := hs806.seq (ch808.l rfl)
         refine ⟨hs810.same, ?_⟩
         refine bm (by kernel_rfl) ?_
         have C811 := cg [17, 18, 19] (ch292.n.seq ((ch297.l rfl).seq (ch299.n.seq ((ch796.l rfl).seq ((ch800.l rfl).seq ((ch804.l rfl).seq (ch808.l rfl)))))))
         replace Rg := Rg.ca C730
         replace Rp := Rp.ca C730
         replace r_p_v1 := r_p_v1.ca C730
         replace bx15 := bx15.ca C730
         replace bx230 := bx230.ca C730
         replace o235 := o235.ca C730
         exact mid (g294) _ _ ⟨bH.ca C811, zs4, zs7, zs14, zs15, zs98, zs99, zs100, (Rg.ca hs810), (Rp.ca hs810), (r_p_v1.ca hs810), (bx15.ca hs810), (bx230.ca hs810), (o235.ca hs810), (bx801.ce ch804).ce ch808, bx809⟩
        ·
         refine ag (cs' := [vi (min t14_0 ((gI (az p) (q : Int)).1)), vi t14_1]) aq rfl rfl bx255 rfl (Nat.le_of_ble_eq_true rfl) (AllOne.all (.cons rfl .nil)) rfl ?_
         intro w812 ch813 bx814
         clear bx255
         have hs815 : aO (bR [17, 18]) _ _ _ _ := ch813.l rfl
         refine ⟨hs815.same, ?_⟩
         refine ht 22 rfl hs815.same (fun w' hw' => a8 Try.underlying45 rfl rfl zs14 rfl) ?_
         refine bx 11 [23] (by kernel_rfl) ⟨bl 11 rfl (by kernel_rfl) rfl ?_, bl 23 rfl (by kernel_rfl) rfl ?_, trivial⟩
         ·
          replace bx259 := bx259.ce ch813
          refine aG (v := vi t15_0) (af aq rfl bx259 rfl) ?_
          refine ⟨hs815.same, ?_⟩
          refine ht (v := vi (max t15_0 ((gI (az p) (q : Int)).1))) 14 rfl hs815.same (fun w' hw' => bS rfl rfl) (aB 23 rfl (by kernel_rfl) rfl (ag (cs' := [vi (min t14_0 ((gI (az p) (q : Int)).1)), vi (min t14_1 ((gI (az p) (q : Int)).2))]) aq rfl rfl bx814 rfl (Nat.le_of_ble_eq_true rfl) (AllOne.all (.cons rfl .nil)) rfl ?_))
          intro w816 ch817 bx818
          clear bx814
          have hs819 := hs815.seq (ch817.l rfl)
          refine ⟨hs819.same, ?_⟩
          refine ht 24 rfl hs819.same (fun w' hw' => a8 Try.underlying45 rfl rfl zs15 rfl) (aB 25 rfl (by kernel_rfl) rfl ?_)
          replace bx259 := bx259.ce ch817
          refine ag (cs' := [vi (max t15_0 ((gI (az p) (q : Int)).1)), vi t15_1]) aq rfl rfl bx259 rfl (Nat.le_of_ble_eq_true rfl) (AllOne.all (.cons rfl .nil)) rfl ?_
          intro w820 ch821 bx822
          clear bx259
          have hs823 := hs819.seq (ch821.l rfl)
          refine ⟨hs823.same, ?_⟩
          refine ht 26 rfl hs823.same (fun w' hw' => a8 Try.underlying45 rfl rfl zs15 rfl) (aB 27 rfl (by kernel_rfl) rfl (ag (cs' := [vi (max t15_0 ((gI (az p) (q : Int)).1)), vi (max t15_1 ((gI (az p) (q : Int)).2))]) aq rfl rfl bx822 rfl (Nat.le_of_ble_eq_true rfl) (AllOne.all (.cons rfl .nil)) rfl ?_))
          intro w824 ch825 bx826
          clear bx822
          have hs827 := hs823.seq (ch825.l rfl)
          refine ⟨hs827.same, ?_⟩
          refine bm (by kernel_rfl) ?_
          have C828 := cg [17, 18, 19] (ch292.n.seq ((ch297.l rfl).seq (ch299.n.seq ((ch813.l rfl).seq ((ch817.l rfl).seq ((ch821.l rfl).seq (ch825.l rfl)))))))
          replace Rg := Rg.ca C730
          replace Rp := Rp.ca C730
          replace r_p_v1 := r_p_v1.ca C730
          replace bx15 := bx15.ca C730
          replace bx230 := bx230.ca C730
          replace o235 := o235.ca C730
          exact mid (g294) _ _ ⟨bH.ca C828, zs4, zs7, zs14, zs15, zs98, zs99, zs100, (Rg.ca hs827), (Rp.ca hs827), (r_p_v1.ca hs827), (bx15.ca hs827), (bx230.ca hs827), (o235.ca hs827), (bx818.ce ch821).ce ch825, bx826⟩
         ·
          refine ag (cs' := [vi (min t14_0 ((gI (az p) (q : Int)).1)), vi (min t14_1 ((gI (az p) (q : Int)).2))]) aq rfl rfl bx814 rfl (Nat.le_of_ble_eq_true rfl) (AllOne.all (.cons rfl .nil)) rfl ?_
          intro w829 ch830 bx831
          clear bx814
          have hs832 := hs815.seq (ch830.l rfl)
          refine ⟨hs832.same, ?_⟩
          refine aB 11 rfl (by kernel_rfl) rfl ?_
          replace bx259 := (bx259.ce ch813).ce ch830
          refine aG (v := vi t15_0) (af aq rfl bx259 rfl) ?_
          refine ⟨hs832.same, ?_⟩
          refine ht (v := vi (max t15_0 ((gI (az p) (q : Int)).1))) 14 rfl hs832.same (fun w' hw' => bS rfl rfl) (ht 24 rfl hs832.same (fun w' hw' => a8 Try.underlying45 rfl rfl zs15 rfl) (aB 25 rfl (by kernel_rfl) rfl (ag (cs' := [vi (max t15_0 ((gI (az p) (q : Int)).1)), vi t15_1]) aq rfl rfl bx259 rfl (Nat.le_of_ble_eq_true rfl) (AllOne.all (.cons rfl .nil)) rfl ?_)))
          intro w833 ch834 bx835
          clear bx259
          have hs836 := hs832.seq (ch834.l rfl)
          refine ⟨hs836.same, ?_⟩
          refine ht 26 rfl hs836.same (fun w' hw' => a8 Try.underlying45 rfl rfl zs15 rfl) (aB 27 rfl (by kernel_rfl) rfl (ag (cs' := [vi (max t15_0 ((gI (az p) (q : Int)).1)), vi (max t15_1 ((gI (az p) (q : Int)).2))]) aq rfl rfl bx835 rfl (Nat.le_of_ble_eq_true rfl) (AllOne.all (.cons rfl .nil)) rfl ?_))
          intro w837 ch838 bx839
          clear bx835
          have hs840 := hs836.seq (ch838.l rfl)
          refine ⟨hs840.same, ?_⟩
          refine bm (by kernel_rfl) ?_
          have C841 := cg [17, 18, 19] (ch292.n.seq ((ch297.l rfl).seq (ch299.n.seq ((ch813.l rfl).seq ((ch830.l rfl).seq ((ch834.l rfl).seq (ch838.l rfl)))))))
          replace Rg := Rg.ca C730
          replace Rp := Rp.ca C730
          replace r_p_v1 := r_p_v1.ca C730
          replace bx15 := bx15.ca C730
          replace bx230 := bx230.ca C730
          replace o235 := o235.ca C730
          exact mid (g294) _ _ ⟨bH.ca C841, zs4, zs7, zs14, zs15, zs98, zs99, zs100, (Rg.ca hs840), (Rp.ca hs840), (r_p_v1.ca hs840), (bx15.ca hs840), (bx230.ca hs840), (o235.ca hs840), (bx831.ce ch834).ce ch838, bx839⟩
       ·
        refine aG (v := vi t15_0) (af aq rfl bx259 rfl) ?_
        refine ⟨(aO.refl _ _ _), ?_⟩
        refine ht (v := vi (max t15_0 ((gI (az p) (q : Int)).1))) 14 rfl (aO.refl _ _ _) (fun w' hw' => bS rfl rfl) (aB 1 rfl (by kernel_rfl) rfl (aG (v := vi t14_0) (af aq rfl bx255 rfl) ?_))
        refine ⟨(aO.refl _ _ _), ?_⟩
        refine ht (v := vi (min t14_0 ((gI (az p) (q : Int)).1))) 4 rfl (aO.refl _ _ _) (fun w' hw' => c9 rfl rfl) (ht 20 rfl (aO.refl _ _ _) (fun w' hw' => a8 Try.underlying45 rfl rfl zs14 rfl) (aB 21 rfl (by kernel_rfl) rfl (ag (cs' := [vi (min t14_0 ((gI (az p) (q : Int)).1)), vi t14_1]) aq rfl rfl bx255 rfl (Nat.le_of_ble_eq_true rfl) (AllOne.all (.cons rfl .nil)) rfl ?_)))
        intro w842 ch843 bx844
        clear bx255
        have hs845 : aO (bR [17, 18]) _ _ _ _ := ch843.l rfl
        refine ⟨hs845.same, ?_⟩
        refine ht 22 rfl hs845.same (fun w' hw' => a8 Try.underlying45 rfl rfl zs14 rfl) (aB 23 rfl (by kernel_rfl) rfl (ag (cs' := [vi (min t14_0 ((gI (az p) (q : Int)).1)), vi (min t14_1 ((gI (az p) (q : Int)).2))]) aq rfl rfl bx844 rfl (Nat.le_of_ble_eq_true rfl) (AllOne.all (.cons rfl .nil)) rfl ?_))
        intro w846 ch847 bx848
        clear bx844
        have hs849 := hs845.seq (ch847.l rfl)
        refine ⟨hs849.same, ?_⟩
        refine ht 24 rfl hs849.same (fun w' hw' => a8 Try.underlying45 rfl rfl zs15 rfl) (aB 25 rfl (by kernel_rfl) rfl ?_)
        replace bx259 := (bx259.ce ch843).ce ch847
        refine ag (cs' := [vi (max t15_0 ((gI (az p) (q : Int)).1)), vi t15_1]) aq rfl rfl bx259 rfl (Nat.le_of_ble_eq_true rfl) (AllOne.all (.cons rfl .nil)) rfl ?_
        intro w850 ch851 bx852
        clear bx259
        have hs853 := hs849.seq (ch851.l rfl)
        refine ⟨hs853.same, ?_⟩
        refine ht 26 rfl hs853.same (fun w' hw' => a8 Try.underlying45 rfl rfl zs15 rfl) (aB 27 rfl (by kernel_rfl) rfl (ag (cs' := [vi (max t15_0 ((gI (az p) (q : Int)).1)), vi (max t15_1 ((gI (az p) (q : Int)).2))]) aq rfl rfl bx852 rfl (Nat.le_of_ble_eq_true rfl) (AllOne.all (.cons rfl .nil)) rfl ?_))
        intro w854 ch855 bx856
        clear bx852
        have hs857 := hs853.seq (ch855.l rfl)
        refine ⟨hs857.same, ?_⟩
        refine bm (by kernel_rfl) ?_
        have C858 := cg [17, 18, 19] (ch292.n.seq ((ch297.l rfl).seq (ch299.n.seq ((ch843.l rfl).seq ((ch847.l rfl).seq ((ch851.l rfl).seq (ch855.l rfl)))))))
        replace Rg := Rg.ca C730
        replace Rp := Rp.ca C730
        replace r_p_v1 := r_p_v1.ca C730
        replace bx15 := bx15.ca C730
        replace bx230 := bx230.ca C730
        replace o235 := o235.ca C730
        exact mid (g294) _ _ ⟨bH.ca C858, zs4, zs7, zs14, zs15, zs98, zs99, zs100, (Rg.ca hs857), (Rp.ca hs857), (r_p_v1.ca hs857), (bx15.ca hs857), (bx230.ca hs857), (o235.ca hs857), (bx848.ce ch851).ce ch855, bx856⟩
      ·
       refine aG (v := vi t15_0) (af aq rfl bx259 rfl) ?_
       refine ⟨(aO.refl _ _ _), ?_⟩
       refine ht (v := vi (max t15_0 ((gI (az p) (q : Int)).1))) 14 rfl (aO.refl _ _ _) (fun w' hw' => bS rfl rfl) ?_
       refine bx 1 [6] (by kernel_rfl) ⟨bl 1 rfl (by kernel_rfl) rfl ?_, bl 6 rfl (by kernel_rfl) rfl ?_, trivial⟩
       ·
        replace bx255 := bx255.ca C730
        refine aG (v := vi t14_0) (af aq rfl bx255 rfl) ?_
        refine ⟨(aO.refl _ _ _), ?_⟩
        refine ht (v := vi (min t14_0 ((gI (az p) (q : Int)).1))) 4 rfl (aO.refl _ _ _) (fun w' hw' => c9 rfl rfl) (aB 6 rfl (by kernel_rfl) rfl (aG (v := vi t14_1) (af aq rfl bx255 rfl) ?_))
        refine ⟨(aO.refl _ _ _), ?_⟩
        refine ht (v := vi (min t14_1 ((gI (az p) (q : Int)).2))) 9 rfl (aO.refl _ _ _) (fun w' hw' => c9 rfl rfl) (ht 20 rfl (aO.refl _ _ _) (fun w' hw' => a8 Try.underlying45 rfl rfl zs14 rfl) (aB 21 rfl (by kernel_rfl) rfl (ag (cs' := [vi (min t14_0 ((gI (az p) (q : Int)).1)), vi t14_1]) aq rfl rfl bx255 rfl (Nat.le_of_ble_eq_true rfl) (AllOne.all (.cons rfl .nil)) rfl ?_)))
        intro w859 ch860 bx861
        clear bx255
        have hs862 : aO (bR [17, 18]) _ _ _ _ := ch860.l rfl
        refine ⟨hs862.same, ?_⟩
        refine ht 22 rfl hs862.same (fun w' hw' => a8 Try.underlying45 rfl rfl zs14 rfl) (aB 23 rfl (by kernel_rfl) rfl (ag (cs' := [vi (min t14_0 ((gI (az p) (q : Int)).1)), vi (min t14_1 ((gI (az p) (q : Int)).2))]) aq rfl rfl bx861 rfl (Nat.le_of_ble_eq_true rfl) (AllOne.all (.cons rfl .nil)) rfl ?_))
        intro w863 ch864 bx865
        clear bx861
        have hs866 := hs862.seq (ch864.l rfl)
        refine ⟨hs866.same, ?_⟩
        refine ht 24 rfl hs866.same (fun w' hw' => a8 Try.underlying45 rfl rfl zs15 rfl) (aB 25 rfl (by kernel_rfl) rfl ?_)
        replace bx259 := (bx259.ce ch860).ce ch864
        refine ag (cs' := [vi (max t15_0 ((gI (az p) (q : Int)).1)), vi t15_1]) aq rfl rfl bx259 rfl (Nat.le_of_ble_eq_true rfl) (AllOne.all (.cons rfl .nil)) rfl ?_
        intro w867 ch868 bx869
        clear bx259
        have hs870 := hs866.seq (ch868.l rfl)
        refine ⟨hs870.same, ?_⟩
        refine ht 26 rfl hs870.same (fun w' hw' => a8 Try.underlying45 rfl rfl zs15 rfl) (aB 27 rfl (by kernel_rfl) rfl (ag (cs' := [vi (max t15_0 ((gI (az p) (q : Int)).1)), vi (max t15_1 ((gI (az p) (q : Int)).2))]) aq rfl rfl bx869 rfl (Nat.le_of_ble_eq_true rfl) (AllOne.all (.cons rfl .nil)) rfl ?_))
        intro w871 ch872 bx873
        clear bx869
        have hs874 := hs870.seq (ch872.l rfl)
        refine ⟨hs874.same, ?_⟩
        refine bm (by kernel_rfl) ?_
        have C875 := cg [17, 18, 19] (ch292.n.seq ((ch297.l rfl).seq (ch299.n.seq ((ch860.l rfl).seq ((ch864.l rfl).seq ((ch868.l rfl).seq (ch872.l rfl)))))))
        replace Rg := Rg.ca C730
        replace Rp := Rp.ca C730
        replace r_p_v1 := r_p_v1.ca C730
        replace bx15 := bx15.ca C730
        replace bx230 := bx230.ca C730
        replace o235 := o235.ca C730
        exact mid (g294) _ _ ⟨bH.ca C875, zs4, zs7, zs14, zs15, zs98, zs99, zs100, (Rg.ca hs874), (Rp.ca hs874), (r_p_v1.ca hs874), (bx15.ca hs874), (bx230.ca hs874), (o235.ca hs874), (bx865.ce ch868).ce ch872, bx873⟩
       ·
        replace bx255 := bx255.ca C730
        refine aG (v := vi t14_1) (af aq rfl bx255 rfl) ?_
        refine ⟨(aO.refl _ _ _), ?_⟩
        refine ht (v := vi (min t14_1 ((gI (az p) (q : Int)).2))) 9 rfl (aO.refl _ _ _) (fun w' hw' => c9 rfl rfl) (aB 1 rfl (by kernel_rfl) rfl (aG (v := vi t14_0) (af aq rfl bx255 rfl) ?_))
        refine ⟨(aO.refl _ _ _), ?_⟩
        refine ht (v := vi (min t14_0 ((gI (az p) (q : Int)).1))) 4 rfl (aO.refl _ _ _) (fun w' hw' => c9 rfl rfl) (ht 20 rfl (aO.refl _ _ _) (fun w' hw' => a8 Try.underlying45 rfl rfl zs14 rfl) (aB 21 rfl (by kernel_rfl) rfl (ag (cs' := [vi (min t14_0 ((gI (az p) (q : Int)).1)), vi t14_1]) aq rfl rfl bx255 rfl (Nat.le_of_ble_eq_true rfl) (AllOne.all (.cons rfl .nil)) rfl ?_)))
        intro w876 ch877 bx878
        clear bx255
        have hs879 : aO (bR [17, 18]) _ _ _ _ := ch877.l rfl
        refine ⟨hs879.same, ?_⟩
        refine ht 22 rfl hs879.same (fun w' hw' => a8 Try.underlying45 rfl rfl zs14 rfl) (aB 23 rfl (by kernel_rfl) rfl (ag (cs' := [vi (min t14_0 ((gI (az p) (q : Int)).1)), vi (min t14_1 ((gI (az p) (q : Int)).2))]) aq rfl rfl bx878 rfl (Nat.le_of_ble_eq_true rfl) (AllOne.all (.cons rfl .nil)) rfl ?_))
        intro w880 ch881 bx882
        clear bx878
        have hs883 := hs879.seq (ch881.l rfl)
        refine ⟨hs883.same, ?_⟩
        refine ht 24 rfl hs883.same (fun w' hw' => a8 Try.underlying45 rfl rfl zs15 rfl) (aB 25 rfl (by kernel_rfl) rfl ?_)
        replace bx259 := (bx259.ce ch877).ce ch881
        refine ag (cs' := [vi (max t15_0 ((gI (az p) (q : Int)).1)), vi t15_1]) aq rfl rfl bx259 rfl (Nat.le_of_ble_eq_true rfl) (AllOne.all (.cons rfl .nil)) rfl ?_
        intro w884 ch885 bx886
        clear bx259
        have hs887 := hs883.seq (ch885.l rfl)
        refine ⟨hs887.same, ?_⟩
        refine ht 26 rfl hs887.same (fun w' hw' => a8 Try.underlying45 rfl rfl zs15 rfl) (aB 27 rfl (by kernel_rfl) rfl (ag (cs' := [vi (max t15_0 ((gI (az p) (q : Int)).1)), vi (max t15_1 ((gI (az p) (q : Int)).2))]) aq rfl rfl bx886 rfl (Nat.le_of_ble_eq_true rfl) (AllOne.all (.cons rfl .nil)) rfl ?_))
        intro w888 ch889 bx890
        clear bx886
        have hs891 := hs887.seq (ch889.l rfl)
        refine ⟨hs891.same, ?_⟩
        refine bm (by kernel_rfl) ?_
        have C892 := cg [17, 18, 19] (ch292.n.seq ((ch297.l rfl).seq (ch299.n.seq ((ch877.l rfl).seq ((ch881.l rfl).seq ((ch885.l rfl).seq (ch889.l rfl)))))))
        replace Rg := Rg.ca C730
        replace Rp := Rp.ca C730
        replace r_p_v1 := r_p_v1.ca C730
        replace bx15 := bx15.ca C730
        replace bx230 := bx230.ca C730
        replace o235 := o235.ca C730
        exact mid (g294) _ _ ⟨bH.ca C892, zs4, zs7, zs14, zs15, zs98, zs99, zs100, (Rg.ca hs891), (Rp.ca hs891), (r_p_v1.ca hs891), (bx15.ca hs891), (bx230.ca hs891), (o235.ca hs891), (bx882.ce ch885).ce ch889, bx890⟩
    clear Rg Rp r_p_v1 bx15 bx230 o235 bx255 bx259 bx298 bH
    rintro g895 f893 w894 ⟨bH, zs4, zs7, zs14, zs15, zs98, zs99, zs100, Rg, Rp, r_p_v1, bx15, bx230, o235, bx308, bx316⟩
    refine ao (a6 rfl (lx (aT (m := (q : Int)) (n := 1) zs100 rfl (by omega)) (mi ((q : Int) + 1) (aa ?_))))
    refine back23 (min t14_0 ((gI (az p) (q : Int)).1), min t14_1 ((gI (az p) (q : Int)).2), max t15_0 ((gI (az p) (q : Int)).1), max t15_1 ((gI (az p) (q : Int)).2), q + 1, g895) _ _ ⟨bH, zs4, zs7, zs14, zs15, zs98, zs99, rfl, Rg, Rp, r_p_v1, bx15, bx230, o235, bx308, bx316, by omega, ?_⟩ ?_
    · show ((min t14_0 ((gI (az p) (q : Int)).1)) = (kF (az p) (q + 1)).1 ∧ (min t14_1 ((gI (az p) (q : Int)).2)) = (kF (az p) (q + 1)).2) ∧ (max t15_0 ((gI (az p) (q : Int)).1)) = (kG (az p) (q + 1)).1 ∧ (max t15_1 ((gI (az p) (q : Int)).2)) = (kG (az p) (q + 1)).2
      (obtain ⟨⟨e1, e2⟩, e3, e4⟩ := hbx; rw [e1, e2, e3, e4]; exact ⟨⟨rfl, rfl⟩, rfl, rfl⟩)
    · show Int.toNat (((List.length (az p) : Int) : Int) - ((q + 1) : Int)) < Int.toNat (((List.length (az p) : Int) : Int) - (q : Int))
      omega
   refine aj rfl (df p23) (aU rfl ?_)
   clear o235
   obtain ⟨⟨hx1, hx2⟩, hx3, hx4⟩ := hbx
   obtain ⟨⟨hb1, hb2⟩, hb3, hb4⟩ := r8 (rP hs) (by omega) q (by omega)
   rw [← hx1] at hb1
   rw [← hx2] at hb2
   rw [← hx3] at hb3
   rw [← hx4] at hb4
   refine dH g290 (bR [13]) fE ?_
   intro w897 ch896
   refine ht 0 rfl (aO.refl _ _ _) (fun w' hw' => a8 Try.underlying45 rfl rfl zs15 rfl) ?_
   replace bx259 := bx259.cn ch896
   refine ht 1 rfl (aO.refl _ _ _) (fun w' hw' => af aq rfl (bx259.chg hw' (bB rfl)) rfl) (ht 2 rfl (aO.refl _ _ _) (fun w' hw' => a8 Try.underlying45 rfl rfl zs14 rfl) ?_)
   replace bx255 := bx255.cn ch896
   refine ht 3 rfl (aO.refl _ _ _) (fun w' hw' => af aq rfl (bx255.chg hw' (bB rfl)) rfl) (ht 4 rfl (aO.refl _ _ _) (fun w' hw' => cZ (m := t15_0) (n := t14_0) rfl rfl (by omega)) (ht 5 rfl (aO.refl _ _ _) (fun w' hw' => a8 Try.underlying45 rfl rfl zs15 rfl) (ht 6 rfl (aO.refl _ _ _) (fun w' hw' => af aq rfl (bx259.chg hw' (bB rfl)) rfl) (ht 7 rfl (aO.refl _ _ _) (fun w' hw' => a8 Try.underlying45 rfl rfl zs14 rfl) (ht 8 rfl (aO.refl _ _ _) (fun w' hw' => af aq rfl (bx255.chg hw' (bB rfl)) rfl) (ht 9 rfl (aO.refl _ _ _) (fun w' hw' => cZ (m := t15_1) (n := t14_1) rfl rfl (by omega)) (ht 10 rfl (aO.refl _ _ _) (fun w' hw' => a8 Try.underlying52 rfl rfl zs7 rfl) (aB 11 rfl (by kernel_rfl) rfl ?_))))))))
   replace bx230 := bx230.cn ch896
   refine ag (cs' := [vi bn, vi (t15_0 - t14_0), vi 0, Value.bool (decide (bn = 0)), Value.bool ax]) aq rfl rfl bx230 rfl (Nat.le_of_ble_eq_true rfl) (AllOne.all (.cons rfl .nil)) rfl ?_
   intro w898 ch899 bx900
   clear bx230
   have hs901 : aO (bR [13]) _ _ _ _ := ch899.l rfl
   refine ⟨hs901.same, ?_⟩
   refine ht 12 rfl hs901.same (fun w' hw' => a8 Try.underlying52 rfl rfl zs7 rfl) (aB 13 rfl (by kernel_rfl) rfl (ag (cs' := [vi bn, vi (t15_0 - t14_0), vi (t15_1 - t14_1), Value.bool (decide (bn = 0)), Value.bool ax]) aq rfl rfl bx900 rfl (Nat.le_of_ble_eq_true rfl) (AllOne.all (.cons rfl .nil)) rfl ?_))
   intro w902 ch903 bx904
   clear bx900
   have hs905 := hs901.seq (ch903.l rfl)
   refine ⟨hs905.same, ?_⟩
   refine bm (by kernel_rfl) (a7 ?_)
   clear bx255 bx259
   refine a6 rfl (lx (ad (ds := [vi bn, vi (t15_0 - t14_0), vi (t15_1 - t14_1), Value.bool (decide (bn = 0)), Value.bool ax]) cz zs7 bx904 rfl rfl) (lo ?_))
   have C909 := cg [13] (ch896.n.seq ((ch899.l rfl).seq (ch903.l rfl)))
   replace bx15 := bx15.ca C909
   refine ag (cs' := [vi bn, vi (t15_0 - t14_0), vi (t15_1 - t14_1), Value.bool (decide (bn = 0)), Value.bool ax]) cz zs4 rfl bx15 rfl (Nat.le_of_ble_eq_true rfl) (AllOne.all (.cons rfl (.cons rfl (.cons rfl (.cons rfl (.cons rfl .nil)))))) rfl ?_
   intro w906 ch907 bx908
   clear bx15
   refine ai 0 (aa (al (vs := [vg [vi bn, vi (t15_0 - t14_0), vi (t15_1 - t14_1), Value.bool (decide (bn = 0)), Value.bool ax], vi 0]) Try.func19 (.cell zs4 (d7 (ds := [vi bn, vi (t15_0 - t14_0), vi (t15_1 - t14_1), Value.bool (decide (bn = 0)), Value.bool ax]) cz bx908 rfl rfl) (.tmp rfl .nil)) ?_))
   have e0 : ((bn, t15_0 - t14_0, t15_1 - t14_1, decide (bn = 0), ax) : (Int) × (Int) × (Int) × (Bool) × (Bool)) = ((aL g p).1) := by
     (rw [ji hm hsn]; exact rC hbk.1 hbk.2 (by omega) ‹_› ⟨⟨hx1, hx2⟩, hx3, hx4⟩ (by omega))
   have e1 : (0 : Int) = ((aL g p).2) := by
     rw [ji hm hsn]
   have C910 := cg [3, 13] (ch896.n.seq ((ch899.l rfl).seq ((ch903.l rfl).seq (ch907.l rfl))))
   replace bH := bH.ca C910
   exact ⟨(bW (a := (bn, t15_0 - t14_0, t15_1 - t14_1, decide (bn = 0), ax)) (b := 0) (fun (z0 : (Int) × (Int) × (Int) × (Bool) × (Bool)) (z1 : Int) => Ending.returned (vt [vg [vi z0.1, vi z0.2.1, vi z0.2.2.1, Value.bool z0.2.2.2.1, Value.bool z0.2.2.2.2], vi z1])) e0 e1), bH.below⟩
  refine aj rfl (df p20) (am (a7 ?_))
  clear o235
  refine a6 rfl ?_
  replace bx230 := bx230.cn ch237
  refine lx (ad (ds := [vi bn, vi 0, vi 0, Value.bool (decide (bn = 0)), Value.bool ax]) cz zs7 bx230 rfl rfl) (lo ?_)
  replace bx15 := (bx15.ce ch229).cn ch237
  refine ag (cs' := [vi bn, vi 0, vi 0, Value.bool (decide (bn = 0)), Value.bool ax]) cz zs4 rfl bx15 rfl (Nat.le_of_ble_eq_true rfl) (AllOne.all (.cons rfl (.cons rfl (.cons rfl (.cons rfl (.cons rfl .nil)))))) rfl ?_
  intro w911 ch912 bx913
  clear bx15
  refine ai 0 (aa (al (vs := [vg [vi bn, vi 0, vi 0, Value.bool (decide (bn = 0)), Value.bool ax], vi 0]) Try.func19 (.cell zs4 (d7 (ds := [vi bn, vi 0, vi 0, Value.bool (decide (bn = 0)), Value.bool ax]) cz bx913 rfl rfl) (.tmp rfl .nil)) ?_))
  have e0 : ((bn, 0, 0, decide (bn = 0), ax) : (Int) × (Int) × (Int) × (Bool) × (Bool)) = ((aL g p).1) := by
    (rw [ji hm hsn]; exact rq hbk.1 hbk.2 (by omega) ‹_›)
  have e1 : (0 : Int) = ((aL g p).2) := by
    rw [ji hm hsn]
  have C914 := cg [3, 13] ((ch229.l rfl).seq (ch237.n.seq (ch912.l rfl)))
  replace bH := bH.ca C914
  exact ⟨(bW (a := (bn, 0, 0, decide (bn = 0), ax)) (b := 0) (fun (z0 : (Int) × (Int) × (Int) × (Bool) × (Bool)) (z1 : Int) => Ending.returned (vt [vg [vi z0.1, vi z0.2.1, vi z0.2.2.1, Value.bool z0.2.2.2.1, Value.bool z0.2.2.2.2], vi z1])) e0 e1), bH.below⟩
 have hn : ¬ ci g := fun h => p1 (dt h)
 refine ah rfl (congrArg Bool.not (Bool.eq_false_iff.2 p1)) (a7 ?_)
 clear bx5 bx10
 refine a6 rfl (lw (vg [vi 0, vi 0, vi 0, Value.bool false, Value.bool false]) (bz (vs := []) rfl (by kernel_rfl)) (lo ?_))
 replace bx15 := bx15.cn hb18
 refine ag (cs' := [vi 0, vi 0, vi 0, Value.bool false, Value.bool false]) cz rfl rfl bx15 rfl (Nat.le_of_ble_eq_true rfl) (AllOne.all (.cons rfl (.cons rfl (.cons rfl (.cons rfl (.cons rfl .nil)))))) rfl ?_
 intro w915 ch916 bx917
 clear bx15
 refine ai 1 (aa (al (vs := [vg [vi 0, vi 0, vi 0, Value.bool false, Value.bool false], vi 1]) Try.func19 (.cell rfl (d7 (ds := [vi 0, vi 0, vi 0, Value.bool false, Value.bool false]) cz bx917 rfl rfl) (.tmp rfl .nil)) ?_))
 have e0 : ((0, 0, 0, false, false) : (Int) × (Int) × (Int) × (Bool) × (Bool)) = ((aL g p).1) := by
   rw [ow hn]
 have e1 : (1 : Int) = ((aL g p).2) := by
   rw [ow hn]
 have C918 := cg [3] (ch2.n.seq (ch7.n.seq (ch12.n.seq (hb18.n.seq (ch916.l rfl)))))
 replace bH := bH.ca C918
 exact ⟨(bW (a := (0, 0, 0, false, false)) (b := 1) (fun (z0 : (Int) × (Int) × (Int) × (Bool) × (Bool)) (z1 : Int) => Ending.returned (vt [vg [vi z0.1, vi z0.2.1, vi z0.2.2.1, Value.bool z0.2.2.2.1, Value.bool z0.2.2.2.2], vi z1])) e0 e1), bH.below⟩
end TL
