import Derived.Test.YtbadiajeohbpcaaTlP2
import Derived.Test.YtbadiajeohbpcaaProg
set_option linter.all false
set_option maxRecDepth 20000
namespace TL
open Go Go.Proofs
theorem lE : Try.prog.follows .mixedOrders = true := by kernel_rfl
theorem bh : Tp Try.prog 3 false 1 8 (.int .i64 0) := Tp.of (by kernel_rfl)
theorem ae : Tp Try.prog 45 true 2 16 (.agg #[.int .i64 0, .int .i64 0]) := Tp.of (by kernel_rfl)
theorem cM : Try.f57.body.isNone = false := rfl
theorem cN : (Try.f57.name == "runtime.NumGoroutine") = false := by decide +kernel
theorem mS : Try.f58.body.isNone = false := rfl
theorem mE : (Try.f58.name == "runtime.NumGoroutine") = false := by decide +kernel
theorem fC : Try.f59.body.isNone = false := rfl
theorem fD : (Try.f59.name == "runtime.NumGoroutine") = false := by decide +kernel
theorem mN : Try.f61.body.isNone = false := rfl
theorem nn : (Try.f61.name == "runtime.NumGoroutine") = false := by decide +kernel
theorem ra : Try.f71.body.isNone = false := rfl
theorem qC : (Try.f71.name == "runtime.NumGoroutine") = false := by decide +kernel
theorem np : Try.f74.body.isNone = false := rfl
theorem n7 : (Try.f74.name == "runtime.NumGoroutine") = false := by decide +kernel
theorem ib : Try.f93.body.isNone = false := rfl
theorem ik : (Try.f93.name == "runtime.NumGoroutine") = false := by decide +kernel
theorem kB (w0 : World) (x : Int) :
    Calls Try.prog 74 #[vi x] w0 (fun ee w => ee = .returned (Value.bool false) ∧ dE w0.heap.size w0 w) := by
 refine aD Try.func74 rfl (Nat.le_of_ble_eq_true rfl) ?_
 have bH := bc.start w0
 refine a7 (a6 rfl (ma (Value.bool false) (aa (a7 (a6 rfl (mi x (mi x (lx (dK (m := x) (n := x) rfl rfl) (ma (Value.bool (!(decide (x = x)))) (aa (al (vs := [Value.bool (!(decide (x = x)))]) Try.func74 (.tmp rfl .nil) ?_)))))))))))
 have e0 : (!(decide (x = x)) : Bool) = (false) := by
   simp
 exact ⟨(congrArg (a₁ := !(decide (x = x))) (fun (z0 : Bool) => Ending.returned (Value.bool z0)) e0), bH.below⟩
theorem dP (w0 : World) (x : Int) (y : Int) :
    Calls Try.prog 59 #[vi x, vi y] w0 (fun ee w => ee = .returned (vi (bA x y)) ∧ dE w0.heap.size w0 w) := by
 refine aD Try.func59 rfl (Nat.le_of_ble_eq_true rfl) ?_
 have bH := bc.start w0
 refine a7 (a6 rfl (ai 0 (aa (a7 (a6 rfl (mi x (lo (aG (v := Value.bool false) (aB (vals := [vi x]) Try.func74 np n7 rfl) (kB w0 x) ?_))))))))
 intro w1 hb2
 replace hb2 := ak hb2 c0
 refine ma (Value.bool false) (aa (a7 (a6 rfl (mi y (lo (aG (v := Value.bool false) (aB (vals := [vi y]) Try.func74 np n7 rfl) (kB w1 y) ?_))))))
 intro w3 hb4
 replace hb4 := ak hb4 c0
 refine ma (Value.bool false) (aa (a7 (a7 (a6 rfl (mv (Value.bool false) (aa (aj rfl rfl (ao (a7 (a7 (a6 rfl (mv (Value.bool false) (aa (aj rfl rfl ?_))))))))))))))
 refine ao (a7 (a7 (a6 rfl (mi x (mi y (lx (b6 (m := x) (n := y) rfl rfl) (aa ?_)))))))
 by_cases p9 : x < y
 ·
  refine ah rfl (dt p9) (a7 (a6 rfl (ai (-1) (aa (al (vs := [vi (-1)]) Try.func59 (.tmp rfl .nil) ?_)))))
  have e0 : (-1 : Int) = (bA x y) := by
    unfold bA
    rw [if_pos ‹_›]
  replace bH := bH.cn hb2
  replace bH := bH.cn hb4
  exact ⟨(congrArg (a₁ := -1) (fun (z0 : Int) => Ending.returned (vi z0)) e0), bH.below⟩
 refine aj rfl (df p9) (ao (a7 (a7 (a6 rfl (mi x (mi y (lx (c8 (m := x) (n := y) rfl rfl) (aa ?_))))))))
 by_cases p11 : y < x
 ·
  refine ah rfl (dt p11) (a7 (a6 rfl (ai 1 (aa (al (vs := [vi 1]) Try.func59 (.tmp rfl .nil) ?_)))))
  have e0 : (1 : Int) = (bA x y) := by
    unfold bA
    rw [if_neg ‹_›, if_pos ‹_›]
  replace bH := bH.cn hb2
  replace bH := bH.cn hb4
  exact ⟨(congrArg (a₁ := 1) (fun (z0 : Int) => Ending.returned (vi z0)) e0), bH.below⟩
 refine aj rfl (df p11) (ao (a7 (a6 rfl (ai 0 (aa (al (vs := [vi 0]) Try.func59 (.tmp rfl .nil) ?_))))))
 have e0 : (0 : Int) = (bA x y) := by
   unfold bA
   rw [if_neg ‹_›, if_neg ‹_›]
 replace bH := bH.cn hb2
 replace bH := bH.cn hb4
 exact ⟨(congrArg (a₁ := 0) (fun (z0 : Int) => Ending.returned (vi z0)) e0), bH.below⟩
theorem sv (w0 : World) (vals : List Int) (vals_v : Value) (hvals_v : Ro w0 vals_v vals) :
    Calls Try.prog 58 #[vals_v] w0 (fun ee w => ee = .returned (vi (iZ vals)) ∧ dE w0.heap.size w0 w) := by
 refine aD Try.func58 rfl (Nat.le_of_ble_eq_true rfl) ?_
 have bH := bc.start w0
 have Rvals := hvals_v.sl
 refine a7 (a6 rfl (ai 0 (aa (a7 (a6 rfl (ai 0 (aa (a7 (a7 (a6 rfl (mv vals_v ?_)))))))))))
 have len1 := (Rvals).small
 refine lx (bb Try.underlying39 rfl Rvals) (mi 0 (aa (au ?_)))
 refine aX (σ := Nat × aM) (fun ⟨k, gq⟩ f w => bc w0 gq w ∧ f 3 = vi 0 ∧ f 6 = vals_v ∧ f 7 = vi (vals.length : Int) ∧ f 8 = vi (k : Int) ∧ Sl gq (is 0) w vals_v vals ∧ (k : Int) ≤ ((vals.length : Int) : Int) ∧ (∀ j : Nat, j < k → gI vals (j : Int) = 0)) (fun ⟨k, gq⟩ => Int.toNat (((vals.length : Int) : Int) - (k : Int))) (0, c0) ?_ ?_
 · exact ⟨bH, rfl, rfl, rfl, rfl, Rvals, by omega, by intro j hj; omega⟩
 clear Rvals bH
 rintro ⟨k, g4⟩ f2 w3 ⟨bH, zs3, zs6, zs7, zs8, Rvals, hle_k, hinv⟩ back3
 refine a7 (a6 rfl (lx (b6 (m := (k : Int)) (n := (vals.length : Int)) zs8 zs7) (aa (a7 ?_))))
 by_cases p3 : (k : Int) < (vals.length : Int)
 ·
  refine ah rfl (dt p3) (ao (a7 (au (a7 (a6 rfl (lx (am (v := vals_v) (i := (k : Int)) Try.underlying39 rfl zs6 Rvals zs8 (by omega) (by omega)) (lx (br (v := vals_v) (i := (k : Int)) bh rfl Rvals (by omega) (by omega) (by decide) rfl) (ai (gI vals (k : Int)) (aa (a7 (a6 rfl (mi (gI vals (k : Int)) ?_))))))))))))
  refine mz zs3 (lx (dK (m := (gI vals (k : Int))) (n := 0) rfl rfl) (aa ?_))
  by_cases p5 : (gI vals (k : Int)) = 0
  ·
   refine aj rfl (congrArg Bool.not (dt p5)) (ao (aq (a6 rfl (lx (aW (m := (k : Int)) (n := 1) zs8 rfl (by omega)) (mi ((k : Int) + 1) (aa ?_))))))
   refine back3 (k + 1, g4) _ _ ⟨bH, zs3, zs6, zs7, rfl, Rvals, by omega, ?_⟩ ?_
   · show ∀ j : Nat, j < (k + 1) → gI vals (j : Int) = 0
     intro j hj
     by_cases e0 : j = k
     · subst e0; assumption
     · exact hinv j (by omega)
   · show Int.toNat (((vals.length : Int) : Int) - ((k + 1) : Int)) < Int.toNat (((vals.length : Int) : Int) - (k : Int))
     omega
  refine ah rfl (congrArg Bool.not (df p5)) (a7 (a6 rfl (mi (gI vals (k : Int)) (ai (gI vals (k : Int)) (aa (al (vs := [vi (gI vals (k : Int))]) Try.func58 (.tmp rfl .nil) ?_))))))
  have e0 : ((gI vals (k : Int)) : Int) = (iZ vals) := by
    exact oV hinv ‹_› ‹_›
  exact ⟨(congrArg (a₁ := (gI vals (k : Int))) (fun (z0 : Int) => Ending.returned (vi z0)) e0), bH.below⟩
 refine aj rfl (df p3) (aR rfl (a7 (a6 rfl (mz zs3 (ai 0 (aa (al (vs := [vi 0]) Try.func58 (.tmp rfl .nil) ?_)))))))
 have e0 : (0 : Int) = (iZ vals) := by
   exact pY hinv ‹_›
 exact ⟨(congrArg (a₁ := 0) (fun (z0 : Int) => Ending.returned (vi z0)) e0), bH.below⟩
theorem co (w0 : World) (b : (Int) × (Int)) (a : (Int) × (Int)) (hb : e7 b) (ha : e7 a) :
    Calls Try.prog 57 #[vg [vi b.1, vi b.2], vg [vi a.1, vi a.2]] w0 (fun ee w => ee = .returned (vg [vi ((aU b a).1), vi ((aU b a).2)]) ∧ dE w0.heap.size w0 w) := by
 refine aD Try.func57 rfl (Nat.le_of_ble_eq_true rfl) ?_
 have bH := bc.start w0
 unfold e7 at hb ha
 refine a7 (a6 rfl (bL rfl (bw c0 (is 1) (1, 0) rfl rfl ?_)))
 intro g4 w1 b3 ch2 bx5
 replace bx5 : Bx g4 (is 1) w1 b3 [vi b.1, vi b.2] := bx5
 refine lo (bw g4 (is 2) (2, 0) rfl rfl ?_)
 intro g9 w6 b8 ch7 bx10
 replace bx10 : Bx g9 (is 2) w6 b8 [vi a.1, vi a.2] := bx10
 refine lo (aQ g9 (is 3) (3, 0) rfl ae ?_)
 intro g14 w11 b13 ch12 bx15
 replace bx15 : Bx g14 (is 3) w11 b13 [vi 0, vi 0] := bx15
 refine aa (a7 (a6 rfl (lx (a8 Try.underlying45 rfl rfl rfl rfl) ?_)))
 replace bx5 := (bx5.cn ch7).cn ch12
 refine lx (af bh rfl bx5 rfl) (lx (a8 Try.underlying45 rfl rfl rfl rfl) ?_)
 replace bx10 := bx10.cn ch12
 refine lx (af bh rfl bx10 rfl) (lx (dS (m := b.1) (n := a.1) rfl rfl (by omega)) (lx (a8 Try.underlying45 rfl rfl rfl rfl) (lx (af bh rfl bx5 rfl) (lx (a8 Try.underlying45 rfl rfl rfl rfl) (lx (af bh rfl bx10 rfl) (lx (dS (m := b.2) (n := a.2) rfl rfl (by omega)) (lw (vg [vi (b.1 - a.1), vi (b.2 - a.2)]) (bF (vs := [(0, vi (b.1 - a.1)), (1, vi (b.2 - a.2))]) rfl (by kernel_rfl)) (lo (ag (cs' := [vi (b.1 - a.1), vi (b.2 - a.2)]) ae rfl rfl bx15 rfl (Nat.le_of_ble_eq_true rfl) (AllOne.all (.cons rfl (.cons rfl .nil))) rfl ?_)))))))))
 intro w16 ch17 bx18
 clear bx15
 refine aa (al (vs := [vg [vi (b.1 - a.1), vi (b.2 - a.2)]]) Try.func57 (.cell rfl (cF (ds := [vi (b.1 - a.1), vi (b.2 - a.2)]) ae bx18 rfl rfl) .nil) ?_)
 have e0 : ((b.1 - a.1, b.2 - a.2) : (Int) × (Int)) = (aU b a) := by
   rfl
 have C19 := cg [3] (ch2.n.seq (ch7.n.seq (ch12.n.seq (ch17.l rfl))))
 replace bH := bH.ca C19
 exact ⟨(congrArg (a₁ := (b.1 - a.1, b.2 - a.2)) (fun (z0 : (Int) × (Int)) => Ending.returned (vg [vi z0.1, vi z0.2])) e0), bH.below⟩
theorem ll (w0 : World) (a : (Int) × (Int)) (b : (Int) × (Int)) (ha : ub a) (hb : ub b) :
    Calls Try.prog 61 #[vg [vi a.1, vi a.2], vg [vi b.1, vi b.2]] w0 (fun ee w => ee = .returned (vi (dD a b)) ∧ dE w0.heap.size w0 w) := by
 refine aD Try.func61 rfl (Nat.le_of_ble_eq_true rfl) ?_
 have bH := bc.start w0
 unfold ub at hb ha
 have h1 := fG ha.1 hb.2
 have h2 := fG ha.2 hb.1
 refine a7 (a6 rfl (bL rfl (bw c0 (is 1) (1, 0) rfl rfl ?_)))
 intro g4 w1 b3 ch2 bx5
 replace bx5 : Bx g4 (is 1) w1 b3 [vi a.1, vi a.2] := bx5
 refine lo (bw g4 (is 2) (2, 0) rfl rfl ?_)
 intro g9 w6 b8 ch7 bx10
 replace bx10 : Bx g9 (is 2) w6 b8 [vi b.1, vi b.2] := bx10
 refine ai 0 (aa (a7 (a6 rfl (lx (a8 Try.underlying45 rfl rfl rfl rfl) ?_))))
 replace bx5 := bx5.cn ch7
 refine lx (af bh rfl bx5 rfl) (lx (a8 Try.underlying45 rfl rfl rfl rfl) (lx (af bh rfl bx10 rfl) (lx (dJ (m := a.1) (n := b.2) rfl rfl (by omega)) (lx (a8 Try.underlying45 rfl rfl rfl rfl) (lx (af bh rfl bx5 rfl) (lx (a8 Try.underlying45 rfl rfl rfl rfl) (lx (af bh rfl bx10 rfl) (lx (dJ (m := a.2) (n := b.1) rfl rfl (by omega)) (lx (dS (m := a.1 * b.2) (n := a.2 * b.1) rfl rfl (by omega)) ?_)))))))))
 refine ai ((a.1 * b.2) - (a.2 * b.1)) (aa (al (vs := [vi ((a.1 * b.2) - (a.2 * b.1))]) Try.func61 (.tmp rfl .nil) ?_))
 have e0 : ((a.1 * b.2) - (a.2 * b.1) : Int) = (dD a b) := by
   rfl
 replace bH := bH.cn ch2
 replace bH := bH.cn ch7
 exact ⟨(congrArg (a₁ := (a.1 * b.2) - (a.2 * b.1)) (fun (z0 : Int) => Ending.returned (vi z0)) e0), bH.below⟩
theorem hZ (w0 : World) (a : (Int) × (Int)) (b : (Int) × (Int)) (c : (Int) × (Int)) (ha : e7 a) (hb : e7 b) (hc : e7 c) :
    Calls Try.prog 93 #[vg [vi a.1, vi a.2], vg [vi b.1, vi b.2], vg [vi c.1, vi c.2]] w0 (fun ee w => ee = .returned (vi (bu a b c)) ∧ dE w0.heap.size w0 w) := by
 refine aD Try.func93 rfl (Nat.le_of_ble_eq_true rfl) ?_
 have bH := bc.start w0
 have hba := j6 ha hb
 have hca := j6 ha hc
 refine a7 (a6 rfl (bL rfl (bw c0 (is 1) (1, 0) rfl rfl ?_)))
 intro g4 w1 b3 ch2 bx5
 replace bx5 : Bx g4 (is 1) w1 b3 [vi a.1, vi a.2] := bx5
 refine lo (bw g4 (is 2) (2, 0) rfl rfl ?_)
 intro g9 w6 b8 ch7 bx10
 replace bx10 : Bx g9 (is 2) w6 b8 [vi b.1, vi b.2] := bx10
 refine lo (bw g9 (is 3) (3, 0) rfl rfl ?_)
 intro g14 w11 b13 ch12 bx15
 replace bx15 : Bx g14 (is 3) w11 b13 [vi c.1, vi c.2] := bx15
 refine ai 0 (aa (a7 (cm g14 rfl lE (by kernel_rfl) ?_)))
 intro w17 ch16
 replace bx10 := (bx10.cn ch12).cn ch16
 refine qx (fun w' hw' => ad (ds := [vi b.1, vi b.2]) ae rfl (bx10.bel hw') rfl rfl) ?_
 have C18 := cg [] (ch7.n.seq (ch12.n.seq ch16.n))
 replace bx5 := bx5.ca C18
 refine qx (fun w' hw' => ad (ds := [vi a.1, vi a.2]) ae rfl (bx5.bel hw') rfl rfl) (eC (v := vg [vi ((aU b a).1), vi ((aU b a).2)]) rfl (fun w' hw' => aB (vals := [vg [vi b.1, vi b.2], vg [vi a.1, vi a.2]]) Try.func57 cM cN rfl) (fun w' hw' => (co w' b a ‹_› ‹_›).mono fun e w2 h2 => ⟨h2.1, hw'.trans (h2.2.mono hw'.size)⟩) ?_)
 replace bx15 := bx15.cn ch16
 refine qx (fun w' hw' => ad (ds := [vi c.1, vi c.2]) ae rfl (bx15.bel hw') rfl rfl) (qx (fun w' hw' => ad (ds := [vi a.1, vi a.2]) ae rfl (bx5.bel hw') rfl rfl) (eC (v := vg [vi ((aU c a).1), vi ((aU c a).2)]) rfl (fun w' hw' => aB (vals := [vg [vi c.1, vi c.2], vg [vi a.1, vi a.2]]) Try.func57 cM cN rfl) (fun w' hw' => (co w' c a ‹_› ‹_›).mono fun e w2 h2 => ⟨h2.1, hw'.trans (h2.2.mono hw'.size)⟩) ?_))
 refine eC (v := vi (dD (aU b a) (aU c a))) rfl (fun w' hw' => aB (vals := [vg [vi ((aU b a).1), vi ((aU b a).2)], vg [vi ((aU c a).1), vi ((aU c a).2)]]) Try.func61 mN nn rfl) (fun w' hw' => (ll w' (aU b a) (aU c a) ‹_› ‹_›).mono fun e w2 h2 => ⟨h2.1, hw'.trans (h2.2.mono hw'.size)⟩) (eC (v := vi (bA (dD (aU b a) (aU c a)) 0)) rfl (fun w' hw' => aB (vals := [vi (dD (aU b a) (aU c a)), vi 0]) Try.func59 fC fD rfl) (fun w' hw' => (dP w' (dD (aU b a) (aU c a)) 0).mono fun e w2 h2 => ⟨h2.1, hw'.trans (h2.2.mono hw'.size)⟩) (qv (vi (bA (dD (aU b a) (aU c a)) 0)) (fun w' hw' => bf rfl) (de ?_)))
 intro w19 hc20
 replace hc20 := ak hc20 g14
 refine al (vs := [vi (bA (dD (aU b a) (aU c a)) 0)]) Try.func93 (.tmp rfl .nil) ?_
 have e0 : (bA (dD (aU b a) (aU c a)) 0 : Int) = (bu a b c) := by
   rfl
 have C21 := cg [] (ch2.n.seq (ch7.n.seq (ch12.n.seq (ch16.n.seq hc20.n))))
 replace bH := bH.ca C21
 exact ⟨(congrArg (a₁ := bA (dD (aU b a) (aU c a)) 0) (fun (z0 : Int) => Ending.returned (vi z0)) e0), bH.below⟩
theorem sZ (w0 : World) (p : (Int) × (Int)) :
    Calls Try.prog 71 #[vg [vi p.1, vi p.2]] w0 (fun ee w => ee = .returned (Value.bool (decide (cd p))) ∧ dE w0.heap.size w0 w) := by
 refine aD Try.func71 rfl (Nat.le_of_ble_eq_true rfl) ?_
 have bH := bc.start w0
 refine a7 (a6 rfl (bL rfl (bw c0 (is 1) (1, 0) rfl rfl ?_)))
 intro g4 w1 b3 ch2 bx5
 replace bx5 : Bx g4 (is 1) w1 b3 [vi p.1, vi p.2] := bx5
 refine ma (Value.bool false) (aa (a7 (a6 rfl (lx (a8 Try.underlying45 rfl rfl rfl rfl) (lx (af bh rfl bx5 rfl) (lx (fy (m := p.1) (n := -1048576) rfl rfl) (mv (Value.bool (decide ((-1048576) ≤ p.1))) ?_)))))))
 by_cases q6 : (-1048576) ≤ p.1
 ·
  refine lv (vp b3 0) (wy (dt q6)) (a8 Try.underlying45 rfl rfl rfl rfl) (lv (vi p.1) (wy (dt q6)) (af bh rfl bx5 rfl) (lv (Value.bool (decide (p.1 ≤ 1048576))) (wy (dt q6)) (i0 (m := p.1) (n := 1048576) rfl rfl) (lw (Value.bool (decide (p.1 ≤ 1048576))) (av rfl (dt q6) rfl) (mv (Value.bool (decide (p.1 ≤ 1048576))) ?_))))
  by_cases q11 : p.1 ≤ 1048576
  ·
   refine lv (vp b3 1) (wy (dt q11)) (a8 Try.underlying45 rfl rfl rfl rfl) (lv (vi p.2) (wy (dt q11)) (af bh rfl bx5 rfl) (lv (Value.bool (decide ((-1048576) ≤ p.2))) (wy (dt q11)) (fy (m := p.2) (n := -1048576) rfl rfl) (lw (Value.bool (decide ((-1048576) ≤ p.2))) (av rfl (dt q11) rfl) (mv (Value.bool (decide ((-1048576) ≤ p.2))) ?_))))
   by_cases q16 : (-1048576) ≤ p.2
   ·
    refine lv (vp b3 1) (wy (dt q16)) (a8 Try.underlying45 rfl rfl rfl rfl) (lv (vi p.2) (wy (dt q16)) (af bh rfl bx5 rfl) (lv (Value.bool (decide (p.2 ≤ 1048576))) (wy (dt q16)) (i0 (m := p.2) (n := 1048576) rfl rfl) (lw (Value.bool (decide (p.2 ≤ 1048576))) (av rfl (dt q16) rfl) (ma (Value.bool (decide (p.2 ≤ 1048576))) (aa (al (vs := [Value.bool (decide (p.2 ≤ 1048576))]) Try.func71 (.tmp rfl .nil) ?_))))))
    have e0 : (decide (p.2 ≤ 1048576) : Bool) = (decide (cd p)) := by
      (rw [decide_eq_decide]; unfold cd; omega)
    replace bH := bH.cn ch2
    exact ⟨(congrArg (a₁ := decide (p.2 ≤ 1048576)) (fun (z0 : Bool) => Ending.returned (Value.bool z0)) e0), bH.below⟩
   refine ab (wn (df q16)) (ab (wn (df q16)) (ab (wn (df q16)) (lw (Value.bool false) (aE rfl (df q16) rfl) (ma (Value.bool false) (aa (al (vs := [Value.bool false]) Try.func71 (.tmp rfl .nil) ?_))))))
   have e0 : (false : Bool) = (decide (cd p)) := by
     exact (df (by unfold cd; omega)).symm
   replace bH := bH.cn ch2
   exact ⟨(congrArg (a₁ := false) (fun (z0 : Bool) => Ending.returned (Value.bool z0)) e0), bH.below⟩
  refine ab (wn (df q11)) (ab (wn (df q11)) (ab (wn (df q11)) (lw (Value.bool false) (aE rfl (df q11) rfl) (mv (Value.bool false) (ab (wn rfl) (ab (wn rfl) (ab (wn rfl) (lw (Value.bool false) (aE rfl rfl rfl) (ma (Value.bool false) (aa (al (vs := [Value.bool false]) Try.func71 (.tmp rfl .nil) ?_)))))))))))
  have e0 : (false : Bool) = (decide (cd p)) := by
    exact (df (by unfold cd; omega)).symm
  replace bH := bH.cn ch2
  exact ⟨(congrArg (a₁ := false) (fun (z0 : Bool) => Ending.returned (Value.bool z0)) e0), bH.below⟩
 refine ab (wn (df q6)) (ab (wn (df q6)) (ab (wn (df q6)) (lw (Value.bool false) (aE rfl (df q6) rfl) (mv (Value.bool false) (ab (wn rfl) (ab (wn rfl) (ab (wn rfl) (lw (Value.bool false) (aE rfl rfl rfl) (mv (Value.bool false) (ab (wn rfl) (ab (wn rfl) (ab (wn rfl) (lw (Value.bool false) (aE rfl rfl rfl) ?_)))))))))))))
 refine ma (Value.bool false) (aa (al (vs := [Value.bool false]) Try.func71 (.tmp rfl .nil) ?_))
 have e0 : (false : Bool) = (decide (cd p)) := by
   exact (df (by unfold cd; omega)).symm
 replace bH := bH.cn ch2
 exact ⟨(congrArg (a₁ := false) (fun (z0 : Bool) => Ending.returned (Value.bool z0)) e0), bH.below⟩
theorem eF (w0 : World) (ps : List ((Int) × (Int))) (ps_v : Value) (hps_v : Ro w0 ps_v ps) :
    Calls Try.prog 54 #[ps_v] w0 (fun ee w => ee = .returned (Value.bool (decide (dl ps))) ∧ dE w0.heap.size w0 w) := by
 refine aD Try.func54 rfl (Nat.le_of_ble_eq_true rfl) ?_
 have bH := bc.start w0
 have Rps := hps_v.sl
 refine a7 (a6 rfl (ma (Value.bool false) (aa (a7 (a7 (a6 rfl (mv ps_v ?_)))))))
 have len1 := (Rps).small
 refine lx (bb Try.underlying25 rfl Rps) (lx (c8 (m := (ps.length : Int)) (n := 4096) rfl rfl) (aa ?_))
 by_cases p1 : 4096 < (ps.length : Int)
 ·
  refine ah rfl (dt p1) (a7 (a6 rfl (ma (Value.bool false) (aa (al (vs := [Value.bool false]) Try.func54 (.tmp rfl .nil) ?_)))))
  have e0 : (false : Bool) = (decide (dl ps)) := by
    exact (df (fun h => by have := h.1; omega)).symm
  exact ⟨(congrArg (a₁ := false) (fun (z0 : Bool) => Ending.returned (Value.bool z0)) e0), bH.below⟩
 refine aj rfl (df p1) (ao (a7 (a7 (a6 rfl (mv ps_v (lx (bb Try.underlying25 rfl Rps) (mi 0 (aa (au ?_)))))))))
 refine aX (σ := Nat × aM) (fun ⟨k, gq⟩ f w => bc w0 gq w ∧ f 8 = ps_v ∧ f 9 = vi (ps.length : Int) ∧ f 10 = vi (k : Int) ∧ Sl gq (is 0) w ps_v ps ∧ (k : Int) ≤ ((ps.length : Int) : Int) ∧ (∀ j : Nat, j < k → cd (gI ps (j : Int)))) (fun ⟨k, gq⟩ => Int.toNat (((ps.length : Int) : Int) - (k : Int))) (0, c0) ?_ ?_
 · exact ⟨bH, rfl, rfl, rfl, Rps, by omega, by intro j hj; omega⟩
 clear Rps bH
 rintro ⟨k, g4⟩ f2 w3 ⟨bH, zs8, zs9, zs10, Rps, hle_k, hinv⟩ back4
 refine a7 (a6 rfl (lx (b6 (m := (k : Int)) (n := (ps.length : Int)) zs10 zs9) (aa (a7 ?_))))
 by_cases p4 : (k : Int) < (ps.length : Int)
 ·
  refine ah rfl (dt p4) (ao (a7 (au (a7 (a6 rfl (lx (am (v := ps_v) (i := (k : Int)) Try.underlying25 rfl zs8 Rps zs10 (by omega) (by omega)) (lw (vg [vi ((gI ps (k : Int)).1), vi ((gI ps (k : Int)).2)]) (aO (v := ps_v) (i := (k : Int)) ae rfl Rps (by omega) (by omega) rfl) (lo (aQ g4 (is 1) (1, 0) rfl ae ?_)))))))))
  intro g8 w5 b7 ch6 bx9
  replace bx9 : Bx g8 (is 1) w5 b7 [vi 0, vi 0] := bx9
  refine lo (ag (cs' := [vi ((gI ps (k : Int)).1), vi ((gI ps (k : Int)).2)]) ae rfl rfl bx9 rfl (Nat.le_of_ble_eq_true rfl) (AllOne.all (.cons rfl (.cons rfl .nil))) rfl ?_)
  intro w10 ch11 bx12
  clear bx9
  refine aa (a7 (a6 rfl (lx (ad (ds := [vi ((gI ps (k : Int)).1), vi ((gI ps (k : Int)).2)]) ae rfl bx12 rfl rfl) (lo (aG (v := Value.bool (decide (cd (gI ps (k : Int))))) (aB (vals := [vg [vi ((gI ps (k : Int)).1), vi ((gI ps (k : Int)).2)]]) Try.func71 ra qC rfl) (sZ w10 (gI ps (k : Int))) ?_)))))
  intro w13 hb14
  replace hb14 := ak hb14 g8
  refine lx (db (b := (decide (cd (gI ps (k : Int))))) rfl) (aa ?_)
  by_cases p6 : (decide (cd (gI ps (k : Int)))) = true
  ·
   refine aj rfl (congrArg Bool.not p6) (ao (aq ?_))
   clear bx12
   refine a6 rfl (lx (aW (m := (k : Int)) (n := 1) zs10 rfl (by omega)) (mi ((k : Int) + 1) (aa ?_)))
   have C15 := cg [1] (ch6.n.seq ((ch11.l rfl).seq hb14.n))
   refine back4 (k + 1, g8) _ _ ⟨bH.ca C15, zs8, zs9, rfl, Rps.ca C15, by omega, ?_⟩ ?_
   · show ∀ j : Nat, j < (k + 1) → cd (gI ps (j : Int))
     intro j hj
     by_cases e0 : j = k
     · subst e0; simpa using of_decide_eq_true ‹_›
     · exact hinv j (by omega)
   · show Int.toNat (((ps.length : Int) : Int) - ((k + 1) : Int)) < Int.toNat (((ps.length : Int) : Int) - (k : Int))
     omega
  refine ah rfl (congrArg Bool.not (Bool.eq_false_iff.2 p6)) (a7 ?_)
  clear bx12
  refine a6 rfl (ma (Value.bool false) (aa (al (vs := [Value.bool false]) Try.func54 (.tmp rfl .nil) ?_)))
  have e0 : (false : Bool) = (decide (dl ps)) := by
    (refine (df (fun h => ?_)).symm
     have h1 := h.2 _ (aV (xs := ps) (i := (k : Int)) (by omega) (by omega))
     simp_all; done)
  have C16 := cg [1] (ch6.n.seq ((ch11.l rfl).seq hb14.n))
  replace bH := bH.ca C16
  exact ⟨(congrArg (a₁ := false) (fun (z0 : Bool) => Ending.returned (Value.bool z0)) e0), bH.below⟩
 refine aj rfl (df p4) (aR rfl (a7 (a6 rfl (ma (Value.bool true) (aa (al (vs := [Value.bool true]) Try.func54 (.tmp rfl .nil) ?_))))))
 have e0 : (true : Bool) = (decide (dl ps)) := by
   exact (dt ⟨by omega, tP (fun j hj => hinv j (by omega))⟩).symm
 exact ⟨(congrArg (a₁ := true) (fun (z0 : Bool) => Ending.returned (Value.bool z0)) e0), bH.below⟩
theorem cG (w0 : World) (a : (Int) × (Int)) (b : (Int) × (Int)) (p : (Int) × (Int)) (ha : e7 a) (hb : e7 b) (hp : e7 p) :
    Calls Try.prog 95 #[vg [vi a.1, vi a.2], vg [vi b.1, vi b.2], vg [vi p.1, vi p.2]] w0 (fun ee w => ee = .returned (Value.bool (decide (bG a b p))) ∧ dE w0.heap.size w0 w) := by
 refine aD Try.func95 rfl (Nat.le_of_ble_eq_true rfl) ?_
 have bH := bc.start w0
 refine a7 (a6 rfl (bL rfl (bw c0 (is 1) (1, 0) rfl rfl ?_)))
 intro g4 w1 b3 ch2 bx5
 replace bx5 : Bx g4 (is 1) w1 b3 [vi a.1, vi a.2] := bx5
 refine lo (bw g4 (is 2) (2, 0) rfl rfl ?_)
 intro g9 w6 b8 ch7 bx10
 replace bx10 : Bx g9 (is 2) w6 b8 [vi b.1, vi b.2] := bx10
 refine lo (bw g9 (is 3) (3, 0) rfl rfl ?_)
 intro g14 w11 b13 ch12 bx15
 replace bx15 : Bx g14 (is 3) w11 b13 [vi p.1, vi p.2] := bx15
 refine ma (Value.bool false) (aa (a7 (a6 rfl ?_)))
 replace bx5 := (bx5.cn ch7).cn ch12
 refine lx (ad (ds := [vi a.1, vi a.2]) ae rfl bx5 rfl rfl) ?_
 replace bx10 := bx10.cn ch12
 refine lx (ad (ds := [vi b.1, vi b.2]) ae rfl bx10 rfl rfl) (lx (ad (ds := [vi p.1, vi p.2]) ae rfl bx15 rfl rfl) (lo (aG (v := vi (bu a b p)) (aB (vals := [vg [vi a.1, vi a.2], vg [vi b.1, vi b.2], vg [vi p.1, vi p.2]]) Try.func93 ib ik rfl) (hZ w11 a b p ‹_› ‹_› ‹_›) ?_)))
 intro w16 hb17
 replace hb17 := ak hb17 g14
 refine lx (bQ (m := bu a b p) (n := 0) rfl rfl) (mv (Value.bool (decide ((bu a b p) = 0))) ?_)
 by_cases q12 : (bu a b p) = 0
 ·
  refine lv (vp b13 0) (wy (dt q12)) (a8 Try.underlying45 rfl rfl rfl rfl) ?_
  replace bx15 := bx15.cn hb17
  refine lv (vi p.1) (wy (dt q12)) (af bh rfl bx15 rfl) (lv (vp b3 0) (wy (dt q12)) (a8 Try.underlying45 rfl rfl rfl rfl) ?_)
  replace bx5 := bx5.cn hb17
  refine lv (vi a.1) (wy (dt q12)) (af bh rfl bx5 rfl) (lv (vp b8 0) (wy (dt q12)) (a8 Try.underlying45 rfl rfl rfl rfl) ?_)
  replace bx10 := bx10.cn hb17
  refine lv (vi b.1) (wy (dt q12)) (af bh rfl bx10 rfl) (lv (vi (min a.1 b.1)) (wy (dt q12)) (cz rfl rfl) (lv (Value.bool (decide ((min a.1 b.1) ≤ p.1))) (wy (dt q12)) (fy (m := p.1) (n := min a.1 b.1) rfl rfl) (lw (Value.bool (decide ((min a.1 b.1) ≤ p.1))) (av rfl (dt q12) rfl) (mv (Value.bool (decide ((min a.1 b.1) ≤ p.1))) ?_))))
  by_cases q22 : (min a.1 b.1) ≤ p.1
  ·
   refine lv (vp b13 0) (wy (dt q22)) (a8 Try.underlying45 rfl rfl rfl rfl) (lv (vi p.1) (wy (dt q22)) (af bh rfl bx15 rfl) (lv (vp b3 0) (wy (dt q22)) (a8 Try.underlying45 rfl rfl rfl rfl) (lv (vi a.1) (wy (dt q22)) (af bh rfl bx5 rfl) (lv (vp b8 0) (wy (dt q22)) (a8 Try.underlying45 rfl rfl rfl rfl) (lv (vi b.1) (wy (dt q22)) (af bh rfl bx10 rfl) (lv (vi (max a.1 b.1)) (wy (dt q22)) (bW rfl rfl) ?_))))))
   refine lv (Value.bool (decide (p.1 ≤ (max a.1 b.1)))) (wy (dt q22)) (i0 (m := p.1) (n := max a.1 b.1) rfl rfl) (lw (Value.bool (decide (p.1 ≤ (max a.1 b.1)))) (av rfl (dt q22) rfl) (mv (Value.bool (decide (p.1 ≤ (max a.1 b.1)))) ?_))
   by_cases q32 : p.1 ≤ (max a.1 b.1)
   ·
    refine lv (vp b13 1) (wy (dt q32)) (a8 Try.underlying45 rfl rfl rfl rfl) (lv (vi p.2) (wy (dt q32)) (af bh rfl bx15 rfl) (lv (vp b3 1) (wy (dt q32)) (a8 Try.underlying45 rfl rfl rfl rfl) (lv (vi a.2) (wy (dt q32)) (af bh rfl bx5 rfl) (lv (vp b8 1) (wy (dt q32)) (a8 Try.underlying45 rfl rfl rfl rfl) (lv (vi b.2) (wy (dt q32)) (af bh rfl bx10 rfl) (lv (vi (min a.2 b.2)) (wy (dt q32)) (cz rfl rfl) ?_))))))
    refine lv (Value.bool (decide ((min a.2 b.2) ≤ p.2))) (wy (dt q32)) (fy (m := p.2) (n := min a.2 b.2) rfl rfl) (lw (Value.bool (decide ((min a.2 b.2) ≤ p.2))) (av rfl (dt q32) rfl) (mv (Value.bool (decide ((min a.2 b.2) ≤ p.2))) ?_))
    by_cases q42 : (min a.2 b.2) ≤ p.2
    ·
     refine lv (vp b13 1) (wy (dt q42)) (a8 Try.underlying45 rfl rfl rfl rfl) (lv (vi p.2) (wy (dt q42)) (af bh rfl bx15 rfl) (lv (vp b3 1) (wy (dt q42)) (a8 Try.underlying45 rfl rfl rfl rfl) (lv (vi a.2) (wy (dt q42)) (af bh rfl bx5 rfl) (lv (vp b8 1) (wy (dt q42)) (a8 Try.underlying45 rfl rfl rfl rfl) (lv (vi b.2) (wy (dt q42)) (af bh rfl bx10 rfl) (lv (vi (max a.2 b.2)) (wy (dt q42)) (bW rfl rfl) ?_))))))
     refine lv (Value.bool (decide (p.2 ≤ (max a.2 b.2)))) (wy (dt q42)) (i0 (m := p.2) (n := max a.2 b.2) rfl rfl) (lw (Value.bool (decide (p.2 ≤ (max a.2 b.2)))) (av rfl (dt q42) rfl) (ma (Value.bool (decide (p.2 ≤ (max a.2 b.2)))) (aa (al (vs := [Value.bool (decide (p.2 ≤ (max a.2 b.2)))]) Try.func95 (.tmp rfl .nil) ?_))))
     have e0 : (decide (p.2 ≤ (max a.2 b.2)) : Bool) = (decide (bG a b p)) := by
       (rw [decide_eq_decide]; unfold bG ko; omega)
     have C18 := cg [] (ch2.n.seq (ch7.n.seq (ch12.n.seq hb17.n)))
     replace bH := bH.ca C18
     exact ⟨(congrArg (a₁ := decide (p.2 ≤ (max a.2 b.2))) (fun (z0 : Bool) => Ending.returned (Value.bool z0)) e0), bH.below⟩
    refine ab (wn (df q42)) (ab (wn (df q42)) (ab (wn (df q42)) (ab (wn (df q42)) (ab (wn (df q42)) (ab (wn (df q42)) (ab (wn (df q42)) (ab (wn (df q42)) (lw (Value.bool false) (aE rfl (df q42) rfl) (ma (Value.bool false) ?_)))))))))
    refine aa (al (vs := [Value.bool false]) Try.func95 (.tmp rfl .nil) ?_)
    have e0 : (false : Bool) = (decide (bG a b p)) := by
      exact (df (by unfold bG ko; omega)).symm
    have C19 := cg [] (ch2.n.seq (ch7.n.seq (ch12.n.seq hb17.n)))
    replace bH := bH.ca C19
    exact ⟨(congrArg (a₁ := false) (fun (z0 : Bool) => Ending.returned (Value.bool z0)) e0), bH.below⟩
   refine ab (wn (df q32)) (ab (wn (df q32)) (ab (wn (df q32)) (ab (wn (df q32)) (ab (wn (df q32)) (ab (wn (df q32)) (ab (wn (df q32)) (ab (wn (df q32)) (lw (Value.bool false) (aE rfl (df q32) rfl) (mv (Value.bool false) ?_)))))))))
   refine ab (wn rfl) (ab (wn rfl) (ab (wn rfl) (ab (wn rfl) (ab (wn rfl) (ab (wn rfl) (ab (wn rfl) (ab (wn rfl) (lw (Value.bool false) (aE rfl rfl rfl) (ma (Value.bool false) (aa (al (vs := [Value.bool false]) Try.func95 (.tmp rfl .nil) ?_)))))))))))
   have e0 : (false : Bool) = (decide (bG a b p)) := by
     exact (df (by unfold bG ko; omega)).symm
   have C20 := cg [] (ch2.n.seq (ch7.n.seq (ch12.n.seq hb17.n)))
   replace bH := bH.ca C20
   exact ⟨(congrArg (a₁ := false) (fun (z0 : Bool) => Ending.returned (Value.bool z0)) e0), bH.below⟩
  refine ab (wn (df q22)) (ab (wn (df q22)) (ab (wn (df q22)) (ab (wn (df q22)) (ab (wn (df q22)) (ab (wn (df q22)) (ab (wn (df q22)) (ab (wn (df q22)) (lw (Value.bool false) (aE rfl (df q22) rfl) (mv (Value.bool false) ?_)))))))))
  refine ab (wn rfl) (ab (wn rfl) (ab (wn rfl) (ab (wn rfl) (ab (wn rfl) (ab (wn rfl) (ab (wn rfl) (ab (wn rfl) (lw (Value.bool false) (aE rfl rfl rfl) (mv (Value.bool false) (ab (wn rfl) (ab (wn rfl) (ab (wn rfl) (ab (wn rfl) (ab (wn rfl) (ab (wn rfl) (ab (wn rfl) (ab (wn rfl) (lw (Value.bool false) (aE rfl rfl rfl) (ma (Value.bool false) (aa (al (vs := [Value.bool false]) Try.func95 (.tmp rfl .nil) ?_)))))))))))))))))))))
  have e0 : (false : Bool) = (decide (bG a b p)) := by
    exact (df (by unfold bG ko; omega)).symm
  have C21 := cg [] (ch2.n.seq (ch7.n.seq (ch12.n.seq hb17.n)))
  replace bH := bH.ca C21
  exact ⟨(congrArg (a₁ := false) (fun (z0 : Bool) => Ending.returned (Value.bool z0)) e0), bH.below⟩
 refine ab (wn (df q12)) (ab (wn (df q12)) (ab (wn (df q12)) (ab (wn (df q12)) (ab (wn (df q12)) (ab (wn (df q12)) (ab (wn (df q12)) (ab (wn (df q12)) (lw (Value.bool false) (aE rfl (df q12) rfl) (mv (Value.bool false) ?_)))))))))
 refine ab (wn rfl) (ab (wn rfl) (ab (wn rfl) (ab (wn rfl) (ab (wn rfl) (ab (wn rfl) (ab (wn rfl) (ab (wn rfl) (lw (Value.bool false) (aE rfl rfl rfl) (mv (Value.bool false) (ab (wn rfl) (ab (wn rfl) (ab (wn rfl) (ab (wn rfl) (ab (wn rfl) (ab (wn rfl) (ab (wn rfl) (ab (wn rfl) (lw (Value.bool false) (aE rfl rfl rfl) (mv (Value.bool false) ?_)))))))))))))))))))
 refine ab (wn rfl) (ab (wn rfl) (ab (wn rfl) (ab (wn rfl) (ab (wn rfl) (ab (wn rfl) (ab (wn rfl) (ab (wn rfl) (lw (Value.bool false) (aE rfl rfl rfl) (ma (Value.bool false) (aa (al (vs := [Value.bool false]) Try.func95 (.tmp rfl .nil) ?_)))))))))))
 have e0 : (false : Bool) = (decide (bG a b p)) := by
   exact (df (by unfold bG ko; omega)).symm
 have C22 := cg [] (ch2.n.seq (ch7.n.seq (ch12.n.seq hb17.n)))
 replace bH := bH.ca C22
 exact ⟨(congrArg (a₁ := false) (fun (z0 : Bool) => Ending.returned (Value.bool z0)) e0), bH.below⟩
theorem bB (w0 : World) (a : (Int) × (Int)) (b : (Int) × (Int)) :
    Calls Try.prog 103 #[vg [vi a.1, vi a.2], vg [vi b.1, vi b.2]] w0 (fun ee w => ee = .returned (vi (aK a b)) ∧ dE w0.heap.size w0 w) := by
 refine aD Try.func103 rfl (Nat.le_of_ble_eq_true rfl) ?_
 have bH := bc.start w0
 refine a7 (a6 rfl (bL rfl (bw c0 (is 1) (1, 0) rfl rfl ?_)))
 intro g4 w1 b3 ch2 bx5
 replace bx5 : Bx g4 (is 1) w1 b3 [vi a.1, vi a.2] := bx5
 refine lo (bw g4 (is 2) (2, 0) rfl rfl ?_)
 intro g9 w6 b8 ch7 bx10
 replace bx10 : Bx g9 (is 2) w6 b8 [vi b.1, vi b.2] := bx10
 refine ai 0 (aa (a7 (dj g9 (bM []) lE ?_)))
 intro w12 ch11
 refine ht 0 rfl (aL.refl _ _ _) (fun w' hw' => a8 Try.underlying45 rfl rfl rfl rfl) ?_
 replace bx5 := (bx5.cn ch7).cn ch11
 refine ht 1 rfl (aL.refl _ _ _) (fun w' hw' => af bh rfl (bx5.chg hw' (bg rfl)) rfl) (ht 2 rfl (aL.refl _ _ _) (fun w' hw' => a8 Try.underlying45 rfl rfl rfl rfl) ?_)
 replace bx10 := bx10.cn ch11
 refine ht 3 rfl (aL.refl _ _ _) (fun w' hw' => af bh rfl (bx10.chg hw' (bg rfl)) rfl) (ht 5 rfl (aL.refl _ _ _) (fun w' hw' => a8 Try.underlying45 rfl rfl rfl rfl) (ht 6 rfl (aL.refl _ _ _) (fun w' hw' => af bh rfl (bx5.chg hw' (bg rfl)) rfl) (ht 7 rfl (aL.refl _ _ _) (fun w' hw' => a8 Try.underlying45 rfl rfl rfl rfl) (ht 8 rfl (aL.refl _ _ _) (fun w' hw' => af bh rfl (bx10.chg hw' (bg rfl)) rfl) (aC 4 rfl (by kernel_rfl) rfl (aG (v := vi (bA a.1 b.1)) (aB (vals := [vi a.1, vi b.1]) Try.func59 fC fD rfl) (dP w12 a.1 b.1) ?_))))))
 intro w13 hb14
 replace hb14 := ak hb14 g9
 have hs15 : aL (bM []) _ _ _ _ := hb14.n
 refine ⟨hs15.same, ?_⟩
 refine aC 9 rfl (by kernel_rfl) rfl (aG (v := vi (bA a.2 b.2)) (aB (vals := [vi a.2, vi b.2]) Try.func59 fC fD rfl) (dP w13 a.2 b.2) ?_)
 intro w16 hb17
 replace hb17 := ak hb17 g9
 have hs18 := hs15.seq (hb17.n)
 refine ⟨hs18.same, ?_⟩
 refine aC 10 rfl (by kernel_rfl) rfl (aN (α := Int) g9 (is 3) (is 3) (3, 0) rfl [bA a.1 b.1, bA a.2 b.2] Try.underlying39 bh (by decide) (by decide) (vs := [(0, vi (bA a.1 b.1)), (1, vi (bA a.2 b.2))]) rfl rfl (.cons rfl (.cons rfl .nil)) ?_)
 intro g19 w20 v21 ch22 o23
 have hs24 := hs18.seq (ch22.n)
 refine ⟨hs24.same, ?_⟩
 refine aC 11 rfl (by kernel_rfl) rfl (aG (v := vi (iZ ([bA a.1 b.1, bA a.2 b.2]))) (aB (vals := [v21]) Try.func58 mS mE rfl) (sv w20 ([bA a.1 b.1, bA a.2 b.2]) v21 (o23.flat).ro) ?_)
 intro w25 hb26
 replace hb26 := ak hb26 g19
 have hs27 := hs24.seq (hb26.n)
 refine ⟨hs27.same, ?_⟩
 refine ht (v := vi (iZ ([bA a.1 b.1, bA a.2 b.2]))) 12 rfl hs27.same (fun w' hw' => bf rfl) (bm (by kernel_rfl) (al (vs := [vi (iZ ([bA a.1 b.1, bA a.2 b.2]))]) Try.func103 (.tmp rfl .nil) ?_))
 have e0 : (iZ ([bA a.1 b.1, bA a.2 b.2]) : Int) = (aK a b) := by
   exact (pp _ _).symm
 have C28 := cg [] (ch2.n.seq (ch7.n.seq (ch11.n.seq (hb14.n.seq (hb17.n.seq (ch22.n.seq hb26.n))))))
 replace bH := bH.ca C28
 exact ⟨(congrArg (a₁ := iZ ([bA a.1 b.1, bA a.2 b.2])) (fun (z0 : Int) => Ending.returned (vi z0)) e0), bH.below⟩
theorem nq (w0 : World) (p : (Int) × (Int)) :
    Calls Try.prog 60 #[vg [vi p.1, vi p.2]] w0 (fun ee w => ee = .returned (vi (bT p)) ∧ dE w0.heap.size w0 w) := by
 refine aD Try.func60 rfl (Nat.le_of_ble_eq_true rfl) ?_
 have bH := bc.start w0
 refine a7 (a6 rfl (bL rfl (bw c0 (is 1) (1, 0) rfl rfl ?_)))
 intro g4 w1 b3 ch2 bx5
 replace bx5 : Bx g4 (is 1) w1 b3 [vi p.1, vi p.2] := bx5
 refine ai 0 (aa (a7 (a7 (a6 rfl (lx (a8 Try.underlying45 rfl rfl rfl rfl) (lx (af bh rfl bx5 rfl) (lx (c8 (m := p.1) (n := 0) rfl rfl) (mv (Value.bool (decide (0 < p.1))) ?_))))))))
 by_cases q6 : 0 < p.1
 ·
  refine ab (wn (dt q6)) (ab (wn (dt q6)) (ab (wn (dt q6)) (ab (wn (dt q6)) (ab (ch rfl rfl rfl) (ab (ch rfl rfl rfl) (ab (ch rfl rfl rfl) (ab (wn (dt q6)) (lw (Value.bool true) (av rfl (dt q6) rfl) (aa ?_)))))))))
  refine ah rfl rfl (a7 ?_)
  clear bx5
  refine a6 rfl (ai 0 (aa (al (vs := [vi 0]) Try.func60 (.tmp rfl .nil) ?_)))
  have e0 : (0 : Int) = (bT p) := by
    unfold bT
    rw [if_pos (by omega)]
  replace bH := bH.cn ch2
  exact ⟨(congrArg (a₁ := 0) (fun (z0 : Int) => Ending.returned (vi z0)) e0), bH.below⟩
 refine lv (vp b3 0) (wy (df q6)) (a8 Try.underlying45 rfl rfl rfl rfl) (lv (vi p.1) (wy (df q6)) (af bh rfl bx5 rfl) (lv (Value.bool (decide (p.1 = 0))) (wy (df q6)) (bQ (m := p.1) (n := 0) rfl rfl) (lv (Value.bool (decide (p.1 = 0))) (wy (df q6)) (aF rfl) ?_)))
 by_cases q10 : p.1 = 0
 ·
  refine lv (vp b3 1) (wy (dt q10)) (a8 Try.underlying45 rfl rfl rfl rfl) (lv (vi p.2) (wy (dt q10)) (af bh rfl bx5 rfl) (lv (Value.bool (decide (0 < p.2))) (wy (dt q10)) (c8 (m := p.2) (n := 0) rfl rfl) (lv (Value.bool (decide (0 < p.2))) (wy (df q6)) (av rfl (dt q10) rfl) (lw (Value.bool (decide (0 < p.2))) (aE rfl (df q6) rfl) (aa ?_)))))
  by_cases p1 : 0 < p.2
  ·
   refine ah rfl (dt p1) (a7 ?_)
   clear bx5
   refine a6 rfl (ai 0 (aa (al (vs := [vi 0]) Try.func60 (.tmp rfl .nil) ?_)))
   have e0 : (0 : Int) = (bT p) := by
     unfold bT
     rw [if_pos (by omega)]
   replace bH := bH.cn ch2
   exact ⟨(congrArg (a₁ := 0) (fun (z0 : Int) => Ending.returned (vi z0)) e0), bH.below⟩
  refine aj rfl (df p1) (ao (a7 ?_))
  clear bx5
  refine a6 rfl (ai 1 (aa (al (vs := [vi 1]) Try.func60 (.tmp rfl .nil) ?_)))
  have e0 : (1 : Int) = (bT p) := by
    unfold bT
    rw [if_neg (by omega)]
  replace bH := bH.cn ch2
  exact ⟨(congrArg (a₁ := 1) (fun (z0 : Int) => Ending.returned (vi z0)) e0), bH.below⟩
 refine ab (wn (df q10)) (ab (wn (df q10)) (ab (wn (df q10)) (lv (Value.bool false) (wy (df q6)) (aE rfl (df q10) rfl) (lw (Value.bool false) (aE rfl (df q6) rfl) (aa (aj rfl rfl (ao (a7 ?_))))))))
 clear bx5
 refine a6 rfl (ai 1 (aa (al (vs := [vi 1]) Try.func60 (.tmp rfl .nil) ?_)))
 have e0 : (1 : Int) = (bT p) := by
   unfold bT
   rw [if_neg (by omega)]
 replace bH := bH.cn ch2
 exact ⟨(congrArg (a₁ := 1) (fun (z0 : Int) => Ending.returned (vi z0)) e0), bH.below⟩
end TL
