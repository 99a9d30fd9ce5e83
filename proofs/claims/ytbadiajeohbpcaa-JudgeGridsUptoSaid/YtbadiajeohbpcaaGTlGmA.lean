import Derived.Test.YtbadiajeohbpcaaGTlP2
import Derived.Test.YtbadiajeohbpcaaProg
set_option linter.all false
set_option maxRecDepth 20000
namespace TL
open Go Go.Proofs
theorem k8 : Try.prog.follows .mixedOrders = true := by kernel_rfl
theorem bc : Tp Try.prog 3 false 1 8 (.int .i64 0) := Tp.of (by kernel_rfl)
theorem ab : Tp Try.prog 45 true 2 16 (.agg #[.int .i64 0, .int .i64 0]) := Tp.of (by kernel_rfl)
theorem cA : Try.f57.body.isNone = false := rfl
theorem cw : (Try.f57.name == "runtime.NumGoroutine") = false := by decide +kernel
theorem lq : Try.f58.body.isNone = false := rfl
theorem lJ : (Try.f58.name == "runtime.NumGoroutine") = false := by decide +kernel
theorem eX : Try.f59.body.isNone = false := rfl
theorem ff : (Try.f59.name == "runtime.NumGoroutine") = false := by decide +kernel
theorem lO : Try.f61.body.isNone = false := rfl
theorem lI : (Try.f61.name == "runtime.NumGoroutine") = false := by decide +kernel
theorem py : Try.f71.body.isNone = false := rfl
theorem pZ : (Try.f71.name == "runtime.NumGoroutine") = false := by decide +kernel
theorem lZ : Try.f74.body.isNone = false := rfl
theorem lT : (Try.f74.name == "runtime.NumGoroutine") = false := by decide +kernel
theorem gT : Try.f93.body.isNone = false := rfl
theorem gE : (Try.f93.name == "runtime.NumGoroutine") = false := by decide +kernel
theorem jO (w0 : World) (x : Int) :
    Calls Try.prog 74 #[vi x] w0 (fun ee w => ee = .returned (Value.bool false) ∧ cQ w0.heap.size w0 w) := by
 refine aC Try.func74 rfl (Nat.le_of_ble_eq_true rfl) ?_
 have bH := bf.start w0
 refine a7 (a6 rfl (ma (Value.bool false) (aa (a7 (a6 rfl (mi x (mi x (lx (dC (m := x) (n := x) rfl rfl) (ma (Value.bool (!(decide (x = x)))) (aa (al (vs := [Value.bool (!(decide (x = x)))]) Try.func74 (.tmp rfl .nil) ?_)))))))))))
 have e0 : (!(decide (x = x)) : Bool) = (false) := by
   simp
 exact ⟨(congrArg (a₁ := !(decide (x = x))) (fun (z0 : Bool) => Ending.returned (Value.bool z0)) e0), bH.below⟩
theorem dA (w0 : World) (x : Int) (y : Int) :
    Calls Try.prog 59 #[vi x, vi y] w0 (fun ee w => ee = .returned (vi (bE x y)) ∧ cQ w0.heap.size w0 w) := by
 refine aC Try.func59 rfl (Nat.le_of_ble_eq_true rfl) ?_
 have bH := bf.start w0
 refine a7 (a6 rfl (ai 0 (aa (a7 (a6 rfl (mi x (lo (aF (v := Value.bool false) (aw (vals := [vi x]) Try.func74 lZ lT rfl) (jO w0 x) ?_))))))))
 intro w1 hb2
 replace hb2 := ak hb2 c0
 refine ma (Value.bool false) (aa (a7 (a6 rfl (mi y (lo (aF (v := Value.bool false) (aw (vals := [vi y]) Try.func74 lZ lT rfl) (jO w1 y) ?_))))))
 intro w3 hb4
 replace hb4 := ak hb4 c0
 refine ma (Value.bool false) (aa (a7 (a7 (a6 rfl (mv (Value.bool false) (aa (aj rfl rfl (am (a7 (a7 (a6 rfl (mv (Value.bool false) (aa (aj rfl rfl ?_))))))))))))))
 refine am (a7 (a7 (a6 rfl (mi x (mi y (lx (b9 (m := x) (n := y) rfl rfl) (aa ?_)))))))
 by_cases p9 : x < y
 ·
  refine ah rfl (dt p9) (a7 (a6 rfl (ai (-1) (aa (al (vs := [vi (-1)]) Try.func59 (.tmp rfl .nil) ?_)))))
  have e0 : (-1 : Int) = (bE x y) := by
    unfold bE
    rw [if_pos ‹_›]
  replace bH := bH.cn hb2
  replace bH := bH.cn hb4
  exact ⟨(congrArg (a₁ := -1) (fun (z0 : Int) => Ending.returned (vi z0)) e0), bH.below⟩
 refine aj rfl (df p9) (am (a7 (a7 (a6 rfl (mi x (mi y (lx (bQ (m := x) (n := y) rfl rfl) (aa ?_))))))))
 by_cases p11 : y < x
 ·
  refine ah rfl (dt p11) (a7 (a6 rfl (ai 1 (aa (al (vs := [vi 1]) Try.func59 (.tmp rfl .nil) ?_)))))
  have e0 : (1 : Int) = (bE x y) := by
    unfold bE
    rw [if_neg ‹_›, if_pos ‹_›]
  replace bH := bH.cn hb2
  replace bH := bH.cn hb4
  exact ⟨(congrArg (a₁ := 1) (fun (z0 : Int) => Ending.returned (vi z0)) e0), bH.below⟩
 refine aj rfl (df p11) (am (a7 (a6 rfl (ai 0 (aa (al (vs := [vi 0]) Try.func59 (.tmp rfl .nil) ?_))))))
 have e0 : (0 : Int) = (bE x y) := by
   unfold bE
   rw [if_neg ‹_›, if_neg ‹_›]
 replace bH := bH.cn hb2
 replace bH := bH.cn hb4
 exact ⟨(congrArg (a₁ := 0) (fun (z0 : Int) => Ending.returned (vi z0)) e0), bH.below⟩
theorem qW (w0 : World) (vals : List Int) (vals_v : Value) (hvals_v : Ro w0 vals_v vals) :
    Calls Try.prog 58 #[vals_v] w0 (fun ee w => ee = .returned (vi (io vals)) ∧ cQ w0.heap.size w0 w) := by
 refine aC Try.func58 rfl (Nat.le_of_ble_eq_true rfl) ?_
 have bH := bf.start w0
 have Rvals := hvals_v.sl
 refine a7 (a6 rfl (ai 0 (aa (a7 (a6 rfl (ai 0 (aa (a7 (a7 (a6 rfl (mv vals_v ?_)))))))))))
 have len1 := (Rvals).small
 refine lx (bh Try.underlying39 rfl Rvals) (mi 0 (aa (av ?_)))
 refine ba (σ := Nat × aP) (fun ⟨k, gq⟩ f w => bf w0 gq w ∧ f 3 = vi 0 ∧ f 6 = vals_v ∧ f 7 = vi (vals.length : Int) ∧ f 8 = vi (k : Int) ∧ Sl gq (is 0) w vals_v vals ∧ (k : Int) ≤ ((vals.length : Int) : Int) ∧ (∀ j : Nat, j < k → gI vals (j : Int) = 0)) (fun ⟨k, gq⟩ => Int.toNat (((vals.length : Int) : Int) - (k : Int))) (0, c0) ?_ ?_
 · exact ⟨bH, rfl, rfl, rfl, rfl, Rvals, by omega, by intro j hj; omega⟩
 clear Rvals bH
 rintro ⟨k, g4⟩ f2 w3 ⟨bH, zs3, zs6, zs7, zs8, Rvals, hle_k, hinv⟩ back3
 refine a7 (a6 rfl (lx (b9 (m := (k : Int)) (n := (vals.length : Int)) zs8 zs7) (aa (a7 ?_))))
 by_cases p3 : (k : Int) < (vals.length : Int)
 ·
  refine ah rfl (dt p3) (am (a7 (av (a7 (a6 rfl (lx (ar (v := vals_v) (i := (k : Int)) Try.underlying39 rfl zs6 Rvals zs8 (by omega) (by omega)) (lx (c5 (v := vals_v) (i := (k : Int)) bc rfl Rvals (by omega) (by omega) (by decide) rfl) (ai (gI vals (k : Int)) (aa (a7 (a6 rfl (mi (gI vals (k : Int)) ?_))))))))))))
  refine mz zs3 (lx (dC (m := (gI vals (k : Int))) (n := 0) rfl rfl) (aa ?_))
  by_cases p5 : (gI vals (k : Int)) = 0
  ·
   refine aj rfl (congrArg Bool.not (dt p5)) (am (ao (a6 rfl (lx (aT (m := (k : Int)) (n := 1) zs8 rfl (by omega)) (mi ((k : Int) + 1) (aa ?_))))))
   refine back3 (k + 1, g4) _ _ ⟨bH, zs3, zs6, zs7, rfl, Rvals, by omega, ?_⟩ ?_
   · show ∀ j : Nat, j < (k + 1) → gI vals (j : Int) = 0
     intro j hj
     by_cases e0 : j = k
     · subst e0; assumption
     · exact hinv j (by omega)
   · show Int.toNat (((vals.length : Int) : Int) - ((k + 1) : Int)) < Int.toNat (((vals.length : Int) : Int) - (k : Int))
     omega
  refine ah rfl (congrArg Bool.not (df p5)) (a7 (a6 rfl (mi (gI vals (k : Int)) (ai (gI vals (k : Int)) (aa (al (vs := [vi (gI vals (k : Int))]) Try.func58 (.tmp rfl .nil) ?_))))))
  have e0 : ((gI vals (k : Int)) : Int) = (io vals) := by
    exact ox hinv ‹_› ‹_›
  exact ⟨(congrArg (a₁ := (gI vals (k : Int))) (fun (z0 : Int) => Ending.returned (vi z0)) e0), bH.below⟩
 refine aj rfl (df p3) (aU rfl (a7 (a6 rfl (mz zs3 (ai 0 (aa (al (vs := [vi 0]) Try.func58 (.tmp rfl .nil) ?_)))))))
 have e0 : (0 : Int) = (io vals) := by
   exact mY hinv ‹_›
 exact ⟨(congrArg (a₁ := 0) (fun (z0 : Int) => Ending.returned (vi z0)) e0), bH.below⟩
theorem c7 (w0 : World) (b : (Int) × (Int)) (a : (Int) × (Int)) (hb : jJ b) (ha : jJ a) :
    Calls Try.prog 57 #[vg [vi b.1, vi b.2], vg [vi a.1, vi a.2]] w0 (fun ee w => ee = .returned (vg [vi ((aS b a).1), vi ((aS b a).2)]) ∧ cQ w0.heap.size w0 w) := by
 refine aC Try.func57 rfl (Nat.le_of_ble_eq_true rfl) ?_
 have bH := bf.start w0
 unfold jJ at hb ha
 refine a7 (a6 rfl (bY rfl (bA c0 (is 1) (1, 0) rfl rfl ?_)))
 intro g4 w1 b3 ch2 bx5
 replace bx5 : Bx g4 (is 1) w1 b3 [vi b.1, vi b.2] := bx5
 refine lo (bA g4 (is 2) (2, 0) rfl rfl ?_)
 intro g9 w6 b8 ch7 bx10
 replace bx10 : Bx g9 (is 2) w6 b8 [vi a.1, vi a.2] := bx10
 refine lo (aQ g9 (is 3) (3, 0) rfl ab ?_)
 intro g14 w11 b13 ch12 bx15
 replace bx15 : Bx g14 (is 3) w11 b13 [vi 0, vi 0] := bx15
 refine aa (a7 (a6 rfl (lx (a8 Try.underlying45 rfl rfl rfl rfl) ?_)))
 replace bx5 := (bx5.cn ch7).cn ch12
 refine lx (af bc rfl bx5 rfl) (lx (a8 Try.underlying45 rfl rfl rfl rfl) ?_)
 replace bx10 := bx10.cn ch12
 refine lx (af bc rfl bx10 rfl) (lx (cZ (m := b.1) (n := a.1) rfl rfl (by omega)) (lx (a8 Try.underlying45 rfl rfl rfl rfl) (lx (af bc rfl bx5 rfl) (lx (a8 Try.underlying45 rfl rfl rfl rfl) (lx (af bc rfl bx10 rfl) (lx (cZ (m := b.2) (n := a.2) rfl rfl (by omega)) (lw (vg [vi (b.1 - a.1), vi (b.2 - a.2)]) (bz (vs := [(0, vi (b.1 - a.1)), (1, vi (b.2 - a.2))]) rfl (by kernel_rfl)) (lo (ag (cs' := [vi (b.1 - a.1), vi (b.2 - a.2)]) ab rfl rfl bx15 rfl (Nat.le_of_ble_eq_true rfl) (AllOne.all (.cons rfl (.cons rfl .nil))) rfl ?_)))))))))
 intro w16 ch17 bx18
 clear bx15
 refine aa (al (vs := [vg [vi (b.1 - a.1), vi (b.2 - a.2)]]) Try.func57 (.cell rfl (d7 (ds := [vi (b.1 - a.1), vi (b.2 - a.2)]) ab bx18 rfl rfl) .nil) ?_)
 have e0 : ((b.1 - a.1, b.2 - a.2) : (Int) × (Int)) = (aS b a) := by
   rfl
 have C19 := cg [3] (ch2.n.seq (ch7.n.seq (ch12.n.seq (ch17.l rfl))))
 replace bH := bH.ca C19
 exact ⟨(congrArg (a₁ := (b.1 - a.1, b.2 - a.2)) (fun (z0 : (Int) × (Int)) => Ending.returned (vg [vi z0.1, vi z0.2])) e0), bH.below⟩
theorem kx (w0 : World) (a : (Int) × (Int)) (b : (Int) × (Int)) (ha : su a) (hb : su b) :
    Calls Try.prog 61 #[vg [vi a.1, vi a.2], vg [vi b.1, vi b.2]] w0 (fun ee w => ee = .returned (vi (dh a b)) ∧ cQ w0.heap.size w0 w) := by
 refine aC Try.func61 rfl (Nat.le_of_ble_eq_true rfl) ?_
 have bH := bf.start w0
 unfold su at hb ha
 have h1 := fh ha.1 hb.2
 have h2 := fh ha.2 hb.1
 refine a7 (a6 rfl (bY rfl (bA c0 (is 1) (1, 0) rfl rfl ?_)))
 intro g4 w1 b3 ch2 bx5
 replace bx5 : Bx g4 (is 1) w1 b3 [vi a.1, vi a.2] := bx5
 refine lo (bA g4 (is 2) (2, 0) rfl rfl ?_)
 intro g9 w6 b8 ch7 bx10
 replace bx10 : Bx g9 (is 2) w6 b8 [vi b.1, vi b.2] := bx10
 refine ai 0 (aa (a7 (a6 rfl (lx (a8 Try.underlying45 rfl rfl rfl rfl) ?_))))
 replace bx5 := bx5.cn ch7
 refine lx (af bc rfl bx5 rfl) (lx (a8 Try.underlying45 rfl rfl rfl rfl) (lx (af bc rfl bx10 rfl) (lx (cP (m := a.1) (n := b.2) rfl rfl (by omega)) (lx (a8 Try.underlying45 rfl rfl rfl rfl) (lx (af bc rfl bx5 rfl) (lx (a8 Try.underlying45 rfl rfl rfl rfl) (lx (af bc rfl bx10 rfl) (lx (cP (m := a.2) (n := b.1) rfl rfl (by omega)) (lx (cZ (m := a.1 * b.2) (n := a.2 * b.1) rfl rfl (by omega)) ?_)))))))))
 refine ai ((a.1 * b.2) - (a.2 * b.1)) (aa (al (vs := [vi ((a.1 * b.2) - (a.2 * b.1))]) Try.func61 (.tmp rfl .nil) ?_))
 have e0 : ((a.1 * b.2) - (a.2 * b.1) : Int) = (dh a b) := by
   rfl
 replace bH := bH.cn ch2
 replace bH := bH.cn ch7
 exact ⟨(congrArg (a₁ := (a.1 * b.2) - (a.2 * b.1)) (fun (z0 : Int) => Ending.returned (vi z0)) e0), bH.below⟩
theorem gx (w0 : World) (a : (Int) × (Int)) (b : (Int) × (Int)) (c : (Int) × (Int)) (ha : jJ a) (hb : jJ b) (hc : jJ c) :
    Calls Try.prog 93 #[vg [vi a.1, vi a.2], vg [vi b.1, vi b.2], vg [vi c.1, vi c.2]] w0 (fun ee w => ee = .returned (vi (bw a b c)) ∧ cQ w0.heap.size w0 w) := by
 refine aC Try.func93 rfl (Nat.le_of_ble_eq_true rfl) ?_
 have bH := bf.start w0
 have hba := il ha hb
 have hca := il ha hc
 refine a7 (a6 rfl (bY rfl (bA c0 (is 1) (1, 0) rfl rfl ?_)))
 intro g4 w1 b3 ch2 bx5
 replace bx5 : Bx g4 (is 1) w1 b3 [vi a.1, vi a.2] := bx5
 refine lo (bA g4 (is 2) (2, 0) rfl rfl ?_)
 intro g9 w6 b8 ch7 bx10
 replace bx10 : Bx g9 (is 2) w6 b8 [vi b.1, vi b.2] := bx10
 refine lo (bA g9 (is 3) (3, 0) rfl rfl ?_)
 intro g14 w11 b13 ch12 bx15
 replace bx15 : Bx g14 (is 3) w11 b13 [vi c.1, vi c.2] := bx15
 refine ai 0 (aa (a7 (cl g14 rfl k8 (by kernel_rfl) ?_)))
 intro w17 ch16
 replace bx10 := (bx10.cn ch12).cn ch16
 refine qx (fun w' hw' => ad (ds := [vi b.1, vi b.2]) ab rfl (bx10.bel hw') rfl rfl) ?_
 have C18 := cg [] (ch7.n.seq (ch12.n.seq ch16.n))
 replace bx5 := bx5.ca C18
 refine qx (fun w' hw' => ad (ds := [vi a.1, vi a.2]) ab rfl (bx5.bel hw') rfl rfl) (dD (v := vg [vi ((aS b a).1), vi ((aS b a).2)]) rfl (fun w' hw' => aw (vals := [vg [vi b.1, vi b.2], vg [vi a.1, vi a.2]]) Try.func57 cA cw rfl) (fun w' hw' => (c7 w' b a ‹_› ‹_›).mono fun e w2 h2 => ⟨h2.1, hw'.trans (h2.2.mono hw'.size)⟩) ?_)
 replace bx15 := bx15.cn ch16
 refine qx (fun w' hw' => ad (ds := [vi c.1, vi c.2]) ab rfl (bx15.bel hw') rfl rfl) (qx (fun w' hw' => ad (ds := [vi a.1, vi a.2]) ab rfl (bx5.bel hw') rfl rfl) (dD (v := vg [vi ((aS c a).1), vi ((aS c a).2)]) rfl (fun w' hw' => aw (vals := [vg [vi c.1, vi c.2], vg [vi a.1, vi a.2]]) Try.func57 cA cw rfl) (fun w' hw' => (c7 w' c a ‹_› ‹_›).mono fun e w2 h2 => ⟨h2.1, hw'.trans (h2.2.mono hw'.size)⟩) ?_))
 refine dD (v := vi (dh (aS b a) (aS c a))) rfl (fun w' hw' => aw (vals := [vg [vi ((aS b a).1), vi ((aS b a).2)], vg [vi ((aS c a).1), vi ((aS c a).2)]]) Try.func61 lO lI rfl) (fun w' hw' => (kx w' (aS b a) (aS c a) ‹_› ‹_›).mono fun e w2 h2 => ⟨h2.1, hw'.trans (h2.2.mono hw'.size)⟩) (dD (v := vi (bE (dh (aS b a) (aS c a)) 0)) rfl (fun w' hw' => aw (vals := [vi (dh (aS b a) (aS c a)), vi 0]) Try.func59 eX ff rfl) (fun w' hw' => (dA w' (dh (aS b a) (aS c a)) 0).mono fun e w2 h2 => ⟨h2.1, hw'.trans (h2.2.mono hw'.size)⟩) (qv (vi (bE (dh (aS b a) (aS c a)) 0)) (fun w' hw' => bP rfl) (dp ?_)))
 intro w19 hc20
 replace hc20 := ak hc20 g14
 refine al (vs := [vi (bE (dh (aS b a) (aS c a)) 0)]) Try.func93 (.tmp rfl .nil) ?_
 have e0 : (bE (dh (aS b a) (aS c a)) 0 : Int) = (bw a b c) := by
   rfl
 have C21 := cg [] (ch2.n.seq (ch7.n.seq (ch12.n.seq (ch16.n.seq hc20.n))))
 replace bH := bH.ca C21
 exact ⟨(congrArg (a₁ := bE (dh (aS b a) (aS c a)) 0) (fun (z0 : Int) => Ending.returned (vi z0)) e0), bH.below⟩
theorem se (w0 : World) (p : (Int) × (Int)) :
    Calls Try.prog 71 #[vg [vi p.1, vi p.2]] w0 (fun ee w => ee = .returned (Value.bool (decide (c4 p))) ∧ cQ w0.heap.size w0 w) := by
 refine aC Try.func71 rfl (Nat.le_of_ble_eq_true rfl) ?_
 have bH := bf.start w0
 refine a7 (a6 rfl (bY rfl (bA c0 (is 1) (1, 0) rfl rfl ?_)))
 intro g4 w1 b3 ch2 bx5
 replace bx5 : Bx g4 (is 1) w1 b3 [vi p.1, vi p.2] := bx5
 refine ma (Value.bool false) (aa (a7 (a6 rfl (lx (a8 Try.underlying45 rfl rfl rfl rfl) (lx (af bc rfl bx5 rfl) (lx (gD (m := p.1) (n := -1048576) rfl rfl) (mv (Value.bool (decide ((-1048576) ≤ p.1))) ?_)))))))
 by_cases q6 : (-1048576) ≤ p.1
 ·
  refine lv (vp b3 0) (wy (dt q6)) (a8 Try.underlying45 rfl rfl rfl rfl) (lv (vi p.1) (wy (dt q6)) (af bc rfl bx5 rfl) (lv (Value.bool (decide (p.1 ≤ 1048576))) (wy (dt q6)) (j0 (m := p.1) (n := 1048576) rfl rfl) (lw (Value.bool (decide (p.1 ≤ 1048576))) (au rfl (dt q6) rfl) (mv (Value.bool (decide (p.1 ≤ 1048576))) ?_))))
  by_cases q11 : p.1 ≤ 1048576
  ·
   refine lv (vp b3 1) (wy (dt q11)) (a8 Try.underlying45 rfl rfl rfl rfl) (lv (vi p.2) (wy (dt q11)) (af bc rfl bx5 rfl) (lv (Value.bool (decide ((-1048576) ≤ p.2))) (wy (dt q11)) (gD (m := p.2) (n := -1048576) rfl rfl) (lw (Value.bool (decide ((-1048576) ≤ p.2))) (au rfl (dt q11) rfl) (mv (Value.bool (decide ((-1048576) ≤ p.2))) ?_))))
   by_cases q16 : (-1048576) ≤ p.2
   ·
    refine lv (vp b3 1) (wy (dt q16)) (a8 Try.underlying45 rfl rfl rfl rfl) (lv (vi p.2) (wy (dt q16)) (af bc rfl bx5 rfl) (lv (Value.bool (decide (p.2 ≤ 1048576))) (wy (dt q16)) (j0 (m := p.2) (n := 1048576) rfl rfl) (lw (Value.bool (decide (p.2 ≤ 1048576))) (au rfl (dt q16) rfl) (ma (Value.bool (decide (p.2 ≤ 1048576))) (aa (al (vs := [Value.bool (decide (p.2 ≤ 1048576))]) Try.func71 (.tmp rfl .nil) ?_))))))
    have e0 : (decide (p.2 ≤ 1048576) : Bool) = (decide (c4 p)) := by
      (rw [decide_eq_decide]; unfold c4; omega)
    replace bH := bH.cn ch2
    exact ⟨(congrArg (a₁ := decide (p.2 ≤ 1048576)) (fun (z0 : Bool) => Ending.returned (Value.bool z0)) e0), bH.below⟩
   refine ae (wn (df q16)) (ae (wn (df q16)) (ae (wn (df q16)) (lw (Value.bool false) (aD rfl (df q16) rfl) (ma (Value.bool false) (aa (al (vs := [Value.bool false]) Try.func71 (.tmp rfl .nil) ?_))))))
   have e0 : (false : Bool) = (decide (c4 p)) := by
     exact (df (by unfold c4; omega)).symm
   replace bH := bH.cn ch2
   exact ⟨(congrArg (a₁ := false) (fun (z0 : Bool) => Ending.returned (Value.bool z0)) e0), bH.below⟩
  refine ae (wn (df q11)) (ae (wn (df q11)) (ae (wn (df q11)) (lw (Value.bool false) (aD rfl (df q11) rfl) (mv (Value.bool false) (ae (wn rfl) (ae (wn rfl) (ae (wn rfl) (lw (Value.bool false) (aD rfl rfl rfl) (ma (Value.bool false) (aa (al (vs := [Value.bool false]) Try.func71 (.tmp rfl .nil) ?_)))))))))))
  have e0 : (false : Bool) = (decide (c4 p)) := by
    exact (df (by unfold c4; omega)).symm
  replace bH := bH.cn ch2
  exact ⟨(congrArg (a₁ := false) (fun (z0 : Bool) => Ending.returned (Value.bool z0)) e0), bH.below⟩
 refine ae (wn (df q6)) (ae (wn (df q6)) (ae (wn (df q6)) (lw (Value.bool false) (aD rfl (df q6) rfl) (mv (Value.bool false) (ae (wn rfl) (ae (wn rfl) (ae (wn rfl) (lw (Value.bool false) (aD rfl rfl rfl) (mv (Value.bool false) (ae (wn rfl) (ae (wn rfl) (ae (wn rfl) (lw (Value.bool false) (aD rfl rfl rfl) ?_)))))))))))))
 refine ma (Value.bool false) (aa (al (vs := [Value.bool false]) Try.func71 (.tmp rfl .nil) ?_))
 have e0 : (false : Bool) = (decide (c4 p)) := by
   exact (df (by unfold c4; omega)).symm
 replace bH := bH.cn ch2
 exact ⟨(congrArg (a₁ := false) (fun (z0 : Bool) => Ending.returned (Value.bool z0)) e0), bH.below⟩
theorem ej (w0 : World) (ps : List ((Int) × (Int))) (ps_v : Value) (hps_v : Ro w0 ps_v ps) :
    Calls Try.prog 54 #[ps_v] w0 (fun ee w => ee = .returned (Value.bool (decide (cX ps))) ∧ cQ w0.heap.size w0 w) := by
 refine aC Try.func54 rfl (Nat.le_of_ble_eq_true rfl) ?_
 have bH := bf.start w0
 have Rps := hps_v.sl
 refine a7 (a6 rfl (ma (Value.bool false) (aa (a7 (a7 (a6 rfl (mv ps_v ?_)))))))
 have len1 := (Rps).small
 refine lx (bh Try.underlying25 rfl Rps) (lx (bQ (m := (ps.length : Int)) (n := 4096) rfl rfl) (aa ?_))
 by_cases p1 : 4096 < (ps.length : Int)
 ·
  refine ah rfl (dt p1) (a7 (a6 rfl (ma (Value.bool false) (aa (al (vs := [Value.bool false]) Try.func54 (.tmp rfl .nil) ?_)))))
  have e0 : (false : Bool) = (decide (cX ps)) := by
    exact (df (fun h => by have := h.1; omega)).symm
  exact ⟨(congrArg (a₁ := false) (fun (z0 : Bool) => Ending.returned (Value.bool z0)) e0), bH.below⟩
 refine aj rfl (df p1) (am (a7 (a7 (a6 rfl (mv ps_v (lx (bh Try.underlying25 rfl Rps) (mi 0 (aa (av ?_)))))))))
 refine ba (σ := Nat × aP) (fun ⟨k, gq⟩ f w => bf w0 gq w ∧ f 8 = ps_v ∧ f 9 = vi (ps.length : Int) ∧ f 10 = vi (k : Int) ∧ Sl gq (is 0) w ps_v ps ∧ (k : Int) ≤ ((ps.length : Int) : Int) ∧ (∀ j : Nat, j < k → c4 (gI ps (j : Int)))) (fun ⟨k, gq⟩ => Int.toNat (((ps.length : Int) : Int) - (k : Int))) (0, c0) ?_ ?_
 · exact ⟨bH, rfl, rfl, rfl, Rps, by omega, by intro j hj; omega⟩
 clear Rps bH
 rintro ⟨k, g4⟩ f2 w3 ⟨bH, zs8, zs9, zs10, Rps, hle_k, hinv⟩ back4
 refine a7 (a6 rfl (lx (b9 (m := (k : Int)) (n := (ps.length : Int)) zs10 zs9) (aa (a7 ?_))))
 by_cases p4 : (k : Int) < (ps.length : Int)
 ·
  refine ah rfl (dt p4) (am (a7 (av (a7 (a6 rfl (lx (ar (v := ps_v) (i := (k : Int)) Try.underlying25 rfl zs8 Rps zs10 (by omega) (by omega)) (lw (vg [vi ((gI ps (k : Int)).1), vi ((gI ps (k : Int)).2)]) (aN (v := ps_v) (i := (k : Int)) ab rfl Rps (by omega) (by omega) rfl) (lo (aQ g4 (is 1) (1, 0) rfl ab ?_)))))))))
  intro g8 w5 b7 ch6 bx9
  replace bx9 : Bx g8 (is 1) w5 b7 [vi 0, vi 0] := bx9
  refine lo (ag (cs' := [vi ((gI ps (k : Int)).1), vi ((gI ps (k : Int)).2)]) ab rfl rfl bx9 rfl (Nat.le_of_ble_eq_true rfl) (AllOne.all (.cons rfl (.cons rfl .nil))) rfl ?_)
  intro w10 ch11 bx12
  clear bx9
  refine aa (a7 (a6 rfl (lx (ad (ds := [vi ((gI ps (k : Int)).1), vi ((gI ps (k : Int)).2)]) ab rfl bx12 rfl rfl) (lo (aF (v := Value.bool (decide (c4 (gI ps (k : Int))))) (aw (vals := [vg [vi ((gI ps (k : Int)).1), vi ((gI ps (k : Int)).2)]]) Try.func71 py pZ rfl) (se w10 (gI ps (k : Int))) ?_)))))
  intro w13 hb14
  replace hb14 := ak hb14 g8
  refine lx (di (b := (decide (c4 (gI ps (k : Int))))) rfl) (aa ?_)
  by_cases p6 : (decide (c4 (gI ps (k : Int)))) = true
  ·
   refine aj rfl (congrArg Bool.not p6) (am (ao ?_))
   clear bx12
   refine a6 rfl (lx (aT (m := (k : Int)) (n := 1) zs10 rfl (by omega)) (mi ((k : Int) + 1) (aa ?_)))
   have C15 := cg [1] (ch6.n.seq ((ch11.l rfl).seq hb14.n))
   refine back4 (k + 1, g8) _ _ ⟨bH.ca C15, zs8, zs9, rfl, Rps.ca C15, by omega, ?_⟩ ?_
   · show ∀ j : Nat, j < (k + 1) → c4 (gI ps (j : Int))
     intro j hj
     by_cases e0 : j = k
     · subst e0; simpa using of_decide_eq_true ‹_›
     · exact hinv j (by omega)
   · show Int.toNat (((ps.length : Int) : Int) - ((k + 1) : Int)) < Int.toNat (((ps.length : Int) : Int) - (k : Int))
     omega
  refine ah rfl (congrArg Bool.not (Bool.eq_false_iff.2 p6)) (a7 ?_)
  clear bx12
  refine a6 rfl (ma (Value.bool false) (aa (al (vs := [Value.bool false]) Try.func54 (.tmp rfl .nil) ?_)))
  have e0 : (false : Bool) = (decide (cX ps)) := by
    (refine (df (fun h => ?_)).symm
     have h1 := h.2 _ (bq (xs := ps) (i := (k : Int)) (by omega) (by omega))
     simp_all; done)
  have C16 := cg [1] (ch6.n.seq ((ch11.l rfl).seq hb14.n))
  replace bH := bH.ca C16
  exact ⟨(congrArg (a₁ := false) (fun (z0 : Bool) => Ending.returned (Value.bool z0)) e0), bH.below⟩
 refine aj rfl (df p4) (aU rfl (a7 (a6 rfl (ma (Value.bool true) (aa (al (vs := [Value.bool true]) Try.func54 (.tmp rfl .nil) ?_))))))
 have e0 : (true : Bool) = (decide (cX ps)) := by
   exact (dt ⟨by omega, rR (fun j hj => hinv j (by omega))⟩).symm
 exact ⟨(congrArg (a₁ := true) (fun (z0 : Bool) => Ending.returned (Value.bool z0)) e0), bH.below⟩
theorem cm (w0 : World) (a : (Int) × (Int)) (b : (Int) × (Int)) (p : (Int) × (Int)) (ha : jJ a) (hb : jJ b) (hp : jJ p) :
    Calls Try.prog 95 #[vg [vi a.1, vi a.2], vg [vi b.1, vi b.2], vg [vi p.1, vi p.2]] w0 (fun ee w => ee = .returned (Value.bool (decide (bD a b p))) ∧ cQ w0.heap.size w0 w) := by
 refine aC Try.func95 rfl (Nat.le_of_ble_eq_true rfl) ?_
 have bH := bf.start w0
 refine a7 (a6 rfl (bY rfl (bA c0 (is 1) (1, 0) rfl rfl ?_)))
 intro g4 w1 b3 ch2 bx5
 replace bx5 : Bx g4 (is 1) w1 b3 [vi a.1, vi a.2] := bx5
 refine lo (bA g4 (is 2) (2, 0) rfl rfl ?_)
 intro g9 w6 b8 ch7 bx10
 replace bx10 : Bx g9 (is 2) w6 b8 [vi b.1, vi b.2] := bx10
 refine lo (bA g9 (is 3) (3, 0) rfl rfl ?_)
 intro g14 w11 b13 ch12 bx15
 replace bx15 : Bx g14 (is 3) w11 b13 [vi p.1, vi p.2] := bx15
 refine ma (Value.bool false) (aa (a7 (a6 rfl ?_)))
 replace bx5 := (bx5.cn ch7).cn ch12
 refine lx (ad (ds := [vi a.1, vi a.2]) ab rfl bx5 rfl rfl) ?_
 replace bx10 := bx10.cn ch12
 refine lx (ad (ds := [vi b.1, vi b.2]) ab rfl bx10 rfl rfl) (lx (ad (ds := [vi p.1, vi p.2]) ab rfl bx15 rfl rfl) (lo (aF (v := vi (bw a b p)) (aw (vals := [vg [vi a.1, vi a.2], vg [vi b.1, vi b.2], vg [vi p.1, vi p.2]]) Try.func93 gT gE rfl) (gx w11 a b p ‹_› ‹_› ‹_›) ?_)))
 intro w16 hb17
 replace hb17 := ak hb17 g14
 refine lx (bO (m := bw a b p) (n := 0) rfl rfl) (mv (Value.bool (decide ((bw a b p) = 0))) ?_)
 by_cases q12 : (bw a b p) = 0
 ·
  refine lv (vp b13 0) (wy (dt q12)) (a8 Try.underlying45 rfl rfl rfl rfl) ?_
  replace bx15 := bx15.cn hb17
  refine lv (vi p.1) (wy (dt q12)) (af bc rfl bx15 rfl) (lv (vp b3 0) (wy (dt q12)) (a8 Try.underlying45 rfl rfl rfl rfl) ?_)
  replace bx5 := bx5.cn hb17
  refine lv (vi a.1) (wy (dt q12)) (af bc rfl bx5 rfl) (lv (vp b8 0) (wy (dt q12)) (a8 Try.underlying45 rfl rfl rfl rfl) ?_)
  replace bx10 := bx10.cn hb17
  refine lv (vi b.1) (wy (dt q12)) (af bc rfl bx10 rfl) (lv (vi (min a.1 b.1)) (wy (dt q12)) (c9 rfl rfl) (lv (Value.bool (decide ((min a.1 b.1) ≤ p.1))) (wy (dt q12)) (gD (m := p.1) (n := min a.1 b.1) rfl rfl) (lw (Value.bool (decide ((min a.1 b.1) ≤ p.1))) (au rfl (dt q12) rfl) (mv (Value.bool (decide ((min a.1 b.1) ≤ p.1))) ?_))))
  by_cases q22 : (min a.1 b.1) ≤ p.1
  ·
   refine lv (vp b13 0) (wy (dt q22)) (a8 Try.underlying45 rfl rfl rfl rfl) (lv (vi p.1) (wy (dt q22)) (af bc rfl bx15 rfl) (lv (vp b3 0) (wy (dt q22)) (a8 Try.underlying45 rfl rfl rfl rfl) (lv (vi a.1) (wy (dt q22)) (af bc rfl bx5 rfl) (lv (vp b8 0) (wy (dt q22)) (a8 Try.underlying45 rfl rfl rfl rfl) (lv (vi b.1) (wy (dt q22)) (af bc rfl bx10 rfl) (lv (vi (max a.1 b.1)) (wy (dt q22)) (bS rfl rfl) ?_))))))
   refine lv (Value.bool (decide (p.1 ≤ (max a.1 b.1)))) (wy (dt q22)) (j0 (m := p.1) (n := max a.1 b.1) rfl rfl) (lw (Value.bool (decide (p.1 ≤ (max a.1 b.1)))) (au rfl (dt q22) rfl) (mv (Value.bool (decide (p.1 ≤ (max a.1 b.1)))) ?_))
   by_cases q32 : p.1 ≤ (max a.1 b.1)
   ·
    refine lv (vp b13 1) (wy (dt q32)) (a8 Try.underlying45 rfl rfl rfl rfl) (lv (vi p.2) (wy (dt q32)) (af bc rfl bx15 rfl) (lv (vp b3 1) (wy (dt q32)) (a8 Try.underlying45 rfl rfl rfl rfl) (lv (vi a.2) (wy (dt q32)) (af bc rfl bx5 rfl) (lv (vp b8 1) (wy (dt q32)) (a8 Try.underlying45 rfl rfl rfl rfl) (lv (vi b.2) (wy (dt q32)) (af bc rfl bx10 rfl) (lv (vi (min a.2 b.2)) (wy (dt q32)) (c9 rfl rfl) ?_))))))
    refine lv (Value.bool (decide ((min a.2 b.2) ≤ p.2))) (wy (dt q32)) (gD (m := p.2) (n := min a.2 b.2) rfl rfl) (lw (Value.bool (decide ((min a.2 b.2) ≤ p.2))) (au rfl (dt q32) rfl) (mv (Value.bool (decide ((min a.2 b.2) ≤ p.2))) ?_))
    by_cases q42 : (min a.2 b.2) ≤ p.2
    ·
     refine lv (vp b13 1) (wy (dt q42)) (a8 Try.underlying45 rfl rfl rfl rfl) (lv (vi p.2) (wy (dt q42)) (af bc rfl bx15 rfl) (lv (vp b3 1) (wy (dt q42)) (a8 Try.underlying45 rfl rfl rfl rfl) (lv (vi a.2) (wy (dt q42)) (af bc rfl bx5 rfl) (lv (vp b8 1) (wy (dt q42)) (a8 Try.underlying45 rfl rfl rfl rfl) (lv (vi b.2) (wy (dt q42)) (af bc rfl bx10 rfl) (lv (vi (max a.2 b.2)) (wy (dt q42)) (bS rfl rfl) ?_))))))
     refine lv (Value.bool (decide (p.2 ≤ (max a.2 b.2)))) (wy (dt q42)) (j0 (m := p.2) (n := max a.2 b.2) rfl rfl) (lw (Value.bool (decide (p.2 ≤ (max a.2 b.2)))) (au rfl (dt q42) rfl) (ma (Value.bool (decide (p.2 ≤ (max a.2 b.2)))) (aa (al (vs := [Value.bool (decide (p.2 ≤ (max a.2 b.2)))]) Try.func95 (.tmp rfl .nil) ?_))))
     have e0 : (decide (p.2 ≤ (max a.2 b.2)) : Bool) = (decide (bD a b p)) := by
       (rw [decide_eq_decide]; unfold bD jn; omega)
     have C18 := cg [] (ch2.n.seq (ch7.n.seq (ch12.n.seq hb17.n)))
     replace bH := bH.ca C18
     exact ⟨(congrArg (a₁ := decide (p.2 ≤ (max a.2 b.2))) (fun (z0 : Bool) => Ending.returned (Value.bool z0)) e0), bH.below⟩
    refine ae (wn (df q42)) (ae (wn (df q42)) (ae (wn (df q42)) (ae (wn (df q42)) (ae (wn (df q42)) (ae (wn (df q42)) (ae (wn (df q42)) (ae (wn (df q42)) (lw (Value.bool false) (aD rfl (df q42) rfl) (ma (Value.bool false) ?_)))))))))
    refine aa (al (vs := [Value.bool false]) Try.func95 (.tmp rfl .nil) ?_)
    have e0 : (false : Bool) = (decide (bD a b p)) := by
      exact (df (by unfold bD jn; omega)).symm
    have C19 := cg [] (ch2.n.seq (ch7.n.seq (ch12.n.seq hb17.n)))
    replace bH := bH.ca C19
    exact ⟨(congrArg (a₁ := false) (fun (z0 : Bool) => Ending.returned (Value.bool z0)) e0), bH.below⟩
   refine ae (wn (df q32)) (ae (wn (df q32)) (ae (wn (df q32)) (ae (wn (df q32)) (ae (wn (df q32)) (ae (wn (df q32)) (ae (wn (df q32)) (ae (wn (df q32)) (lw (Value.bool false) (aD rfl (df q32) rfl) (mv (Value.bool false) ?_)))))))))
   refine ae (wn rfl) (ae (wn rfl) (ae (wn rfl) (ae (wn rfl) (ae (wn rfl) (ae (wn rfl) (ae (wn rfl) (ae (wn rfl) (lw (Value.bool false) (aD rfl rfl rfl) (ma (Value.bool false) (aa (al (vs := [Value.bool false]) Try.func95 (.tmp rfl .nil) ?_)))))))))))
   have e0 : (false : Bool) = (decide (bD a b p)) := by
     exact (df (by unfold bD jn; omega)).symm
   have C20 := cg [] (ch2.n.seq (ch7.n.seq (ch12.n.seq hb17.n)))
   replace bH := bH.ca C20
   exact ⟨(congrArg (a₁ := false) (fun (z0 : Bool) => Ending.returned (Value.bool z0)) e0), bH.below⟩
  refine ae (wn (df q22)) (ae (wn (df q22)) (ae (wn (df q22)) (ae (wn (df q22)) (ae (wn (df q22)) (ae (wn (df q22)) (ae (wn (df q22)) (ae (wn (df q22)) (lw (Value.bool false) (aD rfl (df q22) rfl) (mv (Value.bool false) ?_)))))))))
  refine ae (wn rfl) (ae (wn rfl) (ae (wn rfl) (ae (wn rfl) (ae (wn rfl) (ae (wn rfl) (ae (wn rfl) (ae (wn rfl) (lw (Value.bool false) (aD rfl rfl rfl) (mv (Value.bool false) (ae (wn rfl) (ae (wn rfl) (ae (wn rfl) (ae (wn rfl) (ae (wn rfl) (ae (wn rfl) (ae (wn rfl) (ae (wn rfl) (lw (Value.bool false) (aD rfl rfl rfl) (ma (Value.bool false) (aa (al (vs := [Value.bool false]) Try.func95 (.tmp rfl .nil) ?_)))))))))))))))))))))
  have e0 : (false : Bool) = (decide (bD a b p)) := by
    exact (df (by unfold bD jn; omega)).symm
  have C21 := cg [] (ch2.n.seq (ch7.n.seq (ch12.n.seq hb17.n)))
  replace bH := bH.ca C21
  exact ⟨(congrArg (a₁ := false) (fun (z0 : Bool) => Ending.returned (Value.bool z0)) e0), bH.below⟩
 refine ae (wn (df q12)) (ae (wn (df q12)) (ae (wn (df q12)) (ae (wn (df q12)) (ae (wn (df q12)) (ae (wn (df q12)) (ae (wn (df q12)) (ae (wn (df q12)) (lw (Value.bool false) (aD rfl (df q12) rfl) (mv (Value.bool false) ?_)))))))))
 refine ae (wn rfl) (ae (wn rfl) (ae (wn rfl) (ae (wn rfl) (ae (wn rfl) (ae (wn rfl) (ae (wn rfl) (ae (wn rfl) (lw (Value.bool false) (aD rfl rfl rfl) (mv (Value.bool false) (ae (wn rfl) (ae (wn rfl) (ae (wn rfl) (ae (wn rfl) (ae (wn rfl) (ae (wn rfl) (ae (wn rfl) (ae (wn rfl) (lw (Value.bool false) (aD rfl rfl rfl) (mv (Value.bool false) ?_)))))))))))))))))))
 refine ae (wn rfl) (ae (wn rfl) (ae (wn rfl) (ae (wn rfl) (ae (wn rfl) (ae (wn rfl) (ae (wn rfl) (ae (wn rfl) (lw (Value.bool false) (aD rfl rfl rfl) (ma (Value.bool false) (aa (al (vs := [Value.bool false]) Try.func95 (.tmp rfl .nil) ?_)))))))))))
 have e0 : (false : Bool) = (decide (bD a b p)) := by
   exact (df (by unfold bD jn; omega)).symm
 have C22 := cg [] (ch2.n.seq (ch7.n.seq (ch12.n.seq hb17.n)))
 replace bH := bH.ca C22
 exact ⟨(congrArg (a₁ := false) (fun (z0 : Bool) => Ending.returned (Value.bool z0)) e0), bH.below⟩
theorem bt (w0 : World) (a : (Int) × (Int)) (b : (Int) × (Int)) :
    Calls Try.prog 103 #[vg [vi a.1, vi a.2], vg [vi b.1, vi b.2]] w0 (fun ee w => ee = .returned (vi (aM a b)) ∧ cQ w0.heap.size w0 w) := by
 refine aC Try.func103 rfl (Nat.le_of_ble_eq_true rfl) ?_
 have bH := bf.start w0
 refine a7 (a6 rfl (bY rfl (bA c0 (is 1) (1, 0) rfl rfl ?_)))
 intro g4 w1 b3 ch2 bx5
 replace bx5 : Bx g4 (is 1) w1 b3 [vi a.1, vi a.2] := bx5
 refine lo (bA g4 (is 2) (2, 0) rfl rfl ?_)
 intro g9 w6 b8 ch7 bx10
 replace bx10 : Bx g9 (is 2) w6 b8 [vi b.1, vi b.2] := bx10
 refine ai 0 (aa (a7 (dH g9 (bR []) k8 ?_)))
 intro w12 ch11
 refine ht 0 rfl (aO.refl _ _ _) (fun w' hw' => a8 Try.underlying45 rfl rfl rfl rfl) ?_
 replace bx5 := (bx5.cn ch7).cn ch11
 refine ht 1 rfl (aO.refl _ _ _) (fun w' hw' => af bc rfl (bx5.chg hw' (bB rfl)) rfl) (ht 2 rfl (aO.refl _ _ _) (fun w' hw' => a8 Try.underlying45 rfl rfl rfl rfl) ?_)
 replace bx10 := bx10.cn ch11
 refine ht 3 rfl (aO.refl _ _ _) (fun w' hw' => af bc rfl (bx10.chg hw' (bB rfl)) rfl) (ht 5 rfl (aO.refl _ _ _) (fun w' hw' => a8 Try.underlying45 rfl rfl rfl rfl) (ht 6 rfl (aO.refl _ _ _) (fun w' hw' => af bc rfl (bx5.chg hw' (bB rfl)) rfl) (ht 7 rfl (aO.refl _ _ _) (fun w' hw' => a8 Try.underlying45 rfl rfl rfl rfl) (ht 8 rfl (aO.refl _ _ _) (fun w' hw' => af bc rfl (bx10.chg hw' (bB rfl)) rfl) (aB 4 rfl (by kernel_rfl) rfl (aF (v := vi (bE a.1 b.1)) (aw (vals := [vi a.1, vi b.1]) Try.func59 eX ff rfl) (dA w12 a.1 b.1) ?_))))))
 intro w13 hb14
 replace hb14 := ak hb14 g9
 have hs15 : aO (bR []) _ _ _ _ := hb14.n
 refine ⟨hs15.same, ?_⟩
 refine aB 9 rfl (by kernel_rfl) rfl (aF (v := vi (bE a.2 b.2)) (aw (vals := [vi a.2, vi b.2]) Try.func59 eX ff rfl) (dA w13 a.2 b.2) ?_)
 intro w16 hb17
 replace hb17 := ak hb17 g9
 have hs18 := hs15.seq (hb17.n)
 refine ⟨hs18.same, ?_⟩
 refine aB 10 rfl (by kernel_rfl) rfl (aJ (α := Int) g9 (is 3) (is 3) (3, 0) rfl [bE a.1 b.1, bE a.2 b.2] Try.underlying39 bc (by decide) (by decide) (vs := [(0, vi (bE a.1 b.1)), (1, vi (bE a.2 b.2))]) rfl rfl (.cons rfl (.cons rfl .nil)) ?_)
 intro g19 w20 v21 ch22 o23
 have hs24 := hs18.seq (ch22.n)
 refine ⟨hs24.same, ?_⟩
 refine aB 11 rfl (by kernel_rfl) rfl (aF (v := vi (io ([bE a.1 b.1, bE a.2 b.2]))) (aw (vals := [v21]) Try.func58 lq lJ rfl) (qW w20 ([bE a.1 b.1, bE a.2 b.2]) v21 (o23.flat).ro) ?_)
 intro w25 hb26
 replace hb26 := ak hb26 g19
 have hs27 := hs24.seq (hb26.n)
 refine ⟨hs27.same, ?_⟩
 refine ht (v := vi (io ([bE a.1 b.1, bE a.2 b.2]))) 12 rfl hs27.same (fun w' hw' => bP rfl) (bm (by kernel_rfl) (al (vs := [vi (io ([bE a.1 b.1, bE a.2 b.2]))]) Try.func103 (.tmp rfl .nil) ?_))
 have e0 : (io ([bE a.1 b.1, bE a.2 b.2]) : Int) = (aM a b) := by
   exact (nF _ _).symm
 have C28 := cg [] (ch2.n.seq (ch7.n.seq (ch11.n.seq (hb14.n.seq (hb17.n.seq (ch22.n.seq hb26.n))))))
 replace bH := bH.ca C28
 exact ⟨(congrArg (a₁ := io ([bE a.1 b.1, bE a.2 b.2])) (fun (z0 : Int) => Ending.returned (vi z0)) e0), bH.below⟩
theorem lg (w0 : World) (p : (Int) × (Int)) :
    Calls Try.prog 60 #[vg [vi p.1, vi p.2]] w0 (fun ee w => ee = .returned (vi (bN p)) ∧ cQ w0.heap.size w0 w) := by
 refine aC Try.func60 rfl (Nat.le_of_ble_eq_true rfl) ?_
 have bH := bf.start w0
 refine a7 (a6 rfl (bY rfl (bA c0 (is 1) (1, 0) rfl rfl ?_)))
 intro g4 w1 b3 ch2 bx5
 replace bx5 : Bx g4 (is 1) w1 b3 [vi p.1, vi p.2] := bx5
 refine ai 0 (aa (a7 (a7 (a6 rfl (lx (a8 Try.underlying45 rfl rfl rfl rfl) (lx (af bc rfl bx5 rfl) (lx (bQ (m := p.1) (n := 0) rfl rfl) (mv (Value.bool (decide (0 < p.1))) ?_))))))))
 by_cases q6 : 0 < p.1
 ·
  refine ae (wn (dt q6)) (ae (wn (dt q6)) (ae (wn (dt q6)) (ae (wn (dt q6)) (ae (dd rfl rfl rfl) (ae (dd rfl rfl rfl) (ae (dd rfl rfl rfl) (ae (wn (dt q6)) (lw (Value.bool true) (au rfl (dt q6) rfl) (aa ?_)))))))))
  refine ah rfl rfl (a7 ?_)
  clear bx5
  refine a6 rfl (ai 0 (aa (al (vs := [vi 0]) Try.func60 (.tmp rfl .nil) ?_)))
  have e0 : (0 : Int) = (bN p) := by
    unfold bN
    rw [if_pos (by omega)]
  replace bH := bH.cn ch2
  exact ⟨(congrArg (a₁ := 0) (fun (z0 : Int) => Ending.returned (vi z0)) e0), bH.below⟩
 refine lv (vp b3 0) (wy (df q6)) (a8 Try.underlying45 rfl rfl rfl rfl) (lv (vi p.1) (wy (df q6)) (af bc rfl bx5 rfl) (lv (Value.bool (decide (p.1 = 0))) (wy (df q6)) (bO (m := p.1) (n := 0) rfl rfl) (lv (Value.bool (decide (p.1 = 0))) (wy (df q6)) (aI rfl) ?_)))
 by_cases q10 : p.1 = 0
 ·
  refine lv (vp b3 1) (wy (dt q10)) (a8 Try.underlying45 rfl rfl rfl rfl) (lv (vi p.2) (wy (dt q10)) (af bc rfl bx5 rfl) (lv (Value.bool (decide (0 < p.2))) (wy (dt q10)) (bQ (m := p.2) (n := 0) rfl rfl) (lv (Value.bool (decide (0 < p.2))) (wy (df q6)) (au rfl (dt q10) rfl) (lw (Value.bool (decide (0 < p.2))) (aD rfl (df q6) rfl) (aa ?_)))))
  by_cases p1 : 0 < p.2
  ·
   refine ah rfl (dt p1) (a7 ?_)
   clear bx5
   refine a6 rfl (ai 0 (aa (al (vs := [vi 0]) Try.func60 (.tmp rfl .nil) ?_)))
   have e0 : (0 : Int) = (bN p) := by
     unfold bN
     rw [if_pos (by omega)]
   replace bH := bH.cn ch2
   exact ⟨(congrArg (a₁ := 0) (fun (z0 : Int) => Ending.returned (vi z0)) e0), bH.below⟩
  refine aj rfl (df p1) (am (a7 ?_))
  clear bx5
  refine a6 rfl (ai 1 (aa (al (vs := [vi 1]) Try.func60 (.tmp rfl .nil) ?_)))
  have e0 : (1 : Int) = (bN p) := by
    unfold bN
    rw [if_neg (by omega)]
  replace bH := bH.cn ch2
  exact ⟨(congrArg (a₁ := 1) (fun (z0 : Int) => Ending.returned (vi z0)) e0), bH.below⟩
 refine ae (wn (df q10)) (ae (wn (df q10)) (ae (wn (df q10)) (lv (Value.bool false) (wy (df q6)) (aD rfl (df q10) rfl) (lw (Value.bool false) (aD rfl (df q6) rfl) (aa (aj rfl rfl (am (a7 ?_))))))))
 clear bx5
 refine a6 rfl (ai 1 (aa (al (vs := [vi 1]) Try.func60 (.tmp rfl .nil) ?_)))
 have e0 : (1 : Int) = (bN p) := by
   unfold bN
   rw [if_neg (by omega)]
 replace bH := bH.cn ch2
 exact ⟨(congrArg (a₁ := 1) (fun (z0 : Int) => Ending.returned (vi z0)) e0), bH.below⟩
end TL
