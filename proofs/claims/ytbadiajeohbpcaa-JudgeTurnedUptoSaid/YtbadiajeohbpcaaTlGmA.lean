import Derived.Test.YtbadiajeohbpcaaTlP2
import Derived.Test.YtbadiajeohbpcaaProg
set_option linter.all false
set_option maxRecDepth 20000
namespace TL
open Go Go.Proofs
theorem kX : Try.prog.follows .mixedOrders = true := by kernel_rfl
theorem ba : Tp Try.prog 3 false 1 8 (.int .i64 0) := Tp.of (by kernel_rfl)
theorem ad : Tp Try.prog 45 true 2 16 (.agg #[.int .i64 0, .int .i64 0]) := Tp.of (by kernel_rfl)
theorem cE : Try.f57.body.isNone = false := rfl
theorem cC : (Try.f57.name == "runtime.NumGoroutine") = false := by decide +kernel
theorem mg : Try.f58.body.isNone = false := rfl
theorem lZ : (Try.f58.name == "runtime.NumGoroutine") = false := by decide +kernel
theorem fc : Try.f59.body.isNone = false := rfl
theorem fg : (Try.f59.name == "runtime.NumGoroutine") = false := by decide +kernel
theorem ms : Try.f61.body.isNone = false := rfl
theorem me : (Try.f61.name == "runtime.NumGoroutine") = false := by decide +kernel
theorem ql : Try.f71.body.isNone = false := rfl
theorem qZ : (Try.f71.name == "runtime.NumGoroutine") = false := by decide +kernel
theorem m6 : Try.f74.body.isNone = false := rfl
theorem lW : (Try.f74.name == "runtime.NumGoroutine") = false := by decide +kernel
theorem gA : Try.f93.body.isNone = false := rfl
theorem gH : (Try.f93.name == "runtime.NumGoroutine") = false := by decide +kernel
theorem kL (w0 : World) (x : Int) :
    Calls Try.prog 74 #[vi x] w0 (fun ee w => ee = .returned (Value.bool false) ∧ cT w0.heap.size w0 w) := by
 refine aB Try.func74 rfl (Nat.le_of_ble_eq_true rfl) ?_
 have bH := b9.start w0
 refine a7 (a6 rfl (ma (Value.bool false) (aa (a7 (a6 rfl (mi x (mi x (lx (dz (m := x) (n := x) rfl rfl) (ma (Value.bool (!(decide (x = x)))) (aa (al (vs := [Value.bool (!(decide (x = x)))]) Try.func74 (.tmp rfl .nil) ?_)))))))))))
 have e0 : (!(decide (x = x)) : Bool) = (false) := by
   simp
 exact ⟨(congrArg (a₁ := !(decide (x = x))) (fun (z0 : Bool) => Ending.returned (Value.bool z0)) e0), bH.below⟩
theorem dE (w0 : World) (x : Int) (y : Int) :
    Calls Try.prog 59 #[vi x, vi y] w0 (fun ee w => ee = .returned (vi (bv x y)) ∧ cT w0.heap.size w0 w) := by
 refine aB Try.func59 rfl (Nat.le_of_ble_eq_true rfl) ?_
 have bH := b9.start w0
 refine a7 (a6 rfl (ai 0 (aa (a7 (a6 rfl (mi x (lo (aD (v := Value.bool false) (av (vals := [vi x]) Try.func74 m6 lW rfl) (kL w0 x) ?_))))))))
 intro w1 hb2
 replace hb2 := ak hb2 c0
 refine ma (Value.bool false) (aa (a7 (a6 rfl (mi y (lo (aD (v := Value.bool false) (av (vals := [vi y]) Try.func74 m6 lW rfl) (kL w1 y) ?_))))))
 intro w3 hb4
 replace hb4 := ak hb4 c0
 refine ma (Value.bool false) (aa (a7 (a7 (a6 rfl (mv (Value.bool false) (aa (aj rfl rfl (am (a7 (a7 (a6 rfl (mv (Value.bool false) (aa (aj rfl rfl ?_))))))))))))))
 refine am (a7 (a7 (a6 rfl (mi x (mi y (lx (b5 (m := x) (n := y) rfl rfl) (aa ?_)))))))
 by_cases p9 : x < y
 ·
  refine ah rfl (dt p9) (a7 (a6 rfl (ai (-1) (aa (al (vs := [vi (-1)]) Try.func59 (.tmp rfl .nil) ?_)))))
  have e0 : (-1 : Int) = (bv x y) := by
    unfold bv
    rw [if_pos ‹_›]
  replace bH := bH.cn hb2
  replace bH := bH.cn hb4
  exact ⟨(congrArg (a₁ := -1) (fun (z0 : Int) => Ending.returned (vi z0)) e0), bH.below⟩
 refine aj rfl (df p9) (am (a7 (a7 (a6 rfl (mi x (mi y (lx (cd (m := x) (n := y) rfl rfl) (aa ?_))))))))
 by_cases p11 : y < x
 ·
  refine ah rfl (dt p11) (a7 (a6 rfl (ai 1 (aa (al (vs := [vi 1]) Try.func59 (.tmp rfl .nil) ?_)))))
  have e0 : (1 : Int) = (bv x y) := by
    unfold bv
    rw [if_neg ‹_›, if_pos ‹_›]
  replace bH := bH.cn hb2
  replace bH := bH.cn hb4
  exact ⟨(congrArg (a₁ := 1) (fun (z0 : Int) => Ending.returned (vi z0)) e0), bH.below⟩
 refine aj rfl (df p11) (am (a7 (a6 rfl (ai 0 (aa (al (vs := [vi 0]) Try.func59 (.tmp rfl .nil) ?_))))))
 have e0 : (0 : Int) = (bv x y) := by
   unfold bv
   rw [if_neg ‹_›, if_neg ‹_›]
 replace bH := bH.cn hb2
 replace bH := bH.cn hb4
 exact ⟨(congrArg (a₁ := 0) (fun (z0 : Int) => Ending.returned (vi z0)) e0), bH.below⟩
theorem rZ (w0 : World) (vals : List Int) (vals_v : Value) (hvals_v : Ro w0 vals_v vals) :
    Calls Try.prog 58 #[vals_v] w0 (fun ee w => ee = .returned (vi (ip vals)) ∧ cT w0.heap.size w0 w) := by
 refine aB Try.func58 rfl (Nat.le_of_ble_eq_true rfl) ?_
 have bH := b9.start w0
 have Rvals := hvals_v.sl
 refine a7 (a6 rfl (ai 0 (aa (a7 (a6 rfl (ai 0 (aa (a7 (a7 (a6 rfl (mv vals_v ?_)))))))))))
 have len1 := (Rvals).small
 refine lx (b6 Try.underlying39 rfl Rvals) (mi 0 (aa (au ?_)))
 refine aZ (σ := Nat × aM) (fun ⟨k, gq⟩ f w => b9 w0 gq w ∧ f 3 = vi 0 ∧ f 6 = vals_v ∧ f 7 = vi (vals.length : Int) ∧ f 8 = vi (k : Int) ∧ Sl gq (is 0) w vals_v vals ∧ (k : Int) ≤ ((vals.length : Int) : Int) ∧ (∀ j : Nat, j < k → gI vals (j : Int) = 0)) (fun ⟨k, gq⟩ => Int.toNat (((vals.length : Int) : Int) - (k : Int))) (0, c0) ?_ ?_
 · exact ⟨bH, rfl, rfl, rfl, rfl, Rvals, by omega, by intro j hj; omega⟩
 clear Rvals bH
 rintro ⟨k, g4⟩ f2 w3 ⟨bH, zs3, zs6, zs7, zs8, Rvals, hle_k, hinv⟩ back3
 refine a7 (a6 rfl (lx (b5 (m := (k : Int)) (n := (vals.length : Int)) zs8 zs7) (aa (a7 ?_))))
 by_cases p3 : (k : Int) < (vals.length : Int)
 ·
  refine ah rfl (dt p3) (am (a7 (au (a7 (a6 rfl (lx (ao (v := vals_v) (i := (k : Int)) Try.underlying39 rfl zs6 Rvals zs8 (by omega) (by omega)) (lx (c6 (v := vals_v) (i := (k : Int)) ba rfl Rvals (by omega) (by omega) (by decide) rfl) (ai (gI vals (k : Int)) (aa (a7 (a6 rfl (mi (gI vals (k : Int)) ?_))))))))))))
  refine mz zs3 (lx (dz (m := (gI vals (k : Int))) (n := 0) rfl rfl) (aa ?_))
  by_cases p5 : (gI vals (k : Int)) = 0
  ·
   refine aj rfl (congrArg Bool.not (dt p5)) (am (aq (a6 rfl (lx (aV (m := (k : Int)) (n := 1) zs8 rfl (by omega)) (mi ((k : Int) + 1) (aa ?_))))))
   refine back3 (k + 1, g4) _ _ ⟨bH, zs3, zs6, zs7, rfl, Rvals, by omega, ?_⟩ ?_
   · show ∀ j : Nat, j < (k + 1) → gI vals (j : Int) = 0
     intro j hj
     by_cases e0 : j = k
     · subst e0; assumption
     · exact hinv j (by omega)
   · show Int.toNat (((vals.length : Int) : Int) - ((k + 1) : Int)) < Int.toNat (((vals.length : Int) : Int) - (k : Int))
     omega
  refine ah rfl (congrArg Bool.not (df p5)) (a7 (a6 rfl (mi (gI vals (k : Int)) (ai (gI vals (k : Int)) (aa (al (vs := [vi (gI vals (k : Int))]) Try.func58 (.tmp rfl .nil) ?_))))))
  have e0 : ((gI vals (k : Int)) : Int) = (ip vals) := by
    exact oI hinv ‹_› ‹_›
  exact ⟨(congrArg (a₁ := (gI vals (k : Int))) (fun (z0 : Int) => Ending.returned (vi z0)) e0), bH.below⟩
 refine aj rfl (df p3) (aS rfl (a7 (a6 rfl (mz zs3 (ai 0 (aa (al (vs := [vi 0]) Try.func58 (.tmp rfl .nil) ?_)))))))
 have e0 : (0 : Int) = (ip vals) := by
   exact pA hinv ‹_›
 exact ⟨(congrArg (a₁ := 0) (fun (z0 : Int) => Ending.returned (vi z0)) e0), bH.below⟩
theorem ci (w0 : World) (b : (Int) × (Int)) (a : (Int) × (Int)) (hb : dX b) (ha : dX a) :
    Calls Try.prog 57 #[vg [vi b.1, vi b.2], vg [vi a.1, vi a.2]] w0 (fun ee w => ee = .returned (vg [vi ((aQ b a).1), vi ((aQ b a).2)]) ∧ cT w0.heap.size w0 w) := by
 refine aB Try.func57 rfl (Nat.le_of_ble_eq_true rfl) ?_
 have bH := b9.start w0
 unfold dX at hb ha
 refine a7 (a6 rfl (bQ rfl (bA c0 (is 1) (1, 0) rfl rfl ?_)))
 intro g4 w1 b3 ch2 bx5
 replace bx5 : Bx g4 (is 1) w1 b3 [vi b.1, vi b.2] := bx5
 refine lo (bA g4 (is 2) (2, 0) rfl rfl ?_)
 intro g9 w6 b8 ch7 bx10
 replace bx10 : Bx g9 (is 2) w6 b8 [vi a.1, vi a.2] := bx10
 refine lo (aR g9 (is 3) (3, 0) rfl ad ?_)
 intro g14 w11 b13 ch12 bx15
 replace bx15 : Bx g14 (is 3) w11 b13 [vi 0, vi 0] := bx15
 refine aa (a7 (a6 rfl (lx (a8 Try.underlying45 rfl rfl rfl rfl) ?_)))
 replace bx5 := (bx5.cn ch7).cn ch12
 refine lx (af ba rfl bx5 rfl) (lx (a8 Try.underlying45 rfl rfl rfl rfl) ?_)
 replace bx10 := bx10.cn ch12
 refine lx (af ba rfl bx10 rfl) (lx (dN (m := b.1) (n := a.1) rfl rfl (by omega)) (lx (a8 Try.underlying45 rfl rfl rfl rfl) (lx (af ba rfl bx5 rfl) (lx (a8 Try.underlying45 rfl rfl rfl rfl) (lx (af ba rfl bx10 rfl) (lx (dN (m := b.2) (n := a.2) rfl rfl (by omega)) (lw (vg [vi (b.1 - a.1), vi (b.2 - a.2)]) (bM (vs := [(0, vi (b.1 - a.1)), (1, vi (b.2 - a.2))]) rfl (by kernel_rfl)) (lo (ag (cs' := [vi (b.1 - a.1), vi (b.2 - a.2)]) ad rfl rfl bx15 rfl (Nat.le_of_ble_eq_true rfl) (AllOne.all (.cons rfl (.cons rfl .nil))) rfl ?_)))))))))
 intro w16 ch17 bx18
 clear bx15
 refine aa (al (vs := [vg [vi (b.1 - a.1), vi (b.2 - a.2)]]) Try.func57 (.cell rfl (dC (ds := [vi (b.1 - a.1), vi (b.2 - a.2)]) ad bx18 rfl rfl) .nil) ?_)
 have e0 : ((b.1 - a.1, b.2 - a.2) : (Int) × (Int)) = (aQ b a) := by
   rfl
 have C19 := cg [3] (ch2.n.seq (ch7.n.seq (ch12.n.seq (ch17.l rfl))))
 replace bH := bH.ca C19
 exact ⟨(congrArg (a₁ := (b.1 - a.1, b.2 - a.2)) (fun (z0 : (Int) × (Int)) => Ending.returned (vg [vi z0.1, vi z0.2])) e0), bH.below⟩
theorem kr (w0 : World) (a : (Int) × (Int)) (b : (Int) × (Int)) (ha : tB a) (hb : tB b) :
    Calls Try.prog 61 #[vg [vi a.1, vi a.2], vg [vi b.1, vi b.2]] w0 (fun ee w => ee = .returned (vi (cM a b)) ∧ cT w0.heap.size w0 w) := by
 refine aB Try.func61 rfl (Nat.le_of_ble_eq_true rfl) ?_
 have bH := b9.start w0
 unfold tB at hb ha
 have h1 := ff ha.1 hb.2
 have h2 := ff ha.2 hb.1
 refine a7 (a6 rfl (bQ rfl (bA c0 (is 1) (1, 0) rfl rfl ?_)))
 intro g4 w1 b3 ch2 bx5
 replace bx5 : Bx g4 (is 1) w1 b3 [vi a.1, vi a.2] := bx5
 refine lo (bA g4 (is 2) (2, 0) rfl rfl ?_)
 intro g9 w6 b8 ch7 bx10
 replace bx10 : Bx g9 (is 2) w6 b8 [vi b.1, vi b.2] := bx10
 refine ai 0 (aa (a7 (a6 rfl (lx (a8 Try.underlying45 rfl rfl rfl rfl) ?_))))
 replace bx5 := bx5.cn ch7
 refine lx (af ba rfl bx5 rfl) (lx (a8 Try.underlying45 rfl rfl rfl rfl) (lx (af ba rfl bx10 rfl) (lx (dD (m := a.1) (n := b.2) rfl rfl (by omega)) (lx (a8 Try.underlying45 rfl rfl rfl rfl) (lx (af ba rfl bx5 rfl) (lx (a8 Try.underlying45 rfl rfl rfl rfl) (lx (af ba rfl bx10 rfl) (lx (dD (m := a.2) (n := b.1) rfl rfl (by omega)) (lx (dN (m := a.1 * b.2) (n := a.2 * b.1) rfl rfl (by omega)) ?_)))))))))
 refine ai ((a.1 * b.2) - (a.2 * b.1)) (aa (al (vs := [vi ((a.1 * b.2) - (a.2 * b.1))]) Try.func61 (.tmp rfl .nil) ?_))
 have e0 : ((a.1 * b.2) - (a.2 * b.1) : Int) = (cM a b) := by
   rfl
 replace bH := bH.cn ch2
 replace bH := bH.cn ch7
 exact ⟨(congrArg (a₁ := (a.1 * b.2) - (a.2 * b.1)) (fun (z0 : Int) => Ending.returned (vi z0)) e0), bH.below⟩
theorem gK (w0 : World) (a : (Int) × (Int)) (b : (Int) × (Int)) (c : (Int) × (Int)) (ha : dX a) (hb : dX b) (hc : dX c) :
    Calls Try.prog 93 #[vg [vi a.1, vi a.2], vg [vi b.1, vi b.2], vg [vi c.1, vi c.2]] w0 (fun ee w => ee = .returned (vi (bk a b c)) ∧ cT w0.heap.size w0 w) := by
 refine aB Try.func93 rfl (Nat.le_of_ble_eq_true rfl) ?_
 have bH := b9.start w0
 have hba := il ha hb
 have hca := il ha hc
 refine a7 (a6 rfl (bQ rfl (bA c0 (is 1) (1, 0) rfl rfl ?_)))
 intro g4 w1 b3 ch2 bx5
 replace bx5 : Bx g4 (is 1) w1 b3 [vi a.1, vi a.2] := bx5
 refine lo (bA g4 (is 2) (2, 0) rfl rfl ?_)
 intro g9 w6 b8 ch7 bx10
 replace bx10 : Bx g9 (is 2) w6 b8 [vi b.1, vi b.2] := bx10
 refine lo (bA g9 (is 3) (3, 0) rfl rfl ?_)
 intro g14 w11 b13 ch12 bx15
 replace bx15 : Bx g14 (is 3) w11 b13 [vi c.1, vi c.2] := bx15
 refine ai 0 (aa (a7 (cj g14 rfl kX (by kernel_rfl) ?_)))
 intro w17 ch16
 replace bx10 := (bx10.cn ch12).cn ch16
 refine qx (fun w' hw' => ab (ds := [vi b.1, vi b.2]) ad rfl (bx10.bel hw') rfl rfl) ?_
 have C18 := cg [] (ch7.n.seq (ch12.n.seq ch16.n))
 replace bx5 := bx5.ca C18
 refine qx (fun w' hw' => ab (ds := [vi a.1, vi a.2]) ad rfl (bx5.bel hw') rfl rfl) (dY (v := vg [vi ((aQ b a).1), vi ((aQ b a).2)]) rfl (fun w' hw' => av (vals := [vg [vi b.1, vi b.2], vg [vi a.1, vi a.2]]) Try.func57 cE cC rfl) (fun w' hw' => (ci w' b a ‹_› ‹_›).mono fun e w2 h2 => ⟨h2.1, hw'.trans (h2.2.mono hw'.size)⟩) ?_)
 replace bx15 := bx15.cn ch16
 refine qx (fun w' hw' => ab (ds := [vi c.1, vi c.2]) ad rfl (bx15.bel hw') rfl rfl) (qx (fun w' hw' => ab (ds := [vi a.1, vi a.2]) ad rfl (bx5.bel hw') rfl rfl) (dY (v := vg [vi ((aQ c a).1), vi ((aQ c a).2)]) rfl (fun w' hw' => av (vals := [vg [vi c.1, vi c.2], vg [vi a.1, vi a.2]]) Try.func57 cE cC rfl) (fun w' hw' => (ci w' c a ‹_› ‹_›).mono fun e w2 h2 => ⟨h2.1, hw'.trans (h2.2.mono hw'.size)⟩) ?_))
 refine dY (v := vi (cM (aQ b a) (aQ c a))) rfl (fun w' hw' => av (vals := [vg [vi ((aQ b a).1), vi ((aQ b a).2)], vg [vi ((aQ c a).1), vi ((aQ c a).2)]]) Try.func61 ms me rfl) (fun w' hw' => (kr w' (aQ b a) (aQ c a) ‹_› ‹_›).mono fun e w2 h2 => ⟨h2.1, hw'.trans (h2.2.mono hw'.size)⟩) (dY (v := vi (bv (cM (aQ b a) (aQ c a)) 0)) rfl (fun w' hw' => av (vals := [vi (cM (aQ b a) (aQ c a)), vi 0]) Try.func59 fc fg rfl) (fun w' hw' => (dE w' (cM (aQ b a) (aQ c a)) 0).mono fun e w2 h2 => ⟨h2.1, hw'.trans (h2.2.mono hw'.size)⟩) (qv (vi (bv (cM (aQ b a) (aQ c a)) 0)) (fun w' hw' => bV rfl) (dc ?_)))
 intro w19 hc20
 replace hc20 := ak hc20 g14
 refine al (vs := [vi (bv (cM (aQ b a) (aQ c a)) 0)]) Try.func93 (.tmp rfl .nil) ?_
 have e0 : (bv (cM (aQ b a) (aQ c a)) 0 : Int) = (bk a b c) := by
   rfl
 have C21 := cg [] (ch2.n.seq (ch7.n.seq (ch12.n.seq (ch16.n.seq hc20.n))))
 replace bH := bH.ca C21
 exact ⟨(congrArg (a₁ := bv (cM (aQ b a) (aQ c a)) 0) (fun (z0 : Int) => Ending.returned (vi z0)) e0), bH.below⟩
theorem sA (w0 : World) (p : (Int) × (Int)) :
    Calls Try.prog 71 #[vg [vi p.1, vi p.2]] w0 (fun ee w => ee = .returned (Value.bool (decide (c5 p))) ∧ cT w0.heap.size w0 w) := by
 refine aB Try.func71 rfl (Nat.le_of_ble_eq_true rfl) ?_
 have bH := b9.start w0
 refine a7 (a6 rfl (bQ rfl (bA c0 (is 1) (1, 0) rfl rfl ?_)))
 intro g4 w1 b3 ch2 bx5
 replace bx5 : Bx g4 (is 1) w1 b3 [vi p.1, vi p.2] := bx5
 refine ma (Value.bool false) (aa (a7 (a6 rfl (lx (a8 Try.underlying45 rfl rfl rfl rfl) (lx (af ba rfl bx5 rfl) (lx (fq (m := p.1) (n := -1048576) rfl rfl) (mv (Value.bool (decide ((-1048576) ≤ p.1))) ?_)))))))
 by_cases q6 : (-1048576) ≤ p.1
 ·
  refine lv (vp b3 0) (wy (dt q6)) (a8 Try.underlying45 rfl rfl rfl rfl) (lv (vi p.1) (wy (dt q6)) (af ba rfl bx5 rfl) (lv (Value.bool (decide (p.1 ≤ 1048576))) (wy (dt q6)) (gB (m := p.1) (n := 1048576) rfl rfl) (lw (Value.bool (decide (p.1 ≤ 1048576))) (az rfl (dt q6) rfl) (mv (Value.bool (decide (p.1 ≤ 1048576))) ?_))))
  by_cases q11 : p.1 ≤ 1048576
  ·
   refine lv (vp b3 1) (wy (dt q11)) (a8 Try.underlying45 rfl rfl rfl rfl) (lv (vi p.2) (wy (dt q11)) (af ba rfl bx5 rfl) (lv (Value.bool (decide ((-1048576) ≤ p.2))) (wy (dt q11)) (fq (m := p.2) (n := -1048576) rfl rfl) (lw (Value.bool (decide ((-1048576) ≤ p.2))) (az rfl (dt q11) rfl) (mv (Value.bool (decide ((-1048576) ≤ p.2))) ?_))))
   by_cases q16 : (-1048576) ≤ p.2
   ·
    refine lv (vp b3 1) (wy (dt q16)) (a8 Try.underlying45 rfl rfl rfl rfl) (lv (vi p.2) (wy (dt q16)) (af ba rfl bx5 rfl) (lv (Value.bool (decide (p.2 ≤ 1048576))) (wy (dt q16)) (gB (m := p.2) (n := 1048576) rfl rfl) (lw (Value.bool (decide (p.2 ≤ 1048576))) (az rfl (dt q16) rfl) (ma (Value.bool (decide (p.2 ≤ 1048576))) (aa (al (vs := [Value.bool (decide (p.2 ≤ 1048576))]) Try.func71 (.tmp rfl .nil) ?_))))))
    have e0 : (decide (p.2 ≤ 1048576) : Bool) = (decide (c5 p)) := by
      (rw [decide_eq_decide]; unfold c5; omega)
    replace bH := bH.cn ch2
    exact ⟨(congrArg (a₁ := decide (p.2 ≤ 1048576)) (fun (z0 : Bool) => Ending.returned (Value.bool z0)) e0), bH.below⟩
   refine ae (wn (df q16)) (ae (wn (df q16)) (ae (wn (df q16)) (lw (Value.bool false) (aC rfl (df q16) rfl) (ma (Value.bool false) (aa (al (vs := [Value.bool false]) Try.func71 (.tmp rfl .nil) ?_))))))
   have e0 : (false : Bool) = (decide (c5 p)) := by
     exact (df (by unfold c5; omega)).symm
   replace bH := bH.cn ch2
   exact ⟨(congrArg (a₁ := false) (fun (z0 : Bool) => Ending.returned (Value.bool z0)) e0), bH.below⟩
  refine ae (wn (df q11)) (ae (wn (df q11)) (ae (wn (df q11)) (lw (Value.bool false) (aC rfl (df q11) rfl) (mv (Value.bool false) (ae (wn rfl) (ae (wn rfl) (ae (wn rfl) (lw (Value.bool false) (aC rfl rfl rfl) (ma (Value.bool false) (aa (al (vs := [Value.bool false]) Try.func71 (.tmp rfl .nil) ?_)))))))))))
  have e0 : (false : Bool) = (decide (c5 p)) := by
    exact (df (by unfold c5; omega)).symm
  replace bH := bH.cn ch2
  exact ⟨(congrArg (a₁ := false) (fun (z0 : Bool) => Ending.returned (Value.bool z0)) e0), bH.below⟩
 refine ae (wn (df q6)) (ae (wn (df q6)) (ae (wn (df q6)) (lw (Value.bool false) (aC rfl (df q6) rfl) (mv (Value.bool false) (ae (wn rfl) (ae (wn rfl) (ae (wn rfl) (lw (Value.bool false) (aC rfl rfl rfl) (mv (Value.bool false) (ae (wn rfl) (ae (wn rfl) (ae (wn rfl) (lw (Value.bool false) (aC rfl rfl rfl) ?_)))))))))))))
 refine ma (Value.bool false) (aa (al (vs := [Value.bool false]) Try.func71 (.tmp rfl .nil) ?_))
 have e0 : (false : Bool) = (decide (c5 p)) := by
   exact (df (by unfold c5; omega)).symm
 replace bH := bH.cn ch2
 exact ⟨(congrArg (a₁ := false) (fun (z0 : Bool) => Ending.returned (Value.bool z0)) e0), bH.below⟩
theorem ec (w0 : World) (ps : List ((Int) × (Int))) (ps_v : Value) (hps_v : Ro w0 ps_v ps) :
    Calls Try.prog 54 #[ps_v] w0 (fun ee w => ee = .returned (Value.bool (decide (d7 ps))) ∧ cT w0.heap.size w0 w) := by
 refine aB Try.func54 rfl (Nat.le_of_ble_eq_true rfl) ?_
 have bH := b9.start w0
 have Rps := hps_v.sl
 refine a7 (a6 rfl (ma (Value.bool false) (aa (a7 (a7 (a6 rfl (mv ps_v ?_)))))))
 have len1 := (Rps).small
 refine lx (b6 Try.underlying25 rfl Rps) (lx (cd (m := (ps.length : Int)) (n := 4096) rfl rfl) (aa ?_))
 by_cases p1 : 4096 < (ps.length : Int)
 ·
  refine ah rfl (dt p1) (a7 (a6 rfl (ma (Value.bool false) (aa (al (vs := [Value.bool false]) Try.func54 (.tmp rfl .nil) ?_)))))
  have e0 : (false : Bool) = (decide (d7 ps)) := by
    exact (df (fun h => by have := h.1; omega)).symm
  exact ⟨(congrArg (a₁ := false) (fun (z0 : Bool) => Ending.returned (Value.bool z0)) e0), bH.below⟩
 refine aj rfl (df p1) (am (a7 (a7 (a6 rfl (mv ps_v (lx (b6 Try.underlying25 rfl Rps) (mi 0 (aa (au ?_)))))))))
 refine aZ (σ := Nat × aM) (fun ⟨k, gq⟩ f w => b9 w0 gq w ∧ f 8 = ps_v ∧ f 9 = vi (ps.length : Int) ∧ f 10 = vi (k : Int) ∧ Sl gq (is 0) w ps_v ps ∧ (k : Int) ≤ ((ps.length : Int) : Int) ∧ (∀ j : Nat, j < k → c5 (gI ps (j : Int)))) (fun ⟨k, gq⟩ => Int.toNat (((ps.length : Int) : Int) - (k : Int))) (0, c0) ?_ ?_
 · exact ⟨bH, rfl, rfl, rfl, Rps, by omega, by intro j hj; omega⟩
 clear Rps bH
 rintro ⟨k, g4⟩ f2 w3 ⟨bH, zs8, zs9, zs10, Rps, hle_k, hinv⟩ back4
 refine a7 (a6 rfl (lx (b5 (m := (k : Int)) (n := (ps.length : Int)) zs10 zs9) (aa (a7 ?_))))
 by_cases p4 : (k : Int) < (ps.length : Int)
 ·
  refine ah rfl (dt p4) (am (a7 (au (a7 (a6 rfl (lx (ao (v := ps_v) (i := (k : Int)) Try.underlying25 rfl zs8 Rps zs10 (by omega) (by omega)) (lw (vg [vi ((gI ps (k : Int)).1), vi ((gI ps (k : Int)).2)]) (aK (v := ps_v) (i := (k : Int)) ad rfl Rps (by omega) (by omega) rfl) (lo (aR g4 (is 1) (1, 0) rfl ad ?_)))))))))
  intro g8 w5 b7 ch6 bx9
  replace bx9 : Bx g8 (is 1) w5 b7 [vi 0, vi 0] := bx9
  refine lo (ag (cs' := [vi ((gI ps (k : Int)).1), vi ((gI ps (k : Int)).2)]) ad rfl rfl bx9 rfl (Nat.le_of_ble_eq_true rfl) (AllOne.all (.cons rfl (.cons rfl .nil))) rfl ?_)
  intro w10 ch11 bx12
  clear bx9
  refine aa (a7 (a6 rfl (lx (ab (ds := [vi ((gI ps (k : Int)).1), vi ((gI ps (k : Int)).2)]) ad rfl bx12 rfl rfl) (lo (aD (v := Value.bool (decide (c5 (gI ps (k : Int))))) (av (vals := [vg [vi ((gI ps (k : Int)).1), vi ((gI ps (k : Int)).2)]]) Try.func71 ql qZ rfl) (sA w10 (gI ps (k : Int))) ?_)))))
  intro w13 hb14
  replace hb14 := ak hb14 g8
  refine lx (cY (b := (decide (c5 (gI ps (k : Int))))) rfl) (aa ?_)
  by_cases p6 : (decide (c5 (gI ps (k : Int)))) = true
  ·
   refine aj rfl (congrArg Bool.not p6) (am (aq ?_))
   clear bx12
   refine a6 rfl (lx (aV (m := (k : Int)) (n := 1) zs10 rfl (by omega)) (mi ((k : Int) + 1) (aa ?_)))
   have C15 := cg [1] (ch6.n.seq ((ch11.l rfl).seq hb14.n))
   refine back4 (k + 1, g8) _ _ ⟨bH.ca C15, zs8, zs9, rfl, Rps.ca C15, by omega, ?_⟩ ?_
   · show ∀ j : Nat, j < (k + 1) → c5 (gI ps (j : Int))
     intro j hj
     by_cases e0 : j = k
     · subst e0; simpa using of_decide_eq_true ‹_›
     · exact hinv j (by omega)
   · show Int.toNat (((ps.length : Int) : Int) - ((k + 1) : Int)) < Int.toNat (((ps.length : Int) : Int) - (k : Int))
     omega
  refine ah rfl (congrArg Bool.not (Bool.eq_false_iff.2 p6)) (a7 ?_)
  clear bx12
  refine a6 rfl (ma (Value.bool false) (aa (al (vs := [Value.bool false]) Try.func54 (.tmp rfl .nil) ?_)))
  have e0 : (false : Bool) = (decide (d7 ps)) := by
    (refine (df (fun h => ?_)).symm
     have h1 := h.2 _ (bf (xs := ps) (i := (k : Int)) (by omega) (by omega))
     simp_all; done)
  have C16 := cg [1] (ch6.n.seq ((ch11.l rfl).seq hb14.n))
  replace bH := bH.ca C16
  exact ⟨(congrArg (a₁ := false) (fun (z0 : Bool) => Ending.returned (Value.bool z0)) e0), bH.below⟩
 refine aj rfl (df p4) (aS rfl (a7 (a6 rfl (ma (Value.bool true) (aa (al (vs := [Value.bool true]) Try.func54 (.tmp rfl .nil) ?_))))))
 have e0 : (true : Bool) = (decide (d7 ps)) := by
   exact (dt ⟨by omega, sN (fun j hj => hinv j (by omega))⟩).symm
 exact ⟨(congrArg (a₁ := true) (fun (z0 : Bool) => Ending.returned (Value.bool z0)) e0), bH.below⟩
theorem cv (w0 : World) (a : (Int) × (Int)) (b : (Int) × (Int)) (p : (Int) × (Int)) (ha : dX a) (hb : dX b) (hp : dX p) :
    Calls Try.prog 95 #[vg [vi a.1, vi a.2], vg [vi b.1, vi b.2], vg [vi p.1, vi p.2]] w0 (fun ee w => ee = .returned (Value.bool (decide (bG a b p))) ∧ cT w0.heap.size w0 w) := by
 refine aB Try.func95 rfl (Nat.le_of_ble_eq_true rfl) ?_
 have bH := b9.start w0
 refine a7 (a6 rfl (bQ rfl (bA c0 (is 1) (1, 0) rfl rfl ?_)))
 intro g4 w1 b3 ch2 bx5
 replace bx5 : Bx g4 (is 1) w1 b3 [vi a.1, vi a.2] := bx5
 refine lo (bA g4 (is 2) (2, 0) rfl rfl ?_)
 intro g9 w6 b8 ch7 bx10
 replace bx10 : Bx g9 (is 2) w6 b8 [vi b.1, vi b.2] := bx10
 refine lo (bA g9 (is 3) (3, 0) rfl rfl ?_)
 intro g14 w11 b13 ch12 bx15
 replace bx15 : Bx g14 (is 3) w11 b13 [vi p.1, vi p.2] := bx15
 refine ma (Value.bool false) (aa (a7 (a6 rfl ?_)))
 replace bx5 := (bx5.cn ch7).cn ch12
 refine lx (ab (ds := [vi a.1, vi a.2]) ad rfl bx5 rfl rfl) ?_
 replace bx10 := bx10.cn ch12
 refine lx (ab (ds := [vi b.1, vi b.2]) ad rfl bx10 rfl rfl) (lx (ab (ds := [vi p.1, vi p.2]) ad rfl bx15 rfl rfl) (lo (aD (v := vi (bk a b p)) (av (vals := [vg [vi a.1, vi a.2], vg [vi b.1, vi b.2], vg [vi p.1, vi p.2]]) Try.func93 gA gH rfl) (gK w11 a b p ‹_› ‹_› ‹_›) ?_)))
 intro w16 hb17
 replace hb17 := ak hb17 g14
 refine lx (bN (m := bk a b p) (n := 0) rfl rfl) (mv (Value.bool (decide ((bk a b p) = 0))) ?_)
 by_cases q12 : (bk a b p) = 0
 ·
  refine lv (vp b13 0) (wy (dt q12)) (a8 Try.underlying45 rfl rfl rfl rfl) ?_
  replace bx15 := bx15.cn hb17
  refine lv (vi p.1) (wy (dt q12)) (af ba rfl bx15 rfl) (lv (vp b3 0) (wy (dt q12)) (a8 Try.underlying45 rfl rfl rfl rfl) ?_)
  replace bx5 := bx5.cn hb17
  refine lv (vi a.1) (wy (dt q12)) (af ba rfl bx5 rfl) (lv (vp b8 0) (wy (dt q12)) (a8 Try.underlying45 rfl rfl rfl rfl) ?_)
  replace bx10 := bx10.cn hb17
  refine lv (vi b.1) (wy (dt q12)) (af ba rfl bx10 rfl) (lv (vi (min a.1 b.1)) (wy (dt q12)) (cq rfl rfl) (lv (Value.bool (decide ((min a.1 b.1) ≤ p.1))) (wy (dt q12)) (fq (m := p.1) (n := min a.1 b.1) rfl rfl) (lw (Value.bool (decide ((min a.1 b.1) ≤ p.1))) (az rfl (dt q12) rfl) (mv (Value.bool (decide ((min a.1 b.1) ≤ p.1))) ?_))))
  by_cases q22 : (min a.1 b.1) ≤ p.1
  ·
   refine lv (vp b13 0) (wy (dt q22)) (a8 Try.underlying45 rfl rfl rfl rfl) (lv (vi p.1) (wy (dt q22)) (af ba rfl bx15 rfl) (lv (vp b3 0) (wy (dt q22)) (a8 Try.underlying45 rfl rfl rfl rfl) (lv (vi a.1) (wy (dt q22)) (af ba rfl bx5 rfl) (lv (vp b8 0) (wy (dt q22)) (a8 Try.underlying45 rfl rfl rfl rfl) (lv (vi b.1) (wy (dt q22)) (af ba rfl bx10 rfl) (lv (vi (max a.1 b.1)) (wy (dt q22)) (bO rfl rfl) ?_))))))
   refine lv (Value.bool (decide (p.1 ≤ (max a.1 b.1)))) (wy (dt q22)) (gB (m := p.1) (n := max a.1 b.1) rfl rfl) (lw (Value.bool (decide (p.1 ≤ (max a.1 b.1)))) (az rfl (dt q22) rfl) (mv (Value.bool (decide (p.1 ≤ (max a.1 b.1)))) ?_))
   by_cases q32 : p.1 ≤ (max a.1 b.1)
   ·
    refine lv (vp b13 1) (wy (dt q32)) (a8 Try.underlying45 rfl rfl rfl rfl) (lv (vi p.2) (wy (dt q32)) (af ba rfl bx15 rfl) (lv (vp b3 1) (wy (dt q32)) (a8 Try.underlying45 rfl rfl rfl rfl) (lv (vi a.2) (wy (dt q32)) (af ba rfl bx5 rfl) (lv (vp b8 1) (wy (dt q32)) (a8 Try.underlying45 rfl rfl rfl rfl) (lv (vi b.2) (wy (dt q32)) (af ba rfl bx10 rfl) (lv (vi (min a.2 b.2)) (wy (dt q32)) (cq rfl rfl) ?_))))))
    refine lv (Value.bool (decide ((min a.2 b.2) ≤ p.2))) (wy (dt q32)) (fq (m := p.2) (n := min a.2 b.2) rfl rfl) (lw (Value.bool (decide ((min a.2 b.2) ≤ p.2))) (az rfl (dt q32) rfl) (mv (Value.bool (decide ((min a.2 b.2) ≤ p.2))) ?_))
    by_cases q42 : (min a.2 b.2) ≤ p.2
    ·
     refine lv (vp b13 1) (wy (dt q42)) (a8 Try.underlying45 rfl rfl rfl rfl) (lv (vi p.2) (wy (dt q42)) (af ba rfl bx15 rfl) (lv (vp b3 1) (wy (dt q42)) (a8 Try.underlying45 rfl rfl rfl rfl) (lv (vi a.2) (wy (dt q42)) (af ba rfl bx5 rfl) (lv (vp b8 1) (wy (dt q42)) (a8 Try.underlying45 rfl rfl rfl rfl) (lv (vi b.2) (wy (dt q42)) (af ba rfl bx10 rfl) (lv (vi (max a.2 b.2)) (wy (dt q42)) (bO rfl rfl) ?_))))))
     refine lv (Value.bool (decide (p.2 ≤ (max a.2 b.2)))) (wy (dt q42)) (gB (m := p.2) (n := max a.2 b.2) rfl rfl) (lw (Value.bool (decide (p.2 ≤ (max a.2 b.2)))) (az rfl (dt q42) rfl) (ma (Value.bool (decide (p.2 ≤ (max a.2 b.2)))) (aa (al (vs := [Value.bool (decide (p.2 ≤ (max a.2 b.2)))]) Try.func95 (.tmp rfl .nil) ?_))))
     have e0 : (decide (p.2 ≤ (max a.2 b.2)) : Bool) = (decide (bG a b p)) := by
       (rw [decide_eq_decide]; unfold bG jG; omega)
     have C18 := cg [] (ch2.n.seq (ch7.n.seq (ch12.n.seq hb17.n)))
     replace bH := bH.ca C18
     exact ⟨(congrArg (a₁ := decide (p.2 ≤ (max a.2 b.2))) (fun (z0 : Bool) => Ending.returned (Value.bool z0)) e0), bH.below⟩
    refine ae (wn (df q42)) (ae (wn (df q42)) (ae (wn (df q42)) (ae (wn (df q42)) (ae (wn (df q42)) (ae (wn (df q42)) (ae (wn (df q42)) (ae (wn (df q42)) (lw (Value.bool false) (aC rfl (df q42) rfl) (ma (Value.bool false) ?_)))))))))
    refine aa (al (vs := [Value.bool false]) Try.func95 (.tmp rfl .nil) ?_)
    have e0 : (false : Bool) = (decide (bG a b p)) := by
      exact (df (by unfold bG jG; omega)).symm
    have C19 := cg [] (ch2.n.seq (ch7.n.seq (ch12.n.seq hb17.n)))
    replace bH := bH.ca C19
    exact ⟨(congrArg (a₁ := false) (fun (z0 : Bool) => Ending.returned (Value.bool z0)) e0), bH.below⟩
   refine ae (wn (df q32)) (ae (wn (df q32)) (ae (wn (df q32)) (ae (wn (df q32)) (ae (wn (df q32)) (ae (wn (df q32)) (ae (wn (df q32)) (ae (wn (df q32)) (lw (Value.bool false) (aC rfl (df q32) rfl) (mv (Value.bool false) ?_)))))))))
   refine ae (wn rfl) (ae (wn rfl) (ae (wn rfl) (ae (wn rfl) (ae (wn rfl) (ae (wn rfl) (ae (wn rfl) (ae (wn rfl) (lw (Value.bool false) (aC rfl rfl rfl) (ma (Value.bool false) (aa (al (vs := [Value.bool false]) Try.func95 (.tmp rfl .nil) ?_)))))))))))
   have e0 : (false : Bool) = (decide (bG a b p)) := by
     exact (df (by unfold bG jG; omega)).symm
   have C20 := cg [] (ch2.n.seq (ch7.n.seq (ch12.n.seq hb17.n)))
   replace bH := bH.ca C20
   exact ⟨(congrArg (a₁ := false) (fun (z0 : Bool) => Ending.returned (Value.bool z0)) e0), bH.below⟩
  refine ae (wn (df q22)) (ae (wn (df q22)) (ae (wn (df q22)) (ae (wn (df q22)) (ae (wn (df q22)) (ae (wn (df q22)) (ae (wn (df q22)) (ae (wn (df q22)) (lw (Value.bool false) (aC rfl (df q22) rfl) (mv (Value.bool false) ?_)))))))))
  refine ae (wn rfl) (ae (wn rfl) (ae (wn rfl) (ae (wn rfl) (ae (wn rfl) (ae (wn rfl) (ae (wn rfl) (ae (wn rfl) (lw (Value.bool false) (aC rfl rfl rfl) (mv (Value.bool false) (ae (wn rfl) (ae (wn rfl) (ae (wn rfl) (ae (wn rfl) (ae (wn rfl) (ae (wn rfl) (ae (wn rfl) (ae (wn rfl) (lw (Value.bool false) (aC rfl rfl rfl) (ma (Value.bool false) (aa (al (vs := [Value.bool false]) Try.func95 (.tmp rfl .nil) ?_)))))))))))))))))))))
  have e0 : (false : Bool) = (decide (bG a b p)) := by
    exact (df (by unfold bG jG; omega)).symm
  have C21 := cg [] (ch2.n.seq (ch7.n.seq (ch12.n.seq hb17.n)))
  replace bH := bH.ca C21
  exact ⟨(congrArg (a₁ := false) (fun (z0 : Bool) => Ending.returned (Value.bool z0)) e0), bH.below⟩
 refine ae (wn (df q12)) (ae (wn (df q12)) (ae (wn (df q12)) (ae (wn (df q12)) (ae (wn (df q12)) (ae (wn (df q12)) (ae (wn (df q12)) (ae (wn (df q12)) (lw (Value.bool false) (aC rfl (df q12) rfl) (mv (Value.bool false) ?_)))))))))
 refine ae (wn rfl) (ae (wn rfl) (ae (wn rfl) (ae (wn rfl) (ae (wn rfl) (ae (wn rfl) (ae (wn rfl) (ae (wn rfl) (lw (Value.bool false) (aC rfl rfl rfl) (mv (Value.bool false) (ae (wn rfl) (ae (wn rfl) (ae (wn rfl) (ae (wn rfl) (ae (wn rfl) (ae (wn rfl) (ae (wn rfl) (ae (wn rfl) (lw (Value.bool false) (aC rfl rfl rfl) (mv (Value.bool false) ?_)))))))))))))))))))
 refine ae (wn rfl) (ae (wn rfl) (ae (wn rfl) (ae (wn rfl) (ae (wn rfl) (ae (wn rfl) (ae (wn rfl) (ae (wn rfl) (lw (Value.bool false) (aC rfl rfl rfl) (ma (Value.bool false) (aa (al (vs := [Value.bool false]) Try.func95 (.tmp rfl .nil) ?_)))))))))))
 have e0 : (false : Bool) = (decide (bG a b p)) := by
   exact (df (by unfold bG jG; omega)).symm
 have C22 := cg [] (ch2.n.seq (ch7.n.seq (ch12.n.seq hb17.n)))
 replace bH := bH.ca C22
 exact ⟨(congrArg (a₁ := false) (fun (z0 : Bool) => Ending.returned (Value.bool z0)) e0), bH.below⟩
theorem br (w0 : World) (a : (Int) × (Int)) (b : (Int) × (Int)) :
    Calls Try.prog 103 #[vg [vi a.1, vi a.2], vg [vi b.1, vi b.2]] w0 (fun ee w => ee = .returned (vi (aI a b)) ∧ cT w0.heap.size w0 w) := by
 refine aB Try.func103 rfl (Nat.le_of_ble_eq_true rfl) ?_
 have bH := b9.start w0
 refine a7 (a6 rfl (bQ rfl (bA c0 (is 1) (1, 0) rfl rfl ?_)))
 intro g4 w1 b3 ch2 bx5
 replace bx5 : Bx g4 (is 1) w1 b3 [vi a.1, vi a.2] := bx5
 refine lo (bA g4 (is 2) (2, 0) rfl rfl ?_)
 intro g9 w6 b8 ch7 bx10
 replace bx10 : Bx g9 (is 2) w6 b8 [vi b.1, vi b.2] := bx10
 refine ai 0 (aa (a7 (dH g9 (bK []) kX ?_)))
 intro w12 ch11
 refine ht 0 rfl (aL.refl _ _ _) (fun w' hw' => a8 Try.underlying45 rfl rfl rfl rfl) ?_
 replace bx5 := (bx5.cn ch7).cn ch11
 refine ht 1 rfl (aL.refl _ _ _) (fun w' hw' => af ba rfl (bx5.chg hw' (bE rfl)) rfl) (ht 2 rfl (aL.refl _ _ _) (fun w' hw' => a8 Try.underlying45 rfl rfl rfl rfl) ?_)
 replace bx10 := bx10.cn ch11
 refine ht 3 rfl (aL.refl _ _ _) (fun w' hw' => af ba rfl (bx10.chg hw' (bE rfl)) rfl) (ht 5 rfl (aL.refl _ _ _) (fun w' hw' => a8 Try.underlying45 rfl rfl rfl rfl) (ht 6 rfl (aL.refl _ _ _) (fun w' hw' => af ba rfl (bx5.chg hw' (bE rfl)) rfl) (ht 7 rfl (aL.refl _ _ _) (fun w' hw' => a8 Try.underlying45 rfl rfl rfl rfl) (ht 8 rfl (aL.refl _ _ _) (fun w' hw' => af ba rfl (bx10.chg hw' (bE rfl)) rfl) (aw 4 rfl (by kernel_rfl) rfl (aD (v := vi (bv a.1 b.1)) (av (vals := [vi a.1, vi b.1]) Try.func59 fc fg rfl) (dE w12 a.1 b.1) ?_))))))
 intro w13 hb14
 replace hb14 := ak hb14 g9
 have hs15 : aL (bK []) _ _ _ _ := hb14.n
 refine ⟨hs15.same, ?_⟩
 refine aw 9 rfl (by kernel_rfl) rfl (aD (v := vi (bv a.2 b.2)) (av (vals := [vi a.2, vi b.2]) Try.func59 fc fg rfl) (dE w13 a.2 b.2) ?_)
 intro w16 hb17
 replace hb17 := ak hb17 g9
 have hs18 := hs15.seq (hb17.n)
 refine ⟨hs18.same, ?_⟩
 refine aw 10 rfl (by kernel_rfl) rfl (aJ (α := Int) g9 (is 3) (is 3) (3, 0) rfl [bv a.1 b.1, bv a.2 b.2] Try.underlying39 ba (by decide) (by decide) (vs := [(0, vi (bv a.1 b.1)), (1, vi (bv a.2 b.2))]) rfl rfl (.cons rfl (.cons rfl .nil)) ?_)
 intro g19 w20 v21 ch22 o23
 have hs24 := hs18.seq (ch22.n)
 refine ⟨hs24.same, ?_⟩
 refine aw 11 rfl (by kernel_rfl) rfl (aD (v := vi (ip ([bv a.1 b.1, bv a.2 b.2]))) (av (vals := [v21]) Try.func58 mg lZ rfl) (rZ w20 ([bv a.1 b.1, bv a.2 b.2]) v21 (o23.flat).ro) ?_)
 intro w25 hb26
 replace hb26 := ak hb26 g19
 have hs27 := hs24.seq (hb26.n)
 refine ⟨hs27.same, ?_⟩
 refine ht (v := vi (ip ([bv a.1 b.1, bv a.2 b.2]))) 12 rfl hs27.same (fun w' hw' => bV rfl) (bm (by kernel_rfl) (al (vs := [vi (ip ([bv a.1 b.1, bv a.2 b.2]))]) Try.func103 (.tmp rfl .nil) ?_))
 have e0 : (ip ([bv a.1 b.1, bv a.2 b.2]) : Int) = (aI a b) := by
   exact (o8 _ _).symm
 have C28 := cg [] (ch2.n.seq (ch7.n.seq (ch11.n.seq (hb14.n.seq (hb17.n.seq (ch22.n.seq hb26.n))))))
 replace bH := bH.ca C28
 exact ⟨(congrArg (a₁ := ip ([bv a.1 b.1, bv a.2 b.2])) (fun (z0 : Int) => Ending.returned (vi z0)) e0), bH.below⟩
theorem mo (w0 : World) (p : (Int) × (Int)) :
    Calls Try.prog 60 #[vg [vi p.1, vi p.2]] w0 (fun ee w => ee = .returned (vi (bi p)) ∧ cT w0.heap.size w0 w) := by
 refine aB Try.func60 rfl (Nat.le_of_ble_eq_true rfl) ?_
 have bH := b9.start w0
 refine a7 (a6 rfl (bQ rfl (bA c0 (is 1) (1, 0) rfl rfl ?_)))
 intro g4 w1 b3 ch2 bx5
 replace bx5 : Bx g4 (is 1) w1 b3 [vi p.1, vi p.2] := bx5
 refine ai 0 (aa (a7 (a7 (a6 rfl (lx (a8 Try.underlying45 rfl rfl rfl rfl) (lx (af ba rfl bx5 rfl) (lx (cd (m := p.1) (n := 0) rfl rfl) (mv (Value.bool (decide (0 < p.1))) ?_))))))))
 by_cases q6 : 0 < p.1
 ·
  refine ae (wn (dt q6)) (ae (wn (dt q6)) (ae (wn (dt q6)) (ae (wn (dt q6)) (ae (c4 rfl rfl rfl) (ae (c4 rfl rfl rfl) (ae (c4 rfl rfl rfl) (ae (wn (dt q6)) (lw (Value.bool true) (az rfl (dt q6) rfl) (aa ?_)))))))))
  refine ah rfl rfl (a7 ?_)
  clear bx5
  refine a6 rfl (ai 0 (aa (al (vs := [vi 0]) Try.func60 (.tmp rfl .nil) ?_)))
  have e0 : (0 : Int) = (bi p) := by
    unfold bi
    rw [if_pos (by omega)]
  replace bH := bH.cn ch2
  exact ⟨(congrArg (a₁ := 0) (fun (z0 : Int) => Ending.returned (vi z0)) e0), bH.below⟩
 refine lv (vp b3 0) (wy (df q6)) (a8 Try.underlying45 rfl rfl rfl rfl) (lv (vi p.1) (wy (df q6)) (af ba rfl bx5 rfl) (lv (Value.bool (decide (p.1 = 0))) (wy (df q6)) (bN (m := p.1) (n := 0) rfl rfl) (lv (Value.bool (decide (p.1 = 0))) (wy (df q6)) (aH rfl) ?_)))
 by_cases q10 : p.1 = 0
 ·
  refine lv (vp b3 1) (wy (dt q10)) (a8 Try.underlying45 rfl rfl rfl rfl) (lv (vi p.2) (wy (dt q10)) (af ba rfl bx5 rfl) (lv (Value.bool (decide (0 < p.2))) (wy (dt q10)) (cd (m := p.2) (n := 0) rfl rfl) (lv (Value.bool (decide (0 < p.2))) (wy (df q6)) (az rfl (dt q10) rfl) (lw (Value.bool (decide (0 < p.2))) (aC rfl (df q6) rfl) (aa ?_)))))
  by_cases p1 : 0 < p.2
  ·
   refine ah rfl (dt p1) (a7 ?_)
   clear bx5
   refine a6 rfl (ai 0 (aa (al (vs := [vi 0]) Try.func60 (.tmp rfl .nil) ?_)))
   have e0 : (0 : Int) = (bi p) := by
     unfold bi
     rw [if_pos (by omega)]
   replace bH := bH.cn ch2
   exact ⟨(congrArg (a₁ := 0) (fun (z0 : Int) => Ending.returned (vi z0)) e0), bH.below⟩
  refine aj rfl (df p1) (am (a7 ?_))
  clear bx5
  refine a6 rfl (ai 1 (aa (al (vs := [vi 1]) Try.func60 (.tmp rfl .nil) ?_)))
  have e0 : (1 : Int) = (bi p) := by
    unfold bi
    rw [if_neg (by omega)]
  replace bH := bH.cn ch2
  exact ⟨(congrArg (a₁ := 1) (fun (z0 : Int) => Ending.returned (vi z0)) e0), bH.below⟩
 refine ae (wn (df q10)) (ae (wn (df q10)) (ae (wn (df q10)) (lv (Value.bool false) (wy (df q6)) (aC rfl (df q10) rfl) (lw (Value.bool false) (aC rfl (df q6) rfl) (aa (aj rfl rfl (am (a7 ?_))))))))
 clear bx5
 refine a6 rfl (ai 1 (aa (al (vs := [vi 1]) Try.func60 (.tmp rfl .nil) ?_)))
 have e0 : (1 : Int) = (bi p) := by
   unfold bi
   rw [if_neg (by omega)]
 replace bH := bH.cn ch2
 exact ⟨(congrArg (a₁ := 1) (fun (z0 : Int) => Ending.returned (vi z0)) e0), bH.below⟩
end TL
