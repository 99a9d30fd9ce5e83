import Derived.Test.YtbadiajeohbpcaaTlP2
import Derived.Test.YtbadiajeohbpcaaTlGmA
import Derived.Test.YtbadiajeohbpcaaProg
set_option linter.all false
set_option maxRecDepth 20000
namespace TL
open Go Go.Proofs
theorem iG : Try.prog.follows .mixedOrders = true := by kernel_rfl
theorem gE : Try.f43.body.isNone = false := rfl
theorem gP : (Try.f43.name == "runtime.NumGoroutine") = false := by decide +kernel
theorem eJ : Try.f44.body.isNone = false := rfl
theorem eI : (Try.f44.name == "runtime.NumGoroutine") = false := by decide +kernel
theorem pK : Try.f66.body.isNone = false := rfl
theorem qt : (Try.f66.name == "runtime.NumGoroutine") = false := by decide +kernel
theorem mq : Try.f67.body.isNone = false := rfl
theorem lL : (Try.f67.name == "runtime.NumGoroutine") = false := by decide +kernel
theorem pN (w0 : World) (n : Int) :
    Calls Try.prog 66 #[vi n] w0 (fun ee w => ee = .returned (vi (br n 0)) ∧ dh w0.heap.size w0 w) := by
 refine aE Try.func66 rfl (Nat.le_of_ble_eq_true rfl) ?_
 have bH := bh.start w0
 refine a7 (a6 rfl (ai 0 (ab (a7 (av (a7 (a6 rfl (mi n (lx (bV (m := n) (n := 0) rfl rfl) (ma (Value.bool (decide (0 < n))) (ab ?_)))))))))))
 by_cases p1 : 0 < n
 ·
  refine ah rfl (dt p1) (a7 (a6 rfl (ai 1 (ab (ar (vs := [vi 1]) Try.func66 (.tmp rfl .nil) ?_)))))
  have e0 : (1 : Int) = (br n 0) := by
    unfold br
    rw [if_neg (by omega), if_pos (by omega)]
  exact ⟨(congrArg (a₁ := 1) (fun (z0 : Int) => Ending.returned (vi z0)) e0), bH.below⟩
 refine aj rfl (df p1) (a7 (a6 rfl (mi n (lx (bb (m := n) (n := 0) rfl rfl) (ma (Value.bool (decide (n < 0))) (ab ?_))))))
 by_cases p3 : n < 0
 ·
  refine ah rfl (dt p3) (a7 (a6 rfl (ai (-1) (ab (ar (vs := [vi (-1)]) Try.func66 (.tmp rfl .nil) ?_)))))
  have e0 : (-1 : Int) = (br n 0) := by
    unfold br
    rw [if_pos (by omega)]
  exact ⟨(congrArg (a₁ := -1) (fun (z0 : Int) => Ending.returned (vi z0)) e0), bH.below⟩
 refine aj rfl (df p3) (ao (aq (a7 (a6 rfl (ai 0 (ab (ar (vs := [vi 0]) Try.func66 (.tmp rfl .nil) ?_)))))))
 have e0 : (0 : Int) = (br n 0) := by
   unfold br
   rw [if_neg (by omega), if_neg (by omega)]
 exact ⟨(congrArg (a₁ := 0) (fun (z0 : Int) => Ending.returned (vi z0)) e0), bH.below⟩
theorem gv (w0 : World) (a : (Int) × (Int)) (b : (Int) × (Int)) (c : (Int) × (Int)) (ha : dx a) (hb : dx b) (hc : dx c) :
    Calls Try.prog 43 #[vg [vi a.1, vi a.2], vg [vi b.1, vi b.2], vg [vi c.1, vi c.2]] w0 (fun ee w => ee = .returned (vi (bi a b c)) ∧ dh w0.heap.size w0 w) := by
 refine aE Try.func43 rfl (Nat.le_of_ble_eq_true rfl) ?_
 have bH := bh.start w0
 have hba := fT ha hb
 have hca := fT ha hc
 unfold sW aV at hba hca
 unfold dx at ha hb hc
 have h1 := dR hba.1 hca.2
 have h2 := dR hba.2 hca.1
 simp only at h1 h2
 refine a7 (a6 rfl (bN rfl (bt c0 (is 1) (1, 0) rfl rfl ?_)))
 intro g4 w1 b3 ch2 bx5
 replace bx5 : Bx g4 (is 1) w1 b3 [vi a.1, vi a.2] := bx5
 refine lo (bt g4 (is 2) (2, 0) rfl rfl ?_)
 intro g9 w6 b8 ch7 bx10
 replace bx10 : Bx g9 (is 2) w6 b8 [vi b.1, vi b.2] := bx10
 refine lo (bt g9 (is 3) (3, 0) rfl rfl ?_)
 intro g14 w11 b13 ch12 bx15
 replace bx15 : Bx g14 (is 3) w11 b13 [vi c.1, vi c.2] := bx15
 refine ai 0 (ab (a7 (a6 rfl (lx (a8 Try.underlying45 rfl rfl rfl rfl) ?_))))
 replace bx10 := bx10.cn ch12
 refine lx (ag al rfl bx10 rfl) (lx (a8 Try.underlying45 rfl rfl rfl rfl) ?_)
 replace bx5 := (bx5.cn ch7).cn ch12
 refine lx (ag al rfl bx5 rfl) (lx (de (m := b.1) (n := a.1) rfl rfl (by omega)) (lx (a8 Try.underlying45 rfl rfl rfl rfl) (lx (ag al rfl bx15 rfl) (lx (a8 Try.underlying45 rfl rfl rfl rfl) (lx (ag al rfl bx5 rfl) (lx (de (m := c.2) (n := a.2) rfl rfl (by omega)) (lx (cv (m := b.1 - a.1) (n := c.2 - a.2) rfl rfl (by omega)) (lx (a8 Try.underlying45 rfl rfl rfl rfl) (lx (ag al rfl bx10 rfl) ?_)))))))))
 refine lx (a8 Try.underlying45 rfl rfl rfl rfl) (lx (ag al rfl bx5 rfl) (lx (de (m := b.2) (n := a.2) rfl rfl (by omega)) (lx (a8 Try.underlying45 rfl rfl rfl rfl) (lx (ag al rfl bx15 rfl) (lx (a8 Try.underlying45 rfl rfl rfl rfl) (lx (ag al rfl bx5 rfl) (lx (de (m := c.1) (n := a.1) rfl rfl (by omega)) (lx (cv (m := b.2 - a.2) (n := c.1 - a.1) rfl rfl (by omega)) (lx (de (m := (b.1 - a.1) * (c.2 - a.2)) (n := (b.2 - a.2) * (c.1 - a.1)) rfl rfl (by omega)) ?_)))))))))
 refine lo (aH (v := vi (br (((b.1 - a.1) * (c.2 - a.2)) - ((b.2 - a.2) * (c.1 - a.1))) 0)) (aA (vals := [vi (((b.1 - a.1) * (c.2 - a.2)) - ((b.2 - a.2) * (c.1 - a.1)))]) Try.func66 pK qt rfl) (pN w11 (((b.1 - a.1) * (c.2 - a.2)) - ((b.2 - a.2) * (c.1 - a.1)))) ?_)
 intro w16 hb17
 replace hb17 := am hb17 g14
 refine ai (br (((b.1 - a.1) * (c.2 - a.2)) - ((b.2 - a.2) * (c.1 - a.1))) 0) (ab (ar (vs := [vi (br (((b.1 - a.1) * (c.2 - a.2)) - ((b.2 - a.2) * (c.1 - a.1))) 0)]) Try.func43 (.tmp rfl .nil) ?_))
 have e0 : (br (((b.1 - a.1) * (c.2 - a.2)) - ((b.2 - a.2) * (c.1 - a.1))) 0 : Int) = (bi a b c) := by
   rfl
 have C18 := cg [] (ch2.n.seq (ch7.n.seq (ch12.n.seq hb17.n)))
 replace bH := bH.ca C18
 exact ⟨(congrArg (a₁ := br (((b.1 - a.1) * (c.2 - a.2)) - ((b.2 - a.2) * (c.1 - a.1))) 0) (fun (z0 : Int) => Ending.returned (vi z0)) e0), bH.below⟩
theorem jq (w0 : World) (a : Int) (b : Int) (n : Int) :
    Calls Try.prog 67 #[vi a, vi b, vi n] w0 (fun ee w => ee = .returned (Value.bool (decide (min a b ≤ n ∧ n ≤ max a b))) ∧ dh w0.heap.size w0 w) := by
 refine aE Try.func67 rfl (Nat.le_of_ble_eq_true rfl) ?_
 have bH := bh.start w0
 refine a7 (a6 rfl (ma (Value.bool false) (ab (a7 (a6 rfl (mi a (mi b (lw (vi (min a b)) (cm rfl rfl) (mi n (lx (ga (m := min a b) (n := n) rfl rfl) (mv (Value.bool (decide ((min a b) ≤ n))) ?_)))))))))))
 by_cases q12 : (min a b) ≤ n
 ·
  refine lv (vi n) (wy (dt q12)) (aJ rfl) (lv (vi a) (wy (dt q12)) (aJ rfl) (lv (vi b) (wy (dt q12)) (aJ rfl) (lv (vi (max a b)) (wy (dt q12)) (bT rfl rfl) (lv (Value.bool (decide (n ≤ (max a b)))) (wy (dt q12)) (ga (m := n) (n := max a b) rfl rfl) (lw (Value.bool (decide (n ≤ (max a b)))) (aw rfl (dt q12) rfl) (ma (Value.bool (decide (n ≤ (max a b)))) (ab (ar (vs := [Value.bool (decide (n ≤ (max a b)))]) Try.func67 (.tmp rfl .nil) ?_))))))))
  have e0 : (decide (n ≤ (max a b)) : Bool) = (decide (min a b ≤ n ∧ n ≤ max a b)) := by
    (rw [decide_eq_decide]; omega)
  exact ⟨(congrArg (a₁ := decide (n ≤ (max a b))) (fun (z0 : Bool) => Ending.returned (Value.bool z0)) e0), bH.below⟩
 refine af (wn (df q12)) (af (wn (df q12)) (af (wn (df q12)) (af (wn (df q12)) (af (wn (df q12)) (lw (Value.bool false) (aC rfl (df q12) rfl) (ma (Value.bool false) (ab (ar (vs := [Value.bool false]) Try.func67 (.tmp rfl .nil) ?_))))))))
 have e0 : (false : Bool) = (decide (min a b ≤ n ∧ n ≤ max a b)) := by
   exact (df (by omega)).symm
 exact ⟨(congrArg (a₁ := false) (fun (z0 : Bool) => Ending.returned (Value.bool z0)) e0), bH.below⟩
theorem eM (w0 : World) (a : (Int) × (Int)) (b : (Int) × (Int)) (p : (Int) × (Int)) (ha : dx a) (hb : dx b) (hp : dx p) :
    Calls Try.prog 44 #[vg [vi a.1, vi a.2], vg [vi b.1, vi b.2], vg [vi p.1, vi p.2]] w0 (fun ee w => ee = .returned (Value.bool (decide (bm a b p))) ∧ dh w0.heap.size w0 w) := by
 refine aE Try.func44 rfl (Nat.le_of_ble_eq_true rfl) ?_
 have bH := bh.start w0
 refine a7 (a6 rfl (bN rfl (bt c0 (is 1) (1, 0) rfl rfl ?_)))
 intro g4 w1 b3 ch2 bx5
 replace bx5 : Bx g4 (is 1) w1 b3 [vi a.1, vi a.2] := bx5
 refine lo (bt g4 (is 2) (2, 0) rfl rfl ?_)
 intro g9 w6 b8 ch7 bx10
 replace bx10 : Bx g9 (is 2) w6 b8 [vi b.1, vi b.2] := bx10
 refine lo (bt g9 (is 3) (3, 0) rfl rfl ?_)
 intro g14 w11 b13 ch12 bx15
 replace bx15 : Bx g14 (is 3) w11 b13 [vi p.1, vi p.2] := bx15
 refine ma (Value.bool false) (ab (a7 (a6 rfl ?_)))
 replace bx5 := (bx5.cn ch7).cn ch12
 refine lx (ad (ds := [vi a.1, vi a.2]) aa rfl bx5 rfl rfl) ?_
 replace bx10 := bx10.cn ch12
 refine lx (ad (ds := [vi b.1, vi b.2]) aa rfl bx10 rfl rfl) (lx (ad (ds := [vi p.1, vi p.2]) aa rfl bx15 rfl rfl) (lo (aH (v := vi (bi a b p)) (aA (vals := [vg [vi a.1, vi a.2], vg [vi b.1, vi b.2], vg [vi p.1, vi p.2]]) Try.func43 gE gP rfl) (gv w11 a b p ‹_› ‹_› ‹_›) ?_)))
 intro w16 hb17
 replace hb17 := am hb17 g14
 refine lx (bx (m := bi a b p) (n := 0) rfl rfl) (mv (Value.bool (decide ((bi a b p) = 0))) ?_)
 by_cases q12 : (bi a b p) = 0
 ·
  refine lv (vp b3 0) (wy (dt q12)) (a8 Try.underlying45 rfl rfl rfl rfl) ?_
  replace bx5 := bx5.cn hb17
  refine lv (vi a.1) (wy (dt q12)) (ag al rfl bx5 rfl) (lv (vp b8 0) (wy (dt q12)) (a8 Try.underlying45 rfl rfl rfl rfl) ?_)
  replace bx10 := bx10.cn hb17
  refine lv (vi b.1) (wy (dt q12)) (ag al rfl bx10 rfl) (lv (vp b13 0) (wy (dt q12)) (a8 Try.underlying45 rfl rfl rfl rfl) ?_)
  replace bx15 := bx15.cn hb17
  refine lv (vi p.1) (wy (dt q12)) (ag al rfl bx15 rfl) (bN (wy (dt q12)) (aH (v := Value.bool (decide (min a.1 b.1 ≤ p.1 ∧ p.1 ≤ max a.1 b.1))) (aA (vals := [vi a.1, vi b.1, vi p.1]) Try.func67 mq lL rfl) (jq w16 a.1 b.1 p.1) ?_))
  intro w18 hb19
  replace hb19 := am hb19 g14
  refine lw (Value.bool (decide (min a.1 b.1 ≤ p.1 ∧ p.1 ≤ max a.1 b.1))) (aw rfl (dt q12) rfl) (mv (Value.bool (decide (min a.1 b.1 ≤ p.1 ∧ p.1 ≤ max a.1 b.1))) ?_)
  by_cases q21 : (decide (min a.1 b.1 ≤ p.1 ∧ p.1 ≤ max a.1 b.1)) = true
  ·
   refine lv (vp b3 1) (wy q21) (a8 Try.underlying45 rfl rfl rfl rfl) ?_
   replace bx5 := bx5.cn hb19
   refine lv (vi a.2) (wy q21) (ag al rfl bx5 rfl) (lv (vp b8 1) (wy q21) (a8 Try.underlying45 rfl rfl rfl rfl) ?_)
   replace bx10 := bx10.cn hb19
   refine lv (vi b.2) (wy q21) (ag al rfl bx10 rfl) (lv (vp b13 1) (wy q21) (a8 Try.underlying45 rfl rfl rfl rfl) ?_)
   replace bx15 := bx15.cn hb19
   refine lv (vi p.2) (wy q21) (ag al rfl bx15 rfl) (bN (wy q21) (aH (v := Value.bool (decide (min a.2 b.2 ≤ p.2 ∧ p.2 ≤ max a.2 b.2))) (aA (vals := [vi a.2, vi b.2, vi p.2]) Try.func67 mq lL rfl) (jq w18 a.2 b.2 p.2) ?_))
   intro w20 hb21
   replace hb21 := am hb21 g14
   refine lw (Value.bool (decide (min a.2 b.2 ≤ p.2 ∧ p.2 ≤ max a.2 b.2))) (aw rfl q21 rfl) (ma (Value.bool (decide (min a.2 b.2 ≤ p.2 ∧ p.2 ≤ max a.2 b.2))) (ab (ar (vs := [Value.bool (decide (min a.2 b.2 ≤ p.2 ∧ p.2 ≤ max a.2 b.2))]) Try.func44 (.tmp rfl .nil) ?_)))
   have e0 : ((decide (min a.2 b.2 ≤ p.2 ∧ p.2 ≤ max a.2 b.2)) : Bool) = (decide (bm a b p)) := by
     (rw [decide_eq_decide]; exact ⟨fun h => ⟨by assumption, of_decide_eq_true ‹_›, h⟩, fun h => h.2.2⟩)
   have C22 := cg [] (ch2.n.seq (ch7.n.seq (ch12.n.seq (hb17.n.seq (hb19.n.seq hb21.n)))))
   replace bH := bH.ca C22
   exact ⟨(congrArg (a₁ := (decide (min a.2 b.2 ≤ p.2 ∧ p.2 ≤ max a.2 b.2))) (fun (z0 : Bool) => Ending.returned (Value.bool z0)) e0), bH.below⟩
  refine af (wn (Bool.eq_false_iff.2 q21)) (af (wn (Bool.eq_false_iff.2 q21)) (af (wn (Bool.eq_false_iff.2 q21)) (af (wn (Bool.eq_false_iff.2 q21)) (af (wn (Bool.eq_false_iff.2 q21)) (af (wn (Bool.eq_false_iff.2 q21)) (af (wn (Bool.eq_false_iff.2 q21)) (lw (Value.bool false) (aC rfl (Bool.eq_false_iff.2 q21) rfl) (ma (Value.bool false) (ab ?_)))))))))
  refine ar (vs := [Value.bool false]) Try.func44 (.tmp rfl .nil) ?_
  have e0 : (false : Bool) = (decide (bm a b p)) := by
    exact (df (fun h => absurd (dt h.2.1) ‹_›)).symm
  have C23 := cg [] (ch2.n.seq (ch7.n.seq (ch12.n.seq (hb17.n.seq hb19.n))))
  replace bH := bH.ca C23
  exact ⟨(congrArg (a₁ := false) (fun (z0 : Bool) => Ending.returned (Value.bool z0)) e0), bH.below⟩
 refine af (wn (df q12)) (af (wn (df q12)) (af (wn (df q12)) (af (wn (df q12)) (af (wn (df q12)) (af (wn (df q12)) (af (wn (df q12)) (lw (Value.bool false) (aC rfl (df q12) rfl) (mv (Value.bool false) (af (wn rfl) (af (wn rfl) (af (wn rfl) (af (wn rfl) (af (wn rfl) (af (wn rfl) (af (wn rfl) ?_)))))))))))))))
 refine lw (Value.bool false) (aC rfl rfl rfl) (ma (Value.bool false) (ab (ar (vs := [Value.bool false]) Try.func44 (.tmp rfl .nil) ?_)))
 have e0 : (false : Bool) = (decide (bm a b p)) := by
   exact (df (fun h => absurd h.1 ‹_›)).symm
 have C24 := cg [] (ch2.n.seq (ch7.n.seq (ch12.n.seq hb17.n)))
 replace bH := bH.ca C24
 exact ⟨(congrArg (a₁ := false) (fun (z0 : Bool) => Ending.returned (Value.bool z0)) e0), bH.below⟩
set_option maxHeartbeats 4000000 in
theorem mQ (w0 : World) (a : (Int) × (Int)) (b : (Int) × (Int)) (c : (Int) × (Int)) (d : (Int) × (Int)) (ha : dx a) (hb : dx b) (hc : dx c) (hd : dx d) :
    Calls Try.prog 21 #[vg [vi a.1, vi a.2], vg [vi b.1, vi b.2], vg [vi c.1, vi c.2], vg [vi d.1, vi d.2]] w0 (fun ee w => ee = .returned (vi (cJ a b c d)) ∧ dh w0.heap.size w0 w) := by
 refine aE Try.func21 rfl (Nat.le_of_ble_eq_true rfl) ?_
 have bH := bh.start w0
 have k1 := eH a b c
 have k2 := eH a b d
 have k3 := eH c d a
 have k4 := eH c d b
 have m1 := dR (x := bi a b c) (y := bi a b d) (by omega) (by omega)
 have m2 := dR (x := bi c d a) (y := bi c d b) (by omega) (by omega)
 refine a7 (a6 rfl (bN rfl (bt c0 (is 1) (1, 0) rfl rfl ?_)))
 intro g4 w1 b3 ch2 bx5
 replace bx5 : Bx g4 (is 1) w1 b3 [vi a.1, vi a.2] := bx5
 refine lo (bt g4 (is 2) (2, 0) rfl rfl ?_)
 intro g9 w6 b8 ch7 bx10
 replace bx10 : Bx g9 (is 2) w6 b8 [vi b.1, vi b.2] := bx10
 refine lo (bt g9 (is 3) (3, 0) rfl rfl ?_)
 intro g14 w11 b13 ch12 bx15
 replace bx15 : Bx g14 (is 3) w11 b13 [vi c.1, vi c.2] := bx15
 refine lo (bt g14 (is 4) (4, 0) rfl rfl ?_)
 intro g19 w16 b18 ch17 bx20
 replace bx20 : Bx g19 (is 4) w16 b18 [vi d.1, vi d.2] := bx20
 refine ai 0 (ab (a7 (a7 (bS g19 rfl iG (by kernel_rfl) ?_))))
 intro w22 ch21
 have C23 := cg [] (ch7.n.seq (ch12.n.seq (ch17.n.seq ch21.n)))
 replace bx5 := bx5.ca C23
 refine qx (fun w' hw' => ad (ds := [vi a.1, vi a.2]) aa rfl (bx5.bel hw') rfl rfl) ?_
 have C24 := cg [] (ch12.n.seq (ch17.n.seq ch21.n))
 replace bx10 := bx10.ca C24
 refine qx (fun w' hw' => ad (ds := [vi b.1, vi b.2]) aa rfl (bx10.bel hw') rfl rfl) ?_
 replace bx15 := (bx15.cn ch17).cn ch21
 refine qx (fun w' hw' => ad (ds := [vi c.1, vi c.2]) aa rfl (bx15.bel hw') rfl rfl) (cM (v := vi (bi a b c)) rfl (fun w' hw' => aA (vals := [vg [vi a.1, vi a.2], vg [vi b.1, vi b.2], vg [vi c.1, vi c.2]]) Try.func43 gE gP rfl) (fun w' hw' => (gv w' a b c ‹_› ‹_› ‹_›).mono fun e w2 h2 => ⟨h2.1, hw'.trans (h2.2.mono hw'.size)⟩) (qx (fun w' hw' => ad (ds := [vi a.1, vi a.2]) aa rfl (bx5.bel hw') rfl rfl) (qx (fun w' hw' => ad (ds := [vi b.1, vi b.2]) aa rfl (bx10.bel hw') rfl rfl) ?_)))
 replace bx20 := bx20.cn ch21
 refine qx (fun w' hw' => ad (ds := [vi d.1, vi d.2]) aa rfl (bx20.bel hw') rfl rfl) (cM (v := vi (bi a b d)) rfl (fun w' hw' => aA (vals := [vg [vi a.1, vi a.2], vg [vi b.1, vi b.2], vg [vi d.1, vi d.2]]) Try.func43 gE gP rfl) (fun w' hw' => (gv w' a b d ‹_› ‹_› ‹_›).mono fun e w2 h2 => ⟨h2.1, hw'.trans (h2.2.mono hw'.size)⟩) (qx (fun w' hw' => cv (m := bi a b c) (n := bi a b d) rfl rfl (by omega)) (qx (fun w' hw' => bb (m := (bi a b c) * (bi a b d)) (n := 0) rfl rfl) (qm (Value.bool (decide (((bi a b c) * (bi a b d)) < 0))) ?_))))
 by_cases q25 : ((bi a b c) * (bi a b d)) < 0
 ·
  refine aI (v := vg [vi c.1, vi c.2]) (wy (dt q25)) (fun w' hw' => ad (ds := [vi c.1, vi c.2]) aa rfl (bx15.bel hw') rfl rfl) (aI (v := vg [vi d.1, vi d.2]) (wy (dt q25)) (fun w' hw' => ad (ds := [vi d.1, vi d.2]) aa rfl (bx20.bel hw') rfl rfl) (aI (v := vg [vi a.1, vi a.2]) (wy (dt q25)) (fun w' hw' => ad (ds := [vi a.1, vi a.2]) aa rfl (bx5.bel hw') rfl rfl) ?_))
  refine cM (v := vi (bi c d a)) (wy (dt q25)) (fun w' hw' => aA (vals := [vg [vi c.1, vi c.2], vg [vi d.1, vi d.2], vg [vi a.1, vi a.2]]) Try.func43 gE gP rfl) (fun w' hw' => (gv w' c d a ‹_› ‹_› ‹_›).mono fun e w2 h2 => ⟨h2.1, hw'.trans (h2.2.mono hw'.size)⟩) (aI (v := vg [vi c.1, vi c.2]) (wy (dt q25)) (fun w' hw' => ad (ds := [vi c.1, vi c.2]) aa rfl (bx15.bel hw') rfl rfl) ?_)
  refine aI (v := vg [vi d.1, vi d.2]) (wy (dt q25)) (fun w' hw' => ad (ds := [vi d.1, vi d.2]) aa rfl (bx20.bel hw') rfl rfl) (aI (v := vg [vi b.1, vi b.2]) (wy (dt q25)) (fun w' hw' => ad (ds := [vi b.1, vi b.2]) aa rfl (bx10.bel hw') rfl rfl) ?_)
  refine cM (v := vi (bi c d b)) (wy (dt q25)) (fun w' hw' => aA (vals := [vg [vi c.1, vi c.2], vg [vi d.1, vi d.2], vg [vi b.1, vi b.2]]) Try.func43 gE gP rfl) (fun w' hw' => (gv w' c d b ‹_› ‹_› ‹_›).mono fun e w2 h2 => ⟨h2.1, hw'.trans (h2.2.mono hw'.size)⟩) (aI (v := vi ((bi c d a) * (bi c d b))) (wy (dt q25)) (fun w' hw' => cv (m := bi c d a) (n := bi c d b) rfl rfl (by omega)) (aI (v := Value.bool (decide (((bi c d a) * (bi c d b)) < 0))) (wy (dt q25)) (fun w' hw' => bb (m := (bi c d a) * (bi c d b)) (n := 0) rfl rfl) ?_))
  refine qv (Value.bool (decide (((bi c d a) * (bi c d b)) < 0))) (fun w' hw' => aw rfl (dt q25) rfl) (c8 ?_)
  intro w25 hc26
  replace hc26 := am hc26 g19
  by_cases p1 : ((bi c d a) * (bi c d b)) < 0
  ·
   refine ah rfl (dt p1) (a7 ?_)
   clear bx5 bx10 bx15 bx20
   refine a6 rfl (ai 1 (ab (ar (vs := [vi 1]) Try.func21 (.tmp rfl .nil) ?_)))
   have e0 : (1 : Int) = (cJ a b c d) := by
     with_reducible exact lj ‹_› ‹_›
   have C27 := cg [] (ch2.n.seq (ch7.n.seq (ch12.n.seq (ch17.n.seq (ch21.n.seq hc26.n)))))
   replace bH := bH.ca C27
   exact ⟨(congrArg (a₁ := 1) (fun (z0 : Int) => Ending.returned (vi z0)) e0), bH.below⟩
  refine aj rfl (df p1) (ao (a7 (a6 rfl (ma vn (ab (a7 (a6 rfl ?_)))))))
  replace bx5 := bx5.cn hc26
  refine lx (ad (ds := [vi a.1, vi a.2]) aa rfl bx5 rfl rfl) ?_
  replace bx10 := bx10.cn hc26
  refine lx (ad (ds := [vi b.1, vi b.2]) aa rfl bx10 rfl rfl) ?_
  replace bx15 := bx15.cn hc26
  refine lx (ad (ds := [vi c.1, vi c.2]) aa rfl bx15 rfl rfl) ?_
  replace bx20 := bx20.cn hc26
  refine lx (ad (ds := [vi d.1, vi d.2]) aa rfl bx20 rfl rfl) (lo (aP (α := (Int) × (Int)) g19 (is 5) (is 5) (5, 0) rfl ([a, b, c, d] : List ((Int) × (Int))) Try.underlying25 aa (by decide) (by decide) (vs := [(0, vg [vi a.1, vi a.2]), (1, vg [vi b.1, vi b.2]), (2, vg [vi c.1, vi c.2]), (3, vg [vi d.1, vi d.2])]) rfl rfl (.cons rfl (.cons rfl (.cons rfl (.cons rfl .nil)))) ?_))
  intro g28 w29 v30 ch31 o32
  refine ma v30 (ab (a7 (a7 (a6 rfl (ai 0 (ab (av ?_)))))))
  refine b5 (σ := Value × (List ((Int) × (Int))) × Nat × aS) (fun ⟨l_v, l, i, gq⟩ f w => bh w0 gq w ∧ f 4 = vp b3 0 ∧ f 5 = vp b8 0 ∧ f 6 = vp b13 0 ∧ f 7 = vp b18 0 ∧ f 9 = l_v ∧ f 10 = v30 ∧ f 11 = vi (i : Int) ∧ Bx gq (is 1) w b3 [vi a.1, vi a.2] ∧ Bx gq (is 2) w b8 [vi b.1, vi b.2] ∧ Bx gq (is 3) w b13 [vi c.1, vi c.2] ∧ Bx gq (is 4) w b18 [vi d.1, vi d.2] ∧ Ow gq (is 5) (is 5) w v30 ([a, b, c, d] : List ((Int) × (Int))) ∧ Ow gq (is 8) (is 8) w l_v l ∧ (i : Int) ≤ (4 : Int) ∧ (l = db a b c d [a, b, c, d] i ∧ i ≤ 4)) (fun ⟨l_v, l, i, gq⟩ => 4 - i) (vn, [], 0, g28) ?_ ?_
  have C33 := cg [] (ch2.n.seq (ch7.n.seq (ch12.n.seq (ch17.n.seq (ch21.n.seq (hc26.n.seq ch31.n))))))
  · exact ⟨bH.ca C33, rfl, rfl, rfl, rfl, rfl, rfl, rfl, bx5.cn ch31, bx10.cn ch31, bx15.cn ch31, bx20.cn ch31, o32, Ow.nil, by omega, by exact ⟨rfl, by omega⟩⟩
  clear bx5 bx10 bx15 bx20 o32 bH
  rintro ⟨l_v, l, i, g36⟩ f34 w35 ⟨bH, zs4, zs5, zs6, zs7, zs9, zs10, zs11, bx5, bx10, bx15, bx20, o32, o_l, hle_i, hinv⟩ back6
  obtain ⟨hl, hi4⟩ := hinv
  have hll : l.length ≤ i := by rw [hl]; exact iK i
  refine a7 (a7 (a6 rfl (mz zs11 (lx (bb (m := (i : Int)) (n := 4) rfl rfl) (ab ?_)))))
  by_cases p6 : (i : Int) < 4
  ·
   refine ah rfl (dt p6) ?_
   have hei := lN ha hb hc hd (i := i) ‹_›
   refine ao (a7 (av (a7 (a6 rfl (mz zs10 (mz zs11 (lx (ak (v := v30) (i := (i : Int)) Try.underlying25 rfl rfl o32.flat rfl (by omega) (by omega)) (lw (vg [vi ((gI ([a, b, c, d] : List ((Int) × (Int))) (i : Int)).1), vi ((gI ([a, b, c, d] : List ((Int) × (Int))) (i : Int)).2)]) (az (v := v30) (i := (i : Int)) aa rfl o32.flat (by omega) (by omega) rfl) (lo (aM g36 (is 6) (6, 0) rfl aa ?_))))))))))
   intro g40 w37 b39 ch38 bx41
   replace bx41 : Bx g40 (is 6) w37 b39 [vi 0, vi 0] := bx41
   refine lo (ae (cs' := [vi ((gI ([a, b, c, d] : List ((Int) × (Int))) (i : Int)).1), vi ((gI ([a, b, c, d] : List ((Int) × (Int))) (i : Int)).2)]) aa rfl rfl bx41 rfl (Nat.le_of_ble_eq_true rfl) (AllOne.all (.cons rfl (.cons rfl .nil))) rfl ?_)
   intro w42 ch43 bx44
   clear bx41
   refine ab (a7 (a7 (a6 rfl ?_)))
   replace bx5 := (bx5.cn ch38).ce ch43
   refine lx (ad (ds := [vi a.1, vi a.2]) aa zs4 bx5 rfl rfl) ?_
   replace bx10 := (bx10.cn ch38).ce ch43
   refine lx (ad (ds := [vi b.1, vi b.2]) aa zs5 bx10 rfl rfl) (lx (ad (ds := [vi ((gI ([a, b, c, d] : List ((Int) × (Int))) (i : Int)).1), vi ((gI ([a, b, c, d] : List ((Int) × (Int))) (i : Int)).2)]) aa rfl bx44 rfl rfl) (lo (aH (v := Value.bool (decide (bm a b (gI ([a, b, c, d] : List ((Int) × (Int))) (i : Int))))) (aA (vals := [vg [vi a.1, vi a.2], vg [vi b.1, vi b.2], vg [vi ((gI ([a, b, c, d] : List ((Int) × (Int))) (i : Int)).1), vi ((gI ([a, b, c, d] : List ((Int) × (Int))) (i : Int)).2)]]) Try.func44 eJ eI rfl) (eM w42 a b (gI ([a, b, c, d] : List ((Int) × (Int))) (i : Int)) ‹_› ‹_› ‹_›) ?_)))
   intro w45 hb46
   replace hb46 := am hb46 g40
   refine lx (cz (b := (decide (bm a b (gI ([a, b, c, d] : List ((Int) × (Int))) (i : Int))))) rfl) (mv (Value.bool (!(decide (bm a b (gI ([a, b, c, d] : List ((Int) × (Int))) (i : Int)))))) ?_)
   by_cases q55 : (decide (bm a b (gI ([a, b, c, d] : List ((Int) × (Int))) (i : Int)))) = true
   ·
    have C47 := cg [6] (ch38.n.seq ((ch43.l rfl).seq hb46.n))
    replace bx15 := bx15.ca C47
    refine lv (vg [vi c.1, vi c.2]) (wy (congrArg Bool.not q55)) (ad (ds := [vi c.1, vi c.2]) aa zs6 bx15 rfl rfl) ?_
    replace bx20 := bx20.ca C47
    refine lv (vg [vi d.1, vi d.2]) (wy (congrArg Bool.not q55)) (ad (ds := [vi d.1, vi d.2]) aa zs7 bx20 rfl rfl) ?_
    replace bx44 := bx44.cn hb46
    refine lv (vg [vi ((gI ([a, b, c, d] : List ((Int) × (Int))) (i : Int)).1), vi ((gI ([a, b, c, d] : List ((Int) × (Int))) (i : Int)).2)]) (wy (congrArg Bool.not q55)) (ad (ds := [vi ((gI ([a, b, c, d] : List ((Int) × (Int))) (i : Int)).1), vi ((gI ([a, b, c, d] : List ((Int) × (Int))) (i : Int)).2)]) aa rfl bx44 rfl rfl) (bN (wy (congrArg Bool.not q55)) ?_)
    refine aH (v := Value.bool (decide (bm c d (gI ([a, b, c, d] : List ((Int) × (Int))) (i : Int))))) (aA (vals := [vg [vi c.1, vi c.2], vg [vi d.1, vi d.2], vg [vi ((gI ([a, b, c, d] : List ((Int) × (Int))) (i : Int)).1), vi ((gI ([a, b, c, d] : List ((Int) × (Int))) (i : Int)).2)]]) Try.func44 eJ eI rfl) (eM w45 c d (gI ([a, b, c, d] : List ((Int) × (Int))) (i : Int)) ‹_› ‹_› ‹_›) ?_
    intro w48 hb49
    replace hb49 := am hb49 g40
    refine lv (Value.bool (!(decide (bm c d (gI ([a, b, c, d] : List ((Int) × (Int))) (i : Int)))))) (wy (congrArg Bool.not q55)) (cz (b := (decide (bm c d (gI ([a, b, c, d] : List ((Int) × (Int))) (i : Int))))) rfl) (lw (Value.bool (!(decide (bm c d (gI ([a, b, c, d] : List ((Int) × (Int))) (i : Int)))))) (aC rfl (congrArg Bool.not q55) rfl) (ab ?_))
    by_cases p9 : (decide (bm c d (gI ([a, b, c, d] : List ((Int) × (Int))) (i : Int)))) = true
    ·
     refine aj rfl (congrArg Bool.not p9) (ao (a7 (a6 rfl (ma (Value.bool true) (ab (a7 (a7 (a6 rfl (ai 0 (ab (av ?_)))))))))))
     refine b5 (σ := Bool × Nat × aS) (fun ⟨fr, k, gq⟩ f w => bh w0 gq w ∧ f 4 = vp b3 0 ∧ f 5 = vp b8 0 ∧ f 6 = vp b13 0 ∧ f 7 = vp b18 0 ∧ f 9 = l_v ∧ f 10 = v30 ∧ f 11 = vi (i : Int) ∧ f 12 = vp b39 0 ∧ f 13 = Value.bool fr ∧ f 14 = vi (k : Int) ∧ Bx gq (is 1) w b3 [vi a.1, vi a.2] ∧ Bx gq (is 2) w b8 [vi b.1, vi b.2] ∧ Bx gq (is 3) w b13 [vi c.1, vi c.2] ∧ Bx gq (is 4) w b18 [vi d.1, vi d.2] ∧ Ow gq (is 5) (is 5) w v30 ([a, b, c, d] : List ((Int) × (Int))) ∧ Ow gq (is 8) (is 8) w l_v l ∧ Bx gq (is 6) w b39 [vi ((gI ([a, b, c, d] : List ((Int) × (Int))) (i : Int)).1), vi ((gI ([a, b, c, d] : List ((Int) × (Int))) (i : Int)).2)] ∧ (k : Int) ≤ ((l.length : Int) : Int) ∧ (fr = lm l (gI [a, b, c, d] (i : Int)) k ∧ k ≤ l.length)) (fun ⟨fr, k, gq⟩ => Int.toNat (((l.length : Int) : Int) - (k : Int))) (true, 0, g40) ?_ ?_
     have C50 := cg [6] (ch38.n.seq ((ch43.l rfl).seq (hb46.n.seq hb49.n)))
     · exact ⟨bH.ca C50, zs4, zs5, zs6, zs7, zs9, zs10, zs11, rfl, rfl, rfl, (bx5.cn hb46).cn hb49, (bx10.cn hb46).cn hb49, bx15.cn hb49, bx20.cn hb49, o32.ca C50, o_l.ca C50, bx44.cn hb49, by omega, by exact ⟨rfl, by omega⟩⟩
     clear bx5 bx10 bx15 bx20 o32 o_l bx44 bH
     rintro ⟨fr, k, g53⟩ f51 w52 ⟨bH, zs4, zs5, zs6, zs7, zs9, zs10, zs11, zs12, zs13, zs14, bx5, bx10, bx15, bx20, o32, o_l, bx44, hle_k, hfk⟩ back12
     obtain ⟨hfr, hk2⟩ := hfk
     refine a7 (a7 (a6 rfl (mz zs14 (mz zs9 ?_))))
     have len54 := (o_l.flat).small
     refine lx (bk Try.underlying25 rfl o_l.flat) (lx (bb (m := (k : Int)) (n := (l.length : Int)) rfl rfl) (ab ?_))
     by_cases p12 : (k : Int) < (l.length : Int)
     ·
      refine ah rfl (dt p12) (ao (a7 (av (bS g53 rfl iG (by kernel_rfl) ?_))))
      intro w56 ch55
      refine qz zs13 (qm (Value.bool fr) ?_)
      by_cases q69 : fr = true
      ·
       refine aI (v := l_v) (wy q69) (fun w' hw' => aJ zs9) (aI (v := vi (k : Int)) (wy q69) (fun w' hw' => aJ zs14) ?_)
       replace o_l := o_l.cn ch55
       refine aI (v := Value.pointer (some (aN l_v 2 (Int.toNat (k : Int))))) (wy q69) (fun w' hw' => ak (α := (Int) × (Int)) (xs := l) (v := l_v) (i := (k : Int)) Try.underlying25 rfl rfl (o_l.flat.bel hw') rfl (by omega) (by omega)) (aI (v := vg [vi ((gI l (k : Int)).1), vi ((gI l (k : Int)).2)]) (wy q69) (fun w' hw' => az (α := (Int) × (Int)) (xs := l) (v := l_v) (i := (k : Int)) aa rfl (o_l.flat.bel hw') (by omega) (by omega) rfl) ?_)
       replace bx44 := bx44.cn ch55
       refine aI (v := vg [vi ((gI ([a, b, c, d] : List ((Int) × (Int))) (i : Int)).1), vi ((gI ([a, b, c, d] : List ((Int) × (Int))) (i : Int)).2)]) (wy q69) (fun w' hw' => ad (ds := [vi ((gI ([a, b, c, d] : List ((Int) × (Int))) (i : Int)).1), vi ((gI ([a, b, c, d] : List ((Int) × (Int))) (i : Int)).2)]) aa zs12 (bx44.bel hw') rfl rfl) ?_
       refine aI (v := Value.bool (!(decide ((gI l (k : Int)) = (gI ([a, b, c, d] : List ((Int) × (Int))) (i : Int)))))) (wy q69) (fun w' hw' => ef (bs := [decide (((gI l (k : Int)).1) = ((gI ([a, b, c, d] : List ((Int) × (Int))) (i : Int)).1)), decide (((gI l (k : Int)).2) = ((gI ([a, b, c, d] : List ((Int) × (Int))) (i : Int)).2))]) Try.underlying45 (by kernel_rfl) (by kernel_rfl) rfl rfl (.cons (by decide +kernel) al rfl rfl (.int Try.underlying3) (.cons (by decide +kernel) al rfl rfl (.int Try.underlying3) .nil)) (by simp [Prod.ext_iff, Bool.decide_and, Bool.and_assoc])) (qv (Value.bool (!(decide ((gI l (k : Int)) = (gI ([a, b, c, d] : List ((Int) × (Int))) (i : Int)))))) (fun w' hw' => aw rfl q69 rfl) (qv (Value.bool (!(decide ((gI l (k : Int)) = (gI ([a, b, c, d] : List ((Int) × (Int))) (i : Int)))))) (fun w' hw' => bJ rfl) (c8 ?_)))
       intro w57 hc58
       replace hc58 := am hc58 g53
       refine aq (a6 rfl (mz zs14 (lx (aT (m := (k : Int)) (n := 1) rfl rfl (by omega)) (ai ((k : Int) + 1) (ab ?_)))))
       replace bH := bH.cn ch55
       refine back12 (!(decide ((gI l (k : Int)) = (gI ([a, b, c, d] : List ((Int) × (Int))) (i : Int)))), k + 1, g53) _ _ ⟨bH.cn hc58, zs4, zs5, zs6, zs7, zs9, zs10, zs11, zs12, rfl, rfl, (bx5.cn ch55).cn hc58, (bx10.cn ch55).cn hc58, (bx15.cn ch55).cn hc58, (bx20.cn ch55).cn hc58, (o32.cn ch55).cn hc58, o_l.cn hc58, bx44.cn hc58, by omega, ?_⟩ ?_
       · show (!(decide ((gI l (k : Int)) = (gI ([a, b, c, d] : List ((Int) × (Int))) (i : Int))))) = lm l (gI [a, b, c, d] (i : Int)) (k + 1) ∧ (k + 1) ≤ l.length
         refine ⟨?_, by omega⟩
         (rw [lm, ← hfr, (show fr = true by assumption)]; rfl)
       · show Int.toNat (((l.length : Int) : Int) - ((k + 1) : Int)) < Int.toNat (((l.length : Int) : Int) - (k : Int))
         omega
      refine aB (wn (Bool.eq_false_iff.2 q69)) (aB (wn (Bool.eq_false_iff.2 q69)) (aB (wn (Bool.eq_false_iff.2 q69)) (aB (wn (Bool.eq_false_iff.2 q69)) (aB (wn (Bool.eq_false_iff.2 q69)) (aB (wn (Bool.eq_false_iff.2 q69)) (qv (Value.bool false) (fun w' hw' => aC rfl (Bool.eq_false_iff.2 q69) rfl) (qv (Value.bool false) (fun w' hw' => bJ rfl) (c8 ?_))))))))
      intro w59 hc60
      replace hc60 := am hc60 g53
      refine aq (a6 rfl (mz zs14 (lx (aT (m := (k : Int)) (n := 1) rfl rfl (by omega)) (ai ((k : Int) + 1) (ab ?_)))))
      replace bH := bH.cn ch55
      refine back12 (false, k + 1, g53) _ _ ⟨bH.cn hc60, zs4, zs5, zs6, zs7, zs9, zs10, zs11, zs12, rfl, rfl, (bx5.cn ch55).cn hc60, (bx10.cn ch55).cn hc60, (bx15.cn ch55).cn hc60, (bx20.cn ch55).cn hc60, (o32.cn ch55).cn hc60, (o_l.cn ch55).cn hc60, (bx44.cn ch55).cn hc60, by omega, ?_⟩ ?_
      · show false = lm l (gI [a, b, c, d] (i : Int)) (k + 1) ∧ (k + 1) ≤ l.length
        refine ⟨?_, by omega⟩
        (rw [lm, ← hfr, Bool.eq_false_iff.2 (show ¬ fr = true by assumption)]; rfl)
      · show Int.toNat (((l.length : Int) : Int) - ((k + 1) : Int)) < Int.toNat (((l.length : Int) : Int) - (k : Int))
        omega
     refine aj rfl (df p12) (aU rfl (a7 (a6 rfl (mz zs13 (ab ?_)))))
     by_cases p15 : fr = true
     ·
      refine ah rfl p15 (a6 rfl (mz zs9 (lx (ad (ds := [vi ((gI ([a, b, c, d] : List ((Int) × (Int))) (i : Int)).1), vi ((gI ([a, b, c, d] : List ((Int) × (Int))) (i : Int)).2)]) aa zs12 bx44 rfl rfl) (lo (aP (α := (Int) × (Int)) g53 (is 7) (is 7) (7, 0) rfl ([(gI ([a, b, c, d] : List ((Int) × (Int))) (i : Int))] : List ((Int) × (Int))) Try.underlying25 aa (by decide) (by decide) (vs := [(0, vg [vi ((gI ([a, b, c, d] : List ((Int) × (Int))) (i : Int)).1), vi ((gI ([a, b, c, d] : List ((Int) × (Int))) (i : Int)).2)])]) rfl rfl (.cons rfl .nil) ?_)))))
      intro g61 w62 v63 ch64 o65
      refine lo ?_
      replace o_l := o_l.cn ch64
      refine bv (α := (Int) × (Int)) (xs := l) (ys := ([(gI ([a, b, c, d] : List ((Int) × (Int))) (i : Int))] : List ((Int) × (Int)))) g61 (J := is 8) (S := is 8) (8, 0) rfl Try.underlying25 aa (by decide) rfl rfl rfl o_l o65.flat (by decide) (by (simp; omega)) ?_
      intro g66 w67 v68 ch69 o70
      clear o_l
      refine ma v68 (ab (aq ?_))
      clear bx44 o65
      refine a6 rfl (mz zs11 (lx (aT (m := (i : Int)) (n := 1) rfl rfl (by omega)) (ai ((i : Int) + 1) (ab ?_))))
      replace bH := bH.cn ch64
      refine back6 (v68, (l ++ ([(gI ([a, b, c, d] : List ((Int) × (Int))) (i : Int))] : List ((Int) × (Int)))), i + 1, g66) _ _ ⟨bH.ce ch69, zs4, zs5, zs6, zs7, rfl, zs10, rfl, (bx5.cn ch64).ce ch69, (bx10.cn ch64).ce ch69, (bx15.cn ch64).ce ch69, (bx20.cn ch64).ce ch69, (o32.cn ch64).ce ch69, o70, by omega, ?_⟩ ?_
      · show (l ++ ([(gI ([a, b, c, d] : List ((Int) × (Int))) (i : Int))] : List ((Int) × (Int)))) = db a b c d [a, b, c, d] (i + 1) ∧ (i + 1) ≤ 4
        refine ⟨?_, by omega⟩
        exact jo hl ⟨of_decide_eq_true ‹_›, of_decide_eq_true ‹_›⟩ ((mK ‹_› hk2).1 (by rw [← hfr]; assumption))
      · show 4 - (i + 1) < 4 - i
        omega
     refine aj rfl (Bool.eq_false_iff.2 p15) (ao (aq ?_))
     clear bx44
     refine a6 rfl (mz zs11 (lx (aT (m := (i : Int)) (n := 1) rfl rfl (by omega)) (ai ((i : Int) + 1) (ab ?_))))
     refine back6 (l_v, l, i + 1, g53) _ _ ⟨bH, zs4, zs5, zs6, zs7, zs9, zs10, rfl, bx5, bx10, bx15, bx20, o32, o_l, by omega, ?_⟩ ?_
     · show l = db a b c d [a, b, c, d] (i + 1) ∧ (i + 1) ≤ 4
       refine ⟨?_, by omega⟩
       exact k9 hl (Classical.byContradiction fun hm => absurd (hfr.trans ((mK ‹_› hk2).2 hm)) ‹_›)
     · show 4 - (i + 1) < 4 - i
       omega
    refine ah rfl (congrArg Bool.not (Bool.eq_false_iff.2 p9)) (aU rfl ?_)
    clear bx44
    refine a6 rfl (mz zs11 (lx (aT (m := (i : Int)) (n := 1) rfl rfl (by omega)) (ai ((i : Int) + 1) (ab ?_))))
    have C71 := cg [6] (ch38.n.seq ((ch43.l rfl).seq (hb46.n.seq hb49.n)))
    refine back6 (l_v, l, i + 1, g40) _ _ ⟨bH.ca C71, zs4, zs5, zs6, zs7, zs9, zs10, rfl, (bx5.cn hb46).cn hb49, (bx10.cn hb46).cn hb49, bx15.cn hb49, bx20.cn hb49, o32.ca C71, o_l.ca C71, by omega, ?_⟩ ?_
    · show l = db a b c d [a, b, c, d] (i + 1) ∧ (i + 1) ≤ 4
      refine ⟨?_, by omega⟩
      exact gS hl (fun h => absurd (dt h.2) ‹_›)
    · show 4 - (i + 1) < 4 - i
      omega
   refine af (wn (congrArg Bool.not (Bool.eq_false_iff.2 q55))) (af (wn (congrArg Bool.not (Bool.eq_false_iff.2 q55))) (af (wn (congrArg Bool.not (Bool.eq_false_iff.2 q55))) (af (wn (congrArg Bool.not (Bool.eq_false_iff.2 q55))) (af (wn (congrArg Bool.not (Bool.eq_false_iff.2 q55))) (lw (Value.bool true) (aw rfl (congrArg Bool.not (Bool.eq_false_iff.2 q55)) rfl) (ab (ah rfl rfl (aU rfl ?_))))))))
   clear bx44
   refine a6 rfl (mz zs11 (lx (aT (m := (i : Int)) (n := 1) rfl rfl (by omega)) (ai ((i : Int) + 1) (ab ?_))))
   have C72 := cg [6] (ch38.n.seq ((ch43.l rfl).seq hb46.n))
   refine back6 (l_v, l, i + 1, g40) _ _ ⟨bH.ca C72, zs4, zs5, zs6, zs7, zs9, zs10, rfl, bx5.cn hb46, bx10.cn hb46, bx15.ca C72, bx20.ca C72, o32.ca C72, o_l.ca C72, by omega, ?_⟩ ?_
   · show l = db a b c d [a, b, c, d] (i + 1) ∧ (i + 1) ≤ 4
     refine ⟨?_, by omega⟩
     exact gS hl (fun h => absurd (dt h.1) ‹_›)
   · show 4 - (i + 1) < 4 - i
     omega
  refine aj rfl (df p6) (aU rfl (a7 (a7 ?_)))
  clear bx5 bx10 bx15 bx20 o32
  have hE : l = db a b c d [a, b, c, d] 4 := by rw [hl, show i = 4 by omega]
  have hnc : ¬ dT a b c d := by rintro ⟨h1, h2⟩; (exact absurd h2 ‹_›)
  obtain ⟨hr1, hr2, hr3⟩ := lS hE hnc
  refine a6 rfl (mz zs9 ?_)
  have len73 := (o_l.flat).small
  refine lx (bk Try.underlying25 rfl o_l.flat) (ab (av (a7 ?_)))
  clear o_l
  refine a6 rfl (lx (bx (m := (l.length : Int)) (n := 0) rfl rfl) (ma (Value.bool (decide ((l.length : Int) = 0))) (ab ?_)))
  by_cases p18 : (l.length : Int) = 0
  ·
   refine ah rfl (dt p18) (a7 (a6 rfl (ai 0 (ab (ar (vs := [vi 0]) Try.func21 (.tmp rfl .nil) ?_)))))
   have e0 : (0 : Int) = (cJ a b c d) := by
     exact hr1 (by omega)
   exact ⟨(congrArg (a₁ := 0) (fun (z0 : Int) => Ending.returned (vi z0)) e0), bH.below⟩
  refine aj rfl (df p18) (a7 (a6 rfl (lx (bx (m := (l.length : Int)) (n := 1) rfl rfl) (ma (Value.bool (decide ((l.length : Int) = 1))) (ab ?_)))))
  by_cases p20 : (l.length : Int) = 1
  ·
   refine ah rfl (dt p20) (a7 (a6 rfl (ai 2 (ab (ar (vs := [vi 2]) Try.func21 (.tmp rfl .nil) ?_)))))
   have e0 : (2 : Int) = (cJ a b c d) := by
     exact hr2 (by omega)
   exact ⟨(congrArg (a₁ := 2) (fun (z0 : Int) => Ending.returned (vi z0)) e0), bH.below⟩
  refine aj rfl (df p20) (ao (aq (a7 (a6 rfl (ai 3 (ab (ar (vs := [vi 3]) Try.func21 (.tmp rfl .nil) ?_)))))))
  have e0 : (3 : Int) = (cJ a b c d) := by
    exact hr3 (by omega) (by omega)
  exact ⟨(congrArg (a₁ := 3) (fun (z0 : Int) => Ending.returned (vi z0)) e0), bH.below⟩
 refine aB (wn (df q25)) (aB (wn (df q25)) (aB (wn (df q25)) (aB (wn (df q25)) (aB (wn (df q25)) (aB (wn (df q25)) (aB (wn (df q25)) (aB (wn (df q25)) (aB (wn (df q25)) (aB (wn (df q25)) ?_)))))))))
 refine qv (Value.bool false) (fun w' hw' => aC rfl (df q25) rfl) (c8 ?_)
 intro w74 hc75
 replace hc75 := am hc75 g19
 refine aj rfl rfl (ao (a7 (a6 rfl (ma vn (ab (a7 (a6 rfl ?_)))))))
 replace bx5 := bx5.cn hc75
 refine lx (ad (ds := [vi a.1, vi a.2]) aa rfl bx5 rfl rfl) ?_
 replace bx10 := bx10.cn hc75
 refine lx (ad (ds := [vi b.1, vi b.2]) aa rfl bx10 rfl rfl) ?_
 replace bx15 := bx15.cn hc75
 refine lx (ad (ds := [vi c.1, vi c.2]) aa rfl bx15 rfl rfl) ?_
 replace bx20 := bx20.cn hc75
 refine lx (ad (ds := [vi d.1, vi d.2]) aa rfl bx20 rfl rfl) (lo (aP (α := (Int) × (Int)) g19 (is 5) (is 5) (5, 0) rfl ([a, b, c, d] : List ((Int) × (Int))) Try.underlying25 aa (by decide) (by decide) (vs := [(0, vg [vi a.1, vi a.2]), (1, vg [vi b.1, vi b.2]), (2, vg [vi c.1, vi c.2]), (3, vg [vi d.1, vi d.2])]) rfl rfl (.cons rfl (.cons rfl (.cons rfl (.cons rfl .nil)))) ?_))
 intro g76 w77 v78 ch79 o80
 refine ma v78 (ab (a7 (a7 (a6 rfl (ai 0 (ab (av ?_)))))))
 refine b5 (σ := Value × (List ((Int) × (Int))) × Nat × aS) (fun ⟨l_v, l, i, gq⟩ f w => bh w0 gq w ∧ f 4 = vp b3 0 ∧ f 5 = vp b8 0 ∧ f 6 = vp b13 0 ∧ f 7 = vp b18 0 ∧ f 9 = l_v ∧ f 10 = v78 ∧ f 11 = vi (i : Int) ∧ Bx gq (is 1) w b3 [vi a.1, vi a.2] ∧ Bx gq (is 2) w b8 [vi b.1, vi b.2] ∧ Bx gq (is 3) w b13 [vi c.1, vi c.2] ∧ Bx gq (is 4) w b18 [vi d.1, vi d.2] ∧ Ow gq (is 5) (is 5) w v78 ([a, b, c, d] : List ((Int) × (Int))) ∧ Ow gq (is 8) (is 8) w l_v l ∧ (i : Int) ≤ (4 : Int) ∧ (l = db a b c d [a, b, c, d] i ∧ i ≤ 4)) (fun ⟨l_v, l, i, gq⟩ => 4 - i) (vn, [], 0, g76) ?_ ?_
 have C81 := cg [] (ch2.n.seq (ch7.n.seq (ch12.n.seq (ch17.n.seq (ch21.n.seq (hc75.n.seq ch79.n))))))
 · exact ⟨bH.ca C81, rfl, rfl, rfl, rfl, rfl, rfl, rfl, bx5.cn ch79, bx10.cn ch79, bx15.cn ch79, bx20.cn ch79, o80, Ow.nil, by omega, by exact ⟨rfl, by omega⟩⟩
 clear bx5 bx10 bx15 bx20 o80 bH
 rintro ⟨l_v, l, i, g84⟩ f82 w83 ⟨bH, zs4, zs5, zs6, zs7, zs9, zs10, zs11, bx5, bx10, bx15, bx20, o80, o_l, hle_i, hinv⟩ back6
 obtain ⟨hl, hi4⟩ := hinv
 have hll : l.length ≤ i := by rw [hl]; exact iK i
 refine a7 (a7 (a6 rfl (mz zs11 (lx (bb (m := (i : Int)) (n := 4) rfl rfl) (ab ?_)))))
 by_cases p6 : (i : Int) < 4
 ·
  refine ah rfl (dt p6) ?_
  have hei := lN ha hb hc hd (i := i) ‹_›
  refine ao (a7 (av (a7 (a6 rfl (mz zs10 (mz zs11 (lx (ak (v := v78) (i := (i : Int)) Try.underlying25 rfl rfl o80.flat rfl (by omega) (by omega)) (lw (vg [vi ((gI ([a, b, c, d] : List ((Int) × (Int))) (i : Int)).1), vi ((gI ([a, b, c, d] : List ((Int) × (Int))) (i : Int)).2)]) (az (v := v78) (i := (i : Int)) aa rfl o80.flat (by omega) (by omega) rfl) (lo (aM g84 (is 6) (6, 0) rfl aa ?_))))))))))
  intro g88 w85 b87 ch86 bx89
  replace bx89 : Bx g88 (is 6) w85 b87 [vi 0, vi 0] := bx89
  refine lo (ae (cs' := [vi ((gI ([a, b, c, d] : List ((Int) × (Int))) (i : Int)).1), vi ((gI ([a, b, c, d] : List ((Int) × (Int))) (i : Int)).2)]) aa rfl rfl bx89 rfl (Nat.le_of_ble_eq_true rfl) (AllOne.all (.cons rfl (.cons rfl .nil))) rfl ?_)
  intro w90 ch91 bx92
  clear bx89
  refine ab (a7 (a7 (a6 rfl ?_)))
  replace bx5 := (bx5.cn ch86).ce ch91
  refine lx (ad (ds := [vi a.1, vi a.2]) aa zs4 bx5 rfl rfl) ?_
  replace bx10 := (bx10.cn ch86).ce ch91
  refine lx (ad (ds := [vi b.1, vi b.2]) aa zs5 bx10 rfl rfl) (lx (ad (ds := [vi ((gI ([a, b, c, d] : List ((Int) × (Int))) (i : Int)).1), vi ((gI ([a, b, c, d] : List ((Int) × (Int))) (i : Int)).2)]) aa rfl bx92 rfl rfl) (lo (aH (v := Value.bool (decide (bm a b (gI ([a, b, c, d] : List ((Int) × (Int))) (i : Int))))) (aA (vals := [vg [vi a.1, vi a.2], vg [vi b.1, vi b.2], vg [vi ((gI ([a, b, c, d] : List ((Int) × (Int))) (i : Int)).1), vi ((gI ([a, b, c, d] : List ((Int) × (Int))) (i : Int)).2)]]) Try.func44 eJ eI rfl) (eM w90 a b (gI ([a, b, c, d] : List ((Int) × (Int))) (i : Int)) ‹_› ‹_› ‹_›) ?_)))
  intro w93 hb94
  replace hb94 := am hb94 g88
  refine lx (cz (b := (decide (bm a b (gI ([a, b, c, d] : List ((Int) × (Int))) (i : Int))))) rfl) (mv (Value.bool (!(decide (bm a b (gI ([a, b, c, d] : List ((Int) × (Int))) (i : Int)))))) ?_)
  by_cases q55 : (decide (bm a b (gI ([a, b, c, d] : List ((Int) × (Int))) (i : Int)))) = true
  ·
   have C95 := cg [6] (ch86.n.seq ((ch91.l rfl).seq hb94.n))
   replace bx15 := bx15.ca C95
   refine lv (vg [vi c.1, vi c.2]) (wy (congrArg Bool.not q55)) (ad (ds := [vi c.1, vi c.2]) aa zs6 bx15 rfl rfl) ?_
   replace bx20 := bx20.ca C95
   refine lv (vg [vi d.1, vi d.2]) (wy (congrArg Bool.not q55)) (ad (ds := [vi d.1, vi d.2]) aa zs7 bx20 rfl rfl) ?_
   replace bx92 := bx92.cn hb94
   refine lv (vg [vi ((gI ([a, b, c, d] : List ((Int) × (Int))) (i : Int)).1), vi ((gI ([a, b, c, d] : List ((Int) × (Int))) (i : Int)).2)]) (wy (congrArg Bool.not q55)) (ad (ds := [vi ((gI ([a, b, c, d] : List ((Int) × (Int))) (i : Int)).1), vi ((gI ([a, b, c, d] : List ((Int) × (Int))) (i : Int)).2)]) aa rfl bx92 rfl rfl) (bN (wy (congrArg Bool.not q55)) ?_)
   refine aH (v := Value.bool (decide (bm c d (gI ([a, b, c, d] : List ((Int) × (Int))) (i : Int))))) (aA (vals := [vg [vi c.1, vi c.2], vg [vi d.1, vi d.2], vg [vi ((gI ([a, b, c, d] : List ((Int) × (Int))) (i : Int)).1), vi ((gI ([a, b, c, d] : List ((Int) × (Int))) (i : Int)).2)]]) Try.func44 eJ eI rfl) (eM w93 c d (gI ([a, b, c, d] : List ((Int) × (Int))) (i : Int)) ‹_› ‹_› ‹_›) ?_
   intro w96 hb97
   replace hb97 := am hb97 g88
   refine lv (Value.bool (!(decide (bm c d (gI ([a, b, c, d] : List ((Int) × (Int))) (i : Int)))))) (wy (congrArg Bool.not q55)) (cz (b := (decide (bm c d (gI ([a, b, c, d] : List ((Int) × (Int))) (i : Int))))) rfl) (lw (Value.bool (!(decide (bm c d (gI ([a, b, c, d] : List ((Int) × (Int))) (i : Int)))))) (aC rfl (congrArg Bool.not q55) rfl) (ab ?_))
   by_cases p9 : (decide (bm c d (gI ([a, b, c, d] : List ((Int) × (Int))) (i : Int)))) = true
   ·
    refine aj rfl (congrArg Bool.not p9) (ao (a7 (a6 rfl (ma (Value.bool true) (ab (a7 (a7 (a6 rfl (ai 0 (ab (av ?_)))))))))))
    refine b5 (σ := Bool × Nat × aS) (fun ⟨fr, k, gq⟩ f w => bh w0 gq w ∧ f 4 = vp b3 0 ∧ f 5 = vp b8 0 ∧ f 6 = vp b13 0 ∧ f 7 = vp b18 0 ∧ f 9 = l_v ∧ f 10 = v78 ∧ f 11 = vi (i : Int) ∧ f 12 = vp b87 0 ∧ f 13 = Value.bool fr ∧ f 14 = vi (k : Int) ∧ Bx gq (is 1) w b3 [vi a.1, vi a.2] ∧ Bx gq (is 2) w b8 [vi b.1, vi b.2] ∧ Bx gq (is 3) w b13 [vi c.1, vi c.2] ∧ Bx gq (is 4) w b18 [vi d.1, vi d.2] ∧ Ow gq (is 5) (is 5) w v78 ([a, b, c, d] : List ((Int) × (Int))) ∧ Ow gq (is 8) (is 8) w l_v l ∧ Bx gq (is 6) w b87 [vi ((gI ([a, b, c, d] : List ((Int) × (Int))) (i : Int)).1), vi ((gI ([a, b, c, d] : List ((Int) × (Int))) (i : Int)).2)] ∧ (k : Int) ≤ ((l.length : Int) : Int) ∧ (fr = lm l (gI [a, b, c, d] (i : Int)) k ∧ k ≤ l.length)) (fun ⟨fr, k, gq⟩ => Int.toNat (((l.length : Int) : Int) - (k : Int))) (true, 0, g88) ?_ ?_
    have C98 := cg [6] (ch86.n.seq ((ch91.l rfl).seq (hb94.n.seq hb97.n)))
    · exact ⟨bH.ca C98, zs4, zs5, zs6, zs7, zs9, zs10, zs11, rfl, rfl, rfl, (bx5.cn hb94).cn hb97, (bx10.cn hb94).cn hb97, bx15.cn hb97, bx20.cn hb97, o80.ca C98, o_l.ca C98, bx92.cn hb97, by omega, by exact ⟨rfl, by omega⟩⟩
    clear bx5 bx10 bx15 bx20 o80 o_l bx92 bH
    rintro ⟨fr, k, g101⟩ f99 w100 ⟨bH, zs4, zs5, zs6, zs7, zs9, zs10, zs11, zs12, zs13, zs14, bx5, bx10, bx15, bx20, o80, o_l, bx92, hle_k, hfk⟩ back12
    obtain ⟨hfr, hk2⟩ := hfk
    refine a7 (a7 (a6 rfl (mz zs14 (mz zs9 ?_))))
    have len102 := (o_l.flat).small
    refine lx (bk Try.underlying25 rfl o_l.flat) (lx (bb (m := (k : Int)) (n := (l.length : Int)) rfl rfl) (ab ?_))
    by_cases p12 : (k : Int) < (l.length : Int)
    ·
     refine ah rfl (dt p12) (ao (a7 (av (bS g101 rfl iG (by kernel_rfl) ?_))))
     intro w104 ch103
     refine qz zs13 (qm (Value.bool fr) ?_)
     by_cases q69 : fr = true
     ·
      refine aI (v := l_v) (wy q69) (fun w' hw' => aJ zs9) (aI (v := vi (k : Int)) (wy q69) (fun w' hw' => aJ zs14) ?_)
      replace o_l := o_l.cn ch103
      refine aI (v := Value.pointer (some (aN l_v 2 (Int.toNat (k : Int))))) (wy q69) (fun w' hw' => ak (α := (Int) × (Int)) (xs := l) (v := l_v) (i := (k : Int)) Try.underlying25 rfl rfl (o_l.flat.bel hw') rfl (by omega) (by omega)) (aI (v := vg [vi ((gI l (k : Int)).1), vi ((gI l (k : Int)).2)]) (wy q69) (fun w' hw' => az (α := (Int) × (Int)) (xs := l) (v := l_v) (i := (k : Int)) aa rfl (o_l.flat.bel hw') (by omega) (by omega) rfl) ?_)
      replace bx92 := bx92.cn ch103
      refine aI (v := vg [vi ((gI ([a, b, c, d] : List ((Int) × (Int))) (i : Int)).1), vi ((gI ([a, b, c, d] : List ((Int) × (Int))) (i : Int)).2)]) (wy q69) (fun w' hw' => ad (ds := [vi ((gI ([a, b, c, d] : List ((Int) × (Int))) (i : Int)).1), vi ((gI ([a, b, c, d] : List ((Int) × (Int))) (i : Int)).2)]) aa zs12 (bx92.bel hw') rfl rfl) ?_
      refine aI (v := Value.bool (!(decide ((gI l (k : Int)) = (gI ([a, b, c, d] : List ((Int) × (Int))) (i : Int)))))) (wy q69) (fun w' hw' => ef (bs := [decide (((gI l (k : Int)).1) = ((gI ([a, b, c, d] : List ((Int) × (Int))) (i : Int)).1)), decide (((gI l (k : Int)).2) = ((gI ([a, b, c, d] : List ((Int) × (Int))) (i : Int)).2))]) Try.underlying45 (by kernel_rfl) (by kernel_rfl) rfl rfl (.cons (by decide +kernel) al rfl rfl (.int Try.underlying3) (.cons (by decide +kernel) al rfl rfl (.int Try.underlying3) .nil)) (by simp [Prod.ext_iff, Bool.decide_and, Bool.and_assoc])) (qv (Value.bool (!(decide ((gI l (k : Int)) = (gI ([a, b, c, d] : List ((Int) × (Int))) (i : Int)))))) (fun w' hw' => aw rfl q69 rfl) (qv (Value.bool (!(decide ((gI l (k : Int)) = (gI ([a, b, c, d] : List ((Int) × (Int))) (i : Int)))))) (fun w' hw' => bJ rfl) (c8 ?_)))
      intro w105 hc106
      replace hc106 := am hc106 g101
      refine aq (a6 rfl (mz zs14 (lx (aT (m := (k : Int)) (n := 1) rfl rfl (by omega)) (ai ((k : Int) + 1) (ab ?_)))))
      replace bH := bH.cn ch103
      refine back12 (!(decide ((gI l (k : Int)) = (gI ([a, b, c, d] : List ((Int) × (Int))) (i : Int)))), k + 1, g101) _ _ ⟨bH.cn hc106, zs4, zs5, zs6, zs7, zs9, zs10, zs11, zs12, rfl, rfl, (bx5.cn ch103).cn hc106, (bx10.cn ch103).cn hc106, (bx15.cn ch103).cn hc106, (bx20.cn ch103).cn hc106, (o80.cn ch103).cn hc106, o_l.cn hc106, bx92.cn hc106, by omega, ?_⟩ ?_
      · show (!(decide ((gI l (k : Int)) = (gI ([a, b, c, d] : List ((Int) × (Int))) (i : Int))))) = lm l (gI [a, b, c, d] (i : Int)) (k + 1) ∧ (k + 1) ≤ l.length
        refine ⟨?_, by omega⟩
        (rw [lm, ← hfr, (show fr = true by assumption)]; rfl)
      · show Int.toNat (((l.length : Int) : Int) - ((k + 1) : Int)) < Int.toNat (((l.length : Int) : Int) - (k : Int))
        omega
     refine aB (wn (Bool.eq_false_iff.2 q69)) (aB (wn (Bool.eq_false_iff.2 q69)) (aB (wn (Bool.eq_false_iff.2 q69)) (aB (wn (Bool.eq_false_iff.2 q69)) (aB (wn (Bool.eq_false_iff.2 q69)) (aB (wn (Bool.eq_false_iff.2 q69)) (qv (Value.bool false) (fun w' hw' => aC rfl (Bool.eq_false_iff.2 q69) rfl) (qv (Value.bool false) (fun w' hw' => bJ rfl) (c8 ?_))))))))
     intro w107 hc108
     replace hc108 := am hc108 g101
     refine aq (a6 rfl (mz zs14 (lx (aT (m := (k : Int)) (n := 1) rfl rfl (by omega)) (ai ((k : Int) + 1) (ab ?_)))))
     replace bH := bH.cn ch103
     refine back12 (false, k + 1, g101) _ _ ⟨bH.cn hc108, zs4, zs5, zs6, zs7, zs9, zs10, zs11, zs12, rfl, rfl, (bx5.cn ch103).cn hc108, (bx10.cn ch103).cn hc108, (bx15.cn ch103).cn hc108, (bx20.cn ch103).cn hc108, (o80.cn ch103).cn hc108, (o_l.cn ch103).cn hc108, (bx92.cn ch103).cn hc108, by omega, ?_⟩ ?_
     · show false = lm l (gI [a, b, c, d] (i : Int)) (k + 1) ∧ (k + 1) ≤ l.length
       refine ⟨?_, by omega⟩
       (rw [lm, ← hfr, Bool.eq_false_iff.2 (show ¬ fr = true by assumption)]; rfl)
     · show Int.toNat (((l.length : Int) : Int) - ((k + 1) : Int)) < Int.toNat (((l.length : Int) : Int) - (k : Int))
       omega
    refine aj rfl (df p12) (aU rfl (a7 (a6 rfl (mz zs13 (ab ?_)))))
    by_cases p15 : fr = true
    ·
     refine ah rfl p15 (a6 rfl (mz zs9 (lx (ad (ds := [vi ((gI ([a, b, c, d] : List ((Int) × (Int))) (i : Int)).1), vi ((gI ([a, b, c, d] : List ((Int) × (Int))) (i : Int)).2)]) aa zs12 bx92 rfl rfl) (lo (aP (α := (Int) × (Int)) g101 (is 7) (is 7) (7, 0) rfl ([(gI ([a, b, c, d] : List ((Int) × (Int))) (i : Int))] : List ((Int) × (Int))) Try.underlying25 aa (by decide) (by decide) (vs := [(0, vg [vi ((gI ([a, b, c, d] : List ((Int) × (Int))) (i : Int)).1), vi ((gI ([a, b, c, d] : List ((Int) × (Int))) (i : Int)).2)])]) rfl rfl (.cons rfl .nil) ?_)))))
     intro g109 w110 v111 ch112 o113
     refine lo ?_
     replace o_l := o_l.cn ch112
     refine bv (α := (Int) × (Int)) (xs := l) (ys := ([(gI ([a, b, c, d] : List ((Int) × (Int))) (i : Int))] : List ((Int) × (Int)))) g109 (J := is 8) (S := is 8) (8, 0) rfl Try.underlying25 aa (by decide) rfl rfl rfl o_l o113.flat (by decide) (by (simp; omega)) ?_
     intro g114 w115 v116 ch117 o118
     clear o_l
     refine ma v116 (ab (aq ?_))
     clear bx92 o113
     refine a6 rfl (mz zs11 (lx (aT (m := (i : Int)) (n := 1) rfl rfl (by omega)) (ai ((i : Int) + 1) (ab ?_))))
     replace bH := bH.cn ch112
     refine back6 (v116, (l ++ ([(gI ([a, b, c, d] : List ((Int) × (Int))) (i : Int))] : List ((Int) × (Int)))), i + 1, g114) _ _ ⟨bH.ce ch117, zs4, zs5, zs6, zs7, rfl, zs10, rfl, (bx5.cn ch112).ce ch117, (bx10.cn ch112).ce ch117, (bx15.cn ch112).ce ch117, (bx20.cn ch112).ce ch117, (o80.cn ch112).ce ch117, o118, by omega, ?_⟩ ?_
     · show (l ++ ([(gI ([a, b, c, d] : List ((Int) × (Int))) (i : Int))] : List ((Int) × (Int)))) = db a b c d [a, b, c, d] (i + 1) ∧ (i + 1) ≤ 4
       refine ⟨?_, by omega⟩
       exact jo hl ⟨of_decide_eq_true ‹_›, of_decide_eq_true ‹_›⟩ ((mK ‹_› hk2).1 (by rw [← hfr]; assumption))
     · show 4 - (i + 1) < 4 - i
       omega
    refine aj rfl (Bool.eq_false_iff.2 p15) (ao (aq ?_))
    clear bx92
    refine a6 rfl (mz zs11 (lx (aT (m := (i : Int)) (n := 1) rfl rfl (by omega)) (ai ((i : Int) + 1) (ab ?_))))
    refine back6 (l_v, l, i + 1, g101) _ _ ⟨bH, zs4, zs5, zs6, zs7, zs9, zs10, rfl, bx5, bx10, bx15, bx20, o80, o_l, by omega, ?_⟩ ?_
    · show l = db a b c d [a, b, c, d] (i + 1) ∧ (i + 1) ≤ 4
      refine ⟨?_, by omega⟩
      exact k9 hl (Classical.byContradiction fun hm => absurd (hfr.trans ((mK ‹_› hk2).2 hm)) ‹_›)
    · show 4 - (i + 1) < 4 - i
      omega
   refine ah rfl (congrArg Bool.not (Bool.eq_false_iff.2 p9)) (aU rfl ?_)
   clear bx92
   refine a6 rfl (mz zs11 (lx (aT (m := (i : Int)) (n := 1) rfl rfl (by omega)) (ai ((i : Int) + 1) (ab ?_))))
   have C119 := cg [6] (ch86.n.seq ((ch91.l rfl).seq (hb94.n.seq hb97.n)))
   refine back6 (l_v, l, i + 1, g88) _ _ ⟨bH.ca C119, zs4, zs5, zs6, zs7, zs9, zs10, rfl, (bx5.cn hb94).cn hb97, (bx10.cn hb94).cn hb97, bx15.cn hb97, bx20.cn hb97, o80.ca C119, o_l.ca C119, by omega, ?_⟩ ?_
   · show l = db a b c d [a, b, c, d] (i + 1) ∧ (i + 1) ≤ 4
     refine ⟨?_, by omega⟩
     exact gS hl (fun h => absurd (dt h.2) ‹_›)
   · show 4 - (i + 1) < 4 - i
     omega
  refine af (wn (congrArg Bool.not (Bool.eq_false_iff.2 q55))) (af (wn (congrArg Bool.not (Bool.eq_false_iff.2 q55))) (af (wn (congrArg Bool.not (Bool.eq_false_iff.2 q55))) (af (wn (congrArg Bool.not (Bool.eq_false_iff.2 q55))) (af (wn (congrArg Bool.not (Bool.eq_false_iff.2 q55))) (lw (Value.bool true) (aw rfl (congrArg Bool.not (Bool.eq_false_iff.2 q55)) rfl) (ab (ah rfl rfl (aU rfl ?_))))))))
  clear bx92
  refine a6 rfl (mz zs11 (lx (aT (m := (i : Int)) (n := 1) rfl rfl (by omega)) (ai ((i : Int) + 1) (ab ?_))))
  have C120 := cg [6] (ch86.n.seq ((ch91.l rfl).seq hb94.n))
  refine back6 (l_v, l, i + 1, g88) _ _ ⟨bH.ca C120, zs4, zs5, zs6, zs7, zs9, zs10, rfl, bx5.cn hb94, bx10.cn hb94, bx15.ca C120, bx20.ca C120, o80.ca C120, o_l.ca C120, by omega, ?_⟩ ?_
  · show l = db a b c d [a, b, c, d] (i + 1) ∧ (i + 1) ≤ 4
    refine ⟨?_, by omega⟩
    exact gS hl (fun h => absurd (dt h.1) ‹_›)
  · show 4 - (i + 1) < 4 - i
    omega
 refine aj rfl (df p6) (aU rfl (a7 (a7 ?_)))
 clear bx5 bx10 bx15 bx20 o80
 have hE : l = db a b c d [a, b, c, d] 4 := by rw [hl, show i = 4 by omega]
 have hnc : ¬ dT a b c d := by rintro ⟨h1, h2⟩; (exact absurd h1 ‹_›)
 obtain ⟨hr1, hr2, hr3⟩ := lS hE hnc
 refine a6 rfl (mz zs9 ?_)
 have len121 := (o_l.flat).small
 refine lx (bk Try.underlying25 rfl o_l.flat) (ab (av (a7 ?_)))
 clear o_l
 refine a6 rfl (lx (bx (m := (l.length : Int)) (n := 0) rfl rfl) (ma (Value.bool (decide ((l.length : Int) = 0))) (ab ?_)))
 by_cases p18 : (l.length : Int) = 0
 ·
  refine ah rfl (dt p18) (a7 (a6 rfl (ai 0 (ab (ar (vs := [vi 0]) Try.func21 (.tmp rfl .nil) ?_)))))
  have e0 : (0 : Int) = (cJ a b c d) := by
    exact hr1 (by omega)
  exact ⟨(congrArg (a₁ := 0) (fun (z0 : Int) => Ending.returned (vi z0)) e0), bH.below⟩
 refine aj rfl (df p18) (a7 (a6 rfl (lx (bx (m := (l.length : Int)) (n := 1) rfl rfl) (ma (Value.bool (decide ((l.length : Int) = 1))) (ab ?_)))))
 by_cases p20 : (l.length : Int) = 1
 ·
  refine ah rfl (dt p20) (a7 (a6 rfl (ai 2 (ab (ar (vs := [vi 2]) Try.func21 (.tmp rfl .nil) ?_)))))
  have e0 : (2 : Int) = (cJ a b c d) := by
    exact hr2 (by omega)
  exact ⟨(congrArg (a₁ := 2) (fun (z0 : Int) => Ending.returned (vi z0)) e0), bH.below⟩
 refine aj rfl (df p20) (ao (aq (a7 (a6 rfl (ai 3 (ab (ar (vs := [vi 3]) Try.func21 (.tmp rfl .nil) ?_)))))))
 have e0 : (3 : Int) = (cJ a b c d) := by
   exact hr3 (by omega) (by omega)
 exact ⟨(congrArg (a₁ := 3) (fun (z0 : Int) => Ending.returned (vi z0)) e0), bH.below⟩
end TL
