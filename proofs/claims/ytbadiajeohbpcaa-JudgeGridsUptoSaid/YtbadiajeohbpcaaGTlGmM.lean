import Derived.Test.YtbadiajeohbpcaaGTlP2
import Derived.Test.YtbadiajeohbpcaaGTlGmA
import Derived.Test.YtbadiajeohbpcaaGTlGmL
import Derived.Test.YtbadiajeohbpcaaProg
set_option linter.all false
set_option maxRecDepth 20000
namespace TL
open Go Go.Proofs
theorem jN : Try.prog.follows .mixedOrders = true := by kernel_rfl
theorem e9 : Try.f54.body.isNone = false := rfl
theorem eh : (Try.f54.name == "runtime.NumGoroutine") = false := by decide +kernel
theorem lh : Try.f78.body.isNone = false := rfl
theorem lV : (Try.f78.name == "runtime.NumGoroutine") = false := by decide +kernel
theorem pi : Try.f94.body.isNone = false := rfl
theorem qh : (Try.f94.name == "runtime.NumGoroutine") = false := by decide +kernel
theorem bG : Try.f95.body.isNone = false := rfl
theorem bI : (Try.f95.name == "runtime.NumGoroutine") = false := by decide +kernel
set_option maxHeartbeats 2000000 in
theorem ld (w0 : World) (a : (Int) × (Int)) (b : (Int) × (Int)) (c : (Int) × (Int)) (d : (Int) × (Int)) (ha : jJ a) (hb : jJ b) (hc : jJ c) (hd : jJ d) :
    Calls Try.prog 78 #[vg [vi a.1, vi a.2], vg [vi b.1, vi b.2], vg [vi c.1, vi c.2], vg [vi d.1, vi d.2]] w0 (fun ee w => ee = .returned (vi (aR a b c d)) ∧ cQ w0.heap.size w0 w) := by
 refine aC Try.func78 rfl (Nat.le_of_ble_eq_true rfl) ?_
 have bH := bf.start w0
 have k1 := im a b c
 have k2 := im a b d
 have k3 := im c d a
 have k4 := im c d b
 have m1 := fh (x := bw a b c) (y := bw a b d) (by omega) (by omega)
 have m2 := fh (x := bw c d a) (y := bw c d b) (by omega) (by omega)
 refine a7 (a6 rfl (bY rfl (bA c0 (is 1) (1, 0) rfl rfl ?_)))
 intro g4 w1 b3 ch2 bx5
 replace bx5 : Bx g4 (is 1) w1 b3 [vi a.1, vi a.2] := bx5
 refine lo (bA g4 (is 2) (2, 0) rfl rfl ?_)
 intro g9 w6 b8 ch7 bx10
 replace bx10 : Bx g9 (is 2) w6 b8 [vi b.1, vi b.2] := bx10
 refine lo (bA g9 (is 3) (3, 0) rfl rfl ?_)
 intro g14 w11 b13 ch12 bx15
 replace bx15 : Bx g14 (is 3) w11 b13 [vi c.1, vi c.2] := bx15
 refine lo (bA g14 (is 4) (4, 0) rfl rfl ?_)
 intro g19 w16 b18 ch17 bx20
 replace bx20 : Bx g19 (is 4) w16 b18 [vi d.1, vi d.2] := bx20
 refine ai 0 (aa (a7 (cl g19 rfl jN (by kernel_rfl) ?_)))
 intro w22 ch21
 have C23 := cg [] (ch7.n.seq (ch12.n.seq (ch17.n.seq ch21.n)))
 replace bx5 := bx5.ca C23
 refine qx (fun w' hw' => ad (ds := [vi a.1, vi a.2]) ab rfl (bx5.bel hw') rfl rfl) ?_
 have C24 := cg [] (ch12.n.seq (ch17.n.seq ch21.n))
 replace bx10 := bx10.ca C24
 refine qx (fun w' hw' => ad (ds := [vi b.1, vi b.2]) ab rfl (bx10.bel hw') rfl rfl) ?_
 replace bx15 := (bx15.cn ch17).cn ch21
 refine qx (fun w' hw' => ad (ds := [vi c.1, vi c.2]) ab rfl (bx15.bel hw') rfl rfl) (dD (v := vi (bw a b c)) rfl (fun w' hw' => aw (vals := [vg [vi a.1, vi a.2], vg [vi b.1, vi b.2], vg [vi c.1, vi c.2]]) Try.func93 gT gE rfl) (fun w' hw' => (gx w' a b c ‹_› ‹_› ‹_›).mono fun e w2 h2 => ⟨h2.1, hw'.trans (h2.2.mono hw'.size)⟩) (qx (fun w' hw' => ad (ds := [vi a.1, vi a.2]) ab rfl (bx5.bel hw') rfl rfl) (qx (fun w' hw' => ad (ds := [vi b.1, vi b.2]) ab rfl (bx10.bel hw') rfl rfl) ?_)))
 replace bx20 := bx20.cn ch21
 refine qx (fun w' hw' => ad (ds := [vi d.1, vi d.2]) ab rfl (bx20.bel hw') rfl rfl) (dD (v := vi (bw a b d)) rfl (fun w' hw' => aw (vals := [vg [vi a.1, vi a.2], vg [vi b.1, vi b.2], vg [vi d.1, vi d.2]]) Try.func93 gT gE rfl) (fun w' hw' => (gx w' a b d ‹_› ‹_› ‹_›).mono fun e w2 h2 => ⟨h2.1, hw'.trans (h2.2.mono hw'.size)⟩) (qv (vi (bw a b c)) (fun w' hw' => bP rfl) (qv (vi (bw a b d)) (fun w' hw' => bP rfl) (dp ?_))))
 intro w25 hc26
 replace hc26 := ak hc26 g19
 refine a7 (cl g19 rfl jN (by kernel_rfl) ?_)
 intro w28 ch27
 replace bx15 := (bx15.cn hc26).cn ch27
 refine qx (fun w' hw' => ad (ds := [vi c.1, vi c.2]) ab rfl (bx15.bel hw') rfl rfl) ?_
 replace bx20 := (bx20.cn hc26).cn ch27
 refine qx (fun w' hw' => ad (ds := [vi d.1, vi d.2]) ab rfl (bx20.bel hw') rfl rfl) ?_
 replace bx5 := (bx5.cn hc26).cn ch27
 refine qx (fun w' hw' => ad (ds := [vi a.1, vi a.2]) ab rfl (bx5.bel hw') rfl rfl) (dD (v := vi (bw c d a)) rfl (fun w' hw' => aw (vals := [vg [vi c.1, vi c.2], vg [vi d.1, vi d.2], vg [vi a.1, vi a.2]]) Try.func93 gT gE rfl) (fun w' hw' => (gx w' c d a ‹_› ‹_› ‹_›).mono fun e w2 h2 => ⟨h2.1, hw'.trans (h2.2.mono hw'.size)⟩) (qx (fun w' hw' => ad (ds := [vi c.1, vi c.2]) ab rfl (bx15.bel hw') rfl rfl) (qx (fun w' hw' => ad (ds := [vi d.1, vi d.2]) ab rfl (bx20.bel hw') rfl rfl) ?_)))
 replace bx10 := (bx10.cn hc26).cn ch27
 refine qx (fun w' hw' => ad (ds := [vi b.1, vi b.2]) ab rfl (bx10.bel hw') rfl rfl) (dD (v := vi (bw c d b)) rfl (fun w' hw' => aw (vals := [vg [vi c.1, vi c.2], vg [vi d.1, vi d.2], vg [vi b.1, vi b.2]]) Try.func93 gT gE rfl) (fun w' hw' => (gx w' c d b ‹_› ‹_› ‹_›).mono fun e w2 h2 => ⟨h2.1, hw'.trans (h2.2.mono hw'.size)⟩) (qv (vi (bw c d a)) (fun w' hw' => bP rfl) (qv (vi (bw c d b)) (fun w' hw' => bP rfl) (dp ?_))))
 intro w29 hc30
 replace hc30 := ak hc30 g19
 refine a7 (av (a7 (a6 rfl (mi (bw a b c) (lx (bO (m := bw a b c) (n := 0) rfl rfl) (mv (Value.bool (decide ((bw a b c) = 0))) ?_))))))
 by_cases q32 : (bw a b c) = 0
 ·
  refine lv (vi (bw a b d)) (wy (dt q32)) (aI rfl) (lv (Value.bool (decide ((bw a b d) = 0))) (wy (dt q32)) (bO (m := bw a b d) (n := 0) rfl rfl) (lw (Value.bool (decide ((bw a b d) = 0))) (au rfl (dt q32) rfl) (mv (Value.bool (decide ((bw a b d) = 0))) ?_)))
  by_cases q36 : (bw a b d) = 0
  ·
   refine lv (vi (bw c d a)) (wy (dt q36)) (aI rfl) (lv (Value.bool (decide ((bw c d a) = 0))) (wy (dt q36)) (bO (m := bw c d a) (n := 0) rfl rfl) (lw (Value.bool (decide ((bw c d a) = 0))) (au rfl (dt q36) rfl) (mv (Value.bool (decide ((bw c d a) = 0))) ?_)))
   by_cases q40 : (bw c d a) = 0
   ·
    refine lv (vi (bw c d b)) (wy (dt q40)) (aI rfl) (lv (Value.bool (decide ((bw c d b) = 0))) (wy (dt q40)) (bO (m := bw c d b) (n := 0) rfl rfl) (lw (Value.bool (decide ((bw c d b) = 0))) (au rfl (dt q40) rfl) (ma (Value.bool (decide ((bw c d b) = 0))) (aa ?_))))
    by_cases p3 : (bw c d b) = 0
    ·
     refine ah rfl (dt p3) (a7 (a6 rfl ?_))
     replace bx5 := bx5.cn hc30
     refine lx (ad (ds := [vi a.1, vi a.2]) ab rfl bx5 rfl rfl) ?_
     replace bx10 := bx10.cn hc30
     refine lx (ad (ds := [vi b.1, vi b.2]) ab rfl bx10 rfl rfl) ?_
     replace bx15 := bx15.cn hc30
     refine lx (ad (ds := [vi c.1, vi c.2]) ab rfl bx15 rfl rfl) ?_
     replace bx20 := bx20.cn hc30
     refine lx (ad (ds := [vi d.1, vi d.2]) ab rfl bx20 rfl rfl) (lo (aF (v := vi (aX a b c d)) (aw (vals := [vg [vi a.1, vi a.2], vg [vi b.1, vi b.2], vg [vi c.1, vi c.2], vg [vi d.1, vi d.2]]) Try.func94 pi qh rfl) (qc w29 a b c d) ?_))
     intro w31 hb32
     replace hb32 := ak hb32 g19
     refine ai (aX a b c d) (aa (al (vs := [vi (aX a b c d)]) Try.func78 (.tmp rfl .nil) ?_))
     have e0 : (aX a b c d : Int) = (aR a b c d) := by
       with_reducible exact kM ‹_› ‹_› ‹_› ‹_›
     have C33 := cg [] (ch2.n.seq (ch7.n.seq (ch12.n.seq (ch17.n.seq (ch21.n.seq (hc26.n.seq (ch27.n.seq (hc30.n.seq hb32.n))))))))
     replace bH := bH.ca C33
     exact ⟨(congrArg (a₁ := aX a b c d) (fun (z0 : Int) => Ending.returned (vi z0)) e0), bH.below⟩
    refine aj rfl (df p3) (a7 (a6 rfl (mi (bw a b c) (mi (bw a b d) (lx (cP (m := bw a b c) (n := bw a b d) rfl rfl (by omega)) (lx (b9 (m := (bw a b c) * (bw a b d)) (n := 0) rfl rfl) (mv (Value.bool (decide (((bw a b c) * (bw a b d)) < 0))) ?_)))))))
    by_cases q54 : ((bw a b c) * (bw a b d)) < 0
    ·
     refine lv (vi (bw c d a)) (wy (dt q54)) (aI rfl) (lv (vi (bw c d b)) (wy (dt q54)) (aI rfl) (lv (vi ((bw c d a) * (bw c d b))) (wy (dt q54)) (cP (m := bw c d a) (n := bw c d b) rfl rfl (by omega)) (lv (Value.bool (decide (((bw c d a) * (bw c d b)) < 0))) (wy (dt q54)) (b9 (m := (bw c d a) * (bw c d b)) (n := 0) rfl rfl) (lw (Value.bool (decide (((bw c d a) * (bw c d b)) < 0))) (au rfl (dt q54) rfl) (ma (Value.bool (decide (((bw c d a) * (bw c d b)) < 0))) (aa ?_))))))
     by_cases p5 : ((bw c d a) * (bw c d b)) < 0
     ·
      refine ah rfl (dt p5) (a7 ?_)
      clear bx5 bx10 bx15 bx20
      refine a6 rfl (ai 1 (aa (al (vs := [vi 1]) Try.func78 (.tmp rfl .nil) ?_)))
      have e0 : (1 : Int) = (aR a b c d) := by
        with_reducible exact eH ‹_› ‹_›
      have C34 := cg [] (ch2.n.seq (ch7.n.seq (ch12.n.seq (ch17.n.seq (ch21.n.seq (hc26.n.seq (ch27.n.seq hc30.n)))))))
      replace bH := bH.ca C34
      exact ⟨(congrArg (a₁ := 1) (fun (z0 : Int) => Ending.returned (vi z0)) e0), bH.below⟩
     refine aj rfl (df p5) (a7 (a6 rfl ?_))
     replace bx5 := bx5.cn hc30
     refine lx (ad (ds := [vi a.1, vi a.2]) ab rfl bx5 rfl rfl) ?_
     replace bx10 := bx10.cn hc30
     refine lx (ad (ds := [vi b.1, vi b.2]) ab rfl bx10 rfl rfl) ?_
     replace bx15 := bx15.cn hc30
     refine lx (ad (ds := [vi c.1, vi c.2]) ab rfl bx15 rfl rfl) (lo (aF (v := Value.bool (decide (bD a b c))) (aw (vals := [vg [vi a.1, vi a.2], vg [vi b.1, vi b.2], vg [vi c.1, vi c.2]]) Try.func95 bG bI rfl) (cm w29 a b c ‹_› ‹_› ‹_›) ?_))
     intro w35 hb36
     replace hb36 := ak hb36 g19
     refine mv (Value.bool (decide (bD a b c))) ?_
     by_cases q65 : (decide (bD a b c)) = true
     ·
      refine ae (wn q65) (ae (wn q65) (ae (wn q65) (ae (wn q65) (lw (Value.bool true) (au rfl q65 rfl) (mv (Value.bool true) (ae (wn rfl) (ae (wn rfl) (ae (wn rfl) (ae (wn rfl) (lw (Value.bool true) (au rfl rfl rfl) (mv (Value.bool true) (ae (wn rfl) (ae (wn rfl) (ae (wn rfl) (ae (wn rfl) (lw (Value.bool true) (au rfl rfl rfl) (ma (Value.bool true) (aa ?_))))))))))))))))))
      refine ah rfl rfl (a7 ?_)
      clear bx5 bx10 bx15 bx20
      refine a6 rfl (ai 2 (aa (al (vs := [vi 2]) Try.func78 (.tmp rfl .nil) ?_)))
      have e0 : (2 : Int) = (aR a b c d) := by
        ((with_reducible (refine aY ?_ ?_ (by exact o1 ‹_›))) <;> first | assumption | (rintro ⟨_, _, _, _⟩; contradiction) | (rintro ⟨_, _⟩; contradiction))
      have C37 := cg [] (ch2.n.seq (ch7.n.seq (ch12.n.seq (ch17.n.seq (ch21.n.seq (hc26.n.seq (ch27.n.seq (hc30.n.seq hb36.n))))))))
      replace bH := bH.ca C37
      exact ⟨(congrArg (a₁ := 2) (fun (z0 : Int) => Ending.returned (vi z0)) e0), bH.below⟩
     replace bx5 := bx5.cn hb36
     refine lv (vg [vi a.1, vi a.2]) (wy (Bool.eq_false_iff.2 q65)) (ad (ds := [vi a.1, vi a.2]) ab rfl bx5 rfl rfl) ?_
     replace bx10 := bx10.cn hb36
     refine lv (vg [vi b.1, vi b.2]) (wy (Bool.eq_false_iff.2 q65)) (ad (ds := [vi b.1, vi b.2]) ab rfl bx10 rfl rfl) ?_
     replace bx20 := (bx20.cn hc30).cn hb36
     refine lv (vg [vi d.1, vi d.2]) (wy (Bool.eq_false_iff.2 q65)) (ad (ds := [vi d.1, vi d.2]) ab rfl bx20 rfl rfl) (bY (wy (Bool.eq_false_iff.2 q65)) (aF (v := Value.bool (decide (bD a b d))) (aw (vals := [vg [vi a.1, vi a.2], vg [vi b.1, vi b.2], vg [vi d.1, vi d.2]]) Try.func95 bG bI rfl) (cm w35 a b d ‹_› ‹_› ‹_›) ?_))
     intro w38 hb39
     replace hb39 := ak hb39 g19
     refine lw (Value.bool (decide (bD a b d))) (aD rfl (Bool.eq_false_iff.2 q65) rfl) (mv (Value.bool (decide (bD a b d))) ?_)
     by_cases q71 : (decide (bD a b d)) = true
     ·
      refine ae (wn q71) (ae (wn q71) (ae (wn q71) (ae (wn q71) (lw (Value.bool true) (au rfl q71 rfl) (mv (Value.bool true) (ae (wn rfl) (ae (wn rfl) (ae (wn rfl) (ae (wn rfl) (lw (Value.bool true) (au rfl rfl rfl) (ma (Value.bool true) (aa (ah rfl rfl (a7 ?_))))))))))))))
      clear bx5 bx10 bx15 bx20
      refine a6 rfl (ai 2 (aa (al (vs := [vi 2]) Try.func78 (.tmp rfl .nil) ?_)))
      have e0 : (2 : Int) = (aR a b c d) := by
        ((with_reducible (refine aY ?_ ?_ (by exact o2 ‹_›))) <;> first | assumption | (rintro ⟨_, _, _, _⟩; contradiction) | (rintro ⟨_, _⟩; contradiction))
      have C40 := cg [] (ch2.n.seq (ch7.n.seq (ch12.n.seq (ch17.n.seq (ch21.n.seq (hc26.n.seq (ch27.n.seq (hc30.n.seq (hb36.n.seq hb39.n)))))))))
      replace bH := bH.ca C40
      exact ⟨(congrArg (a₁ := 2) (fun (z0 : Int) => Ending.returned (vi z0)) e0), bH.below⟩
     replace bx15 := (bx15.cn hb36).cn hb39
     refine lv (vg [vi c.1, vi c.2]) (wy (Bool.eq_false_iff.2 q71)) (ad (ds := [vi c.1, vi c.2]) ab rfl bx15 rfl rfl) ?_
     replace bx20 := bx20.cn hb39
     refine lv (vg [vi d.1, vi d.2]) (wy (Bool.eq_false_iff.2 q71)) (ad (ds := [vi d.1, vi d.2]) ab rfl bx20 rfl rfl) ?_
     replace bx5 := bx5.cn hb39
     refine lv (vg [vi a.1, vi a.2]) (wy (Bool.eq_false_iff.2 q71)) (ad (ds := [vi a.1, vi a.2]) ab rfl bx5 rfl rfl) (bY (wy (Bool.eq_false_iff.2 q71)) (aF (v := Value.bool (decide (bD c d a))) (aw (vals := [vg [vi c.1, vi c.2], vg [vi d.1, vi d.2], vg [vi a.1, vi a.2]]) Try.func95 bG bI rfl) (cm w38 c d a ‹_› ‹_› ‹_›) ?_))
     intro w41 hb42
     replace hb42 := ak hb42 g19
     refine lw (Value.bool (decide (bD c d a))) (aD rfl (Bool.eq_false_iff.2 q71) rfl) (mv (Value.bool (decide (bD c d a))) ?_)
     by_cases q77 : (decide (bD c d a)) = true
     ·
      refine ae (wn q77) (ae (wn q77) (ae (wn q77) (ae (wn q77) (lw (Value.bool true) (au rfl q77 rfl) (ma (Value.bool true) (aa (ah rfl rfl (a7 ?_))))))))
      clear bx5 bx10 bx15 bx20
      refine a6 rfl (ai 2 (aa (al (vs := [vi 2]) Try.func78 (.tmp rfl .nil) ?_)))
      have e0 : (2 : Int) = (aR a b c d) := by
        ((with_reducible (refine aY ?_ ?_ (by exact o3 ‹_›))) <;> first | assumption | (rintro ⟨_, _, _, _⟩; contradiction) | (rintro ⟨_, _⟩; contradiction))
      have C43 := cg [] (ch2.n.seq (ch7.n.seq (ch12.n.seq (ch17.n.seq (ch21.n.seq (hc26.n.seq (ch27.n.seq (hc30.n.seq (hb36.n.seq (hb39.n.seq hb42.n))))))))))
      replace bH := bH.ca C43
      exact ⟨(congrArg (a₁ := 2) (fun (z0 : Int) => Ending.returned (vi z0)) e0), bH.below⟩
     replace bx15 := bx15.cn hb42
     refine lv (vg [vi c.1, vi c.2]) (wy (Bool.eq_false_iff.2 q77)) (ad (ds := [vi c.1, vi c.2]) ab rfl bx15 rfl rfl) ?_
     replace bx20 := bx20.cn hb42
     refine lv (vg [vi d.1, vi d.2]) (wy (Bool.eq_false_iff.2 q77)) (ad (ds := [vi d.1, vi d.2]) ab rfl bx20 rfl rfl) ?_
     replace bx10 := (bx10.cn hb39).cn hb42
     refine lv (vg [vi b.1, vi b.2]) (wy (Bool.eq_false_iff.2 q77)) (ad (ds := [vi b.1, vi b.2]) ab rfl bx10 rfl rfl) (bY (wy (Bool.eq_false_iff.2 q77)) (aF (v := Value.bool (decide (bD c d b))) (aw (vals := [vg [vi c.1, vi c.2], vg [vi d.1, vi d.2], vg [vi b.1, vi b.2]]) Try.func95 bG bI rfl) (cm w41 c d b ‹_› ‹_› ‹_›) ?_))
     intro w44 hb45
     replace hb45 := ak hb45 g19
     refine lw (Value.bool (decide (bD c d b))) (aD rfl (Bool.eq_false_iff.2 q77) rfl) (ma (Value.bool (decide (bD c d b))) (aa ?_))
     by_cases p7 : (decide (bD c d b)) = true
     ·
      refine ah rfl p7 (a7 ?_)
      clear bx5 bx10 bx15 bx20
      refine a6 rfl (ai 2 (aa (al (vs := [vi 2]) Try.func78 (.tmp rfl .nil) ?_)))
      have e0 : (2 : Int) = (aR a b c d) := by
        ((with_reducible (refine aY ?_ ?_ (by exact o4 ‹_›))) <;> first | assumption | (rintro ⟨_, _, _, _⟩; contradiction) | (rintro ⟨_, _⟩; contradiction))
      have C46 := cg [] (ch2.n.seq (ch7.n.seq (ch12.n.seq (ch17.n.seq (ch21.n.seq (hc26.n.seq (ch27.n.seq (hc30.n.seq (hb36.n.seq (hb39.n.seq (hb42.n.seq hb45.n)))))))))))
      replace bH := bH.ca C46
      exact ⟨(congrArg (a₁ := 2) (fun (z0 : Int) => Ending.returned (vi z0)) e0), bH.below⟩
     refine aj rfl (Bool.eq_false_iff.2 p7) (am (ao (a7 ?_)))
     clear bx5 bx10 bx15 bx20
     refine a6 rfl (ai 0 (aa (al (vs := [vi 0]) Try.func78 (.tmp rfl .nil) ?_)))
     have e0 : (0 : Int) = (aR a b c d) := by
       ((with_reducible (refine cS ?_ ?_ (o5 ‹_› ‹_› ‹_› ‹_›))) <;> first | assumption | (rintro ⟨_, _, _, _⟩; contradiction) | (rintro ⟨_, _⟩; contradiction))
     have C47 := cg [] (ch2.n.seq (ch7.n.seq (ch12.n.seq (ch17.n.seq (ch21.n.seq (hc26.n.seq (ch27.n.seq (hc30.n.seq (hb36.n.seq (hb39.n.seq (hb42.n.seq hb45.n)))))))))))
     replace bH := bH.ca C47
     exact ⟨(congrArg (a₁ := 0) (fun (z0 : Int) => Ending.returned (vi z0)) e0), bH.below⟩
    refine ae (wn (df q54)) (ae (wn (df q54)) (ae (wn (df q54)) (ae (wn (df q54)) (lw (Value.bool false) (aD rfl (df q54) rfl) (ma (Value.bool false) (aa (aj rfl rfl (a7 (a6 rfl ?_)))))))))
    replace bx5 := bx5.cn hc30
    refine lx (ad (ds := [vi a.1, vi a.2]) ab rfl bx5 rfl rfl) ?_
    replace bx10 := bx10.cn hc30
    refine lx (ad (ds := [vi b.1, vi b.2]) ab rfl bx10 rfl rfl) ?_
    replace bx15 := bx15.cn hc30
    refine lx (ad (ds := [vi c.1, vi c.2]) ab rfl bx15 rfl rfl) (lo (aF (v := Value.bool (decide (bD a b c))) (aw (vals := [vg [vi a.1, vi a.2], vg [vi b.1, vi b.2], vg [vi c.1, vi c.2]]) Try.func95 bG bI rfl) (cm w29 a b c ‹_› ‹_› ‹_›) ?_))
    intro w48 hb49
    replace hb49 := ak hb49 g19
    refine mv (Value.bool (decide (bD a b c))) ?_
    by_cases q65 : (decide (bD a b c)) = true
    ·
     refine ae (wn q65) (ae (wn q65) (ae (wn q65) (ae (wn q65) (lw (Value.bool true) (au rfl q65 rfl) (mv (Value.bool true) (ae (wn rfl) (ae (wn rfl) (ae (wn rfl) (ae (wn rfl) (lw (Value.bool true) (au rfl rfl rfl) (mv (Value.bool true) (ae (wn rfl) (ae (wn rfl) (ae (wn rfl) (ae (wn rfl) (lw (Value.bool true) (au rfl rfl rfl) (ma (Value.bool true) (aa ?_))))))))))))))))))
     refine ah rfl rfl (a7 ?_)
     clear bx5 bx10 bx15 bx20
     refine a6 rfl (ai 2 (aa (al (vs := [vi 2]) Try.func78 (.tmp rfl .nil) ?_)))
     have e0 : (2 : Int) = (aR a b c d) := by
       ((with_reducible (refine aY ?_ ?_ (by exact o1 ‹_›))) <;> first | assumption | (rintro ⟨_, _, _, _⟩; contradiction) | (rintro ⟨_, _⟩; contradiction))
     have C50 := cg [] (ch2.n.seq (ch7.n.seq (ch12.n.seq (ch17.n.seq (ch21.n.seq (hc26.n.seq (ch27.n.seq (hc30.n.seq hb49.n))))))))
     replace bH := bH.ca C50
     exact ⟨(congrArg (a₁ := 2) (fun (z0 : Int) => Ending.returned (vi z0)) e0), bH.below⟩
    replace bx5 := bx5.cn hb49
    refine lv (vg [vi a.1, vi a.2]) (wy (Bool.eq_false_iff.2 q65)) (ad (ds := [vi a.1, vi a.2]) ab rfl bx5 rfl rfl) ?_
    replace bx10 := bx10.cn hb49
    refine lv (vg [vi b.1, vi b.2]) (wy (Bool.eq_false_iff.2 q65)) (ad (ds := [vi b.1, vi b.2]) ab rfl bx10 rfl rfl) ?_
    replace bx20 := (bx20.cn hc30).cn hb49
    refine lv (vg [vi d.1, vi d.2]) (wy (Bool.eq_false_iff.2 q65)) (ad (ds := [vi d.1, vi d.2]) ab rfl bx20 rfl rfl) (bY (wy (Bool.eq_false_iff.2 q65)) (aF (v := Value.bool (decide (bD a b d))) (aw (vals := [vg [vi a.1, vi a.2], vg [vi b.1, vi b.2], vg [vi d.1, vi d.2]]) Try.func95 bG bI rfl) (cm w48 a b d ‹_› ‹_› ‹_›) ?_))
    intro w51 hb52
    replace hb52 := ak hb52 g19
    refine lw (Value.bool (decide (bD a b d))) (aD rfl (Bool.eq_false_iff.2 q65) rfl) (mv (Value.bool (decide (bD a b d))) ?_)
    by_cases q71 : (decide (bD a b d)) = true
    ·
     refine ae (wn q71) (ae (wn q71) (ae (wn q71) (ae (wn q71) (lw (Value.bool true) (au rfl q71 rfl) (mv (Value.bool true) (ae (wn rfl) (ae (wn rfl) (ae (wn rfl) (ae (wn rfl) (lw (Value.bool true) (au rfl rfl rfl) (ma (Value.bool true) (aa (ah rfl rfl (a7 ?_))))))))))))))
     clear bx5 bx10 bx15 bx20
     refine a6 rfl (ai 2 (aa (al (vs := [vi 2]) Try.func78 (.tmp rfl .nil) ?_)))
     have e0 : (2 : Int) = (aR a b c d) := by
       ((with_reducible (refine aY ?_ ?_ (by exact o2 ‹_›))) <;> first | assumption | (rintro ⟨_, _, _, _⟩; contradiction) | (rintro ⟨_, _⟩; contradiction))
     have C53 := cg [] (ch2.n.seq (ch7.n.seq (ch12.n.seq (ch17.n.seq (ch21.n.seq (hc26.n.seq (ch27.n.seq (hc30.n.seq (hb49.n.seq hb52.n)))))))))
     replace bH := bH.ca C53
     exact ⟨(congrArg (a₁ := 2) (fun (z0 : Int) => Ending.returned (vi z0)) e0), bH.below⟩
    replace bx15 := (bx15.cn hb49).cn hb52
    refine lv (vg [vi c.1, vi c.2]) (wy (Bool.eq_false_iff.2 q71)) (ad (ds := [vi c.1, vi c.2]) ab rfl bx15 rfl rfl) ?_
    replace bx20 := bx20.cn hb52
    refine lv (vg [vi d.1, vi d.2]) (wy (Bool.eq_false_iff.2 q71)) (ad (ds := [vi d.1, vi d.2]) ab rfl bx20 rfl rfl) ?_
    replace bx5 := bx5.cn hb52
    refine lv (vg [vi a.1, vi a.2]) (wy (Bool.eq_false_iff.2 q71)) (ad (ds := [vi a.1, vi a.2]) ab rfl bx5 rfl rfl) (bY (wy (Bool.eq_false_iff.2 q71)) (aF (v := Value.bool (decide (bD c d a))) (aw (vals := [vg [vi c.1, vi c.2], vg [vi d.1, vi d.2], vg [vi a.1, vi a.2]]) Try.func95 bG bI rfl) (cm w51 c d a ‹_› ‹_› ‹_›) ?_))
    intro w54 hb55
    replace hb55 := ak hb55 g19
    refine lw (Value.bool (decide (bD c d a))) (aD rfl (Bool.eq_false_iff.2 q71) rfl) (mv (Value.bool (decide (bD c d a))) ?_)
    by_cases q77 : (decide (bD c d a)) = true
    ·
     refine ae (wn q77) (ae (wn q77) (ae (wn q77) (ae (wn q77) (lw (Value.bool true) (au rfl q77 rfl) (ma (Value.bool true) (aa (ah rfl rfl (a7 ?_))))))))
     clear bx5 bx10 bx15 bx20
     refine a6 rfl (ai 2 (aa (al (vs := [vi 2]) Try.func78 (.tmp rfl .nil) ?_)))
     have e0 : (2 : Int) = (aR a b c d) := by
       ((with_reducible (refine aY ?_ ?_ (by exact o3 ‹_›))) <;> first | assumption | (rintro ⟨_, _, _, _⟩; contradiction) | (rintro ⟨_, _⟩; contradiction))
     have C56 := cg [] (ch2.n.seq (ch7.n.seq (ch12.n.seq (ch17.n.seq (ch21.n.seq (hc26.n.seq (ch27.n.seq (hc30.n.seq (hb49.n.seq (hb52.n.seq hb55.n))))))))))
     replace bH := bH.ca C56
     exact ⟨(congrArg (a₁ := 2) (fun (z0 : Int) => Ending.returned (vi z0)) e0), bH.below⟩
    replace bx15 := bx15.cn hb55
    refine lv (vg [vi c.1, vi c.2]) (wy (Bool.eq_false_iff.2 q77)) (ad (ds := [vi c.1, vi c.2]) ab rfl bx15 rfl rfl) ?_
    replace bx20 := bx20.cn hb55
    refine lv (vg [vi d.1, vi d.2]) (wy (Bool.eq_false_iff.2 q77)) (ad (ds := [vi d.1, vi d.2]) ab rfl bx20 rfl rfl) ?_
    replace bx10 := (bx10.cn hb52).cn hb55
    refine lv (vg [vi b.1, vi b.2]) (wy (Bool.eq_false_iff.2 q77)) (ad (ds := [vi b.1, vi b.2]) ab rfl bx10 rfl rfl) (bY (wy (Bool.eq_false_iff.2 q77)) (aF (v := Value.bool (decide (bD c d b))) (aw (vals := [vg [vi c.1, vi c.2], vg [vi d.1, vi d.2], vg [vi b.1, vi b.2]]) Try.func95 bG bI rfl) (cm w54 c d b ‹_› ‹_› ‹_›) ?_))
    intro w57 hb58
    replace hb58 := ak hb58 g19
    refine lw (Value.bool (decide (bD c d b))) (aD rfl (Bool.eq_false_iff.2 q77) rfl) (ma (Value.bool (decide (bD c d b))) (aa ?_))
    by_cases p7 : (decide (bD c d b)) = true
    ·
     refine ah rfl p7 (a7 ?_)
     clear bx5 bx10 bx15 bx20
     refine a6 rfl (ai 2 (aa (al (vs := [vi 2]) Try.func78 (.tmp rfl .nil) ?_)))
     have e0 : (2 : Int) = (aR a b c d) := by
       ((with_reducible (refine aY ?_ ?_ (by exact o4 ‹_›))) <;> first | assumption | (rintro ⟨_, _, _, _⟩; contradiction) | (rintro ⟨_, _⟩; contradiction))
     have C59 := cg [] (ch2.n.seq (ch7.n.seq (ch12.n.seq (ch17.n.seq (ch21.n.seq (hc26.n.seq (ch27.n.seq (hc30.n.seq (hb49.n.seq (hb52.n.seq (hb55.n.seq hb58.n)))))))))))
     replace bH := bH.ca C59
     exact ⟨(congrArg (a₁ := 2) (fun (z0 : Int) => Ending.returned (vi z0)) e0), bH.below⟩
    refine aj rfl (Bool.eq_false_iff.2 p7) (am (ao (a7 ?_)))
    clear bx5 bx10 bx15 bx20
    refine a6 rfl (ai 0 (aa (al (vs := [vi 0]) Try.func78 (.tmp rfl .nil) ?_)))
    have e0 : (0 : Int) = (aR a b c d) := by
      ((with_reducible (refine cS ?_ ?_ (o5 ‹_› ‹_› ‹_› ‹_›))) <;> first | assumption | (rintro ⟨_, _, _, _⟩; contradiction) | (rintro ⟨_, _⟩; contradiction))
    have C60 := cg [] (ch2.n.seq (ch7.n.seq (ch12.n.seq (ch17.n.seq (ch21.n.seq (hc26.n.seq (ch27.n.seq (hc30.n.seq (hb49.n.seq (hb52.n.seq (hb55.n.seq hb58.n)))))))))))
    replace bH := bH.ca C60
    exact ⟨(congrArg (a₁ := 0) (fun (z0 : Int) => Ending.returned (vi z0)) e0), bH.below⟩
   refine ae (wn (df q40)) (ae (wn (df q40)) (lw (Value.bool false) (aD rfl (df q40) rfl) (ma (Value.bool false) (aa (aj rfl rfl (a7 (a6 rfl (mi (bw a b c) (mi (bw a b d) (lx (cP (m := bw a b c) (n := bw a b d) rfl rfl (by omega)) ?_))))))))))
   refine lx (b9 (m := (bw a b c) * (bw a b d)) (n := 0) rfl rfl) (mv (Value.bool (decide (((bw a b c) * (bw a b d)) < 0))) ?_)
   by_cases q54 : ((bw a b c) * (bw a b d)) < 0
   ·
    refine lv (vi (bw c d a)) (wy (dt q54)) (aI rfl) (lv (vi (bw c d b)) (wy (dt q54)) (aI rfl) (lv (vi ((bw c d a) * (bw c d b))) (wy (dt q54)) (cP (m := bw c d a) (n := bw c d b) rfl rfl (by omega)) (lv (Value.bool (decide (((bw c d a) * (bw c d b)) < 0))) (wy (dt q54)) (b9 (m := (bw c d a) * (bw c d b)) (n := 0) rfl rfl) (lw (Value.bool (decide (((bw c d a) * (bw c d b)) < 0))) (au rfl (dt q54) rfl) (ma (Value.bool (decide (((bw c d a) * (bw c d b)) < 0))) (aa ?_))))))
    by_cases p5 : ((bw c d a) * (bw c d b)) < 0
    ·
     refine ah rfl (dt p5) (a7 ?_)
     clear bx5 bx10 bx15 bx20
     refine a6 rfl (ai 1 (aa (al (vs := [vi 1]) Try.func78 (.tmp rfl .nil) ?_)))
     have e0 : (1 : Int) = (aR a b c d) := by
       with_reducible exact eH ‹_› ‹_›
     have C61 := cg [] (ch2.n.seq (ch7.n.seq (ch12.n.seq (ch17.n.seq (ch21.n.seq (hc26.n.seq (ch27.n.seq hc30.n)))))))
     replace bH := bH.ca C61
     exact ⟨(congrArg (a₁ := 1) (fun (z0 : Int) => Ending.returned (vi z0)) e0), bH.below⟩
    refine aj rfl (df p5) (a7 (a6 rfl ?_))
    replace bx5 := bx5.cn hc30
    refine lx (ad (ds := [vi a.1, vi a.2]) ab rfl bx5 rfl rfl) ?_
    replace bx10 := bx10.cn hc30
    refine lx (ad (ds := [vi b.1, vi b.2]) ab rfl bx10 rfl rfl) ?_
    replace bx15 := bx15.cn hc30
    refine lx (ad (ds := [vi c.1, vi c.2]) ab rfl bx15 rfl rfl) (lo (aF (v := Value.bool (decide (bD a b c))) (aw (vals := [vg [vi a.1, vi a.2], vg [vi b.1, vi b.2], vg [vi c.1, vi c.2]]) Try.func95 bG bI rfl) (cm w29 a b c ‹_› ‹_› ‹_›) ?_))
    intro w62 hb63
    replace hb63 := ak hb63 g19
    refine mv (Value.bool (decide (bD a b c))) ?_
    by_cases q65 : (decide (bD a b c)) = true
    ·
     refine ae (wn q65) (ae (wn q65) (ae (wn q65) (ae (wn q65) (lw (Value.bool true) (au rfl q65 rfl) (mv (Value.bool true) (ae (wn rfl) (ae (wn rfl) (ae (wn rfl) (ae (wn rfl) (lw (Value.bool true) (au rfl rfl rfl) (mv (Value.bool true) (ae (wn rfl) (ae (wn rfl) (ae (wn rfl) (ae (wn rfl) (lw (Value.bool true) (au rfl rfl rfl) (ma (Value.bool true) (aa ?_))))))))))))))))))
     refine ah rfl rfl (a7 ?_)
     clear bx5 bx10 bx15 bx20
     refine a6 rfl (ai 2 (aa (al (vs := [vi 2]) Try.func78 (.tmp rfl .nil) ?_)))
     have e0 : (2 : Int) = (aR a b c d) := by
       ((with_reducible (refine aY ?_ ?_ (by exact o1 ‹_›))) <;> first | assumption | (rintro ⟨_, _, _, _⟩; contradiction) | (rintro ⟨_, _⟩; contradiction))
     have C64 := cg [] (ch2.n.seq (ch7.n.seq (ch12.n.seq (ch17.n.seq (ch21.n.seq (hc26.n.seq (ch27.n.seq (hc30.n.seq hb63.n))))))))
     replace bH := bH.ca C64
     exact ⟨(congrArg (a₁ := 2) (fun (z0 : Int) => Ending.returned (vi z0)) e0), bH.below⟩
    replace bx5 := bx5.cn hb63
    refine lv (vg [vi a.1, vi a.2]) (wy (Bool.eq_false_iff.2 q65)) (ad (ds := [vi a.1, vi a.2]) ab rfl bx5 rfl rfl) ?_
    replace bx10 := bx10.cn hb63
    refine lv (vg [vi b.1, vi b.2]) (wy (Bool.eq_false_iff.2 q65)) (ad (ds := [vi b.1, vi b.2]) ab rfl bx10 rfl rfl) ?_
    replace bx20 := (bx20.cn hc30).cn hb63
    refine lv (vg [vi d.1, vi d.2]) (wy (Bool.eq_false_iff.2 q65)) (ad (ds := [vi d.1, vi d.2]) ab rfl bx20 rfl rfl) (bY (wy (Bool.eq_false_iff.2 q65)) (aF (v := Value.bool (decide (bD a b d))) (aw (vals := [vg [vi a.1, vi a.2], vg [vi b.1, vi b.2], vg [vi d.1, vi d.2]]) Try.func95 bG bI rfl) (cm w62 a b d ‹_› ‹_› ‹_›) ?_))
    intro w65 hb66
    replace hb66 := ak hb66 g19
    refine lw (Value.bool (decide (bD a b d))) (aD rfl (Bool.eq_false_iff.2 q65) rfl) (mv (Value.bool (decide (bD a b d))) ?_)
    by_cases q71 : (decide (bD a b d)) = true
    ·
     refine ae (wn q71) (ae (wn q71) (ae (wn q71) (ae (wn q71) (lw (Value.bool true) (au rfl q71 rfl) (mv (Value.bool true) (ae (wn rfl) (ae (wn rfl) (ae (wn rfl) (ae (wn rfl) (lw (Value.bool true) (au rfl rfl rfl) (ma (Value.bool true) (aa (ah rfl rfl (a7 ?_))))))))))))))
     clear bx5 bx10 bx15 bx20
     refine a6 rfl (ai 2 (aa (al (vs := [vi 2]) Try.func78 (.tmp rfl .nil) ?_)))
     have e0 : (2 : Int) = (aR a b c d) := by
       ((with_reducible (refine aY ?_ ?_ (by exact o2 ‹_›))) <;> first | assumption | (rintro ⟨_, _, _, _⟩; contradiction) | (rintro ⟨_, _⟩; contradiction))
     have C67 := cg [] (ch2.n.seq (ch7.n.seq (ch12.n.seq (ch17.n.seq (ch21.n.seq (hc26.n.seq (ch27.n.seq (hc30.n.seq (hb63.n.seq hb66.n)))))))))
     replace bH := bH.ca C67
     exact ⟨(congrArg (a₁ := 2) (fun (z0 : Int) => Ending.returned (vi z0)) e0), bH.below⟩
    replace bx15 := (bx15.cn hb63).cn hb66
    refine lv (vg [vi c.1, vi c.2]) (wy (Bool.eq_false_iff.2 q71)) (ad (ds := [vi c.1, vi c.2]) ab rfl bx15 rfl rfl) ?_
    replace bx20 := bx20.cn hb66
    refine lv (vg [vi d.1, vi d.2]) (wy (Bool.eq_false_iff.2 q71)) (ad (ds := [vi d.1, vi d.2]) ab rfl bx20 rfl rfl) ?_
    replace bx5 := bx5.cn hb66
    refine lv (vg [vi a.1, vi a.2]) (wy (Bool.eq_false_iff.2 q71)) (ad (ds := [vi a.1, vi a.2]) ab rfl bx5 rfl rfl) (bY (wy (Bool.eq_false_iff.2 q71)) (aF (v := Value.bool (decide (bD c d a))) (aw (vals := [vg [vi c.1, vi c.2], vg [vi d.1, vi d.2], vg [vi a.1, vi a.2]]) Try.func95 bG bI rfl) (cm w65 c d a ‹_› ‹_› ‹_›) ?_))
    intro w68 hb69
    replace hb69 := ak hb69 g19
    refine lw (Value.bool (decide (bD c d a))) (aD rfl (Bool.eq_false_iff.2 q71) rfl) (mv (Value.bool (decide (bD c d a))) ?_)
    by_cases q77 : (decide (bD c d a)) = true
    ·
     refine ae (wn q77) (ae (wn q77) (ae (wn q77) (ae (wn q77) (lw (Value.bool true) (au rfl q77 rfl) (ma (Value.bool true) (aa (ah rfl rfl (a7 ?_))))))))
     clear bx5 bx10 bx15 bx20
     refine a6 rfl (ai 2 (aa (al (vs := [vi 2]) Try.func78 (.tmp rfl .nil) ?_)))
     have e0 : (2 : Int) = (aR a b c d) := by
       ((with_reducible (refine aY ?_ ?_ (by exact o3 ‹_›))) <;> first | assumption | (rintro ⟨_, _, _, _⟩; contradiction) | (rintro ⟨_, _⟩; contradiction))
     have C70 := cg [] (ch2.n.seq (ch7.n.seq (ch12.n.seq (ch17.n.seq (ch21.n.seq (hc26.n.seq (ch27.n.seq (hc30.n.seq (hb63.n.seq (hb66.n.seq hb69.n))))))))))
     replace bH := bH.ca C70
     exact ⟨(congrArg (a₁ := 2) (fun (z0 : Int) => Ending.returned (vi z0)) e0), bH.below⟩
    replace bx15 := bx15.cn hb69
    refine lv (vg [vi c.1, vi c.2]) (wy (Bool.eq_false_iff.2 q77)) (ad (ds := [vi c.1, vi c.2]) ab rfl bx15 rfl rfl) ?_
    replace bx20 := bx20.cn hb69
    refine lv (vg [vi d.1, vi d.2]) (wy (Bool.eq_false_iff.2 q77)) (ad (ds := [vi d.1, vi d.2]) ab rfl bx20 rfl rfl) ?_
    replace bx10 := (bx10.cn hb66).cn hb69
    refine lv (vg [vi b.1, vi b.2]) (wy (Bool.eq_false_iff.2 q77)) (ad (ds := [vi b.1, vi b.2]) ab rfl bx10 rfl rfl) (bY (wy (Bool.eq_false_iff.2 q77)) (aF (v := Value.bool (decide (bD c d b))) (aw (vals := [vg [vi c.1, vi c.2], vg [vi d.1, vi d.2], vg [vi b.1, vi b.2]]) Try.func95 bG bI rfl) (cm w68 c d b ‹_› ‹_› ‹_›) ?_))
    intro w71 hb72
    replace hb72 := ak hb72 g19
    refine lw (Value.bool (decide (bD c d b))) (aD rfl (Bool.eq_false_iff.2 q77) rfl) (ma (Value.bool (decide (bD c d b))) (aa ?_))
    by_cases p7 : (decide (bD c d b)) = true
    ·
     refine ah rfl p7 (a7 ?_)
     clear bx5 bx10 bx15 bx20
     refine a6 rfl (ai 2 (aa (al (vs := [vi 2]) Try.func78 (.tmp rfl .nil) ?_)))
     have e0 : (2 : Int) = (aR a b c d) := by
       ((with_reducible (refine aY ?_ ?_ (by exact o4 ‹_›))) <;> first | assumption | (rintro ⟨_, _, _, _⟩; contradiction) | (rintro ⟨_, _⟩; contradiction))
     have C73 := cg [] (ch2.n.seq (ch7.n.seq (ch12.n.seq (ch17.n.seq (ch21.n.seq (hc26.n.seq (ch27.n.seq (hc30.n.seq (hb63.n.seq (hb66.n.seq (hb69.n.seq hb72.n)))))))))))
     replace bH := bH.ca C73
     exact ⟨(congrArg (a₁ := 2) (fun (z0 : Int) => Ending.returned (vi z0)) e0), bH.below⟩
    refine aj rfl (Bool.eq_false_iff.2 p7) (am (ao (a7 ?_)))
    clear bx5 bx10 bx15 bx20
    refine a6 rfl (ai 0 (aa (al (vs := [vi 0]) Try.func78 (.tmp rfl .nil) ?_)))
    have e0 : (0 : Int) = (aR a b c d) := by
      ((with_reducible (refine cS ?_ ?_ (o5 ‹_› ‹_› ‹_› ‹_›))) <;> first | assumption | (rintro ⟨_, _, _, _⟩; contradiction) | (rintro ⟨_, _⟩; contradiction))
    have C74 := cg [] (ch2.n.seq (ch7.n.seq (ch12.n.seq (ch17.n.seq (ch21.n.seq (hc26.n.seq (ch27.n.seq (hc30.n.seq (hb63.n.seq (hb66.n.seq (hb69.n.seq hb72.n)))))))))))
    replace bH := bH.ca C74
    exact ⟨(congrArg (a₁ := 0) (fun (z0 : Int) => Ending.returned (vi z0)) e0), bH.below⟩
   refine ae (wn (df q54)) (ae (wn (df q54)) (ae (wn (df q54)) (ae (wn (df q54)) (lw (Value.bool false) (aD rfl (df q54) rfl) (ma (Value.bool false) (aa (aj rfl rfl (a7 (a6 rfl ?_)))))))))
   replace bx5 := bx5.cn hc30
   refine lx (ad (ds := [vi a.1, vi a.2]) ab rfl bx5 rfl rfl) ?_
   replace bx10 := bx10.cn hc30
   refine lx (ad (ds := [vi b.1, vi b.2]) ab rfl bx10 rfl rfl) ?_
   replace bx15 := bx15.cn hc30
   refine lx (ad (ds := [vi c.1, vi c.2]) ab rfl bx15 rfl rfl) (lo (aF (v := Value.bool (decide (bD a b c))) (aw (vals := [vg [vi a.1, vi a.2], vg [vi b.1, vi b.2], vg [vi c.1, vi c.2]]) Try.func95 bG bI rfl) (cm w29 a b c ‹_› ‹_› ‹_›) ?_))
   intro w75 hb76
   replace hb76 := ak hb76 g19
   refine mv (Value.bool (decide (bD a b c))) ?_
   by_cases q65 : (decide (bD a b c)) = true
   ·
    refine ae (wn q65) (ae (wn q65) (ae (wn q65) (ae (wn q65) (lw (Value.bool true) (au rfl q65 rfl) (mv (Value.bool true) (ae (wn rfl) (ae (wn rfl) (ae (wn rfl) (ae (wn rfl) (lw (Value.bool true) (au rfl rfl rfl) (mv (Value.bool true) (ae (wn rfl) (ae (wn rfl) (ae (wn rfl) (ae (wn rfl) (lw (Value.bool true) (au rfl rfl rfl) (ma (Value.bool true) (aa ?_))))))))))))))))))
    refine ah rfl rfl (a7 ?_)
    clear bx5 bx10 bx15 bx20
    refine a6 rfl (ai 2 (aa (al (vs := [vi 2]) Try.func78 (.tmp rfl .nil) ?_)))
    have e0 : (2 : Int) = (aR a b c d) := by
      ((with_reducible (refine aY ?_ ?_ (by exact o1 ‹_›))) <;> first | assumption | (rintro ⟨_, _, _, _⟩; contradiction) | (rintro ⟨_, _⟩; contradiction))
    have C77 := cg [] (ch2.n.seq (ch7.n.seq (ch12.n.seq (ch17.n.seq (ch21.n.seq (hc26.n.seq (ch27.n.seq (hc30.n.seq hb76.n))))))))
    replace bH := bH.ca C77
    exact ⟨(congrArg (a₁ := 2) (fun (z0 : Int) => Ending.returned (vi z0)) e0), bH.below⟩
   replace bx5 := bx5.cn hb76
   refine lv (vg [vi a.1, vi a.2]) (wy (Bool.eq_false_iff.2 q65)) (ad (ds := [vi a.1, vi a.2]) ab rfl bx5 rfl rfl) ?_
   replace bx10 := bx10.cn hb76
   refine lv (vg [vi b.1, vi b.2]) (wy (Bool.eq_false_iff.2 q65)) (ad (ds := [vi b.1, vi b.2]) ab rfl bx10 rfl rfl) ?_
   replace bx20 := (bx20.cn hc30).cn hb76
   refine lv (vg [vi d.1, vi d.2]) (wy (Bool.eq_false_iff.2 q65)) (ad (ds := [vi d.1, vi d.2]) ab rfl bx20 rfl rfl) (bY (wy (Bool.eq_false_iff.2 q65)) (aF (v := Value.bool (decide (bD a b d))) (aw (vals := [vg [vi a.1, vi a.2], vg [vi b.1, vi b.2], vg [vi d.1, vi d.2]]) Try.func95 bG bI rfl) (cm w75 a b d ‹_› ‹_› ‹_›) ?_))
   intro w78 hb79
   replace hb79 := ak hb79 g19
   refine lw (Value.bool (decide (bD a b d))) (aD rfl (Bool.eq_false_iff.2 q65) rfl) (mv (Value.bool (decide (bD a b d))) ?_)
   by_cases q71 : (decide (bD a b d)) = true
   ·
    refine ae (wn q71) (ae (wn q71) (ae (wn q71) (ae (wn q71) (lw (Value.bool true) (au rfl q71 rfl) (mv (Value.bool true) (ae (wn rfl) (ae (wn rfl) (ae (wn rfl) (ae (wn rfl) (lw (Value.bool true) (au rfl rfl rfl) (ma (Value.bool true) (aa (ah rfl rfl (a7 ?_))))))))))))))
    clear bx5 bx10 bx15 bx20
    refine a6 rfl (ai 2 (aa (al (vs := [vi 2]) Try.func78 (.tmp rfl .nil) ?_)))
    have e0 : (2 : Int) = (aR a b c d) := by
      ((with_reducible (refine aY ?_ ?_ (by exact o2 ‹_›))) <;> first | assumption | (rintro ⟨_, _, _, _⟩; contradiction) | (rintro ⟨_, _⟩; contradiction))
    have C80 := cg [] (ch2.n.seq (ch7.n.seq (ch12.n.seq (ch17.n.seq (ch21.n.seq (hc26.n.seq (ch27.n.seq (hc30.n.seq (hb76.n.seq hb79.n)))))))))
    replace bH := bH.ca C80
    exact ⟨(congrArg (a₁ := 2) (fun (z0 : Int) => Ending.returned (vi z0)) e0), bH.below⟩
   replace bx15 := (bx15.cn hb76).cn hb79
   refine lv (vg [vi c.1, vi c.2]) (wy (Bool.eq_false_iff.2 q71)) (ad (ds := [vi c.1, vi c.2]) ab rfl bx15 rfl rfl) ?_
   replace bx20 := bx20.cn hb79
   refine lv (vg [vi d.1, vi d.2]) (wy (Bool.eq_false_iff.2 q71)) (ad (ds := [vi d.1, vi d.2]) ab rfl bx20 rfl rfl) ?_
   replace bx5 := bx5.cn hb79
   refine lv (vg [vi a.1, vi a.2]) (wy (Bool.eq_false_iff.2 q71)) (ad (ds := [vi a.1, vi a.2]) ab rfl bx5 rfl rfl) (bY (wy (Bool.eq_false_iff.2 q71)) (aF (v := Value.bool (decide (bD c d a))) (aw (vals := [vg [vi c.1, vi c.2], vg [vi d.1, vi d.2], vg [vi a.1, vi a.2]]) Try.func95 bG bI rfl) (cm w78 c d a ‹_› ‹_› ‹_›) ?_))
   intro w81 hb82
   replace hb82 := ak hb82 g19
   refine lw (Value.bool (decide (bD c d a))) (aD rfl (Bool.eq_false_iff.2 q71) rfl) (mv (Value.bool (decide (bD c d a))) ?_)
   by_cases q77 : (decide (bD c d a)) = true
   ·
    refine ae (wn q77) (ae (wn q77) (ae (wn q77) (ae (wn q77) (lw (Value.bool true) (au rfl q77 rfl) (ma (Value.bool true) (aa (ah rfl rfl (a7 ?_))))))))
    clear bx5 bx10 bx15 bx20
    refine a6 rfl (ai 2 (aa (al (vs := [vi 2]) Try.func78 (.tmp rfl .nil) ?_)))
    have e0 : (2 : Int) = (aR a b c d) := by
      ((with_reducible (refine aY ?_ ?_ (by exact o3 ‹_›))) <;> first | assumption | (rintro ⟨_, _, _, _⟩; contradiction) | (rintro ⟨_, _⟩; contradiction))
    have C83 := cg [] (ch2.n.seq (ch7.n.seq (ch12.n.seq (ch17.n.seq (ch21.n.seq (hc26.n.seq (ch27.n.seq (hc30.n.seq (hb76.n.seq (hb79.n.seq hb82.n))))))))))
    replace bH := bH.ca C83
    exact ⟨(congrArg (a₁ := 2) (fun (z0 : Int) => Ending.returned (vi z0)) e0), bH.below⟩
   replace bx15 := bx15.cn hb82
   refine lv (vg [vi c.1, vi c.2]) (wy (Bool.eq_false_iff.2 q77)) (ad (ds := [vi c.1, vi c.2]) ab rfl bx15 rfl rfl) ?_
   replace bx20 := bx20.cn hb82
   refine lv (vg [vi d.1, vi d.2]) (wy (Bool.eq_false_iff.2 q77)) (ad (ds := [vi d.1, vi d.2]) ab rfl bx20 rfl rfl) ?_
   replace bx10 := (bx10.cn hb79).cn hb82
   refine lv (vg [vi b.1, vi b.2]) (wy (Bool.eq_false_iff.2 q77)) (ad (ds := [vi b.1, vi b.2]) ab rfl bx10 rfl rfl) (bY (wy (Bool.eq_false_iff.2 q77)) (aF (v := Value.bool (decide (bD c d b))) (aw (vals := [vg [vi c.1, vi c.2], vg [vi d.1, vi d.2], vg [vi b.1, vi b.2]]) Try.func95 bG bI rfl) (cm w81 c d b ‹_› ‹_› ‹_›) ?_))
   intro w84 hb85
   replace hb85 := ak hb85 g19
   refine lw (Value.bool (decide (bD c d b))) (aD rfl (Bool.eq_false_iff.2 q77) rfl) (ma (Value.bool (decide (bD c d b))) (aa ?_))
   by_cases p7 : (decide (bD c d b)) = true
   ·
    refine ah rfl p7 (a7 ?_)
    clear bx5 bx10 bx15 bx20
    refine a6 rfl (ai 2 (aa (al (vs := [vi 2]) Try.func78 (.tmp rfl .nil) ?_)))
    have e0 : (2 : Int) = (aR a b c d) := by
      ((with_reducible (refine aY ?_ ?_ (by exact o4 ‹_›))) <;> first | assumption | (rintro ⟨_, _, _, _⟩; contradiction) | (rintro ⟨_, _⟩; contradiction))
    have C86 := cg [] (ch2.n.seq (ch7.n.seq (ch12.n.seq (ch17.n.seq (ch21.n.seq (hc26.n.seq (ch27.n.seq (hc30.n.seq (hb76.n.seq (hb79.n.seq (hb82.n.seq hb85.n)))))))))))
    replace bH := bH.ca C86
    exact ⟨(congrArg (a₁ := 2) (fun (z0 : Int) => Ending.returned (vi z0)) e0), bH.below⟩
   refine aj rfl (Bool.eq_false_iff.2 p7) (am (ao (a7 ?_)))
   clear bx5 bx10 bx15 bx20
   refine a6 rfl (ai 0 (aa (al (vs := [vi 0]) Try.func78 (.tmp rfl .nil) ?_)))
   have e0 : (0 : Int) = (aR a b c d) := by
     ((with_reducible (refine cS ?_ ?_ (o5 ‹_› ‹_› ‹_› ‹_›))) <;> first | assumption | (rintro ⟨_, _, _, _⟩; contradiction) | (rintro ⟨_, _⟩; contradiction))
   have C87 := cg [] (ch2.n.seq (ch7.n.seq (ch12.n.seq (ch17.n.seq (ch21.n.seq (hc26.n.seq (ch27.n.seq (hc30.n.seq (hb76.n.seq (hb79.n.seq (hb82.n.seq hb85.n)))))))))))
   replace bH := bH.ca C87
   exact ⟨(congrArg (a₁ := 0) (fun (z0 : Int) => Ending.returned (vi z0)) e0), bH.below⟩
  refine ae (wn (df q36)) (ae (wn (df q36)) (lw (Value.bool false) (aD rfl (df q36) rfl) (mv (Value.bool false) (ae (wn rfl) (ae (wn rfl) (lw (Value.bool false) (aD rfl rfl rfl) (ma (Value.bool false) (aa (aj rfl rfl (a7 (a6 rfl ?_)))))))))))
  refine mi (bw a b c) (mi (bw a b d) (lx (cP (m := bw a b c) (n := bw a b d) rfl rfl (by omega)) (lx (b9 (m := (bw a b c) * (bw a b d)) (n := 0) rfl rfl) (mv (Value.bool (decide (((bw a b c) * (bw a b d)) < 0))) ?_))))
  by_cases q54 : ((bw a b c) * (bw a b d)) < 0
  ·
   refine lv (vi (bw c d a)) (wy (dt q54)) (aI rfl) (lv (vi (bw c d b)) (wy (dt q54)) (aI rfl) (lv (vi ((bw c d a) * (bw c d b))) (wy (dt q54)) (cP (m := bw c d a) (n := bw c d b) rfl rfl (by omega)) (lv (Value.bool (decide (((bw c d a) * (bw c d b)) < 0))) (wy (dt q54)) (b9 (m := (bw c d a) * (bw c d b)) (n := 0) rfl rfl) (lw (Value.bool (decide (((bw c d a) * (bw c d b)) < 0))) (au rfl (dt q54) rfl) (ma (Value.bool (decide (((bw c d a) * (bw c d b)) < 0))) (aa ?_))))))
   by_cases p5 : ((bw c d a) * (bw c d b)) < 0
   ·
    refine ah rfl (dt p5) (a7 ?_)
    clear bx5 bx10 bx15 bx20
    refine a6 rfl (ai 1 (aa (al (vs := [vi 1]) Try.func78 (.tmp rfl .nil) ?_)))
    have e0 : (1 : Int) = (aR a b c d) := by
      with_reducible exact eH ‹_› ‹_›
    have C88 := cg [] (ch2.n.seq (ch7.n.seq (ch12.n.seq (ch17.n.seq (ch21.n.seq (hc26.n.seq (ch27.n.seq hc30.n)))))))
    replace bH := bH.ca C88
    exact ⟨(congrArg (a₁ := 1) (fun (z0 : Int) => Ending.returned (vi z0)) e0), bH.below⟩
   refine aj rfl (df p5) (a7 (a6 rfl ?_))
   replace bx5 := bx5.cn hc30
   refine lx (ad (ds := [vi a.1, vi a.2]) ab rfl bx5 rfl rfl) ?_
   replace bx10 := bx10.cn hc30
   refine lx (ad (ds := [vi b.1, vi b.2]) ab rfl bx10 rfl rfl) ?_
   replace bx15 := bx15.cn hc30
   refine lx (ad (ds := [vi c.1, vi c.2]) ab rfl bx15 rfl rfl) (lo (aF (v := Value.bool (decide (bD a b c))) (aw (vals := [vg [vi a.1, vi a.2], vg [vi b.1, vi b.2], vg [vi c.1, vi c.2]]) Try.func95 bG bI rfl) (cm w29 a b c ‹_› ‹_› ‹_›) ?_))
   intro w89 hb90
   replace hb90 := ak hb90 g19
   refine mv (Value.bool (decide (bD a b c))) ?_
   by_cases q65 : (decide (bD a b c)) = true
   ·
    refine ae (wn q65) (ae (wn q65) (ae (wn q65) (ae (wn q65) (lw (Value.bool true) (au rfl q65 rfl) (mv (Value.bool true) (ae (wn rfl) (ae (wn rfl) (ae (wn rfl) (ae (wn rfl) (lw (Value.bool true) (au rfl rfl rfl) (mv (Value.bool true) (ae (wn rfl) (ae (wn rfl) (ae (wn rfl) (ae (wn rfl) (lw (Value.bool true) (au rfl rfl rfl) (ma (Value.bool true) (aa ?_))))))))))))))))))
    refine ah rfl rfl (a7 ?_)
    clear bx5 bx10 bx15 bx20
    refine a6 rfl (ai 2 (aa (al (vs := [vi 2]) Try.func78 (.tmp rfl .nil) ?_)))
    have e0 : (2 : Int) = (aR a b c d) := by
      ((with_reducible (refine aY ?_ ?_ (by exact o1 ‹_›))) <;> first | assumption | (rintro ⟨_, _, _, _⟩; contradiction) | (rintro ⟨_, _⟩; contradiction))
    have C91 := cg [] (ch2.n.seq (ch7.n.seq (ch12.n.seq (ch17.n.seq (ch21.n.seq (hc26.n.seq (ch27.n.seq (hc30.n.seq hb90.n))))))))
    replace bH := bH.ca C91
    exact ⟨(congrArg (a₁ := 2) (fun (z0 : Int) => Ending.returned (vi z0)) e0), bH.below⟩
   replace bx5 := bx5.cn hb90
   refine lv (vg [vi a.1, vi a.2]) (wy (Bool.eq_false_iff.2 q65)) (ad (ds := [vi a.1, vi a.2]) ab rfl bx5 rfl rfl) ?_
   replace bx10 := bx10.cn hb90
   refine lv (vg [vi b.1, vi b.2]) (wy (Bool.eq_false_iff.2 q65)) (ad (ds := [vi b.1, vi b.2]) ab rfl bx10 rfl rfl) ?_
   replace bx20 := (bx20.cn hc30).cn hb90
   refine lv (vg [vi d.1, vi d.2]) (wy (Bool.eq_false_iff.2 q65)) (ad (ds := [vi d.1, vi d.2]) ab rfl bx20 rfl rfl) (bY (wy (Bool.eq_false_iff.2 q65)) (aF (v := Value.bool (decide (bD a b d))) (aw (vals := [vg [vi a.1, vi a.2], vg [vi b.1, vi b.2], vg [vi d.1, vi d.2]]) Try.func95 bG bI rfl) (cm w89 a b d ‹_› ‹_› ‹_›) ?_))
   intro w92 hb93
   replace hb93 := ak hb93 g19
   refine lw (Value.bool (decide (bD a b d))) (aD rfl (Bool.eq_false_iff.2 q65) rfl) (mv (Value.bool (decide (bD a b d))) ?_)
   by_cases q71 : (decide (bD a b d)) = true
   ·
    refine ae (wn q71) (ae (wn q71) (ae (wn q71) (ae (wn q71) (lw (Value.bool true) (au rfl q71 rfl) (mv (Value.bool true) (ae (wn rfl) (ae (wn rfl) (ae (wn rfl) (ae (wn rfl) (lw (Value.bool true) (au rfl rfl rfl) (ma (Value.bool true) (aa (ah rfl rfl (a7 ?_))))))))))))))
    clear bx5 bx10 bx15 bx20
    refine a6 rfl (ai 2 (aa (al (vs := [vi 2]) Try.func78 (.tmp rfl .nil) ?_)))
    have e0 : (2 : Int) = (aR a b c d) := by
      ((with_reducible (refine aY ?_ ?_ (by exact o2 ‹_›))) <;> first | assumption | (rintro ⟨_, _, _, _⟩; contradiction) | (rintro ⟨_, _⟩; contradiction))
    have C94 := cg [] (ch2.n.seq (ch7.n.seq (ch12.n.seq (ch17.n.seq (ch21.n.seq (hc26.n.seq (ch27.n.seq (hc30.n.seq (hb90.n.seq hb93.n)))))))))
    replace bH := bH.ca C94
    exact ⟨(congrArg (a₁ := 2) (fun (z0 : Int) => Ending.returned (vi z0)) e0), bH.below⟩
   replace bx15 := (bx15.cn hb90).cn hb93
   refine lv (vg [vi c.1, vi c.2]) (wy (Bool.eq_false_iff.2 q71)) (ad (ds := [vi c.1, vi c.2]) ab rfl bx15 rfl rfl) ?_
   replace bx20 := bx20.cn hb93
   refine lv (vg [vi d.1, vi d.2]) (wy (Bool.eq_false_iff.2 q71)) (ad (ds := [vi d.1, vi d.2]) ab rfl bx20 rfl rfl) ?_
   replace bx5 := bx5.cn hb93
   refine lv (vg [vi a.1, vi a.2]) (wy (Bool.eq_false_iff.2 q71)) (ad (ds := [vi a.1, vi a.2]) ab rfl bx5 rfl rfl) (bY (wy (Bool.eq_false_iff.2 q71)) (aF (v := Value.bool (decide (bD c d a))) (aw (vals := [vg [vi c.1, vi c.2], vg [vi d.1, vi d.2], vg [vi a.1, vi a.2]]) Try.func95 bG bI rfl) (cm w92 c d a ‹_› ‹_› ‹_›) ?_))
   intro w95 hb96
   replace hb96 := ak hb96 g19
   refine lw (Value.bool (decide (bD c d a))) (aD rfl (Bool.eq_false_iff.2 q71) rfl) (mv (Value.bool (decide (bD c d a))) ?_)
   by_cases q77 : (decide (bD c d a)) = true
   ·
    refine ae (wn q77) (ae (wn q77) (ae (wn q77) (ae (wn q77) (lw (Value.bool true) (au rfl q77 rfl) (ma (Value.bool true) (aa (ah rfl rfl (a7 ?_))))))))
    clear bx5 bx10 bx15 bx20
    refine a6 rfl (ai 2 (aa (al (vs := [vi 2]) Try.func78 (.tmp rfl .nil) ?_)))
    have e0 : (2 : Int) = (aR a b c d) := by
      ((with_reducible (refine aY ?_ ?_ (by exact o3 ‹_›))) <;> first | assumption | (rintro ⟨_, _, _, _⟩; contradiction) | (rintro ⟨_, _⟩; contradiction))
    have C97 := cg [] (ch2.n.seq (ch7.n.seq (ch12.n.seq (ch17.n.seq (ch21.n.seq (hc26.n.seq (ch27.n.seq (hc30.n.seq (hb90.n.seq (hb93.n.seq hb96.n))))))))))
    replace bH := bH.ca C97
    exact ⟨(congrArg (a₁ := 2) (fun (z0 : Int) => Ending.returned (vi z0)) e0), bH.below⟩
   replace bx15 := bx15.cn hb96
   refine lv (vg [vi c.1, vi c.2]) (wy (Bool.eq_false_iff.2 q77)) (ad (ds := [vi c.1, vi c.2]) ab rfl bx15 rfl rfl) ?_
   replace bx20 := bx20.cn hb96
   refine lv (vg [vi d.1, vi d.2]) (wy (Bool.eq_false_iff.2 q77)) (ad (ds := [vi d.1, vi d.2]) ab rfl bx20 rfl rfl) ?_
   replace bx10 := (bx10.cn hb93).cn hb96
   refine lv (vg [vi b.1, vi b.2]) (wy (Bool.eq_false_iff.2 q77)) (ad (ds := [vi b.1, vi b.2]) ab rfl bx10 rfl rfl) (bY (wy (Bool.eq_false_iff.2 q77)) (aF (v := Value.bool (decide (bD c d b))) (aw (vals := [vg [vi c.1, vi c.2], vg [vi d.1, vi d.2], vg [vi b.1, vi b.2]]) Try.func95 bG bI rfl) (cm w95 c d b ‹_› ‹_› ‹_›) ?_))
   intro w98 hb99
   replace hb99 := ak hb99 g19
   refine lw (Value.bool (decide (bD c d b))) (aD rfl (Bool.eq_false_iff.2 q77) rfl) (ma (Value.bool (decide (bD c d b))) (aa ?_))
   by_cases p7 : (decide (bD c d b)) = true
   ·
    refine ah rfl p7 (a7 ?_)
    clear bx5 bx10 bx15 bx20
    refine a6 rfl (ai 2 (aa (al (vs := [vi 2]) Try.func78 (.tmp rfl .nil) ?_)))
    have e0 : (2 : Int) = (aR a b c d) := by
      ((with_reducible (refine aY ?_ ?_ (by exact o4 ‹_›))) <;> first | assumption | (rintro ⟨_, _, _, _⟩; contradiction) | (rintro ⟨_, _⟩; contradiction))
    have C100 := cg [] (ch2.n.seq (ch7.n.seq (ch12.n.seq (ch17.n.seq (ch21.n.seq (hc26.n.seq (ch27.n.seq (hc30.n.seq (hb90.n.seq (hb93.n.seq (hb96.n.seq hb99.n)))))))))))
    replace bH := bH.ca C100
    exact ⟨(congrArg (a₁ := 2) (fun (z0 : Int) => Ending.returned (vi z0)) e0), bH.below⟩
   refine aj rfl (Bool.eq_false_iff.2 p7) (am (ao (a7 ?_)))
   clear bx5 bx10 bx15 bx20
   refine a6 rfl (ai 0 (aa (al (vs := [vi 0]) Try.func78 (.tmp rfl .nil) ?_)))
   have e0 : (0 : Int) = (aR a b c d) := by
     ((with_reducible (refine cS ?_ ?_ (o5 ‹_› ‹_› ‹_› ‹_›))) <;> first | assumption | (rintro ⟨_, _, _, _⟩; contradiction) | (rintro ⟨_, _⟩; contradiction))
   have C101 := cg [] (ch2.n.seq (ch7.n.seq (ch12.n.seq (ch17.n.seq (ch21.n.seq (hc26.n.seq (ch27.n.seq (hc30.n.seq (hb90.n.seq (hb93.n.seq (hb96.n.seq hb99.n)))))))))))
   replace bH := bH.ca C101
   exact ⟨(congrArg (a₁ := 0) (fun (z0 : Int) => Ending.returned (vi z0)) e0), bH.below⟩
  refine ae (wn (df q54)) (ae (wn (df q54)) (ae (wn (df q54)) (ae (wn (df q54)) (lw (Value.bool false) (aD rfl (df q54) rfl) (ma (Value.bool false) (aa (aj rfl rfl (a7 (a6 rfl ?_)))))))))
  replace bx5 := bx5.cn hc30
  refine lx (ad (ds := [vi a.1, vi a.2]) ab rfl bx5 rfl rfl) ?_
  replace bx10 := bx10.cn hc30
  refine lx (ad (ds := [vi b.1, vi b.2]) ab rfl bx10 rfl rfl) ?_
  replace bx15 := bx15.cn hc30
  refine lx (ad (ds := [vi c.1, vi c.2]) ab rfl bx15 rfl rfl) (lo (aF (v := Value.bool (decide (bD a b c))) (aw (vals := [vg [vi a.1, vi a.2], vg [vi b.1, vi b.2], vg [vi c.1, vi c.2]]) Try.func95 bG bI rfl) (cm w29 a b c ‹_› ‹_› ‹_›) ?_))
  intro w102 hb103
  replace hb103 := ak hb103 g19
  refine mv (Value.bool (decide (bD a b c))) ?_
  by_cases q65 : (decide (bD a b c)) = true
  ·
   refine ae (wn q65) (ae (wn q65) (ae (wn q65) (ae (wn q65) (lw (Value.bool true) (au rfl q65 rfl) (mv (Value.bool true) (ae (wn rfl) (ae (wn rfl) (ae (wn rfl) (ae (wn rfl) (lw (Value.bool true) (au rfl rfl rfl) (mv (Value.bool true) (ae (wn rfl) (ae (wn rfl) (ae (wn rfl) (ae (wn rfl) (lw (Value.bool true) (au rfl rfl rfl) (ma (Value.bool true) (aa ?_))))))))))))))))))
   refine ah rfl rfl (a7 ?_)
   clear bx5 bx10 bx15 bx20
   refine a6 rfl (ai 2 (aa (al (vs := [vi 2]) Try.func78 (.tmp rfl .nil) ?_)))
   have e0 : (2 : Int) = (aR a b c d) := by
     ((with_reducible (refine aY ?_ ?_ (by exact o1 ‹_›))) <;> first | assumption | (rintro ⟨_, _, _, _⟩; contradiction) | (rintro ⟨_, _⟩; contradiction))
   have C104 := cg [] (ch2.n.seq (ch7.n.seq (ch12.n.seq (ch17.n.seq (ch21.n.seq (hc26.n.seq (ch27.n.seq (hc30.n.seq hb103.n))))))))
   replace bH := bH.ca C104
   exact ⟨(congrArg (a₁ := 2) (fun (z0 : Int) => Ending.returned (vi z0)) e0), bH.below⟩
  replace bx5 := bx5.cn hb103
  refine lv (vg [vi a.1, vi a.2]) (wy (Bool.eq_false_iff.2 q65)) (ad (ds := [vi a.1, vi a.2]) ab rfl bx5 rfl rfl) ?_
  replace bx10 := bx10.cn hb103
  refine lv (vg [vi b.1, vi b.2]) (wy (Bool.eq_false_iff.2 q65)) (ad (ds := [vi b.1, vi b.2]) ab rfl bx10 rfl rfl) ?_
  replace bx20 := (bx20.cn hc30).cn hb103
  refine lv (vg [vi d.1, vi d.2]) (wy (Bool.eq_false_iff.2 q65)) (ad (ds := [vi d.1, vi d.2]) ab rfl bx20 rfl rfl) (bY (wy (Bool.eq_false_iff.2 q65)) (aF (v := Value.bool (decide (bD a b d))) (aw (vals := [vg [vi a.1, vi a.2], vg [vi b.1, vi b.2], vg [vi d.1, vi d.2]]) Try.func95 bG bI rfl) (cm w102 a b d ‹_› ‹_› ‹_›) ?_))
  intro w105 hb106
  replace hb106 := ak hb106 g19
  refine lw (Value.bool (decide (bD a b d))) (aD rfl (Bool.eq_false_iff.2 q65) rfl) (mv (Value.bool (decide (bD a b d))) ?_)
  by_cases q71 : (decide (bD a b d)) = true
  ·
   refine ae (wn q71) (ae (wn q71) (ae (wn q71) (ae (wn q71) (lw (Value.bool true) (au rfl q71 rfl) (mv (Value.bool true) (ae (wn rfl) (ae (wn rfl) (ae (wn rfl) (ae (wn rfl) (lw (Value.bool true) (au rfl rfl rfl) (ma (Value.bool true) (aa (ah rfl rfl (a7 ?_))))))))))))))
   clear bx5 bx10 bx15 bx20
   refine a6 rfl (ai 2 (aa (al (vs := [vi 2]) Try.func78 (.tmp rfl .nil) ?_)))
   have e0 : (2 : Int) = (aR a b c d) := by
     ((with_reducible (refine aY ?_ ?_ (by exact o2 ‹_›))) <;> first | assumption | (rintro ⟨_, _, _, _⟩; contradiction) | (rintro ⟨_, _⟩; contradiction))
   have C107 := cg [] (ch2.n.seq (ch7.n.seq (ch12.n.seq (ch17.n.seq (ch21.n.seq (hc26.n.seq (ch27.n.seq (hc30.n.seq (hb103.n.seq hb106.n)))))))))
   replace bH := bH.ca C107
   exact ⟨(congrArg (a₁ := 2) (fun (z0 : Int) => Ending.returned (vi z0)) e0), bH.below⟩
  replace bx15 := (bx15.cn hb103).cn hb106
  refine lv (vg [vi c.1, vi c.2]) (wy (Bool.eq_false_iff.2 q71)) (ad (ds := [vi c.1, vi c.2]) ab rfl bx15 rfl rfl) ?_
  replace bx20 := bx20.cn hb106
  refine lv (vg [vi d.1, vi d.2]) (wy (Bool.eq_false_iff.2 q71)) (ad (ds := [vi d.1, vi d.2]) ab rfl bx20 rfl rfl) ?_
  replace bx5 := bx5.cn hb106
  refine lv (vg [vi a.1, vi a.2]) (wy (Bool.eq_false_iff.2 q71)) (ad (ds := [vi a.1, vi a.2]) ab rfl bx5 rfl rfl) (bY (wy (Bool.eq_false_iff.2 q71)) (aF (v := Value.bool (decide (bD c d a))) (aw (vals := [vg [vi c.1, vi c.2], vg [vi d.1, vi d.2], vg [vi a.1, vi a.2]]) Try.func95 bG bI rfl) (cm w105 c d a ‹_› ‹_› ‹_›) ?_))
  intro w108 hb109
  replace hb109 := ak hb109 g19
  refine lw (Value.bool (decide (bD c d a))) (aD rfl (Bool.eq_false_iff.2 q71) rfl) (mv (Value.bool (decide (bD c d a))) ?_)
  by_cases q77 : (decide (bD c d a)) = true
  ·
   refine ae (wn q77) (ae (wn q77) (ae (wn q77) (ae (wn q77) (lw (Value.bool true) (au rfl q77 rfl) (ma (Value.bool true) (aa (ah rfl rfl (a7 ?_))))))))
   clear bx5 bx10 bx15 bx20
   refine a6 rfl (ai 2 (aa (al (vs := [vi 2]) Try.func78 (.tmp rfl .nil) ?_)))
   have e0 : (2 : Int) = (aR a b c d) := by
     ((with_reducible (refine aY ?_ ?_ (by exact o3 ‹_›))) <;> first | assumption | (rintro ⟨_, _, _, _⟩; contradiction) | (rintro ⟨_, _⟩; contradiction))
   have C110 := cg [] (ch2.n.seq (ch7.n.seq (ch12.n.seq (ch17.n.seq (ch21.n.seq (hc26.n.seq (ch27.n.seq (hc30.n.seq (hb103.n.seq (hb106.n.seq hb109.n))))))))))
   replace bH := bH.ca C110
   exact ⟨(congrArg (a₁ := 2) (fun (z0 : Int) => Ending.returned (vi z0)) e0), bH.below⟩
  replace bx15 := bx15.cn hb109
  refine lv (vg [vi c.1, vi c.2]) (wy (Bool.eq_false_iff.2 q77)) (ad (ds := [vi c.1, vi c.2]) ab rfl bx15 rfl rfl) ?_
  replace bx20 := bx20.cn hb109
  refine lv (vg [vi d.1, vi d.2]) (wy (Bool.eq_false_iff.2 q77)) (ad (ds := [vi d.1, vi d.2]) ab rfl bx20 rfl rfl) ?_
  replace bx10 := (bx10.cn hb106).cn hb109
  refine lv (vg [vi b.1, vi b.2]) (wy (Bool.eq_false_iff.2 q77)) (ad (ds := [vi b.1, vi b.2]) ab rfl bx10 rfl rfl) (bY (wy (Bool.eq_false_iff.2 q77)) (aF (v := Value.bool (decide (bD c d b))) (aw (vals := [vg [vi c.1, vi c.2], vg [vi d.1, vi d.2], vg [vi b.1, vi b.2]]) Try.func95 bG bI rfl) (cm w108 c d b ‹_› ‹_› ‹_›) ?_))
  intro w111 hb112
  replace hb112 := ak hb112 g19
  refine lw (Value.bool (decide (bD c d b))) (aD rfl (Bool.eq_false_iff.2 q77) rfl) (ma (Value.bool (decide (bD c d b))) (aa ?_))
  by_cases p7 : (decide (bD c d b)) = true
  ·
   refine ah rfl p7 (a7 ?_)
   clear bx5 bx10 bx15 bx20
   refine a6 rfl (ai 2 (aa (al (vs := [vi 2]) Try.func78 (.tmp rfl .nil) ?_)))
   have e0 : (2 : Int) = (aR a b c d) := by
     ((with_reducible (refine aY ?_ ?_ (by exact o4 ‹_›))) <;> first | assumption | (rintro ⟨_, _, _, _⟩; contradiction) | (rintro ⟨_, _⟩; contradiction))
   have C113 := cg [] (ch2.n.seq (ch7.n.seq (ch12.n.seq (ch17.n.seq (ch21.n.seq (hc26.n.seq (ch27.n.seq (hc30.n.seq (hb103.n.seq (hb106.n.seq (hb109.n.seq hb112.n)))))))))))
   replace bH := bH.ca C113
   exact ⟨(congrArg (a₁ := 2) (fun (z0 : Int) => Ending.returned (vi z0)) e0), bH.below⟩
  refine aj rfl (Bool.eq_false_iff.2 p7) (am (ao (a7 ?_)))
  clear bx5 bx10 bx15 bx20
  refine a6 rfl (ai 0 (aa (al (vs := [vi 0]) Try.func78 (.tmp rfl .nil) ?_)))
  have e0 : (0 : Int) = (aR a b c d) := by
    ((with_reducible (refine cS ?_ ?_ (o5 ‹_› ‹_› ‹_› ‹_›))) <;> first | assumption | (rintro ⟨_, _, _, _⟩; contradiction) | (rintro ⟨_, _⟩; contradiction))
  have C114 := cg [] (ch2.n.seq (ch7.n.seq (ch12.n.seq (ch17.n.seq (ch21.n.seq (hc26.n.seq (ch27.n.seq (hc30.n.seq (hb103.n.seq (hb106.n.seq (hb109.n.seq hb112.n)))))))))))
  replace bH := bH.ca C114
  exact ⟨(congrArg (a₁ := 0) (fun (z0 : Int) => Ending.returned (vi z0)) e0), bH.below⟩
 refine ae (wn (df q32)) (ae (wn (df q32)) (lw (Value.bool false) (aD rfl (df q32) rfl) (mv (Value.bool false) (ae (wn rfl) (ae (wn rfl) (lw (Value.bool false) (aD rfl rfl rfl) (mv (Value.bool false) (ae (wn rfl) (ae (wn rfl) (lw (Value.bool false) (aD rfl rfl rfl) (ma (Value.bool false) ?_)))))))))))
 refine aa (aj rfl rfl (a7 (a6 rfl (mi (bw a b c) (mi (bw a b d) (lx (cP (m := bw a b c) (n := bw a b d) rfl rfl (by omega)) (lx (b9 (m := (bw a b c) * (bw a b d)) (n := 0) rfl rfl) (mv (Value.bool (decide (((bw a b c) * (bw a b d)) < 0))) ?_))))))))
 by_cases q54 : ((bw a b c) * (bw a b d)) < 0
 ·
  refine lv (vi (bw c d a)) (wy (dt q54)) (aI rfl) (lv (vi (bw c d b)) (wy (dt q54)) (aI rfl) (lv (vi ((bw c d a) * (bw c d b))) (wy (dt q54)) (cP (m := bw c d a) (n := bw c d b) rfl rfl (by omega)) (lv (Value.bool (decide (((bw c d a) * (bw c d b)) < 0))) (wy (dt q54)) (b9 (m := (bw c d a) * (bw c d b)) (n := 0) rfl rfl) (lw (Value.bool (decide (((bw c d a) * (bw c d b)) < 0))) (au rfl (dt q54) rfl) (ma (Value.bool (decide (((bw c d a) * (bw c d b)) < 0))) (aa ?_))))))
  by_cases p5 : ((bw c d a) * (bw c d b)) < 0
  ·
   refine ah rfl (dt p5) (a7 ?_)
   clear bx5 bx10 bx15 bx20
   refine a6 rfl (ai 1 (aa (al (vs := [vi 1]) Try.func78 (.tmp rfl .nil) ?_)))
   have e0 : (1 : Int) = (aR a b c d) := by
     with_reducible exact eH ‹_› ‹_›
   have C115 := cg [] (ch2.n.seq (ch7.n.seq (ch12.n.seq (ch17.n.seq (ch21.n.seq (hc26.n.seq (ch27.n.seq hc30.n)))))))
   replace bH := bH.ca C115
   exact ⟨(congrArg (a₁ := 1) (fun (z0 : Int) => Ending.returned (vi z0)) e0), bH.below⟩
  refine aj rfl (df p5) (a7 (a6 rfl ?_))
  replace bx5 := bx5.cn hc30
  refine lx (ad (ds := [vi a.1, vi a.2]) ab rfl bx5 rfl rfl) ?_
  replace bx10 := bx10.cn hc30
  refine lx (ad (ds := [vi b.1, vi b.2]) ab rfl bx10 rfl rfl) ?_
  replace bx15 := bx15.cn hc30
  refine lx (ad (ds := [vi c.1, vi c.2]) ab rfl bx15 rfl rfl) (lo (aF (v := Value.bool (decide (bD a b c))) (aw (vals := [vg [vi a.1, vi a.2], vg [vi b.1, vi b.2], vg [vi c.1, vi c.2]]) Try.func95 bG bI rfl) (cm w29 a b c ‹_› ‹_› ‹_›) ?_))
  intro w116 hb117
  replace hb117 := ak hb117 g19
  refine mv (Value.bool (decide (bD a b c))) ?_
  by_cases q65 : (decide (bD a b c)) = true
  ·
   refine ae (wn q65) (ae (wn q65) (ae (wn q65) (ae (wn q65) (lw (Value.bool true) (au rfl q65 rfl) (mv (Value.bool true) (ae (wn rfl) (ae (wn rfl) (ae (wn rfl) (ae (wn rfl) (lw (Value.bool true) (au rfl rfl rfl) (mv (Value.bool true) (ae (wn rfl) (ae (wn rfl) (ae (wn rfl) (ae (wn rfl) (lw (Value.bool true) (au rfl rfl rfl) (ma (Value.bool true) (aa ?_))))))))))))))))))
   refine ah rfl rfl (a7 ?_)
   clear bx5 bx10 bx15 bx20
   refine a6 rfl (ai 2 (aa (al (vs := [vi 2]) Try.func78 (.tmp rfl .nil) ?_)))
   have e0 : (2 : Int) = (aR a b c d) := by
     ((with_reducible (refine aY ?_ ?_ (by exact o1 ‹_›))) <;> first | assumption | (rintro ⟨_, _, _, _⟩; contradiction) | (rintro ⟨_, _⟩; contradiction))
   have C118 := cg [] (ch2.n.seq (ch7.n.seq (ch12.n.seq (ch17.n.seq (ch21.n.seq (hc26.n.seq (ch27.n.seq (hc30.n.seq hb117.n))))))))
   replace bH := bH.ca C118
   exact ⟨(congrArg (a₁ := 2) (fun (z0 : Int) => Ending.returned (vi z0)) e0), bH.below⟩
  replace bx5 := bx5.cn hb117
  refine lv (vg [vi a.1, vi a.2]) (wy (Bool.eq_false_iff.2 q65)) (ad (ds := [vi a.1, vi a.2]) ab rfl bx5 rfl rfl) ?_
  replace bx10 := bx10.cn hb117
  refine lv (vg [vi b.1, vi b.2]) (wy (Bool.eq_false_iff.2 q65)) (ad (ds := [vi b.1, vi b.2]) ab rfl bx10 rfl rfl) ?_
  replace bx20 := (bx20.cn hc30).cn hb117
  refine lv (vg [vi d.1, vi d.2]) (wy (Bool.eq_false_iff.2 q65)) (ad (ds := [vi d.1, vi d.2]) ab rfl bx20 rfl rfl) (bY (wy (Bool.eq_false_iff.2 q65)) (aF (v := Value.bool (decide (bD a b d))) (aw (vals := [vg [vi a.1, vi a.2], vg [vi b.1, vi b.2], vg [vi d.1, vi d.2]]) Try.func95 bG bI rfl) (cm w116 a b d ‹_› ‹_› ‹_›) ?_))
  intro w119 hb120
  replace hb120 := ak hb120 g19
  refine lw (Value.bool (decide (bD a b d))) (aD rfl (Bool.eq_false_iff.2 q65) rfl) (mv (Value.bool (decide (bD a b d))) ?_)
  by_cases q71 : (decide (bD a b d)) = true
  ·
   refine ae (wn q71) (ae (wn q71) (ae (wn q71) (ae (wn q71) (lw (Value.bool true) (au rfl q71 rfl) (mv (Value.bool true) (ae (wn rfl) (ae (wn rfl) (ae (wn rfl) (ae (wn rfl) (lw (Value.bool true) (au rfl rfl rfl) (ma (Value.bool true) (aa (ah rfl rfl (a7 ?_))))))))))))))
   clear bx5 bx10 bx15 bx20
   refine a6 rfl (ai 2 (aa (al (vs := [vi 2]) Try.func78 (.tmp rfl .nil) ?_)))
   have e0 : (2 : Int) = (aR a b c d) := by
     ((with_reducible (refine aY ?_ ?_ (by exact o2 ‹_›))) <;> first | assumption | (rintro ⟨_, _, _, _⟩; contradiction) | (rintro ⟨_, _⟩; contradiction))
   have C121 := cg [] (ch2.n.seq (ch7.n.seq (ch12.n.seq (ch17.n.seq (ch21.n.seq (hc26.n.seq (ch27.n.seq (hc30.n.seq (hb117.n.seq hb120.n)))))))))
   replace bH := bH.ca C121
   exact ⟨(congrArg (a₁ := 2) (fun (z0 : Int) => Ending.returned (vi z0)) e0), bH.below⟩
  replace bx15 := (bx15.cn hb117).cn hb120
  refine lv (vg [vi c.1, vi c.2]) (wy (Bool.eq_false_iff.2 q71)) (ad (ds := [vi c.1, vi c.2]) ab rfl bx15 rfl rfl) ?_
  replace bx20 := bx20.cn hb120
  refine lv (vg [vi d.1, vi d.2]) (wy (Bool.eq_false_iff.2 q71)) (ad (ds := [vi d.1, vi d.2]) ab rfl bx20 rfl rfl) ?_
  replace bx5 := bx5.cn hb120
  refine lv (vg [vi a.1, vi a.2]) (wy (Bool.eq_false_iff.2 q71)) (ad (ds := [vi a.1, vi a.2]) ab rfl bx5 rfl rfl) (bY (wy (Bool.eq_false_iff.2 q71)) (aF (v := Value.bool (decide (bD c d a))) (aw (vals := [vg [vi c.1, vi c.2], vg [vi d.1, vi d.2], vg [vi a.1, vi a.2]]) Try.func95 bG bI rfl) (cm w119 c d a ‹_› ‹_› ‹_›) ?_))
  intro w122 hb123
  replace hb123 := ak hb123 g19
  refine lw (Value.bool (decide (bD c d a))) (aD rfl (Bool.eq_false_iff.2 q71) rfl) (mv (Value.bool (decide (bD c d a))) ?_)
  by_cases q77 : (decide (bD c d a)) = true
  ·
   refine ae (wn q77) (ae (wn q77) (ae (wn q77) (ae (wn q77) (lw (Value.bool true) (au rfl q77 rfl) (ma (Value.bool true) (aa (ah rfl rfl (a7 ?_))))))))
   clear bx5 bx10 bx15 bx20
   refine a6 rfl (ai 2 (aa (al (vs := [vi 2]) Try.func78 (.tmp rfl .nil) ?_)))
   have e0 : (2 : Int) = (aR a b c d) := by
     ((with_reducible (refine aY ?_ ?_ (by exact o3 ‹_›))) <;> first | assumption | (rintro ⟨_, _, _, _⟩; contradiction) | (rintro ⟨_, _⟩; contradiction))
   have C124 := cg [] (ch2.n.seq (ch7.n.seq (ch12.n.seq (ch17.n.seq (ch21.n.seq (hc26.n.seq (ch27.n.seq (hc30.n.seq (hb117.n.seq (hb120.n.seq hb123.n))))))))))
   replace bH := bH.ca C124
   exact ⟨(congrArg (a₁ := 2) (fun (z0 : Int) => Ending.returned (vi z0)) e0), bH.below⟩
  replace bx15 := bx15.cn hb123
  refine lv (vg [vi c.1, vi c.2]) (wy (Bool.eq_false_iff.2 q77)) (ad (ds := [vi c.1, vi c.2]) ab rfl bx15 rfl rfl) ?_
  replace bx20 := bx20.cn hb123
  refine lv (vg [vi d.1, vi d.2]) (wy (Bool.eq_false_iff.2 q77)) (ad (ds := [vi d.1, vi d.2]) ab rfl bx20 rfl rfl) ?_
  replace bx10 := (bx10.cn hb120).cn hb123
  refine lv (vg [vi b.1, vi b.2]) (wy (Bool.eq_false_iff.2 q77)) (ad (ds := [vi b.1, vi b.2]) ab rfl bx10 rfl rfl) (bY (wy (Bool.eq_false_iff.2 q77)) (aF (v := Value.bool (decide (bD c d b))) (aw (vals := [vg [vi c.1, vi c.2], vg [vi d.1, vi d.2], vg [vi b.1, vi b.2]]) Try.func95 bG bI rfl) (cm w122 c d b ‹_› ‹_› ‹_›) ?_))
  intro w125 hb126
  replace hb126 := ak hb126 g19
  refine lw (Value.bool (decide (bD c d b))) (aD rfl (Bool.eq_false_iff.2 q77) rfl) (ma (Value.bool (decide (bD c d b))) (aa ?_))
  by_cases p7 : (decide (bD c d b)) = true
  ·
   refine ah rfl p7 (a7 ?_)
   clear bx5 bx10 bx15 bx20
   refine a6 rfl (ai 2 (aa (al (vs := [vi 2]) Try.func78 (.tmp rfl .nil) ?_)))
   have e0 : (2 : Int) = (aR a b c d) := by
     ((with_reducible (refine aY ?_ ?_ (by exact o4 ‹_›))) <;> first | assumption | (rintro ⟨_, _, _, _⟩; contradiction) | (rintro ⟨_, _⟩; contradiction))
   have C127 := cg [] (ch2.n.seq (ch7.n.seq (ch12.n.seq (ch17.n.seq (ch21.n.seq (hc26.n.seq (ch27.n.seq (hc30.n.seq (hb117.n.seq (hb120.n.seq (hb123.n.seq hb126.n)))))))))))
   replace bH := bH.ca C127
   exact ⟨(congrArg (a₁ := 2) (fun (z0 : Int) => Ending.returned (vi z0)) e0), bH.below⟩
  refine aj rfl (Bool.eq_false_iff.2 p7) (am (ao (a7 ?_)))
  clear bx5 bx10 bx15 bx20
  refine a6 rfl (ai 0 (aa (al (vs := [vi 0]) Try.func78 (.tmp rfl .nil) ?_)))
  have e0 : (0 : Int) = (aR a b c d) := by
    ((with_reducible (refine cS ?_ ?_ (o5 ‹_› ‹_› ‹_› ‹_›))) <;> first | assumption | (rintro ⟨_, _, _, _⟩; contradiction) | (rintro ⟨_, _⟩; contradiction))
  have C128 := cg [] (ch2.n.seq (ch7.n.seq (ch12.n.seq (ch17.n.seq (ch21.n.seq (hc26.n.seq (ch27.n.seq (hc30.n.seq (hb117.n.seq (hb120.n.seq (hb123.n.seq hb126.n)))))))))))
  replace bH := bH.ca C128
  exact ⟨(congrArg (a₁ := 0) (fun (z0 : Int) => Ending.returned (vi z0)) e0), bH.below⟩
 refine ae (wn (df q54)) (ae (wn (df q54)) (ae (wn (df q54)) (ae (wn (df q54)) (lw (Value.bool false) (aD rfl (df q54) rfl) (ma (Value.bool false) (aa (aj rfl rfl (a7 (a6 rfl ?_)))))))))
 replace bx5 := bx5.cn hc30
 refine lx (ad (ds := [vi a.1, vi a.2]) ab rfl bx5 rfl rfl) ?_
 replace bx10 := bx10.cn hc30
 refine lx (ad (ds := [vi b.1, vi b.2]) ab rfl bx10 rfl rfl) ?_
 replace bx15 := bx15.cn hc30
 refine lx (ad (ds := [vi c.1, vi c.2]) ab rfl bx15 rfl rfl) (lo (aF (v := Value.bool (decide (bD a b c))) (aw (vals := [vg [vi a.1, vi a.2], vg [vi b.1, vi b.2], vg [vi c.1, vi c.2]]) Try.func95 bG bI rfl) (cm w29 a b c ‹_› ‹_› ‹_›) ?_))
 intro w129 hb130
 replace hb130 := ak hb130 g19
 refine mv (Value.bool (decide (bD a b c))) ?_
 by_cases q65 : (decide (bD a b c)) = true
 ·
  refine ae (wn q65) (ae (wn q65) (ae (wn q65) (ae (wn q65) (lw (Value.bool true) (au rfl q65 rfl) (mv (Value.bool true) (ae (wn rfl) (ae (wn rfl) (ae (wn rfl) (ae (wn rfl) (lw (Value.bool true) (au rfl rfl rfl) (mv (Value.bool true) (ae (wn rfl) (ae (wn rfl) (ae (wn rfl) (ae (wn rfl) (lw (Value.bool true) (au rfl rfl rfl) (ma (Value.bool true) (aa ?_))))))))))))))))))
  refine ah rfl rfl (a7 ?_)
  clear bx5 bx10 bx15 bx20
  refine a6 rfl (ai 2 (aa (al (vs := [vi 2]) Try.func78 (.tmp rfl .nil) ?_)))
  have e0 : (2 : Int) = (aR a b c d) := by
    ((with_reducible (refine aY ?_ ?_ (by exact o1 ‹_›))) <;> first | assumption | (rintro ⟨_, _, _, _⟩; contradiction) | (rintro ⟨_, _⟩; contradiction))
  have C131 := cg [] (ch2.n.seq (ch7.n.seq (ch12.n.seq (ch17.n.seq (ch21.n.seq (hc26.n.seq (ch27.n.seq (hc30.n.seq hb130.n))))))))
  replace bH := bH.ca C131
  exact ⟨(congrArg (a₁ := 2) (fun (z0 : Int) => Ending.returned (vi z0)) e0), bH.below⟩
 replace bx5 := bx5.cn hb130
 refine lv (vg [vi a.1, vi a.2]) (wy (Bool.eq_false_iff.2 q65)) (ad (ds := [vi a.1, vi a.2]) ab rfl bx5 rfl rfl) ?_
 replace bx10 := bx10.cn hb130
 refine lv (vg [vi b.1, vi b.2]) (wy (Bool.eq_false_iff.2 q65)) (ad (ds := [vi b.1, vi b.2]) ab rfl bx10 rfl rfl) ?_
 replace bx20 := (bx20.cn hc30).cn hb130
 refine lv (vg [vi d.1, vi d.2]) (wy (Bool.eq_false_iff.2 q65)) (ad (ds := [vi d.1, vi d.2]) ab rfl bx20 rfl rfl) (bY (wy (Bool.eq_false_iff.2 q65)) (aF (v := Value.bool (decide (bD a b d))) (aw (vals := [vg [vi a.1, vi a.2], vg [vi b.1, vi b.2], vg [vi d.1, vi d.2]]) Try.func95 bG bI rfl) (cm w129 a b d ‹_› ‹_› ‹_›) ?_))
 intro w132 hb133
 replace hb133 := ak hb133 g19
 refine lw (Value.bool (decide (bD a b d))) (aD rfl (Bool.eq_false_iff.2 q65) rfl) (mv (Value.bool (decide (bD a b d))) ?_)
 by_cases q71 : (decide (bD a b d)) = true
 ·
  refine ae (wn q71) (ae (wn q71) (ae (wn q71) (ae (wn q71) (lw (Value.bool true) (au rfl q71 rfl) (mv (Value.bool true) (ae (wn rfl) (ae (wn rfl) (ae (wn rfl) (ae (wn rfl) (lw (Value.bool true) (au rfl rfl rfl) (ma (Value.bool true) (aa (ah rfl rfl (a7 ?_))))))))))))))
  clear bx5 bx10 bx15 bx20
  refine a6 rfl (ai 2 (aa (al (vs := [vi 2]) Try.func78 (.tmp rfl .nil) ?_)))
  have e0 : (2 : Int) = (aR a b c d) := by
    ((with_reducible (refine aY ?_ ?_ (by exact o2 ‹_›))) <;> first | assumption | (rintro ⟨_, _, _, _⟩; contradiction) | (rintro ⟨_, _⟩; contradiction))
  have C134 := cg [] (ch2.n.seq (ch7.n.seq (ch12.n.seq (ch17.n.seq (ch21.n.seq (hc26.n.seq (ch27.n.seq (hc30.n.seq (hb130.n.seq hb133.n)))))))))
  replace bH := bH.ca C134
  exact ⟨(congrArg (a₁ := 2) (fun (z0 : Int) => Ending.returned (vi z0)) e0), bH.below⟩
 replace bx15 := (bx15.cn hb130).cn hb133
 refine lv (vg [vi c.1, vi c.2]) (wy (Bool.eq_false_iff.2 q71)) (ad (ds := [vi c.1, vi c.2]) ab rfl bx15 rfl rfl) ?_
 replace bx20 := bx20.cn hb133
 refine lv (vg [vi d.1, vi d.2]) (wy (Bool.eq_false_iff.2 q71)) (ad (ds := [vi d.1, vi d.2]) ab rfl bx20 rfl rfl) ?_
 replace bx5 := bx5.cn hb133
 refine lv (vg [vi a.1, vi a.2]) (wy (Bool.eq_false_iff.2 q71)) (ad (ds := [vi a.1, vi a.2]) ab rfl bx5 rfl rfl) (bY (wy (Bool.eq_false_iff.2 q71)) (aF (v := Value.bool (decide (bD c d a))) (aw (vals := [vg [vi c.1, vi c.2], vg [vi d.1, vi d.2], vg [vi a.1, vi a.2]]) Try.func95 bG bI rfl) (cm w132 c d a ‹_› ‹_› ‹_›) ?_))
 intro w135 hb136
 replace hb136 := ak hb136 g19
 refine lw (Value.bool (decide (bD c d a))) (aD rfl (Bool.eq_false_iff.2 q71) rfl) (mv (Value.bool (decide (bD c d a))) ?_)
 by_cases q77 : (decide (bD c d a)) = true
 ·
  refine ae (wn q77) (ae (wn q77) (ae (wn q77) (ae (wn q77) (lw (Value.bool true) (au rfl q77 rfl) (ma (Value.bool true) (aa (ah rfl rfl (a7 ?_))))))))
  clear bx5 bx10 bx15 bx20
  refine a6 rfl (ai 2 (aa (al (vs := [vi 2]) Try.func78 (.tmp rfl .nil) ?_)))
  have e0 : (2 : Int) = (aR a b c d) := by
    ((with_reducible (refine aY ?_ ?_ (by exact o3 ‹_›))) <;> first | assumption | (rintro ⟨_, _, _, _⟩; contradiction) | (rintro ⟨_, _⟩; contradiction))
  have C137 := cg [] (ch2.n.seq (ch7.n.seq (ch12.n.seq (ch17.n.seq (ch21.n.seq (hc26.n.seq (ch27.n.seq (hc30.n.seq (hb130.n.seq (hb133.n.seq hb136.n))))))))))
  replace bH := bH.ca C137
  exact ⟨(congrArg (a₁ := 2) (fun (z0 : Int) => Ending.returned (vi z0)) e0), bH.below⟩
 replace bx15 := bx15.cn hb136
 refine lv (vg [vi c.1, vi c.2]) (wy (Bool.eq_false_iff.2 q77)) (ad (ds := [vi c.1, vi c.2]) ab rfl bx15 rfl rfl) ?_
 replace bx20 := bx20.cn hb136
 refine lv (vg [vi d.1, vi d.2]) (wy (Bool.eq_false_iff.2 q77)) (ad (ds := [vi d.1, vi d.2]) ab rfl bx20 rfl rfl) ?_
 replace bx10 := (bx10.cn hb133).cn hb136
 refine lv (vg [vi b.1, vi b.2]) (wy (Bool.eq_false_iff.2 q77)) (ad (ds := [vi b.1, vi b.2]) ab rfl bx10 rfl rfl) (bY (wy (Bool.eq_false_iff.2 q77)) (aF (v := Value.bool (decide (bD c d b))) (aw (vals := [vg [vi c.1, vi c.2], vg [vi d.1, vi d.2], vg [vi b.1, vi b.2]]) Try.func95 bG bI rfl) (cm w135 c d b ‹_› ‹_› ‹_›) ?_))
 intro w138 hb139
 replace hb139 := ak hb139 g19
 refine lw (Value.bool (decide (bD c d b))) (aD rfl (Bool.eq_false_iff.2 q77) rfl) (ma (Value.bool (decide (bD c d b))) (aa ?_))
 by_cases p7 : (decide (bD c d b)) = true
 ·
  refine ah rfl p7 (a7 ?_)
  clear bx5 bx10 bx15 bx20
  refine a6 rfl (ai 2 (aa (al (vs := [vi 2]) Try.func78 (.tmp rfl .nil) ?_)))
  have e0 : (2 : Int) = (aR a b c d) := by
    ((with_reducible (refine aY ?_ ?_ (by exact o4 ‹_›))) <;> first | assumption | (rintro ⟨_, _, _, _⟩; contradiction) | (rintro ⟨_, _⟩; contradiction))
  have C140 := cg [] (ch2.n.seq (ch7.n.seq (ch12.n.seq (ch17.n.seq (ch21.n.seq (hc26.n.seq (ch27.n.seq (hc30.n.seq (hb130.n.seq (hb133.n.seq (hb136.n.seq hb139.n)))))))))))
  replace bH := bH.ca C140
  exact ⟨(congrArg (a₁ := 2) (fun (z0 : Int) => Ending.returned (vi z0)) e0), bH.below⟩
 refine aj rfl (Bool.eq_false_iff.2 p7) (am (ao (a7 ?_)))
 clear bx5 bx10 bx15 bx20
 refine a6 rfl (ai 0 (aa (al (vs := [vi 0]) Try.func78 (.tmp rfl .nil) ?_)))
 have e0 : (0 : Int) = (aR a b c d) := by
   ((with_reducible (refine cS ?_ ?_ (o5 ‹_› ‹_› ‹_› ‹_›))) <;> first | assumption | (rintro ⟨_, _, _, _⟩; contradiction) | (rintro ⟨_, _⟩; contradiction))
 have C141 := cg [] (ch2.n.seq (ch7.n.seq (ch12.n.seq (ch17.n.seq (ch21.n.seq (hc26.n.seq (ch27.n.seq (hc30.n.seq (hb130.n.seq (hb133.n.seq (hb136.n.seq hb139.n)))))))))))
 replace bH := bH.ca C141
 exact ⟨(congrArg (a₁ := 0) (fun (z0 : Int) => Ending.returned (vi z0)) e0), bH.below⟩
theorem iD (w0 : World) (a : (Int) × (Int)) (b : (Int) × (Int)) (p : (Int) × (Int)) :
    Calls Try.prog 80 #[vg [vi a.1, vi a.2], vg [vi b.1, vi b.2], vg [vi p.1, vi p.2]] w0 (fun ee w => ee = .returned (vt [Value.bool ((dO a b p).1), vi ((dO a b p).2)]) ∧ cQ w0.heap.size w0 w) := by
 refine aC Try.func80 rfl (Nat.le_of_ble_eq_true rfl) ?_
 have bH := bf.start w0
 refine a7 (a6 rfl (bY rfl (bA c0 (is 1) (1, 0) rfl rfl ?_)))
 intro g4 w1 b3 ch2 bx5
 replace bx5 : Bx g4 (is 1) w1 b3 [vi a.1, vi a.2] := bx5
 refine lo (bA g4 (is 2) (2, 0) rfl rfl ?_)
 intro g9 w6 b8 ch7 bx10
 replace bx10 : Bx g9 (is 2) w6 b8 [vi b.1, vi b.2] := bx10
 refine lo (bA g9 (is 3) (3, 0) rfl rfl ?_)
 intro g14 w11 b13 ch12 bx15
 replace bx15 : Bx g14 (is 3) w11 b13 [vi p.1, vi p.2] := bx15
 refine ma (Value.bool false) (ai 0 (aa (a7 (a7 (a6 rfl ?_)))))
 replace bx5 := (bx5.cn ch7).cn ch12
 refine lx (ad (ds := [vi a.1, vi a.2]) ab rfl bx5 rfl rfl) ?_
 replace bx10 := bx10.cn ch12
 refine lx (ad (ds := [vi b.1, vi b.2]) ab rfl bx10 rfl rfl) (lx (ad (ds := [vi p.1, vi p.2]) ab rfl bx15 rfl rfl) (lo (aJ (α := (Int) × (Int)) g14 (is 4) (is 4) (4, 0) rfl [a, b, p] Try.underlying25 ab (by decide) (by decide) (vs := [(0, vg [vi a.1, vi a.2]), (1, vg [vi b.1, vi b.2]), (2, vg [vi p.1, vi p.2])]) rfl rfl (.cons rfl (.cons rfl (.cons rfl .nil))) ?_)))
 intro g16 w17 v18 ch19 o20
 refine lo (aF (v := Value.bool (decide (cX ([a, b, p])))) (aw (vals := [v18]) Try.func54 e9 eh rfl) (ej w17 ([a, b, p]) v18 (o20.flat).ro) ?_)
 intro w21 hb22
 replace hb22 := ak hb22 g16
 refine lx (di (b := (decide (cX ([a, b, p])))) rfl) (aa ?_)
 by_cases p1 : (decide (cX ([a, b, p]))) = true
 ·
  obtain ⟨h1, h2, h3⟩ := sS.1 (of_decide_eq_true p1)
  have k1 := h1.bd
  have k2 := h2.bd
  have k3 := h3.bd
  refine aj rfl (congrArg Bool.not p1) (am (a7 ?_))
  clear o20
  refine a6 rfl ?_
  replace bx5 := (bx5.cn ch19).cn hb22
  refine lx (ad (ds := [vi a.1, vi a.2]) ab rfl bx5 rfl rfl) ?_
  replace bx10 := (bx10.cn ch19).cn hb22
  refine lx (ad (ds := [vi b.1, vi b.2]) ab rfl bx10 rfl rfl) ?_
  replace bx15 := (bx15.cn ch19).cn hb22
  refine lx (ad (ds := [vi p.1, vi p.2]) ab rfl bx15 rfl rfl) (lo (aF (v := Value.bool (decide (bD a b p))) (aw (vals := [vg [vi a.1, vi a.2], vg [vi b.1, vi b.2], vg [vi p.1, vi p.2]]) Try.func95 bG bI rfl) (cm w21 a b p ‹_› ‹_› ‹_›) ?_))
  intro w23 hb24
  replace hb24 := ak hb24 g16
  refine ma (Value.bool (decide (bD a b p))) (ai 0 (aa (al (vs := [Value.bool (decide (bD a b p)), vi 0]) Try.func80 (.tmp rfl (.tmp rfl .nil)) ?_)))
  have e0 : ((decide (bD a b p)) : Bool) = ((dO a b p).1) := by
    simp only [dO, if_pos (⟨h1, h2, h3⟩ : c4 a ∧ c4 b ∧ c4 p)]
  have e1 : (0 : Int) = ((dO a b p).2) := by
    simp only [dO, if_pos (⟨h1, h2, h3⟩ : c4 a ∧ c4 b ∧ c4 p)]
  have C25 := cg [] (ch2.n.seq (ch7.n.seq (ch12.n.seq (ch19.n.seq (hb22.n.seq hb24.n)))))
  replace bH := bH.ca C25
  exact ⟨(bW (a := (decide (bD a b p))) (b := 0) (fun (z0 : Bool) (z1 : Int) => Ending.returned (vt [Value.bool z0, vi z1])) e0 e1), bH.below⟩
 have hno : ¬ (c4 a ∧ c4 b ∧ c4 p) := fun h => p1 (dt (sS.2 h))
 refine ah rfl (congrArg Bool.not (Bool.eq_false_iff.2 p1)) (a7 ?_)
 clear bx5 bx10 bx15 o20
 refine a6 rfl (ma (Value.bool false) (ai 1 (aa (al (vs := [Value.bool false, vi 1]) Try.func80 (.tmp rfl (.tmp rfl .nil)) ?_))))
 have e0 : (false : Bool) = ((dO a b p).1) := by
   simp only [dO, if_neg hno]
 have e1 : (1 : Int) = ((dO a b p).2) := by
   simp only [dO, if_neg hno]
 have C26 := cg [] (ch2.n.seq (ch7.n.seq (ch12.n.seq (ch19.n.seq hb22.n))))
 replace bH := bH.ca C26
 exact ⟨(bW (a := false) (b := 1) (fun (z0 : Bool) (z1 : Int) => Ending.returned (vt [Value.bool z0, vi z1])) e0 e1), bH.below⟩
theorem oK (w0 : World) (a : (Int) × (Int)) (b : (Int) × (Int)) (c : (Int) × (Int)) (d : (Int) × (Int)) :
    Calls Try.prog 97 #[vg [vi a.1, vi a.2], vg [vi b.1, vi b.2], vg [vi c.1, vi c.2], vg [vi d.1, vi d.2]] w0 (fun ee w => ee = .returned (vt [vi ((cK a b c d).1), vi ((cK a b c d).2)]) ∧ cQ w0.heap.size w0 w) := by
 refine aC Try.func97 rfl (Nat.le_of_ble_eq_true rfl) ?_
 have bH := bf.start w0
 refine a7 (a6 rfl (bY rfl (bA c0 (is 1) (1, 0) rfl rfl ?_)))
 intro g4 w1 b3 ch2 bx5
 replace bx5 : Bx g4 (is 1) w1 b3 [vi a.1, vi a.2] := bx5
 refine lo (bA g4 (is 2) (2, 0) rfl rfl ?_)
 intro g9 w6 b8 ch7 bx10
 replace bx10 : Bx g9 (is 2) w6 b8 [vi b.1, vi b.2] := bx10
 refine lo (bA g9 (is 3) (3, 0) rfl rfl ?_)
 intro g14 w11 b13 ch12 bx15
 replace bx15 : Bx g14 (is 3) w11 b13 [vi c.1, vi c.2] := bx15
 refine lo (bA g14 (is 4) (4, 0) rfl rfl ?_)
 intro g19 w16 b18 ch17 bx20
 replace bx20 : Bx g19 (is 4) w16 b18 [vi d.1, vi d.2] := bx20
 refine ai 0 (ai 0 (aa (a7 (a7 (a6 rfl ?_)))))
 have C21 := cg [] (ch7.n.seq (ch12.n.seq ch17.n))
 replace bx5 := bx5.ca C21
 refine lx (ad (ds := [vi a.1, vi a.2]) ab rfl bx5 rfl rfl) ?_
 replace bx10 := (bx10.cn ch12).cn ch17
 refine lx (ad (ds := [vi b.1, vi b.2]) ab rfl bx10 rfl rfl) ?_
 replace bx15 := bx15.cn ch17
 refine lx (ad (ds := [vi c.1, vi c.2]) ab rfl bx15 rfl rfl) (lx (ad (ds := [vi d.1, vi d.2]) ab rfl bx20 rfl rfl) (lo (aJ (α := (Int) × (Int)) g19 (is 5) (is 5) (5, 0) rfl [a, b, c, d] Try.underlying25 ab (by decide) (by decide) (vs := [(0, vg [vi a.1, vi a.2]), (1, vg [vi b.1, vi b.2]), (2, vg [vi c.1, vi c.2]), (3, vg [vi d.1, vi d.2])]) rfl rfl (.cons rfl (.cons rfl (.cons rfl (.cons rfl .nil)))) ?_)))
 intro g22 w23 v24 ch25 o26
 refine lo (aF (v := Value.bool (decide (cX ([a, b, c, d])))) (aw (vals := [v24]) Try.func54 e9 eh rfl) (ej w23 ([a, b, c, d]) v24 (o26.flat).ro) ?_)
 intro w27 hb28
 replace hb28 := ak hb28 g22
 refine lx (di (b := (decide (cX ([a, b, c, d])))) rfl) (aa ?_)
 by_cases p1 : (decide (cX ([a, b, c, d]))) = true
 ·
  obtain ⟨⟨h1, h2⟩, h3, h4⟩ := sI.1 (of_decide_eq_true p1)
  have k1 := h1.bd
  have k2 := h2.bd
  have k3 := h3.bd
  have k4 := h4.bd
  refine aj rfl (congrArg Bool.not p1) (am (a7 ?_))
  clear o26
  refine a6 rfl ?_
  replace bx5 := (bx5.cn ch25).cn hb28
  refine lx (ad (ds := [vi a.1, vi a.2]) ab rfl bx5 rfl rfl) ?_
  replace bx10 := (bx10.cn ch25).cn hb28
  refine lx (ad (ds := [vi b.1, vi b.2]) ab rfl bx10 rfl rfl) ?_
  replace bx15 := (bx15.cn ch25).cn hb28
  refine lx (ad (ds := [vi c.1, vi c.2]) ab rfl bx15 rfl rfl) ?_
  replace bx20 := (bx20.cn ch25).cn hb28
  refine lx (ad (ds := [vi d.1, vi d.2]) ab rfl bx20 rfl rfl) (lo (aF (v := vi (aR a b c d)) (aw (vals := [vg [vi a.1, vi a.2], vg [vi b.1, vi b.2], vg [vi c.1, vi c.2], vg [vi d.1, vi d.2]]) Try.func78 lh lV rfl) (ld w27 a b c d ‹_› ‹_› ‹_› ‹_›) ?_))
  intro w29 hb30
  replace hb30 := ak hb30 g22
  refine ai (aR a b c d) (ai 0 (aa (al (vs := [vi (aR a b c d), vi 0]) Try.func97 (.tmp rfl (.tmp rfl .nil)) ?_)))
  have e0 : (aR a b c d : Int) = ((cK a b c d).1) := by
    simp only [cK, if_pos (⟨⟨h1, h2⟩, h3, h4⟩ : (c4 a ∧ c4 b) ∧ c4 c ∧ c4 d)]
  have e1 : (0 : Int) = ((cK a b c d).2) := by
    simp only [cK, if_pos (⟨⟨h1, h2⟩, h3, h4⟩ : (c4 a ∧ c4 b) ∧ c4 c ∧ c4 d)]
  have C31 := cg [] (ch2.n.seq (ch7.n.seq (ch12.n.seq (ch17.n.seq (ch25.n.seq (hb28.n.seq hb30.n))))))
  replace bH := bH.ca C31
  exact ⟨(bW (a := aR a b c d) (b := 0) (fun (z0 : Int) (z1 : Int) => Ending.returned (vt [vi z0, vi z1])) e0 e1), bH.below⟩
 have hno : ¬ ((c4 a ∧ c4 b) ∧ c4 c ∧ c4 d) := fun h => p1 (dt (sI.2 h))
 refine ah rfl (congrArg Bool.not (Bool.eq_false_iff.2 p1)) (a7 ?_)
 clear bx5 bx10 bx15 bx20 o26
 refine a6 rfl (ai 0 (ai 1 (aa (al (vs := [vi 0, vi 1]) Try.func97 (.tmp rfl (.tmp rfl .nil)) ?_))))
 have e0 : (0 : Int) = ((cK a b c d).1) := by
   simp only [cK, if_neg hno]
 have e1 : (1 : Int) = ((cK a b c d).2) := by
   simp only [cK, if_neg hno]
 have C32 := cg [] (ch2.n.seq (ch7.n.seq (ch12.n.seq (ch17.n.seq (ch25.n.seq hb28.n)))))
 replace bH := bH.ca C32
 exact ⟨(bW (a := 0) (b := 1) (fun (z0 : Int) (z1 : Int) => Ending.returned (vt [vi z0, vi z1])) e0 e1), bH.below⟩
end TL
