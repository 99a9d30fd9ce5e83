import Derived.Test.YtbadiajeohbpcaaGTlP2
import Derived.Test.YtbadiajeohbpcaaGTlGmA
import Derived.Test.YtbadiajeohbpcaaProg
set_option linter.all false
set_option maxRecDepth 20000
namespace TL
open Go Go.Proofs
theorem gu : Try.prog.follows .mixedOrders = true := by kernel_rfl
theorem bu : Try.f103.body.isNone = false := rfl
theorem br : (Try.f103.name == "runtime.NumGoroutine") = false := by decide +kernel
set_option maxHeartbeats 2000000 in
theorem qc (w0 : World) (a : (Int) × (Int)) (b : (Int) × (Int)) (c : (Int) × (Int)) (d : (Int) × (Int)) :
    Calls Try.prog 94 #[vg [vi a.1, vi a.2], vg [vi b.1, vi b.2], vg [vi c.1, vi c.2], vg [vi d.1, vi d.2]] w0 (fun ee w => ee = .returned (vi (aX a b c d)) ∧ cQ w0.heap.size w0 w) := by
 refine aC Try.func94 rfl (Nat.le_of_ble_eq_true rfl) ?_
 have bH := bf.start w0
 refine a7 (a6 rfl (bY rfl (bA c0 (is 1) (1, 0) rfl rfl ?_)))
 intro g4 w1 b3 ch2 bx5
 replace bx5 : Bx g4 (is 1) w1 b3 [vi a.1, vi a.2] := bx5
 refine lo (bA g4 (is 2) (2, 0) rfl rfl ?_)
 intro g9 w6 b8 ch7 bx10
 replace bx10 : Bx g9 (is 2) w6 b8 [vi b.1, vi b.2] := bx10
 refine lo (bA g9 (is 3) (3, 0) rfl rfl ?_)
 intro g14 w11 b13 ch12 bx15
 replace bx15 : Bx g14 (is 3) w11 b13 [vi c.1, vi c.2] := bx15
 refine lo (bA g14 (is 4) (4, 0) rfl rfl ?_)
 intro g19 w16 b18 ch17 bx20
 replace bx20 : Bx g19 (is 4) w16 b18 [vi d.1, vi d.2] := bx20
 refine ai 0 (aa (a7 (a7 (a6 rfl ?_))))
 have C21 := cg [] (ch7.n.seq (ch12.n.seq ch17.n))
 replace bx5 := bx5.ca C21
 refine lx (ad (ds := [vi a.1, vi a.2]) ab rfl bx5 rfl rfl) ?_
 replace bx10 := (bx10.cn ch12).cn ch17
 refine lx (ad (ds := [vi b.1, vi b.2]) ab rfl bx10 rfl rfl) (lo (aF (v := vi (aM a b)) (aw (vals := [vg [vi a.1, vi a.2], vg [vi b.1, vi b.2]]) Try.func103 bu br rfl) (bt w16 a b) ?_))
 intro w22 hb23
 replace hb23 := ak hb23 g19
 refine lx (bQ (m := aM a b) (n := 0) rfl rfl) (aa ?_)
 by_cases p1 : 0 < (aM a b)
 ·
  refine ah rfl (dt p1) (a6 rfl ?_)
  replace bx10 := bx10.cn hb23
  refine lx (ad (ds := [vi b.1, vi b.2]) ab rfl bx10 rfl rfl) ?_
  replace bx5 := bx5.cn hb23
  refine lx (ad (ds := [vi a.1, vi a.2]) ab rfl bx5 rfl rfl) (lo (ag (cs' := [vi b.1, vi b.2]) ab rfl rfl bx5 rfl (Nat.le_of_ble_eq_true rfl) (AllOne.all (.cons rfl (.cons rfl .nil))) rfl ?_))
  intro w24 ch25 bx26
  clear bx5
  refine lo ?_
  replace bx10 := bx10.ce ch25
  refine ag (cs' := [vi a.1, vi a.2]) ab rfl rfl bx10 rfl (Nat.le_of_ble_eq_true rfl) (AllOne.all (.cons rfl (.cons rfl .nil))) rfl ?_
  intro w27 ch28 bx29
  clear bx10
  refine aa (a7 (a7 (a6 rfl ?_)))
  have C30 := cg [1, 2] (ch17.n.seq (hb23.n.seq ((ch25.l rfl).seq (ch28.l rfl))))
  replace bx15 := bx15.ca C30
  refine lx (ad (ds := [vi c.1, vi c.2]) ab rfl bx15 rfl rfl) ?_
  have C31 := cg [1, 2] (hb23.n.seq ((ch25.l rfl).seq (ch28.l rfl)))
  replace bx20 := bx20.ca C31
  refine lx (ad (ds := [vi d.1, vi d.2]) ab rfl bx20 rfl rfl) (lo (aF (v := vi (aM c d)) (aw (vals := [vg [vi c.1, vi c.2], vg [vi d.1, vi d.2]]) Try.func103 bu br rfl) (bt w27 c d) ?_))
  intro w32 hb33
  replace hb33 := ak hb33 g19
  refine lx (bQ (m := aM c d) (n := 0) rfl rfl) (aa ?_)
  by_cases p3 : 0 < (aM c d)
  ·
   refine ah rfl (dt p3) (a6 rfl ?_)
   replace bx20 := bx20.cn hb33
   refine lx (ad (ds := [vi d.1, vi d.2]) ab rfl bx20 rfl rfl) ?_
   replace bx15 := bx15.cn hb33
   refine lx (ad (ds := [vi c.1, vi c.2]) ab rfl bx15 rfl rfl) (lo (ag (cs' := [vi d.1, vi d.2]) ab rfl rfl bx15 rfl (Nat.le_of_ble_eq_true rfl) (AllOne.all (.cons rfl (.cons rfl .nil))) rfl ?_))
   intro w34 ch35 bx36
   clear bx15
   refine lo ?_
   replace bx20 := bx20.ce ch35
   refine ag (cs' := [vi c.1, vi c.2]) ab rfl rfl bx20 rfl (Nat.le_of_ble_eq_true rfl) (AllOne.all (.cons rfl (.cons rfl .nil))) rfl ?_
   intro w37 ch38 bx39
   clear bx20
   refine aa (a7 ?_)
   refine cR (σ := Nat × Nat × aP) (fun ⟨b46, b52, gq⟩ f w => bf w0 gq w ∧ f 6 = vp b13 0 ∧ f 7 = vp b18 0 ∧ f 9 = vp b46 0 ∧ f 10 = vp b52 0 ∧ Bx gq (is 3) w b13 [vi d.1, vi d.2] ∧ Bx gq (is 4) w b18 [vi c.1, vi c.2] ∧ Bx gq (is 5) w b46 [vi b.1, vi b.2] ∧ Bx gq (is 6) w b52 [vi a.1, vi a.2]) g19 (bR [5, 6]) gu ?_ ?_
   ·
    intro mid
    intro w41 ch40
    have C42 := cg [2, 3, 4] ((ch28.l rfl).seq (hb33.n.seq ((ch35.l rfl).seq ((ch38.l rfl).seq ch40.n))))
    replace bx26 := bx26.ca C42
    refine ht 0 rfl (aO.refl _ _ _) (fun w' hw' => ad (ds := [vi b.1, vi b.2]) ab rfl (bx26.chg hw' (bB rfl)) rfl rfl) ?_
    have C43 := cg [3, 4] (hb33.n.seq ((ch35.l rfl).seq ((ch38.l rfl).seq ch40.n)))
    replace bx29 := bx29.ca C43
    refine ht 1 rfl (aO.refl _ _ _) (fun w' hw' => ad (ds := [vi a.1, vi a.2]) ab rfl (bx29.chg hw' (bB rfl)) rfl rfl) ?_
    refine bx 2 [3] (by kernel_rfl) ⟨bl 2 rfl (by kernel_rfl) rfl ?_, bl 3 rfl (by kernel_rfl) rfl ?_, trivial⟩
    ·
     refine aQ g19 (is 5) (5, 0) rfl ab ?_
     intro g47 w44 b46 ch45 bx48
     replace bx48 : Bx g47 (is 5) w44 b46 [vi 0, vi 0] := bx48
     have hs49 : aO (bR [5, 6]) _ _ _ _ := ch45.n
     refine ⟨hs49.same, ?_⟩
     refine aB 3 rfl (by kernel_rfl) rfl (aQ g47 (is 6) (6, 0) rfl ab ?_)
     intro g53 w50 b52 ch51 bx54
     replace bx54 : Bx g53 (is 6) w50 b52 [vi 0, vi 0] := bx54
     have hs55 := hs49.seq (ch51.n)
     refine ⟨hs55.same, ?_⟩
     refine aB 4 rfl (by kernel_rfl) rfl ?_
     replace bx48 := bx48.cn ch51
     refine ag (cs' := [vi b.1, vi b.2]) ab rfl rfl bx48 rfl (Nat.le_of_ble_eq_true rfl) (AllOne.all (.cons rfl (.cons rfl .nil))) rfl ?_
     intro w56 ch57 bx58
     clear bx48
     have hs59 := hs55.seq (ch57.l rfl)
     refine ⟨hs59.same, ?_⟩
     refine aB 5 rfl (by kernel_rfl) rfl ?_
     replace bx54 := bx54.ce ch57
     refine ag (cs' := [vi a.1, vi a.2]) ab rfl rfl bx54 rfl (Nat.le_of_ble_eq_true rfl) (AllOne.all (.cons rfl (.cons rfl .nil))) rfl ?_
     intro w60 ch61 bx62
     clear bx54
     have hs63 := hs59.seq (ch61.l rfl)
     refine ⟨hs63.same, ?_⟩
     refine bm (by kernel_rfl) ?_
     have C64 := cg [1, 2, 3, 4, 5, 6] (ch2.n.seq (ch7.n.seq (ch12.n.seq (ch17.n.seq (hb23.n.seq ((ch25.l rfl).seq ((ch28.l rfl).seq (hb33.n.seq ((ch35.l rfl).seq ((ch38.l rfl).seq (ch40.n.seq (ch45.n.seq (ch51.n.seq ((ch57.l rfl).seq (ch61.l rfl)))))))))))))))
     replace bx36 := (bx36.ce ch38).cn ch40
     replace bx39 := bx39.cn ch40
     exact mid (b46, b52, g53) _ _ ⟨bH.ca C64, rfl, rfl, rfl, rfl, (bx36.ca hs63), (bx39.ca hs63), bx58.ce ch61, bx62⟩
    ·
     refine aQ g19 (is 6) (6, 0) rfl ab ?_
     intro g68 w65 b67 ch66 bx69
     replace bx69 : Bx g68 (is 6) w65 b67 [vi 0, vi 0] := bx69
     have hs70 : aO (bR [5, 6]) _ _ _ _ := ch66.n
     refine ⟨hs70.same, ?_⟩
     refine aB 2 rfl (by kernel_rfl) rfl (aQ g68 (is 5) (5, 0) rfl ab ?_)
     intro g74 w71 b73 ch72 bx75
     replace bx75 : Bx g74 (is 5) w71 b73 [vi 0, vi 0] := bx75
     have hs76 := hs70.seq (ch72.n)
     refine ⟨hs76.same, ?_⟩
     refine aB 4 rfl (by kernel_rfl) rfl (ag (cs' := [vi b.1, vi b.2]) ab rfl rfl bx75 rfl (Nat.le_of_ble_eq_true rfl) (AllOne.all (.cons rfl (.cons rfl .nil))) rfl ?_)
     intro w77 ch78 bx79
     clear bx75
     have hs80 := hs76.seq (ch78.l rfl)
     refine ⟨hs80.same, ?_⟩
     refine aB 5 rfl (by kernel_rfl) rfl ?_
     replace bx69 := (bx69.cn ch72).ce ch78
     refine ag (cs' := [vi a.1, vi a.2]) ab rfl rfl bx69 rfl (Nat.le_of_ble_eq_true rfl) (AllOne.all (.cons rfl (.cons rfl .nil))) rfl ?_
     intro w81 ch82 bx83
     clear bx69
     have hs84 := hs80.seq (ch82.l rfl)
     refine ⟨hs84.same, ?_⟩
     refine bm (by kernel_rfl) ?_
     have C85 := cg [1, 2, 3, 4, 5, 6] (ch2.n.seq (ch7.n.seq (ch12.n.seq (ch17.n.seq (hb23.n.seq ((ch25.l rfl).seq ((ch28.l rfl).seq (hb33.n.seq ((ch35.l rfl).seq ((ch38.l rfl).seq (ch40.n.seq (ch66.n.seq (ch72.n.seq ((ch78.l rfl).seq (ch82.l rfl)))))))))))))))
     replace bx36 := (bx36.ce ch38).cn ch40
     replace bx39 := bx39.cn ch40
     exact mid (b73, b67, g74) _ _ ⟨bH.ca C85, rfl, rfl, rfl, rfl, (bx36.ca hs84), (bx39.ca hs84), bx79.ce ch82, bx83⟩
   clear bx26 bx29 bx36 bx39 bH
   rintro ⟨b46, b52, g88⟩ f86 w87 ⟨bH, zs6, zs7, zs9, zs10, bx36, bx39, bx58, bx62⟩
   refine a7 (a7 (a6 rfl (lx (ad (ds := [vi d.1, vi d.2]) ab zs6 bx36 rfl rfl) (lx (ad (ds := [vi b.1, vi b.2]) ab zs9 bx58 rfl rfl) (lo (aF (v := vi (aM d b)) (aw (vals := [vg [vi d.1, vi d.2], vg [vi b.1, vi b.2]]) Try.func103 bu br rfl) (bt w87 d b) ?_))))))
   intro w89 hb90
   replace hb90 := ak hb90 g88
   refine lx (bQ (m := aM d b) (n := 0) rfl rfl) (aa ?_)
   by_cases p6 : 0 < (aM d b)
   ·
    refine ah rfl (dt p6) (a6 rfl ?_)
    replace bx36 := bx36.cn hb90
    refine lx (ad (ds := [vi d.1, vi d.2]) ab zs6 bx36 rfl rfl) (lo ?_)
    replace bx58 := bx58.cn hb90
    refine ag (cs' := [vi d.1, vi d.2]) ab zs9 rfl bx58 rfl (Nat.le_of_ble_eq_true rfl) (AllOne.all (.cons rfl (.cons rfl .nil))) rfl ?_
    intro w91 ch92 bx93
    clear bx58
    refine aa (a7 (a7 ?_))
    clear bx36
    refine a6 rfl ?_
    replace bx39 := (bx39.cn hb90).ce ch92
    refine lx (ad (ds := [vi c.1, vi c.2]) ab zs7 bx39 rfl rfl) ?_
    replace bx62 := (bx62.cn hb90).ce ch92
    refine lx (ad (ds := [vi a.1, vi a.2]) ab zs10 bx62 rfl rfl) (lo (aF (v := vi (aM c a)) (aw (vals := [vg [vi c.1, vi c.2], vg [vi a.1, vi a.2]]) Try.func103 bu br rfl) (bt w91 c a) ?_))
    intro w94 hb95
    replace hb95 := ak hb95 g88
    refine lx (b9 (m := aM c a) (n := 0) rfl rfl) (aa ?_)
    by_cases p8 : (aM c a) < 0
    ·
     refine ah rfl (dt p8) (a6 rfl ?_)
     replace bx39 := bx39.cn hb95
     refine lx (ad (ds := [vi c.1, vi c.2]) ab zs7 bx39 rfl rfl) (lo ?_)
     replace bx62 := bx62.cn hb95
     refine ag (cs' := [vi c.1, vi c.2]) ab zs10 rfl bx62 rfl (Nat.le_of_ble_eq_true rfl) (AllOne.all (.cons rfl (.cons rfl .nil))) rfl ?_
     intro w96 ch97 bx98
     clear bx62
     refine aa (a7 (a7 ?_))
     clear bx39
     refine a6 rfl ?_
     replace bx93 := (bx93.cn hb95).ce ch97
     refine lx (ad (ds := [vi d.1, vi d.2]) ab zs9 bx93 rfl rfl) (lx (ad (ds := [vi c.1, vi c.2]) ab zs10 bx98 rfl rfl) (lo (aF (v := vi (aM d c)) (aw (vals := [vg [vi d.1, vi d.2], vg [vi c.1, vi c.2]]) Try.func103 bu br rfl) (bt w96 d c) ?_)))
     intro w99 hb100
     replace hb100 := ak hb100 g88
     refine ai (aM d c) (aa (av (a7 ?_)))
     clear bx93 bx98
     refine a6 rfl (mi (aM d c) (lx (bQ (m := aM d c) (n := 0) rfl rfl) (ma (Value.bool (decide (0 < (aM d c)))) (aa ?_))))
     by_cases p11 : 0 < (aM d c)
     ·
      refine ah rfl (dt p11) (a7 (a6 rfl (ai 0 (aa (al (vs := [vi 0]) Try.func94 (.tmp rfl .nil) ?_)))))
      have e0 : (0 : Int) = (aX a b c d) := by
        simp only [aX, *, if_true, if_false, Int.lt_irrefl]
      have C101 := cg [5, 6] (hb90.n.seq ((ch92.l rfl).seq (hb95.n.seq ((ch97.l rfl).seq hb100.n))))
      replace bH := bH.ca C101
      exact ⟨(congrArg (a₁ := 0) (fun (z0 : Int) => Ending.returned (vi z0)) e0), bH.below⟩
     refine aj rfl (df p11) (a7 (a6 rfl (mi (aM d c) (lx (bO (m := aM d c) (n := 0) rfl rfl) (ma (Value.bool (decide ((aM d c) = 0))) (aa ?_))))))
     by_cases p13 : (aM d c) = 0
     ·
      refine ah rfl (dt p13) (a7 (a6 rfl (ai 2 (aa (al (vs := [vi 2]) Try.func94 (.tmp rfl .nil) ?_)))))
      have e0 : (2 : Int) = (aX a b c d) := by
        simp only [aX, *, if_true, if_false, Int.lt_irrefl]
      have C102 := cg [5, 6] (hb90.n.seq ((ch92.l rfl).seq (hb95.n.seq ((ch97.l rfl).seq hb100.n))))
      replace bH := bH.ca C102
      exact ⟨(congrArg (a₁ := 2) (fun (z0 : Int) => Ending.returned (vi z0)) e0), bH.below⟩
     refine aj rfl (df p13) (am (ao (a7 (a6 rfl (ai 3 (aa (al (vs := [vi 3]) Try.func94 (.tmp rfl .nil) ?_)))))))
     have e0 : (3 : Int) = (aX a b c d) := by
       simp only [aX, *, if_true, if_false, Int.lt_irrefl]
     have C103 := cg [5, 6] (hb90.n.seq ((ch92.l rfl).seq (hb95.n.seq ((ch97.l rfl).seq hb100.n))))
     replace bH := bH.ca C103
     exact ⟨(congrArg (a₁ := 3) (fun (z0 : Int) => Ending.returned (vi z0)) e0), bH.below⟩
    refine aj rfl (df p8) (am (a7 (a7 ?_)))
    clear bx39
    refine a6 rfl ?_
    replace bx93 := bx93.cn hb95
    refine lx (ad (ds := [vi d.1, vi d.2]) ab zs9 bx93 rfl rfl) ?_
    replace bx62 := bx62.cn hb95
    refine lx (ad (ds := [vi a.1, vi a.2]) ab zs10 bx62 rfl rfl) (lo (aF (v := vi (aM d a)) (aw (vals := [vg [vi d.1, vi d.2], vg [vi a.1, vi a.2]]) Try.func103 bu br rfl) (bt w94 d a) ?_))
    intro w104 hb105
    replace hb105 := ak hb105 g88
    refine ai (aM d a) (aa (av (a7 ?_)))
    clear bx62 bx93
    refine a6 rfl (mi (aM d a) (lx (bQ (m := aM d a) (n := 0) rfl rfl) (ma (Value.bool (decide (0 < (aM d a)))) (aa ?_))))
    by_cases p11 : 0 < (aM d a)
    ·
     refine ah rfl (dt p11) (a7 (a6 rfl (ai 0 (aa (al (vs := [vi 0]) Try.func94 (.tmp rfl .nil) ?_)))))
     have e0 : (0 : Int) = (aX a b c d) := by
       simp only [aX, *, if_true, if_false, Int.lt_irrefl]
     have C106 := cg [5] (hb90.n.seq ((ch92.l rfl).seq (hb95.n.seq hb105.n)))
     replace bH := bH.ca C106
     exact ⟨(congrArg (a₁ := 0) (fun (z0 : Int) => Ending.returned (vi z0)) e0), bH.below⟩
    refine aj rfl (df p11) (a7 (a6 rfl (mi (aM d a) (lx (bO (m := aM d a) (n := 0) rfl rfl) (ma (Value.bool (decide ((aM d a) = 0))) (aa ?_))))))
    by_cases p13 : (aM d a) = 0
    ·
     refine ah rfl (dt p13) (a7 (a6 rfl (ai 2 (aa (al (vs := [vi 2]) Try.func94 (.tmp rfl .nil) ?_)))))
     have e0 : (2 : Int) = (aX a b c d) := by
       simp only [aX, *, if_true, if_false, Int.lt_irrefl]
     have C107 := cg [5] (hb90.n.seq ((ch92.l rfl).seq (hb95.n.seq hb105.n)))
     replace bH := bH.ca C107
     exact ⟨(congrArg (a₁ := 2) (fun (z0 : Int) => Ending.returned (vi z0)) e0), bH.below⟩
    refine aj rfl (df p13) (am (ao (a7 (a6 rfl (ai 3 (aa (al (vs := [vi 3]) Try.func94 (.tmp rfl .nil) ?_)))))))
    have e0 : (3 : Int) = (aX a b c d) := by
      simp only [aX, *, if_true, if_false, Int.lt_irrefl]
    have C108 := cg [5] (hb90.n.seq ((ch92.l rfl).seq (hb95.n.seq hb105.n)))
    replace bH := bH.ca C108
    exact ⟨(congrArg (a₁ := 3) (fun (z0 : Int) => Ending.returned (vi z0)) e0), bH.below⟩
   refine aj rfl (df p6) (am (a7 (a7 ?_)))
   clear bx36
   refine a6 rfl ?_
   replace bx39 := bx39.cn hb90
   refine lx (ad (ds := [vi c.1, vi c.2]) ab zs7 bx39 rfl rfl) ?_
   replace bx62 := bx62.cn hb90
   refine lx (ad (ds := [vi a.1, vi a.2]) ab zs10 bx62 rfl rfl) (lo (aF (v := vi (aM c a)) (aw (vals := [vg [vi c.1, vi c.2], vg [vi a.1, vi a.2]]) Try.func103 bu br rfl) (bt w89 c a) ?_))
   intro w109 hb110
   replace hb110 := ak hb110 g88
   refine lx (b9 (m := aM c a) (n := 0) rfl rfl) (aa ?_)
   by_cases p8 : (aM c a) < 0
   ·
    refine ah rfl (dt p8) (a6 rfl ?_)
    replace bx39 := bx39.cn hb110
    refine lx (ad (ds := [vi c.1, vi c.2]) ab zs7 bx39 rfl rfl) (lo ?_)
    replace bx62 := bx62.cn hb110
    refine ag (cs' := [vi c.1, vi c.2]) ab zs10 rfl bx62 rfl (Nat.le_of_ble_eq_true rfl) (AllOne.all (.cons rfl (.cons rfl .nil))) rfl ?_
    intro w111 ch112 bx113
    clear bx62
    refine aa (a7 (a7 ?_))
    clear bx39
    refine a6 rfl ?_
    have C114 := cg [6] (hb90.n.seq (hb110.n.seq (ch112.l rfl)))
    replace bx58 := bx58.ca C114
    refine lx (ad (ds := [vi b.1, vi b.2]) ab zs9 bx58 rfl rfl) (lx (ad (ds := [vi c.1, vi c.2]) ab zs10 bx113 rfl rfl) (lo (aF (v := vi (aM b c)) (aw (vals := [vg [vi b.1, vi b.2], vg [vi c.1, vi c.2]]) Try.func103 bu br rfl) (bt w111 b c) ?_)))
    intro w115 hb116
    replace hb116 := ak hb116 g88
    refine ai (aM b c) (aa (av (a7 ?_)))
    clear bx58 bx113
    refine a6 rfl (mi (aM b c) (lx (bQ (m := aM b c) (n := 0) rfl rfl) (ma (Value.bool (decide (0 < (aM b c)))) (aa ?_))))
    by_cases p11 : 0 < (aM b c)
    ·
     refine ah rfl (dt p11) (a7 (a6 rfl (ai 0 (aa (al (vs := [vi 0]) Try.func94 (.tmp rfl .nil) ?_)))))
     have e0 : (0 : Int) = (aX a b c d) := by
       simp only [aX, *, if_true, if_false, Int.lt_irrefl]
     have C117 := cg [6] (hb90.n.seq (hb110.n.seq ((ch112.l rfl).seq hb116.n)))
     replace bH := bH.ca C117
     exact ⟨(congrArg (a₁ := 0) (fun (z0 : Int) => Ending.returned (vi z0)) e0), bH.below⟩
    refine aj rfl (df p11) (a7 (a6 rfl (mi (aM b c) (lx (bO (m := aM b c) (n := 0) rfl rfl) (ma (Value.bool (decide ((aM b c) = 0))) (aa ?_))))))
    by_cases p13 : (aM b c) = 0
    ·
     refine ah rfl (dt p13) (a7 (a6 rfl (ai 2 (aa (al (vs := [vi 2]) Try.func94 (.tmp rfl .nil) ?_)))))
     have e0 : (2 : Int) = (aX a b c d) := by
       simp only [aX, *, if_true, if_false, Int.lt_irrefl]
     have C118 := cg [6] (hb90.n.seq (hb110.n.seq ((ch112.l rfl).seq hb116.n)))
     replace bH := bH.ca C118
     exact ⟨(congrArg (a₁ := 2) (fun (z0 : Int) => Ending.returned (vi z0)) e0), bH.below⟩
    refine aj rfl (df p13) (am (ao (a7 (a6 rfl (ai 3 (aa (al (vs := [vi 3]) Try.func94 (.tmp rfl .nil) ?_)))))))
    have e0 : (3 : Int) = (aX a b c d) := by
      simp only [aX, *, if_true, if_false, Int.lt_irrefl]
    have C119 := cg [6] (hb90.n.seq (hb110.n.seq ((ch112.l rfl).seq hb116.n)))
    replace bH := bH.ca C119
    exact ⟨(congrArg (a₁ := 3) (fun (z0 : Int) => Ending.returned (vi z0)) e0), bH.below⟩
   refine aj rfl (df p8) (am (a7 (a7 ?_)))
   clear bx39
   refine a6 rfl ?_
   replace bx58 := (bx58.cn hb90).cn hb110
   refine lx (ad (ds := [vi b.1, vi b.2]) ab zs9 bx58 rfl rfl) ?_
   replace bx62 := bx62.cn hb110
   refine lx (ad (ds := [vi a.1, vi a.2]) ab zs10 bx62 rfl rfl) (lo (aF (v := vi (aM b a)) (aw (vals := [vg [vi b.1, vi b.2], vg [vi a.1, vi a.2]]) Try.func103 bu br rfl) (bt w109 b a) ?_))
   intro w120 hb121
   replace hb121 := ak hb121 g88
   refine ai (aM b a) (aa (av (a7 ?_)))
   clear bx58 bx62
   refine a6 rfl (mi (aM b a) (lx (bQ (m := aM b a) (n := 0) rfl rfl) (ma (Value.bool (decide (0 < (aM b a)))) (aa ?_))))
   by_cases p11 : 0 < (aM b a)
   ·
    refine ah rfl (dt p11) (a7 (a6 rfl (ai 0 (aa (al (vs := [vi 0]) Try.func94 (.tmp rfl .nil) ?_)))))
    have e0 : (0 : Int) = (aX a b c d) := by
      simp only [aX, *, if_true, if_false, Int.lt_irrefl]
    have C122 := cg [] (hb90.n.seq (hb110.n.seq hb121.n))
    replace bH := bH.ca C122
    exact ⟨(congrArg (a₁ := 0) (fun (z0 : Int) => Ending.returned (vi z0)) e0), bH.below⟩
   refine aj rfl (df p11) (a7 (a6 rfl (mi (aM b a) (lx (bO (m := aM b a) (n := 0) rfl rfl) (ma (Value.bool (decide ((aM b a) = 0))) (aa ?_))))))
   by_cases p13 : (aM b a) = 0
   ·
    refine ah rfl (dt p13) (a7 (a6 rfl (ai 2 (aa (al (vs := [vi 2]) Try.func94 (.tmp rfl .nil) ?_)))))
    have e0 : (2 : Int) = (aX a b c d) := by
      simp only [aX, *, if_true, if_false, Int.lt_irrefl]
    have C123 := cg [] (hb90.n.seq (hb110.n.seq hb121.n))
    replace bH := bH.ca C123
    exact ⟨(congrArg (a₁ := 2) (fun (z0 : Int) => Ending.returned (vi z0)) e0), bH.below⟩
   refine aj rfl (df p13) (am (ao (a7 (a6 rfl (ai 3 (aa (al (vs := [vi 3]) Try.func94 (.tmp rfl .nil) ?_)))))))
   have e0 : (3 : Int) = (aX a b c d) := by
     simp only [aX, *, if_true, if_false, Int.lt_irrefl]
   have C124 := cg [] (hb90.n.seq (hb110.n.seq hb121.n))
   replace bH := bH.ca C124
   exact ⟨(congrArg (a₁ := 3) (fun (z0 : Int) => Ending.returned (vi z0)) e0), bH.below⟩
  refine aj rfl (df p3) (am (a7 ?_))
  refine cR (σ := Nat × Nat × aP) (fun ⟨b130, b136, gq⟩ f w => bf w0 gq w ∧ f 6 = vp b13 0 ∧ f 7 = vp b18 0 ∧ f 9 = vp b130 0 ∧ f 10 = vp b136 0 ∧ Bx gq (is 3) w b13 [vi c.1, vi c.2] ∧ Bx gq (is 4) w b18 [vi d.1, vi d.2] ∧ Bx gq (is 5) w b130 [vi b.1, vi b.2] ∧ Bx gq (is 6) w b136 [vi a.1, vi a.2]) g19 (bR [5, 6]) gu ?_ ?_
  ·
   intro mid
   intro w126 ch125
   have C127 := cg [2] ((ch28.l rfl).seq (hb33.n.seq ch125.n))
   replace bx26 := bx26.ca C127
   refine ht 0 rfl (aO.refl _ _ _) (fun w' hw' => ad (ds := [vi b.1, vi b.2]) ab rfl (bx26.chg hw' (bB rfl)) rfl rfl) ?_
   replace bx29 := (bx29.cn hb33).cn ch125
   refine ht 1 rfl (aO.refl _ _ _) (fun w' hw' => ad (ds := [vi a.1, vi a.2]) ab rfl (bx29.chg hw' (bB rfl)) rfl rfl) ?_
   refine bx 2 [3] (by kernel_rfl) ⟨bl 2 rfl (by kernel_rfl) rfl ?_, bl 3 rfl (by kernel_rfl) rfl ?_, trivial⟩
   ·
    refine aQ g19 (is 5) (5, 0) rfl ab ?_
    intro g131 w128 b130 ch129 bx132
    replace bx132 : Bx g131 (is 5) w128 b130 [vi 0, vi 0] := bx132
    have hs133 : aO (bR [5, 6]) _ _ _ _ := ch129.n
    refine ⟨hs133.same, ?_⟩
    refine aB 3 rfl (by kernel_rfl) rfl (aQ g131 (is 6) (6, 0) rfl ab ?_)
    intro g137 w134 b136 ch135 bx138
    replace bx138 : Bx g137 (is 6) w134 b136 [vi 0, vi 0] := bx138
    have hs139 := hs133.seq (ch135.n)
    refine ⟨hs139.same, ?_⟩
    refine aB 4 rfl (by kernel_rfl) rfl ?_
    replace bx132 := bx132.cn ch135
    refine ag (cs' := [vi b.1, vi b.2]) ab rfl rfl bx132 rfl (Nat.le_of_ble_eq_true rfl) (AllOne.all (.cons rfl (.cons rfl .nil))) rfl ?_
    intro w140 ch141 bx142
    clear bx132
    have hs143 := hs139.seq (ch141.l rfl)
    refine ⟨hs143.same, ?_⟩
    refine aB 5 rfl (by kernel_rfl) rfl ?_
    replace bx138 := bx138.ce ch141
    refine ag (cs' := [vi a.1, vi a.2]) ab rfl rfl bx138 rfl (Nat.le_of_ble_eq_true rfl) (AllOne.all (.cons rfl (.cons rfl .nil))) rfl ?_
    intro w144 ch145 bx146
    clear bx138
    have hs147 := hs143.seq (ch145.l rfl)
    refine ⟨hs147.same, ?_⟩
    refine bm (by kernel_rfl) ?_
    have C148 := cg [1, 2, 5, 6] (ch2.n.seq (ch7.n.seq (ch12.n.seq (ch17.n.seq (hb23.n.seq ((ch25.l rfl).seq ((ch28.l rfl).seq (hb33.n.seq (ch125.n.seq (ch129.n.seq (ch135.n.seq ((ch141.l rfl).seq (ch145.l rfl)))))))))))))
    replace bx15 := (bx15.cn hb33).cn ch125
    replace bx20 := (bx20.cn hb33).cn ch125
    exact mid (b130, b136, g137) _ _ ⟨bH.ca C148, rfl, rfl, rfl, rfl, (bx15.ca hs147), (bx20.ca hs147), bx142.ce ch145, bx146⟩
   ·
    refine aQ g19 (is 6) (6, 0) rfl ab ?_
    intro g152 w149 b151 ch150 bx153
    replace bx153 : Bx g152 (is 6) w149 b151 [vi 0, vi 0] := bx153
    have hs154 : aO (bR [5, 6]) _ _ _ _ := ch150.n
    refine ⟨hs154.same, ?_⟩
    refine aB 2 rfl (by kernel_rfl) rfl (aQ g152 (is 5) (5, 0) rfl ab ?_)
    intro g158 w155 b157 ch156 bx159
    replace bx159 : Bx g158 (is 5) w155 b157 [vi 0, vi 0] := bx159
    have hs160 := hs154.seq (ch156.n)
    refine ⟨hs160.same, ?_⟩
    refine aB 4 rfl (by kernel_rfl) rfl (ag (cs' := [vi b.1, vi b.2]) ab rfl rfl bx159 rfl (Nat.le_of_ble_eq_true rfl) (AllOne.all (.cons rfl (.cons rfl .nil))) rfl ?_)
    intro w161 ch162 bx163
    clear bx159
    have hs164 := hs160.seq (ch162.l rfl)
    refine ⟨hs164.same, ?_⟩
    refine aB 5 rfl (by kernel_rfl) rfl ?_
    replace bx153 := (bx153.cn ch156).ce ch162
    refine ag (cs' := [vi a.1, vi a.2]) ab rfl rfl bx153 rfl (Nat.le_of_ble_eq_true rfl) (AllOne.all (.cons rfl (.cons rfl .nil))) rfl ?_
    intro w165 ch166 bx167
    clear bx153
    have hs168 := hs164.seq (ch166.l rfl)
    refine ⟨hs168.same, ?_⟩
    refine bm (by kernel_rfl) ?_
    have C169 := cg [1, 2, 5, 6] (ch2.n.seq (ch7.n.seq (ch12.n.seq (ch17.n.seq (hb23.n.seq ((ch25.l rfl).seq ((ch28.l rfl).seq (hb33.n.seq (ch125.n.seq (ch150.n.seq (ch156.n.seq ((ch162.l rfl).seq (ch166.l rfl)))))))))))))
    replace bx15 := (bx15.cn hb33).cn ch125
    replace bx20 := (bx20.cn hb33).cn ch125
    exact mid (b157, b151, g158) _ _ ⟨bH.ca C169, rfl, rfl, rfl, rfl, (bx15.ca hs168), (bx20.ca hs168), bx163.ce ch166, bx167⟩
  clear bx15 bx20 bx26 bx29 bH
  rintro ⟨b130, b136, g172⟩ f170 w171 ⟨bH, zs6, zs7, zs9, zs10, bx15, bx20, bx142, bx146⟩
  refine a7 (a7 (a6 rfl (lx (ad (ds := [vi c.1, vi c.2]) ab zs6 bx15 rfl rfl) (lx (ad (ds := [vi b.1, vi b.2]) ab zs9 bx142 rfl rfl) (lo (aF (v := vi (aM c b)) (aw (vals := [vg [vi c.1, vi c.2], vg [vi b.1, vi b.2]]) Try.func103 bu br rfl) (bt w171 c b) ?_))))))
  intro w173 hb174
  replace hb174 := ak hb174 g172
  refine lx (bQ (m := aM c b) (n := 0) rfl rfl) (aa ?_)
  by_cases p6 : 0 < (aM c b)
  ·
   refine ah rfl (dt p6) (a6 rfl ?_)
   replace bx15 := bx15.cn hb174
   refine lx (ad (ds := [vi c.1, vi c.2]) ab zs6 bx15 rfl rfl) (lo ?_)
   replace bx142 := bx142.cn hb174
   refine ag (cs' := [vi c.1, vi c.2]) ab zs9 rfl bx142 rfl (Nat.le_of_ble_eq_true rfl) (AllOne.all (.cons rfl (.cons rfl .nil))) rfl ?_
   intro w175 ch176 bx177
   clear bx142
   refine aa (a7 (a7 ?_))
   clear bx15
   refine a6 rfl ?_
   replace bx20 := (bx20.cn hb174).ce ch176
   refine lx (ad (ds := [vi d.1, vi d.2]) ab zs7 bx20 rfl rfl) ?_
   replace bx146 := (bx146.cn hb174).ce ch176
   refine lx (ad (ds := [vi a.1, vi a.2]) ab zs10 bx146 rfl rfl) (lo (aF (v := vi (aM d a)) (aw (vals := [vg [vi d.1, vi d.2], vg [vi a.1, vi a.2]]) Try.func103 bu br rfl) (bt w175 d a) ?_))
   intro w178 hb179
   replace hb179 := ak hb179 g172
   refine lx (b9 (m := aM d a) (n := 0) rfl rfl) (aa ?_)
   by_cases p8 : (aM d a) < 0
   ·
    refine ah rfl (dt p8) (a6 rfl ?_)
    replace bx20 := bx20.cn hb179
    refine lx (ad (ds := [vi d.1, vi d.2]) ab zs7 bx20 rfl rfl) (lo ?_)
    replace bx146 := bx146.cn hb179
    refine ag (cs' := [vi d.1, vi d.2]) ab zs10 rfl bx146 rfl (Nat.le_of_ble_eq_true rfl) (AllOne.all (.cons rfl (.cons rfl .nil))) rfl ?_
    intro w180 ch181 bx182
    clear bx146
    refine aa (a7 (a7 ?_))
    clear bx20
    refine a6 rfl ?_
    replace bx177 := (bx177.cn hb179).ce ch181
    refine lx (ad (ds := [vi c.1, vi c.2]) ab zs9 bx177 rfl rfl) (lx (ad (ds := [vi d.1, vi d.2]) ab zs10 bx182 rfl rfl) (lo (aF (v := vi (aM c d)) (aw (vals := [vg [vi c.1, vi c.2], vg [vi d.1, vi d.2]]) Try.func103 bu br rfl) (bt w180 c d) ?_)))
    intro w183 hb184
    replace hb184 := ak hb184 g172
    refine ai (aM c d) (aa (av (a7 ?_)))
    clear bx177 bx182
    refine a6 rfl (mi (aM c d) (lx (bQ (m := aM c d) (n := 0) rfl rfl) (ma (Value.bool (decide (0 < (aM c d)))) (aa (aj rfl (df p3) (a7 (a6 rfl (mi (aM c d) (lx (bO (m := aM c d) (n := 0) rfl rfl) (ma (Value.bool (decide ((aM c d) = 0))) ?_))))))))))
    refine aa ?_
    by_cases p13 : (aM c d) = 0
    ·
     refine ah rfl (dt p13) (a7 (a6 rfl (ai 2 (aa (al (vs := [vi 2]) Try.func94 (.tmp rfl .nil) ?_)))))
     have e0 : (2 : Int) = (aX a b c d) := by
       simp only [aX, *, if_true, if_false, Int.lt_irrefl]
     have C185 := cg [5, 6] (hb174.n.seq ((ch176.l rfl).seq (hb179.n.seq ((ch181.l rfl).seq hb184.n))))
     replace bH := bH.ca C185
     exact ⟨(congrArg (a₁ := 2) (fun (z0 : Int) => Ending.returned (vi z0)) e0), bH.below⟩
    refine aj rfl (df p13) (am (ao (a7 (a6 rfl (ai 3 (aa (al (vs := [vi 3]) Try.func94 (.tmp rfl .nil) ?_)))))))
    have e0 : (3 : Int) = (aX a b c d) := by
      simp only [aX, *, if_true, if_false, Int.lt_irrefl]
    have C186 := cg [5, 6] (hb174.n.seq ((ch176.l rfl).seq (hb179.n.seq ((ch181.l rfl).seq hb184.n))))
    replace bH := bH.ca C186
    exact ⟨(congrArg (a₁ := 3) (fun (z0 : Int) => Ending.returned (vi z0)) e0), bH.below⟩
   refine aj rfl (df p8) (am (a7 (a7 ?_)))
   clear bx20
   refine a6 rfl ?_
   replace bx177 := bx177.cn hb179
   refine lx (ad (ds := [vi c.1, vi c.2]) ab zs9 bx177 rfl rfl) ?_
   replace bx146 := bx146.cn hb179
   refine lx (ad (ds := [vi a.1, vi a.2]) ab zs10 bx146 rfl rfl) (lo (aF (v := vi (aM c a)) (aw (vals := [vg [vi c.1, vi c.2], vg [vi a.1, vi a.2]]) Try.func103 bu br rfl) (bt w178 c a) ?_))
   intro w187 hb188
   replace hb188 := ak hb188 g172
   refine ai (aM c a) (aa (av (a7 ?_)))
   clear bx146 bx177
   refine a6 rfl (mi (aM c a) (lx (bQ (m := aM c a) (n := 0) rfl rfl) (ma (Value.bool (decide (0 < (aM c a)))) (aa ?_))))
   by_cases p11 : 0 < (aM c a)
   ·
    refine ah rfl (dt p11) (a7 (a6 rfl (ai 0 (aa (al (vs := [vi 0]) Try.func94 (.tmp rfl .nil) ?_)))))
    have e0 : (0 : Int) = (aX a b c d) := by
      simp only [aX, *, if_true, if_false, Int.lt_irrefl]
    have C189 := cg [5] (hb174.n.seq ((ch176.l rfl).seq (hb179.n.seq hb188.n)))
    replace bH := bH.ca C189
    exact ⟨(congrArg (a₁ := 0) (fun (z0 : Int) => Ending.returned (vi z0)) e0), bH.below⟩
   refine aj rfl (df p11) (a7 (a6 rfl (mi (aM c a) (lx (bO (m := aM c a) (n := 0) rfl rfl) (ma (Value.bool (decide ((aM c a) = 0))) (aa ?_))))))
   by_cases p13 : (aM c a) = 0
   ·
    refine ah rfl (dt p13) (a7 (a6 rfl (ai 2 (aa (al (vs := [vi 2]) Try.func94 (.tmp rfl .nil) ?_)))))
    have e0 : (2 : Int) = (aX a b c d) := by
      simp only [aX, *, if_true, if_false, Int.lt_irrefl]
    have C190 := cg [5] (hb174.n.seq ((ch176.l rfl).seq (hb179.n.seq hb188.n)))
    replace bH := bH.ca C190
    exact ⟨(congrArg (a₁ := 2) (fun (z0 : Int) => Ending.returned (vi z0)) e0), bH.below⟩
   refine aj rfl (df p13) (am (ao (a7 (a6 rfl (ai 3 (aa (al (vs := [vi 3]) Try.func94 (.tmp rfl .nil) ?_)))))))
   have e0 : (3 : Int) = (aX a b c d) := by
     simp only [aX, *, if_true, if_false, Int.lt_irrefl]
   have C191 := cg [5] (hb174.n.seq ((ch176.l rfl).seq (hb179.n.seq hb188.n)))
   replace bH := bH.ca C191
   exact ⟨(congrArg (a₁ := 3) (fun (z0 : Int) => Ending.returned (vi z0)) e0), bH.below⟩
  refine aj rfl (df p6) (am (a7 (a7 ?_)))
  clear bx15
  refine a6 rfl ?_
  replace bx20 := bx20.cn hb174
  refine lx (ad (ds := [vi d.1, vi d.2]) ab zs7 bx20 rfl rfl) ?_
  replace bx146 := bx146.cn hb174
  refine lx (ad (ds := [vi a.1, vi a.2]) ab zs10 bx146 rfl rfl) (lo (aF (v := vi (aM d a)) (aw (vals := [vg [vi d.1, vi d.2], vg [vi a.1, vi a.2]]) Try.func103 bu br rfl) (bt w173 d a) ?_))
  intro w192 hb193
  replace hb193 := ak hb193 g172
  refine lx (b9 (m := aM d a) (n := 0) rfl rfl) (aa ?_)
  by_cases p8 : (aM d a) < 0
  ·
   refine ah rfl (dt p8) (a6 rfl ?_)
   replace bx20 := bx20.cn hb193
   refine lx (ad (ds := [vi d.1, vi d.2]) ab zs7 bx20 rfl rfl) (lo ?_)
   replace bx146 := bx146.cn hb193
   refine ag (cs' := [vi d.1, vi d.2]) ab zs10 rfl bx146 rfl (Nat.le_of_ble_eq_true rfl) (AllOne.all (.cons rfl (.cons rfl .nil))) rfl ?_
   intro w194 ch195 bx196
   clear bx146
   refine aa (a7 (a7 ?_))
   clear bx20
   refine a6 rfl ?_
   have C197 := cg [6] (hb174.n.seq (hb193.n.seq (ch195.l rfl)))
   replace bx142 := bx142.ca C197
   refine lx (ad (ds := [vi b.1, vi b.2]) ab zs9 bx142 rfl rfl) (lx (ad (ds := [vi d.1, vi d.2]) ab zs10 bx196 rfl rfl) (lo (aF (v := vi (aM b d)) (aw (vals := [vg [vi b.1, vi b.2], vg [vi d.1, vi d.2]]) Try.func103 bu br rfl) (bt w194 b d) ?_)))
   intro w198 hb199
   replace hb199 := ak hb199 g172
   refine ai (aM b d) (aa (av (a7 ?_)))
   clear bx142 bx196
   refine a6 rfl (mi (aM b d) (lx (bQ (m := aM b d) (n := 0) rfl rfl) (ma (Value.bool (decide (0 < (aM b d)))) (aa ?_))))
   by_cases p11 : 0 < (aM b d)
   ·
    refine ah rfl (dt p11) (a7 (a6 rfl (ai 0 (aa (al (vs := [vi 0]) Try.func94 (.tmp rfl .nil) ?_)))))
    have e0 : (0 : Int) = (aX a b c d) := by
      simp only [aX, *, if_true, if_false, Int.lt_irrefl]
    have C200 := cg [6] (hb174.n.seq (hb193.n.seq ((ch195.l rfl).seq hb199.n)))
    replace bH := bH.ca C200
    exact ⟨(congrArg (a₁ := 0) (fun (z0 : Int) => Ending.returned (vi z0)) e0), bH.below⟩
   refine aj rfl (df p11) (a7 (a6 rfl (mi (aM b d) (lx (bO (m := aM b d) (n := 0) rfl rfl) (ma (Value.bool (decide ((aM b d) = 0))) (aa ?_))))))
   by_cases p13 : (aM b d) = 0
   ·
    refine ah rfl (dt p13) (a7 (a6 rfl (ai 2 (aa (al (vs := [vi 2]) Try.func94 (.tmp rfl .nil) ?_)))))
    have e0 : (2 : Int) = (aX a b c d) := by
      simp only [aX, *, if_true, if_false, Int.lt_irrefl]
    have C201 := cg [6] (hb174.n.seq (hb193.n.seq ((ch195.l rfl).seq hb199.n)))
    replace bH := bH.ca C201
    exact ⟨(congrArg (a₁ := 2) (fun (z0 : Int) => Ending.returned (vi z0)) e0), bH.below⟩
   refine aj rfl (df p13) (am (ao (a7 (a6 rfl (ai 3 (aa (al (vs := [vi 3]) Try.func94 (.tmp rfl .nil) ?_)))))))
   have e0 : (3 : Int) = (aX a b c d) := by
     simp only [aX, *, if_true, if_false, Int.lt_irrefl]
   have C202 := cg [6] (hb174.n.seq (hb193.n.seq ((ch195.l rfl).seq hb199.n)))
   replace bH := bH.ca C202
   exact ⟨(congrArg (a₁ := 3) (fun (z0 : Int) => Ending.returned (vi z0)) e0), bH.below⟩
  refine aj rfl (df p8) (am (a7 (a7 ?_)))
  clear bx20
  refine a6 rfl ?_
  replace bx142 := (bx142.cn hb174).cn hb193
  refine lx (ad (ds := [vi b.1, vi b.2]) ab zs9 bx142 rfl rfl) ?_
  replace bx146 := bx146.cn hb193
  refine lx (ad (ds := [vi a.1, vi a.2]) ab zs10 bx146 rfl rfl) (lo (aF (v := vi (aM b a)) (aw (vals := [vg [vi b.1, vi b.2], vg [vi a.1, vi a.2]]) Try.func103 bu br rfl) (bt w192 b a) ?_))
  intro w203 hb204
  replace hb204 := ak hb204 g172
  refine ai (aM b a) (aa (av (a7 ?_)))
  clear bx142 bx146
  refine a6 rfl (mi (aM b a) (lx (bQ (m := aM b a) (n := 0) rfl rfl) (ma (Value.bool (decide (0 < (aM b a)))) (aa ?_))))
  by_cases p11 : 0 < (aM b a)
  ·
   refine ah rfl (dt p11) (a7 (a6 rfl (ai 0 (aa (al (vs := [vi 0]) Try.func94 (.tmp rfl .nil) ?_)))))
   have e0 : (0 : Int) = (aX a b c d) := by
     simp only [aX, *, if_true, if_false, Int.lt_irrefl]
   have C205 := cg [] (hb174.n.seq (hb193.n.seq hb204.n))
   replace bH := bH.ca C205
   exact ⟨(congrArg (a₁ := 0) (fun (z0 : Int) => Ending.returned (vi z0)) e0), bH.below⟩
  refine aj rfl (df p11) (a7 (a6 rfl (mi (aM b a) (lx (bO (m := aM b a) (n := 0) rfl rfl) (ma (Value.bool (decide ((aM b a) = 0))) (aa ?_))))))
  by_cases p13 : (aM b a) = 0
  ·
   refine ah rfl (dt p13) (a7 (a6 rfl (ai 2 (aa (al (vs := [vi 2]) Try.func94 (.tmp rfl .nil) ?_)))))
   have e0 : (2 : Int) = (aX a b c d) := by
     simp only [aX, *, if_true, if_false, Int.lt_irrefl]
   have C206 := cg [] (hb174.n.seq (hb193.n.seq hb204.n))
   replace bH := bH.ca C206
   exact ⟨(congrArg (a₁ := 2) (fun (z0 : Int) => Ending.returned (vi z0)) e0), bH.below⟩
  refine aj rfl (df p13) (am (ao (a7 (a6 rfl (ai 3 (aa (al (vs := [vi 3]) Try.func94 (.tmp rfl .nil) ?_)))))))
  have e0 : (3 : Int) = (aX a b c d) := by
    simp only [aX, *, if_true, if_false, Int.lt_irrefl]
  have C207 := cg [] (hb174.n.seq (hb193.n.seq hb204.n))
  replace bH := bH.ca C207
  exact ⟨(congrArg (a₁ := 3) (fun (z0 : Int) => Ending.returned (vi z0)) e0), bH.below⟩
 refine aj rfl (df p1) (am (a7 (a7 (a6 rfl ?_))))
 replace bx15 := (bx15.cn ch17).cn hb23
 refine lx (ad (ds := [vi c.1, vi c.2]) ab rfl bx15 rfl rfl) ?_
 replace bx20 := bx20.cn hb23
 refine lx (ad (ds := [vi d.1, vi d.2]) ab rfl bx20 rfl rfl) (lo (aF (v := vi (aM c d)) (aw (vals := [vg [vi c.1, vi c.2], vg [vi d.1, vi d.2]]) Try.func103 bu br rfl) (bt w22 c d) ?_))
 intro w208 hb209
 replace hb209 := ak hb209 g19
 refine lx (bQ (m := aM c d) (n := 0) rfl rfl) (aa ?_)
 by_cases p3 : 0 < (aM c d)
 ·
  refine ah rfl (dt p3) (a6 rfl ?_)
  replace bx20 := bx20.cn hb209
  refine lx (ad (ds := [vi d.1, vi d.2]) ab rfl bx20 rfl rfl) ?_
  replace bx15 := bx15.cn hb209
  refine lx (ad (ds := [vi c.1, vi c.2]) ab rfl bx15 rfl rfl) (lo (ag (cs' := [vi d.1, vi d.2]) ab rfl rfl bx15 rfl (Nat.le_of_ble_eq_true rfl) (AllOne.all (.cons rfl (.cons rfl .nil))) rfl ?_))
  intro w210 ch211 bx212
  clear bx15
  refine lo ?_
  replace bx20 := bx20.ce ch211
  refine ag (cs' := [vi c.1, vi c.2]) ab rfl rfl bx20 rfl (Nat.le_of_ble_eq_true rfl) (AllOne.all (.cons rfl (.cons rfl .nil))) rfl ?_
  intro w213 ch214 bx215
  clear bx20
  refine aa (a7 ?_)
  refine cR (σ := Nat × Nat × aP) (fun ⟨b221, b227, gq⟩ f w => bf w0 gq w ∧ f 6 = vp b13 0 ∧ f 7 = vp b18 0 ∧ f 9 = vp b221 0 ∧ f 10 = vp b227 0 ∧ Bx gq (is 3) w b13 [vi d.1, vi d.2] ∧ Bx gq (is 4) w b18 [vi c.1, vi c.2] ∧ Bx gq (is 5) w b221 [vi a.1, vi a.2] ∧ Bx gq (is 6) w b227 [vi b.1, vi b.2]) g19 (bR [5, 6]) gu ?_ ?_
  ·
   intro mid
   intro w217 ch216
   have C218 := cg [3, 4] (hb23.n.seq (hb209.n.seq ((ch211.l rfl).seq ((ch214.l rfl).seq ch216.n))))
   replace bx5 := bx5.ca C218
   refine ht 0 rfl (aO.refl _ _ _) (fun w' hw' => ad (ds := [vi a.1, vi a.2]) ab rfl (bx5.chg hw' (bB rfl)) rfl rfl) ?_
   replace bx10 := bx10.ca C218
   refine ht 1 rfl (aO.refl _ _ _) (fun w' hw' => ad (ds := [vi b.1, vi b.2]) ab rfl (bx10.chg hw' (bB rfl)) rfl rfl) ?_
   refine bx 2 [3] (by kernel_rfl) ⟨bl 2 rfl (by kernel_rfl) rfl ?_, bl 3 rfl (by kernel_rfl) rfl ?_, trivial⟩
   ·
    refine aQ g19 (is 5) (5, 0) rfl ab ?_
    intro g222 w219 b221 ch220 bx223
    replace bx223 : Bx g222 (is 5) w219 b221 [vi 0, vi 0] := bx223
    have hs224 : aO (bR [5, 6]) _ _ _ _ := ch220.n
    refine ⟨hs224.same, ?_⟩
    refine aB 3 rfl (by kernel_rfl) rfl (aQ g222 (is 6) (6, 0) rfl ab ?_)
    intro g228 w225 b227 ch226 bx229
    replace bx229 : Bx g228 (is 6) w225 b227 [vi 0, vi 0] := bx229
    have hs230 := hs224.seq (ch226.n)
    refine ⟨hs230.same, ?_⟩
    refine aB 4 rfl (by kernel_rfl) rfl ?_
    replace bx223 := bx223.cn ch226
    refine ag (cs' := [vi a.1, vi a.2]) ab rfl rfl bx223 rfl (Nat.le_of_ble_eq_true rfl) (AllOne.all (.cons rfl (.cons rfl .nil))) rfl ?_
    intro w231 ch232 bx233
    clear bx223
    have hs234 := hs230.seq (ch232.l rfl)
    refine ⟨hs234.same, ?_⟩
    refine aB 5 rfl (by kernel_rfl) rfl ?_
    replace bx229 := bx229.ce ch232
    refine ag (cs' := [vi b.1, vi b.2]) ab rfl rfl bx229 rfl (Nat.le_of_ble_eq_true rfl) (AllOne.all (.cons rfl (.cons rfl .nil))) rfl ?_
    intro w235 ch236 bx237
    clear bx229
    have hs238 := hs234.seq (ch236.l rfl)
    refine ⟨hs238.same, ?_⟩
    refine bm (by kernel_rfl) ?_
    have C239 := cg [3, 4, 5, 6] (ch2.n.seq (ch7.n.seq (ch12.n.seq (ch17.n.seq (hb23.n.seq (hb209.n.seq ((ch211.l rfl).seq ((ch214.l rfl).seq (ch216.n.seq (ch220.n.seq (ch226.n.seq ((ch232.l rfl).seq (ch236.l rfl)))))))))))))
    replace bx212 := (bx212.ce ch214).cn ch216
    replace bx215 := bx215.cn ch216
    exact mid (b221, b227, g228) _ _ ⟨bH.ca C239, rfl, rfl, rfl, rfl, (bx212.ca hs238), (bx215.ca hs238), bx233.ce ch236, bx237⟩
   ·
    refine aQ g19 (is 6) (6, 0) rfl ab ?_
    intro g243 w240 b242 ch241 bx244
    replace bx244 : Bx g243 (is 6) w240 b242 [vi 0, vi 0] := bx244
    have hs245 : aO (bR [5, 6]) _ _ _ _ := ch241.n
    refine ⟨hs245.same, ?_⟩
    refine aB 2 rfl (by kernel_rfl) rfl (aQ g243 (is 5) (5, 0) rfl ab ?_)
    intro g249 w246 b248 ch247 bx250
    replace bx250 : Bx g249 (is 5) w246 b248 [vi 0, vi 0] := bx250
    have hs251 := hs245.seq (ch247.n)
    refine ⟨hs251.same, ?_⟩
    refine aB 4 rfl (by kernel_rfl) rfl (ag (cs' := [vi a.1, vi a.2]) ab rfl rfl bx250 rfl (Nat.le_of_ble_eq_true rfl) (AllOne.all (.cons rfl (.cons rfl .nil))) rfl ?_)
    intro w252 ch253 bx254
    clear bx250
    have hs255 := hs251.seq (ch253.l rfl)
    refine ⟨hs255.same, ?_⟩
    refine aB 5 rfl (by kernel_rfl) rfl ?_
    replace bx244 := (bx244.cn ch247).ce ch253
    refine ag (cs' := [vi b.1, vi b.2]) ab rfl rfl bx244 rfl (Nat.le_of_ble_eq_true rfl) (AllOne.all (.cons rfl (.cons rfl .nil))) rfl ?_
    intro w256 ch257 bx258
    clear bx244
    have hs259 := hs255.seq (ch257.l rfl)
    refine ⟨hs259.same, ?_⟩
    refine bm (by kernel_rfl) ?_
    have C260 := cg [3, 4, 5, 6] (ch2.n.seq (ch7.n.seq (ch12.n.seq (ch17.n.seq (hb23.n.seq (hb209.n.seq ((ch211.l rfl).seq ((ch214.l rfl).seq (ch216.n.seq (ch241.n.seq (ch247.n.seq ((ch253.l rfl).seq (ch257.l rfl)))))))))))))
    replace bx212 := (bx212.ce ch214).cn ch216
    replace bx215 := bx215.cn ch216
    exact mid (b248, b242, g249) _ _ ⟨bH.ca C260, rfl, rfl, rfl, rfl, (bx212.ca hs259), (bx215.ca hs259), bx254.ce ch257, bx258⟩
  clear bx5 bx10 bx212 bx215 bH
  rintro ⟨b221, b227, g263⟩ f261 w262 ⟨bH, zs6, zs7, zs9, zs10, bx212, bx215, bx233, bx237⟩
  refine a7 (a7 (a6 rfl (lx (ad (ds := [vi d.1, vi d.2]) ab zs6 bx212 rfl rfl) (lx (ad (ds := [vi a.1, vi a.2]) ab zs9 bx233 rfl rfl) (lo (aF (v := vi (aM d a)) (aw (vals := [vg [vi d.1, vi d.2], vg [vi a.1, vi a.2]]) Try.func103 bu br rfl) (bt w262 d a) ?_))))))
  intro w264 hb265
  replace hb265 := ak hb265 g263
  refine lx (bQ (m := aM d a) (n := 0) rfl rfl) (aa ?_)
  by_cases p6 : 0 < (aM d a)
  ·
   refine ah rfl (dt p6) (a6 rfl ?_)
   replace bx212 := bx212.cn hb265
   refine lx (ad (ds := [vi d.1, vi d.2]) ab zs6 bx212 rfl rfl) (lo ?_)
   replace bx233 := bx233.cn hb265
   refine ag (cs' := [vi d.1, vi d.2]) ab zs9 rfl bx233 rfl (Nat.le_of_ble_eq_true rfl) (AllOne.all (.cons rfl (.cons rfl .nil))) rfl ?_
   intro w266 ch267 bx268
   clear bx233
   refine aa (a7 (a7 ?_))
   clear bx212
   refine a6 rfl ?_
   replace bx215 := (bx215.cn hb265).ce ch267
   refine lx (ad (ds := [vi c.1, vi c.2]) ab zs7 bx215 rfl rfl) ?_
   replace bx237 := (bx237.cn hb265).ce ch267
   refine lx (ad (ds := [vi b.1, vi b.2]) ab zs10 bx237 rfl rfl) (lo (aF (v := vi (aM c b)) (aw (vals := [vg [vi c.1, vi c.2], vg [vi b.1, vi b.2]]) Try.func103 bu br rfl) (bt w266 c b) ?_))
   intro w269 hb270
   replace hb270 := ak hb270 g263
   refine lx (b9 (m := aM c b) (n := 0) rfl rfl) (aa ?_)
   by_cases p8 : (aM c b) < 0
   ·
    refine ah rfl (dt p8) (a6 rfl ?_)
    replace bx215 := bx215.cn hb270
    refine lx (ad (ds := [vi c.1, vi c.2]) ab zs7 bx215 rfl rfl) (lo ?_)
    replace bx237 := bx237.cn hb270
    refine ag (cs' := [vi c.1, vi c.2]) ab zs10 rfl bx237 rfl (Nat.le_of_ble_eq_true rfl) (AllOne.all (.cons rfl (.cons rfl .nil))) rfl ?_
    intro w271 ch272 bx273
    clear bx237
    refine aa (a7 (a7 ?_))
    clear bx215
    refine a6 rfl ?_
    replace bx268 := (bx268.cn hb270).ce ch272
    refine lx (ad (ds := [vi d.1, vi d.2]) ab zs9 bx268 rfl rfl) (lx (ad (ds := [vi c.1, vi c.2]) ab zs10 bx273 rfl rfl) (lo (aF (v := vi (aM d c)) (aw (vals := [vg [vi d.1, vi d.2], vg [vi c.1, vi c.2]]) Try.func103 bu br rfl) (bt w271 d c) ?_)))
    intro w274 hb275
    replace hb275 := ak hb275 g263
    refine ai (aM d c) (aa (av (a7 ?_)))
    clear bx268 bx273
    refine a6 rfl (mi (aM d c) (lx (bQ (m := aM d c) (n := 0) rfl rfl) (ma (Value.bool (decide (0 < (aM d c)))) (aa ?_))))
    by_cases p11 : 0 < (aM d c)
    ·
     refine ah rfl (dt p11) (a7 (a6 rfl (ai 0 (aa (al (vs := [vi 0]) Try.func94 (.tmp rfl .nil) ?_)))))
     have e0 : (0 : Int) = (aX a b c d) := by
       simp only [aX, *, if_true, if_false, Int.lt_irrefl]
     have C276 := cg [5, 6] (hb265.n.seq ((ch267.l rfl).seq (hb270.n.seq ((ch272.l rfl).seq hb275.n))))
     replace bH := bH.ca C276
     exact ⟨(congrArg (a₁ := 0) (fun (z0 : Int) => Ending.returned (vi z0)) e0), bH.below⟩
    refine aj rfl (df p11) (a7 (a6 rfl (mi (aM d c) (lx (bO (m := aM d c) (n := 0) rfl rfl) (ma (Value.bool (decide ((aM d c) = 0))) (aa ?_))))))
    by_cases p13 : (aM d c) = 0
    ·
     refine ah rfl (dt p13) (a7 (a6 rfl (ai 2 (aa (al (vs := [vi 2]) Try.func94 (.tmp rfl .nil) ?_)))))
     have e0 : (2 : Int) = (aX a b c d) := by
       simp only [aX, *, if_true, if_false, Int.lt_irrefl]
     have C277 := cg [5, 6] (hb265.n.seq ((ch267.l rfl).seq (hb270.n.seq ((ch272.l rfl).seq hb275.n))))
     replace bH := bH.ca C277
     exact ⟨(congrArg (a₁ := 2) (fun (z0 : Int) => Ending.returned (vi z0)) e0), bH.below⟩
    refine aj rfl (df p13) (am (ao (a7 (a6 rfl (ai 3 (aa (al (vs := [vi 3]) Try.func94 (.tmp rfl .nil) ?_)))))))
    have e0 : (3 : Int) = (aX a b c d) := by
      simp only [aX, *, if_true, if_false, Int.lt_irrefl]
    have C278 := cg [5, 6] (hb265.n.seq ((ch267.l rfl).seq (hb270.n.seq ((ch272.l rfl).seq hb275.n))))
    replace bH := bH.ca C278
    exact ⟨(congrArg (a₁ := 3) (fun (z0 : Int) => Ending.returned (vi z0)) e0), bH.below⟩
   refine aj rfl (df p8) (am (a7 (a7 ?_)))
   clear bx215
   refine a6 rfl ?_
   replace bx268 := bx268.cn hb270
   refine lx (ad (ds := [vi d.1, vi d.2]) ab zs9 bx268 rfl rfl) ?_
   replace bx237 := bx237.cn hb270
   refine lx (ad (ds := [vi b.1, vi b.2]) ab zs10 bx237 rfl rfl) (lo (aF (v := vi (aM d b)) (aw (vals := [vg [vi d.1, vi d.2], vg [vi b.1, vi b.2]]) Try.func103 bu br rfl) (bt w269 d b) ?_))
   intro w279 hb280
   replace hb280 := ak hb280 g263
   refine ai (aM d b) (aa (av (a7 ?_)))
   clear bx237 bx268
   refine a6 rfl (mi (aM d b) (lx (bQ (m := aM d b) (n := 0) rfl rfl) (ma (Value.bool (decide (0 < (aM d b)))) (aa ?_))))
   by_cases p11 : 0 < (aM d b)
   ·
    refine ah rfl (dt p11) (a7 (a6 rfl (ai 0 (aa (al (vs := [vi 0]) Try.func94 (.tmp rfl .nil) ?_)))))
    have e0 : (0 : Int) = (aX a b c d) := by
      simp only [aX, *, if_true, if_false, Int.lt_irrefl]
    have C281 := cg [5] (hb265.n.seq ((ch267.l rfl).seq (hb270.n.seq hb280.n)))
    replace bH := bH.ca C281
    exact ⟨(congrArg (a₁ := 0) (fun (z0 : Int) => Ending.returned (vi z0)) e0), bH.below⟩
   refine aj rfl (df p11) (a7 (a6 rfl (mi (aM d b) (lx (bO (m := aM d b) (n := 0) rfl rfl) (ma (Value.bool (decide ((aM d b) = 0))) (aa ?_))))))
   by_cases p13 : (aM d b) = 0
   ·
    refine ah rfl (dt p13) (a7 (a6 rfl (ai 2 (aa (al (vs := [vi 2]) Try.func94 (.tmp rfl .nil) ?_)))))
    have e0 : (2 : Int) = (aX a b c d) := by
      simp only [aX, *, if_true, if_false, Int.lt_irrefl]
    have C282 := cg [5] (hb265.n.seq ((ch267.l rfl).seq (hb270.n.seq hb280.n)))
    replace bH := bH.ca C282
    exact ⟨(congrArg (a₁ := 2) (fun (z0 : Int) => Ending.returned (vi z0)) e0), bH.below⟩
   refine aj rfl (df p13) (am (ao (a7 (a6 rfl (ai 3 (aa (al (vs := [vi 3]) Try.func94 (.tmp rfl .nil) ?_)))))))
   have e0 : (3 : Int) = (aX a b c d) := by
     simp only [aX, *, if_true, if_false, Int.lt_irrefl]
   have C283 := cg [5] (hb265.n.seq ((ch267.l rfl).seq (hb270.n.seq hb280.n)))
   replace bH := bH.ca C283
   exact ⟨(congrArg (a₁ := 3) (fun (z0 : Int) => Ending.returned (vi z0)) e0), bH.below⟩
  refine aj rfl (df p6) (am (a7 (a7 ?_)))
  clear bx212
  refine a6 rfl ?_
  replace bx215 := bx215.cn hb265
  refine lx (ad (ds := [vi c.1, vi c.2]) ab zs7 bx215 rfl rfl) ?_
  replace bx237 := bx237.cn hb265
  refine lx (ad (ds := [vi b.1, vi b.2]) ab zs10 bx237 rfl rfl) (lo (aF (v := vi (aM c b)) (aw (vals := [vg [vi c.1, vi c.2], vg [vi b.1, vi b.2]]) Try.func103 bu br rfl) (bt w264 c b) ?_))
  intro w284 hb285
  replace hb285 := ak hb285 g263
  refine lx (b9 (m := aM c b) (n := 0) rfl rfl) (aa ?_)
  by_cases p8 : (aM c b) < 0
  ·
   refine ah rfl (dt p8) (a6 rfl ?_)
   replace bx215 := bx215.cn hb285
   refine lx (ad (ds := [vi c.1, vi c.2]) ab zs7 bx215 rfl rfl) (lo ?_)
   replace bx237 := bx237.cn hb285
   refine ag (cs' := [vi c.1, vi c.2]) ab zs10 rfl bx237 rfl (Nat.le_of_ble_eq_true rfl) (AllOne.all (.cons rfl (.cons rfl .nil))) rfl ?_
   intro w286 ch287 bx288
   clear bx237
   refine aa (a7 (a7 ?_))
   clear bx215
   refine a6 rfl ?_
   have C289 := cg [6] (hb265.n.seq (hb285.n.seq (ch287.l rfl)))
   replace bx233 := bx233.ca C289
   refine lx (ad (ds := [vi a.1, vi a.2]) ab zs9 bx233 rfl rfl) (lx (ad (ds := [vi c.1, vi c.2]) ab zs10 bx288 rfl rfl) (lo (aF (v := vi (aM a c)) (aw (vals := [vg [vi a.1, vi a.2], vg [vi c.1, vi c.2]]) Try.func103 bu br rfl) (bt w286 a c) ?_)))
   intro w290 hb291
   replace hb291 := ak hb291 g263
   refine ai (aM a c) (aa (av (a7 ?_)))
   clear bx233 bx288
   refine a6 rfl (mi (aM a c) (lx (bQ (m := aM a c) (n := 0) rfl rfl) (ma (Value.bool (decide (0 < (aM a c)))) (aa ?_))))
   by_cases p11 : 0 < (aM a c)
   ·
    refine ah rfl (dt p11) (a7 (a6 rfl (ai 0 (aa (al (vs := [vi 0]) Try.func94 (.tmp rfl .nil) ?_)))))
    have e0 : (0 : Int) = (aX a b c d) := by
      simp only [aX, *, if_true, if_false, Int.lt_irrefl]
    have C292 := cg [6] (hb265.n.seq (hb285.n.seq ((ch287.l rfl).seq hb291.n)))
    replace bH := bH.ca C292
    exact ⟨(congrArg (a₁ := 0) (fun (z0 : Int) => Ending.returned (vi z0)) e0), bH.below⟩
   refine aj rfl (df p11) (a7 (a6 rfl (mi (aM a c) (lx (bO (m := aM a c) (n := 0) rfl rfl) (ma (Value.bool (decide ((aM a c) = 0))) (aa ?_))))))
   by_cases p13 : (aM a c) = 0
   ·
    refine ah rfl (dt p13) (a7 (a6 rfl (ai 2 (aa (al (vs := [vi 2]) Try.func94 (.tmp rfl .nil) ?_)))))
    have e0 : (2 : Int) = (aX a b c d) := by
      simp only [aX, *, if_true, if_false, Int.lt_irrefl]
    have C293 := cg [6] (hb265.n.seq (hb285.n.seq ((ch287.l rfl).seq hb291.n)))
    replace bH := bH.ca C293
    exact ⟨(congrArg (a₁ := 2) (fun (z0 : Int) => Ending.returned (vi z0)) e0), bH.below⟩
   refine aj rfl (df p13) (am (ao (a7 (a6 rfl (ai 3 (aa (al (vs := [vi 3]) Try.func94 (.tmp rfl .nil) ?_)))))))
   have e0 : (3 : Int) = (aX a b c d) := by
     simp only [aX, *, if_true, if_false, Int.lt_irrefl]
   have C294 := cg [6] (hb265.n.seq (hb285.n.seq ((ch287.l rfl).seq hb291.n)))
   replace bH := bH.ca C294
   exact ⟨(congrArg (a₁ := 3) (fun (z0 : Int) => Ending.returned (vi z0)) e0), bH.below⟩
  refine aj rfl (df p8) (am (a7 (a7 ?_)))
  clear bx215
  refine a6 rfl ?_
  replace bx233 := (bx233.cn hb265).cn hb285
  refine lx (ad (ds := [vi a.1, vi a.2]) ab zs9 bx233 rfl rfl) ?_
  replace bx237 := bx237.cn hb285
  refine lx (ad (ds := [vi b.1, vi b.2]) ab zs10 bx237 rfl rfl) (lo (aF (v := vi (aM a b)) (aw (vals := [vg [vi a.1, vi a.2], vg [vi b.1, vi b.2]]) Try.func103 bu br rfl) (bt w284 a b) ?_))
  intro w295 hb296
  replace hb296 := ak hb296 g263
  refine ai (aM a b) (aa (av (a7 ?_)))
  clear bx233 bx237
  refine a6 rfl (mi (aM a b) (lx (bQ (m := aM a b) (n := 0) rfl rfl) (ma (Value.bool (decide (0 < (aM a b)))) (aa (aj rfl (df p1) (a7 (a6 rfl (mi (aM a b) (lx (bO (m := aM a b) (n := 0) rfl rfl) (ma (Value.bool (decide ((aM a b) = 0))) ?_))))))))))
  refine aa ?_
  by_cases p13 : (aM a b) = 0
  ·
   refine ah rfl (dt p13) (a7 (a6 rfl (ai 2 (aa (al (vs := [vi 2]) Try.func94 (.tmp rfl .nil) ?_)))))
   have e0 : (2 : Int) = (aX a b c d) := by
     simp only [aX, *, if_true, if_false, Int.lt_irrefl]
   have C297 := cg [] (hb265.n.seq (hb285.n.seq hb296.n))
   replace bH := bH.ca C297
   exact ⟨(congrArg (a₁ := 2) (fun (z0 : Int) => Ending.returned (vi z0)) e0), bH.below⟩
  refine aj rfl (df p13) (am (ao (a7 (a6 rfl (ai 3 (aa (al (vs := [vi 3]) Try.func94 (.tmp rfl .nil) ?_)))))))
  have e0 : (3 : Int) = (aX a b c d) := by
    simp only [aX, *, if_true, if_false, Int.lt_irrefl]
  have C298 := cg [] (hb265.n.seq (hb285.n.seq hb296.n))
  replace bH := bH.ca C298
  exact ⟨(congrArg (a₁ := 3) (fun (z0 : Int) => Ending.returned (vi z0)) e0), bH.below⟩
 refine aj rfl (df p3) (am (a7 ?_))
 refine cR (σ := Nat × Nat × aP) (fun ⟨b304, b310, gq⟩ f w => bf w0 gq w ∧ f 6 = vp b13 0 ∧ f 7 = vp b18 0 ∧ f 9 = vp b304 0 ∧ f 10 = vp b310 0 ∧ Bx gq (is 3) w b13 [vi c.1, vi c.2] ∧ Bx gq (is 4) w b18 [vi d.1, vi d.2] ∧ Bx gq (is 5) w b304 [vi a.1, vi a.2] ∧ Bx gq (is 6) w b310 [vi b.1, vi b.2]) g19 (bR [5, 6]) gu ?_ ?_
 ·
  intro mid
  intro w300 ch299
  have C301 := cg [] (hb23.n.seq (hb209.n.seq ch299.n))
  replace bx5 := bx5.ca C301
  refine ht 0 rfl (aO.refl _ _ _) (fun w' hw' => ad (ds := [vi a.1, vi a.2]) ab rfl (bx5.chg hw' (bB rfl)) rfl rfl) ?_
  replace bx10 := bx10.ca C301
  refine ht 1 rfl (aO.refl _ _ _) (fun w' hw' => ad (ds := [vi b.1, vi b.2]) ab rfl (bx10.chg hw' (bB rfl)) rfl rfl) ?_
  refine bx 2 [3] (by kernel_rfl) ⟨bl 2 rfl (by kernel_rfl) rfl ?_, bl 3 rfl (by kernel_rfl) rfl ?_, trivial⟩
  ·
   refine aQ g19 (is 5) (5, 0) rfl ab ?_
   intro g305 w302 b304 ch303 bx306
   replace bx306 : Bx g305 (is 5) w302 b304 [vi 0, vi 0] := bx306
   have hs307 : aO (bR [5, 6]) _ _ _ _ := ch303.n
   refine ⟨hs307.same, ?_⟩
   refine aB 3 rfl (by kernel_rfl) rfl (aQ g305 (is 6) (6, 0) rfl ab ?_)
   intro g311 w308 b310 ch309 bx312
   replace bx312 : Bx g311 (is 6) w308 b310 [vi 0, vi 0] := bx312
   have hs313 := hs307.seq (ch309.n)
   refine ⟨hs313.same, ?_⟩
   refine aB 4 rfl (by kernel_rfl) rfl ?_
   replace bx306 := bx306.cn ch309
   refine ag (cs' := [vi a.1, vi a.2]) ab rfl rfl bx306 rfl (Nat.le_of_ble_eq_true rfl) (AllOne.all (.cons rfl (.cons rfl .nil))) rfl ?_
   intro w314 ch315 bx316
   clear bx306
   have hs317 := hs313.seq (ch315.l rfl)
   refine ⟨hs317.same, ?_⟩
   refine aB 5 rfl (by kernel_rfl) rfl ?_
   replace bx312 := bx312.ce ch315
   refine ag (cs' := [vi b.1, vi b.2]) ab rfl rfl bx312 rfl (Nat.le_of_ble_eq_true rfl) (AllOne.all (.cons rfl (.cons rfl .nil))) rfl ?_
   intro w318 ch319 bx320
   clear bx312
   have hs321 := hs317.seq (ch319.l rfl)
   refine ⟨hs321.same, ?_⟩
   refine bm (by kernel_rfl) ?_
   have C322 := cg [5, 6] (ch2.n.seq (ch7.n.seq (ch12.n.seq (ch17.n.seq (hb23.n.seq (hb209.n.seq (ch299.n.seq (ch303.n.seq (ch309.n.seq ((ch315.l rfl).seq (ch319.l rfl)))))))))))
   replace bx15 := (bx15.cn hb209).cn ch299
   replace bx20 := (bx20.cn hb209).cn ch299
   exact mid (b304, b310, g311) _ _ ⟨bH.ca C322, rfl, rfl, rfl, rfl, (bx15.ca hs321), (bx20.ca hs321), bx316.ce ch319, bx320⟩
  ·
   refine aQ g19 (is 6) (6, 0) rfl ab ?_
   intro g326 w323 b325 ch324 bx327
   replace bx327 : Bx g326 (is 6) w323 b325 [vi 0, vi 0] := bx327
   have hs328 : aO (bR [5, 6]) _ _ _ _ := ch324.n
   refine ⟨hs328.same, ?_⟩
   refine aB 2 rfl (by kernel_rfl) rfl (aQ g326 (is 5) (5, 0) rfl ab ?_)
   intro g332 w329 b331 ch330 bx333
   replace bx333 : Bx g332 (is 5) w329 b331 [vi 0, vi 0] := bx333
   have hs334 := hs328.seq (ch330.n)
   refine ⟨hs334.same, ?_⟩
   refine aB 4 rfl (by kernel_rfl) rfl (ag (cs' := [vi a.1, vi a.2]) ab rfl rfl bx333 rfl (Nat.le_of_ble_eq_true rfl) (AllOne.all (.cons rfl (.cons rfl .nil))) rfl ?_)
   intro w335 ch336 bx337
   clear bx333
   have hs338 := hs334.seq (ch336.l rfl)
   refine ⟨hs338.same, ?_⟩
   refine aB 5 rfl (by kernel_rfl) rfl ?_
   replace bx327 := (bx327.cn ch330).ce ch336
   refine ag (cs' := [vi b.1, vi b.2]) ab rfl rfl bx327 rfl (Nat.le_of_ble_eq_true rfl) (AllOne.all (.cons rfl (.cons rfl .nil))) rfl ?_
   intro w339 ch340 bx341
   clear bx327
   have hs342 := hs338.seq (ch340.l rfl)
   refine ⟨hs342.same, ?_⟩
   refine bm (by kernel_rfl) ?_
   have C343 := cg [5, 6] (ch2.n.seq (ch7.n.seq (ch12.n.seq (ch17.n.seq (hb23.n.seq (hb209.n.seq (ch299.n.seq (ch324.n.seq (ch330.n.seq ((ch336.l rfl).seq (ch340.l rfl)))))))))))
   replace bx15 := (bx15.cn hb209).cn ch299
   replace bx20 := (bx20.cn hb209).cn ch299
   exact mid (b331, b325, g332) _ _ ⟨bH.ca C343, rfl, rfl, rfl, rfl, (bx15.ca hs342), (bx20.ca hs342), bx337.ce ch340, bx341⟩
 clear bx5 bx10 bx15 bx20 bH
 rintro ⟨b304, b310, g346⟩ f344 w345 ⟨bH, zs6, zs7, zs9, zs10, bx15, bx20, bx316, bx320⟩
 refine a7 (a7 (a6 rfl (lx (ad (ds := [vi c.1, vi c.2]) ab zs6 bx15 rfl rfl) (lx (ad (ds := [vi a.1, vi a.2]) ab zs9 bx316 rfl rfl) (lo (aF (v := vi (aM c a)) (aw (vals := [vg [vi c.1, vi c.2], vg [vi a.1, vi a.2]]) Try.func103 bu br rfl) (bt w345 c a) ?_))))))
 intro w347 hb348
 replace hb348 := ak hb348 g346
 refine lx (bQ (m := aM c a) (n := 0) rfl rfl) (aa ?_)
 by_cases p6 : 0 < (aM c a)
 ·
  refine ah rfl (dt p6) (a6 rfl ?_)
  replace bx15 := bx15.cn hb348
  refine lx (ad (ds := [vi c.1, vi c.2]) ab zs6 bx15 rfl rfl) (lo ?_)
  replace bx316 := bx316.cn hb348
  refine ag (cs' := [vi c.1, vi c.2]) ab zs9 rfl bx316 rfl (Nat.le_of_ble_eq_true rfl) (AllOne.all (.cons rfl (.cons rfl .nil))) rfl ?_
  intro w349 ch350 bx351
  clear bx316
  refine aa (a7 (a7 ?_))
  clear bx15
  refine a6 rfl ?_
  replace bx20 := (bx20.cn hb348).ce ch350
  refine lx (ad (ds := [vi d.1, vi d.2]) ab zs7 bx20 rfl rfl) ?_
  replace bx320 := (bx320.cn hb348).ce ch350
  refine lx (ad (ds := [vi b.1, vi b.2]) ab zs10 bx320 rfl rfl) (lo (aF (v := vi (aM d b)) (aw (vals := [vg [vi d.1, vi d.2], vg [vi b.1, vi b.2]]) Try.func103 bu br rfl) (bt w349 d b) ?_))
  intro w352 hb353
  replace hb353 := ak hb353 g346
  refine lx (b9 (m := aM d b) (n := 0) rfl rfl) (aa ?_)
  by_cases p8 : (aM d b) < 0
  ·
   refine ah rfl (dt p8) (a6 rfl ?_)
   replace bx20 := bx20.cn hb353
   refine lx (ad (ds := [vi d.1, vi d.2]) ab zs7 bx20 rfl rfl) (lo ?_)
   replace bx320 := bx320.cn hb353
   refine ag (cs' := [vi d.1, vi d.2]) ab zs10 rfl bx320 rfl (Nat.le_of_ble_eq_true rfl) (AllOne.all (.cons rfl (.cons rfl .nil))) rfl ?_
   intro w354 ch355 bx356
   clear bx320
   refine aa (a7 (a7 ?_))
   clear bx20
   refine a6 rfl ?_
   replace bx351 := (bx351.cn hb353).ce ch355
   refine lx (ad (ds := [vi c.1, vi c.2]) ab zs9 bx351 rfl rfl) (lx (ad (ds := [vi d.1, vi d.2]) ab zs10 bx356 rfl rfl) (lo (aF (v := vi (aM c d)) (aw (vals := [vg [vi c.1, vi c.2], vg [vi d.1, vi d.2]]) Try.func103 bu br rfl) (bt w354 c d) ?_)))
   intro w357 hb358
   replace hb358 := ak hb358 g346
   refine ai (aM c d) (aa (av (a7 ?_)))
   clear bx351 bx356
   refine a6 rfl (mi (aM c d) (lx (bQ (m := aM c d) (n := 0) rfl rfl) (ma (Value.bool (decide (0 < (aM c d)))) (aa (aj rfl (df p3) (a7 (a6 rfl (mi (aM c d) (lx (bO (m := aM c d) (n := 0) rfl rfl) (ma (Value.bool (decide ((aM c d) = 0))) ?_))))))))))
   refine aa ?_
   by_cases p13 : (aM c d) = 0
   ·
    refine ah rfl (dt p13) (a7 (a6 rfl (ai 2 (aa (al (vs := [vi 2]) Try.func94 (.tmp rfl .nil) ?_)))))
    have e0 : (2 : Int) = (aX a b c d) := by
      simp only [aX, *, if_true, if_false, Int.lt_irrefl]
    have C359 := cg [5, 6] (hb348.n.seq ((ch350.l rfl).seq (hb353.n.seq ((ch355.l rfl).seq hb358.n))))
    replace bH := bH.ca C359
    exact ⟨(congrArg (a₁ := 2) (fun (z0 : Int) => Ending.returned (vi z0)) e0), bH.below⟩
   refine aj rfl (df p13) (am (ao (a7 (a6 rfl (ai 3 (aa (al (vs := [vi 3]) Try.func94 (.tmp rfl .nil) ?_)))))))
   have e0 : (3 : Int) = (aX a b c d) := by
     simp only [aX, *, if_true, if_false, Int.lt_irrefl]
   have C360 := cg [5, 6] (hb348.n.seq ((ch350.l rfl).seq (hb353.n.seq ((ch355.l rfl).seq hb358.n))))
   replace bH := bH.ca C360
   exact ⟨(congrArg (a₁ := 3) (fun (z0 : Int) => Ending.returned (vi z0)) e0), bH.below⟩
  refine aj rfl (df p8) (am (a7 (a7 ?_)))
  clear bx20
  refine a6 rfl ?_
  replace bx351 := bx351.cn hb353
  refine lx (ad (ds := [vi c.1, vi c.2]) ab zs9 bx351 rfl rfl) ?_
  replace bx320 := bx320.cn hb353
  refine lx (ad (ds := [vi b.1, vi b.2]) ab zs10 bx320 rfl rfl) (lo (aF (v := vi (aM c b)) (aw (vals := [vg [vi c.1, vi c.2], vg [vi b.1, vi b.2]]) Try.func103 bu br rfl) (bt w352 c b) ?_))
  intro w361 hb362
  replace hb362 := ak hb362 g346
  refine ai (aM c b) (aa (av (a7 ?_)))
  clear bx320 bx351
  refine a6 rfl (mi (aM c b) (lx (bQ (m := aM c b) (n := 0) rfl rfl) (ma (Value.bool (decide (0 < (aM c b)))) (aa ?_))))
  by_cases p11 : 0 < (aM c b)
  ·
   refine ah rfl (dt p11) (a7 (a6 rfl (ai 0 (aa (al (vs := [vi 0]) Try.func94 (.tmp rfl .nil) ?_)))))
   have e0 : (0 : Int) = (aX a b c d) := by
     simp only [aX, *, if_true, if_false, Int.lt_irrefl]
   have C363 := cg [5] (hb348.n.seq ((ch350.l rfl).seq (hb353.n.seq hb362.n)))
   replace bH := bH.ca C363
   exact ⟨(congrArg (a₁ := 0) (fun (z0 : Int) => Ending.returned (vi z0)) e0), bH.below⟩
  refine aj rfl (df p11) (a7 (a6 rfl (mi (aM c b) (lx (bO (m := aM c b) (n := 0) rfl rfl) (ma (Value.bool (decide ((aM c b) = 0))) (aa ?_))))))
  by_cases p13 : (aM c b) = 0
  ·
   refine ah rfl (dt p13) (a7 (a6 rfl (ai 2 (aa (al (vs := [vi 2]) Try.func94 (.tmp rfl .nil) ?_)))))
   have e0 : (2 : Int) = (aX a b c d) := by
     simp only [aX, *, if_true, if_false, Int.lt_irrefl]
   have C364 := cg [5] (hb348.n.seq ((ch350.l rfl).seq (hb353.n.seq hb362.n)))
   replace bH := bH.ca C364
   exact ⟨(congrArg (a₁ := 2) (fun (z0 : Int) => Ending.returned (vi z0)) e0), bH.below⟩
  refine aj rfl (df p13) (am (ao (a7 (a6 rfl (ai 3 (aa (al (vs := [vi 3]) Try.func94 (.tmp rfl .nil) ?_)))))))
  have e0 : (3 : Int) = (aX a b c d) := by
    simp only [aX, *, if_true, if_false, Int.lt_irrefl]
  have C365 := cg [5] (hb348.n.seq ((ch350.l rfl).seq (hb353.n.seq hb362.n)))
  replace bH := bH.ca C365
  exact ⟨(congrArg (a₁ := 3) (fun (z0 : Int) => Ending.returned (vi z0)) e0), bH.below⟩
 refine aj rfl (df p6) (am (a7 (a7 ?_)))
 clear bx15
 refine a6 rfl ?_
 replace bx20 := bx20.cn hb348
 refine lx (ad (ds := [vi d.1, vi d.2]) ab zs7 bx20 rfl rfl) ?_
 replace bx320 := bx320.cn hb348
 refine lx (ad (ds := [vi b.1, vi b.2]) ab zs10 bx320 rfl rfl) (lo (aF (v := vi (aM d b)) (aw (vals := [vg [vi d.1, vi d.2], vg [vi b.1, vi b.2]]) Try.func103 bu br rfl) (bt w347 d b) ?_))
 intro w366 hb367
 replace hb367 := ak hb367 g346
 refine lx (b9 (m := aM d b) (n := 0) rfl rfl) (aa ?_)
 by_cases p8 : (aM d b) < 0
 ·
  refine ah rfl (dt p8) (a6 rfl ?_)
  replace bx20 := bx20.cn hb367
  refine lx (ad (ds := [vi d.1, vi d.2]) ab zs7 bx20 rfl rfl) (lo ?_)
  replace bx320 := bx320.cn hb367
  refine ag (cs' := [vi d.1, vi d.2]) ab zs10 rfl bx320 rfl (Nat.le_of_ble_eq_true rfl) (AllOne.all (.cons rfl (.cons rfl .nil))) rfl ?_
  intro w368 ch369 bx370
  clear bx320
  refine aa (a7 (a7 ?_))
  clear bx20
  refine a6 rfl ?_
  have C371 := cg [6] (hb348.n.seq (hb367.n.seq (ch369.l rfl)))
  replace bx316 := bx316.ca C371
  refine lx (ad (ds := [vi a.1, vi a.2]) ab zs9 bx316 rfl rfl) (lx (ad (ds := [vi d.1, vi d.2]) ab zs10 bx370 rfl rfl) (lo (aF (v := vi (aM a d)) (aw (vals := [vg [vi a.1, vi a.2], vg [vi d.1, vi d.2]]) Try.func103 bu br rfl) (bt w368 a d) ?_)))
  intro w372 hb373
  replace hb373 := ak hb373 g346
  refine ai (aM a d) (aa (av (a7 ?_)))
  clear bx316 bx370
  refine a6 rfl (mi (aM a d) (lx (bQ (m := aM a d) (n := 0) rfl rfl) (ma (Value.bool (decide (0 < (aM a d)))) (aa ?_))))
  by_cases p11 : 0 < (aM a d)
  ·
   refine ah rfl (dt p11) (a7 (a6 rfl (ai 0 (aa (al (vs := [vi 0]) Try.func94 (.tmp rfl .nil) ?_)))))
   have e0 : (0 : Int) = (aX a b c d) := by
     simp only [aX, *, if_true, if_false, Int.lt_irrefl]
   have C374 := cg [6] (hb348.n.seq (hb367.n.seq ((ch369.l rfl).seq hb373.n)))
   replace bH := bH.ca C374
   exact ⟨(congrArg (a₁ := 0) (fun (z0 : Int) => Ending.returned (vi z0)) e0), bH.below⟩
  refine aj rfl (df p11) (a7 (a6 rfl (mi (aM a d) (lx (bO (m := aM a d) (n := 0) rfl rfl) (ma (Value.bool (decide ((aM a d) = 0))) (aa ?_))))))
  by_cases p13 : (aM a d) = 0
  ·
   refine ah rfl (dt p13) (a7 (a6 rfl (ai 2 (aa (al (vs := [vi 2]) Try.func94 (.tmp rfl .nil) ?_)))))
   have e0 : (2 : Int) = (aX a b c d) := by
     simp only [aX, *, if_true, if_false, Int.lt_irrefl]
   have C375 := cg [6] (hb348.n.seq (hb367.n.seq ((ch369.l rfl).seq hb373.n)))
   replace bH := bH.ca C375
   exact ⟨(congrArg (a₁ := 2) (fun (z0 : Int) => Ending.returned (vi z0)) e0), bH.below⟩
  refine aj rfl (df p13) (am (ao (a7 (a6 rfl (ai 3 (aa (al (vs := [vi 3]) Try.func94 (.tmp rfl .nil) ?_)))))))
  have e0 : (3 : Int) = (aX a b c d) := by
    simp only [aX, *, if_true, if_false, Int.lt_irrefl]
  have C376 := cg [6] (hb348.n.seq (hb367.n.seq ((ch369.l rfl).seq hb373.n)))
  replace bH := bH.ca C376
  exact ⟨(congrArg (a₁ := 3) (fun (z0 : Int) => Ending.returned (vi z0)) e0), bH.below⟩
 refine aj rfl (df p8) (am (a7 (a7 ?_)))
 clear bx20
 refine a6 rfl ?_
 replace bx316 := (bx316.cn hb348).cn hb367
 refine lx (ad (ds := [vi a.1, vi a.2]) ab zs9 bx316 rfl rfl) ?_
 replace bx320 := bx320.cn hb367
 refine lx (ad (ds := [vi b.1, vi b.2]) ab zs10 bx320 rfl rfl) (lo (aF (v := vi (aM a b)) (aw (vals := [vg [vi a.1, vi a.2], vg [vi b.1, vi b.2]]) Try.func103 bu br rfl) (bt w366 a b) ?_))
 intro w377 hb378
 replace hb378 := ak hb378 g346
 refine ai (aM a b) (aa (av (a7 ?_)))
 clear bx316 bx320
 refine a6 rfl (mi (aM a b) (lx (bQ (m := aM a b) (n := 0) rfl rfl) (ma (Value.bool (decide (0 < (aM a b)))) (aa (aj rfl (df p1) (a7 (a6 rfl (mi (aM a b) (lx (bO (m := aM a b) (n := 0) rfl rfl) (ma (Value.bool (decide ((aM a b) = 0))) ?_))))))))))
 refine aa ?_
 by_cases p13 : (aM a b) = 0
 ·
  refine ah rfl (dt p13) (a7 (a6 rfl (ai 2 (aa (al (vs := [vi 2]) Try.func94 (.tmp rfl .nil) ?_)))))
  have e0 : (2 : Int) = (aX a b c d) := by
    simp only [aX, *, if_true, if_false, Int.lt_irrefl]
  have C379 := cg [] (hb348.n.seq (hb367.n.seq hb378.n))
  replace bH := bH.ca C379
  exact ⟨(congrArg (a₁ := 2) (fun (z0 : Int) => Ending.returned (vi z0)) e0), bH.below⟩
 refine aj rfl (df p13) (am (ao (a7 (a6 rfl (ai 3 (aa (al (vs := [vi 3]) Try.func94 (.tmp rfl .nil) ?_)))))))
 have e0 : (3 : Int) = (aX a b c d) := by
   simp only [aX, *, if_true, if_false, Int.lt_irrefl]
 have C380 := cg [] (hb348.n.seq (hb367.n.seq hb378.n))
 replace bH := bH.ca C380
 exact ⟨(congrArg (a₁ := 3) (fun (z0 : Int) => Ending.returned (vi z0)) e0), bH.below⟩
end TL
