import Derived.Test.YtbadiajeohbpcaaGTlP2
import Derived.Test.YtbadiajeohbpcaaGTlGmA
import Derived.Test.YtbadiajeohbpcaaGTlGmM
import Derived.Test.YtbadiajeohbpcaaGTlGmR
import Derived.Test.YtbadiajeohbpcaaProg
set_option linter.all false
set_option maxRecDepth 20000
namespace TL
open Go Go.Proofs
theorem jX : Try.prog.follows .mixedOrders = true := by kernel_rfl
theorem bk : Tp Try.prog 25 false 1 24 (.slice none 0 0) := Tp.of (by kernel_rfl)
theorem cH : Tp Try.prog 26 false 1 24 (.slice none 0 0) := Tp.of (by kernel_rfl)
theorem gC : Try.f80.body.isNone = false := rfl
theorem gR : (Try.f80.name == "runtime.NumGoroutine") = false := by decide +kernel
theorem qJ : Try.f97.body.isNone = false := rfl
theorem qd : (Try.f97.name == "runtime.NumGoroutine") = false := by decide +kernel
theorem pW (w0 : World) (line : List ((Int) × (Int))) (line_v : Value) (hline_v : Ro w0 line_v line) (p : (Int) × (Int)) (hl0 : 1 ≤ (line.length : Int)) (hl : cX line) (hp : c4 p) :
    Calls Try.prog 69 #[line_v, vg [vi p.1, vi p.2]] w0 (fun ee w => ee = .returned (Value.bool (decide (dN line p))) ∧ cQ w0.heap.size w0 w) := by
 refine aC Try.func69 rfl (Nat.le_of_ble_eq_true rfl) ?_
 have bH := bf.start w0
 have Rline := hline_v.sl
 obtain ⟨hl1, hl2⟩ := hl
 refine a7 (a6 rfl (bY rfl (bA c0 (is 1) (1, 0) rfl rfl ?_)))
 intro g4 w1 b3 ch2 bx5
 replace bx5 : Bx g4 (is 1) w1 b3 [vi p.1, vi p.2] := bx5
 refine ma (Value.bool false) (aa (a7 (a7 (a6 rfl (ai 1 (aa (av ?_)))))))
 refine ba (σ := Nat × aP) (fun ⟨i, gq⟩ f w => bf w0 gq w ∧ f 0 = line_v ∧ f 3 = vp b3 0 ∧ f 5 = vi (i : Int) ∧ Sl gq (is 0) w line_v line ∧ Bx gq (is 1) w b3 [vi p.1, vi p.2] ∧ (i : Int) ≤ ((line.length : Int) : Int) ∧ (1 ≤ i ∧ ∀ j : Nat, j + 1 < i → ¬ bD (gI line (j : Int)) (gI line ((j : Int) + 1)) p)) (fun ⟨i, gq⟩ => List.length line - i) (1, g4) ?_ ?_
 · exact ⟨bH.cn ch2, rfl, rfl, rfl, Rline.cn ch2, bx5, by omega, by exact ⟨Nat.le_refl _, fun j hj => by omega⟩⟩
 clear Rline bx5 bH
 rintro ⟨i, g8⟩ f6 w7 ⟨bH, zs0, zs3, zs5, Rline, bx5, hle_i, hinv⟩ back2
 obtain ⟨hi1, hi2⟩ := hinv
 refine a7 (a7 (a6 rfl (mz zs5 (mz zs0 ?_))))
 have len9 := (Rline).small
 refine lx (bh Try.underlying25 rfl Rline) (lx (b9 (m := (i : Int)) (n := (line.length : Int)) rfl rfl) (aa ?_))
 by_cases p2 : (i : Int) < (line.length : Int)
 ·
  refine ah rfl (dt p2) ?_
  have hoe := (iG (hl2 _ (bq (xs := line) (i := (i : Int) - 1) (by omega) (by omega))) (hl2 _ (bq (xs := line) (i := (i : Int)) (by omega) (by omega))) hp)
  refine am (a7 (av (a7 (cl g8 rfl jX (by kernel_rfl) ?_))))
  intro w11 ch10
  refine qz zs0 (qz zs5 (qx (fun w' hw' => cZ (m := (i : Int)) (n := 1) rfl rfl (by omega)) ?_))
  replace Rline := Rline.cn ch10
  refine qx (fun w' hw' => ar (v := line_v) (i := (i : Int) - 1) Try.underlying25 rfl rfl (Rline.bel hw') rfl (by omega) (by omega)) (qv (vg [vi ((gI line ((i : Int) - 1)).1), vi ((gI line ((i : Int) - 1)).2)]) (fun w' hw' => aN (v := line_v) (i := (i : Int) - 1) ab rfl (Rline.bel hw') (by omega) (by omega) rfl) (qz zs0 (qz zs5 (qx (fun w' hw' => ar (v := line_v) (i := (i : Int)) Try.underlying25 rfl rfl (Rline.bel hw') rfl (by omega) (by omega)) (qv (vg [vi ((gI line (i : Int)).1), vi ((gI line (i : Int)).2)]) (fun w' hw' => aN (v := line_v) (i := (i : Int)) ab rfl (Rline.bel hw') (by omega) (by omega) rfl) ?_)))))
  replace bx5 := bx5.cn ch10
  refine qx (fun w' hw' => ad (ds := [vi p.1, vi p.2]) ab zs3 (bx5.bel hw') rfl rfl) (dD (v := vt [Value.bool ((dO (gI line ((i : Int) - 1)) (gI line (i : Int)) p).1), vi ((dO (gI line ((i : Int) - 1)) (gI line (i : Int)) p).2)]) rfl (fun w' hw' => aw (vals := [vg [vi ((gI line ((i : Int) - 1)).1), vi ((gI line ((i : Int) - 1)).2)], vg [vi ((gI line (i : Int)).1), vi ((gI line (i : Int)).2)], vg [vi p.1, vi p.2]]) Try.func80 gC gR rfl) (fun w' hw' => (iD w' (gI line ((i : Int) - 1)) (gI line (i : Int)) p).mono fun e w2 h2 => ⟨h2.1, hw'.trans (h2.2.mono hw'.size)⟩) ?_)
  refine qm (vt [Value.bool ((dO (gI line ((i : Int) - 1)) (gI line (i : Int)) p).1), vi ((dO (gI line ((i : Int) - 1)) (gI line (i : Int)) p).2)]) (qx (fun w' hw' => aW rfl rfl) (qx (fun w' hw' => aW rfl rfl) (qv (Value.bool ((dO (gI line ((i : Int) - 1)) (gI line (i : Int)) p).1)) (fun w' hw' => bP rfl) (qv (vi ((dO (gI line ((i : Int) - 1)) (gI line (i : Int)) p).2)) (fun w' hw' => bP rfl) (dp ?_)))))
  intro w12 hc13
  replace hc13 := ak hc13 g8
  refine a7 (a6 rfl (mv (Value.bool ((dO (gI line ((i : Int) - 1)) (gI line (i : Int)) p).1)) (aa ?_)))
  by_cases p5 : ((dO (gI line ((i : Int) - 1)) (gI line (i : Int)) p).1) = true
  ·
   refine ah rfl p5 (a7 ?_)
   clear bx5
   refine a6 rfl (ma (Value.bool true) (aa (al (vs := [Value.bool true]) Try.func69 (.tmp rfl .nil) ?_)))
   have e0 : (true : Bool) = (decide (dN line p)) := by
     exact mN hi1 ‹_› hoe ‹_›
   replace bH := bH.cn ch10
   replace bH := bH.cn hc13
   exact ⟨(congrArg (a₁ := true) (fun (z0 : Bool) => Ending.returned (Value.bool z0)) e0), bH.below⟩
  refine aj rfl (Bool.eq_false_iff.2 p5) (am (ao (a6 rfl (mz zs5 (lx (aT (m := (i : Int)) (n := 1) rfl rfl (by omega)) (ai ((i : Int) + 1) (aa ?_)))))))
  replace bH := bH.cn ch10
  refine back2 (i + 1, g8) _ _ ⟨bH.cn hc13, zs0, zs3, rfl, Rline.cn hc13, bx5.cn hc13, by omega, ?_⟩ ?_
  · show 1 ≤ (i + 1) ∧ ∀ j : Nat, j + 1 < (i + 1) → ¬ bD (gI line (j : Int)) (gI line ((j : Int) + 1)) p
    exact mn ⟨hi1, hi2⟩ hoe ‹_›
  · show List.length line - (i + 1) < List.length line - i
    omega
 refine aj rfl (df p2) (aU rfl (a7 ?_))
 clear bx5
 refine a6 rfl (ma (Value.bool false) (aa (al (vs := [Value.bool false]) Try.func69 (.tmp rfl .nil) ?_)))
 have e0 : (false : Bool) = (decide (dN line p)) := by
   exact qV ⟨hi1, hi2⟩ ‹_›
 exact ⟨(congrArg (a₁ := false) (fun (z0 : Bool) => Ending.returned (Value.bool z0)) e0), bH.below⟩
theorem pc (w0 : World) (a : (Int) × (Int)) (b : (Int) × (Int)) (c : (Int) × (Int)) (d : (Int) × (Int)) (sm : List ((Int) × (Int))) (sm_v : Value) (hsm_v : Ro w0 sm_v sm) (ha : c4 a) (hb : c4 b) (hc : c4 c) (hd : c4 d) (hs : ∀ x ∈ sm, c4 x) :
    Calls Try.prog 82 #[vg [vi a.1, vi a.2], vg [vi b.1, vi b.2], vg [vi c.1, vi c.2], vg [vi d.1, vi d.2], sm_v] w0 (fun ee w => ee = .returned (Value.bool (decide (ch (a, b) (c, d) sm))) ∧ cQ w0.heap.size w0 w) := by
 refine aC Try.func82 rfl (Nat.le_of_ble_eq_true rfl) ?_
 have bH := bf.start w0
 have Rsm := hsm_v.sl
 have hm := nS ha hb hc hd
 refine a7 (a6 rfl (bY rfl (bA c0 (is 1) (1, 0) rfl rfl ?_)))
 intro g4 w1 b3 ch2 bx5
 replace bx5 : Bx g4 (is 1) w1 b3 [vi a.1, vi a.2] := bx5
 refine lo (bA g4 (is 2) (2, 0) rfl rfl ?_)
 intro g9 w6 b8 ch7 bx10
 replace bx10 : Bx g9 (is 2) w6 b8 [vi b.1, vi b.2] := bx10
 refine lo (bA g9 (is 3) (3, 0) rfl rfl ?_)
 intro g14 w11 b13 ch12 bx15
 replace bx15 : Bx g14 (is 3) w11 b13 [vi c.1, vi c.2] := bx15
 refine lo (bA g14 (is 4) (4, 0) rfl rfl ?_)
 intro g19 w16 b18 ch17 bx20
 replace bx20 : Bx g19 (is 4) w16 b18 [vi d.1, vi d.2] := bx20
 refine ma (Value.bool false) (aa (a7 (a7 (a6 rfl ?_))))
 have C21 := cg [] (ch7.n.seq (ch12.n.seq ch17.n))
 replace bx5 := bx5.ca C21
 refine lx (ad (ds := [vi a.1, vi a.2]) ab rfl bx5 rfl rfl) ?_
 replace bx10 := (bx10.cn ch12).cn ch17
 refine lx (ad (ds := [vi b.1, vi b.2]) ab rfl bx10 rfl rfl) ?_
 replace bx15 := bx15.cn ch17
 refine lx (ad (ds := [vi c.1, vi c.2]) ab rfl bx15 rfl rfl) (lx (ad (ds := [vi d.1, vi d.2]) ab rfl bx20 rfl rfl) (lo (aF (v := vt [vi ((cK a b c d).1), vi ((cK a b c d).2)]) (aw (vals := [vg [vi a.1, vi a.2], vg [vi b.1, vi b.2], vg [vi c.1, vi c.2], vg [vi d.1, vi d.2]]) Try.func97 qJ qd rfl) (oK w16 a b c d) ?_)))
 intro w22 hb23
 replace hb23 := ak hb23 g19
 refine mv (vt [vi ((cK a b c d).1), vi ((cK a b c d).2)]) (lx (aW rfl rfl) (lx (aW rfl rfl) (ai ((cK a b c d).1) (ai ((cK a b c d).2) (aa (a7 (a6 rfl (mi ((cK a b c d).1) (aa (av (a7 (a6 rfl ?_))))))))))))
 refine lx (bO (m := (cK a b c d).1) (n := 0) rfl rfl) (ma (Value.bool (decide (((cK a b c d).1) = 0))) (aa ?_))
 by_cases p3 : ((cK a b c d).1) = 0
 ·
  refine ah rfl (dt p3) (a7 ?_)
  clear bx5 bx10 bx15 bx20
  refine a6 rfl (ma (Value.bool true) (aa (al (vs := [Value.bool true]) Try.func82 (.tmp rfl .nil) ?_)))
  have e0 : (true : Bool) = (decide (ch (a, b) (c, d) sm)) := by
    exact mg hm ‹_›
  have C24 := cg [] (ch2.n.seq (ch7.n.seq (ch12.n.seq (ch17.n.seq hb23.n))))
  replace bH := bH.ca C24
  exact ⟨(congrArg (a₁ := true) (fun (z0 : Bool) => Ending.returned (Value.bool z0)) e0), bH.below⟩
 refine aj rfl (df p3) (a7 (a7 (a6 rfl (lx (bO (m := (cK a b c d).1) (n := 1) rfl rfl) (ma (Value.bool (decide (((cK a b c d).1) = 1))) (aa ?_))))))
 by_cases p5 : ((cK a b c d).1) = 1
 ·
  refine ah rfl (dt p5) (am (ah rfl (dt p5) (a7 (a6 rfl (mv sm_v ?_)))))
  have C25 := cg [] (ch2.n.seq (ch7.n.seq (ch12.n.seq (ch17.n.seq hb23.n))))
  replace Rsm := Rsm.ca C25
  have len26 := (Rsm).small
  refine lx (bh Try.underlying25 rfl Rsm) (mi 0 (aa (av ?_)))
  refine ba (σ := Nat × aP) (fun ⟨k, gq⟩ f w => bf w0 gq w ∧ f 5 = vp b3 0 ∧ f 6 = vp b8 0 ∧ f 7 = vp b13 0 ∧ f 8 = vp b18 0 ∧ f 33 = sm_v ∧ f 34 = vi (sm.length : Int) ∧ f 35 = vi (k : Int) ∧ Sl gq (is 0) w sm_v sm ∧ Bx gq (is 1) w b3 [vi a.1, vi a.2] ∧ Bx gq (is 2) w b8 [vi b.1, vi b.2] ∧ Bx gq (is 3) w b13 [vi c.1, vi c.2] ∧ Bx gq (is 4) w b18 [vi d.1, vi d.2] ∧ (k : Int) ≤ ((sm.length : Int) : Int) ∧ (∀ j : Nat, j < k → ¬ dK a b c d (gI sm (j : Int)))) (fun ⟨k, gq⟩ => Int.toNat (((sm.length : Int) : Int) - (k : Int))) (0, g19) ?_ ?_
  · exact ⟨bH.ca C25, rfl, rfl, rfl, rfl, rfl, rfl, rfl, Rsm, bx5.cn hb23, bx10.cn hb23, bx15.cn hb23, bx20.cn hb23, by omega, by intro j hj; omega⟩
  clear Rsm bx5 bx10 bx15 bx20 bH
  rintro ⟨k, g29⟩ f27 w28 ⟨bH, zs5, zs6, zs7, zs8, zs33, zs34, zs35, Rsm, bx5, bx10, bx15, bx20, hle_k, hinv⟩ back8
  refine a7 (a6 rfl (lx (b9 (m := (k : Int)) (n := (sm.length : Int)) zs35 zs34) (aa (a7 ?_))))
  by_cases p8 : (k : Int) < (sm.length : Int)
  ·
   refine ah rfl (dt p8) ?_
   have hx := hs _ (bq (xs := sm) (i := (k : Int)) (by omega) (by omega))
   have h1 := iG ha hb hx
   have h2 := iG hc hd hx
   refine am (a7 (av (a7 (a6 rfl (lx (ar (v := sm_v) (i := (k : Int)) Try.underlying25 rfl zs33 Rsm zs35 (by omega) (by omega)) (lw (vg [vi ((gI sm (k : Int)).1), vi ((gI sm (k : Int)).2)]) (aN (v := sm_v) (i := (k : Int)) ab rfl Rsm (by omega) (by omega) rfl) (lo (aQ g29 (is 5) (5, 0) rfl ab ?_))))))))
   intro g33 w30 b32 ch31 bx34
   replace bx34 : Bx g33 (is 5) w30 b32 [vi 0, vi 0] := bx34
   refine lo (ag (cs' := [vi ((gI sm (k : Int)).1), vi ((gI sm (k : Int)).2)]) ab rfl rfl bx34 rfl (Nat.le_of_ble_eq_true rfl) (AllOne.all (.cons rfl (.cons rfl .nil))) rfl ?_)
   intro w35 ch36 bx37
   clear bx34
   refine aa (a7 (a6 rfl ?_))
   replace bx5 := (bx5.cn ch31).ce ch36
   refine lx (ad (ds := [vi a.1, vi a.2]) ab zs5 bx5 rfl rfl) ?_
   replace bx10 := (bx10.cn ch31).ce ch36
   refine lx (ad (ds := [vi b.1, vi b.2]) ab zs6 bx10 rfl rfl) (lx (ad (ds := [vi ((gI sm (k : Int)).1), vi ((gI sm (k : Int)).2)]) ab rfl bx37 rfl rfl) (lo (aF (v := vt [Value.bool ((dO a b (gI sm (k : Int))).1), vi ((dO a b (gI sm (k : Int))).2)]) (aw (vals := [vg [vi a.1, vi a.2], vg [vi b.1, vi b.2], vg [vi ((gI sm (k : Int)).1), vi ((gI sm (k : Int)).2)]]) Try.func80 gC gR rfl) (iD w35 a b (gI sm (k : Int))) ?_)))
   intro w38 hb39
   replace hb39 := ak hb39 g33
   refine mv (vt [Value.bool ((dO a b (gI sm (k : Int))).1), vi ((dO a b (gI sm (k : Int))).2)]) (lx (aW rfl rfl) (lx (aW rfl rfl) (ma (Value.bool ((dO a b (gI sm (k : Int))).1)) (ai ((dO a b (gI sm (k : Int))).2) (aa (a7 (a6 rfl ?_)))))))
   have C40 := cg [5] (ch31.n.seq ((ch36.l rfl).seq hb39.n))
   replace bx15 := bx15.ca C40
   refine lx (ad (ds := [vi c.1, vi c.2]) ab zs7 bx15 rfl rfl) ?_
   replace bx20 := bx20.ca C40
   refine lx (ad (ds := [vi d.1, vi d.2]) ab zs8 bx20 rfl rfl) ?_
   replace bx37 := bx37.cn hb39
   refine lx (ad (ds := [vi ((gI sm (k : Int)).1), vi ((gI sm (k : Int)).2)]) ab rfl bx37 rfl rfl) (lo (aF (v := vt [Value.bool ((dO c d (gI sm (k : Int))).1), vi ((dO c d (gI sm (k : Int))).2)]) (aw (vals := [vg [vi c.1, vi c.2], vg [vi d.1, vi d.2], vg [vi ((gI sm (k : Int)).1), vi ((gI sm (k : Int)).2)]]) Try.func80 gC gR rfl) (iD w38 c d (gI sm (k : Int))) ?_))
   intro w41 hb42
   replace hb42 := ak hb42 g33
   refine mv (vt [Value.bool ((dO c d (gI sm (k : Int))).1), vi ((dO c d (gI sm (k : Int))).2)]) (lx (aW rfl rfl) (lx (aW rfl rfl) (ma (Value.bool ((dO c d (gI sm (k : Int))).1)) (ai ((dO c d (gI sm (k : Int))).2) (aa (a7 ?_))))))
   clear bx37
   refine a6 rfl (mv (Value.bool ((dO a b (gI sm (k : Int))).1)) (mv (Value.bool ((dO a b (gI sm (k : Int))).1)) ?_))
   by_cases q54 : ((dO a b (gI sm (k : Int))).1) = true
   ·
    refine lv (Value.bool ((dO c d (gI sm (k : Int))).1)) (wy q54) (aI rfl) (lw (Value.bool ((dO c d (gI sm (k : Int))).1)) (au rfl q54 rfl) (aa ?_))
    by_cases p12 : ((dO c d (gI sm (k : Int))).1) = true
    ·
     refine ah rfl p12 (a7 ?_)
     clear bx5 bx10 bx15 bx20
     refine a6 rfl (ma (Value.bool true) (aa (al (vs := [Value.bool true]) Try.func82 (.tmp rfl .nil) ?_)))
     have e0 : (true : Bool) = (decide (ch (a, b) (c, d) sm)) := by
       exact kC hm (by exact .inl ‹_›) ‹_› h1 h2 ‹_› ‹_›
     have C43 := cg [5] (ch31.n.seq ((ch36.l rfl).seq (hb39.n.seq hb42.n)))
     replace bH := bH.ca C43
     exact ⟨(congrArg (a₁ := true) (fun (z0 : Bool) => Ending.returned (Value.bool z0)) e0), bH.below⟩
    refine aj rfl (Bool.eq_false_iff.2 p12) (am (ao (a6 rfl (lx (aT (m := (k : Int)) (n := 1) zs35 rfl (by omega)) (mi ((k : Int) + 1) (aa ?_))))))
    have C44 := cg [5] (ch31.n.seq ((ch36.l rfl).seq (hb39.n.seq hb42.n)))
    refine back8 (k + 1, g33) _ _ ⟨bH.ca C44, zs5, zs6, zs7, zs8, zs33, zs34, rfl, Rsm.ca C44, (bx5.cn hb39).cn hb42, (bx10.cn hb39).cn hb42, bx15.cn hb42, bx20.cn hb42, by omega, ?_⟩ ?_
    · show ∀ j : Nat, j < (k + 1) → ¬ dK a b c d (gI sm (j : Int))
      intro j hj
      by_cases e0 : j = k
      · subst e0; exact gy h1 h2 (by exact .inr ‹_›)
      · exact hinv j (by omega)
    · show Int.toNat (((sm.length : Int) : Int) - ((k + 1) : Int)) < Int.toNat (((sm.length : Int) : Int) - (k : Int))
      omega
   refine ae (wn (Bool.eq_false_iff.2 q54)) (lw (Value.bool false) (aD rfl (Bool.eq_false_iff.2 q54) rfl) (aa (aj rfl rfl (am (ao (a6 rfl (lx (aT (m := (k : Int)) (n := 1) zs35 rfl (by omega)) (mi ((k : Int) + 1) (aa ?_)))))))))
   have C45 := cg [5] (ch31.n.seq ((ch36.l rfl).seq (hb39.n.seq hb42.n)))
   refine back8 (k + 1, g33) _ _ ⟨bH.ca C45, zs5, zs6, zs7, zs8, zs33, zs34, rfl, Rsm.ca C45, (bx5.cn hb39).cn hb42, (bx10.cn hb39).cn hb42, bx15.cn hb42, bx20.cn hb42, by omega, ?_⟩ ?_
   · show ∀ j : Nat, j < (k + 1) → ¬ dK a b c d (gI sm (j : Int))
     intro j hj
     by_cases e0 : j = k
     · subst e0; exact gy h1 h2 (by exact .inl ‹_›)
     · exact hinv j (by omega)
   · show Int.toNat (((sm.length : Int) : Int) - ((k + 1) : Int)) < Int.toNat (((sm.length : Int) : Int) - (k : Int))
     omega
  refine aj rfl (df p8) (aU rfl (ao (a7 ?_)))
  clear bx5 bx10 bx15 bx20
  refine a6 rfl (ma (Value.bool false) (aa (al (vs := [Value.bool false]) Try.func82 (.tmp rfl .nil) ?_)))
  have e0 : (false : Bool) = (decide (ch (a, b) (c, d) sm)) := by
    exact je hm ‹_› hinv ‹_›
  exact ⟨(congrArg (a₁ := false) (fun (z0 : Bool) => Ending.returned (Value.bool z0)) e0), bH.below⟩
 refine aj rfl (df p5) (a6 rfl (lx (bO (m := (cK a b c d).1) (n := 2) rfl rfl) (ma (Value.bool (decide (((cK a b c d).1) = 2))) (aa ?_))))
 by_cases p6 : ((cK a b c d).1) = 2
 ·
  refine ah rfl (dt p6) (a7 (a6 rfl (mv sm_v ?_)))
  have C46 := cg [] (ch2.n.seq (ch7.n.seq (ch12.n.seq (ch17.n.seq hb23.n))))
  replace Rsm := Rsm.ca C46
  have len47 := (Rsm).small
  refine lx (bh Try.underlying25 rfl Rsm) (mi 0 (aa (av ?_)))
  refine ba (σ := Nat × aP) (fun ⟨k, gq⟩ f w => bf w0 gq w ∧ f 5 = vp b3 0 ∧ f 6 = vp b8 0 ∧ f 7 = vp b13 0 ∧ f 8 = vp b18 0 ∧ f 33 = sm_v ∧ f 34 = vi (sm.length : Int) ∧ f 35 = vi (k : Int) ∧ Sl gq (is 0) w sm_v sm ∧ Bx gq (is 1) w b3 [vi a.1, vi a.2] ∧ Bx gq (is 2) w b8 [vi b.1, vi b.2] ∧ Bx gq (is 3) w b13 [vi c.1, vi c.2] ∧ Bx gq (is 4) w b18 [vi d.1, vi d.2] ∧ (k : Int) ≤ ((sm.length : Int) : Int) ∧ (∀ j : Nat, j < k → ¬ dK a b c d (gI sm (j : Int)))) (fun ⟨k, gq⟩ => Int.toNat (((sm.length : Int) : Int) - (k : Int))) (0, g19) ?_ ?_
  · exact ⟨bH.ca C46, rfl, rfl, rfl, rfl, rfl, rfl, rfl, Rsm, bx5.cn hb23, bx10.cn hb23, bx15.cn hb23, bx20.cn hb23, by omega, by intro j hj; omega⟩
  clear Rsm bx5 bx10 bx15 bx20 bH
  rintro ⟨k, g50⟩ f48 w49 ⟨bH, zs5, zs6, zs7, zs8, zs33, zs34, zs35, Rsm, bx5, bx10, bx15, bx20, hle_k, hinv⟩ back8
  refine a7 (a6 rfl (lx (b9 (m := (k : Int)) (n := (sm.length : Int)) zs35 zs34) (aa (a7 ?_))))
  by_cases p8 : (k : Int) < (sm.length : Int)
  ·
   refine ah rfl (dt p8) ?_
   have hx := hs _ (bq (xs := sm) (i := (k : Int)) (by omega) (by omega))
   have h1 := iG ha hb hx
   have h2 := iG hc hd hx
   refine am (a7 (av (a7 (a6 rfl (lx (ar (v := sm_v) (i := (k : Int)) Try.underlying25 rfl zs33 Rsm zs35 (by omega) (by omega)) (lw (vg [vi ((gI sm (k : Int)).1), vi ((gI sm (k : Int)).2)]) (aN (v := sm_v) (i := (k : Int)) ab rfl Rsm (by omega) (by omega) rfl) (lo (aQ g50 (is 5) (5, 0) rfl ab ?_))))))))
   intro g54 w51 b53 ch52 bx55
   replace bx55 : Bx g54 (is 5) w51 b53 [vi 0, vi 0] := bx55
   refine lo (ag (cs' := [vi ((gI sm (k : Int)).1), vi ((gI sm (k : Int)).2)]) ab rfl rfl bx55 rfl (Nat.le_of_ble_eq_true rfl) (AllOne.all (.cons rfl (.cons rfl .nil))) rfl ?_)
   intro w56 ch57 bx58
   clear bx55
   refine aa (a7 (a6 rfl ?_))
   replace bx5 := (bx5.cn ch52).ce ch57
   refine lx (ad (ds := [vi a.1, vi a.2]) ab zs5 bx5 rfl rfl) ?_
   replace bx10 := (bx10.cn ch52).ce ch57
   refine lx (ad (ds := [vi b.1, vi b.2]) ab zs6 bx10 rfl rfl) (lx (ad (ds := [vi ((gI sm (k : Int)).1), vi ((gI sm (k : Int)).2)]) ab rfl bx58 rfl rfl) (lo (aF (v := vt [Value.bool ((dO a b (gI sm (k : Int))).1), vi ((dO a b (gI sm (k : Int))).2)]) (aw (vals := [vg [vi a.1, vi a.2], vg [vi b.1, vi b.2], vg [vi ((gI sm (k : Int)).1), vi ((gI sm (k : Int)).2)]]) Try.func80 gC gR rfl) (iD w56 a b (gI sm (k : Int))) ?_)))
   intro w59 hb60
   replace hb60 := ak hb60 g54
   refine mv (vt [Value.bool ((dO a b (gI sm (k : Int))).1), vi ((dO a b (gI sm (k : Int))).2)]) (lx (aW rfl rfl) (lx (aW rfl rfl) (ma (Value.bool ((dO a b (gI sm (k : Int))).1)) (ai ((dO a b (gI sm (k : Int))).2) (aa (a7 (a6 rfl ?_)))))))
   have C61 := cg [5] (ch52.n.seq ((ch57.l rfl).seq hb60.n))
   replace bx15 := bx15.ca C61
   refine lx (ad (ds := [vi c.1, vi c.2]) ab zs7 bx15 rfl rfl) ?_
   replace bx20 := bx20.ca C61
   refine lx (ad (ds := [vi d.1, vi d.2]) ab zs8 bx20 rfl rfl) ?_
   replace bx58 := bx58.cn hb60
   refine lx (ad (ds := [vi ((gI sm (k : Int)).1), vi ((gI sm (k : Int)).2)]) ab rfl bx58 rfl rfl) (lo (aF (v := vt [Value.bool ((dO c d (gI sm (k : Int))).1), vi ((dO c d (gI sm (k : Int))).2)]) (aw (vals := [vg [vi c.1, vi c.2], vg [vi d.1, vi d.2], vg [vi ((gI sm (k : Int)).1), vi ((gI sm (k : Int)).2)]]) Try.func80 gC gR rfl) (iD w59 c d (gI sm (k : Int))) ?_))
   intro w62 hb63
   replace hb63 := ak hb63 g54
   refine mv (vt [Value.bool ((dO c d (gI sm (k : Int))).1), vi ((dO c d (gI sm (k : Int))).2)]) (lx (aW rfl rfl) (lx (aW rfl rfl) (ma (Value.bool ((dO c d (gI sm (k : Int))).1)) (ai ((dO c d (gI sm (k : Int))).2) (aa (a7 ?_))))))
   clear bx58
   refine a6 rfl (mv (Value.bool ((dO a b (gI sm (k : Int))).1)) (mv (Value.bool ((dO a b (gI sm (k : Int))).1)) ?_))
   by_cases q54 : ((dO a b (gI sm (k : Int))).1) = true
   ·
    refine lv (Value.bool ((dO c d (gI sm (k : Int))).1)) (wy q54) (aI rfl) (lw (Value.bool ((dO c d (gI sm (k : Int))).1)) (au rfl q54 rfl) (aa ?_))
    by_cases p12 : ((dO c d (gI sm (k : Int))).1) = true
    ·
     refine ah rfl p12 (a7 ?_)
     clear bx5 bx10 bx15 bx20
     refine a6 rfl (ma (Value.bool true) (aa (al (vs := [Value.bool true]) Try.func82 (.tmp rfl .nil) ?_)))
     have e0 : (true : Bool) = (decide (ch (a, b) (c, d) sm)) := by
       exact kC hm (by exact .inr ‹_›) ‹_› h1 h2 ‹_› ‹_›
     have C64 := cg [5] (ch52.n.seq ((ch57.l rfl).seq (hb60.n.seq hb63.n)))
     replace bH := bH.ca C64
     exact ⟨(congrArg (a₁ := true) (fun (z0 : Bool) => Ending.returned (Value.bool z0)) e0), bH.below⟩
    refine aj rfl (Bool.eq_false_iff.2 p12) (am (ao (a6 rfl (lx (aT (m := (k : Int)) (n := 1) zs35 rfl (by omega)) (mi ((k : Int) + 1) (aa ?_))))))
    have C65 := cg [5] (ch52.n.seq ((ch57.l rfl).seq (hb60.n.seq hb63.n)))
    refine back8 (k + 1, g54) _ _ ⟨bH.ca C65, zs5, zs6, zs7, zs8, zs33, zs34, rfl, Rsm.ca C65, (bx5.cn hb60).cn hb63, (bx10.cn hb60).cn hb63, bx15.cn hb63, bx20.cn hb63, by omega, ?_⟩ ?_
    · show ∀ j : Nat, j < (k + 1) → ¬ dK a b c d (gI sm (j : Int))
      intro j hj
      by_cases e0 : j = k
      · subst e0; exact gy h1 h2 (by exact .inr ‹_›)
      · exact hinv j (by omega)
    · show Int.toNat (((sm.length : Int) : Int) - ((k + 1) : Int)) < Int.toNat (((sm.length : Int) : Int) - (k : Int))
      omega
   refine ae (wn (Bool.eq_false_iff.2 q54)) (lw (Value.bool false) (aD rfl (Bool.eq_false_iff.2 q54) rfl) (aa (aj rfl rfl (am (ao (a6 rfl (lx (aT (m := (k : Int)) (n := 1) zs35 rfl (by omega)) (mi ((k : Int) + 1) (aa ?_)))))))))
   have C66 := cg [5] (ch52.n.seq ((ch57.l rfl).seq (hb60.n.seq hb63.n)))
   refine back8 (k + 1, g54) _ _ ⟨bH.ca C66, zs5, zs6, zs7, zs8, zs33, zs34, rfl, Rsm.ca C66, (bx5.cn hb60).cn hb63, (bx10.cn hb60).cn hb63, bx15.cn hb63, bx20.cn hb63, by omega, ?_⟩ ?_
   · show ∀ j : Nat, j < (k + 1) → ¬ dK a b c d (gI sm (j : Int))
     intro j hj
     by_cases e0 : j = k
     · subst e0; exact gy h1 h2 (by exact .inl ‹_›)
     · exact hinv j (by omega)
   · show Int.toNat (((sm.length : Int) : Int) - ((k + 1) : Int)) < Int.toNat (((sm.length : Int) : Int) - (k : Int))
     omega
  refine aj rfl (df p8) (aU rfl (ao (a7 ?_)))
  clear bx5 bx10 bx15 bx20
  refine a6 rfl (ma (Value.bool false) (aa (al (vs := [Value.bool false]) Try.func82 (.tmp rfl .nil) ?_)))
  have e0 : (false : Bool) = (decide (ch (a, b) (c, d) sm)) := by
    exact je hm ‹_› hinv ‹_›
  exact ⟨(congrArg (a₁ := false) (fun (z0 : Bool) => Ending.returned (Value.bool z0)) e0), bH.below⟩
 refine aj rfl (df p6) (am (ao (a7 ?_)))
 clear bx5 bx10 bx15 bx20
 refine a6 rfl (ma (Value.bool false) (aa (al (vs := [Value.bool false]) Try.func82 (.tmp rfl .nil) ?_)))
 have e0 : (false : Bool) = (decide (ch (a, b) (c, d) sm)) := by
   exact pY hm ‹_› ‹_› ‹_›
 have C67 := cg [] (ch2.n.seq (ch7.n.seq (ch12.n.seq (ch17.n.seq hb23.n))))
 replace bH := bH.ca C67
 exact ⟨(congrArg (a₁ := false) (fun (z0 : Bool) => Ending.returned (Value.bool z0)) e0), bH.below⟩
theorem mJ (w0 : World) (p : (List ((Int) × (Int))) × (List (List ((Int) × (Int))))) (p_v p_v1 : Value) (hp_v : Ro w0 p_v p.1) (hp_v1 : Ro w0 p_v1 p.2) (h : Int) (hpl : (p.2.length : Int) ≤ 1000000) (hh : 0 ≤ h ∧ h < 2 * (p.2.length : Int)) (hl : 2 ≤ ((gI p.2 (h / 2)).length : Int)) :
    Calls Try.prog 28 #[vg [p_v, p_v1], vi h] w0 (fun ee w => ee = .returned (vg [vi ((ei p h).1), vi ((ei p h).2)]) ∧ cQ w0.heap.size w0 w) := by
 refine aC Try.func28 rfl (Nat.le_of_ble_eq_true rfl) ?_
 have bH := bf.start w0
 have Rp := hp_v.sl
 have r_p_v1 := hp_v1.sl
 obtain ⟨hh0, hh1⟩ := hh
 refine a7 (a6 rfl (bY rfl (bA c0 (is 1) (1, 0) rfl rfl ?_)))
 intro g4 w1 b3 ch2 bx5
 replace bx5 : Bx g4 (is 1) w1 b3 [p_v, p_v1] := bx5
 refine lo (aQ g4 (is 2) (2, 0) rfl ab ?_)
 intro g9 w6 b8 ch7 bx10
 replace bx10 : Bx g9 (is 2) w6 b8 [vi 0, vi 0] := bx10
 refine aa (a7 (a6 rfl (lx (a8 Try.underlying28 rfl rfl rfl rfl) ?_)))
 replace bx5 := bx5.cn ch7
 refine lx (af cH rfl bx5 rfl) (mi h (lx (oA (m := h) (n := 2) rfl rfl (by omega) (by omega) (by omega)) ?_))
 replace r_p_v1 := (r_p_v1.cn ch2).cn ch7
 refine lx (ar (v := p_v1) (i := h / 2) Try.underlying26 rfl rfl r_p_v1 rfl (by omega) (by omega)) ?_
 obtain ⟨v11, cel12, r13⟩ := dZ (r := h / 2) r_p_v1 (by omega) (by omega)
 refine lx (cv bk rfl cel12) (ma v11 (aa (a7 (a7 ?_))))
 clear bx5
 refine a6 rfl (mi h (lx (oE (m := h) (n := 2) rfl rfl (by omega) (by omega)) (lx (bO (m := h % 2) (n := 0) rfl rfl) (aa ?_))))
 by_cases p2 : (h % 2) = 0
 ·
  refine ah rfl (dt p2) (a7 (a6 rfl (mv v11 (lx (ar (v := v11) (i := 1) Try.underlying25 rfl rfl r13 rfl (by omega) (by omega)) (lw (vg [vi ((gI (gI p.2 (h / 2)) 1).1), vi ((gI (gI p.2 (h / 2)) 1).2)]) (aN (v := v11) (i := 1) ab rfl r13 (by omega) (by omega) rfl) (lo (ag (cs' := [vi ((gI (gI p.2 (h / 2)) 1).1), vi ((gI (gI p.2 (h / 2)) 1).2)]) ab rfl rfl bx10 rfl (Nat.le_of_ble_eq_true rfl) (AllOne.all (.cons rfl (.cons rfl .nil))) rfl ?_)))))))
  intro w14 ch15 bx16
  clear bx10
  refine aa (al (vs := [vg [vi ((gI (gI p.2 (h / 2)) 1).1), vi ((gI (gI p.2 (h / 2)) 1).2)]]) Try.func28 (.cell rfl (d7 (ds := [vi ((gI (gI p.2 (h / 2)) 1).1), vi ((gI (gI p.2 (h / 2)) 1).2)]) ab bx16 rfl rfl) .nil) ?_)
  have e0 : ((gI (gI p.2 (h / 2)) 1) : (Int) × (Int)) = (ei p h) := by
    unfold ei
    rw [if_pos ‹_›]
  have C17 := cg [2] (ch2.n.seq (ch7.n.seq (ch15.l rfl)))
  replace bH := bH.ca C17
  exact ⟨(congrArg (a₁ := (gI (gI p.2 (h / 2)) 1)) (fun (z0 : (Int) × (Int)) => Ending.returned (vg [vi z0.1, vi z0.2])) e0), bH.below⟩
 refine aj rfl (df p2) (am (a7 (a6 rfl (mv v11 (mv v11 ?_)))))
 have len18 := (r13).small
 refine lx (bh Try.underlying25 rfl r13) (lx (cZ (m := (List.length (gI p.2 (h / 2)) : Int)) (n := 2) rfl rfl (by omega)) (lx (ar (v := v11) (i := (List.length (gI p.2 (h / 2)) : Int) - 2) Try.underlying25 rfl rfl r13 rfl (by omega) (by omega)) (lw (vg [vi ((gI (gI p.2 (h / 2)) ((List.length (gI p.2 (h / 2)) : Int) - 2)).1), vi ((gI (gI p.2 (h / 2)) ((List.length (gI p.2 (h / 2)) : Int) - 2)).2)]) (aN (v := v11) (i := (List.length (gI p.2 (h / 2)) : Int) - 2) ab rfl r13 (by omega) (by omega) rfl) (lo (ag (cs' := [vi ((gI (gI p.2 (h / 2)) ((List.length (gI p.2 (h / 2)) : Int) - 2)).1), vi ((gI (gI p.2 (h / 2)) ((List.length (gI p.2 (h / 2)) : Int) - 2)).2)]) ab rfl rfl bx10 rfl (Nat.le_of_ble_eq_true rfl) (AllOne.all (.cons rfl (.cons rfl .nil))) rfl ?_)))))
 intro w19 ch20 bx21
 clear bx10
 refine aa (al (vs := [vg [vi ((gI (gI p.2 (h / 2)) ((List.length (gI p.2 (h / 2)) : Int) - 2)).1), vi ((gI (gI p.2 (h / 2)) ((List.length (gI p.2 (h / 2)) : Int) - 2)).2)]]) Try.func28 (.cell rfl (d7 (ds := [vi ((gI (gI p.2 (h / 2)) ((List.length (gI p.2 (h / 2)) : Int) - 2)).1), vi ((gI (gI p.2 (h / 2)) ((List.length (gI p.2 (h / 2)) : Int) - 2)).2)]) ab bx21 rfl rfl) .nil) ?_)
 have e0 : ((gI (gI p.2 (h / 2)) ((List.length (gI p.2 (h / 2)) : Int) - 2)) : (Int) × (Int)) = (ei p h) := by
   unfold ei
   rw [if_neg ‹_›]
 have C22 := cg [2] (ch2.n.seq (ch7.n.seq (ch20.l rfl)))
 replace bH := bH.ca C22
 exact ⟨(congrArg (a₁ := (gI (gI p.2 (h / 2)) ((List.length (gI p.2 (h / 2)) : Int) - 2))) (fun (z0 : (Int) × (Int)) => Ending.returned (vg [vi z0.1, vi z0.2])) e0), bH.below⟩
theorem nY (w0 : World) (o : (Int) × (Int)) (a : (Int) × (Int)) (b : (Int) × (Int)) (ho : c4 o) (ha : c4 a) (hb : c4 b) :
    Calls Try.prog 30 #[vg [vi o.1, vi o.2], vg [vi a.1, vi a.2], vg [vi b.1, vi b.2]] w0 (fun ee w => ee = .returned (Value.bool (decide (dM (aS a o) (aS b o)))) ∧ cQ w0.heap.size w0 w) := by
 refine aC Try.func30 rfl (Nat.le_of_ble_eq_true rfl) ?_
 have bH := bf.start w0
 obtain ⟨hw1, hw2⟩ := nT ho ha
 obtain ⟨hw3, hw4⟩ := nT ho hb
 have m0 := fh (x := a.1 - o.1) (y := b.2 - o.2) (by omega) (by omega)
 have m1 := fh (x := a.2 - o.2) (y := b.1 - o.1) (by omega) (by omega)
 have m2 := fh (x := a.1 - o.1) (y := b.1 - o.1) (by omega) (by omega)
 have m3 := fh (x := a.2 - o.2) (y := b.2 - o.2) (by omega) (by omega)
 refine a7 (a6 rfl (bY rfl (bA c0 (is 1) (1, 0) rfl rfl ?_)))
 intro g4 w1 b3 ch2 bx5
 replace bx5 : Bx g4 (is 1) w1 b3 [vi o.1, vi o.2] := bx5
 refine lo (bA g4 (is 2) (2, 0) rfl rfl ?_)
 intro g9 w6 b8 ch7 bx10
 replace bx10 : Bx g9 (is 2) w6 b8 [vi a.1, vi a.2] := bx10
 refine lo (bA g9 (is 3) (3, 0) rfl rfl ?_)
 intro g14 w11 b13 ch12 bx15
 replace bx15 : Bx g14 (is 3) w11 b13 [vi b.1, vi b.2] := bx15
 refine ma (Value.bool false) (aa (a7 (cl g14 rfl jX (by kernel_rfl) ?_)))
 intro w17 ch16
 refine qx (fun w' hw' => a8 Try.underlying45 rfl rfl rfl rfl) ?_
 replace bx10 := (bx10.cn ch12).cn ch16
 refine qx (fun w' hw' => af bc rfl (bx10.bel hw') rfl) (qx (fun w' hw' => a8 Try.underlying45 rfl rfl rfl rfl) ?_)
 have C18 := cg [] (ch7.n.seq (ch12.n.seq ch16.n))
 replace bx5 := bx5.ca C18
 refine qx (fun w' hw' => af bc rfl (bx5.bel hw') rfl) (qx (fun w' hw' => cZ (m := a.1) (n := o.1) rfl rfl (by omega)) (qx (fun w' hw' => a8 Try.underlying45 rfl rfl rfl rfl) (qx (fun w' hw' => af bc rfl (bx10.bel hw') rfl) (qx (fun w' hw' => a8 Try.underlying45 rfl rfl rfl rfl) (qx (fun w' hw' => af bc rfl (bx5.bel hw') rfl) (qx (fun w' hw' => cZ (m := a.2) (n := o.2) rfl rfl (by omega)) (qx (fun w' hw' => a8 Try.underlying45 rfl rfl rfl rfl) ?_)))))))
 replace bx15 := bx15.cn ch16
 refine qx (fun w' hw' => af bc rfl (bx15.bel hw') rfl) (qx (fun w' hw' => a8 Try.underlying45 rfl rfl rfl rfl) (qx (fun w' hw' => af bc rfl (bx5.bel hw') rfl) (qx (fun w' hw' => cZ (m := b.1) (n := o.1) rfl rfl (by omega)) (qx (fun w' hw' => a8 Try.underlying45 rfl rfl rfl rfl) (qx (fun w' hw' => af bc rfl (bx15.bel hw') rfl) (qx (fun w' hw' => a8 Try.underlying45 rfl rfl rfl rfl) (qx (fun w' hw' => af bc rfl (bx5.bel hw') rfl) (qx (fun w' hw' => cZ (m := b.2) (n := o.2) rfl rfl (by omega)) (qv (vi (a.1 - o.1)) (fun w' hw' => bP rfl) ?_)))))))))
 refine qv (vi (a.2 - o.2)) (fun w' hw' => bP rfl) (qv (vi (b.1 - o.1)) (fun w' hw' => bP rfl) (qv (vi (b.2 - o.2)) (fun w' hw' => bP rfl) (dp ?_)))
 intro w19 hc20
 replace hc20 := ak hc20 g14
 refine a7 ?_
 clear bx5 bx10 bx15
 refine a6 rfl (mi (a.1 - o.1) (mi (b.2 - o.2) (lx (cP (m := a.1 - o.1) (n := b.2 - o.2) rfl rfl (by omega)) (mi (a.2 - o.2) (mi (b.1 - o.1) (lx (cP (m := a.2 - o.2) (n := b.1 - o.1) rfl rfl (by omega)) (lx (bO (m := (a.1 - o.1) * (b.2 - o.2)) (n := (a.2 - o.2) * (b.1 - o.1)) rfl rfl) (mv (Value.bool (decide (((a.1 - o.1) * (b.2 - o.2)) = ((a.2 - o.2) * (b.1 - o.1))))) ?_))))))))
 by_cases q38 : ((a.1 - o.1) * (b.2 - o.2)) = ((a.2 - o.2) * (b.1 - o.1))
 ·
  refine lv (vi (a.1 - o.1)) (wy (dt q38)) (aI rfl) (lv (vi (b.1 - o.1)) (wy (dt q38)) (aI rfl) (lv (vi ((a.1 - o.1) * (b.1 - o.1))) (wy (dt q38)) (cP (m := a.1 - o.1) (n := b.1 - o.1) rfl rfl (by omega)) (lv (vi (a.2 - o.2)) (wy (dt q38)) (aI rfl) (lv (vi (b.2 - o.2)) (wy (dt q38)) (aI rfl) (lv (vi ((a.2 - o.2) * (b.2 - o.2))) (wy (dt q38)) (cP (m := a.2 - o.2) (n := b.2 - o.2) rfl rfl (by omega)) (lv (vi (((a.1 - o.1) * (b.1 - o.1)) + ((a.2 - o.2) * (b.2 - o.2)))) (wy (dt q38)) (aT (m := (a.1 - o.1) * (b.1 - o.1)) (n := (a.2 - o.2) * (b.2 - o.2)) rfl rfl (by omega)) ?_))))))
  refine lv (Value.bool (decide (0 < (((a.1 - o.1) * (b.1 - o.1)) + ((a.2 - o.2) * (b.2 - o.2)))))) (wy (dt q38)) (bQ (m := ((a.1 - o.1) * (b.1 - o.1)) + ((a.2 - o.2) * (b.2 - o.2))) (n := 0) rfl rfl) (lw (Value.bool (decide (0 < (((a.1 - o.1) * (b.1 - o.1)) + ((a.2 - o.2) * (b.2 - o.2)))))) (au rfl (dt q38) rfl) (ma (Value.bool (decide (0 < (((a.1 - o.1) * (b.1 - o.1)) + ((a.2 - o.2) * (b.2 - o.2)))))) (aa (al (vs := [Value.bool (decide (0 < (((a.1 - o.1) * (b.1 - o.1)) + ((a.2 - o.2) * (b.2 - o.2)))))]) Try.func30 (.tmp rfl .nil) ?_))))
  have e0 : (decide (0 < (((a.1 - o.1) * (b.1 - o.1)) + ((a.2 - o.2) * (b.2 - o.2)))) : Bool) = (decide (dM (aS a o) (aS b o))) := by
    exact rU ‹_›
  have C21 := cg [] (ch2.n.seq (ch7.n.seq (ch12.n.seq (ch16.n.seq hc20.n))))
  replace bH := bH.ca C21
  exact ⟨(congrArg (a₁ := decide (0 < (((a.1 - o.1) * (b.1 - o.1)) + ((a.2 - o.2) * (b.2 - o.2))))) (fun (z0 : Bool) => Ending.returned (Value.bool z0)) e0), bH.below⟩
 refine ae (wn (df q38)) (ae (wn (df q38)) (ae (wn (df q38)) (ae (wn (df q38)) (ae (wn (df q38)) (ae (wn (df q38)) (ae (wn (df q38)) (ae (wn (df q38)) (lw (Value.bool false) (aD rfl (df q38) rfl) (ma (Value.bool false) ?_)))))))))
 refine aa (al (vs := [Value.bool false]) Try.func30 (.tmp rfl .nil) ?_)
 have e0 : (false : Bool) = (decide (dM (aS a o) (aS b o))) := by
   exact sa ‹_›
 have C22 := cg [] (ch2.n.seq (ch7.n.seq (ch12.n.seq (ch16.n.seq hc20.n))))
 replace bH := bH.ca C22
 exact ⟨(congrArg (a₁ := false) (fun (z0 : Bool) => Ending.returned (Value.bool z0)) e0), bH.below⟩
end TL
