import Derived.Test.YtbadiajeohbpcaaTlP2
import Derived.Test.YtbadiajeohbpcaaTlGenA
import Derived.Test.YtbadiajeohbpcaaTlGjA
import Derived.Test.YtbadiajeohbpcaaTlGjB
import Derived.Test.YtbadiajeohbpcaaTlGjC
import Derived.Test.YtbadiajeohbpcaaTlGjD
import Derived.Test.YtbadiajeohbpcaaTlGjE
import Derived.Test.YtbadiajeohbpcaaTlGjT
import Derived.Test.YtbadiajeohbpcaaProg
set_option linter.all false
set_option maxRecDepth 20000
namespace TL
open Go Go.Proofs
theorem iC : Try.prog.follows .mixedOrders = true := by kernel_rfl
theorem su : Try.f8.body.isNone = false := rfl
theorem sU : (Try.f8.name == "runtime.NumGoroutine") = false := by decide +kernel
theorem sS : Try.f9.body.isNone = false := rfl
theorem th : (Try.f9.name == "runtime.NumGoroutine") = false := by decide +kernel
theorem rD : Try.f23.body.isNone = false := rfl
theorem q9 : (Try.f23.name == "runtime.NumGoroutine") = false := by decide +kernel
set_option maxHeartbeats 8000000 in
theorem iI (w0 : World) (g : (Int) × (List ((Int) × (Int)))) (g_v : Value) (hg_v : Ro w0 g_v g.2) (p : (List ((Int) × (Int))) × (List (List ((Int) × (Int))))) (p_v p_v1 : Value) (hp_v : Ro w0 p_v p.1) (hp_v1 : Ro w0 p_v1 p.2) (hb : sI p) :
    Calls Try.prog 6 #[vg [vi g.1, g_v], vg [p_v, p_v1]] w0 (fun ee w => ee = .returned (Value.bool true) ∧ cT w0.heap.size w0 w) := by
 refine aB Try.func6 rfl (Nat.le_of_ble_eq_true rfl) ?_
 have bH := b9.start w0
 have Rg := hg_v.sl
 have Rp := hp_v.sl
 have r_p_v1 := hp_v1.sl
 obtain ⟨⟨hb1, hb2, hb3⟩, hb4, hb5⟩ := hb
 refine a7 (a6 rfl (bQ rfl (bA c0 (is 1) (1, 0) rfl rfl ?_)))
 intro g4 w1 b3 ch2 bx5
 replace bx5 : Bx g4 (is 1) w1 b3 [vi g.1, g_v] := bx5
 refine lo (bA g4 (is 2) (2, 0) rfl rfl ?_)
 intro g9 w6 b8 ch7 bx10
 replace bx10 : Bx g9 (is 2) w6 b8 [p_v, p_v1] := bx10
 refine ma (Value.bool false) (aa (a7 (a7 (a6 rfl (bQ rfl (aD (v := Value.bool true) (av (vals := []) Try.func8 su sU rfl) (lq w6 ) ?_))))))
 intro w11 hb12
 replace hb12 := ak hb12 g9
 refine lx (cY (b := true) rfl) (aa (aj rfl rfl (am (a7 (a7 (a6 rfl ?_))))))
 replace bx5 := (bx5.cn ch7).cn hb12
 refine lx (ab (ds := [vi g.1, g_v]) ct rfl bx5 rfl rfl) ?_
 replace bx10 := bx10.cn hb12
 refine lx (ab (ds := [p_v, p_v1]) ch rfl bx10 rfl rfl) ?_
 have C13 := cg [] (ch2.n.seq (ch7.n.seq hb12.n))
 replace Rg := Rg.ca C13
 replace Rp := Rp.ca C13
 replace r_p_v1 := r_p_v1.ca C13
 refine lo (aD (v := Value.bool (decide (dF g p))) (av (vals := [vg [vi g.1, g_v], vg [p_v, p_v1]]) Try.func9 sS th rfl) (lj w11 g g_v (Rg).ro p p_v p_v1 (Rp).ro (r_p_v1).ro ‹_› ‹_› ‹_›) ?_)
 intro w14 hb15
 replace hb15 := ak hb15 g9
 refine lx (cY (b := (decide (dF g p))) rfl) (aa ?_)
 by_cases p3 : (decide (dF g p)) = true
 ·
  obtain ⟨hfew, ⟨hp4, hp5⟩, hp6⟩ := np (of_decide_eq_true p3)
  refine aj rfl (congrArg Bool.not p3) (am (a7 (a6 rfl (lw (vg [vn, vn]) (bM (vs := []) rfl (by kernel_rfl)) (lo (aR g9 (is 3) (3, 0) rfl ch ?_))))))
  intro g19 w16 b18 ch17 bx20
  replace bx20 : Bx g19 (is 3) w16 b18 [vn, vn] := bx20
  refine lo (ag (cs' := [vn, vn]) ch rfl rfl bx20 rfl (Nat.le_of_ble_eq_true rfl) (AllOne.all (.cons rfl (.cons rfl .nil))) rfl ?_)
  intro w21 ch22 bx23
  clear bx20
  refine aa (a7 (a7 (a6 rfl (ai 0 (aa (au ?_))))))
  refine aZ (σ := Value × (List ((Int) × (Int))) × Nat × aM) (fun ⟨qA_v, qA, v, gq⟩ f w => b9 w0 gq w ∧ f 2 = vp b3 0 ∧ f 3 = vp b8 0 ∧ f 5 = vp b18 0 ∧ f 6 = vi (v : Int) ∧ Sl gq (is 0) w g_v g.2 ∧ Sl gq (is 0) w p_v p.1 ∧ Sl gq (is 0) w p_v1 p.2 ∧ Bx gq (is 1) w b3 [vi g.1, g_v] ∧ Bx gq (is 2) w b8 [p_v, p_v1] ∧ Bx gq (is 3) w b18 [qA_v, vn] ∧ Ow gq (is 5) (is 5) w qA_v qA ∧ (v : Int) ≤ ((p.1.length : Int) : Int) ∧ (qA = (p.1.take v).map bF)) (fun ⟨qA_v, qA, v, gq⟩ => Int.toNat (((p.1.length : Int) : Int) - (v : Int))) (vn, [], 0, g19) ?_ ?_
  have C25 := cg [3] (hb15.n.seq (ch17.n.seq (ch22.l rfl)))
  have C24 := ch2.n.seq (ch7.n.seq (hb12.n.seq C25))
  · exact ⟨bH.ca C24, rfl, rfl, rfl, rfl, Rg.ca C25, Rp.ca C25, r_p_v1.ca C25, bx5.ca C25, bx10.ca C25, bx23, Ow.nil, by omega, by rfl⟩
  clear Rg Rp r_p_v1 bx5 bx10 bx23 bH
  rintro ⟨qA_v, qA, v, g28⟩ f26 w27 ⟨bH, zs2, zs3, zs5, zs6, Rg, Rp, r_p_v1, bx5, bx10, bx23, o_qA, hle_v, hqa⟩ back7
  have hal := pD hqa
  refine a7 (a7 (a6 rfl (mz zs6 (lx (a8 Try.underlying28 rfl rfl zs3 rfl) (lx (af bb rfl bx10 rfl) ?_)))))
  have len29 := (Rp).small
  refine lx (b6 Try.underlying25 rfl Rp) (lx (b5 (m := (v : Int)) (n := (p.1.length : Int)) rfl rfl) (aa ?_))
  by_cases p7 : (v : Int) < (p.1.length : Int)
  ·
   refine ah rfl (dt p7) ?_
   obtain ⟨⟨hr1, hr2⟩, hr3, hr4⟩ := hb4 _ (bf (xs := p.1) (i := (v : Int)) (by omega) ‹_›)
   refine am (a7 (au (a7 (a7 (a6 rfl (lx (a8 Try.underlying28 rfl rfl zs3 rfl) (lx (af bb rfl bx10 rfl) (mz zs6 (lx (ao (v := p_v) (i := (v : Int)) Try.underlying25 rfl rfl Rp rfl (by omega) (by omega)) (lw (Value.pointer (some ⟨(bh p_v 2 (Int.toNat (v : Int))).block, (bh p_v 2 (Int.toNat (v : Int))).off + 1, none⟩)) (cS Try.underlying45 rfl rfl rfl rfl) (lx (cz (v := p_v) (i := (v : Int)) ar rfl Rp (by omega) (by omega) (by decide) rfl) ?_)))))))))))
   refine lx (bN (m := (gI p.1 (v : Int)).2) (n := -9223372036854775808) rfl rfl) (aa ?_)
   by_cases p9 : ((gI p.1 (v : Int)).2) = (-9223372036854775808)
   ·
    refine ah rfl (dt p9) (a7 ?_)
    clear bx5 bx10 bx23 o_qA
    refine a6 rfl (ma (Value.bool true) (aa (al (vs := [Value.bool true]) Try.func6 (.tmp rfl .nil) ?_)))
    have e0 : (true : Bool) = (true) := by
      rfl
    exact ⟨(congrArg (a₁ := true) (fun (z0 : Bool) => Ending.returned (Value.bool z0)) e0), bH.below⟩
   refine aj rfl (df p9) (am ?_)
   refine ll (σ := Value × aM) (fun ⟨v39, gq⟩ f w => b9 w0 gq w ∧ f 2 = vp b3 0 ∧ f 3 = vp b8 0 ∧ f 5 = vp b18 0 ∧ f 6 = vi (v : Int) ∧ Sl gq (is 0) w g_v g.2 ∧ Sl gq (is 0) w p_v p.1 ∧ Sl gq (is 0) w p_v1 p.2 ∧ Bx gq (is 1) w b3 [vi g.1, g_v] ∧ Bx gq (is 2) w b8 [p_v, p_v1] ∧ Ow gq (is 5) (is 5) w v39 (qA ++ ([((-((gI p.1 (v : Int)).2)), ((gI p.1 (v : Int)).1))] : List ((Int) × (Int)))) ∧ Bx gq (is 3) w b18 [v39, vn]) g28 [0, 2, 3, 4, 5, 6, 7, 8, 9, 10, 11, 12, 13, 14, 18] iC ?_ ?_
   ·
    intro mid
    intro w31 ch30
    refine xp 0 rfl (fun w => a8 Try.underlying28 rfl rfl zs5 rfl) (xp 2 rfl (fun w => a8 Try.underlying28 rfl rfl zs3 rfl) ?_)
    replace bx10 := bx10.cn ch30
    refine xh 3 [2, 0, 1, 4, 9, 11, 10, 12, 13, 14] rfl (fun w' hw' => af bb rfl (bx10.bel hw') rfl) (xp (v := vi (v : Int)) 4 rfl (fun w => aH zs6) ?_)
    replace Rp := Rp.cn ch30
    refine xh 5 [4, 3, 2, 0, 1, 9, 11, 10, 12, 13, 14] rfl (fun w' hw' => ao (v := p_v) (i := (v : Int)) Try.underlying25 rfl rfl (Rp.bel hw') rfl (by omega) (by omega)) (xp (v := Value.pointer (some ⟨(bh p_v 2 (Int.toNat (v : Int))).block, (bh p_v 2 (Int.toNat (v : Int))).off + 1, none⟩)) 6 rfl (fun w => cS Try.underlying45 rfl rfl rfl rfl) (xh 7 [6, 5, 4, 3, 2, 0, 1, 9, 11, 10, 12, 13, 14] rfl (fun w' hw' => cz (v := p_v) (i := (v : Int)) ar rfl (Rp.bel hw') (by omega) (by omega) (by decide) rfl) (xp (v := vi (-((gI p.1 (v : Int)).2))) 8 rfl (fun w => s4 (m := (gI p.1 (v : Int)).2) rfl (by omega)) (xp 9 rfl (fun w => a8 Try.underlying28 rfl rfl zs3 rfl) (xh 10 [9, 8, 7, 6, 5, 4, 3, 2, 0, 1, 11] rfl (fun w' hw' => af bb rfl (bx10.bel hw') rfl) ?_)))))
    refine xp (v := vi (v : Int)) 11 rfl (fun w => aH zs6) (xh 12 [11, 10, 9, 8, 7, 6, 5, 4, 3, 2, 0, 1] rfl (fun w' hw' => ao (v := p_v) (i := (v : Int)) Try.underlying25 rfl rfl (Rp.bel hw') rfl (by omega) (by omega)) (xp (v := Value.pointer (some ⟨(bh p_v 2 (Int.toNat (v : Int))).block, (bh p_v 2 (Int.toNat (v : Int))).off + 0, none⟩)) 13 rfl (fun w => cS Try.underlying45 rfl rfl rfl rfl) (xh 14 [13, 12, 11, 10, 9, 8, 7, 6, 5, 4, 3, 2, 0, 1] rfl (fun w' hw' => cz (v := p_v) (i := (v : Int)) ar rfl (Rp.bel hw') (by omega) (by omega) (by decide) rfl) ?_)))
    refine s9 1 15 rfl rfl (by kernel_rfl) rfl rfl ?_ ?_
    ·
     replace bx23 := bx23.cn ch30
     refine aF (v := qA_v) (af bb rfl bx23 rfl) (e7 15 rfl (by kernel_rfl) rfl (aD (v := vg [vi (-((gI p.1 (v : Int)).2)), vi ((gI p.1 (v : Int)).1)]) (av (vals := [vi (-((gI p.1 (v : Int)).2)), vi ((gI p.1 (v : Int)).1)]) Try.func18 dq dv rfl) (dr w31 (-((gI p.1 (v : Int)).2)) ((gI p.1 (v : Int)).1)) ?_))
     intro w32 hb33
     replace hb33 := ak hb33 g28
     refine e7 16 rfl (by kernel_rfl) rfl (aJ (α := (Int) × (Int)) g28 (is 4) (is 4) (4, 0) rfl ([((-((gI p.1 (v : Int)).2)), ((gI p.1 (v : Int)).1))] : List ((Int) × (Int))) Try.underlying25 ad (by decide) (by decide) (vs := [(0, vg [vi (-((gI p.1 (v : Int)).2)), vi ((gI p.1 (v : Int)).1)])]) rfl rfl (.cons rfl .nil) ?_)
     intro g34 w35 v36 ch37 o38
     refine e7 17 rfl (by kernel_rfl) rfl ?_
     have C39 := cg [] (ch30.n.seq (hb33.n.seq ch37.n))
     replace o_qA := o_qA.ca C39
     refine bg (α := (Int) × (Int)) (xs := qA) (ys := ([((-((gI p.1 (v : Int)).2)), ((gI p.1 (v : Int)).1))] : List ((Int) × (Int)))) g34 (J := is 5) (S := is 5) (5, 0) rfl Try.underlying25 ad (by decide) rfl rfl rfl o_qA o38.flat (by decide) (by (simp; omega)) ?_
     intro g40 w41 v42 ch43 o44
     clear o_qA
     refine xp 18 rfl (fun w => a8 Try.underlying28 rfl rfl zs5 rfl) (e7 19 rfl (by kernel_rfl) rfl ?_)
     have C48 := cg [5] (hb33.n.seq (ch37.n.seq (ch43.l rfl)))
     replace bx23 := bx23.ca C48
     refine bx (cs' := [v42, vn]) bb rfl rfl bx23 (bB o44.flat) (Nat.le_of_ble_eq_true rfl) (c3 o44.flat) rfl ?_
     intro w45 ch46 bx47
     clear bx23
     refine kv (by kernel_rfl) ?_
     have C50 := cg [3, 5] (hb33.n.seq (ch37.n.seq ((ch43.l rfl).seq (ch46.l rfl))))
     have C49 := ch30.n.seq C50
     exact mid (v42, g40) _ _ ⟨bH.ca C49, zs2, zs3, zs5, zs6, Rg.ca C49, Rp.ca C50, r_p_v1.ca C49, bx5.ca C49, bx10.ca C50, o44.ce ch46, bx47⟩
    ·
     refine aD (v := vg [vi (-((gI p.1 (v : Int)).2)), vi ((gI p.1 (v : Int)).1)]) (av (vals := [vi (-((gI p.1 (v : Int)).2)), vi ((gI p.1 (v : Int)).1)]) Try.func18 dq dv rfl) (dr w31 (-((gI p.1 (v : Int)).2)) ((gI p.1 (v : Int)).1)) ?_
     intro w51 hb52
     replace hb52 := ak hb52 g28
     refine s9 1 16 rfl rfl (by kernel_rfl) rfl rfl ?_ ?_
     ·
      replace bx23 := (bx23.cn ch30).cn hb52
      refine aF (v := qA_v) (af bb rfl bx23 rfl) (e7 16 rfl (by kernel_rfl) rfl (aJ (α := (Int) × (Int)) g28 (is 4) (is 4) (4, 0) rfl ([((-((gI p.1 (v : Int)).2)), ((gI p.1 (v : Int)).1))] : List ((Int) × (Int))) Try.underlying25 ad (by decide) (by decide) (vs := [(0, vg [vi (-((gI p.1 (v : Int)).2)), vi ((gI p.1 (v : Int)).1)])]) rfl rfl (.cons rfl .nil) ?_))
      intro g53 w54 v55 ch56 o57
      refine e7 17 rfl (by kernel_rfl) rfl ?_
      have C58 := cg [] (ch30.n.seq (hb52.n.seq ch56.n))
      replace o_qA := o_qA.ca C58
      refine bg (α := (Int) × (Int)) (xs := qA) (ys := ([((-((gI p.1 (v : Int)).2)), ((gI p.1 (v : Int)).1))] : List ((Int) × (Int)))) g53 (J := is 5) (S := is 5) (5, 0) rfl Try.underlying25 ad (by decide) rfl rfl rfl o_qA o57.flat (by decide) (by (simp; omega)) ?_
      intro g59 w60 v61 ch62 o63
      clear o_qA
      refine xp 18 rfl (fun w => a8 Try.underlying28 rfl rfl zs5 rfl) (e7 19 rfl (by kernel_rfl) rfl ?_)
      replace bx23 := (bx23.cn ch56).ce ch62
      refine bx (cs' := [v61, vn]) bb rfl rfl bx23 (bB o63.flat) (Nat.le_of_ble_eq_true rfl) (c3 o63.flat) rfl ?_
      intro w64 ch65 bx66
      clear bx23
      refine kv (by kernel_rfl) ?_
      have C68 := cg [3, 5] (hb52.n.seq (ch56.n.seq ((ch62.l rfl).seq (ch65.l rfl))))
      have C67 := ch30.n.seq C68
      exact mid (v61, g59) _ _ ⟨bH.ca C67, zs2, zs3, zs5, zs6, Rg.ca C67, Rp.ca C68, r_p_v1.ca C67, bx5.ca C67, bx10.ca C68, o63.ce ch65, bx66⟩
     ·
      refine aJ (α := (Int) × (Int)) g28 (is 4) (is 4) (4, 0) rfl ([((-((gI p.1 (v : Int)).2)), ((gI p.1 (v : Int)).1))] : List ((Int) × (Int))) Try.underlying25 ad (by decide) (by decide) (vs := [(0, vg [vi (-((gI p.1 (v : Int)).2)), vi ((gI p.1 (v : Int)).1)])]) rfl rfl (.cons rfl .nil) ?_
      intro g69 w70 v71 ch72 o73
      have C74 := cg [] (ch30.n.seq (hb52.n.seq ch72.n))
      replace bx23 := bx23.ca C74
      refine e7 1 rfl (by kernel_rfl) rfl (aF (v := qA_v) (af bb rfl bx23 rfl) (e7 17 rfl (by kernel_rfl) rfl ?_))
      replace o_qA := o_qA.ca C74
      refine bg (α := (Int) × (Int)) (xs := qA) (ys := ([((-((gI p.1 (v : Int)).2)), ((gI p.1 (v : Int)).1))] : List ((Int) × (Int)))) g69 (J := is 5) (S := is 5) (5, 0) rfl Try.underlying25 ad (by decide) rfl rfl rfl o_qA o73.flat (by decide) (by (simp; omega)) ?_
      intro g75 w76 v77 ch78 o79
      clear o_qA
      refine xp 18 rfl (fun w => a8 Try.underlying28 rfl rfl zs5 rfl) (e7 19 rfl (by kernel_rfl) rfl ?_)
      replace bx23 := bx23.ce ch78
      refine bx (cs' := [v77, vn]) bb rfl rfl bx23 (bB o79.flat) (Nat.le_of_ble_eq_true rfl) (c3 o79.flat) rfl ?_
      intro w80 ch81 bx82
      clear bx23
      refine kv (by kernel_rfl) ?_
      have C84 := cg [3, 5] (hb52.n.seq (ch72.n.seq ((ch78.l rfl).seq (ch81.l rfl))))
      have C83 := ch30.n.seq C84
      exact mid (v77, g75) _ _ ⟨bH.ca C83, zs2, zs3, zs5, zs6, Rg.ca C83, Rp.ca C84, r_p_v1.ca C83, bx5.ca C83, bx10.ca C84, o79.ce ch81, bx82⟩
   clear Rg Rp r_p_v1 bx5 bx10 bx23 o_qA bH
   rintro ⟨v39, g87⟩ f85 w86 ⟨bH, zs2, zs3, zs5, zs6, Rg, Rp, r_p_v1, bx5, bx10, o41, bx44⟩
   refine aq (a6 rfl (mz zs6 (lx (aV (m := (v : Int)) (n := 1) rfl rfl (by omega)) (ai ((v : Int) + 1) (aa ?_)))))
   refine back7 (v39, (qA ++ ([((-((gI p.1 (v : Int)).2)), ((gI p.1 (v : Int)).1))] : List ((Int) × (Int)))), v + 1, g87) _ _ ⟨bH, zs2, zs3, zs5, rfl, Rg, Rp, r_p_v1, bx5, bx10, bx44, o41, by omega, ?_⟩ ?_
   · show (qA ++ ([((-((gI p.1 (v : Int)).2)), ((gI p.1 (v : Int)).1))] : List ((Int) × (Int)))) = (p.1.take (v + 1)).map bF
     exact lN hqa ‹_›
   · show Int.toNat (((p.1.length : Int) : Int) - ((v + 1) : Int)) < Int.toNat (((p.1.length : Int) : Int) - (v : Int))
     omega
  refine aj rfl (df p7) (aS rfl (a7 (a7 (a6 rfl (ai 0 (aa (au ?_)))))))
  refine aZ (σ := Value × (List (List ((Int) × (Int)))) × Nat × aM) (fun ⟨qL_v, qL, e, gq⟩ f w => b9 w0 gq w ∧ f 2 = vp b3 0 ∧ f 3 = vp b8 0 ∧ f 5 = vp b18 0 ∧ f 7 = vi (e : Int) ∧ Sl gq (is 0) w g_v g.2 ∧ Sl gq (is 0) w p_v p.1 ∧ Sl gq (is 0) w p_v1 p.2 ∧ Bx gq (is 1) w b3 [vi g.1, g_v] ∧ Bx gq (is 2) w b8 [p_v, p_v1] ∧ Bx gq (is 3) w b18 [qA_v, qL_v] ∧ Ow gq (is 5) (is 5) w qA_v qA ∧ dG gq 9 w qL_v qL ∧ (e : Int) ≤ ((p.2.length : Int) : Int) ∧ (qL = (p.2.take e).map (List.map bF))) (fun ⟨qL_v, qL, e, gq⟩ => Int.toNat (((p.2.length : Int) : Int) - (e : Int))) (vn, [], 0, g28) ?_ ?_
  · exact ⟨bH, zs2, zs3, zs5, rfl, Rg, Rp, r_p_v1, bx5, bx10, bx23, o_qA, dG.nil, by omega, by rfl⟩
  clear Rg Rp r_p_v1 bx5 bx10 bx23 o_qA bH
  rintro ⟨qL_v, qL, e, g90⟩ f88 w89 ⟨bH, zs2, zs3, zs5, zs7, Rg, Rp, r_p_v1, bx5, bx10, bx23, o_qA, o_qL, hle_e, hql⟩ back13
  have hbl := sF hql
  refine a7 (a7 (a6 rfl (mz zs7 (lx (a8 Try.underlying28 rfl rfl zs3 rfl) (lx (af bY rfl bx10 rfl) ?_)))))
  have len91 := (r_p_v1).small
  refine lx (b6 Try.underlying26 rfl r_p_v1) (lx (b5 (m := (e : Int)) (n := (p.2.length : Int)) rfl rfl) (aa ?_))
  by_cases p13 : (e : Int) < (p.2.length : Int)
  ·
   refine ah rfl (dt p13) ?_
   have hle := hp6 (e : Int) (by omega) ‹_›
   refine am (a7 (au (a7 (a6 rfl (ma vn (aa (a7 (a7 (a6 rfl (ai 0 (aa (au ?_))))))))))))
   refine aZ (σ := Value × (List ((Int) × (Int))) × Nat × aM) (fun ⟨l_v, l, k, gq⟩ f w => b9 w0 gq w ∧ f 2 = vp b3 0 ∧ f 3 = vp b8 0 ∧ f 5 = vp b18 0 ∧ f 7 = vi (e : Int) ∧ f 8 = l_v ∧ f 9 = vi (k : Int) ∧ Sl gq (is 0) w g_v g.2 ∧ Sl gq (is 0) w p_v p.1 ∧ Sl gq (is 0) w p_v1 p.2 ∧ Bx gq (is 1) w b3 [vi g.1, g_v] ∧ Bx gq (is 2) w b8 [p_v, p_v1] ∧ Bx gq (is 3) w b18 [qA_v, qL_v] ∧ Ow gq (is 5) (is 5) w qA_v qA ∧ dG gq 9 w qL_v qL ∧ Ow gq (is 7) (is 7) w l_v l ∧ (k : Int) ≤ ((List.length (gI p.2 (e : Int)) : Int) : Int) ∧ (l = ((gI p.2 (e : Int)).take k).map bF)) (fun ⟨l_v, l, k, gq⟩ => Int.toNat (((List.length (gI p.2 (e : Int)) : Int) : Int) - (k : Int))) (vn, [], 0, g90) ?_ ?_
   · exact ⟨bH, zs2, zs3, zs5, zs7, rfl, rfl, Rg, Rp, r_p_v1, bx5, bx10, bx23, o_qA, o_qL, Ow.nil, by omega, by simp⟩
   clear Rg Rp r_p_v1 bx5 bx10 bx23 o_qA o_qL bH
   rintro ⟨l_v, l, k, g94⟩ f92 w93 ⟨bH, zs2, zs3, zs5, zs7, zs8, zs9, Rg, Rp, r_p_v1, bx5, bx10, bx23, o_qA, o_qL, o_l, hle_k, hqk⟩ back17
   have hcl := pD hqk
   refine a7 (a7 (a6 rfl (mz zs9 (lx (a8 Try.underlying28 rfl rfl zs3 rfl) (lx (af bY rfl bx10 rfl) (mz zs7 (lx (ao (v := p_v1) (i := (e : Int)) Try.underlying26 rfl rfl r_p_v1 rfl (by omega) (by omega)) ?_)))))))
   obtain ⟨v95, cel96, r97⟩ := di (r := (e : Int)) r_p_v1 (by omega) (by omega)
   refine lx (bR bb rfl cel96) ?_
   have len98 := (r97).small
   refine lx (b6 Try.underlying25 rfl r97) (lx (b5 (m := (k : Int)) (n := (List.length (gI p.2 (e : Int)) : Int)) rfl rfl) (aa ?_))
   by_cases p17 : (k : Int) < (List.length (gI p.2 (e : Int)) : Int)
   ·
    refine ah rfl (dt p17) ?_
    obtain ⟨⟨hr1, hr2⟩, hr3, hr4⟩ := hb5 _ (bf (xs := p.2) (i := (e : Int)) (by omega) ‹_›) _ (bf (xs := gI p.2 (e : Int)) (i := (k : Int)) (by omega) ‹_›)
    refine am (a7 (au (a7 (a7 ?_))))
    clear r97
    refine a6 rfl (lx (a8 Try.underlying28 rfl rfl zs3 rfl) (lx (af bY rfl bx10 rfl) (mz zs7 (lx (ao (v := p_v1) (i := (e : Int)) Try.underlying26 rfl rfl r_p_v1 rfl (by omega) (by omega)) ?_))))
    obtain ⟨v99, cel100, r101⟩ := di (r := (e : Int)) r_p_v1 (by omega) (by omega)
    refine lx (bR bb rfl cel100) (mz zs9 (lx (ao (v := v99) (i := (k : Int)) Try.underlying25 rfl rfl r101 rfl (by omega) (by omega)) (lw (Value.pointer (some ⟨(bh v99 2 (Int.toNat (k : Int))).block, (bh v99 2 (Int.toNat (k : Int))).off + 1, none⟩)) (cS Try.underlying45 rfl rfl rfl rfl) (lx (cz (v := v99) (i := (k : Int)) ar rfl r101 (by omega) (by omega) (by decide) rfl) (lx (bN (m := (gI (gI p.2 (e : Int)) (k : Int)).2) (n := -9223372036854775808) rfl rfl) (aa ?_))))))
    by_cases p19 : ((gI (gI p.2 (e : Int)) (k : Int)).2) = (-9223372036854775808)
    ·
     refine ah rfl (dt p19) (a7 ?_)
     clear bx5 bx10 bx23 o_qA o_qL o_l r101
     refine a6 rfl (ma (Value.bool true) (aa (al (vs := [Value.bool true]) Try.func6 (.tmp rfl .nil) ?_)))
     have e0 : (true : Bool) = (true) := by
       rfl
     exact ⟨(congrArg (a₁ := true) (fun (z0 : Bool) => Ending.returned (Value.bool z0)) e0), bH.below⟩
    refine aj rfl (df p19) (am ?_)
    clear r101
    refine eX g94 [0, 1, 2, 3, 4, 5, 6, 7, 8, 9, 10, 11, 12, 13, 14, 15, 16, 17, 18, 19, 23] iC ?_
    intro w103 ch102
    refine xp (v := l_v) 0 rfl (fun w => aH zs8) (xp 1 rfl (fun w => a8 Try.underlying28 rfl rfl zs3 rfl) ?_)
    replace bx10 := bx10.cn ch102
    refine xv 2 [1, 0, 3, 6, 11, 13, 16, 12, 14, 15, 17, 18, 19] rfl (af bY rfl bx10 rfl) (xp (v := vi (e : Int)) 3 rfl (fun w => aH zs7) ?_)
    replace r_p_v1 := r_p_v1.cn ch102
    refine xv 4 [3, 2, 1, 0, 6, 11, 13, 16, 12, 14, 15, 17, 18, 19] rfl (ao (v := p_v1) (i := (e : Int)) Try.underlying26 rfl rfl r_p_v1 rfl (by omega) (by omega)) ?_
    obtain ⟨v104, cel105, r106⟩ := di (r := (e : Int)) r_p_v1 (by omega) (by omega)
    refine xv 5 [4, 3, 2, 1, 0, 6, 11, 13, 16, 12, 14, 15, 17, 18, 19] rfl (bR bb rfl cel105) (xp (v := vi (k : Int)) 6 rfl (fun w => aH zs9) (xv 7 [6, 5, 4, 3, 2, 1, 0, 11, 13, 16, 12, 14, 15, 17, 18, 19] rfl (ao (v := v104) (i := (k : Int)) Try.underlying25 rfl rfl r106 rfl (by omega) (by omega)) (xp (v := Value.pointer (some ⟨(bh v104 2 (Int.toNat (k : Int))).block, (bh v104 2 (Int.toNat (k : Int))).off + 1, none⟩)) 8 rfl (fun w => cS Try.underlying45 rfl rfl rfl rfl) (xv 9 [8, 7, 6, 5, 4, 3, 2, 1, 0, 11, 13, 16, 12, 14, 15, 17, 18, 19] rfl (cz (v := v104) (i := (k : Int)) ar rfl r106 (by omega) (by omega) (by decide) rfl) (xp (v := vi (-((gI (gI p.2 (e : Int)) (k : Int)).2))) 10 rfl (fun w => s4 (m := (gI (gI p.2 (e : Int)) (k : Int)).2) rfl (by omega)) ?_)))))
    refine xp 11 rfl (fun w => a8 Try.underlying28 rfl rfl zs3 rfl) (xv 12 [11, 10, 9, 8, 7, 6, 5, 4, 3, 2, 1, 0, 13, 16] rfl (af bY rfl bx10 rfl) (xp (v := vi (e : Int)) 13 rfl (fun w => aH zs7) (xv 14 [13, 12, 11, 10, 9, 8, 7, 6, 5, 4, 3, 2, 1, 0, 16] rfl (ao (v := p_v1) (i := (e : Int)) Try.underlying26 rfl rfl r_p_v1 rfl (by omega) (by omega)) ?_)))
    obtain ⟨v107, cel108, r109⟩ := di (r := (e : Int)) r_p_v1 (by omega) (by omega)
    refine xv 15 [14, 13, 12, 11, 10, 9, 8, 7, 6, 5, 4, 3, 2, 1, 0, 16] rfl (bR bb rfl cel108) (xp (v := vi (k : Int)) 16 rfl (fun w => aH zs9) (xv 17 [16, 15, 14, 13, 12, 11, 10, 9, 8, 7, 6, 5, 4, 3, 2, 1, 0] rfl (ao (v := v107) (i := (k : Int)) Try.underlying25 rfl rfl r109 rfl (by omega) (by omega)) (xp (v := Value.pointer (some ⟨(bh v107 2 (Int.toNat (k : Int))).block, (bh v107 2 (Int.toNat (k : Int))).off + 0, none⟩)) 18 rfl (fun w => cS Try.underlying45 rfl rfl rfl rfl) (xv 19 [18, 17, 16, 15, 14, 13, 12, 11, 10, 9, 8, 7, 6, 5, 4, 3, 2, 1, 0] rfl (cz (v := v107) (i := (k : Int)) ar rfl r109 (by omega) (by omega) (by decide) rfl) (e7 20 rfl (by kernel_rfl) rfl ?_)))))
    refine aD (v := vg [vi (-((gI (gI p.2 (e : Int)) (k : Int)).2)), vi ((gI (gI p.2 (e : Int)) (k : Int)).1)]) (av (vals := [vi (-((gI (gI p.2 (e : Int)) (k : Int)).2)), vi ((gI (gI p.2 (e : Int)) (k : Int)).1)]) Try.func18 dq dv rfl) (dr w103 (-((gI (gI p.2 (e : Int)) (k : Int)).2)) ((gI (gI p.2 (e : Int)) (k : Int)).1)) ?_
    intro w110 hb111
    replace hb111 := ak hb111 g94
    refine e7 21 rfl (by kernel_rfl) rfl (aJ (α := (Int) × (Int)) g94 (is 6) (is 6) (6, 0) rfl ([((-((gI (gI p.2 (e : Int)) (k : Int)).2)), ((gI (gI p.2 (e : Int)) (k : Int)).1))] : List ((Int) × (Int))) Try.underlying25 ad (by decide) (by decide) (vs := [(0, vg [vi (-((gI (gI p.2 (e : Int)) (k : Int)).2)), vi ((gI (gI p.2 (e : Int)) (k : Int)).1)])]) rfl rfl (.cons rfl .nil) ?_)
    intro g112 w113 v114 ch115 o116
    refine e7 22 rfl (by kernel_rfl) rfl ?_
    have C117 := cg [] (ch102.n.seq (hb111.n.seq ch115.n))
    replace o_l := o_l.ca C117
    refine bg (α := (Int) × (Int)) (xs := l) (ys := ([((-((gI (gI p.2 (e : Int)) (k : Int)).2)), ((gI (gI p.2 (e : Int)) (k : Int)).1))] : List ((Int) × (Int)))) g112 (J := is 7) (S := is 7) (7, 0) rfl Try.underlying25 ad (by decide) rfl rfl rfl o_l o116.flat (by decide) (by (simp; omega)) ?_
    intro g118 w119 v120 ch121 o122
    clear o_l
    refine xp (v := v120) 23 rfl (fun w => bV rfl) (kv (by kernel_rfl) (aq ?_))
    clear r106 r109 o116
    refine a6 rfl (mz zs9 (lx (aV (m := (k : Int)) (n := 1) rfl rfl (by omega)) (ai ((k : Int) + 1) (aa ?_))))
    have C124 := cg [7] (hb111.n.seq (ch115.n.seq (ch121.l rfl)))
    have C123 := ch102.n.seq C124
    refine back17 (v120, (l ++ ([((-((gI (gI p.2 (e : Int)) (k : Int)).2)), ((gI (gI p.2 (e : Int)) (k : Int)).1))] : List ((Int) × (Int)))), k + 1, g118) _ _ ⟨bH.ca C123, zs2, zs3, zs5, zs7, rfl, rfl, Rg.ca C123, Rp.ca C123, r_p_v1.ca C124, bx5.ca C123, bx10.ca C124, bx23.ca C123, o_qA.ca C123, o_qL.ca C123, o122, by omega, ?_⟩ ?_
    · show (l ++ ([((-((gI (gI p.2 (e : Int)) (k : Int)).2)), ((gI (gI p.2 (e : Int)) (k : Int)).1))] : List ((Int) × (Int)))) = ((gI p.2 (e : Int)).take (k + 1)).map bF
      exact lN hqk ‹_›
    · show Int.toNat (((List.length (gI p.2 (e : Int)) : Int) : Int) - ((k + 1) : Int)) < Int.toNat (((List.length (gI p.2 (e : Int)) : Int) : Int) - (k : Int))
      omega
   refine aj rfl (df p17) (aS rfl ?_)
   clear r97
   refine a6 rfl (lx (a8 Try.underlying28 rfl rfl zs5 rfl) (lx (af bY rfl bx23 rfl) (mz zs8 (lo ?_))))
   obtain ⟨c125, hv126⟩ := mj (u := l_v) (c3 o_l.flat)
   refine aJ (α := Vc) g94 (is 8) (is 8) (8, 0) rfl [c125] Try.underlying26 bb (by decide) (by decide) (vs := [(0, l_v)]) rfl rfl (.cons (jQ hv126 (bB o_l.flat)) .nil) ?_
   intro g127 w128 v129 ch130 o131
   refine lo ?_
   replace o_qL := o_qL.cn ch130
   replace o_l := o_l.cn ch130
   refine jS hv126 (α := (Int) × (Int)) (xss := qL) (i := 9) (γ := g127) Try.underlying26 bb rfl rfl rfl o_qL (o131.flat) o_l rfl (by decide) (by omega) ?_
   intro g132 w133 v134 ch135 o136 r137
   clear o_qL o_l
   refine lx (a8 Try.underlying28 rfl rfl zs5 rfl) (lo ?_)
   replace bx23 := (bx23.cn ch130).chg ch135 (rr rfl rfl)
   refine bx (cs' := [qA_v, v134]) bY rfl rfl bx23 (bB o136.sl) (Nat.le_of_ble_eq_true rfl) (c3 o136.sl) rfl ?_
   intro w138 ch139 bx140
   clear bx23
   refine aa (aq ?_)
   clear o131 r137
   refine a6 rfl (mz zs7 (lx (aV (m := (e : Int)) (n := 1) rfl rfl (by omega)) (ai ((e : Int) + 1) (aa ?_))))
   have C141 := cg [3, 7, 9] (ch130.n.seq ((ch135.lx rfl rfl).seq (ch139.l rfl)))
   refine back13 (v134, (qL ++ [l]), e + 1, g132) _ _ ⟨bH.ca C141, zs2, zs3, zs5, rfl, Rg.ca C141, Rp.ca C141, r_p_v1.ca C141, bx5.ca C141, bx10.ca C141, bx140, o_qA.ca C141, o136.ce ch139, by omega, ?_⟩ ?_
   · show (qL ++ [l]) = (p.2.take (e + 1)).map (List.map bF)
     exact qu hql ‹_› hqk ‹_›
   · show Int.toNat (((p.2.length : Int) : Int) - ((e + 1) : Int)) < Int.toNat (((p.2.length : Int) : Int) - (e : Int))
     omega
  refine aj rfl (df p13) (aS rfl (a7 ?_))
  have hqp := sw hqa ‹_› hql ‹_›
  have hCe : aO g (qA, qL) = aO g p := by rw [hqp]; exact nt g p
  have hTe : turnsR g (qA, qL) = turnsR g p := by rw [hqp]; exact ni hfew
  refine a6 rfl (lx (ab (ds := [vi g.1, g_v]) ct zs2 bx5 rfl rfl) (lx (ab (ds := [p_v, p_v1]) ch zs3 bx10 rfl rfl) (lo (cw (av (vals := [vg [vi g.1, g_v], vg [p_v, p_v1]]) Try.func11 iv im rfl) (gL w89 g g_v (Rg).ro p p_v p_v1 (Rp).ro (r_p_v1).ro) ?_))))
  rintro ⟨d143, v145⟩ w142 ⟨fr144, o146⟩
  obtain ⟨g147, ch148, G147⟩ := lY g90 fr144 (fun n => if n = 1 then 10 else 0)
  replace o146 := o146.gl G147 10
  refine mv (vt [v145, vi ((aO g p).2)]) (lx (aW rfl rfl) (lx (aW rfl rfl) (ma v145 (ai ((aO g p).2) (aa (a7 (a6 rfl ?_)))))))
  replace bx5 := bx5.cn ch148
  refine lx (ab (ds := [vi g.1, g_v]) ct zs2 bx5 rfl rfl) ?_
  replace bx23 := bx23.cn ch148
  refine lx (ab (ds := [qA_v, qL_v]) ch zs5 bx23 rfl rfl) ?_
  replace Rg := Rg.cn ch148
  replace o_qA := o_qA.cn ch148
  replace o_qL := o_qL.cn ch148
  refine lo (cw (av (vals := [vg [vi g.1, g_v], vg [qA_v, qL_v]]) Try.func11 iv im rfl) (gL w142 g g_v (Rg).ro (qA, qL) qA_v qL_v (o_qA.flat).ro (o_qL.sl).ro) ?_)
  rintro ⟨d150, v152⟩ w149 ⟨fr151, o153⟩
  obtain ⟨g154, ch155, G154⟩ := lY g147 fr151 (fun n => if n = 1 then 11 else 0)
  replace o153 := o153.gl G154 11
  refine mv (vt [v152, vi ((aO g (qA, qL)).2)]) (lx (aW rfl rfl) (lx (aW rfl rfl) (ma v152 (ai ((aO g (qA, qL)).2) (aa (a7 (a6 rfl ?_)))))))
  replace bx5 := bx5.cn ch155
  refine lx (ab (ds := [vi g.1, g_v]) ct zs2 bx5 rfl rfl) ?_
  replace bx10 := (bx10.cn ch148).cn ch155
  refine lx (ab (ds := [p_v, p_v1]) ch zs3 bx10 rfl rfl) ?_
  replace Rg := Rg.cn ch155
  replace Rp := (Rp.cn ch148).cn ch155
  replace r_p_v1 := (r_p_v1.cn ch148).cn ch155
  refine lo (cw (av (vals := [vg [vi g.1, g_v], vg [p_v, p_v1]]) Try.func10 jV jy rfl) (iJ w149 g g_v (Rg).ro p p_v p_v1 (Rp).ro (r_p_v1).ro (by exact hfew)) ?_)
  rintro ⟨d157, v159⟩ w156 ⟨fr158, o160⟩
  obtain ⟨g161, ch162, G161⟩ := lY g154 fr158 (fun n => if n = 1 then 12 else 0)
  replace o160 := o160.gl G161 12
  refine mv (vt [v159, vi ((turnsR g p).2)]) (lx (aW rfl rfl) (lx (aW rfl rfl) (ma v159 (ai ((turnsR g p).2) (aa (a7 ?_))))))
  clear bx10
  refine a6 rfl ?_
  replace bx5 := bx5.cn ch162
  refine lx (ab (ds := [vi g.1, g_v]) ct zs2 bx5 rfl rfl) ?_
  replace bx23 := (bx23.cn ch155).cn ch162
  refine lx (ab (ds := [qA_v, qL_v]) ch zs5 bx23 rfl rfl) ?_
  replace Rg := Rg.cn ch162
  replace o_qA := (o_qA.cn ch155).cn ch162
  replace o_qL := (o_qL.cn ch155).cn ch162
  refine lo (cw (av (vals := [vg [vi g.1, g_v], vg [qA_v, qL_v]]) Try.func10 jV jy rfl) (iJ w156 g g_v (Rg).ro (qA, qL) qA_v qL_v (o_qA.flat).ro (o_qL.sl).ro (by exact hfew)) ?_)
  rintro ⟨d164, v166⟩ w163 ⟨fr165, o167⟩
  obtain ⟨g168, ch169, G168⟩ := lY g161 fr165 (fun n => if n = 1 then 13 else 0)
  replace o167 := o167.gl G168 13
  refine mv (vt [v166, vi ((turnsR g (qA, qL)).2)]) (lx (aW rfl rfl) (lx (aW rfl rfl) (ma v166 (ai ((turnsR g (qA, qL)).2) (aa (a7 (a7 ?_)))))))
  clear bx5 bx23 o_qA o_qL
  refine a6 rfl (mi ((aO g p).2) (mi ((aO g (qA, qL)).2) (lx (dz (m := (aO g p).2) (n := (aO g (qA, qL)).2) rfl rfl) (mv (Value.bool (!(decide (((aO g p).2) = ((aO g (qA, qL)).2))))) ?_))))
  have q143 : ((aO g p).2) = ((aO g (qA, qL)).2) := by (rw [hCe]; done)
  refine lv (vi ((turnsR g p).2)) (wy (congrArg Bool.not (dt q143))) (aH rfl) (lv (vi ((turnsR g (qA, qL)).2)) (wy (congrArg Bool.not (dt q143))) (aH rfl) (lv (Value.bool (!(decide (((turnsR g p).2) = ((turnsR g (qA, qL)).2))))) (wy (congrArg Bool.not (dt q143))) (dz (m := (turnsR g p).2) (n := (turnsR g (qA, qL)).2) rfl rfl) (lw (Value.bool (!(decide (((turnsR g p).2) = ((turnsR g (qA, qL)).2))))) (aC rfl (congrArg Bool.not (dt q143)) rfl) (mv (Value.bool (!(decide (((turnsR g p).2) = ((turnsR g (qA, qL)).2))))) ?_))))
  have q148 : ((turnsR g p).2) = ((turnsR g (qA, qL)).2) := by (rw [hTe]; done)
  refine lv (v145) (wy (congrArg Bool.not (dt q148))) (aH rfl) (lv (v152) (wy (congrArg Bool.not (dt q148))) (aH rfl) ?_)
  have C170 := cg [] (ch155.n.seq (ch162.n.seq ch169.n))
  replace o146 := o146.ca C170
  replace o153 := (o153.cn ch162).cn ch169
  refine bQ (wy (congrArg Bool.not (dt q148))) (aD (v := Value.bool (decide (((aO g p).1) = ((aO g (qA, qL)).1)))) (av (vals := [v145, v152]) Try.func23 rD q9 rfl) (nL w163 ((aO g p).1) v145 (o146.flat).ro ((aO g (qA, qL)).1) v152 (o153.flat).ro) ?_)
  intro w171 hb172
  replace hb172 := ak hb172 g168
  refine lv (Value.bool (!(decide (((aO g p).1) = ((aO g (qA, qL)).1))))) (wy (congrArg Bool.not (dt q148))) (cY (b := (decide (((aO g p).1) = ((aO g (qA, qL)).1)))) rfl) (lw (Value.bool (!(decide (((aO g p).1) = ((aO g (qA, qL)).1))))) (aC rfl (congrArg Bool.not (dt q148)) rfl) (mv (Value.bool (!(decide (((aO g p).1) = ((aO g (qA, qL)).1))))) ?_))
  have q154 : (decide (((aO g p).1) = ((aO g (qA, qL)).1))) = true := by (rw [hCe]; exact dt rfl)
  refine lv (v159) (wy (congrArg Bool.not q154)) (aH rfl) ?_
  replace o160 := (o160.cn ch169).cn hb172
  have len173 := (o160.sl).small
  refine lv (vi (List.length ((turnsR g p).1) : Int)) (wy (congrArg Bool.not q154)) (b6 Try.underlying32 rfl o160.sl) (lv (v166) (wy (congrArg Bool.not q154)) (aH rfl) ?_)
  replace o167 := o167.cn hb172
  have len174 := (o167.sl).small
  refine lv (vi (List.length ((turnsR g (qA, qL)).1) : Int)) (wy (congrArg Bool.not q154)) (b6 Try.underlying32 rfl o167.sl) (lv (Value.bool (!(decide ((List.length ((turnsR g p).1) : Int) = (List.length ((turnsR g (qA, qL)).1) : Int))))) (wy (congrArg Bool.not q154)) (dz (m := (List.length ((turnsR g p).1) : Int)) (n := (List.length ((turnsR g (qA, qL)).1) : Int)) rfl rfl) (lw (Value.bool (!(decide ((List.length ((turnsR g p).1) : Int) = (List.length ((turnsR g (qA, qL)).1) : Int))))) (aC rfl (congrArg Bool.not q154) rfl) (aa ?_)))
  have p27 : (List.length ((turnsR g p).1) : Int) = (List.length ((turnsR g (qA, qL)).1) : Int) := by (rw [hTe]; done)
  refine aj rfl (congrArg Bool.not (dt p27)) (am (a7 (a7 ?_)))
  clear o146 o153
  refine a6 rfl (ai 0 (aa (au ?_)))
  refine aZ (σ := Nat × aM) (fun ⟨a, gq⟩ f w => b9 w0 gq w ∧ f 14 = v159 ∧ f 16 = v166 ∧ f 18 = vi (a : Int) ∧ Sl gq (is 0) w g_v g.2 ∧ Sl gq (is 0) w p_v p.1 ∧ Sl gq (is 0) w p_v1 p.2 ∧ dG gq 12 w v159 ((turnsR g p).1) ∧ dG gq 13 w v166 ((turnsR g (qA, qL)).1) ∧ (a : Int) ≤ ((List.length ((turnsR g p).1) : Int) : Int) ∧ True) (fun ⟨a, gq⟩ => Int.toNat (((List.length ((turnsR g p).1) : Int) : Int) - (a : Int))) (0, g168) ?_ ?_
  have C176 := cg [] (ch162.n.seq (ch169.n.seq hb172.n))
  have C175 := ch148.n.seq (ch155.n.seq C176)
  · exact ⟨bH.ca C175, rfl, rfl, rfl, (Rg.cn ch169).cn hb172, Rp.ca C176, r_p_v1.ca C176, o160, o167, by omega, trivial⟩
  clear Rg Rp r_p_v1 o160 o167 bH
  rintro ⟨a, g179⟩ f177 w178 ⟨bH, zs14, zs16, zs18, Rg, Rp, r_p_v1, o160, o167, hle_a, hinv30⟩ back30
  refine a7 (a7 (a6 rfl (mz zs18 (mz zs14 (lx (b6 Try.underlying32 rfl o160.sl) (lx (b5 (m := (a : Int)) (n := (List.length ((turnsR g p).1) : Int)) rfl rfl) (aa ?_)))))))
  by_cases p30 : (a : Int) < (List.length ((turnsR g p).1) : Int)
  ·
   refine ah rfl (dt p30) ?_
   have hsl : List.length (turnsR g (qA, qL)).1 = List.length (turnsR g p).1 := by rw [hTe]
   refine am (a7 (au (a7 (a6 rfl (ai 0 (aa (au ?_)))))))
   refine aZ (σ := Nat × aM) (fun ⟨c, gq⟩ f w => b9 w0 gq w ∧ f 14 = v159 ∧ f 16 = v166 ∧ f 18 = vi (a : Int) ∧ f 19 = vi (c : Int) ∧ Sl gq (is 0) w g_v g.2 ∧ Sl gq (is 0) w p_v p.1 ∧ Sl gq (is 0) w p_v1 p.2 ∧ dG gq 12 w v159 ((turnsR g p).1) ∧ dG gq 13 w v166 ((turnsR g (qA, qL)).1) ∧ (c : Int) ≤ ((List.length (gI ((turnsR g p).1) (a : Int)) : Int) : Int) ∧ True) (fun ⟨c, gq⟩ => Int.toNat (((List.length (gI ((turnsR g p).1) (a : Int)) : Int) : Int) - (c : Int))) (0, g179) ?_ ?_
   · exact ⟨bH, zs14, zs16, zs18, rfl, Rg, Rp, r_p_v1, o160, o167, by omega, trivial⟩
   clear Rg Rp r_p_v1 o160 o167 bH
   rintro ⟨c, g182⟩ f180 w181 ⟨bH, zs14, zs16, zs18, zs19, Rg, Rp, r_p_v1, o160, o167, hle_c, hinv33⟩ back33
   refine a7 (a7 (a6 rfl (mz zs19 (mz zs14 (mz zs18 (lx (ao (v := v159) (i := (a : Int)) Try.underlying32 rfl rfl o160.sl rfl (by omega) (by omega)) ?_))))))
   obtain ⟨v183, cel184, r185⟩ := fS (r := (a : Int)) o160 (by omega) (by omega)
   refine lx (bR dx rfl cel184) ?_
   have len186 := (r185.row_sl).small
   refine lx (b6 Try.underlying39 rfl r185.row_sl) (lx (b5 (m := (c : Int)) (n := (List.length (gI ((turnsR g p).1) (a : Int)) : Int)) rfl rfl) (aa ?_))
   by_cases p33 : (c : Int) < (List.length (gI ((turnsR g p).1) (a : Int)) : Int)
   ·
    refine ah rfl (dt p33) ?_
    have hsr : List.length (gI (turnsR g (qA, qL)).1 (a : Int)) = List.length (gI (turnsR g p).1 (a : Int)) := by rw [hTe]
    refine am (a7 (au (a7 ?_)))
    clear cel184 r185
    refine cj g182 rfl iC (by kernel_rfl) ?_
    intro w188 ch187
    refine qz zs14 (qz zs18 ?_)
    replace o160 := o160.cn ch187
    refine qx (fun w' hw' => ao (v := v159) (i := (a : Int)) Try.underlying32 rfl rfl (o160.sl.bel hw') rfl (by omega) (by omega)) ?_
    obtain ⟨v189, cel190, r191⟩ := fS (r := (a : Int)) o160 (by omega) (by omega)
    refine qx (fun w' hw' => bR dx rfl (ij cel190 hw')) (qz zs19 (qx (fun w' hw' => ao (v := v189) (i := (c : Int)) Try.underlying39 rfl rfl (r191.row_sl.bel hw') rfl (by omega) (by omega)) (qx (fun w' hw' => c6 (v := v189) (i := (c : Int)) ar rfl (r191.row_sl.bel hw') (by omega) (by omega) (by decide) rfl) (qz zs16 (qz zs18 ?_)))))
    replace o167 := o167.cn ch187
    refine qx (fun w' hw' => ao (v := v166) (i := (a : Int)) Try.underlying32 rfl rfl (o167.sl.bel hw') rfl (by omega) (by omega)) ?_
    obtain ⟨v192, cel193, r194⟩ := fS (r := (a : Int)) o167 (by omega) (by omega)
    refine qx (fun w' hw' => bR dx rfl (ij cel193 hw')) (qz zs19 (qx (fun w' hw' => ao (v := v192) (i := (c : Int)) Try.underlying39 rfl rfl (r194.row_sl.bel hw') rfl (by omega) (by omega)) (qx (fun w' hw' => c6 (v := v192) (i := (c : Int)) ar rfl (r194.row_sl.bel hw') (by omega) (by omega) (by decide) rfl) (qx (fun w' hw' => dz (m := (gI (gI ((turnsR g p).1) (a : Int)) (c : Int))) (n := (gI (gI ((turnsR g (qA, qL)).1) (a : Int)) (c : Int))) rfl rfl) (dc ?_)))))
    intro w195 hc196
    replace hc196 := ak hc196 g182
    have p35 : (gI (gI ((turnsR g p).1) (a : Int)) (c : Int)) = (gI (gI ((turnsR g (qA, qL)).1) (a : Int)) (c : Int)) := by (rw [hTe]; done)
    refine aj rfl (congrArg Bool.not (dt p35)) (am (aq ?_))
    clear cel190 r191 cel193 r194
    refine a6 rfl (mz zs19 (lx (aV (m := (c : Int)) (n := 1) rfl rfl (by omega)) (ai ((c : Int) + 1) (aa ?_))))
    replace bH := bH.cn ch187
    refine back33 (c + 1, g182) _ _ ⟨bH.cn hc196, zs14, zs16, zs18, rfl, (Rg.cn ch187).cn hc196, (Rp.cn ch187).cn hc196, (r_p_v1.cn ch187).cn hc196, o160.cn hc196, o167.cn hc196, by omega, ?_⟩ ?_
    · trivial
    · show Int.toNat (((List.length (gI ((turnsR g p).1) (a : Int)) : Int) : Int) - ((c + 1) : Int)) < Int.toNat (((List.length (gI ((turnsR g p).1) (a : Int)) : Int) : Int) - (c : Int))
      omega
   refine aj rfl (df p33) (aS rfl (aq ?_))
   clear cel184 r185
   refine a6 rfl (mz zs18 (lx (aV (m := (a : Int)) (n := 1) rfl rfl (by omega)) (ai ((a : Int) + 1) (aa ?_))))
   refine back30 (a + 1, g182) _ _ ⟨bH, zs14, zs16, rfl, Rg, Rp, r_p_v1, o160, o167, by omega, ?_⟩ ?_
   · trivial
   · show Int.toNat (((List.length ((turnsR g p).1) : Int) : Int) - ((a + 1) : Int)) < Int.toNat (((List.length ((turnsR g p).1) : Int) : Int) - (a : Int))
     omega
  refine aj rfl (df p30) (aS rfl (a7 ?_))
  clear o160 o167
  refine a6 rfl (ma (Value.bool true) (aa (al (vs := [Value.bool true]) Try.func6 (.tmp rfl .nil) ?_)))
  have e0 : (true : Bool) = (true) := by
    rfl
  exact ⟨(congrArg (a₁ := true) (fun (z0 : Bool) => Ending.returned (Value.bool z0)) e0), bH.below⟩
 refine ah rfl (congrArg Bool.not (Bool.eq_false_iff.2 p3)) (a7 ?_)
 clear bx5 bx10
 refine a6 rfl (ma (Value.bool true) (aa (al (vs := [Value.bool true]) Try.func6 (.tmp rfl .nil) ?_)))
 have e0 : (true : Bool) = (true) := by
   rfl
 have C197 := cg [] (ch2.n.seq (ch7.n.seq (hb12.n.seq hb15.n)))
 replace bH := bH.ca C197
 exact ⟨(congrArg (a₁ := true) (fun (z0 : Bool) => Ending.returned (Value.bool z0)) e0), bH.below⟩
end TL
