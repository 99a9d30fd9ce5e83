import Derived.Test.YtbadiajeohbpcaaGTlP2
import Derived.Test.YtbadiajeohbpcaaGTlGenA
import Derived.Test.YtbadiajeohbpcaaGTlGenC
import Derived.Test.YtbadiajeohbpcaaGTlGenX
import Derived.Test.YtbadiajeohbpcaaGTlGenY
import Derived.Test.YtbadiajeohbpcaaProg
set_option linter.all false
set_option maxRecDepth 20000
namespace TL
open Go Go.Proofs
theorem me (w0 : World) (g : (Int) × (List ((Int) × (Int)))) (g_v : Value) (hg_v : Ro w0 g_v g.2) :
    Calls Try.prog 26 #[vg [vi g.1, g_v]] w0 (fun ee w => ∃ xx : aP × Value, ee = .returned ((fun ⟨δ, rv0⟩ => vt [rv0, vi ((bK g).2)]) xx) ∧ (fun (⟨δ, rv0⟩ : aP × Value) (w : World) => fB w0 δ w ∧ dJ δ 1 w rv0 ((bK g).1)) xx w) := by
 refine aC Try.func26 rfl (Nat.le_of_ble_eq_true rfl) ?_
 have bH := bf.start w0
 have Rg := hg_v.sl
 refine a7 (a6 rfl (bY rfl (bA c0 (is 1) (1, 0) rfl rfl ?_)))
 intro g4 w1 b3 ch2 bx5
 replace bx5 : Bx g4 (is 1) w1 b3 [vi g.1, g_v] := bx5
 refine ma vn (ai 0 (aa (a7 (a7 (a6 rfl (lx (ad (ds := [vi g.1, g_v]) cj rfl bx5 rfl rfl) ?_))))))
 replace Rg := Rg.cn ch2
 refine lo (aF (v := Value.bool (el g)) (aw (vals := [vg [vi g.1, g_v]]) Try.func32 jo jx rfl) (jG w1 g g_v (Rg).ro) ?_)
 intro w6 hb7
 replace hb7 := ak hb7 g4
 refine lx (di (b := (el g)) rfl) (aa ?_)
 by_cases p1 : (el g) = true
 ·
  have hm := of_decide_eq_true p1
  have hm0 := hm
  obtain ⟨hm1, hm2, hm3, hm4⟩ := hm0
  refine aj rfl (congrArg Bool.not p1) (am (a7 (a6 rfl (lx (a8 Try.underlying24 rfl rfl rfl rfl) ?_))))
  replace bx5 := bx5.cn hb7
  refine lx (af aq rfl bx5 rfl) (lo (iM (α := Int) (n := g.1) (cp := g.1) g4 2 Try.underlying32 dS rfl rfl rfl (by omega) (by omega) (by omega) (by omega) ?_))
  intro g8 w9 v10 ch11 o12
  refine ma v10 (aa (a7 (a7 (a6 rfl (lx (a8 Try.underlying24 rfl rfl rfl rfl) ?_)))))
  replace bx5 := bx5.cn ch11
  refine lx (af cE rfl bx5 rfl) ?_
  replace Rg := (Rg.cn hb7).cn ch11
  have len13 := (Rg).small
  refine lx (bh Try.underlying22 rfl Rg) (mi 0 (aa (av ?_)))
  clear bx5
  refine ba (σ := Nat × dQ × aP) (fun ⟨e, O, gq⟩ f w => bf w0 gq w ∧ f 4 = v10 ∧ f 16 = g_v ∧ f 17 = vi (g.2.length : Int) ∧ f 18 = vi (e : Int) ∧ Sl gq (is 0) w g_v g.2 ∧ dJ gq 2 w v10 O ∧ (e : Int) ≤ ((g.2.length : Int) : Int) ∧ (dq O g e)) (fun ⟨e, O, gq⟩ => Int.toNat (((g.2.length : Int) : Int) - (e : Int))) (0, (List.replicate (Int.toNat g.1) []), g8) ?_ ?_
  have C14 := cg [] (ch2.n.seq (hb7.n.seq ch11.n))
  · exact ⟨bH.ca C14, rfl, rfl, rfl, rfl, Rg, o12, by omega, by exact dq.start hm1⟩
  clear Rg o12 bH
  rintro ⟨e, O, g17⟩ f15 w16 ⟨bH, zs4, zs16, zs17, zs18, Rg, o12, hle_e, hov⟩ back5
  have hol := hov.len
  refine a7 (a6 rfl (lx (b9 (m := (e : Int)) (n := (g.2.length : Int)) zs18 zs17) (aa (a7 ?_))))
  by_cases p5 : (e : Int) < (g.2.length : Int)
  ·
   refine ah rfl (dt p5) ?_
   obtain ⟨⟨he1, he2⟩, he3, he4⟩ := hm4 _ (bq (xs := g.2) (i := (e : Int)) (by omega) (by omega))
   have hq1 := hov.rl he1 he2
   have hq2 := hov.rl2 he1 he2 he3 he4 (2 * (e : Int))
   refine am (a7 (av (a7 (a6 rfl (mz zs18 (lx (ar (v := g_v) (i := (e : Int)) Try.underlying22 rfl zs16 Rg zs18 (by omega) (by omega)) (lw (vg [vi ((gI g.2 (e : Int)).1), vi ((gI g.2 (e : Int)).2)]) (aN (v := g_v) (i := (e : Int)) cF rfl Rg (by omega) (by omega) rfl) (lo (aQ g17 (is 3) (3, 0) rfl cF ?_)))))))))
   intro g21 w18 b20 ch19 bx22
   replace bx22 : Bx g21 (is 3) w18 b20 [vi 0, vi 0] := bx22
   refine ai (e : Int) (lo (ag (cs' := [vi ((gI g.2 (e : Int)).1), vi ((gI g.2 (e : Int)).2)]) cF rfl rfl bx22 rfl (Nat.le_of_ble_eq_true rfl) (AllOne.all (.cons rfl (.cons rfl .nil))) rfl ?_))
   intro w23 ch24 bx25
   clear bx22
   refine aa (a7 (a6 rfl (lx (ad (ds := [vi ((gI g.2 (e : Int)).1), vi ((gI g.2 (e : Int)).2)]) cF rfl bx25 rfl rfl) (mi 0 (aa (av (fI (a7 ?_))))))))
   clear bx25
   refine a6 rfl (lx (b9 (m := 0) (n := 2) rfl rfl) (aa (a7 (ah rfl rfl (am (a7 (av (a7 (a6 rfl (mi 0 (lw (vi ((gI g.2 (e : Int)).1)) (de Try.underlying59 aq rfl rfl (by decide) (by decide) rfl) ?_)))))))))))
   refine ai 0 (ai ((gI g.2 (e : Int)).1) (aa (a6 rfl (mz zs4 (mi ((gI g.2 (e : Int)).1) (mz zs4 (mi ((gI g.2 (e : Int)).1) ?_)))))))
   replace o12 := (o12.cn ch19).ce ch24
   refine lx (ar (v := v10) (i := (gI g.2 (e : Int)).1) Try.underlying32 rfl rfl o12.sl rfl (by omega) (by omega)) ?_
   obtain ⟨v26, cel27, r28⟩ := jr (r := (gI g.2 (e : Int)).1) o12 (by omega) (by omega)
   refine lx (cv dS rfl cel27) (mi (e : Int) (lx (cP (m := 2) (n := (e : Int)) rfl rfl (by omega)) (mi 0 (lx (aT (m := 2 * (e : Int)) (n := 0) rfl rfl (by omega)) (lo (aJ (α := Int) g21 (is 4) (is 4) (4, 0) rfl [(2 * (e : Int)) + 0] Try.underlying39 aq (by decide) (by decide) (vs := [(0, vi ((2 * (e : Int)) + 0))]) rfl rfl (.cons rfl .nil) ?_))))))
   intro g29 w30 v31 ch32 o33
   refine lo ?_
   replace o12 := o12.cn ch32
   replace r28 := r28.cn ch32
   refine bg (α := Int) (xs := (gI O ((gI g.2 (e : Int)).1))) (ys := ([(2 * (e : Int)) + 0])) g29 (J := row 2 (Int.toNat ((gI g.2 (e : Int)).1) + 1)) (S := row 2 (Int.toNat ((gI g.2 (e : Int)).1) + 1)) (2, Int.toNat ((gI g.2 (e : Int)).1) + 1) rfl Try.underlying39 aq (by decide) rfl rfl rfl r28 o33.flat (by decide) (by (simp; omega)) ?_
   intro g34 w35 v36 ch37 o38
   have o39 := o12.rowchg ch37
   clear o12 cel27 r28
   obtain ⟨us40, hl41, r42⟩ := o39.vc
   try simp only [List.length_set, List.length_append, List.length_cons, List.length_nil] at hl41
   refine lx (ar (v := v10) (i := (gI g.2 (e : Int)).1) Try.underlying32 rfl rfl r42 rfl (by omega) (by omega)) (lo (i5 (r := (gI g.2 (e : Int)).1) dS rfl rfl o39 o38 (by omega) (by omega) ?_))
   intro w46 ch47 o48
   clear o39 o38
   refine aa (ao ?_)
   clear o33
   refine a6 rfl (lx (aT (m := 0) (n := 1) rfl rfl (by omega)) (mi 1 (aa (ct (a7 (a6 rfl (lx (b9 (m := 1) (n := 2) rfl rfl) (aa (a7 (ah rfl rfl (am ?_)))))))))))
   refine a7 (av (a7 (a6 rfl (mi 1 (lw (vi ((gI g.2 (e : Int)).2)) (de Try.underlying59 aq rfl rfl (by decide) (by decide) rfl) (ai 1 (ai ((gI g.2 (e : Int)).2) (aa (a6 rfl (mz zs4 (mi ((gI g.2 (e : Int)).2) ?_)))))))))))
   refine mz zs4 (mi ((gI g.2 (e : Int)).2) (lx (ar (v := v10) (i := (gI g.2 (e : Int)).2) Try.underlying32 rfl rfl o48.sl rfl (by omega) (by (simp only [List.length_set, List.length_append, List.length_cons, List.length_nil, List.length_replicate, List.length_map, List.length_take, List.length_drop]; omega))) ?_))
   obtain ⟨v49, cel50, r51⟩ := jr (r := (gI g.2 (e : Int)).2) o48 (by omega) (by (simp only [List.length_set, List.length_append, List.length_cons, List.length_nil, List.length_replicate, List.length_map, List.length_take, List.length_drop]; omega))
   refine lx (cv dS rfl cel50) (mi (e : Int) (lx (cP (m := 2) (n := (e : Int)) rfl rfl (by omega)) (mi 1 (lx (aT (m := 2 * (e : Int)) (n := 1) rfl rfl (by omega)) (lo (aJ (α := Int) g34 (is 4) (is 4) (4, 0) rfl [(2 * (e : Int)) + 1] Try.underlying39 aq (by decide) (by decide) (vs := [(0, vi ((2 * (e : Int)) + 1))]) rfl rfl (.cons rfl .nil) ?_))))))
   intro g52 w53 v54 ch55 o56
   refine lo ?_
   replace o48 := o48.cn ch55
   replace r51 := r51.cn ch55
   refine bg (α := Int) (xs := (gI (List.set O (Int.toNat ((gI g.2 (e : Int)).1)) (gI O ((gI g.2 (e : Int)).1) ++ [(2 * (e : Int)) + 0])) ((gI g.2 (e : Int)).2))) (ys := ([(2 * (e : Int)) + 1])) g52 (J := row 2 (Int.toNat ((gI g.2 (e : Int)).2) + 1)) (S := row 2 (Int.toNat ((gI g.2 (e : Int)).2) + 1)) (2, Int.toNat ((gI g.2 (e : Int)).2) + 1) rfl Try.underlying39 aq (by decide) rfl rfl rfl r51 o56.flat (by decide) (by (simp; omega)) ?_
   intro g57 w58 v59 ch60 o61
   have o62 := o48.rowchg ch60
   clear o48 cel50 r51
   obtain ⟨us63, hl64, r65⟩ := o62.vc
   try simp only [List.length_set, List.length_append, List.length_cons, List.length_nil] at hl64
   refine lx (ar (v := v10) (i := (gI g.2 (e : Int)).2) Try.underlying32 rfl rfl r65 rfl (by omega) (by omega)) (lo (i5 (r := (gI g.2 (e : Int)).2) dS rfl rfl o62 o61 (by omega) (by (simp only [List.length_set, List.length_append, List.length_cons, List.length_nil, List.length_replicate, List.length_map, List.length_take, List.length_drop]; omega)) ?_))
   intro w69 ch70 o71
   clear o62 o61
   refine aa (ao ?_)
   clear o56
   refine a6 rfl (lx (aT (m := 1) (n := 1) rfl rfl (by omega)) (mi 2 (aa (ct (a7 (a6 rfl (lx (b9 (m := 2) (n := 2) rfl rfl) (aa (a7 (aj rfl rfl (aU rfl ?_)))))))))))
   refine ao (a6 rfl (lx (aT (m := (e : Int)) (n := 1) zs18 rfl (by omega)) (mi ((e : Int) + 1) (aa ?_))))
   have C72 := cg [2, 3] (ch19.n.seq ((ch24.l rfl).seq (ch32.n.seq ((ch37.lr rfl).seq ((ch47.l rfl).seq (ch55.n.seq ((ch60.lr rfl).seq (ch70.l rfl))))))))
   refine back5 (e + 1, (List.set (List.set O (Int.toNat ((gI g.2 (e : Int)).1)) (gI O ((gI g.2 (e : Int)).1) ++ [(2 * (e : Int)) + 0])) (Int.toNat ((gI g.2 (e : Int)).2)) (gI (List.set O (Int.toNat ((gI g.2 (e : Int)).1)) (gI O ((gI g.2 (e : Int)).1) ++ [(2 * (e : Int)) + 0])) ((gI g.2 (e : Int)).2) ++ [(2 * (e : Int)) + 1])), g57) _ _ ⟨bH.ca C72, zs4, zs16, zs17, rfl, Rg.ca C72, o71, by omega, ?_⟩ ?_
   · show dq (List.set (List.set O (Int.toNat ((gI g.2 (e : Int)).1)) (gI O ((gI g.2 (e : Int)).1) ++ [(2 * (e : Int)) + 0])) (Int.toNat ((gI g.2 (e : Int)).2)) (gI (List.set O (Int.toNat ((gI g.2 (e : Int)).1)) (gI O ((gI g.2 (e : Int)).1) ++ [(2 * (e : Int)) + 0])) ((gI g.2 (e : Int)).2) ++ [(2 * (e : Int)) + 1])) g (e + 1)
     exact hov.next he1 he2 he3 he4 (by omega) (by omega)
   · show Int.toNat (((g.2.length : Int) : Int) - ((e + 1) : Int)) < Int.toNat (((g.2.length : Int) : Int) - (e : Int))
     omega
  refine aj rfl (df p5) (aU rfl (a7 (a6 rfl (mz zs4 (ma v10 (ai 0 (aa (al (vs := [v10, vi 0]) Try.func26 (.tmp rfl (.tmp rfl .nil)) ?_))))))))
  have e0 : (O : dQ) = ((bK g).1) := by
    (simp only [bK, if_pos hm]; exact hov.first (by omega))
  have e1 : (0 : Int) = ((bK g).2) := by
    simp only [bK, if_pos hm]
  exact ⟨(fin w0 g17 (fun n => if n = 2 then 1 else 0), v10), (bW (a := O) (b := 0) (fun (z0 : dQ) (z1 : Int) => Ending.returned (vt [v10, vi z1])) e0 e1), bH.fresh _, (e0 ▸ (o12.glue (γ := c0) (ren := (fun n => if n = 2 then 1 else 0)) (k := 1) bH.col rfl rfl))⟩
 refine ah rfl (congrArg Bool.not (Bool.eq_false_iff.2 p1)) (a7 ?_)
 clear bx5
 refine a6 rfl (ma vn (ai 1 (aa (al (vs := [vn, vi 1]) Try.func26 (.tmp rfl (.tmp rfl .nil)) ?_))))
 replace bH := bH.cn ch2
 replace bH := bH.cn hb7
 have e0 : ([] : dQ) = ((bK g).1) := by
   (have hn : ¬ ci g := fun h => p1 (dt h)
    simp only [bK, if_neg hn]; done)
 have e1 : (1 : Int) = ((bK g).2) := by
   (have hn : ¬ ci g := fun h => p1 (dt h)
    simp only [bK, if_neg hn]; done)
 exact ⟨(fin w0 g4 (fun n => 0), vn), (bW (a := []) (b := 1) (fun (z0 : dQ) (z1 : Int) => Ending.returned (vt [vn, vi z1])) e0 e1), bH.fresh _, (e0 ▸ dJ.nil)⟩
end TL
