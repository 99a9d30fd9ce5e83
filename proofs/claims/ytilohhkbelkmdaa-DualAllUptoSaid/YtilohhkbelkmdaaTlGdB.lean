import Derived.Test.YtilohhkbelkmdaaTlP3
import Derived.Test.YtilohhkbelkmdaaTlGdA
import Derived.Test.YtilohhkbelkmdaaTlGenO
import Derived.Test.YtilohhkbelkmdaaTlGenF
import Derived.Test.YtilohhkbelkmdaaProg
set_option linter.all false
set_option maxRecDepth 20000
namespace TL
open Go Go.Proofs
theorem u3 : Try.f61.body.isNone = false := rfl
theorem uf : (Try.f61.name == "runtime.NumGoroutine") = false := by decide +kernel
theorem tm : Try.f69.body.isNone = false := rfl
theorem tJ : (Try.f69.name == "runtime.NumGoroutine") = false := by decide +kernel
theorem uE : Try.f70.body.isNone = false := rfl
theorem sM : (Try.f70.name == "runtime.NumGoroutine") = false := by decide +kernel
theorem tV (w0 : World) (g : (Int) × (List ((Int) × (Int)))) (g_v : Value) (hg_v : Ro w0 g_v g.2) (r : bj) (r_v : Value) (hr_v : Ro w0 r_v r) (e : Int) :
    Calls Try.prog 32 #[vg [vi g.1, g_v], r_v, vi e] w0 (fun ee w => ∃ xx : aE × Value × Value, ee = .returned ((fun ⟨δ, rv0, rv1⟩ => vt [vg [vi (((aX g r e).1).1), rv0], rv1, vi ((aX g r e).2.2)]) xx) ∧ (fun (⟨δ, rv0, rv1⟩ : aE × Value × Value) (w : World) => cC w0 δ w ∧ Ow δ (is 1) (is 1) w rv0 (((aX g r e).1).2) ∧ cj δ 2 w rv1 ((aX g r e).2.1)) xx w) := by
 refine az Try.func32 rfl (Nat.le_of_ble_eq_true rfl) ?_
 have bH := b9.start w0
 have Rg := hg_v.sl
 have Rr := hr_v.sl
 refine a9 (a8 rfl (cr rfl (bR c0 (is 1) (1, 0) rfl rfl ?_)))
 intro g4 w1 b3 ch2 bx5
 replace bx5 : Bx g4 (is 1) w1 b3 [vi g.1, g_v] := bx5
 refine lo (bw g4 (is 2) (2, 0) rfl ak ?_)
 intro g9 w6 b8 ch7 bx10
 replace bx10 : Bx g9 (is 2) w6 b8 [vi 0, vn] := bx10
 refine ma vn (ai 0 (aa (a9 (a9 (a8 rfl ?_)))))
 replace bx5 := bx5.cn ch7
 refine lx (aq (ds := [vi g.1, g_v]) ak rfl bx5 rfl rfl) (mv r_v ?_)
 replace Rg := (Rg.cn ch2).cn ch7
 replace Rr := (Rr.cn ch2).cn ch7
 refine lo (bO (v := vi (aK g r)) (aD (vals := [vg [vi g.1, g_v], r_v]) Try.func15 jP jV rfl) (iq w6 g g_v (Rg).ro r r_v (Rr).ro) ?_)
 intro w11 hb12
 replace hb12 := aG hb12 g9
 refine ai (aK g r) (aa (a9 (a8 rfl (mi (aK g r) (lx (cl (m := aK g r) (n := 0) rfl rfl) (aa ?_))))))
 by_cases p2 : (aK g r) = 0
 ·
  obtain ⟨hm, hrp⟩ := dD ‹_›
  have hm0 := hm
  obtain ⟨hm1, hm2, hm3, hm4⟩ := hm0
  refine ag rfl (congrArg Bool.not (dt p2)) (aj (a9 (a9 (a8 rfl (mi e (lx (bc (m := e) (n := 0) rfl rfl) (mv (Value.bool (decide (e < 0))) ?_)))))))
  by_cases q21 : e < 0
  ·
   refine al (wn (dt q21)) (al (wn (dt q21)) (al (wn (dt q21)) (al (wn (dt q21)) (al (wn (dt q21)) (lw (Value.bool true) (aY rfl (dt q21) rfl) (aa (ae rfl rfl (a9 ?_))))))))
   clear bx5
   refine a8 rfl (lw (vg [vi 0, vn]) (bn (vs := []) rfl (by kernel_rfl)) (lo ?_))
   replace bx10 := bx10.cn hb12
   refine aC (cs' := [vi 0, vn]) ak rfl rfl bx10 rfl (Nat.le_of_ble_eq_true rfl) (AllOne.all (.cons rfl (.cons rfl .nil))) rfl ?_
   intro w13 ch14 bx15
   clear bx10
   refine ma vn (ai 2 (aa (av (vs := [vg [vi 0, vn], vn, vi 2]) Try.func32 (.cell rfl (bk (ds := [vi 0, vn]) ak bx15 rfl rfl) (.tmp rfl (.tmp rfl .nil))) ?_)))
   have C16 := cg [2] (ch2.n.seq (ch7.n.seq (hb12.n.seq (ch14.l rfl))))
   replace bH := bH.ca C16
   have e0 : ((0, []) : (Int) × (List ((Int) × (Int)))) = ((aX g r e).1) := by
     (have hb : e < 0 ∨ (g.2.length : Int) ≤ e := by omega
      simp only [aX, if_pos (show aK g r = 0 by assumption), if_pos hb]; done)
   have e1 : ([] : bj) = ((aX g r e).2.1) := by
     (have hb : e < 0 ∨ (g.2.length : Int) ≤ e := by omega
      simp only [aX, if_pos (show aK g r = 0 by assumption), if_pos hb]; done)
   have e2 : (2 : Int) = ((aX g r e).2.2) := by
     (have hb : e < 0 ∨ (g.2.length : Int) ≤ e := by omega
      simp only [aX, if_pos (show aK g r = 0 by assumption), if_pos hb]; done)
   exact ⟨(fin w0 g9 (fun n => 0), vn, vn), (cq (a := (0, [])) (b := []) (c := 2) (fun (z0 : (Int) × (List ((Int) × (Int)))) (z1 : bj) (z2 : Int) => Ending.returned (vt [vg [vi z0.1, vn], vn, vi z2])) e0 e1 e2), bH.fresh _, ((congrArg (fun (z : (Int) × (List ((Int) × (Int)))) => z.2) e0) ▸ Ow.nil), (e1 ▸ cj.nil)⟩
  refine lv (vi e) (wy (df q21)) (au rfl) (lv (vp b3 1) (wy (df q21)) (ad Try.underlying24 rfl rfl rfl rfl) ?_)
  replace bx5 := bx5.cn hb12
  refine lv (g_v) (wy (df q21)) (af bo rfl bx5 rfl) ?_
  replace Rg := Rg.cn hb12
  have len17 := (Rg).small
  refine lv (vi (g.2.length : Int)) (wy (df q21)) (aO Try.underlying22 rfl Rg) (lv (Value.bool (decide ((g.2.length : Int) ≤ e))) (wy (df q21)) (dy (m := e) (n := (g.2.length : Int)) rfl rfl) (lw (Value.bool (decide ((g.2.length : Int) ≤ e))) (b7 rfl (df q21) rfl) (aa ?_)))
  by_cases p4 : (g.2.length : Int) ≤ e
  ·
   refine ae rfl (dt p4) (a9 ?_)
   clear bx5
   refine a8 rfl (lw (vg [vi 0, vn]) (bn (vs := []) rfl (by kernel_rfl)) (lo ?_))
   replace bx10 := bx10.cn hb12
   refine aC (cs' := [vi 0, vn]) ak rfl rfl bx10 rfl (Nat.le_of_ble_eq_true rfl) (AllOne.all (.cons rfl (.cons rfl .nil))) rfl ?_
   intro w18 ch19 bx20
   clear bx10
   refine ma vn (ai 2 (aa (av (vs := [vg [vi 0, vn], vn, vi 2]) Try.func32 (.cell rfl (bk (ds := [vi 0, vn]) ak bx20 rfl rfl) (.tmp rfl (.tmp rfl .nil))) ?_)))
   have C21 := cg [2] (ch2.n.seq (ch7.n.seq (hb12.n.seq (ch19.l rfl))))
   replace bH := bH.ca C21
   have e0 : ((0, []) : (Int) × (List ((Int) × (Int)))) = ((aX g r e).1) := by
     (have hb : e < 0 ∨ (g.2.length : Int) ≤ e := by omega
      simp only [aX, if_pos (show aK g r = 0 by assumption), if_pos hb]; done)
   have e1 : ([] : bj) = ((aX g r e).2.1) := by
     (have hb : e < 0 ∨ (g.2.length : Int) ≤ e := by omega
      simp only [aX, if_pos (show aK g r = 0 by assumption), if_pos hb]; done)
   have e2 : (2 : Int) = ((aX g r e).2.2) := by
     (have hb : e < 0 ∨ (g.2.length : Int) ≤ e := by omega
      simp only [aX, if_pos (show aK g r = 0 by assumption), if_pos hb]; done)
   exact ⟨(fin w0 g9 (fun n => 0), vn, vn), (cq (a := (0, [])) (b := []) (c := 2) (fun (z0 : (Int) × (List ((Int) × (Int)))) (z1 : bj) (z2 : Int) => Ending.returned (vt [vg [vi z0.1, vn], vn, vi z2])) e0 e1 e2), bH.fresh _, ((congrArg (fun (z : (Int) × (List ((Int) × (Int)))) => z.2) e0) ▸ Ow.nil), (e1 ▸ cj.nil)⟩
  refine ag rfl (df p4) (aj (a9 (a8 rfl (ma vn (aa (a9 (a9 (a8 rfl (lx (ad Try.underlying24 rfl rfl rfl rfl) (lx (af bo rfl bx5 rfl) (lx (aO Try.underlying22 rfl Rg) (mi 0 (aa ?_)))))))))))))
  refine ah ?_
  refine aN (σ := Nat × Value × (List Int) × aE) (fun ⟨k, keep_v, keep, gq⟩ f w => b9 w0 gq w ∧ f 1 = r_v ∧ f 2 = vi e ∧ f 3 = vp b3 0 ∧ f 6 = vp b8 0 ∧ f 10 = keep_v ∧ f 31 = vi (g.2.length : Int) ∧ f 32 = vi (k : Int) ∧ Sl gq (is 0) w g_v g.2 ∧ Sl gq (is 0) w r_v r ∧ Bx gq (is 1) w b3 [vi g.1, g_v] ∧ Bx gq (is 2) w b8 [vi 0, vn] ∧ Ow gq (is 4) (is 4) w keep_v keep ∧ (k : Int) ≤ ((g.2.length : Int) : Int) ∧ (keep = iI e k)) (fun ⟨k, keep_v, keep, gq⟩ => Int.toNat (((g.2.length : Int) : Int) - (k : Int))) (0, vn, [], g9) ?_ ?_
  have C22 := cg [] (ch2.n.seq (ch7.n.seq hb12.n))
  · exact ⟨bH.ca C22, rfl, rfl, rfl, rfl, rfl, rfl, rfl, Rg, Rr.cn hb12, bx5, bx10.cn hb12, Ow.nil, by omega, by rfl⟩
  clear Rg Rr bx5 bx10 bH
  rintro ⟨k, keep_v, keep, g25⟩ f23 w24 ⟨bH, zs1, zs2, zs3, zs6, zs10, zs31, zs32, Rg, Rr, bx5, bx10, o_keep, hle_k, hinv⟩ back8
  have hkl := nL e k
  have hke : keep.length ≤ k := by rw [hinv]; exact hkl
  refine a9 (a8 rfl (lx (bc (m := (k : Int)) (n := (g.2.length : Int)) zs32 zs31) (aa (a9 ?_))))
  by_cases p8 : (k : Int) < (g.2.length : Int)
  ·
   refine ae rfl (dt p8) (aj (a9 (ah (a9 (a8 rfl (mz zs32 (ai (k : Int) (aa (a9 (a8 rfl (mi (k : Int) (mz zs2 ?_))))))))))))
   refine lx (cl (m := (k : Int)) (n := e) rfl rfl) (aa ?_)
   by_cases p10 : (k : Int) = e
   ·
    refine ag rfl (congrArg Bool.not (dt p10)) (aj (ao (a8 rfl (lx (aQ (m := (k : Int)) (n := 1) zs32 rfl (by omega)) (mi ((k : Int) + 1) (aa ?_))))))
    refine back8 (k + 1, keep_v, keep, g25) _ _ ⟨bH, zs1, zs2, zs3, zs6, zs10, zs31, rfl, Rg, Rr, bx5, bx10, o_keep, by omega, ?_⟩ ?_
    · show keep = iI e (k + 1)
      rw [pV ‹_›, hinv]
    · show Int.toNat (((g.2.length : Int) : Int) - ((k + 1) : Int)) < Int.toNat (((g.2.length : Int) : Int) - (k : Int))
      omega
   refine ae rfl (congrArg Bool.not (df p10)) (a8 rfl (mz zs10 (mi (k : Int) (lo (aA (α := Int) g25 (is 3) (is 3) (3, 0) rfl [(k : Int)] Try.underlying27 am (by decide) (by decide) (vs := [(0, vi (k : Int))]) rfl rfl (.cons rfl .nil) ?_)))))
   intro g26 w27 v28 ch29 o30
   refine lo ?_
   replace o_keep := o_keep.cn ch29
   refine aR (α := Int) (xs := keep) (ys := ([(k : Int)])) g26 (J := is 4) (S := is 4) (4, 0) rfl Try.underlying27 am (by decide) rfl rfl rfl o_keep o30.flat (by decide) (by (simp; omega)) ?_
   intro g31 w32 v33 ch34 o35
   clear o_keep
   refine ma v33 (aa (ao ?_))
   clear o30
   refine a8 rfl (lx (aQ (m := (k : Int)) (n := 1) zs32 rfl (by omega)) (mi ((k : Int) + 1) (aa ?_)))
   replace bH := bH.cn ch29
   refine back8 (k + 1, v33, (keep ++ [(k : Int)]), g31) _ _ ⟨bH.ce ch34, zs1, zs2, zs3, zs6, rfl, zs31, rfl, (Rg.cn ch29).ce ch34, (Rr.cn ch29).ce ch34, (bx5.cn ch29).ce ch34, (bx10.cn ch29).ce ch34, o35, by omega, ?_⟩ ?_
   · show (keep ++ [(k : Int)]) = iI e (k + 1)
     rw [nA ‹_›, hinv]
   · show Int.toNat (((g.2.length : Int) : Int) - ((k + 1) : Int)) < Int.toNat (((g.2.length : Int) : Int) - (k : Int))
     omega
  refine ag rfl (df p8) (aI rfl (a9 (a8 rfl (lx (aq (ds := [vi g.1, g_v]) ak zs3 bx5 rfl rfl) (mz zs1 (mz zs10 (lo (aV (aD (vals := [vg [vi g.1, g_v], r_v, keep_v]) Try.func61 u3 uf rfl) (tM w24 g g_v (Rg).ro r r_v (Rr).ro keep keep_v (o_keep.flat).ro) ?_))))))))
  rintro ⟨d37, v39, v41⟩ w36 ⟨fr38, o40, o42⟩
  obtain ⟨g43, ch44, G43⟩ := dw g25 fr38 (fun n => if n = 1 then 5 else if n = 2 then 6 else 0)
  replace o40 := o40.gl G43 5
  replace o42 := o42.gl G43 6
  refine lx (aH rfl rfl) (lx (aH rfl rfl) (lx (aH rfl rfl) (lo ?_)))
  replace bx10 := bx10.cn ch44
  refine aC (cs' := [vi (((bS g r keep).1).1), v39]) ak zs6 rfl bx10 rfl (Nat.le_of_ble_eq_true rfl) (AllOne.all (.cons rfl (.cons (bm o40.flat) .nil))) rfl ?_
  intro w45 ch46 bx47
  clear bx10
  refine ma v41 (ai ((bS g r keep).2.2) (aa (av (vs := [vg [vi (((bS g r keep).1).1), v39], v41, vi ((bS g r keep).2.2)]) Try.func32 (.cell zs6 (bk (ds := [vi (((bS g r keep).1).1), v39]) ak bx47 rfl rfl) (.tmp rfl (.tmp rfl .nil))) ?_)))
  replace bH := bH.cn ch44
  replace bH := bH.ce ch46
  replace o40 := o40.ce ch46
  replace o42 := o42.ce ch46
  have e0 : (((bS g r keep).1) : (Int) × (List ((Int) × (Int)))) = ((aX g r e).1) := by
    (have hb : ¬ (e < 0 ∨ (g.2.length : Int) ≤ e) := by omega
     have hk : k = g.2.length := by omega
     subst hk
     simp only [aX, if_pos (show aK g r = 0 by assumption), if_neg hb, hinv]; done)
  have e1 : ((bS g r keep).2.1 : bj) = ((aX g r e).2.1) := by
    (have hb : ¬ (e < 0 ∨ (g.2.length : Int) ≤ e) := by omega
     have hk : k = g.2.length := by omega
     subst hk
     simp only [aX, if_pos (show aK g r = 0 by assumption), if_neg hb, hinv]; done)
  have e2 : ((bS g r keep).2.2 : Int) = ((aX g r e).2.2) := by
    (have hb : ¬ (e < 0 ∨ (g.2.length : Int) ≤ e) := by omega
     have hk : k = g.2.length := by omega
     subst hk
     simp only [aX, if_pos (show aK g r = 0 by assumption), if_neg hb, hinv]; done)
  exact ⟨(fin w0 g43 (fun n => if n = 5 then 1 else if n = 6 then 2 else 0), v39, v41), (cq (a := ((bS g r keep).1)) (b := (bS g r keep).2.1) (c := (bS g r keep).2.2) (fun (z0 : (Int) × (List ((Int) × (Int)))) (z1 : bj) (z2 : Int) => Ending.returned (vt [vg [vi z0.1, v39], v41, vi z2])) e0 e1 e2), bH.fresh _, ((congrArg (fun (z : (Int) × (List ((Int) × (Int)))) => z.2) e0) ▸ (o40.glue (γ := c0) (ren := (fun n => if n = 5 then 1 else if n = 6 then 2 else 0)) (k := 1) bH.col rfl rfl)), (e1 ▸ (o42.glue (γ := c0) (ren := (fun n => if n = 5 then 1 else if n = 6 then 2 else 0)) (k := 2) bH.col rfl rfl))⟩
 refine ae rfl (congrArg Bool.not (df p2)) (a9 ?_)
 clear bx5
 refine a8 rfl (lw (vg [vi 0, vn]) (bn (vs := []) rfl (by kernel_rfl)) (mi (aK g r) (lo ?_)))
 replace bx10 := bx10.cn hb12
 refine aC (cs' := [vi 0, vn]) ak rfl rfl bx10 rfl (Nat.le_of_ble_eq_true rfl) (AllOne.all (.cons rfl (.cons rfl .nil))) rfl ?_
 intro w48 ch49 bx50
 clear bx10
 refine ma vn (ai (aK g r) (aa (av (vs := [vg [vi 0, vn], vn, vi (aK g r)]) Try.func32 (.cell rfl (bk (ds := [vi 0, vn]) ak bx50 rfl rfl) (.tmp rfl (.tmp rfl .nil))) ?_)))
 have C51 := cg [2] (ch2.n.seq (ch7.n.seq (hb12.n.seq (ch49.l rfl))))
 replace bH := bH.ca C51
 have e0 : ((0, []) : (Int) × (List ((Int) × (Int)))) = ((aX g r e).1) := by
   simp only [aX, if_neg (show ¬ aK g r = 0 by assumption)]
 have e1 : ([] : bj) = ((aX g r e).2.1) := by
   simp only [aX, if_neg (show ¬ aK g r = 0 by assumption)]
 have e2 : (aK g r : Int) = ((aX g r e).2.2) := by
   simp only [aX, if_neg (show ¬ aK g r = 0 by assumption)]
 exact ⟨(fin w0 g9 (fun n => 0), vn, vn), (cq (a := (0, [])) (b := []) (c := aK g r) (fun (z0 : (Int) × (List ((Int) × (Int)))) (z1 : bj) (z2 : Int) => Ending.returned (vt [vg [vi z0.1, vn], vn, vi z2])) e0 e1 e2), bH.fresh _, ((congrArg (fun (z : (Int) × (List ((Int) × (Int)))) => z.2) e0) ▸ Ow.nil), (e1 ▸ cj.nil)⟩
theorem qD (w0 : World) (g : (Int) × (List ((Int) × (Int)))) (g_v : Value) (hg_v : Ro w0 g_v g.2) (r : bj) (r_v : Value) (hr_v : Ro w0 r_v r) (e : Int) :
    Calls Try.prog 28 #[vg [vi g.1, g_v], r_v, vi e] w0 (fun ee w => ∃ xx : aE × Value × Value, ee = .returned ((fun ⟨δ, rv0, rv1⟩ => vt [vg [vi (((aF g r e).1).1), rv0], rv1, vi ((aF g r e).2.2)]) xx) ∧ (fun (⟨δ, rv0, rv1⟩ : aE × Value × Value) (w : World) => cC w0 δ w ∧ Ow δ (is 1) (is 1) w rv0 (((aF g r e).1).2) ∧ cj δ 2 w rv1 ((aF g r e).2.1)) xx w) := by
 refine az Try.func28 rfl (Nat.le_of_ble_eq_true rfl) ?_
 have bH := b9.start w0
 have Rg := hg_v.sl
 have Rr := hr_v.sl
 refine a9 (a8 rfl (cr rfl (bR c0 (is 1) (1, 0) rfl rfl ?_)))
 intro g4 w1 b3 ch2 bx5
 replace bx5 : Bx g4 (is 1) w1 b3 [vi g.1, g_v] := bx5
 refine lo (bw g4 (is 2) (2, 0) rfl ak ?_)
 intro g9 w6 b8 ch7 bx10
 replace bx10 : Bx g9 (is 2) w6 b8 [vi 0, vn] := bx10
 refine ma vn (ai 0 (aa (a9 (a9 (a8 rfl ?_)))))
 replace bx5 := bx5.cn ch7
 refine lx (aq (ds := [vi g.1, g_v]) ak rfl bx5 rfl rfl) (mv r_v ?_)
 replace Rg := (Rg.cn ch2).cn ch7
 replace Rr := (Rr.cn ch2).cn ch7
 refine lo (bO (v := vi (aK g r)) (aD (vals := [vg [vi g.1, g_v], r_v]) Try.func15 jP jV rfl) (iq w6 g g_v (Rg).ro r r_v (Rr).ro) ?_)
 intro w11 hb12
 replace hb12 := aG hb12 g9
 refine ai (aK g r) (aa (a9 (a8 rfl (mi (aK g r) (lx (cl (m := aK g r) (n := 0) rfl rfl) (aa ?_))))))
 by_cases p2 : (aK g r) = 0
 ·
  obtain ⟨hm, hrp⟩ := dD ‹_›
  have hm0 := hm
  obtain ⟨hm1, hm2, hm3, hm4⟩ := hm0
  have hrl := hrp.1
  refine ag rfl (congrArg Bool.not (dt p2)) (aj (a9 (a8 rfl ?_)))
  replace bx5 := bx5.cn hb12
  refine lx (aq (ds := [vi g.1, g_v]) ak rfl bx5 rfl rfl) (mi e ?_)
  replace Rg := Rg.cn hb12
  refine lo (aV (aD (vals := [vg [vi g.1, g_v], vi e]) Try.func69 tm tJ rfl) (re w11 g g_v (Rg).ro e) ?_)
  rintro ⟨d14, v16⟩ w13 ⟨fr15, o17⟩
  obtain ⟨g18, ch19, G18⟩ := dw g9 fr15 (fun n => if n = 1 then 3 else 0)
  replace o17 := o17.gl G18 3
  refine mv (vt [vg [vi (((aM g e).1).1), v16], vi ((aM g e).2)]) (lx (aH rfl rfl) (lx (aH rfl rfl) (lo (bw g18 (is 4) (4, 0) rfl ak ?_))))
  intro g23 w20 b22 ch21 bx24
  replace bx24 : Bx g23 (is 4) w20 b22 [vi 0, vn] := bx24
  refine lo ?_
  replace o17 := o17.cn ch21
  refine aC (cs' := [vi (((aM g e).1).1), v16]) ak rfl rfl bx24 rfl (Nat.le_of_ble_eq_true rfl) (AllOne.all (.cons rfl (.cons (bm o17.flat) .nil))) rfl ?_
  intro w25 ch26 bx27
  clear bx24
  refine ai ((aM g e).2) (aa (a9 (a9 (a8 rfl (mi ((aM g e).2) (lx (cl (m := (aM g e).2) (n := 0) rfl rfl) (aa ?_)))))))
  by_cases p5 : ((aM g e).2) = 0
  ·
   obtain ⟨_, hse, _⟩ := eW p5
   obtain ⟨⟨hb1, hb2⟩, hb3, hb4, hb5⟩ := kd hm hrp hse
   obtain ⟨hse1, hse2⟩ := hse
   refine ag rfl (congrArg Bool.not (dt p5)) (aj (a9 (a8 rfl (lx (ad Try.underlying24 rfl rfl rfl rfl) ?_))))
   have C28 := cg [4] (ch19.n.seq (ch21.n.seq (ch26.l rfl)))
   replace bx5 := bx5.ca C28
   refine lx (af bo rfl bx5 rfl) ?_
   replace Rg := Rg.ca C28
   have len29 := (Rg).small
   refine lx (aO Try.underlying22 rfl Rg) (lx (du (m := 2) (n := (g.2.length : Int)) rfl rfl (by omega)) (ai (2 * (g.2.length : Int)) (aa (a9 (a8 rfl (mv r_v ?_))))))
   have C30 := cg [4] (hb12.n.seq (ch19.n.seq (ch21.n.seq (ch26.l rfl))))
   replace Rr := Rr.ca C30
   refine lo (aV (aD (vals := [r_v]) Try.func70 uE sM rfl) (lu w25 r r_v (Rr).ro (by omega) (by exact nT hm hrp)) ?_)
   rintro ⟨d32, v34⟩ w31 ⟨fr33, o35⟩
   obtain ⟨g36, ch37, G36⟩ := dw g23 fr33 (fun n => if n = 1 then 5 else 0)
   replace o35 := o35.gl G36 5
   refine ma v34 (aa (a9 (a8 rfl (mv v34 (lx (ad Try.underlying24 rfl rfl rfl rfl) ?_)))))
   replace bx5 := bx5.cn ch37
   refine lx (af bo rfl bx5 rfl) (mi e ?_)
   replace Rg := Rg.cn ch37
   refine lx (ab (v := g_v) (i := e) Try.underlying22 rfl rfl Rg rfl (by omega) (by omega)) (lx (bV Try.underlying60 rfl rfl rfl (by decide) (by decide) rfl) (lx (cF (v := g_v) (i := e) am rfl Rg (by omega) (by omega) (by decide) rfl) (lx (ab (v := v34) (i := (gI g.2 e).2) Try.underlying26 rfl rfl o35.sl rfl (by omega) (by omega)) ?_)))
   obtain ⟨v38, cel39, r40⟩ := bY (r := (gI g.2 e).2) o35 (by omega) (by omega)
   refine lx (aS aL rfl cel39) (ma v38 (aa (a9 ?_)))
   clear bx5
   refine a8 rfl (mv v38 (mv v38 (mi e (lx (du (m := 2) (n := e) rfl rfl (by omega)) (lx (aQ (m := 2 * e) (n := 1) rfl rfl (by omega)) (lo (bO (v := vi (bf (gI r ((gI g.2 e).2)) ((2 * e) + 1))) (aD (vals := [v38, vi ((2 * e) + 1)]) Try.func71 j2 iX rfl) (fN w31 (gI r ((gI g.2 e).2)) v38 (r40.row_sl).ro ((2 * e) + 1)) ?_)))))))
   intro w41 hb42
   replace hb42 := aG hb42 g36
   refine mi (2 * (g.2.length : Int)) (lx (aQ (m := 2 * (g.2.length : Int)) (n := 1) rfl rfl (by omega)) ?_)
   replace r40 := r40.cn hb42
   refine lx (ab (v := v38) (i := bf (gI r ((gI g.2 e).2)) ((2 * e) + 1)) Try.underlying27 rfl rfl r40.row_sl rfl (by omega) (by omega)) (lo ?_)
   replace o35 := o35.cn hb42
   replace cel39 := t5 cel39 hb42
   refine bP (i := bf (gI r ((gI g.2 e).2)) ((2 * e) + 1)) ((2 * (g.2.length : Int)) + 1) am rfl rfl r40 (by omega) (by omega) rfl ?_
   intro w46 ch47 r48
   obtain ⟨o49, cel50⟩ := sf (r := (gI g.2 e).2) o35 (by omega) (by omega) ch47 cel39 r48
   clear o35 cel39 r40
   refine aa (a9 ?_)
   clear cel50 r48
   refine a8 rfl (mv v34 (mi e (lx (du (m := 2) (n := e) rfl rfl (by omega)) (lx (aQ (m := 2 * e) (n := 1) rfl rfl (by omega)) (mi (2 * (g.2.length : Int)) (lo (aA (α := Int) g36 (is 6) (is 6) (6, 0) rfl ([(2 * e) + 1, 2 * (g.2.length : Int)] : List Int) Try.underlying27 am (by decide) (by decide) (vs := [(0, vi ((2 * e) + 1)), (1, vi (2 * (g.2.length : Int)))]) rfl rfl (.cons rfl (.cons rfl .nil)) ?_)))))))
   intro g51 w52 v53 ch54 o55
   refine lo ?_
   obtain ⟨c56, hv57⟩ := gx (u := v53) (bm o55.flat)
   refine aA (α := Vc) g51 (is 7) (is 7) (7, 0) rfl [c56] Try.underlying26 aL (by decide) (by decide) (vs := [(0, v53)]) rfl rfl (.cons (em hv57 (c6 o55.flat)) .nil) ?_
   intro g58 w59 v60 ch61 o62
   refine lo ?_
   replace o49 := (o49.cn ch54).cn ch61
   replace o55 := o55.cn ch61
   refine fy hv57 (α := Int) (xss := (List.set r (Int.toNat ((gI g.2 e).2)) (List.set (gI r ((gI g.2 e).2)) (Int.toNat (bf (gI r ((gI g.2 e).2)) ((2 * e) + 1))) ((2 * (g.2.length : Int)) + 1)))) (i := 5) (γ := g58) Try.underlying26 aL rfl rfl rfl o49 (o62.flat) o55 rfl (by decide) (by (simp; omega)) ?_
   intro g63 w64 v65 ch66 o67 r68
   clear o49 o55
   refine ma v65 (aa (a9 ?_))
   clear o62 r68
   refine a8 rfl ?_
   have C69 := cg [5, 6] (ch37.n.seq (hb42.n.seq ((ch47.lr rfl).seq (ch54.n.seq (ch61.n.seq (ch66.lx rfl rfl))))))
   replace bx27 := bx27.ca C69
   refine lx (aq (ds := [vi (((aM g e).1).1), v16]) ak rfl bx27 rfl rfl) (mv v65 ?_)
   have C70 := cg [4, 5, 6] ((ch26.l rfl).seq (ch37.n.seq (hb42.n.seq ((ch47.lr rfl).seq (ch54.n.seq (ch61.n.seq (ch66.lx rfl rfl)))))))
   replace o17 := o17.ca C70
   refine lo (aV (aD (vals := [vg [vi (((aM g e).1).1), v16], v65]) Try.func55 kN kt rfl) (iw w64 ((aM g e).1) v16 (o17.flat).ro ((List.set r (Int.toNat ((gI g.2 e).2)) (List.set (gI r ((gI g.2 e).2)) (Int.toNat (bf (gI r ((gI g.2 e).2)) ((2 * e) + 1))) ((2 * (g.2.length : Int)) + 1))) ++ [([(2 * e) + 1, 2 * (g.2.length : Int)] : List Int)]) v65 (o67.sl).ro) ?_)
   rintro ⟨d72, v74⟩ w71 ⟨fr73, o75⟩
   obtain ⟨g76, ch77, G76⟩ := dw g63 fr73 (fun n => if n = 1 then 8 else 0)
   replace o75 := o75.gl G76 8
   refine mv (vt [v74, vi ((cH ((aM g e).1) ((List.set r (Int.toNat ((gI g.2 e).2)) (List.set (gI r ((gI g.2 e).2)) (Int.toNat (bf (gI r ((gI g.2 e).2)) ((2 * e) + 1))) ((2 * (g.2.length : Int)) + 1))) ++ [([(2 * e) + 1, 2 * (g.2.length : Int)] : List Int)])).2)]) (lx (aH rfl rfl) (lx (aH rfl rfl) (ma v74 (aa (a9 ?_)))))
   clear o67
   refine a8 rfl ?_
   replace bx27 := bx27.cn ch77
   refine lx (aq (ds := [vi (((aM g e).1).1), v16]) ak rfl bx27 rfl rfl) (mv v74 (lo ?_))
   have C81 := cg [4, 5, 6] (hb12.n.seq (ch19.n.seq (ch21.n.seq ((ch26.l rfl).seq (ch37.n.seq (hb42.n.seq ((ch47.lr rfl).seq (ch54.n.seq (ch61.n.seq ((ch66.lx rfl rfl).seq ch77.n))))))))))
   replace bx10 := bx10.ca C81
   replace o17 := o17.cn ch77
   refine aC (cs' := [vi (((aM g e).1).1), v16]) ak rfl rfl bx10 rfl (Nat.le_of_ble_eq_true rfl) (AllOne.all (.cons rfl (.cons (bm o17.flat) .nil))) rfl ?_
   intro w78 ch79 bx80
   clear bx10
   refine ma v74 (ai 0 (aa (av (vs := [vg [vi (((aM g e).1).1), v16], v74, vi 0]) Try.func28 (.cell rfl (bk (ds := [vi (((aM g e).1).1), v16]) ak bx80 rfl rfl) (.tmp rfl (.tmp rfl .nil))) ?_)))
   have C82 := cg [2, 4, 5, 6] (ch2.n.seq (ch7.n.seq (hb12.n.seq (ch19.n.seq (ch21.n.seq ((ch26.l rfl).seq (ch37.n.seq (hb42.n.seq ((ch47.lr rfl).seq (ch54.n.seq (ch61.n.seq ((ch66.lx rfl rfl).seq (ch77.n.seq (ch79.l rfl))))))))))))))
   replace bH := bH.ca C82
   replace o17 := o17.ce ch79
   replace o75 := o75.ce ch79
   have e0 : (((aM g e).1) : (Int) × (List ((Int) × (Int)))) = ((aF g r e).1) := by
     simp only [aF, if_pos (show aK g r = 0 by assumption), if_pos (show (aM g e).2 = 0 by assumption), eO]
   have e1 : ((cH ((aM g e).1) ((List.set r (Int.toNat ((gI g.2 e).2)) (List.set (gI r ((gI g.2 e).2)) (Int.toNat (bf (gI r ((gI g.2 e).2)) ((2 * e) + 1))) ((2 * (g.2.length : Int)) + 1))) ++ [([(2 * e) + 1, 2 * (g.2.length : Int)] : List Int)])).1 : bj) = ((aF g r e).2.1) := by
     simp only [aF, if_pos (show aK g r = 0 by assumption), if_pos (show (aM g e).2 = 0 by assumption), eO]
   have e2 : (0 : Int) = ((aF g r e).2.2) := by
     simp only [aF, if_pos (show aK g r = 0 by assumption), if_pos (show (aM g e).2 = 0 by assumption), eO]
   exact ⟨(fin w0 g76 (fun n => if n = 3 then 1 else if n = 8 then 2 else 0), v16, v74), (cq (a := ((aM g e).1)) (b := (cH ((aM g e).1) ((List.set r (Int.toNat ((gI g.2 e).2)) (List.set (gI r ((gI g.2 e).2)) (Int.toNat (bf (gI r ((gI g.2 e).2)) ((2 * e) + 1))) ((2 * (g.2.length : Int)) + 1))) ++ [([(2 * e) + 1, 2 * (g.2.length : Int)] : List Int)])).1) (c := 0) (fun (z0 : (Int) × (List ((Int) × (Int)))) (z1 : bj) (z2 : Int) => Ending.returned (vt [vg [vi z0.1, v16], v74, vi z2])) e0 e1 e2), bH.fresh _, ((congrArg (fun (z : (Int) × (List ((Int) × (Int)))) => z.2) e0) ▸ (o17.glue (γ := c0) (ren := (fun n => if n = 3 then 1 else if n = 8 then 2 else 0)) (k := 1) bH.col rfl rfl)), (e1 ▸ (o75.glue (γ := c0) (ren := (fun n => if n = 3 then 1 else if n = 8 then 2 else 0)) (k := 2) bH.col rfl rfl))⟩
  refine ae rfl (congrArg Bool.not (df p5)) (a9 ?_)
  clear bx5 o17 bx27
  refine a8 rfl (lw (vg [vi 0, vn]) (bn (vs := []) rfl (by kernel_rfl)) (mi ((aM g e).2) (lo ?_)))
  have C86 := cg [4] (hb12.n.seq (ch19.n.seq (ch21.n.seq (ch26.l rfl))))
  replace bx10 := bx10.ca C86
  refine aC (cs' := [vi 0, vn]) ak rfl rfl bx10 rfl (Nat.le_of_ble_eq_true rfl) (AllOne.all (.cons rfl (.cons rfl .nil))) rfl ?_
  intro w83 ch84 bx85
  clear bx10
  refine ma vn (ai ((aM g e).2) (aa (av (vs := [vg [vi 0, vn], vn, vi ((aM g e).2)]) Try.func28 (.cell rfl (bk (ds := [vi 0, vn]) ak bx85 rfl rfl) (.tmp rfl (.tmp rfl .nil))) ?_)))
  have C87 := cg [2, 4] (ch2.n.seq (ch7.n.seq (hb12.n.seq (ch19.n.seq (ch21.n.seq ((ch26.l rfl).seq (ch84.l rfl)))))))
  replace bH := bH.ca C87
  have e0 : ((0, []) : (Int) × (List ((Int) × (Int)))) = ((aF g r e).1) := by
    simp only [aF, if_pos (show aK g r = 0 by assumption), if_neg (show ¬ (aM g e).2 = 0 by assumption)]
  have e1 : ([] : bj) = ((aF g r e).2.1) := by
    simp only [aF, if_pos (show aK g r = 0 by assumption), if_neg (show ¬ (aM g e).2 = 0 by assumption)]
  have e2 : ((aM g e).2 : Int) = ((aF g r e).2.2) := by
    simp only [aF, if_pos (show aK g r = 0 by assumption), if_neg (show ¬ (aM g e).2 = 0 by assumption)]
  exact ⟨(fin w0 g23 (fun n => 0), vn, vn), (cq (a := (0, [])) (b := []) (c := (aM g e).2) (fun (z0 : (Int) × (List ((Int) × (Int)))) (z1 : bj) (z2 : Int) => Ending.returned (vt [vg [vi z0.1, vn], vn, vi z2])) e0 e1 e2), bH.fresh _, ((congrArg (fun (z : (Int) × (List ((Int) × (Int)))) => z.2) e0) ▸ Ow.nil), (e1 ▸ cj.nil)⟩
 refine ae rfl (congrArg Bool.not (df p2)) (a9 ?_)
 clear bx5
 refine a8 rfl (lw (vg [vi 0, vn]) (bn (vs := []) rfl (by kernel_rfl)) (mi (aK g r) (lo ?_)))
 replace bx10 := bx10.cn hb12
 refine aC (cs' := [vi 0, vn]) ak rfl rfl bx10 rfl (Nat.le_of_ble_eq_true rfl) (AllOne.all (.cons rfl (.cons rfl .nil))) rfl ?_
 intro w88 ch89 bx90
 clear bx10
 refine ma vn (ai (aK g r) (aa (av (vs := [vg [vi 0, vn], vn, vi (aK g r)]) Try.func28 (.cell rfl (bk (ds := [vi 0, vn]) ak bx90 rfl rfl) (.tmp rfl (.tmp rfl .nil))) ?_)))
 have C91 := cg [2] (ch2.n.seq (ch7.n.seq (hb12.n.seq (ch89.l rfl))))
 replace bH := bH.ca C91
 have e0 : ((0, []) : (Int) × (List ((Int) × (Int)))) = ((aF g r e).1) := by
   simp only [aF, if_neg (show ¬ aK g r = 0 by assumption)]
 have e1 : ([] : bj) = ((aF g r e).2.1) := by
   simp only [aF, if_neg (show ¬ aK g r = 0 by assumption)]
 have e2 : (aK g r : Int) = ((aF g r e).2.2) := by
   simp only [aF, if_neg (show ¬ aK g r = 0 by assumption)]
 exact ⟨(fin w0 g9 (fun n => 0), vn, vn), (cq (a := (0, [])) (b := []) (c := aK g r) (fun (z0 : (Int) × (List ((Int) × (Int)))) (z1 : bj) (z2 : Int) => Ending.returned (vt [vg [vi z0.1, vn], vn, vi z2])) e0 e1 e2), bH.fresh _, ((congrArg (fun (z : (Int) × (List ((Int) × (Int)))) => z.2) e0) ▸ Ow.nil), (e1 ▸ cj.nil)⟩
end TL
